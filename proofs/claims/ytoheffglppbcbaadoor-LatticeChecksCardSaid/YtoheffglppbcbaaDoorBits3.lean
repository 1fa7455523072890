/- SETS OF SMALL NUMBERS: from a list. -/
import Derived.Test.YtoheffglppbcbaaDoorBits2
namespace Go.Proofs.YtoheffglppbcbaaDoor
section
set_option maxRecDepth 100000
theorem ty3 : Ty Tryd.prog 3 false 1 := ⟨⟨_, Tryd.underlying3, rfl⟩, by kernel_rfl⟩
end
/-- The set of the numbers of a list. -/
def maskOf (l : List Nat) : Nat := l.foldl (fun m i => m ||| 2 ^ i) 0
theorem maskOf_take_succ (l : List Nat) (j : Nat) (h : j < l.length) : maskOf (l.take (j + 1)) = maskOf (l.take j) ||| 2 ^ l[j] := by
  unfold maskOf
  rw [List.take_succ_eq_append_getElem h, List.foldl_append]
  rfl
theorem maskOf_lt (l : List Nat) (h : ∀ i ∈ l, i < 64) : maskOf l < 18446744073709551616 := by
  have key : ∀ (l : List Nat) (m : Nat), m < 18446744073709551616 → (∀ i ∈ l, i < 64) → l.foldl (fun m i => m ||| 2 ^ i) m < 18446744073709551616 := by
    intro l
    induction l with
    | nil => intro m hm _; exact hm
    | cons i l ih => intro m hm h; exact ih _ (or_bit_lt hm (h i (by simp))) fun j hj => h j (by simp [hj])
  exact key l 0 (by omega) h

theorem top_step {l : List Nat} {j : Nat} {top : Int} {hjl : j < l.length} (hall : ∀ q (h : q < l.length), q < j → (l[q] : Int) ≤ top) : ∀ q (h : q < l.length), q < j + 1 → (l[q] : Int) ≤ if (l[j] : Int) > top then (l[j] : Int) else top := by
  intro q hq hqj
  rcases Nat.lt_or_ge q j with h | h
  · have := hall q hq h
    split <;> omega
  · have e : q = j := by omega
    subst e
    split <;> omega
theorem of_spec {X : PMap} {v : Value} {l : List Nat} (h : SliceR X v l.length (ints l)) (hl : ∀ i ∈ l, i < 64) (hn : l.length < 4294967296) : Spec Tryd.prog 30 [v] X fun u X' => SetR X' u (maskOf l) := by
  rcases h with ⟨h0, _, A, c, rfl⟩ | ⟨h0, b, c, rfl, hB⟩
  · have : l = [] := List.eq_nil_of_length_eq_zero h0
    subst this
    refine Spec.enter Tryd.func30 rfl Tryd.ntmps30 rfl ?_
    intro w0 hw0
    refine T.seq ?_
    refine T.region ?_
    refine SL.x (op_alloc z47) rfl rfl ?_
    rintro _ _ _ ⟨B2, rfl, rfl, rfl⟩
    refine SL.nil ?_
    refine T.seq ?_
    refine T.region ?_
    refine SL.y (op_assign rfl) rfl rfl ?_
    refine SL.nil ?_
    refine T.seq ?_
    refine T.seq ?_
    refine T.region ?_
    refine SL.y (op_move rfl) rfl rfl ?_
    refine SL.y (op_lenS Tryd.underlying73 rfl) rfl rfl ?_
    refine SL.y (op_move (v := .int .i64 ((0 : Nat) : Int)) rfl) rfl rfl ?_
    refine SL.nil ?_
    refine T.block ?_
    -- loop live [0, 2, 3, 9, 10, 11]
    refine T.unrollStart 1 ?_
    refine T.unroll ?_
    refine T.seq ?_
    refine T.region ?_
    first | refine SL.y (op_lssT rfl rfl (by omega)) rfl rfl ?_ | refine SL.y (op_lssF rfl rfl (by omega)) rfl rfl ?_ | refine SL.y (op_lss rfl rfl) rfl rfl ?_
    refine SL.nil ?_
    refine T.seq ?_
    refine T.condF rfl ?_
    refine T.exit (T.exitCode (T.exitMore (T.exitBlk ?_)))
    refine T.seq ?_
    refine T.seq ?_
    refine T.region ?_
    refine SL.y (op_move rfl) rfl rfl ?_
    first | refine SL.y (op_lssT rfl rfl (by omega)) rfl rfl ?_ | refine SL.y (op_lssF rfl rfl (by omega)) rfl rfl ?_ | refine SL.y (op_lss rfl rfl) rfl rfl ?_
    refine SL.nil ?_
    refine T.condT rfl ?_
    refine T.seq ?_
    refine T.region ?_
    refine SL.y (op_build st47 (qs := []) rfl rfl) rfl rfl ?_
    refine SL.x (op_store ty47 rfl rfl (by repeat (first | exact AtO.here | apply AtO.there)) rfl rfl rfl) rfl rfl ?_
    rintro _ _ _ ⟨rfl, rfl⟩
    refine SL.nil ?_
    -- ret
    refine T.ret1 rfl (ResIs.cell rfl ty47 (by repeat (first | exact AtO.here | apply AtO.there)) rfl) ?_
    exact SetR.zero
  · refine Spec.enter Tryd.func30 rfl Tryd.ntmps30 rfl ?_
    intro w0 hw0
    refine T.seq ?_
    refine T.region ?_
    refine SL.x (op_alloc z47) rfl rfl ?_
    rintro _ _ _ ⟨B2, rfl, rfl, rfl⟩
    refine SL.nil ?_
    refine T.seq ?_
    refine T.region ?_
    refine SL.y (op_assign rfl) rfl rfl ?_
    refine SL.nil ?_
    refine T.seq ?_
    refine T.seq ?_
    refine T.region ?_
    refine SL.y (op_move rfl) rfl rfl ?_
    refine SL.y (op_lenS Tryd.underlying73 rfl) rfl rfl ?_
    refine SL.y (op_move (v := .int .i64 ((0 : Nat) : Int)) rfl) rfl rfl ?_
    refine SL.nil ?_
    refine T.block ?_
    -- loop live [0, 2, 3, 9, 10, 11]
    refine T.loopW (fun m env own X' => ∃ (j : Nat) (top : Int), m = l.length - j ∧ j ≤ l.length ∧ -1 ≤ top ∧ top < 64 ∧ (∀ q (h : q < l.length), q < j → (l[q] : Int) ≤ top) ∧ env = [(0, .slice (some ⟨b, 0, none⟩) l.length c), (2, .pointer (some ⟨B2, 0, none⟩)), (3, .int .i64 top), (9, .slice (some ⟨b, 0, none⟩) l.length c), (10, .int .i64 l.length), (11, .int .i64 (j : Int))] ∧ own = [⟨B2, [.slice none 0 0], 47, 1⟩] ∧ X = X') l.length ⟨0, -1, by simp, by omega, by omega, by omega, fun _ _ h => by omega, rfl, rfl, rfl⟩ (by repeat (first | exact Sub.nil | refine Sub.cons rfl ?_)) ?_
    rintro m _ _ _ ⟨j, top, rfl, hj, ht0, ht1, hall, rfl, rfl, rfl⟩
    rcases Nat.lt_or_ge j l.length with hjl | hjl
    · have h64 := hl l[j] (List.getElem_mem hjl)
      refine T.seq ?_
      refine T.region ?_
      first | refine SL.y (op_lssT rfl rfl (by omega)) rfl rfl ?_ | refine SL.y (op_lssF rfl rfl (by omega)) rfl rfl ?_ | refine SL.y (op_lss rfl rfl) rfl rfl ?_
      refine SL.nil ?_
      refine T.seq ?_
      refine T.condT rfl ?_
      refine T.skip ?_
      refine T.seq ?_
      refine T.block ?_
      refine T.seq ?_
      refine T.region ?_
      first | refine SL.y (op_indexN Tryd.underlying73 ty3 rfl rfl (by omega)) rfl rfl ?_ | refine SL.y (op_index Tryd.underlying73 ty3 rfl rfl (by omega) (by omega)) rfl rfl ?_
      -- to 14: op
      refine SL.y (op_loadX ty3 rfl hB (cread1 (ints_get l j hjl))) rfl rfl ?_
      refine SL.y (op_assign rfl) rfl rfl ?_
      refine SL.nil ?_
      refine T.seq ?_
      refine T.region ?_
      refine SL.y (op_move rfl) rfl rfl ?_
      first | refine SL.y (op_leqT rfl rfl (by omega)) rfl rfl ?_ | refine SL.y (op_leqF rfl rfl (by omega)) rfl rfl ?_ | refine SL.y (op_leq rfl rfl) rfl rfl ?_
      refine SL.nil ?_
      refine T.condT rfl ?_
      refine T.region ?_
      refine SL.y (op_move rfl) rfl rfl ?_
      refine SL.y (op_move rfl) rfl rfl ?_
      first | refine SL.y (op_maxL rfl rfl (by omega)) rfl rfl ?_ | refine SL.y (op_maxR rfl rfl (by omega)) rfl rfl ?_ | refine SL.y (op_maxN rfl rfl) rfl rfl ?_ | refine SL.y (op_max rfl rfl rfl) rfl rfl ?_
      refine SL.y (op_assign rfl) rfl rfl ?_
      refine SL.nil ?_
      refine T.blk ?_
      refine T.region ?_
      first | refine SL.y (op_addN (q := 1) rfl rfl (by omega)) rfl rfl ?_ | refine SL.y (op_add rfl rfl (by omega) (by omega)) rfl rfl ?_ | refine SL.y (op_addW rfl rfl) rfl rfl ?_
      refine SL.y (op_move rfl) rfl rfl ?_
      refine SL.nil ?_
      -- cut
      exact T.backW (l.length - (j + 1)) (by omega) ⟨j + 1, _, rfl, by omega, by split <;> omega, by split <;> omega, top_step hall, rfl, rfl, rfl⟩ (by repeat (first | exact Sub.nil | refine Sub.cons rfl ?_))
    · have ej : j = l.length := by omega
      subst ej
      have h0' := hall 0 h0 h0
      obtain ⟨tp, rfl⟩ := Int.eq_ofNat_of_zero_le (show 0 ≤ top by omega)
      refine T.seq ?_
      refine T.region ?_
      first | refine SL.y (op_lssT rfl rfl (by omega)) rfl rfl ?_ | refine SL.y (op_lssF rfl rfl (by omega)) rfl rfl ?_ | refine SL.y (op_lss rfl rfl) rfl rfl ?_
      refine SL.nil ?_
      refine T.seq ?_
      refine T.condF rfl ?_
      refine T.exit (T.exitCode (T.exitCut (T.exitBlk ?_)))
      refine T.seq ?_
      refine T.seq ?_
      refine T.region ?_
      refine SL.y (op_move rfl) rfl rfl ?_
      first | refine SL.y (op_lssT rfl rfl (by omega)) rfl rfl ?_ | refine SL.y (op_lssF rfl rfl (by omega)) rfl rfl ?_ | refine SL.y (op_lss rfl rfl) rfl rfl ?_
      refine SL.nil ?_
      refine T.condF rfl ?_
      refine T.skip ?_
      refine T.seq ?_
      refine T.region ?_
      refine SL.y (op_move rfl) rfl rfl ?_
      first | refine SL.y (op_quo0 (q := 64) rfl rfl rfl (by omega) (by omega)) rfl rfl ?_ | refine SL.y (op_quoN (q := 64) rfl rfl rfl (by omega) (by decide)) rfl rfl ?_ | refine SL.y (op_quo rfl rfl (by omega) (by omega) (by omega)) rfl rfl ?_
      first | refine SL.y (op_addN (q := 1) rfl rfl (by omega)) rfl rfl ?_ | refine SL.y (op_add rfl rfl (by omega) (by omega)) rfl rfl ?_ | refine SL.y (op_addW rfl rfl) rfl rfl ?_
      refine SL.x (op_make Tryd.underlying45 mk45 rfl rfl rfl (Nat.le_refl _) (by omega) (by omega)) rfl rfl ?_
      rintro _ _ _ ⟨B27, rfl, rfl, rfl⟩
      refine SL.y (op_assign rfl) rfl rfl ?_
      refine SL.nil ?_
      refine T.seq ?_
      refine T.seq ?_
      refine T.region ?_
      refine SL.y (op_move rfl) rfl rfl ?_
      refine SL.y (op_lenS Tryd.underlying73 rfl) rfl rfl ?_
      refine SL.y (op_move (v := .int .i64 ((0 : Nat) : Int)) rfl) rfl rfl ?_
      refine SL.nil ?_
      refine T.block ?_
      -- loop live [2, 3, 6, 28, 29, 30]
      refine T.loopW (fun m env own X' => ∃ (j : Nat), m = l.length - j ∧ j ≤ l.length ∧ env = [(0, .slice (some ⟨b, 0, none⟩) l.length c), (2, .pointer (some ⟨B2, 0, none⟩)), (3, .int .i64 (tp : Int)), (6, .slice (some ⟨B27, 0, none⟩) 1 1), (28, .slice (some ⟨b, 0, none⟩) l.length c), (29, .int .i64 l.length), (30, .int .i64 (j : Int))] ∧ own = [⟨B27, [.int .u64 (maskOf (l.take j) : Nat)], 64, 1⟩, ⟨B2, [.slice none 0 0], 47, 1⟩] ∧ X = X') l.length ⟨0, by simp, by omega, rfl, rfl, rfl⟩ (by repeat (first | exact Sub.nil | refine Sub.cons rfl ?_)) ?_
      rintro m _ _ _ ⟨j, rfl, hj, rfl, rfl, rfl⟩
      rcases Nat.lt_or_ge j l.length with hjl | hjl
      · have h64 := hl l[j] (List.getElem_mem hjl)
        have hq := hall j hjl hjl
        have hmk := maskOf_lt (l.take j) fun i hi => hl i (List.mem_of_mem_take hi)
        have hp : 2 ^ l[j] < 18446744073709551616 := Nat.pow_lt_pow_right (a := 2) (by omega) h64
        refine T.seq ?_
        refine T.region ?_
        first | refine SL.y (op_lssT rfl rfl (by omega)) rfl rfl ?_ | refine SL.y (op_lssF rfl rfl (by omega)) rfl rfl ?_ | refine SL.y (op_lss rfl rfl) rfl rfl ?_
        refine SL.nil ?_
        refine T.seq ?_
        refine T.condT rfl ?_
        refine T.skip ?_
        refine T.seq ?_
        refine T.block ?_
        refine T.seq ?_
        refine T.region ?_
        first | refine SL.y (op_indexN Tryd.underlying73 ty3 rfl rfl (by omega)) rfl rfl ?_ | refine SL.y (op_index Tryd.underlying73 ty3 rfl rfl (by omega) (by omega)) rfl rfl ?_
        -- to 33: op
        refine SL.y (op_loadX ty3 rfl hB (cread1 (ints_get l j hjl))) rfl rfl ?_
        refine SL.y (op_assign rfl) rfl rfl ?_
        refine SL.nil ?_
        refine T.seq ?_
        refine T.region ?_
        refine SL.y (op_move rfl) rfl rfl ?_
        first | refine SL.y (op_geqT rfl rfl (by omega)) rfl rfl ?_ | refine SL.y (op_geqF rfl rfl (by omega)) rfl rfl ?_ | refine SL.y (op_geq rfl rfl) rfl rfl ?_
        refine SL.y (op_move rfl) rfl rfl ?_
        first | refine SL.skip rfl rfl ?_ | refine SL.y (op_move rfl) rfl rfl ?_
        first | refine SL.skip rfl rfl ?_ | refine SL.y (op_move rfl) rfl rfl ?_
        first | refine SL.skip rfl rfl ?_ | refine SL.y (op_leqT rfl rfl (by omega)) rfl rfl ?_ | refine SL.y (op_leqF rfl rfl (by omega)) rfl rfl ?_ | refine SL.y (op_leq rfl rfl) rfl rfl ?_
        first | refine SL.y (op_pickT rfl rfl) rfl rfl ?_ | refine SL.y (op_pickF rfl rfl) rfl rfl ?_ | refine SL.y (op_pickB rfl rfl rfl) rfl rfl ?_
        refine SL.nil ?_
        refine T.condT rfl ?_
        refine T.draw (by kernel_rfl) 10 [.t 0, .t 1, .t 2, .t 3, .t 4, .t 5, .t 6, .t 7, .t 8, .t 9] (by kernel_rfl) ?_
        refine SD.take rfl panicBody (op_move rfl) rfl rfl ?_
        refine SD.take rfl panicBody (op_move rfl) rfl rfl ?_
        first | refine SD.take rfl panicBody (op_quo0 (q := 64) rfl rfl rfl (by omega) (by omega)) rfl rfl ?_ | refine SD.take rfl panicBody (op_quoN (q := 64) rfl rfl rfl (by omega) (by decide)) rfl rfl ?_ | refine SD.take rfl panicBody (op_quo rfl rfl (by omega) (by omega) (by omega)) rfl rfl ?_
        first | refine SD.take rfl panicBody (op_indexN Tryd.underlying45 ty64 rfl rfl (by omega)) rfl rfl ?_ | refine SD.take rfl panicBody (op_index Tryd.underlying45 ty64 rfl rfl (by omega) (by omega)) rfl rfl ?_
        first | refine SD.take rfl panicBody (op_load ty64 rfl (by repeat (first | exact AtO.here | apply AtO.there)) rfl) rfl rfl ?_ | refine SD.take rfl panicBody (op_loadX ty64 rfl (by assumption) rfl) rfl rfl ?_
        refine SD.take rfl panicBody (op_move rfl) rfl rfl ?_
        first | refine SD.take rfl panicBody (op_remS (q := 64) rfl rfl rfl (by omega)) rfl rfl ?_ | refine SD.take rfl panicBody (op_remN (q := 64) rfl rfl rfl (by decide)) rfl rfl ?_ | refine SD.take rfl panicBody (op_rem rfl rfl (by omega) (by omega)) rfl rfl ?_
        first | refine SD.take rfl panicBody (op_bit rfl rfl (by omega)) rfl rfl ?_ | refine SD.take rfl panicBody (op_shl rfl rfl) rfl rfl ?_
        refine SD.take rfl panicBody (op_or rfl rfl (by first | omega | assumption | decide | exact Nat.lt_of_le_of_lt (Nat.shiftRight_le ..) (by first | omega | assumption) | exact Nat.lt_of_le_of_lt Nat.and_le_left (by first | omega | assumption) | exact Nat.lt_of_le_of_lt Nat.and_le_right (by first | omega | decide)) (by first | omega | assumption | decide | exact Nat.lt_of_le_of_lt (Nat.shiftRight_le ..) (by first | omega | assumption) | exact Nat.lt_of_le_of_lt Nat.and_le_left (by first | omega | assumption) | exact Nat.lt_of_le_of_lt Nat.and_le_right (by first | omega | decide))) rfl rfl ?_
        first | refine SD.take rfl panicBody (op_indexN Tryd.underlying45 ty64 rfl rfl (by omega)) rfl rfl ?_ | refine SD.take rfl panicBody (op_index Tryd.underlying45 ty64 rfl rfl (by omega) (by omega)) rfl rfl ?_
        refine SD.nil ?_
        show SL _ _ _ _ _ _ _ [_] _ _ _
        refine SL.x (op_store ty64 rfl rfl (by repeat (first | exact AtO.here | apply AtO.there)) rfl rfl rfl) rfl rfl ?_
        rintro _ _ _ ⟨rfl, rfl⟩
        refine SL.nil ?_
        refine T.blk ?_
        refine T.region ?_
        first | refine SL.y (op_addN (q := 1) rfl rfl (by omega)) rfl rfl ?_ | refine SL.y (op_add rfl rfl (by omega) (by omega)) rfl rfl ?_ | refine SL.y (op_addW rfl rfl) rfl rfl ?_
        refine SL.y (op_move rfl) rfl rfl ?_
        refine SL.nil ?_
        -- cut
        exact T.backW (l.length - (j + 1)) (by omega) ⟨j + 1, rfl, by omega, rfl, by rw [maskOf_take_succ l j hjl]; rfl, rfl⟩ (by repeat (first | exact Sub.nil | refine Sub.cons rfl ?_))
      · have ej : j = l.length := by omega
        subst ej
        rw [List.take_length]
        refine T.seq ?_
        refine T.region ?_
        first | refine SL.y (op_lssT rfl rfl (by omega)) rfl rfl ?_ | refine SL.y (op_lssF rfl rfl (by omega)) rfl rfl ?_ | refine SL.y (op_lss rfl rfl) rfl rfl ?_
        refine SL.nil ?_
        refine T.seq ?_
        refine T.condF rfl ?_
        refine T.exit (T.exitCode (T.exitCut (T.exitBlk ?_)))
        refine T.seq ?_
        refine T.region ?_
        refine SL.y (op_move rfl) rfl rfl ?_
        -- op
        refine T.pubAt B27 (by repeat (first | exact AtO.here | apply AtO.there)) ?_
        intro X1 hX1 hB1 _
        refine SL.x (op_callF en64 (vs := [_]) rfl (trim1_spec (maskOf_lt l hl) hB1 (by omega))) rfl rfl ?_
        rintro _ _ X2 ⟨rfl, hX2, hS⟩
        obtain ⟨A2, l2, c2, rfl⟩ := hS.form
        refine SL.x (op_store ty47 rfl rfl (by repeat (first | exact AtO.here | apply AtO.there)) rfl rfl rfl) rfl rfl ?_
        rintro _ _ _ ⟨rfl, rfl⟩
        refine SL.nil ?_
        -- ret
        refine T.ret1 rfl (ResIs.cell rfl ty47 (by repeat (first | exact AtO.here | apply AtO.there)) rfl) ?_
        exact hS
end Go.Proofs.YtoheffglppbcbaaDoor
