/- THE REFERENCE's CLOSURES are the program's; all concepts as the reference lists them. -/
import Derived.Test.YtoheffglppbcbaaDoorSem2
import Derived.Test.YtoheffglppbcbaaDoorRef9
import Derived.Test.YtoheffglppbcbaaDoorEngine2
namespace Go.Proofs.YtoheffglppbcbaaDoor
section
set_option maxRecDepth 100000
theorem bs75 : ∃ i z, Tryd.prog.info? 75 = some i ∧ i.size = 2 ∧ i.zero = some z ∧ z.cells = ([.int .u64 0, .int .u64 0] : List Value).toArray := bs_of (by kernel_rfl)
theorem en84 : Enters Tryd.prog 84 := enters_mk Tryd.func84 (by kernel_rfl) rfl
theorem en86 : Enters Tryd.prog 86 := enters_mk Tryd.func86 (by kernel_rfl) rfl
theorem sl29 : SlT Tryd.prog 29 75 2 16 := ⟨Tryd.underlying29, sl_of (by kernel_rfl) (by decide)⟩
theorem st75 : StT Tryd.prog 75 [(0, 1), (1, 1)] [.int .u64 0, .int .u64 0] := ⟨⟨_, Tryd.underlying75, fun _ => by kernel_rfl, z75⟩⟩
end
open Go.RowKit
theorem okH_iff (cols : Nat) (ms : List Nat) (q n : Nat) : okH cols ms q n = true ↔ ∀ j, j < n → cols.testBit j = true → Rel ms q j = true := by
  simp only [okH, List.all_eq_true, List.mem_range, Bool.or_eq_true, Bool.not_eq_true']
  refine forall_congr' fun j => forall_congr' fun _ => ?_
  cases cols.testBit j <;> simp
theorem okC_iff (rows : Nat) (ms : List Nat) (q n : Nat) : okC rows ms q n = true ↔ ∀ i, i < n → rows.testBit i = true → Rel ms i q = true := by
  simp only [okC, List.all_eq_true, List.mem_range, Bool.or_eq_true, Bool.not_eq_true']
  refine forall_congr' fun j => forall_congr' fun _ => ?_
  cases rows.testBit j <;> simp
theorem bool_eq {a b : Bool} (h : a = true ↔ b = true) : a = b := by cases a <;> cases b <;> simp_all
theorem havR_eq {c : Nat} {ms : List Nat} (hc : c ≤ 64) (cols : Nat) : havR c cols ms = hav c ms cols := by
  apply Nat.eq_of_testBit_eq
  intro i
  refine bool_eq ?_
  rw [hav_iff c ms cols i hc, havR, maskP_testBit, Bool.and_eq_true, decide_eq_true_eq, okH_iff]
theorem comR_eq {c : Nat} {ms : List Nat} (hr : ms.length ≤ 64) (rows : Nat) : comR c rows ms = com c ms rows := by
  apply Nat.eq_of_testBit_eq
  intro i
  refine bool_eq ?_
  rw [com_iff c ms rows i hr, comR, maskP_testBit, Bool.and_eq_true, decide_eq_true_eq, okC_iff]
/-- The concepts of closed sets. -/
def conL (c : Nat) (ms : List Nat) (l : List Nat) : List (Nat × Nat) := l.map fun a => (hav c ms a, a)
def allR (c : Nat) (ms : List Nat) : List (Nat × Nat) := conL c ms (allC c ms)
theorem conL_length (c : Nat) (ms l : List Nat) : (conL c ms l).length = l.length := by simp [conL]
theorem while_take (p : Nat → Bool) : ∀ (l : List Nat) (k : Nat), k ≤ l.length → (∀ q (h : q < l.length), q < k → p l[q] = true) → (∀ h : k < l.length, p l[k] = false) → l.takeWhile p = l.take k ∧ l.dropWhile p = l.drop k
  | [], k, hk, _, _ => by simp
  | a :: l, 0, hk, _, h2 => by
    have := h2 (by simp)
    simp only [List.getElem_cons_zero] at this
    simp [this]
  | a :: l, k + 1, hk, h1, h2 => by
    have h0 := h1 0 (by simp) (by omega)
    simp only [List.getElem_cons_zero] at h0
    obtain ⟨g1, g2⟩ := while_take p l k (by simpa using hk) (fun q h hq => h1 (q + 1) (Nat.succ_lt_succ h) (by omega)) (fun h => h2 (Nat.succ_lt_succ h))
    simp [h0, g1, g2]
theorem insAt_at {l : List Nat} {s k : Nat} (hk : k ≤ l.length) (h1 : ∀ q (h : q < l.length), q < k → befB l[q] s = true) (h2 : ∀ h : k < l.length, befB l[k] s = false) : insAt l s = l.take k ++ s :: l.drop k := by
  obtain ⟨g1, g2⟩ := while_take (fun t => befB t s) l k hk h1 h2
  rw [insAt, g1, g2]
theorem conC_take (l : List (Nat × Nat)) : ∀ k, (conC l).take (k * 2) = conC (l.take k) := by
  induction l with
  | nil => intro k; simp [conC]
  | cons p l ih =>
    intro k
    cases k with
    | zero => simp [conC]
    | succ k =>
      have e : conC (p :: l) = .int .u64 (p.1 : Int) :: .int .u64 (p.2 : Int) :: conC l := rfl
      rw [e, show (k + 1) * 2 = k * 2 + 1 + 1 by omega, List.take_succ_cons, List.take_succ_cons, ih]
      rfl
theorem conC_drop (l : List (Nat × Nat)) : ∀ k, (conC l).drop (k * 2) = conC (l.drop k) := by
  induction l with
  | nil => intro k; simp [conC]
  | cons p l ih =>
    intro k
    cases k with
    | zero => simp [conC]
    | succ k =>
      have e : conC (p :: l) = .int .u64 (p.1 : Int) :: .int .u64 (p.2 : Int) :: conC l := rfl
      rw [e, show (k + 1) * 2 = k * 2 + 1 + 1 by omega, List.drop_succ_cons, List.drop_succ_cons, ih]
      rfl
theorem oneCells_conC (l : List (Nat × Nat)) : ∀ y ∈ conC l, y.oneCell' = true := by
  intro y hy
  simp only [conC, List.mem_flatMap] at hy
  obtain ⟨p, _, hy⟩ := hy
  simp at hy
  rcases hy with rfl | rfl <;> rfl
theorem conL_ins {c : Nat} {ms l : List Nat} {s k : Nat} : conC (conL c ms (l.take k ++ s :: l.drop k)) = (conC (conL c ms l)).take (k * 2) ++ ([.int .u64 (hav c ms s : Int), .int .u64 (s : Int)] ++ (conC (conL c ms l)).drop (k * 2)) := by
  rw [conC_take, conC_drop]
  simp [conL, conC_append]
  rw [show ∀ (p : Nat × Nat) (r : List (Nat × Nat)), conC (p :: r) = [.int .u64 (p.1 : Int), .int .u64 (p.2 : Int)] ++ conC r from fun _ _ => rfl]
  simp
theorem allR_small {c : Nat} {ms : List Nat} (hr : ms.length < 64) (hc : c < 6) : (allR c ms).length ≤ 2 ^ c ∧ 2 ^ c ≤ 32 ∧ ∀ p ∈ allR c ms, p.1 < 18446744073709551616 ∧ p.2 < 18446744073709551616 := by
  have h5 : 2 ^ c ≤ 2 ^ 5 := Nat.pow_le_pow_right (by omega) (by omega)
  have hr2 : 2 ^ ms.length < 18446744073709551616 := Nat.pow_lt_pow_right (a := 2) (by omega) hr
  refine ⟨by rw [allR, conL_length]; exact allN_length c ms _, by omega, fun p hp => ?_⟩
  simp only [allR, conL, List.mem_map] at hp
  obtain ⟨a, ha, rfl⟩ := hp
  have h1 := hav_lt (c := c) (ms := ms) (by omega) (by omega) a
  have h2 := ((mem_allN c ms a _).1 ha).1
  exact ⟨Nat.lt_trans h1 hr2, by simp only; omega⟩
theorem closeR_spec {X : PMap} {v : Value} {c : Nat} {ms : List Nat} (h : M44R X v c ms) (hr : ms.length < 64) (hc : c < 64) (cols : Nat) (hcols : cols < 18446744073709551616) : Spec Tryd.prog 84 [v, .int .u64 (cols : Int)] X fun u _ => u = .int .u64 (clo c ms cols : Int) := by
  have := close45_spec h hr hc cols hcols
  rw [havR_eq (by omega), comR_eq (by omega)] at this
  exact this
theorem havingR_spec {X : PMap} {v : Value} {c : Nat} {ms : List Nat} (h : M44R X v c ms) (hr : ms.length < 64) (hc : c < 64) (cols : Nat) (hcols : cols < 18446744073709551616) : Spec Tryd.prog 85 [v, .int .u64 (cols : Int)] X fun u _ => u = .int .u64 (hav c ms cols : Int) := by
  have := having45_spec h hr hc cols hcols
  rw [havR_eq (by omega)] at this
  exact this
theorem oneNew (a s : Nat) (l : List (Nat × Nat)) (k : Nat) : ∀ y ∈ ([.int .u64 (a : Int), .int .u64 (s : Int)] ++ (conC l).drop k : List Value), y.oneCell' = true := fun y hy => by
  rcases List.mem_append.1 hy with h | h
  · exact oneCells_conC [(a, s)] y h
  · exact oneCells_conC _ y (List.mem_of_mem_drop h)
theorem newLen {L : List Nat} {s k : Nat} (hk : k ≤ L.length) : (L.take k ++ s :: L.drop k).length = 0 + k + (1 + (L.length - k)) := by
  simp; omega
theorem newRow {X : PMap} {c cap b : Nat} {ms L : List Nat} {s k : Nat} (hk : k ≤ L.length) (hB : Blk X b (([] ++ (conC (conL c ms L)).take (k * 2)) ++ ([.int .u64 (hav c ms s : Int), .int .u64 (s : Int)] ++ (conC (conL c ms L)).drop (k * 2)))) (_h : 0 < L.length + 1) :
    SliceR X (.slice (some ⟨b, 0, none⟩) (L.take k ++ s :: L.drop k).length cap) (L.take k ++ s :: L.drop k).length (conC (conL c ms (L.take k ++ s :: L.drop k))) := by
  refine .inr ⟨by simp; omega, b, cap, rfl, ?_⟩
  rw [conL_ins]
  simpa using hB
theorem all46_spec {X : PMap} {v : Value} {c : Nat} {ms : List Nat} (h : M44R X v c ms) (hr : ms.length < 64) (hc : c < 6) : Spec Tryd.prog 57 [v] X fun u X' => ConT X' u (allR c ms) := by
  have hh := h
  obtain ⟨s0, cs0, rfl, hS, hl, hrow⟩ := h
  obtain ⟨As, cps, rfl⟩ := hS.form
  have h5 : 2 ^ c ≤ 2 ^ 5 := Nat.pow_le_pow_right (by omega) (by omega)
  refine Spec.enter Tryd.func57 rfl Tryd.ntmps57 rfl ?_
  intro w0 hw0
  refine T.seq ?_
  refine T.region ?_
  refine SL.x (op_box rfl) rfl rfl ?_
  rintro _ _ _ ⟨B1, rfl, rfl, rfl⟩
  refine SL.y (op_assign rfl) rfl rfl ?_
  refine SL.nil ?_
  refine T.seq ?_
  refine T.region ?_
  refine SL.y (op_assign rfl) rfl rfl ?_
  refine SL.nil ?_
  refine T.seq ?_
  refine T.seq ?_
  refine T.region ?_
  refine SL.y (op_assign (v := .int .u64 ((0 : Nat) : Int)) rfl) rfl rfl ?_
  refine SL.nil ?_
  refine T.block ?_
  -- loop live [1, 2, 3, 4]
  refine T.loopW (fun m env own X' => ∃ (s : Nat) (A : Option Addr) (cap : Nat), m = 2 ^ c - s ∧ s ≤ 2 ^ c ∧ X.le X' ∧ SliceR X' (.slice A (allN c ms s).length cap) (allN c ms s).length (conC (conL c ms (allN c ms s))) ∧ (allN c ms s).length ≤ cap ∧ env = [(1, .pointer (some ⟨B1, 0, none⟩)), (3, .slice A (allN c ms s).length cap), (4, .int .u64 (s : Int))] ∧ own = [⟨B1, [.int .i64 (c : Int), .slice As ms.length cps], 91, 2⟩]) (2 ^ c) ⟨0, none, 0, by simp, Nat.zero_le _, PMap.le_refl _, .inl ⟨rfl, rfl, _, _, rfl⟩, by simp [allN], rfl, rfl⟩ (by repeat (first | exact Sub.nil | refine Sub.cons rfl ?_)) ?_
  rintro m _ _ X1 ⟨s, A, cap, rfl, hs, hX1, hO, hcap, rfl, rfl⟩
  have hlen := allN_length c ms s
  rcases Nat.lt_or_ge s (2 ^ c) with hsl | hsl
  · skip
    refine T.seq ?_
    refine T.seq ?_
    refine T.region ?_
    refine SL.y (op_move rfl) rfl rfl ?_
    refine SL.y (op_fieldAddr fa91_0 rfl) rfl rfl ?_
    first | refine SL.y (op_load ty3 rfl (by repeat (first | exact AtO.here | apply AtO.there)) rfl) rfl rfl ?_ | refine SL.y (op_loadX ty3 rfl (by assumption) rfl) rfl rfl ?_
    first | refine SL.y (op_bit rfl rfl (by omega)) rfl rfl ?_ | refine SL.y (op_shl rfl rfl) rfl rfl ?_
    first | refine SL.y (op_lssT rfl rfl (by omega)) rfl rfl ?_ | refine SL.y (op_lssF rfl rfl (by omega)) rfl rfl ?_ | refine SL.y (op_lss rfl rfl) rfl rfl ?_
    refine SL.nil ?_
    refine T.condT rfl ?_
    refine T.skip ?_
    refine T.seq ?_
    refine T.block ?_
    refine T.seq ?_
    refine T.seq ?_
    refine T.region ?_
    first | refine SL.y (op_load ty91 rfl (by repeat (first | exact AtO.here | apply AtO.there)) rfl) rfl rfl ?_ | refine SL.y (op_loadX ty91 rfl (by assumption) rfl) rfl rfl ?_
    refine SL.y (op_move rfl) rfl rfl ?_
    -- op
    refine SL.x (op_callF en84 (vs := [_, _]) rfl (closeR_spec (hh.mono hX1) hr (by omega) s (by omega))) rfl rfl ?_
    rintro _ _ X2 ⟨rfl, hX2, rfl⟩
    by_cases hcl : clo c ms s = s
    · skip
      refine SL.y (op_move rfl) rfl rfl ?_
      first | refine SL.y (op_neqT rfl rfl (by omega)) rfl rfl ?_ | refine SL.y (op_neqF rfl rfl (by omega)) rfl rfl ?_ | refine SL.y (op_neq rfl rfl) rfl rfl ?_
      refine SL.nil ?_
      refine T.condF rfl ?_
      refine T.skip ?_
      refine T.seq ?_
      refine T.region ?_
      first | refine SL.y (op_load ty91 rfl (by repeat (first | exact AtO.here | apply AtO.there)) rfl) rfl rfl ?_ | refine SL.y (op_loadX ty91 rfl (by assumption) rfl) rfl rfl ?_
      refine SL.y (op_move rfl) rfl rfl ?_
      -- op
      refine SL.x (op_callF en85 (vs := [_, _]) rfl (havingR_spec ((hh.mono hX1).mono hX2) hr (by omega) s (by omega))) rfl rfl ?_
      rintro _ _ X3 ⟨rfl, hX3, rfl⟩
      have hX13 := (hX1.trans' hX2).trans' hX3
      have hO3 := (hO.mono hX2).mono hX3
      generalize hL : allN c ms s = L at *
      have hbound : ∀ q (h : q < L.length), L[q] < 18446744073709551616 := fun q h => by
        have h1 : L[q] ∈ allN c ms s := by rw [hL]; exact List.getElem_mem h
        have h2 := ((mem_allN c ms _ _).1 h1).1
        omega
      refine SL.y (op_move rfl) rfl rfl ?_
      refine SL.y (op_build st75 (qs := [(0, _), (1, _)]) rfl rfl) rfl rfl ?_
      refine SL.x (op_alloc z75) rfl rfl ?_
      rintro _ _ _ ⟨B5, rfl, rfl, rfl⟩
      refine SL.x (op_store ty75 rfl rfl (by repeat (first | exact AtO.here | apply AtO.there)) rfl rfl rfl) rfl rfl ?_
      rintro _ _ _ ⟨rfl, rfl⟩
      refine SL.nil ?_
      refine T.seq ?_
      refine T.region ?_
      refine SL.y (op_assign (v := .int .i64 ((0 : Nat) : Int)) rfl) rfl rfl ?_
      refine SL.nil ?_
      refine T.seq ?_
      refine T.block ?_
      -- loop live [2, 3, 4, 5, 6]
      refine T.loopW (fun m env own X' => ∃ k : Nat, m = L.length - k ∧ k ≤ L.length ∧ X3.le X' ∧ (∀ q (h : q < L.length), q < k → befB L[q] s = true) ∧ env = [(1, .pointer (some ⟨B1, 0, none⟩)), (3, .slice A L.length cap), (4, .int .u64 (s : Int)), (5, .pointer (some ⟨B5, 0, none⟩)), (6, .int .i64 (k : Int))] ∧ own = [⟨B5, [.int .u64 (hav c ms s : Int), .int .u64 (s : Int)], 75, 2⟩, ⟨B1, [.int .i64 (c : Int), .slice As ms.length cps], 91, 2⟩]) L.length ⟨0, by simp, by omega, PMap.le_refl _, (fun q h hq => by omega), rfl, rfl⟩ (by repeat (first | exact Sub.nil | refine Sub.cons rfl ?_)) ?_
      rintro m _ _ X4 ⟨k, rfl, hk, hX4, hb4, rfl, rfl⟩
      rcases Nat.lt_or_ge k L.length with hkl | hkl
      · obtain ⟨bo, rfl, hBo⟩ := (hO3.mono hX4).blk (by omega)
        have g2 : (conC (conL c ms L))[k * 2 + 1]? = some (.int .u64 (L[k] : Int)) := by
          have := (conC_get (conL c ms L) k (by rw [conL_length]; exact hkl)).2
          rw [this]
          simp [conL]
        refine T.seq ?_
        refine T.seq ?_
        refine T.region ?_
        refine SL.y (op_move rfl) rfl rfl ?_
        refine SL.y (op_move rfl) rfl rfl ?_
        refine SL.y (op_lenS Tryd.underlying29 rfl) rfl rfl ?_
        first | refine SL.y (op_lssT rfl rfl (by omega)) rfl rfl ?_ | refine SL.y (op_lssF rfl rfl (by omega)) rfl rfl ?_ | refine SL.y (op_lss rfl rfl) rfl rfl ?_
        refine SL.y (op_move rfl) rfl rfl ?_
        first | refine SL.skip rfl rfl ?_ | refine SL.y (op_move rfl) rfl rfl ?_
        first | refine SL.skip rfl rfl ?_ | refine SL.y (op_move rfl) rfl rfl ?_
        first | refine SL.skip rfl rfl ?_ | refine SL.y (op_indexN Tryd.underlying29 ty75 rfl rfl (by omega)) rfl rfl ?_ | refine SL.y (op_index Tryd.underlying29 ty75 rfl rfl (by omega) (by omega)) rfl rfl ?_
        first | refine SL.skip rfl rfl ?_ | refine SL.y (op_fieldAddr fa75_1 rfl) rfl rfl ?_
        -- to 34: op
        refine SL.y (op_loadX ty64 rfl hBo (cread1k g2 (by omega))) rfl rfl ?_
        first | refine SL.skip rfl rfl ?_ | refine SL.y (op_move rfl) rfl rfl ?_
        -- op
        refine SL.x (op_callF en86 (vs := [_, _]) rfl (before46_spec L[k] s (hbound k hkl) (by omega))) rfl rfl ?_
        rintro _ _ X5 ⟨rfl, hX5, rfl⟩
        cases hb : befB L[k] s with
        | true =>
          first | refine SL.y (op_pickT rfl rfl) rfl rfl ?_ | refine SL.y (op_pickF rfl rfl) rfl rfl ?_ | refine SL.y (op_pickB rfl rfl rfl) rfl rfl ?_
          refine SL.nil ?_
          refine T.condT rfl ?_
          refine T.skip ?_
          refine T.block ?_
          refine T.region ?_
          refine SL.y (op_move rfl) rfl rfl ?_
          first | refine SL.y (op_addN (q := 1) rfl rfl (by omega)) rfl rfl ?_ | refine SL.y (op_add rfl rfl (by omega) (by omega)) rfl rfl ?_ | refine SL.y (op_addW rfl rfl) rfl rfl ?_
          refine SL.y (op_assign rfl) rfl rfl ?_
          refine SL.nil ?_
          refine T.blk ?_
          -- cut
          exact T.backW (L.length - (k + 1)) (by omega) ⟨k + 1, rfl, by omega, hX4.trans' hX5, (fun q h hq => by rcases Nat.lt_or_ge q k with h1 | h1; exact hb4 q h h1; (obtain rfl : q = k := by omega); exact hb), rfl, rfl⟩ (by repeat (first | exact Sub.nil | refine Sub.cons rfl ?_))
        | false =>
          have hins : allN c ms (s + 1) = L.take k ++ s :: L.drop k := by
            rw [allN, if_pos hcl, hL]
            exact insAt_at hk hb4 (fun _ => hb)
          first | refine SL.y (op_pickT rfl rfl) rfl rfl ?_ | refine SL.y (op_pickF rfl rfl) rfl rfl ?_ | refine SL.y (op_pickB rfl rfl rfl) rfl rfl ?_
          refine SL.nil ?_
          refine T.condF rfl ?_
          refine T.exit (T.exitCode (T.exitCut (T.exitBlk ?_)))
          refine T.seq ?_
          refine T.draw (by kernel_rfl) 5 [.t 0, .t 2, .t 3, .t 4, .r 1] (by kernel_rfl) ?_
          first | refine SD.take rfl panicBody (op_load ty75 rfl (by repeat (first | exact AtO.here | apply AtO.there)) rfl) rfl rfl ?_ | refine SD.take rfl panicBody (op_loadX ty75 rfl (by assumption) rfl) rfl rfl ?_
          refine SD.take rfl panicBody (op_move rfl) rfl rfl ?_
          refine SD.take rfl panicBody (op_move rfl) rfl rfl ?_
          -- op
          have hO5 := hO3.mono (hX4.trans' hX5)
          -- op
          refine SD.take rfl panicBody (op_sliceLo Tryd.underlying29 ty75 rfl rfl hk hcap) rfl rfl ?_
          refine SD.run rfl (op_buildSlice Tryd.underlying29 bs75 (qs := [(0, _)]) rfl rfl rfl rfl rfl) rfl rfl ?_
          rintro _ _ _ ⟨B41, rfl, rfl, rfl⟩
          refine SD.nil ?_
          show SL _ _ _ _ _ _ _ [_, _] _ _ _
          -- op
          refine SL.x (op_append (m := L.length - k) (news := (conC (conL c ms L)).drop (k * 2)) sl29 rfl rfl (by repeat (first | exact AtO.here | apply AtO.there)) rfl rfl (Nat.le_refl _) (by decide) (Src.lo hO5 rfl (by rw [conC_length, conL_length]) hk hcap) (fun y hy => oneCells_conC _ y (List.mem_of_mem_drop hy)) (by (have : maxLen = 9223372036854775807 := rfl); omega) (by omega)) rfl rfl ?_
          rintro _ _ _ ⟨b7, cap7, rfl, rfl, rfl, hc7, hm7⟩
          refine SL.y (op_assign rfl) rfl rfl ?_
          refine SL.nil ?_
          refine T.region ?_
          refine SL.x (op_buildSlice Tryd.underlying29 bs75 (qs := []) rfl rfl rfl rfl rfl) rfl rfl ?_
          rintro _ _ _ ⟨B46, rfl, rfl, rfl⟩
          refine SL.y (op_move rfl) rfl rfl ?_
          refine SL.y (op_move rfl) rfl rfl ?_
          -- op
          refine SL.y (op_sliceHi Tryd.underlying29 ty75 rfl rfl (by omega)) rfl rfl ?_
          refine SL.x (op_append (m := k) (news := (conC (conL c ms L)).take (k * 2)) sl29 rfl rfl (by repeat (first | exact AtO.here | apply AtO.there)) rfl rfl (Nat.le_refl _) (by decide) (Src.hi hO5 rfl (by rw [conC_length, conL_length]) hk) (fun y hy => oneCells_conC _ y (List.mem_of_mem_take hy)) (by (have : maxLen = 9223372036854775807 := rfl); omega) (by omega)) rfl rfl ?_
          rintro _ _ _ ⟨b50, cap50, rfl, rfl, rfl, hc50, hm50⟩
          refine SL.y (op_move rfl) rfl rfl ?_
          -- op
          refine SL.x (op_append (m := 1 + (L.length - k)) (news := [.int .u64 (hav c ms s : Int), .int .u64 (s : Int)] ++ (conC (conL c ms L)).drop (k * 2)) sl29 rfl rfl (by repeat (first | exact AtO.here | apply AtO.there)) rfl (by simp [conC_length, conL_length]; omega) (by omega) (by omega) (Src.ofOwn0 (by repeat (first | exact AtO.here | apply AtO.there)) (by simp [conC_length, conL_length]; omega)) (oneNew _ _ _ _) (by (have : maxLen = 9223372036854775807 := rfl); omega) (by omega)) rfl rfl ?_
          rintro _ _ _ ⟨b52, cap52, rfl, rfl, rfl, hc52, hm52⟩
          refine SL.y (op_assign rfl) rfl rfl ?_
          refine SL.nil ?_
          refine T.blk ?_
          refine T.region ?_
          refine SL.y (op_move rfl) rfl rfl ?_
          first | refine SL.y (op_addU (q := 1) rfl rfl (by omega)) rfl rfl ?_ | refine SL.y (op_addW rfl rfl) rfl rfl ?_
          refine SL.y (op_assign rfl) rfl rfl ?_
          refine SL.nil ?_
          -- cut
          refine T.pub b52 (by repeat (first | exact AtO.here | apply AtO.there)) ?_
          intro X8 hX8 hB8 _
          refine T.drop b7 (by repeat (first | exact AtO.here | apply AtO.there)) ?_
          refine T.drop B5 (by repeat (first | exact AtO.here | apply AtO.there)) ?_
          exact T.backW (2 ^ c - (s + 1)) (by omega) ⟨s + 1, some ⟨b52, 0, none⟩, cap52, rfl, by omega, (hX13.trans' (hX4.trans' hX5)).trans' hX8, by rw [hins]; exact newRow hk hB8 (by omega), by rw [hins]; simp; omega, by rw [hins, newLen hk], rfl⟩ (by repeat (first | exact Sub.nil | refine Sub.cons rfl ?_))
      · have hk' : k = L.length := by omega
        have hins : allN c ms (s + 1) = L.take k ++ s :: L.drop k := by
          rw [allN, if_pos hcl, hL]
          exact insAt_at hk hb4 (fun h => by omega)
        refine T.seq ?_
        refine T.seq ?_
        refine T.region ?_
        refine SL.y (op_move rfl) rfl rfl ?_
        refine SL.y (op_move rfl) rfl rfl ?_
        refine SL.y (op_lenS Tryd.underlying29 rfl) rfl rfl ?_
        first | refine SL.y (op_lssT rfl rfl (by omega)) rfl rfl ?_ | refine SL.y (op_lssF rfl rfl (by omega)) rfl rfl ?_ | refine SL.y (op_lss rfl rfl) rfl rfl ?_
        refine SL.y (op_move rfl) rfl rfl ?_
        first | refine SL.skip rfl rfl ?_ | refine SL.y (op_move rfl) rfl rfl ?_
        first | refine SL.skip rfl rfl ?_ | refine SL.y (op_move rfl) rfl rfl ?_
        first | refine SL.skip rfl rfl ?_ | refine SL.y (op_indexN Tryd.underlying29 ty75 rfl rfl (by omega)) rfl rfl ?_ | refine SL.y (op_index Tryd.underlying29 ty75 rfl rfl (by omega) (by omega)) rfl rfl ?_
        first | refine SL.skip rfl rfl ?_ | refine SL.y (op_fieldAddr fa75_1 rfl) rfl rfl ?_
        first | refine SL.skip rfl rfl ?_ | refine SL.y (op_load ty64 rfl (by repeat (first | exact AtO.here | apply AtO.there)) rfl) rfl rfl ?_ | refine SL.y (op_loadX ty64 rfl (by assumption) rfl) rfl rfl ?_
        first | refine SL.skip rfl rfl ?_ | refine SL.y (op_move rfl) rfl rfl ?_
        -- op
        refine SL.skip rfl rfl ?_
        first | refine SL.y (op_pickT rfl rfl) rfl rfl ?_ | refine SL.y (op_pickF rfl rfl) rfl rfl ?_ | refine SL.y (op_pickB rfl rfl rfl) rfl rfl ?_
        refine SL.nil ?_
        refine T.condF rfl ?_
        refine T.exit (T.exitCode (T.exitCut (T.exitBlk ?_)))
        refine T.seq ?_
        refine T.draw (by kernel_rfl) 5 [.t 0, .t 2, .t 3, .t 4, .r 1] (by kernel_rfl) ?_
        first | refine SD.take rfl panicBody (op_load ty75 rfl (by repeat (first | exact AtO.here | apply AtO.there)) rfl) rfl rfl ?_ | refine SD.take rfl panicBody (op_loadX ty75 rfl (by assumption) rfl) rfl rfl ?_
        refine SD.take rfl panicBody (op_move rfl) rfl rfl ?_
        refine SD.take rfl panicBody (op_move rfl) rfl rfl ?_
        -- op
        have hO5 := hO3.mono (hX4)
        -- op
        refine SD.take rfl panicBody (op_sliceLo Tryd.underlying29 ty75 rfl rfl hk hcap) rfl rfl ?_
        refine SD.run rfl (op_buildSlice Tryd.underlying29 bs75 (qs := [(0, _)]) rfl rfl rfl rfl rfl) rfl rfl ?_
        rintro _ _ _ ⟨B41, rfl, rfl, rfl⟩
        refine SD.nil ?_
        show SL _ _ _ _ _ _ _ [_, _] _ _ _
        -- op
        refine SL.x (op_append (m := L.length - k) (news := (conC (conL c ms L)).drop (k * 2)) sl29 rfl rfl (by repeat (first | exact AtO.here | apply AtO.there)) rfl rfl (Nat.le_refl _) (by decide) (Src.lo hO5 rfl (by rw [conC_length, conL_length]) hk hcap) (fun y hy => oneCells_conC _ y (List.mem_of_mem_drop hy)) (by (have : maxLen = 9223372036854775807 := rfl); omega) (by omega)) rfl rfl ?_
        rintro _ _ _ ⟨b7, cap7, rfl, rfl, rfl, hc7, hm7⟩
        refine SL.y (op_assign rfl) rfl rfl ?_
        refine SL.nil ?_
        refine T.region ?_
        refine SL.x (op_buildSlice Tryd.underlying29 bs75 (qs := []) rfl rfl rfl rfl rfl) rfl rfl ?_
        rintro _ _ _ ⟨B46, rfl, rfl, rfl⟩
        refine SL.y (op_move rfl) rfl rfl ?_
        refine SL.y (op_move rfl) rfl rfl ?_
        -- op
        refine SL.y (op_sliceHi Tryd.underlying29 ty75 rfl rfl (by omega)) rfl rfl ?_
        refine SL.x (op_append (m := k) (news := (conC (conL c ms L)).take (k * 2)) sl29 rfl rfl (by repeat (first | exact AtO.here | apply AtO.there)) rfl rfl (Nat.le_refl _) (by decide) (Src.hi hO5 rfl (by rw [conC_length, conL_length]) hk) (fun y hy => oneCells_conC _ y (List.mem_of_mem_take hy)) (by (have : maxLen = 9223372036854775807 := rfl); omega) (by omega)) rfl rfl ?_
        rintro _ _ _ ⟨b50, cap50, rfl, rfl, rfl, hc50, hm50⟩
        refine SL.y (op_move rfl) rfl rfl ?_
        -- op
        refine SL.x (op_append (m := 1 + (L.length - k)) (news := [.int .u64 (hav c ms s : Int), .int .u64 (s : Int)] ++ (conC (conL c ms L)).drop (k * 2)) sl29 rfl rfl (by repeat (first | exact AtO.here | apply AtO.there)) rfl (by simp [conC_length, conL_length]; omega) (by omega) (by omega) (Src.ofOwn0 (by repeat (first | exact AtO.here | apply AtO.there)) (by simp [conC_length, conL_length]; omega)) (oneNew _ _ _ _) (by (have : maxLen = 9223372036854775807 := rfl); omega) (by omega)) rfl rfl ?_
        rintro _ _ _ ⟨b52, cap52, rfl, rfl, rfl, hc52, hm52⟩
        refine SL.y (op_assign rfl) rfl rfl ?_
        refine SL.nil ?_
        refine T.blk ?_
        refine T.region ?_
        refine SL.y (op_move rfl) rfl rfl ?_
        first | refine SL.y (op_addU (q := 1) rfl rfl (by omega)) rfl rfl ?_ | refine SL.y (op_addW rfl rfl) rfl rfl ?_
        refine SL.y (op_assign rfl) rfl rfl ?_
        refine SL.nil ?_
        -- cut
        refine T.pub b52 (by repeat (first | exact AtO.here | apply AtO.there)) ?_
        intro X8 hX8 hB8 _
        refine T.drop b7 (by repeat (first | exact AtO.here | apply AtO.there)) ?_
        refine T.drop B5 (by repeat (first | exact AtO.here | apply AtO.there)) ?_
        exact T.backW (2 ^ c - (s + 1)) (by omega) ⟨s + 1, some ⟨b52, 0, none⟩, cap52, rfl, by omega, (hX13.trans' (hX4)).trans' hX8, by rw [hins]; exact newRow hk hB8 (by omega), by rw [hins]; simp; omega, by rw [hins, newLen hk], rfl⟩ (by repeat (first | exact Sub.nil | refine Sub.cons rfl ?_))
    · refine SL.y (op_move rfl) rfl rfl ?_
      first | refine SL.y (op_neqT rfl rfl (by omega)) rfl rfl ?_ | refine SL.y (op_neqF rfl rfl (by omega)) rfl rfl ?_ | refine SL.y (op_neq rfl rfl) rfl rfl ?_
      refine SL.nil ?_
      refine T.condT rfl ?_
      refine T.exit (T.exitCode (T.exitBlk ?_))
      refine T.region ?_
      refine SL.y (op_move rfl) rfl rfl ?_
      first | refine SL.y (op_addU (q := 1) rfl rfl (by omega)) rfl rfl ?_ | refine SL.y (op_addW rfl rfl) rfl rfl ?_
      refine SL.y (op_assign rfl) rfl rfl ?_
      refine SL.nil ?_
      -- cut
      exact T.backW (2 ^ c - (s + 1)) (by omega) ⟨s + 1, A, cap, rfl, by omega, hX1.trans' hX2, by rw [allN, if_neg hcl]; exact hO.mono hX2, by rw [allN, if_neg hcl]; exact hcap, by rw [allN, if_neg hcl], rfl⟩ (by repeat (first | exact Sub.nil | refine Sub.cons rfl ?_))
  · obtain rfl : s = 2 ^ c := by omega
    refine T.seq ?_
    refine T.seq ?_
    refine T.region ?_
    refine SL.y (op_move rfl) rfl rfl ?_
    refine SL.y (op_fieldAddr fa91_0 rfl) rfl rfl ?_
    first | refine SL.y (op_load ty3 rfl (by repeat (first | exact AtO.here | apply AtO.there)) rfl) rfl rfl ?_ | refine SL.y (op_loadX ty3 rfl (by assumption) rfl) rfl rfl ?_
    first | refine SL.y (op_bit rfl rfl (by omega)) rfl rfl ?_ | refine SL.y (op_shl rfl rfl) rfl rfl ?_
    first | refine SL.y (op_lssT rfl rfl (by omega)) rfl rfl ?_ | refine SL.y (op_lssF rfl rfl (by omega)) rfl rfl ?_ | refine SL.y (op_lss rfl rfl) rfl rfl ?_
    refine SL.nil ?_
    refine T.condF rfl ?_
    refine T.exit (T.exitCode (T.exitCut (T.exitBlk ?_)))
    refine T.seq ?_
    refine T.region ?_
    refine SL.y (op_move rfl) rfl rfl ?_
    refine SL.y (op_assign rfl) rfl rfl ?_
    refine SL.nil ?_
    -- ret
    refine T.ret1 rfl (ResIs.tmp rfl) ?_
    obtain ⟨q1, q2, q3⟩ := allR_small (ms := ms) hr hc
    exact ⟨by rw [allR, conL_length]; exact hO, by omega, q3⟩
end Go.Proofs.YtoheffglppbcbaaDoor
