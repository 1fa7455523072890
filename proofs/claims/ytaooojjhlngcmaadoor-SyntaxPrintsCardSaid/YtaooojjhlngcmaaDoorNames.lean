/- The names of an expression: gathered, sorted, each once. -/
import Derived.Test.YtaooojjhlngcmaaDoorSort
import Derived.Test.YtaooojjhlngcmaaDoorCut
import Derived.Test.YtaooojjhlngcmaaDoorMeas
namespace Go.Proofs.YtaooojjhlngcmaaDoor
section
set_option maxRecDepth 100000
theorem bs9 : ∃ i z, Tryd.prog.info? 9 = some i ∧ i.size = 1 ∧ i.zero = some z ∧ z.cells = ([.string ⟨#[]⟩] : List Value).toArray := bs_of (by kernel_rfl)
theorem en49 : Enters Tryd.prog 49 := enters_mk Tryd.func49 (by kernel_rfl) rfl
theorem en50 : Enters Tryd.prog 50 := enters_mk Tryd.func50 (by kernel_rfl) rfl
theorem en51 : Enters Tryd.prog 51 := enters_mk Tryd.func51 (by kernel_rfl) rfl
theorem fa34_2 : FAdr Tryd.prog 34 2 2 := fadr_mk Tryd.underlying34 rfl rfl (by kernel_rfl)
theorem sl24 : SlT Tryd.prog 24 9 1 16 := ⟨Tryd.underlying24, sl_of (by kernel_rfl) (by decide)⟩
theorem ty24 : Ty Tryd.prog 24 false 1 := ⟨⟨_, Tryd.underlying24, rfl⟩, by kernel_rfl⟩
end
open Go.RowKit
mutual
def allE : Ex → List ByteArray
  | .mk _ _ ns al => ns ++ allL al
def allL : List Ex → List ByteArray
  | [] => []
  | a :: al => allE a ++ allL al
end
theorem allL_app (b : List Ex) : ∀ l : List Ex, allL (l ++ b) = allL l ++ allL b
  | [] => by simp [allL]
  | x :: l => by rw [List.cons_append, allL, allL, allL_app b l, List.append_assoc]
theorem allL_snoc (a : Ex) (l : List Ex) : allL (l ++ [a]) = allL l ++ allE a := by rw [allL_app]; simp [allL]
mutual
theorem all_wt : ∀ e : Ex, (allE e).length + 1 ≤ wtE e
  | .mk _ _ ns al => by
    have := allL_wt al
    have := wtS_len ns
    rw [allE, wtE, List.length_append]; omega
theorem allL_wt : ∀ l : List Ex, (allL l).length ≤ wtL l
  | [] => by simp [allL]
  | a :: al => by
    have := all_wt a
    have := allL_wt al
    rw [allL, wtL, List.length_append]; omega
end
theorem strsC_app (l m : List ByteArray) : strsC (l ++ m) = strsC l ++ strsC m := by simp [strsC]
theorem strsC_one (l : List ByteArray) : ∀ y ∈ strsC l, y.oneCell' = true := fun y hy => by
  obtain ⟨s, _, rfl⟩ := List.mem_map.1 hy; rfl
theorem gather_spec (N : Nat) : ∀ {X : PMap} {e : Ex} {r : Row4} {lv : Value} {l : List ByteArray} {G : Own}, wtE e ≤ N → l.length + wtE e < 1000000000 → ExR .u8 X e r → GrowS 9 1 lv l.length (strsC l) G →
    SpecM Tryd.prog 49 [lv, .agg #[r.1, r.2.1, r.2.2.1, r.2.2.2]] X G fun u L' _ => GrowS 9 1 u (l ++ allE e).length (strsC (l ++ allE e)) L' := by
  induction N with
  | zero => intro X e r lv l G h; cases e; rw [wtE] at h; omega
  | succ N ih =>
    intro X e r lv l G hN hB h hG
    have hmx : maxLen = 9223372036854775807 := rfl
    cases h with
    | @mk op n ns al vn va rows hn ha hl hr =>
    obtain ⟨Aa, ca, rfl⟩ := ha.form
    obtain ⟨An, cn, rfl⟩ := hn.form
    have hlen := wtL_len al
    have hnl := wtS_len ns
    rw [wtE] at hN hB
    have hsrc := fun (own : Own) => Src.ofRow (own := own) strC_len hn
    simp only [strsC_flat] at hsrc
    refine SpecM.enter Tryd.func49 rfl Tryd.ntmps49 rfl ?_
    intro w0 X0 own0
    refine T.seq ?_
    refine T.region ?_
    refine SL.x (op_box rfl) rfl rfl ?_
    rintro _ _ _ ⟨B3, rfl, rfl, rfl⟩
    refine SL.y (op_assign rfl) rfl rfl ?_
    refine SL.nil ?_
    refine T.seq ?_
    refine T.region ?_
    refine SL.y (op_move rfl) rfl rfl ?_
    refine SL.y (op_fieldAddr fa34_2 rfl) rfl rfl ?_
    first | refine SL.y (op_load ty24 rfl (by repeat (first | exact AtO.here | apply AtO.there)) rfl) rfl rfl ?_ | refine SL.y (op_loadX ty24 rfl (by assumption) rfl) rfl rfl ?_
    -- op
    refine SL.perm (own' := (⟨B3, [.int .u8 (op : Int), .int .i64 n, .slice An ns.length cn, .slice Aa rows.length ca], 34, 4⟩ :: own0) ++ G) permA ?_
    refine SL.x (op_appendGA sl24 rfl hG rfl (hsrc _) (strsC_one ns) (by omega) (by omega)) rfl rfl ?_
    rintro lv1 _ _ ⟨G1, rfl, rfl, hG1⟩
    rw [← strsC_app, ← List.length_append] at hG1
    refine SL.y (op_assign rfl) rfl rfl ?_
    refine SL.nil ?_
    refine T.seq ?_
    refine T.seq ?_
    refine T.region ?_
    refine SL.y (op_fieldAddr fa34_3 rfl) rfl rfl ?_
    first | refine SL.y (op_load ty32 rfl (by repeat (first | exact AtO.here | apply AtO.there)) rfl) rfl rfl ?_ | refine SL.y (op_loadX ty32 rfl (by assumption) rfl) rfl rfl ?_
    refine SL.y (op_lenS Tryd.underlying32 rfl) rfl rfl ?_
    refine SL.y (op_move (v := .int .i64 ((0 : Nat) : Int)) rfl) rfl rfl ?_
    refine SL.nil ?_
    refine T.block ?_
    -- loop live [0, 4, 12, 13, 14]
    refine T.less (own' := own0 ++ G1) (List.sublist_cons_self ..) ?_
    refine T.perm (own' := G1 ++ own0) List.perm_append_comm ?_
    refine T.loopW (fun m env own X' => ∃ (i : Nat) (lv : Value) (G : Own), m = rows.length - i ∧ i ≤ rows.length ∧ X.le X' ∧ GrowS 9 1 lv (l ++ ns ++ allL (al.take i)).length (strsC (l ++ ns ++ allL (al.take i))) G ∧ env = [(0, lv), (12, .slice Aa rows.length ca), (13, .int .i64 (rows.length : Int)), (14, .int .i64 (i : Int))] ∧ own = G ++ own0) rows.length ⟨0, _, _, by simp, by omega, PMap.le_refl _, by simpa [allL] using hG1, rfl, rfl⟩ (by repeat (first | exact Sub.nil | refine Sub.cons rfl ?_)) ?_
    rintro m _ _ X1 ⟨i, lv2, G2, rfl, hi, hX1, hG2, rfl, rfl⟩
    rcases Nat.lt_or_ge i rows.length with hil | hil
    · obtain ⟨r2, hr2⟩ : ∃ r2, rows[i]? = some r2 := ⟨_, List.getElem?_eq_getElem hil⟩
      obtain ⟨a, ha2⟩ : ∃ a, al[i]? = some a := ⟨_, List.getElem?_eq_getElem (by omega)⟩
      have hra := hr i a r2 ha2 hr2
      obtain ⟨bA, pre, rfl, hbA⟩ := ha.blk (by omega)
      obtain ⟨_, _, _, _, _, _, _, _, rfl⟩ := hra.form
      have hts := take_snoc ha2
      have hw1 : wtL (al.take (i + 1)) ≤ wtL al := by
        have := wtL_app (al.drop (i + 1)) (al.take (i + 1))
        rw [List.take_append_drop] at this; omega
      have hw2 : wtL (al.take (i + 1)) = wtL (al.take i) + wtE a := by rw [hts, wtL_snoc]
      have q1 := allL_wt (al.take i)
      have q2 := all_wt a
      refine T.seq ?_
      refine T.region ?_
      first | refine SL.y (op_lssT rfl rfl (by omega)) rfl rfl ?_ | refine SL.y (op_lssF rfl rfl (by omega)) rfl rfl ?_ | refine SL.y (op_lss rfl rfl) rfl rfl ?_
      refine SL.nil ?_
      refine T.seq ?_
      refine T.condT rfl ?_
      refine T.skip ?_
      refine T.seq ?_
      refine T.block ?_
      refine T.seq ?_
      refine T.region ?_
      first | refine SL.y (op_indexN Tryd.underlying32 ty34 rfl rfl (by omega)) rfl rfl ?_ | refine SL.y (op_index Tryd.underlying32 ty34 rfl rfl (by omega) (by omega)) rfl rfl ?_
      -- to 17: op
      refine SL.y (op_loadX ty34 rfl (hbA.mono hX1) (row_read rc4_len hr2 (by omega))) rfl rfl ?_
      refine SL.x (op_alloc z34) rfl rfl ?_
      rintro _ _ _ ⟨B6, rfl, rfl, rfl⟩
      refine SL.x (op_store ty34 rfl rfl (by repeat (first | exact AtO.here | apply AtO.there)) rfl rfl rfl) rfl rfl ?_
      rintro _ _ _ ⟨rfl, rfl⟩
      refine SL.nil ?_
      refine T.region ?_
      refine SL.y (op_move rfl) rfl rfl ?_
      first | refine SL.y (op_load ty34 rfl (by repeat (first | exact AtO.here | apply AtO.there)) rfl) rfl rfl ?_ | refine SL.y (op_loadX ty34 rfl (by assumption) rfl) rfl rfl ?_
      -- op
      refine SL.perm (own' := G2 ++ (_ :: own0)) List.perm_middle.symm ?_
      refine SL.x (op_callM en49 (vs := [_, _]) rfl (ih (by omega) (by simp only [List.length_append]; omega) (hra.mono hX1) hG2) rfl) rfl rfl ?_
      rintro lv3 _ X2 ⟨G3, rfl, hX2, hG3⟩
      rw [show l ++ ns ++ allL (al.take i) ++ allE a = l ++ ns ++ allL (al.take (i + 1)) by rw [hts, allL_snoc]; simp] at hG3
      refine SL.y (op_assign rfl) rfl rfl ?_
      refine SL.nil ?_
      refine T.blk ?_
      refine T.region ?_
      first | refine SL.y (op_addN (q := 1) rfl rfl (by omega)) rfl rfl ?_ | refine SL.y (op_add rfl rfl (by omega) (by omega)) rfl rfl ?_ | refine SL.y (op_addW rfl rfl) rfl rfl ?_
      refine SL.y (op_move rfl) rfl rfl ?_
      refine SL.nil ?_
      -- cut
      refine T.less (own' := G3 ++ own0) (List.Sublist.append_left (List.sublist_cons_self ..) _) ?_
      exact T.backW (rows.length - (i + 1)) (by omega) ⟨i + 1, _, _, rfl, by omega, hX1.trans' hX2, hG3, rfl, rfl⟩ (by repeat (first | exact Sub.nil | refine Sub.cons rfl ?_))
    · obtain rfl : i = rows.length := by omega
      rw [show al.take rows.length = al from List.take_of_length_le (by omega)] at hG2
      refine T.seq ?_
      refine T.region ?_
      first | refine SL.y (op_lssT rfl rfl (by omega)) rfl rfl ?_ | refine SL.y (op_lssF rfl rfl (by omega)) rfl rfl ?_ | refine SL.y (op_lss rfl rfl) rfl rfl ?_
      refine SL.nil ?_
      refine T.seq ?_
      refine T.condF rfl ?_
      refine T.exit (T.exitCode (T.exitCut (T.exitBlk ?_)))
      refine T.seq ?_
      refine T.region ?_
      refine SL.y (op_move rfl) rfl rfl ?_
      refine SL.y (op_assign rfl) rfl rfl ?_
      refine SL.nil ?_
      -- ret
      refine T.retM1 G2 rfl (ResIs.tmp rfl) (List.Perm.refl _) ?_
      refine ⟨hX1, ?_⟩
      rw [allE, ← List.append_assoc]
      exact hG2
theorem compact_snoc : ∀ (l : List ByteArray) (a b : ByteArray), compactS (l ++ [a] ++ [b]) = compactS (l ++ [a]) ++ (if a = b then [] else [b])
  | [], a, b => by
    simp only [List.nil_append, List.cons_append, compactS]
    split <;> simp_all
  | [x], a, b => by
    simp only [List.cons_append, List.nil_append, compactS]
    split <;> split <;> simp_all
  | x :: y :: l, a, b => by
    have := compact_snoc (y :: l) a b
    simp only [List.cons_append] at this ⊢
    rw [compactS, compactS, this]
    split
    · rfl
    · rfl
theorem compact_step {l : List ByteArray} {j : Nat} {a b : ByteArray} (ha : l[j]? = some a) (hb : l[j + 1]? = some b) : compactS (l.take (j + 2)) = compactS (l.take (j + 1)) ++ (if a = b then [] else [b]) := by
  rw [take_snoc hb, take_snoc ha, compact_snoc]
theorem set_take {α : Type} {l : List α} {k j : Nat} {x : α} (h : j < l.length) (hk : j = k) : (l.set j x).take (k + 1) = l.take k ++ [x] := by
  subst hk
  rw [List.take_succ_eq_append_getElem (by rw [List.length_set]; exact h), List.getElem_set_self, List.take_set_of_le (Nat.le_refl _)]
def zS (k : Nat) : List Value := (List.replicate k [Value.string ⟨#[]⟩]).flatten
theorem zS_len (k : Nat) : (zS k).length = k := by
  induction k with
  | zero => rfl
  | succ k ih => simp only [zS, List.replicate_succ, List.flatten_cons, List.length_append, List.length_cons, List.length_nil] at ih ⊢; omega
theorem csets_end : ∀ (vs pre old : List Value), old.length = vs.length → csets (pre ++ old) pre.length vs = pre ++ vs
  | [], pre, old, h => by
    obtain rfl := List.eq_nil_of_length_eq_zero (l := old) (by simpa using h)
    simp [csets]
  | v :: vs, pre, o :: old, h => by
    rw [csets, List.set_append_right _ _ (Nat.le_refl _), Nat.sub_self]
    have := csets_end vs (pre ++ [v]) old (by simpa using h)
    rw [List.length_append] at this
    simpa using this
theorem compact_spec {X : PMap} {b cap : Nat} {l : List ByteArray} (h0 : 0 < l.length) (hl : l.length < 1000000) (hc : l.length ≤ cap) : SpecM Tryd.prog 51 [.slice (some ⟨b, 0, none⟩) l.length cap] X [⟨b, strsC l, 9, cap * 1⟩] fun u L' _ => u = .slice (some ⟨b, 0, none⟩) (compactS l).length cap ∧ L' = [⟨b, strsC (compactS l), 9, cap * 1⟩] := by
  have hmx : maxLen = 9223372036854775807 := rfl
  rcases Nat.lt_or_ge l.length 2 with h2 | h2
  · obtain ⟨a, rfl⟩ : ∃ a, l = [a] := by
      match l, h0, h2 with
      | [a], _, _ => exact ⟨a, rfl⟩
    refine SpecM.enter Tryd.func51 rfl Tryd.ntmps51 rfl ?_
    intro w0 X0 own0
    refine T.seq ?_
    refine T.region ?_
    refine SL.y (op_assign rfl) rfl rfl ?_
    refine SL.nil ?_
    refine T.seq ?_
    refine T.seq ?_
    refine T.region ?_
    refine SL.y (op_move rfl) rfl rfl ?_
    refine SL.y (op_lenS Tryd.underlying24 rfl) rfl rfl ?_
    first | refine SL.y (op_lssT rfl rfl (by omega)) rfl rfl ?_ | refine SL.y (op_lssF rfl rfl (by omega)) rfl rfl ?_ | refine SL.y (op_lss rfl rfl) rfl rfl ?_
    refine SL.nil ?_
    refine T.condT rfl ?_
    refine T.seq ?_
    refine T.region ?_
    refine SL.y (op_move rfl) rfl rfl ?_
    refine SL.y (op_assign rfl) rfl rfl ?_
    refine SL.nil ?_
    -- ret
    refine T.retM1 [⟨b, strsC [a], 9, cap * 1⟩] rfl (ResIs.tmp rfl) (List.Perm.refl _) ?_
    exact ⟨PMap.le_refl _, rfl, rfl⟩
  refine SpecM.enter Tryd.func51 rfl Tryd.ntmps51 rfl ?_
  intro w0 X0 own0
  refine T.perm (own' := ⟨b, strsC l, 9, cap * 1⟩ :: own0) (List.Perm.refl _) ?_
  refine T.seq ?_
  refine T.region ?_
  refine SL.y (op_assign rfl) rfl rfl ?_
  refine SL.nil ?_
  refine T.seq ?_
  refine T.seq ?_
  refine T.region ?_
  refine SL.y (op_move rfl) rfl rfl ?_
  refine SL.y (op_lenS Tryd.underlying24 rfl) rfl rfl ?_
  first | refine SL.y (op_lssT rfl rfl (by omega)) rfl rfl ?_ | refine SL.y (op_lssF rfl rfl (by omega)) rfl rfl ?_ | refine SL.y (op_lss rfl rfl) rfl rfl ?_
  refine SL.nil ?_
  refine T.condF rfl ?_
  refine T.skip ?_
  refine T.seq ?_
  refine T.seq ?_
  refine T.region ?_
  refine SL.y (op_assign (v := .int .i64 ((1 : Nat) : Int)) rfl) rfl rfl ?_
  refine SL.nil ?_
  refine T.block ?_
  -- loop live [0, 2, 3]
  refine T.loopW (fun m env own X' => ∃ k : Nat, m = l.length - k ∧ 1 ≤ k ∧ k ≤ l.length ∧ X.le X' ∧ compactS (l.take k) = l.take k ∧ env = [(0, .slice (some ⟨b, 0, none⟩) l.length cap), (3, .int .i64 (k : Int))] ∧ own = ⟨b, strsC l, 9, cap * 1⟩ :: own0) (l.length - 1) ⟨1, rfl, by omega, by omega, PMap.le_refl _, by (match l, h0 with | a :: l, _ => rfl), rfl, rfl⟩ (by repeat (first | exact Sub.nil | refine Sub.cons rfl ?_)) ?_
  rintro m _ _ X1 ⟨k, rfl, hk1, hk, hX1, hcp, rfl, rfl⟩
  rcases Nat.lt_or_ge k l.length with hkl | hkl
  · obtain ⟨q, rfl⟩ : ∃ q, k = q + 1 := ⟨k - 1, by omega⟩
    obtain ⟨x, hx⟩ : ∃ x, l[q + 1]? = some x := ⟨_, List.getElem?_eq_getElem (by omega)⟩
    obtain ⟨p, hp⟩ : ∃ p, l[q]? = some p := ⟨_, List.getElem?_eq_getElem (by omega)⟩
    have hcs := compact_step hp hx
    refine T.seq ?_
    refine T.seq ?_
    refine T.region ?_
    refine SL.y (op_move rfl) rfl rfl ?_
    refine SL.y (op_move rfl) rfl rfl ?_
    refine SL.y (op_lenS Tryd.underlying24 rfl) rfl rfl ?_
    first | refine SL.y (op_lssT rfl rfl (by omega)) rfl rfl ?_ | refine SL.y (op_lssF rfl rfl (by omega)) rfl rfl ?_ | refine SL.y (op_lss rfl rfl) rfl rfl ?_
    refine SL.nil ?_
    refine T.condT rfl ?_
    refine T.skip ?_
    refine T.seq ?_
    refine T.block ?_
    refine T.seq ?_
    refine T.draw (by kernel_rfl) 10 [.t 0, .t 1, .t 2, .t 3, .t 4, .t 5, .t 6, .t 7, .t 8, .t 9] (by kernel_rfl) ?_
    refine SD.take rfl panicBody (op_move rfl) rfl rfl ?_
    refine SD.take rfl panicBody (op_move rfl) rfl rfl ?_
    first | refine SD.take rfl panicBody (op_indexN Tryd.underlying24 ty9 rfl rfl (by omega)) rfl rfl ?_ | refine SD.take rfl panicBody (op_index Tryd.underlying24 ty9 rfl rfl (by omega) (by omega)) rfl rfl ?_
    -- to 19: op
    refine SD.take rfl panicBody (op_load ty9 rfl (by repeat (first | exact AtO.here | apply AtO.there)) (cread1k' (strsC_at hx) (by omega))) rfl rfl ?_
    refine SD.take rfl panicBody (op_move rfl) rfl rfl ?_
    refine SD.take rfl panicBody (op_move rfl) rfl rfl ?_
    first | refine SD.take rfl panicBody (op_subN (q := 1) rfl rfl (by omega) (by omega)) rfl rfl ?_ | refine SD.take rfl panicBody (op_sub rfl rfl (by omega) (by omega)) rfl rfl ?_ | refine SD.take rfl panicBody (op_subW rfl rfl) rfl rfl ?_
    first | refine SD.take rfl panicBody (op_indexN Tryd.underlying24 ty9 rfl rfl (by omega)) rfl rfl ?_ | refine SD.take rfl panicBody (op_index Tryd.underlying24 ty9 rfl rfl (by omega) (by omega)) rfl rfl ?_
    -- to 24: op
    refine SD.take rfl panicBody (op_load ty9 rfl (by repeat (first | exact AtO.here | apply AtO.there)) (cread1k' (strsC_at hp) (by omega))) rfl rfl ?_
    refine SD.take rfl panicBody (op_eqlStrD rfl rfl) rfl rfl ?_
    refine SD.nil ?_
    show SL _ _ _ _ _ _ _ [] _ _ _
    refine SL.nil ?_
    -- cond
    by_cases hxp : x = p
    · rw [decide_eq_true hxp]
      rw [if_pos hxp.symm, List.append_nil] at hcs
      refine T.condT rfl ?_
      refine T.seq ?_
      refine T.region ?_
      refine SL.y (op_move rfl) rfl rfl ?_
      refine SL.y (op_move rfl) rfl rfl ?_
      -- to 28: op
      refine SL.y (op_sliceLoN (l := q + 1) Tryd.underlying24 ty9 rfl rfl rfl (by omega) (by omega) (by omega)) rfl rfl ?_
      refine SL.y (op_assign rfl) rfl rfl ?_
      refine SL.nil ?_
      refine T.seq ?_
      refine T.seq ?_
      refine T.region ?_
      refine SL.y (op_assign (v := .int .i64 ((1 : Nat) : Int)) rfl) rfl rfl ?_
      refine SL.nil ?_
      refine T.block ?_
      -- loop live [0, 2, 3, 4, 5]
      refine T.loopW (fun m env own X' => ∃ (k2 k : Nat) (cs : List ByteArray), m = l.length - (q + 1) - k2 ∧ 1 ≤ k2 ∧ k2 ≤ l.length - (q + 1) ∧ X1.le X' ∧ k ≤ q + k2 ∧ cs.length = l.length ∧ cs.take k = compactS (l.take (q + 1 + k2)) ∧ k = (compactS (l.take (q + 1 + k2))).length ∧ (∀ w, q + k2 ≤ w → cs[w]? = l[w]?) ∧ env = [(0, .slice (some ⟨b, 0, none⟩) l.length cap), (3, .int .i64 (k : Int)), (4, .slice (some ⟨b, 0 + (q + 1) * 1, none⟩) (l.length - (q + 1)) (cap - (q + 1))), (5, .int .i64 (k2 : Int))] ∧ own = ⟨b, strsC cs, 9, cap * 1⟩ :: own0) (l.length - (q + 1) - 1) ⟨1, q + 1, l, rfl, by omega, by omega, PMap.le_refl _, by omega, rfl, by rw [hcs, hcp], by rw [hcs, hcp, List.length_take]; omega, fun _ _ => rfl, rfl, rfl⟩ (by repeat (first | exact Sub.nil | refine Sub.cons rfl ?_)) ?_
      rintro m _ _ X2 ⟨k2, k, cs, rfl, hk21, hk2, hX2, hkk, hcl, hct, hkc, hun, rfl, rfl⟩
      rcases Nat.lt_or_ge k2 (l.length - (q + 1)) with hk3 | hk3
      · obtain ⟨x2, hx2⟩ : ∃ x, l[q + k2 + 1]? = some x := ⟨_, List.getElem?_eq_getElem (by omega)⟩
        obtain ⟨p2, hp2⟩ : ∃ p, l[q + k2]? = some p := ⟨_, List.getElem?_eq_getElem (by omega)⟩
        have hcs2 := compact_step hp2 hx2
        rw [show q + k2 + 2 = q + 1 + (k2 + 1) by omega, show q + k2 + 1 = q + 1 + k2 by omega] at hcs2
        have hx3 := (hun (q + k2 + 1) (by omega)).trans hx2
        have hp3 := (hun (q + k2) (by omega)).trans hp2
        refine T.seq ?_
        refine T.seq ?_
        refine T.region ?_
        refine SL.y (op_move rfl) rfl rfl ?_
        refine SL.y (op_move rfl) rfl rfl ?_
        refine SL.y (op_lenS Tryd.underlying24 rfl) rfl rfl ?_
        first | refine SL.y (op_lssT rfl rfl (by omega)) rfl rfl ?_ | refine SL.y (op_lssF rfl rfl (by omega)) rfl rfl ?_ | refine SL.y (op_lss rfl rfl) rfl rfl ?_
        refine SL.nil ?_
        refine T.condT rfl ?_
        refine T.skip ?_
        refine T.seq ?_
        refine T.block ?_
        refine T.seq ?_
        refine T.draw (by kernel_rfl) 10 [.t 0, .t 1, .t 2, .t 3, .t 4, .t 5, .t 6, .t 7, .t 8, .t 9] (by kernel_rfl) ?_
        refine SD.take rfl panicBody (op_move rfl) rfl rfl ?_
        refine SD.take rfl panicBody (op_move rfl) rfl rfl ?_
        first | refine SD.take rfl panicBody (op_indexN Tryd.underlying24 ty9 rfl rfl (by omega)) rfl rfl ?_ | refine SD.take rfl panicBody (op_index Tryd.underlying24 ty9 rfl rfl (by omega) (by omega)) rfl rfl ?_
        -- to 38: op
        refine SD.take rfl panicBody (op_load ty9 rfl (by repeat (first | exact AtO.here | apply AtO.there)) (cread1k' (strsC_at hx3) (by omega))) rfl rfl ?_
        refine SD.take rfl panicBody (op_move rfl) rfl rfl ?_
        refine SD.take rfl panicBody (op_move rfl) rfl rfl ?_
        first | refine SD.take rfl panicBody (op_subN (q := 1) rfl rfl (by omega) (by omega)) rfl rfl ?_ | refine SD.take rfl panicBody (op_sub rfl rfl (by omega) (by omega)) rfl rfl ?_ | refine SD.take rfl panicBody (op_subW rfl rfl) rfl rfl ?_
        first | refine SD.take rfl panicBody (op_indexN Tryd.underlying24 ty9 rfl rfl (by omega)) rfl rfl ?_ | refine SD.take rfl panicBody (op_index Tryd.underlying24 ty9 rfl rfl (by omega) (by omega)) rfl rfl ?_
        -- to 43: op
        refine SD.take rfl panicBody (op_load ty9 rfl (by repeat (first | exact AtO.here | apply AtO.there)) (cread1k' (strsC_at hp3) (by omega))) rfl rfl ?_
        refine SD.take rfl panicBody (op_neqStrD rfl rfl) rfl rfl ?_
        refine SD.nil ?_
        show SL _ _ _ _ _ _ _ [] _ _ _
        refine SL.nil ?_
        -- cond
        by_cases hxp2 : x2 = p2
        · rw [decide_eq_true hxp2, Bool.not_true]
          rw [if_pos hxp2.symm, List.append_nil] at hcs2
          refine T.condF rfl ?_
          refine T.skip ?_
          refine T.blk ?_
          refine T.region ?_
          refine SL.y (op_move rfl) rfl rfl ?_
          first | refine SL.y (op_addN (q := 1) rfl rfl (by omega)) rfl rfl ?_ | refine SL.y (op_add rfl rfl (by omega) (by omega)) rfl rfl ?_ | refine SL.y (op_addW rfl rfl) rfl rfl ?_
          refine SL.y (op_assign rfl) rfl rfl ?_
          refine SL.nil ?_
          -- cut
          exact T.backW (l.length - (q + 1) - (k2 + 1)) (by omega) ⟨k2 + 1, k, cs, rfl, by omega, by omega, hX2, by omega, hcl, by rw [hcs2]; exact hct, by rw [hcs2]; exact hkc, fun w hw => hun w (by omega), rfl, rfl⟩ (by repeat (first | exact Sub.nil | refine Sub.cons rfl ?_))
        · rw [decide_eq_false hxp2, Bool.not_false]
          rw [if_neg fun h => hxp2 h.symm] at hcs2
          refine T.condT rfl ?_
          refine T.seq ?_
          refine T.region ?_
          refine SL.y (op_move rfl) rfl rfl ?_
          refine SL.y (op_move rfl) rfl rfl ?_
          refine SL.y (op_move rfl) rfl rfl ?_
          refine SL.y (op_move rfl) rfl rfl ?_
          first | refine SL.y (op_indexN Tryd.underlying24 ty9 rfl rfl (by omega)) rfl rfl ?_ | refine SL.y (op_index Tryd.underlying24 ty9 rfl rfl (by omega) (by omega)) rfl rfl ?_
          -- to 50: op
          refine SL.y (op_load ty9 rfl (by repeat (first | exact AtO.here | apply AtO.there)) (cread1k' (strsC_at hx3) (by omega))) rfl rfl ?_
          first | refine SL.y (op_indexN Tryd.underlying24 ty9 rfl rfl (by omega)) rfl rfl ?_ | refine SL.y (op_index Tryd.underlying24 ty9 rfl rfl (by omega) (by omega)) rfl rfl ?_
          -- to store: op
          refine SL.x (op_store ty9 rfl rfl (by repeat (first | exact AtO.here | apply AtO.there)) rfl rfl (Nat.ble_eq_true_of_le (by rw [strsC_len]; omega))) rfl rfl ?_
          rintro _ _ _ ⟨rfl, rfl⟩
          refine SL.perm (own' := ⟨b, strsC (cs.set k x2), 9, cap * 1⟩ :: own0) (List.Perm.of_eq (by rw [← strsC_set]; simp only [Nat.zero_add, Nat.mul_one]; rfl)) ?_
          refine SL.nil ?_
          refine T.region ?_
          refine SL.y (op_move rfl) rfl rfl ?_
          first | refine SL.y (op_addN (q := 1) rfl rfl (by omega)) rfl rfl ?_ | refine SL.y (op_add rfl rfl (by omega) (by omega)) rfl rfl ?_ | refine SL.y (op_addW rfl rfl) rfl rfl ?_
          refine SL.y (op_assign rfl) rfl rfl ?_
          refine SL.nil ?_
          refine T.blk ?_
          refine T.region ?_
          refine SL.y (op_move rfl) rfl rfl ?_
          first | refine SL.y (op_addN (q := 1) rfl rfl (by omega)) rfl rfl ?_ | refine SL.y (op_add rfl rfl (by omega) (by omega)) rfl rfl ?_ | refine SL.y (op_addW rfl rfl) rfl rfl ?_
          refine SL.y (op_assign rfl) rfl rfl ?_
          refine SL.nil ?_
          -- cut
          exact T.backW (l.length - (q + 1) - (k2 + 1)) (by omega) ⟨k2 + 1, k + 1, cs.set k x2, rfl, by omega, by omega, hX2, by omega, by rw [List.length_set]; exact hcl, by rw [set_take (by omega) rfl, hct, hcs2], by rw [hcs2, List.length_append]; simp; omega, fun w hw => by rw [List.getElem?_set_ne (by omega)]; exact hun w (by omega), rfl, rfl⟩ (by repeat (first | exact Sub.nil | refine Sub.cons rfl ?_))
      · obtain rfl : k2 = l.length - (q + 1) := by omega
        have hfull : l.take (q + 1 + (l.length - (q + 1))) = l := List.take_of_length_le (by omega)
        rw [hfull] at hct hkc
        refine T.seq ?_
        refine T.seq ?_
        refine T.region ?_
        refine SL.y (op_move rfl) rfl rfl ?_
        refine SL.y (op_move rfl) rfl rfl ?_
        refine SL.y (op_lenS Tryd.underlying24 rfl) rfl rfl ?_
        first | refine SL.y (op_lssT rfl rfl (by omega)) rfl rfl ?_ | refine SL.y (op_lssF rfl rfl (by omega)) rfl rfl ?_ | refine SL.y (op_lss rfl rfl) rfl rfl ?_
        refine SL.nil ?_
        refine T.condF rfl ?_
        refine T.exit (T.exitCode (T.exitCut (T.exitBlk ?_)))
        refine T.seq ?_
        refine T.region ?_
        refine SL.y (op_move rfl) rfl rfl ?_
        refine SL.y (op_move rfl) rfl rfl ?_
        -- to 56: op
        refine SL.y (op_sliceLoN (l := k) Tryd.underlying24 ty9 rfl rfl rfl (by omega) (by omega) (by omega)) rfl rfl ?_
        refine SL.x (op_clear (zs := [.string ⟨#[]⟩]) Tryd.underlying24 (by obtain ⟨i, z, a, _, b, c⟩ := bs9; exact ⟨i, z, a, b, c⟩) rfl AtO.here (by omega) (by rw [strsC_len]; simp; omega) (by intro v hv; simp at hv; subst hv; rfl)) rfl rfl ?_
        rintro _ _ _ ⟨rfl, rfl⟩
        refine SL.perm (own' := ⟨b, strsC (compactS l) ++ zS (l.length - k), 9, cap * 1⟩ :: own0) (List.Perm.of_eq (by
          have e1 : strsC cs = strsC (compactS l) ++ strsC (cs.drop k) := by rw [← strsC_app, ← hct, List.take_append_drop]
          have e2 := csets_end (zS (l.length - k)) (strsC (compactS l)) (strsC (cs.drop k)) (by rw [strsC_len, zS_len, List.length_drop, hcl])
          rw [strsC_len, ← hkc] at e2
          rw [← e2, ← e1, show 0 + k * 1 = k by omega]
          rfl)) ?_
        refine SL.cut AtO.here ?_
        refine SL.nil ?_
        refine T.seq ?_
        refine T.region ?_
        refine SL.y (op_move rfl) rfl rfl ?_
        refine SL.y (op_move rfl) rfl rfl ?_
        -- to 59: op
        refine SL.y (op_sliceHiN (l := k) Tryd.underlying24 ty9 rfl rfl rfl (by omega)) rfl rfl ?_
        refine SL.y (op_assign rfl) rfl rfl ?_
        refine SL.nil ?_
        -- ret
        refine T.retM1 [⟨b, strsC (compactS l), 9, cap * 1⟩] rfl (ResIs.tmp rfl) (List.Perm.refl _) ?_
        exact ⟨hX1.trans' hX2, by rw [← hkc], rfl⟩
    · rw [decide_eq_false hxp]
      rw [if_neg fun h => hxp h.symm] at hcs
      refine T.condF rfl ?_
      refine T.skip ?_
      refine T.blk ?_
      refine T.region ?_
      refine SL.y (op_move rfl) rfl rfl ?_
      first | refine SL.y (op_addN (q := 1) rfl rfl (by omega)) rfl rfl ?_ | refine SL.y (op_add rfl rfl (by omega) (by omega)) rfl rfl ?_ | refine SL.y (op_addW rfl rfl) rfl rfl ?_
      refine SL.y (op_assign rfl) rfl rfl ?_
      refine SL.nil ?_
      -- cut
      exact T.backW (l.length - (q + 1 + 1)) (by omega) ⟨q + 1 + 1, rfl, by omega, by omega, hX1, by rw [hcs, hcp, take_snoc hx], rfl, rfl⟩ (by repeat (first | exact Sub.nil | refine Sub.cons rfl ?_))
  · obtain rfl : k = l.length := by omega
    rw [List.take_length] at hcp
    refine T.seq ?_
    refine T.seq ?_
    refine T.region ?_
    refine SL.y (op_move rfl) rfl rfl ?_
    refine SL.y (op_move rfl) rfl rfl ?_
    refine SL.y (op_lenS Tryd.underlying24 rfl) rfl rfl ?_
    first | refine SL.y (op_lssT rfl rfl (by omega)) rfl rfl ?_ | refine SL.y (op_lssF rfl rfl (by omega)) rfl rfl ?_ | refine SL.y (op_lss rfl rfl) rfl rfl ?_
    refine SL.nil ?_
    refine T.condF rfl ?_
    refine T.exit (T.exitCode (T.exitCut (T.exitBlk ?_)))
    refine T.seq ?_
    refine T.region ?_
    refine SL.y (op_move rfl) rfl rfl ?_
    refine SL.y (op_assign rfl) rfl rfl ?_
    refine SL.nil ?_
    -- ret
    refine T.retM1 [⟨b, strsC l, 9, cap * 1⟩] rfl (ResIs.tmp rfl) (List.Perm.refl _) ?_
    exact ⟨hX1, by rw [hcp], by rw [hcp]⟩
/-- The names of an expression, as the program lists them: at most twelve. -/
theorem names_spec {X : PMap} {e : Ex} {r : Row4} (hw : wtE e < 100000000) (h : ExR .u8 X e r) (h1 : 0 < (allE e).length) (h12 : (allE e).length ≤ 12) : Spec Tryd.prog 20 [.agg #[r.1, r.2.1, r.2.2.1, r.2.2.2]] X fun u X' => ∃ l' : List ByteArray, l'.Perm (allE e) ∧ AscS l' ∧ RowR strC X' u (compactS l') := by
  obtain ⟨_, _, _, _, _, _, _, _, rfl⟩ := h.form
  have hmx : maxLen = 9223372036854775807 := rfl
  refine Spec.enter Tryd.func20 rfl Tryd.ntmps20 rfl ?_
  intro w0 hw0
  refine T.seq ?_
  refine T.region ?_
  refine SL.x (op_box rfl) rfl rfl ?_
  rintro _ _ _ ⟨B1, rfl, rfl, rfl⟩
  refine SL.y (op_assign rfl) rfl rfl ?_
  refine SL.nil ?_
  refine T.seq ?_
  refine T.region ?_
  first | refine SL.y (op_load ty34 rfl (by repeat (first | exact AtO.here | apply AtO.there)) rfl) rfl rfl ?_ | refine SL.y (op_loadX ty34 rfl (by assumption) rfl) rfl rfl ?_
  -- op
  refine SL.x (op_callM en49 (vs := [_, _]) rfl (gather_spec _ (Nat.le_refl _) (l := []) (by simp; omega) h GrowS.nil) rfl) rfl rfl ?_
  rintro lv _ X1 ⟨G, rfl, hX1, hG⟩
  rw [List.nil_append] at hG
  obtain ⟨b, cap, rfl, rfl, hc1, hc2⟩ := hG.pos h1
  refine SL.y (op_assign rfl) rfl rfl ?_
  refine SL.nil ?_
  refine T.seq ?_
  refine T.region ?_
  refine SL.y (op_move rfl) rfl rfl ?_
  -- op
  refine SL.x (op_callM en50 (vs := [_]) rfl (sort_spec h1 h12) rfl) rfl rfl ?_
  rintro _ _ X2 ⟨_, rfl, hX2, l', rfl, hp, ha⟩
  have hpl := hp.length_eq
  rw [← hpl]
  refine SL.nil ?_
  refine T.seq ?_
  refine T.region ?_
  refine SL.y (op_move rfl) rfl rfl ?_
  -- op
  refine SL.x (op_callM en51 (vs := [_]) rfl (compact_spec (by omega) (by omega) (by omega)) rfl) rfl rfl ?_
  rintro _ _ X3 ⟨_, rfl, hX3, rfl, rfl⟩
  refine SL.y (op_assign rfl) rfl rfl ?_
  refine SL.nil ?_
  -- ret
  refine T.pub b (by repeat (first | exact AtO.here | apply AtO.there)) ?_
  intro X4 hX4 hB4 _
  refine T.ret1 rfl (ResIs.tmp rfl) ?_
  refine ⟨l', hp, ha, ?_⟩
  rcases Nat.eq_zero_or_pos (compactS l').length with h0 | h0
  · rw [h0]
    exact .inl ⟨List.eq_nil_of_length_eq_zero h0, _, _, rfl⟩
  · have := compact_len l'
    exact .inr ⟨h0, b, cap, [], rfl, by rw [strsC_flat]; exact hB4, by omega, by omega⟩
end Go.Proofs.YtaooojjhlngcmaaDoor
