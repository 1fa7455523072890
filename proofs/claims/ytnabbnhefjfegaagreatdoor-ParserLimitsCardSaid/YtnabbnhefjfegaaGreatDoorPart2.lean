/- What the law's proof rests on: the engine, a small separation logic over the kit's walk, and contracts of the functions that the law reaches. Part 2. -/
import Derived.Lib.MakeNoZero
import Derived.Laws.IdiomStrings
import Derived.ChangeMaps5
import Derived.Test.YtnabbnhefjfegaaGreatDoorChecked
import Derived.Shelf.Strings.Repeat
import Derived.Shelf.Sort.AssemblysIn
import Derived.Shelf.Strconv.Itoa3
import Derived.Sort.EveryDepth
import Derived.Test.YtnabbnhefjfegaaGreatDoorPart1
namespace Go.Proofs.YtnabbnhefjfegaaGreatDoor
section
set_option maxRecDepth 100000
theorem en54 : Enters Tryz.prog 54 := enters_mk Tryz.func54 (by kernel_rfl) rfl
theorem en55 : Enters Tryz.prog 55 := enters_mk Tryz.func55 (by kernel_rfl) rfl
theorem fa40_3 : FAdr Tryz.prog 40 3 3 := fadr_mk Tryz.underlying40 rfl rfl (by kernel_rfl)
theorem ty38 : Ty Tryz.prog 38 false 1 := ⟨⟨_, Tryz.underlying38, rfl⟩, by kernel_rfl⟩
theorem ty40 : Ty Tryz.prog 40 true 4 := ⟨⟨_, Tryz.underlying40, rfl⟩, by kernel_rfl⟩
theorem z40 : Zero Tryz.prog 40 [.int .u8 0, .int .i64 0, .slice none 0 0, .slice none 0 0] := ⟨zero_of (by kernel_rfl)⟩
end
open Go.RowKit
theorem take_snoc {α : Type} {l : List α} {i : Nat} {a : α} (h : l[i]? = some a) : l.take (i + 1) = l.take i ++ [a] := by
  obtain ⟨h1, h2⟩ := List.getElem?_eq_some_iff.1 h
  rw [List.take_succ_eq_append_getElem h1, h2]
theorem depth_spec (N : Nat) : ∀ {X : PMap} {e : Ex} {r : Row4}, wtE e ≤ N → N < 4000000000000 → ExR .u8 X e r → Spec Tryz.prog 54 [.agg #[r.1, r.2.1, r.2.2.1, r.2.2.2]] X fun u _ => u = .int .i64 (depE e : Int) := by
  induction N with
  | zero => intro X e r h; cases e; rw [wtE] at h; omega
  | succ N ih =>
    intro X e r hN hB h
    cases h with
    | @mk op n ns al vn va rows hn ha hl hr =>
    obtain ⟨Aa, ca, rfl⟩ := ha.form
    have hlen := wtL_len al
    rw [wtE] at hN
    refine Spec.enter Tryz.func54 rfl Tryz.ntmps54 rfl ?_
    intro w0 hw0
    refine T.seq <| T.region <| SL.w (op_box rfl) ?_
    rintro _ _ _ ⟨B1, rfl, rfl, rfl⟩
    refine SL.v (op_assign (v := .int .i64 ((0 : Nat) : Int)) rfl) <| SL.nil <| T.seq <| T.region <| SL.v (op_assign (v := .int .i64 ((0 : Nat) : Int)) rfl) <| SL.nil <| T.seq <| T.seq <| T.region <| SL.v (op_fieldAddr fa40_3 rfl) <| SL.v (op_load ty38 rfl (by repeat constructor) rfl) ?_
    refine SL.v (op_lenS Tryz.underlying38 rfl) <| SL.v (op_move (v := .int .i64 ((0 : Nat) : Int)) rfl) <| SL.nil <| T.block <| T.drop B1 (by repeat constructor) ?_
    refine T.loopW (fun m env own X' => ∃ i : Nat, m = rows.length - i ∧ i ≤ rows.length ∧ X.le X' ∧ env = [(3, .int .i64 (depL (al.take i) : Int)), (7, .slice Aa rows.length ca), (8, .int .i64 (rows.length : Int)), (9, .int .i64 (i : Int))] ∧ own = []) rows.length ⟨0, by simp, by omega, PMap.le_refl _, rfl, rfl⟩ (by repeat (first | exact Sub.nil | refine Sub.cons rfl ?_)) ?_
    rintro m _ _ X1 ⟨i, rfl, hi, hX1, rfl, rfl⟩
    have hdw := fun l : List Ex => depL_wt l
    rcases Nat.lt_or_ge i rows.length with hil | hil
    · obtain ⟨r2, hr2⟩ : ∃ r2, rows[i]? = some r2 := ⟨_, List.getElem?_eq_getElem hil⟩
      obtain ⟨a, ha2⟩ : ∃ a, al[i]? = some a := ⟨_, List.getElem?_eq_getElem (by omega)⟩
      have hra := hr i a r2 ha2 hr2
      obtain ⟨bA, pre, rfl, hbA⟩ := ha.blk (by omega)
      obtain ⟨_, _, _, _, _, _, _, _, rfl⟩ := hra.form
      have hwa := wtL_mem (List.mem_of_getElem? ha2)
      have hts := take_snoc ha2
      have hw1 : wtL (al.take (i + 1)) ≤ wtL al := by
        have := wtL_app (al.drop (i + 1)) (al.take (i + 1))
        rw [List.take_append_drop] at this; omega
      have hw2 : wtL (al.take (i + 1)) = wtL (al.take i) + wtE a := by rw [hts, wtL_snoc]
      have q1 := sizL_wt (al.take i)
      have q2 := siz_wt a
      have q3 := depL_wt (al.take i)
      have q4 := dep_wt a
      refine T.seq <| T.region <| SL.v (op_lssT rfl rfl (by omega)) ?_
      refine SL.nil <| T.seq <| T.condT rfl <| T.skip <| T.seq <| T.block <| T.seq <| T.region <| SL.v (op_indexN Tryz.underlying38 ty40 rfl rfl (by omega)) ?_
      refine SL.v (op_loadX ty40 rfl (hbA.mono hX1) (row_read rc4_len hr2 (by omega))) ?_
      refine SL.w (op_alloc z40) ?_
      rintro _ _ _ ⟨B5, rfl, rfl, rfl⟩
      refine SL.w (op_store ty40 rfl rfl (by repeat constructor) rfl rfl rfl) ?_
      rintro _ _ _ ⟨rfl, rfl⟩
      refine SL.nil <| T.region <| SL.mv rfl <| SL.v (op_load ty40 rfl (by repeat constructor) rfl) ?_
      refine SL.w (op_callF en54 (vs := [_]) rfl (ih (by omega) (by omega) (hra.mono hX1))) ?_
      rintro _ _ X2 ⟨rfl, hX2, rfl⟩
      refine SL.v (op_maxN rfl rfl) ?_
      rw [show max (depL (al.take i)) (depE a) = depL (al.take (i + 1)) by rw [hts, depL_snoc]]
      refine SL.as rfl <| SL.nil <| T.blk <| T.region <| SL.v (op_addN (q := 1) rfl rfl (by omega)) ?_
      refine SL.mv rfl <| SL.nil <| T.drop B5 (by repeat constructor) ?_
      exact T.backW (rows.length - (i + 1)) (by omega) ⟨i + 1, rfl, by omega, hX1.trans' hX2, rfl, rfl⟩ (by repeat (first | exact Sub.nil | refine Sub.cons rfl ?_))
    · obtain rfl : i = rows.length := by omega
      rw [show al.take rows.length = al from List.take_of_length_le (by omega)]
      have q1 := sizL_wt al
      have q3 := depL_wt al
      refine T.seq <| T.region <| SL.v (op_lssF rfl rfl (by omega)) ?_
      refine SL.nil <| T.seq <| T.condF rfl ?_
      refine T.exit (T.exitCode (T.exitCut (T.exitBlk ?_)))
      refine T.seq <| T.region <| SL.mv rfl <| SL.v (op_addN (q := 1) rfl rfl (by omega)) ?_
      refine SL.as rfl <| SL.nil <| T.ret1 rfl (ResIs.tmp rfl) ?_
      rw [depE]
theorem size_spec (N : Nat) : ∀ {X : PMap} {e : Ex} {r : Row4}, wtE e ≤ N → N < 4000000000000 → ExR .u8 X e r → Spec Tryz.prog 55 [.agg #[r.1, r.2.1, r.2.2.1, r.2.2.2]] X fun u _ => u = .int .i64 (sizE e : Int) := by
  induction N with
  | zero => intro X e r h; cases e; rw [wtE] at h; omega
  | succ N ih =>
    intro X e r hN hB h
    cases h with
    | @mk op n ns al vn va rows hn ha hl hr =>
    obtain ⟨Aa, ca, rfl⟩ := ha.form
    have hlen := wtL_len al
    rw [wtE] at hN
    refine Spec.enter Tryz.func55 rfl Tryz.ntmps55 rfl ?_
    intro w0 hw0
    refine T.seq <| T.region <| SL.w (op_box rfl) ?_
    rintro _ _ _ ⟨B1, rfl, rfl, rfl⟩
    refine SL.v (op_assign (v := .int .i64 ((0 : Nat) : Int)) rfl) <| SL.nil <| T.seq <| T.region <| SL.v (op_assign (v := .int .i64 ((1 : Nat) : Int)) rfl) <| SL.nil <| T.seq <| T.seq <| T.region <| SL.v (op_fieldAddr fa40_3 rfl) <| SL.v (op_load ty38 rfl (by repeat constructor) rfl) ?_
    refine SL.v (op_lenS Tryz.underlying38 rfl) <| SL.v (op_move (v := .int .i64 ((0 : Nat) : Int)) rfl) <| SL.nil <| T.block <| T.drop B1 (by repeat constructor) ?_
    refine T.loopW (fun m env own X' => ∃ i : Nat, m = rows.length - i ∧ i ≤ rows.length ∧ X.le X' ∧ env = [(3, .int .i64 ((sizL (al.take i) + 1 : Nat) : Int)), (7, .slice Aa rows.length ca), (8, .int .i64 (rows.length : Int)), (9, .int .i64 (i : Int))] ∧ own = []) rows.length ⟨0, by simp, by omega, PMap.le_refl _, rfl, rfl⟩ (by repeat (first | exact Sub.nil | refine Sub.cons rfl ?_)) ?_
    rintro m _ _ X1 ⟨i, rfl, hi, hX1, rfl, rfl⟩
    have hdw := fun l : List Ex => depL_wt l
    rcases Nat.lt_or_ge i rows.length with hil | hil
    · obtain ⟨r2, hr2⟩ : ∃ r2, rows[i]? = some r2 := ⟨_, List.getElem?_eq_getElem hil⟩
      obtain ⟨a, ha2⟩ : ∃ a, al[i]? = some a := ⟨_, List.getElem?_eq_getElem (by omega)⟩
      have hra := hr i a r2 ha2 hr2
      obtain ⟨bA, pre, rfl, hbA⟩ := ha.blk (by omega)
      obtain ⟨_, _, _, _, _, _, _, _, rfl⟩ := hra.form
      have hwa := wtL_mem (List.mem_of_getElem? ha2)
      have hts := take_snoc ha2
      have hw1 : wtL (al.take (i + 1)) ≤ wtL al := by
        have := wtL_app (al.drop (i + 1)) (al.take (i + 1))
        rw [List.take_append_drop] at this; omega
      have hw2 : wtL (al.take (i + 1)) = wtL (al.take i) + wtE a := by rw [hts, wtL_snoc]
      have q1 := sizL_wt (al.take i)
      have q2 := siz_wt a
      have q3 := depL_wt (al.take i)
      have q4 := dep_wt a
      refine T.seq <| T.region <| SL.v (op_lssT rfl rfl (by omega)) ?_
      refine SL.nil <| T.seq <| T.condT rfl <| T.skip <| T.seq <| T.block <| T.seq <| T.region <| SL.v (op_indexN Tryz.underlying38 ty40 rfl rfl (by omega)) ?_
      refine SL.v (op_loadX ty40 rfl (hbA.mono hX1) (row_read rc4_len hr2 (by omega))) ?_
      refine SL.w (op_alloc z40) ?_
      rintro _ _ _ ⟨B5, rfl, rfl, rfl⟩
      refine SL.w (op_store ty40 rfl rfl (by repeat constructor) rfl rfl rfl) ?_
      rintro _ _ _ ⟨rfl, rfl⟩
      refine SL.nil <| T.region <| SL.mv rfl <| SL.v (op_load ty40 rfl (by repeat constructor) rfl) ?_
      refine SL.w (op_callF en55 (vs := [_]) rfl (ih (by omega) (by omega) (hra.mono hX1))) ?_
      rintro _ _ X2 ⟨rfl, hX2, rfl⟩
      refine SL.v (op_addN rfl rfl (by omega)) ?_
      rw [show sizL (al.take i) + 1 + sizE a = sizL (al.take (i + 1)) + 1 by rw [hts, sizL_snoc]; omega]
      refine SL.as rfl <| SL.nil <| T.blk <| T.region <| SL.v (op_addN (q := 1) rfl rfl (by omega)) ?_
      refine SL.mv rfl <| SL.nil <| T.drop B5 (by repeat constructor) ?_
      exact T.backW (rows.length - (i + 1)) (by omega) ⟨i + 1, rfl, by omega, hX1.trans' hX2, rfl, rfl⟩ (by repeat (first | exact Sub.nil | refine Sub.cons rfl ?_))
    · obtain rfl : i = rows.length := by omega
      rw [show al.take rows.length = al from List.take_of_length_le (by omega)]
      have q1 := sizL_wt al
      have q3 := depL_wt al
      refine T.seq <| T.region <| SL.v (op_lssF rfl rfl (by omega)) ?_
      refine SL.nil <| T.seq <| T.condF rfl ?_
      refine T.exit (T.exitCode (T.exitCut (T.exitBlk ?_)))
      refine T.seq <| T.region <| SL.mv rfl <| SL.as rfl <| SL.nil <| T.ret1 rfl (ResIs.tmp rfl) ?_
      rw [sizE]
end Go.Proofs.YtnabbnhefjfegaaGreatDoor
namespace Go.Proofs.YtnabbnhefjfegaaGreatDoor
section
set_option maxRecDepth 100000
theorem bs9 : ∃ i z, Tryz.prog.info? 9 = some i ∧ i.size = 1 ∧ i.zero = some z ∧ z.cells = ([.string ⟨#[]⟩] : List Value).toArray := bs_of (by kernel_rfl)
theorem en145 : Enters Tryz.prog 145 := enters_mk Tryz.func145 (by kernel_rfl) rfl
theorem en146 : Enters Tryz.prog 146 := enters_mk Tryz.func146 (by kernel_rfl) rfl
theorem en147 : Enters Tryz.prog 147 := enters_mk Tryz.func147 (by kernel_rfl) rfl
theorem fa40_2 : FAdr Tryz.prog 40 2 2 := fadr_mk Tryz.underlying40 rfl rfl (by kernel_rfl)
theorem sl37 : SlT Tryz.prog 37 9 1 16 := ⟨Tryz.underlying37, sl_of (by kernel_rfl) (by decide)⟩
theorem ty37 : Ty Tryz.prog 37 false 1 := ⟨⟨_, Tryz.underlying37, rfl⟩, by kernel_rfl⟩
end
open Go.RowKit
mutual
def allE : Ex → List ByteArray
  | .mk _ _ ns al => ns ++ allL al
def allL : List Ex → List ByteArray
  | [] => []
  | a :: al => allE a ++ allL al
end
theorem allL_app (b : List Ex) : ∀ l : List Ex, allL (l ++ b) = allL l ++ allL b
  | [] => by simp [allL]
  | x :: l => by rw [List.cons_append, allL, allL, allL_app b l, List.append_assoc]
theorem allL_snoc (a : Ex) (l : List Ex) : allL (l ++ [a]) = allL l ++ allE a := by rw [allL_app]; simp [allL]
mutual
theorem all_wt : ∀ e : Ex, (allE e).length + 1 ≤ wtE e
  | .mk _ _ ns al => by
    have := allL_wt al
    have := wtS_len ns
    rw [allE, wtE, List.length_append]; omega
theorem allL_wt : ∀ l : List Ex, (allL l).length ≤ wtL l
  | [] => by simp [allL]
  | a :: al => by
    have := all_wt a
    have := allL_wt al
    rw [allL, wtL, List.length_append]; omega
end
theorem strsC_app (l m : List ByteArray) : strsC (l ++ m) = strsC l ++ strsC m := by simp [strsC]
theorem strsC_one (l : List ByteArray) : ∀ y ∈ strsC l, y.oneCell' = true := fun y hy => by
  obtain ⟨s, _, rfl⟩ := List.mem_map.1 hy; rfl
theorem gather_spec (N : Nat) : ∀ {X : PMap} {e : Ex} {r : Row4} {lv : Value} {l : List ByteArray} {G : Own}, wtE e ≤ N → l.length + wtE e < 1000000000 → ExR .u8 X e r → GrowS 9 1 lv l.length (strsC l) G →
    SpecM Tryz.prog 145 [lv, .agg #[r.1, r.2.1, r.2.2.1, r.2.2.2]] X G fun u L' _ => GrowS 9 1 u (l ++ allE e).length (strsC (l ++ allE e)) L' := by
  induction N with
  | zero => intro X e r lv l G h; cases e; rw [wtE] at h; omega
  | succ N ih =>
    intro X e r lv l G hN hB h hG
    have hmx : maxLen = 9223372036854775807 := rfl
    cases h with
    | @mk op n ns al vn va rows hn ha hl hr =>
    obtain ⟨Aa, ca, rfl⟩ := ha.form
    obtain ⟨An, cn, rfl⟩ := hn.form
    have hlen := wtL_len al
    have hnl := wtS_len ns
    rw [wtE] at hN hB
    have hsrc := fun (own : Own) => Src.ofRow (own := own) strC_len hn
    simp only [strsC_flat] at hsrc
    refine SpecM.enter Tryz.func145 rfl Tryz.ntmps145 rfl ?_
    intro w0 X0 own0
    refine T.seq <| T.region <| SL.w (op_box rfl) ?_
    rintro _ _ _ ⟨B3, rfl, rfl, rfl⟩
    refine SL.as rfl <| SL.nil <| T.seq <| T.region <| SL.mv rfl <| SL.v (op_fieldAddr fa40_2 rfl) <| SL.v (op_load ty37 rfl (by repeat constructor) rfl) ?_
    refine SL.perm (own' := (⟨B3, [.int .u8 (op : Int), .int .i64 n, .slice An ns.length cn, .slice Aa rows.length ca], 40, 4⟩ :: own0) ++ G) permA ?_
    refine SL.w (op_appendGA sl37 rfl hG rfl (hsrc _) (strsC_one ns) (by omega) (by omega)) ?_
    rintro lv1 _ _ ⟨G1, rfl, rfl, hG1⟩
    rw [← strsC_app, ← List.length_append] at hG1
    refine SL.as rfl <| SL.nil <| T.seq <| T.seq <| T.region <| SL.v (op_fieldAddr fa40_3 rfl) <| SL.v (op_load ty38 rfl (by repeat constructor) rfl) ?_
    refine SL.v (op_lenS Tryz.underlying38 rfl) <| SL.v (op_move (v := .int .i64 ((0 : Nat) : Int)) rfl) <| SL.nil <| T.block <| T.less (own' := own0 ++ G1) (List.sublist_cons_self ..) ?_
    refine T.perm (own' := G1 ++ own0) List.perm_append_comm ?_
    refine T.loopW (fun m env own X' => ∃ (i : Nat) (lv : Value) (G : Own), m = rows.length - i ∧ i ≤ rows.length ∧ X.le X' ∧ GrowS 9 1 lv (l ++ ns ++ allL (al.take i)).length (strsC (l ++ ns ++ allL (al.take i))) G ∧ env = [(0, lv), (12, .slice Aa rows.length ca), (13, .int .i64 (rows.length : Int)), (14, .int .i64 (i : Int))] ∧ own = G ++ own0) rows.length ⟨0, _, _, by simp, by omega, PMap.le_refl _, by simpa [allL] using hG1, rfl, rfl⟩ (by repeat (first | exact Sub.nil | refine Sub.cons rfl ?_)) ?_
    rintro m _ _ X1 ⟨i, lv2, G2, rfl, hi, hX1, hG2, rfl, rfl⟩
    rcases Nat.lt_or_ge i rows.length with hil | hil
    · obtain ⟨r2, hr2⟩ : ∃ r2, rows[i]? = some r2 := ⟨_, List.getElem?_eq_getElem hil⟩
      obtain ⟨a, ha2⟩ : ∃ a, al[i]? = some a := ⟨_, List.getElem?_eq_getElem (by omega)⟩
      have hra := hr i a r2 ha2 hr2
      obtain ⟨bA, pre, rfl, hbA⟩ := ha.blk (by omega)
      obtain ⟨_, _, _, _, _, _, _, _, rfl⟩ := hra.form
      have hts := take_snoc ha2
      have hw1 : wtL (al.take (i + 1)) ≤ wtL al := by
        have := wtL_app (al.drop (i + 1)) (al.take (i + 1))
        rw [List.take_append_drop] at this; omega
      have hw2 : wtL (al.take (i + 1)) = wtL (al.take i) + wtE a := by rw [hts, wtL_snoc]
      have q1 := allL_wt (al.take i)
      have q2 := all_wt a
      refine T.seq <| T.region <| SL.v (op_lssT rfl rfl (by omega)) ?_
      refine SL.nil <| T.seq <| T.condT rfl <| T.skip <| T.seq <| T.block <| T.seq <| T.region <| SL.v (op_indexN Tryz.underlying38 ty40 rfl rfl (by omega)) ?_
      refine SL.v (op_loadX ty40 rfl (hbA.mono hX1) (row_read rc4_len hr2 (by omega))) ?_
      refine SL.w (op_alloc z40) ?_
      rintro _ _ _ ⟨B6, rfl, rfl, rfl⟩
      refine SL.w (op_store ty40 rfl rfl (by repeat constructor) rfl rfl rfl) ?_
      rintro _ _ _ ⟨rfl, rfl⟩
      refine SL.nil <| T.region <| SL.mv rfl <| SL.v (op_load ty40 rfl (by repeat constructor) rfl) ?_
      refine SL.perm (own' := G2 ++ (_ :: own0)) List.perm_middle.symm ?_
      refine SL.w (op_callM en145 (vs := [_, _]) rfl (ih (by omega) (by simp only [List.length_append]; omega) (hra.mono hX1) hG2) rfl) ?_
      rintro lv3 _ X2 ⟨G3, rfl, hX2, hG3⟩
      rw [show l ++ ns ++ allL (al.take i) ++ allE a = l ++ ns ++ allL (al.take (i + 1)) by rw [hts, allL_snoc]; simp] at hG3
      refine SL.as rfl <| SL.nil <| T.blk <| T.region <| SL.v (op_addN (q := 1) rfl rfl (by omega)) ?_
      refine SL.mv rfl <| SL.nil <| T.less (own' := G3 ++ own0) (List.Sublist.append_left (List.sublist_cons_self ..) _) ?_
      exact T.backW (rows.length - (i + 1)) (by omega) ⟨i + 1, _, _, rfl, by omega, hX1.trans' hX2, hG3, rfl, rfl⟩ (by repeat (first | exact Sub.nil | refine Sub.cons rfl ?_))
    · obtain rfl : i = rows.length := by omega
      rw [show al.take rows.length = al from List.take_of_length_le (by omega)] at hG2
      refine T.seq <| T.region <| SL.v (op_lssF rfl rfl (by omega)) ?_
      refine SL.nil <| T.seq <| T.condF rfl ?_
      refine T.exit (T.exitCode (T.exitCut (T.exitBlk ?_)))
      refine T.seq <| T.region <| SL.mv rfl <| SL.as rfl <| SL.nil <| T.retM1 G2 rfl (ResIs.tmp rfl) (List.Perm.refl _) ?_
      refine ⟨hX1, ?_⟩
      rw [allE, ← List.append_assoc]
      exact hG2
theorem compact_snoc : ∀ (l : List ByteArray) (a b : ByteArray), compactS (l ++ [a] ++ [b]) = compactS (l ++ [a]) ++ (if a = b then [] else [b])
  | [], a, b => by
    simp only [List.nil_append, List.cons_append, compactS]
    split <;> simp_all
  | [x], a, b => by
    simp only [List.cons_append, List.nil_append, compactS]
    split <;> split <;> simp_all
  | x :: y :: l, a, b => by
    have := compact_snoc (y :: l) a b
    simp only [List.cons_append] at this ⊢
    rw [compactS, compactS, this]
    split
    · rfl
    · rfl
theorem compact_step {l : List ByteArray} {j : Nat} {a b : ByteArray} (ha : l[j]? = some a) (hb : l[j + 1]? = some b) : compactS (l.take (j + 2)) = compactS (l.take (j + 1)) ++ (if a = b then [] else [b]) := by
  rw [take_snoc hb, take_snoc ha, compact_snoc]
theorem set_take {α : Type} {l : List α} {k j : Nat} {x : α} (h : j < l.length) (hk : j = k) : (l.set j x).take (k + 1) = l.take k ++ [x] := by
  subst hk
  rw [List.take_succ_eq_append_getElem (by rw [List.length_set]; exact h), List.getElem_set_self, List.take_set_of_le (Nat.le_refl _)]
def zS (k : Nat) : List Value := (List.replicate k [Value.string ⟨#[]⟩]).flatten
theorem zS_len (k : Nat) : (zS k).length = k := by
  induction k with
  | zero => rfl
  | succ k ih => simp only [zS, List.replicate_succ, List.flatten_cons, List.length_append, List.length_cons, List.length_nil] at ih ⊢; omega
theorem csets_end : ∀ (vs pre old : List Value), old.length = vs.length → csets (pre ++ old) pre.length vs = pre ++ vs
  | [], pre, old, h => by
    obtain rfl := List.eq_nil_of_length_eq_zero (l := old) (by simpa using h)
    simp [csets]
  | v :: vs, pre, o :: old, h => by
    rw [csets, List.set_append_right _ _ (Nat.le_refl _), Nat.sub_self]
    have := csets_end vs (pre ++ [v]) old (by simpa using h)
    rw [List.length_append] at this
    simpa using this
theorem compact_spec {X : PMap} {b cap : Nat} {l : List ByteArray} (h0 : 0 < l.length) (hl : l.length < 1000000) (hc : l.length ≤ cap) : SpecM Tryz.prog 147 [.slice (some ⟨b, 0, none⟩) l.length cap] X [⟨b, strsC l, 9, cap * 1⟩] fun u L' _ => u = .slice (some ⟨b, 0, none⟩) (compactS l).length cap ∧ L' = [⟨b, strsC (compactS l), 9, cap * 1⟩] := by
  have hmx : maxLen = 9223372036854775807 := rfl
  rcases Nat.lt_or_ge l.length 2 with h2 | h2
  · obtain ⟨a, rfl⟩ : ∃ a, l = [a] := by
      match l, h0, h2 with
      | [a], _, _ => exact ⟨a, rfl⟩
    refine SpecM.enter Tryz.func147 rfl Tryz.ntmps147 rfl ?_
    intro w0 X0 own0
    refine T.seq <| T.region <| SL.as rfl <| SL.nil <| T.seq <| T.seq <| T.region <| SL.mv rfl <| SL.v (op_lenS Tryz.underlying37 rfl) <| SL.v (op_lssT rfl rfl (by omega)) ?_
    refine SL.nil <| T.condT rfl <| T.seq <| T.region <| SL.mv rfl <| SL.as rfl <| SL.nil <| T.retM1 [⟨b, strsC [a], 9, cap * 1⟩] rfl (ResIs.tmp rfl) (List.Perm.refl _) ?_
    exact ⟨PMap.le_refl _, rfl, rfl⟩
  refine SpecM.enter Tryz.func147 rfl Tryz.ntmps147 rfl ?_
  intro w0 X0 own0
  refine T.perm (own' := ⟨b, strsC l, 9, cap * 1⟩ :: own0) (List.Perm.refl _) ?_
  refine T.seq <| T.region <| SL.as rfl <| SL.nil <| T.seq <| T.seq <| T.region <| SL.mv rfl <| SL.v (op_lenS Tryz.underlying37 rfl) <| SL.v (op_lssF rfl rfl (by omega)) ?_
  refine SL.nil <| T.condF rfl <| T.skip <| T.seq <| T.seq <| T.region <| SL.v (op_assign (v := .int .i64 ((1 : Nat) : Int)) rfl) <| SL.nil <| T.block <| T.loopW (fun m env own X' => ∃ k : Nat, m = l.length - k ∧ 1 ≤ k ∧ k ≤ l.length ∧ X.le X' ∧ compactS (l.take k) = l.take k ∧ env = [(0, .slice (some ⟨b, 0, none⟩) l.length cap), (3, .int .i64 (k : Int))] ∧ own = ⟨b, strsC l, 9, cap * 1⟩ :: own0) (l.length - 1) ⟨1, rfl, by omega, by omega, PMap.le_refl _, by (match l, h0 with | a :: l, _ => rfl), rfl, rfl⟩ (by repeat (first | exact Sub.nil | refine Sub.cons rfl ?_)) ?_
  rintro m _ _ X1 ⟨k, rfl, hk1, hk, hX1, hcp, rfl, rfl⟩
  rcases Nat.lt_or_ge k l.length with hkl | hkl
  · obtain ⟨q, rfl⟩ : ∃ q, k = q + 1 := ⟨k - 1, by omega⟩
    obtain ⟨x, hx⟩ : ∃ x, l[q + 1]? = some x := ⟨_, List.getElem?_eq_getElem (by omega)⟩
    obtain ⟨p, hp⟩ : ∃ p, l[q]? = some p := ⟨_, List.getElem?_eq_getElem (by omega)⟩
    have hcs := compact_step hp hx
    refine T.seq <| T.seq <| T.region <| SL.mv rfl <| SL.mv rfl <| SL.v (op_lenS Tryz.underlying37 rfl) <| SL.v (op_lssT rfl rfl (by omega)) ?_
    refine SL.nil <| T.condT rfl <| T.skip <| T.seq <| T.block <| T.seq <| T.draw (by kernel_rfl) 10 [.t 0, .t 1, .t 2, .t 3, .t 4, .t 5, .t 6, .t 7, .t 8, .t 9] (by kernel_rfl) ?_
    refine SD.take rfl panicBody (op_move rfl) rfl rfl ?_
    refine SD.take rfl panicBody (op_move rfl) rfl rfl ?_
    refine SD.take rfl panicBody (op_indexN Tryz.underlying37 ty9 rfl rfl (by omega)) rfl rfl ?_
    refine SD.take rfl panicBody (op_load ty9 rfl (by repeat constructor) (cread1k' (strsC_at hx) (by omega))) rfl rfl ?_
    refine SD.take rfl panicBody (op_move rfl) rfl rfl ?_
    refine SD.take rfl panicBody (op_move rfl) rfl rfl ?_
    refine SD.take rfl panicBody (op_subN (q := 1) rfl rfl (by omega) (by omega)) rfl rfl ?_
    refine SD.take rfl panicBody (op_indexN Tryz.underlying37 ty9 rfl rfl (by omega)) rfl rfl ?_
    refine SD.take rfl panicBody (op_load ty9 rfl (by repeat constructor) (cread1k' (strsC_at hp) (by omega))) rfl rfl ?_
    refine SD.take rfl panicBody (op_eqlStrD rfl rfl) rfl rfl ?_
    refine SD.nil ?_
    show SL _ _ _ _ _ _ _ [] _ _ _
    refine SL.nil ?_
    by_cases hxp : x = p
    · rw [decide_eq_true hxp]
      rw [if_pos hxp.symm, List.append_nil] at hcs
      refine T.condT rfl <| T.seq <| T.region <| SL.mv rfl <| SL.mv rfl <| SL.v (op_sliceLoN (l := q + 1) Tryz.underlying37 ty9 rfl rfl rfl (by omega) (by omega) (by omega)) ?_
      refine SL.as rfl <| SL.nil <| T.seq <| T.seq <| T.region <| SL.v (op_assign (v := .int .i64 ((1 : Nat) : Int)) rfl) <| SL.nil <| T.block <| T.loopW (fun m env own X' => ∃ (k2 k : Nat) (cs : List ByteArray), m = l.length - (q + 1) - k2 ∧ 1 ≤ k2 ∧ k2 ≤ l.length - (q + 1) ∧ X1.le X' ∧ k ≤ q + k2 ∧ cs.length = l.length ∧ cs.take k = compactS (l.take (q + 1 + k2)) ∧ k = (compactS (l.take (q + 1 + k2))).length ∧ (∀ w, q + k2 ≤ w → cs[w]? = l[w]?) ∧ env = [(0, .slice (some ⟨b, 0, none⟩) l.length cap), (3, .int .i64 (k : Int)), (4, .slice (some ⟨b, 0 + (q + 1) * 1, none⟩) (l.length - (q + 1)) (cap - (q + 1))), (5, .int .i64 (k2 : Int))] ∧ own = ⟨b, strsC cs, 9, cap * 1⟩ :: own0) (l.length - (q + 1) - 1) ⟨1, q + 1, l, rfl, by omega, by omega, PMap.le_refl _, by omega, rfl, by rw [hcs, hcp], by rw [hcs, hcp, List.length_take]; omega, fun _ _ => rfl, rfl, rfl⟩ (by repeat (first | exact Sub.nil | refine Sub.cons rfl ?_)) ?_
      rintro m _ _ X2 ⟨k2, k, cs, rfl, hk21, hk2, hX2, hkk, hcl, hct, hkc, hun, rfl, rfl⟩
      rcases Nat.lt_or_ge k2 (l.length - (q + 1)) with hk3 | hk3
      · obtain ⟨x2, hx2⟩ : ∃ x, l[q + k2 + 1]? = some x := ⟨_, List.getElem?_eq_getElem (by omega)⟩
        obtain ⟨p2, hp2⟩ : ∃ p, l[q + k2]? = some p := ⟨_, List.getElem?_eq_getElem (by omega)⟩
        have hcs2 := compact_step hp2 hx2
        rw [show q + k2 + 2 = q + 1 + (k2 + 1) by omega, show q + k2 + 1 = q + 1 + k2 by omega] at hcs2
        have hx3 := (hun (q + k2 + 1) (by omega)).trans hx2
        have hp3 := (hun (q + k2) (by omega)).trans hp2
        refine T.seq <| T.seq <| T.region <| SL.mv rfl <| SL.mv rfl <| SL.v (op_lenS Tryz.underlying37 rfl) <| SL.v (op_lssT rfl rfl (by omega)) ?_
        refine SL.nil <| T.condT rfl <| T.skip <| T.seq <| T.block <| T.seq <| T.draw (by kernel_rfl) 10 [.t 0, .t 1, .t 2, .t 3, .t 4, .t 5, .t 6, .t 7, .t 8, .t 9] (by kernel_rfl) ?_
        refine SD.take rfl panicBody (op_move rfl) rfl rfl ?_
        refine SD.take rfl panicBody (op_move rfl) rfl rfl ?_
        refine SD.take rfl panicBody (op_indexN Tryz.underlying37 ty9 rfl rfl (by omega)) rfl rfl ?_
        refine SD.take rfl panicBody (op_load ty9 rfl (by repeat constructor) (cread1k' (strsC_at hx3) (by omega))) rfl rfl ?_
        refine SD.take rfl panicBody (op_move rfl) rfl rfl ?_
        refine SD.take rfl panicBody (op_move rfl) rfl rfl ?_
        refine SD.take rfl panicBody (op_subN (q := 1) rfl rfl (by omega) (by omega)) rfl rfl ?_
        refine SD.take rfl panicBody (op_indexN Tryz.underlying37 ty9 rfl rfl (by omega)) rfl rfl ?_
        refine SD.take rfl panicBody (op_load ty9 rfl (by repeat constructor) (cread1k' (strsC_at hp3) (by omega))) rfl rfl ?_
        refine SD.take rfl panicBody (op_neqStrD rfl rfl) rfl rfl ?_
        refine SD.nil ?_
        show SL _ _ _ _ _ _ _ [] _ _ _
        refine SL.nil ?_
        by_cases hxp2 : x2 = p2
        · rw [decide_eq_true hxp2, Bool.not_true]
          rw [if_pos hxp2.symm, List.append_nil] at hcs2
          refine T.condF rfl <| T.skip <| T.blk <| T.region <| SL.mv rfl <| SL.v (op_addN (q := 1) rfl rfl (by omega)) ?_
          refine SL.as rfl <| SL.nil ?_
          exact T.backW (l.length - (q + 1) - (k2 + 1)) (by omega) ⟨k2 + 1, k, cs, rfl, by omega, by omega, hX2, by omega, hcl, by rw [hcs2]; exact hct, by rw [hcs2]; exact hkc, fun w hw => hun w (by omega), rfl, rfl⟩ (by repeat (first | exact Sub.nil | refine Sub.cons rfl ?_))
        · rw [decide_eq_false hxp2, Bool.not_false]
          rw [if_neg fun h => hxp2 h.symm] at hcs2
          refine T.condT rfl <| T.seq <| T.region <| SL.mv rfl <| SL.mv rfl <| SL.mv rfl <| SL.mv rfl <| SL.v (op_indexN Tryz.underlying37 ty9 rfl rfl (by omega)) ?_
          refine SL.v (op_load ty9 rfl (by repeat constructor) (cread1k' (strsC_at hx3) (by omega))) ?_
          refine SL.v (op_indexN Tryz.underlying37 ty9 rfl rfl (by omega)) ?_
          refine SL.w (op_store ty9 rfl rfl (by repeat constructor) rfl rfl (Nat.ble_eq_true_of_le (by rw [strsC_len]; omega))) ?_
          rintro _ _ _ ⟨rfl, rfl⟩
          refine SL.perm (own' := ⟨b, strsC (cs.set k x2), 9, cap * 1⟩ :: own0) (List.Perm.of_eq (by rw [← strsC_set]; simp only [Nat.zero_add, Nat.mul_one]; rfl)) ?_
          refine SL.nil <| T.region <| SL.mv rfl <| SL.v (op_addN (q := 1) rfl rfl (by omega)) ?_
          refine SL.as rfl <| SL.nil <| T.blk <| T.region <| SL.mv rfl <| SL.v (op_addN (q := 1) rfl rfl (by omega)) ?_
          refine SL.as rfl <| SL.nil ?_
          exact T.backW (l.length - (q + 1) - (k2 + 1)) (by omega) ⟨k2 + 1, k + 1, cs.set k x2, rfl, by omega, by omega, hX2, by omega, by rw [List.length_set]; exact hcl, by rw [set_take (by omega) rfl, hct, hcs2], by rw [hcs2, List.length_append]; simp; omega, fun w hw => by rw [List.getElem?_set_ne (by omega)]; exact hun w (by omega), rfl, rfl⟩ (by repeat (first | exact Sub.nil | refine Sub.cons rfl ?_))
      · obtain rfl : k2 = l.length - (q + 1) := by omega
        have hfull : l.take (q + 1 + (l.length - (q + 1))) = l := List.take_of_length_le (by omega)
        rw [hfull] at hct hkc
        refine T.seq <| T.seq <| T.region <| SL.mv rfl <| SL.mv rfl <| SL.v (op_lenS Tryz.underlying37 rfl) <| SL.v (op_lssF rfl rfl (by omega)) ?_
        refine SL.nil <| T.condF rfl ?_
        refine T.exit (T.exitCode (T.exitCut (T.exitBlk ?_)))
        refine T.seq <| T.region <| SL.mv rfl <| SL.mv rfl <| SL.v (op_sliceLoN (l := k) Tryz.underlying37 ty9 rfl rfl rfl (by omega) (by omega) (by omega)) ?_
        refine SL.w (op_clear (zs := [.string ⟨#[]⟩]) Tryz.underlying37 (by obtain ⟨i, z, a, _, b, c⟩ := bs9; exact ⟨i, z, a, b, c⟩) rfl AtO.here (by omega) (by rw [strsC_len]; simp; omega) (by intro v hv; simp at hv; subst hv; rfl)) ?_
        rintro _ _ _ ⟨rfl, rfl⟩
        refine SL.perm (own' := ⟨b, strsC (compactS l) ++ zS (l.length - k), 9, cap * 1⟩ :: own0) (List.Perm.of_eq (by
          have e1 : strsC cs = strsC (compactS l) ++ strsC (cs.drop k) := by rw [← strsC_app, ← hct, List.take_append_drop]
          have e2 := csets_end (zS (l.length - k)) (strsC (compactS l)) (strsC (cs.drop k)) (by rw [strsC_len, zS_len, List.length_drop, hcl])
          rw [strsC_len, ← hkc] at e2
          rw [← e2, ← e1, show 0 + k * 1 = k by omega]
          rfl)) ?_
        refine SL.cut AtO.here ?_
        refine SL.nil <| T.seq <| T.region <| SL.mv rfl <| SL.mv rfl <| SL.v (op_sliceHiN (l := k) Tryz.underlying37 ty9 rfl rfl rfl (by omega)) ?_
        refine SL.as rfl <| SL.nil <| T.retM1 [⟨b, strsC (compactS l), 9, cap * 1⟩] rfl (ResIs.tmp rfl) (List.Perm.refl _) ?_
        exact ⟨hX1.trans' hX2, by rw [← hkc], rfl⟩
    · rw [decide_eq_false hxp]
      rw [if_neg fun h => hxp h.symm] at hcs
      refine T.condF rfl <| T.skip <| T.blk <| T.region <| SL.mv rfl <| SL.v (op_addN (q := 1) rfl rfl (by omega)) ?_
      refine SL.as rfl <| SL.nil ?_
      exact T.backW (l.length - (q + 1 + 1)) (by omega) ⟨q + 1 + 1, rfl, by omega, by omega, hX1, by rw [hcs, hcp, take_snoc hx], rfl, rfl⟩ (by repeat (first | exact Sub.nil | refine Sub.cons rfl ?_))
  · obtain rfl : k = l.length := by omega
    rw [List.take_length] at hcp
    refine T.seq <| T.seq <| T.region <| SL.mv rfl <| SL.mv rfl <| SL.v (op_lenS Tryz.underlying37 rfl) <| SL.v (op_lssF rfl rfl (by omega)) ?_
    refine SL.nil <| T.condF rfl ?_
    refine T.exit (T.exitCode (T.exitCut (T.exitBlk ?_)))
    refine T.seq <| T.region <| SL.mv rfl <| SL.as rfl <| SL.nil <| T.retM1 [⟨b, strsC l, 9, cap * 1⟩] rfl (ResIs.tmp rfl) (List.Perm.refl _) ?_
    exact ⟨hX1, by rw [hcp], by rw [hcp]⟩
/-- The names of an expression, as the program lists them: at most twelve. -/
theorem names_spec {X : PMap} {e : Ex} {r : Row4} (hw : wtE e < 100000000) (h : ExR .u8 X e r) (h1 : 0 < (allE e).length) (h12 : (allE e).length ≤ 12) : Spec Tryz.prog 110 [.agg #[r.1, r.2.1, r.2.2.1, r.2.2.2]] X fun u X' => ∃ l' : List ByteArray, l'.Perm (allE e) ∧ AscS l' ∧ RowR strC X' u (compactS l') := by
  obtain ⟨_, _, _, _, _, _, _, _, rfl⟩ := h.form
  have hmx : maxLen = 9223372036854775807 := rfl
  refine Spec.enter Tryz.func110 rfl Tryz.ntmps110 rfl ?_
  intro w0 hw0
  refine T.seq <| T.region <| SL.w (op_box rfl) ?_
  rintro _ _ _ ⟨B1, rfl, rfl, rfl⟩
  refine SL.as rfl <| SL.nil <| T.seq <| T.region <| SL.v (op_load ty40 rfl (by repeat constructor) rfl) ?_
  refine SL.w (op_callM en145 (vs := [_, _]) rfl (gather_spec _ (Nat.le_refl _) (l := []) (by simp; omega) h GrowS.nil) rfl) ?_
  rintro lv _ X1 ⟨G, rfl, hX1, hG⟩
  rw [List.nil_append] at hG
  obtain ⟨b, cap, rfl, rfl, hc1, hc2⟩ := hG.pos h1
  refine SL.as rfl <| SL.nil <| T.seq <| T.region <| SL.mv rfl <| SL.w (op_callM en146 (vs := [_]) rfl (sort_spec h1 h12) rfl) ?_
  rintro _ _ X2 ⟨_, rfl, hX2, l', rfl, hp, ha⟩
  have hpl := hp.length_eq
  rw [← hpl]
  refine SL.nil <| T.seq <| T.region <| SL.mv rfl <| SL.w (op_callM en147 (vs := [_]) rfl (compact_spec (by omega) (by omega) (by omega)) rfl) ?_
  rintro _ _ X3 ⟨_, rfl, hX3, rfl, rfl⟩
  refine SL.as rfl <| SL.nil <| T.pub b (by repeat constructor) ?_
  intro X4 hX4 hB4 _
  refine T.ret1 rfl (ResIs.tmp rfl) ?_
  refine ⟨l', hp, ha, ?_⟩
  rcases Nat.eq_zero_or_pos (compactS l').length with h0 | h0
  · rw [h0]
    exact .inl ⟨List.eq_nil_of_length_eq_zero h0, _, _, rfl⟩
  · have := compact_len l'
    exact .inr ⟨h0, b, cap, [], rfl, by rw [strsC_flat]; exact hB4, by omega, by omega⟩
end Go.Proofs.YtnabbnhefjfegaaGreatDoor
namespace Go.Proofs.YtnabbnhefjfegaaGreatDoor
section
set_option maxRecDepth 100000
theorem en134 : Enters Tryz.prog 134 := enters_mk Tryz.func134 (by kernel_rfl) rfl
theorem en81 : Enters Tryz.prog 81 := enters_mk Tryz.func81 (by kernel_rfl) rfl
theorem en82 : Enters Tryz.prog 82 := enters_mk Tryz.func82 (by kernel_rfl) rfl
theorem en83 : Enters Tryz.prog 83 := enters_mk Tryz.func83 (by kernel_rfl) rfl
theorem en84 : Enters Tryz.prog 84 := enters_mk Tryz.func84 (by kernel_rfl) rfl
theorem ty126 : Ty Tryz.prog 126 false 1 := ⟨⟨_, Tryz.underlying126, rfl⟩, by kernel_rfl⟩
theorem z126 : Zero Tryz.prog 126 [.nilFunc] := ⟨zero_of (by kernel_rfl)⟩
end
open Go.RowKit
theorem letter_spec {X : PMap} (b : UInt8) : Spec Tryz.prog 83 [.int .u8 (b.toNat : Int)] X fun u _ => u = .bool (letB b) := by
  have hb : b.toNat < 256 := b.toNat_lt
  by_cases h1 : 97 ≤ b.toNat
  · by_cases h2 : b.toNat ≤ 122
    · refine Spec.enter Tryz.func83 rfl Tryz.ntmps83 rfl ?_
      intro w0 hw0
      refine T.seq <| T.region <| SL.as rfl <| SL.nil <| T.seq <| T.region <| SL.mv rfl <| SL.v (op_geqT rfl rfl (by omega)) ?_
      refine SL.mv rfl <| SL.mv rfl <| SL.v (op_leqT rfl rfl (by omega)) ?_
      refine SL.v (op_pickT rfl rfl) <| SL.as rfl <| SL.nil <| T.ret1 rfl (ResIs.tmp rfl) ?_
      rw [letB, decide_eq_true ⟨h1, h2⟩]
    · refine Spec.enter Tryz.func83 rfl Tryz.ntmps83 rfl ?_
      intro w0 hw0
      refine T.seq <| T.region <| SL.as rfl <| SL.nil <| T.seq <| T.region <| SL.mv rfl <| SL.v (op_geqT rfl rfl (by omega)) ?_
      refine SL.mv rfl <| SL.mv rfl <| SL.v (op_leqF rfl rfl (by omega)) ?_
      refine SL.v (op_pickT rfl rfl) <| SL.as rfl <| SL.nil <| T.ret1 rfl (ResIs.tmp rfl) ?_
      rw [letB, decide_eq_false fun h => h2 h.2]
  · refine Spec.enter Tryz.func83 rfl Tryz.ntmps83 rfl ?_
    intro w0 hw0
    refine T.seq <| T.region <| SL.as rfl <| SL.nil <| T.seq <| T.region <| SL.mv rfl <| SL.v (op_geqF rfl rfl (by omega)) ?_
    refine SL.mv rfl <| SL.skip rfl rfl ?_
    refine SL.skip rfl rfl ?_
    refine SL.v (op_pickF rfl rfl) <| SL.as rfl <| SL.nil <| T.ret1 rfl (ResIs.tmp rfl) ?_
    rw [letB, decide_eq_false fun h => h1 h.1]
theorem inner_spec {X : PMap} {B : Nat} (hB : Blk X B [.func (.func 83) #[] #[]]) (b : UInt8) : Spec Tryz.prog 84 [.int .u8 (b.toNat : Int), .pointer (some ⟨B, 0, none⟩)] X fun u _ => u = .bool (innB b) := by
  have hb : b.toNat < 256 := b.toNat_lt
  by_cases h1 : 97 ≤ b.toNat ∧ b.toNat ≤ 122
  · refine Spec.enter Tryz.func84 rfl Tryz.ntmps84 rfl ?_
    intro w0 hw0
    refine T.seq <| T.region <| SL.as rfl <| SL.nil <| T.seq <| T.region <| SL.v (op_loadX ty126 rfl hB rfl) <| SL.mv rfl <| SL.w (op_call en83 rfl (vs := [_]) rfl (letter_spec b)) ?_
    rintro _ _ X2 ⟨rfl, hX2, rfl⟩
    rw [show letB b = true from decide_eq_true h1]
    refine SL.mv rfl <| SL.skip rfl rfl ?_
    refine SL.skip rfl rfl ?_
    refine SL.skip rfl rfl ?_
    refine SL.skip rfl rfl ?_
    refine SL.skip rfl rfl ?_
    refine SL.skip rfl rfl ?_
    refine SL.v (op_pickT rfl rfl) <| SL.mv rfl <| SL.skip rfl rfl ?_
    refine SL.skip rfl rfl ?_
    refine SL.v (op_pickT rfl rfl) <| SL.as rfl <| SL.nil <| T.ret1 rfl (ResIs.tmp rfl) ?_
    rw [innB, decide_eq_true (.inl h1)]
  · by_cases h2 : 48 ≤ b.toNat
    · by_cases h3 : b.toNat ≤ 57
      · refine Spec.enter Tryz.func84 rfl Tryz.ntmps84 rfl ?_
        intro w0 hw0
        refine T.seq <| T.region <| SL.as rfl <| SL.nil <| T.seq <| T.region <| SL.v (op_loadX ty126 rfl hB rfl) <| SL.mv rfl <| SL.w (op_call en83 rfl (vs := [_]) rfl (letter_spec b)) ?_
        rintro _ _ X2 ⟨rfl, hX2, rfl⟩
        rw [show letB b = false from decide_eq_false h1]
        refine SL.mv rfl <| SL.mv rfl <| SL.v (op_geqT rfl rfl (by omega)) ?_
        refine SL.mv rfl <| SL.mv rfl <| SL.v (op_leqT rfl rfl (by omega)) ?_
        refine SL.v (op_pickT rfl rfl) <| SL.v (op_pickF rfl rfl) <| SL.mv rfl <| SL.skip rfl rfl ?_
        refine SL.skip rfl rfl ?_
        refine SL.v (op_pickT rfl rfl) <| SL.as rfl <| SL.nil <| T.ret1 rfl (ResIs.tmp rfl) ?_
        rw [innB, decide_eq_true (.inr (.inl ⟨h2, h3⟩))]
      · by_cases h4 : b.toNat = 95
        · refine Spec.enter Tryz.func84 rfl Tryz.ntmps84 rfl ?_
          intro w0 hw0
          refine T.seq <| T.region <| SL.as rfl <| SL.nil <| T.seq <| T.region <| SL.v (op_loadX ty126 rfl hB rfl) <| SL.mv rfl <| SL.w (op_call en83 rfl (vs := [_]) rfl (letter_spec b)) ?_
          rintro _ _ X2 ⟨rfl, hX2, rfl⟩
          rw [show letB b = false from decide_eq_false h1]
          refine SL.mv rfl <| SL.mv rfl <| SL.v (op_geqT rfl rfl (by omega)) ?_
          refine SL.mv rfl <| SL.mv rfl <| SL.v (op_leqF rfl rfl (by omega)) ?_
          refine SL.v (op_pickT rfl rfl) <| SL.v (op_pickF rfl rfl) <| SL.mv rfl <| SL.mv rfl <| SL.v (op_eqlT rfl rfl (by omega)) ?_
          refine SL.v (op_pickF rfl rfl) <| SL.as rfl <| SL.nil <| T.ret1 rfl (ResIs.tmp rfl) ?_
          rw [innB, decide_eq_true (.inr (.inr h4))]
        · refine Spec.enter Tryz.func84 rfl Tryz.ntmps84 rfl ?_
          intro w0 hw0
          refine T.seq <| T.region <| SL.as rfl <| SL.nil <| T.seq <| T.region <| SL.v (op_loadX ty126 rfl hB rfl) <| SL.mv rfl <| SL.w (op_call en83 rfl (vs := [_]) rfl (letter_spec b)) ?_
          rintro _ _ X2 ⟨rfl, hX2, rfl⟩
          rw [show letB b = false from decide_eq_false h1]
          refine SL.mv rfl <| SL.mv rfl <| SL.v (op_geqT rfl rfl (by omega)) ?_
          refine SL.mv rfl <| SL.mv rfl <| SL.v (op_leqF rfl rfl (by omega)) ?_
          refine SL.v (op_pickT rfl rfl) <| SL.v (op_pickF rfl rfl) <| SL.mv rfl <| SL.mv rfl <| SL.v (op_eqlF rfl rfl (by omega)) ?_
          refine SL.v (op_pickF rfl rfl) <| SL.as rfl <| SL.nil <| T.ret1 rfl (ResIs.tmp rfl) ?_
          rw [innB, decide_eq_false (by omega)]
    · refine Spec.enter Tryz.func84 rfl Tryz.ntmps84 rfl ?_
      intro w0 hw0
      refine T.seq <| T.region <| SL.as rfl <| SL.nil <| T.seq <| T.region <| SL.v (op_loadX ty126 rfl hB rfl) <| SL.mv rfl <| SL.w (op_call en83 rfl (vs := [_]) rfl (letter_spec b)) ?_
      rintro _ _ X2 ⟨rfl, hX2, rfl⟩
      rw [show letB b = false from decide_eq_false h1]
      refine SL.mv rfl <| SL.mv rfl <| SL.v (op_geqF rfl rfl (by omega)) ?_
      refine SL.mv rfl <| SL.skip rfl rfl ?_
      refine SL.skip rfl rfl ?_
      refine SL.v (op_pickF rfl rfl) <| SL.v (op_pickF rfl rfl) <| SL.mv rfl <| SL.mv rfl <| SL.v (op_eqlF rfl rfl (by omega)) ?_
      refine SL.v (op_pickF rfl rfl) <| SL.as rfl <| SL.nil <| T.ret1 rfl (ResIs.tmp rfl) ?_
      rw [innB, decide_eq_false (by omega)]
theorem keyws_spec {X : PMap} : Spec Tryz.prog 82 [] X fun u X' => RowR strC X' u keyws := by
  refine Spec.enter Tryz.func82 rfl Tryz.ntmps82 rfl ?_
  intro w0 hw0
  refine T.seq <| T.region <| SL.as rfl <| SL.nil <| T.seq <| T.region <| SL.w (op_buildSlice Tryz.underlying37 bs9 (qs := [(0, _), (1, _), (2, _), (3, _), (4, _), (5, _), (6, _), (7, _), (8, _), (9, _), (10, _), (11, _), (12, _), (13, _), (14, _), (15, _), (16, _), (17, _), (18, _), (19, _)]) rfl rfl rfl rfl rfl) ?_
  rintro _ _ _ ⟨B1, rfl, rfl, rfl⟩
  refine SL.as rfl <| SL.nil <| T.pub B1 (by repeat constructor) ?_
  intro X1 hX1 hB1 _
  refine T.ret1 rfl (ResIs.tmp rfl) ?_
  exact .inr ⟨by decide, _, _, [], rfl, hB1, by decide, by decide⟩
theorem sindex_spec {X : PMap} {v : Value} {l : List ByteArray} {s : ByteArray} (h : RowR strC X v l) : Spec Tryz.prog 134 [v, .string s] X fun u _ => ∃ k : Int, u = .int .i64 k ∧ (0 ≤ k ↔ s ∈ l) := by
  obtain ⟨A, cp, rfl⟩ := h.form
  have hmx : l = [] ∨ l.length ≤ maxLen := by
    rcases Nat.eq_zero_or_pos l.length with h0 | h0
    · exact .inl (List.eq_nil_of_length_eq_zero h0)
    · have := h.cap h0; exact .inr (by omega)
  have hmx : l.length ≤ maxLen := by
    rcases hmx with rfl | h
    · simp
    · exact h
  have hmv : maxLen = 9223372036854775807 := rfl
  refine Spec.enter Tryz.func134 rfl Tryz.ntmps134 rfl ?_
  intro w0 hw0
  refine T.seq <| T.region <| SL.v (op_assign (v := .int .i64 ((0 : Nat) : Int)) rfl) <| SL.nil <| T.seq <| T.seq <| T.region <| SL.mv rfl <| SL.v (op_lenS Tryz.underlying37 rfl) <| SL.v (op_move (v := .int .i64 ((0 : Nat) : Int)) rfl) <| SL.nil <| T.block <| T.loopW (fun m env own X' => ∃ i : Nat, m = l.length - i ∧ i ≤ l.length ∧ X.le X' ∧ (∀ q x, q < i → l[q]? = some x → x ≠ s) ∧ env = [(0, .slice A l.length cp), (1, .string s), (7, .int .i64 (l.length : Int)), (8, .int .i64 (i : Int))] ∧ own = []) l.length ⟨0, by simp, by omega, PMap.le_refl _, fun q x hq => absurd hq (by omega), rfl, rfl⟩ (by repeat (first | exact Sub.nil | refine Sub.cons rfl ?_)) ?_
  rintro m _ _ X1 ⟨i, rfl, hi, hX1, hne, rfl, rfl⟩
  rcases Nat.lt_or_ge i l.length with hil | hil
  · obtain ⟨x, hx⟩ : ∃ x, l[i]? = some x := ⟨_, List.getElem?_eq_getElem hil⟩
    obtain ⟨b, pre, rfl, hB⟩ := h.blk (by omega)
    refine T.seq <| T.region <| SL.v (op_lssT rfl rfl (by omega)) ?_
    refine SL.nil <| T.seq <| T.condT rfl <| T.skip <| T.seq <| T.block <| T.seq <| T.region <| SL.mv rfl <| SL.as rfl <| SL.nil <| T.seq <| T.region <| SL.mv rfl <| SL.mv rfl ?_
    refine SL.mv rfl <| SL.v (op_indexN Tryz.underlying37 ty9 rfl rfl (by omega)) ?_
    refine SL.v (op_loadX ty9 rfl (hB.mono hX1) (str_read hx (by omega))) ?_
    refine SL.v (op_eqlStrD rfl rfl) <| SL.nil ?_
    by_cases hc : s = x
    · rw [decide_eq_true hc]
      refine T.condT rfl <| T.seq <| T.region <| SL.mv rfl <| SL.as rfl <| SL.nil <| T.ret1 rfl (ResIs.tmp rfl) ?_
      exact ⟨_, rfl, fun _ => hc ▸ List.mem_of_getElem? hx, fun _ => by omega⟩
    · rw [decide_eq_false hc]
      refine T.condF rfl <| T.skip <| T.blk <| T.region <| SL.v (op_addN (q := 1) rfl rfl (by omega)) ?_
      refine SL.mv rfl <| SL.nil ?_
      have hne2 : ∀ (q : Nat) (y : ByteArray), q < i + 1 → l[q]? = some y → y ≠ s := fun q y hq hy => by
        rcases Nat.lt_or_ge q i with h1 | h1
        · exact hne q y h1 hy
        · obtain rfl : q = i := by omega
          rw [hx] at hy; cases hy; exact fun h => hc h.symm
      exact T.backW (l.length - (i + 1)) (by omega) ⟨i + 1, rfl, by omega, hX1, hne2, rfl, rfl⟩ (by repeat (first | exact Sub.nil | refine Sub.cons rfl ?_))
  · refine T.seq <| T.region <| SL.v (op_lssF rfl rfl (by omega)) ?_
    refine SL.nil <| T.seq <| T.condF rfl ?_
    refine T.exit (T.exitCode (T.exitCut (T.exitBlk ?_)))
    refine T.seq <| T.region <| SL.as rfl <| SL.nil <| T.ret1 rfl (ResIs.tmp rfl) ?_
    refine ⟨_, rfl, fun h => absurd h (by omega), fun hm => ?_⟩
    obtain ⟨q, hq⟩ := List.mem_iff_getElem?.1 hm
    have h1 := (List.getElem?_eq_some_iff.1 hq).1
    exact absurd rfl (hne q s (by omega) hq)
theorem scontains_spec {X : PMap} {v : Value} {l : List ByteArray} {s : ByteArray} (h : RowR strC X v l) : Spec Tryz.prog 81 [v, .string s] X fun u _ => u = .bool (decide (s ∈ l)) := by
  obtain ⟨A, cp, rfl⟩ := h.form
  refine Spec.enter Tryz.func81 rfl Tryz.ntmps81 rfl ?_
  intro w0 hw0
  refine T.seq <| T.region <| SL.as rfl <| SL.nil <| T.seq <| T.region <| SL.mv rfl <| SL.mv rfl <| SL.w (op_callF en134 (vs := [_, _]) rfl (sindex_spec h)) ?_
  rintro _ _ X1 ⟨rfl, hX1, k, rfl, hk⟩
  refine SL.v (op_geq rfl rfl) <| SL.as rfl <| SL.nil <| T.ret1 rfl (ResIs.tmp rfl) ?_
  simp only [hk]
theorem nvalid_spec {X : PMap} {s : ByteArray} : Spec Tryz.prog 38 [.string s] X fun u _ => u = .bool (decide (validS s)) := by
  by_cases h1 : s.size = 0
  · refine Spec.enter Tryz.func38 rfl Tryz.ntmps38 rfl ?_
    intro w0 hw0
    refine T.seq <| T.region <| SL.as rfl <| SL.nil <| T.seq <| T.seq <| T.region <| SL.mv rfl <| SL.v (op_lenStr Tryz.underlying9 rfl) <| SL.v (op_eqlT rfl rfl (by omega)) ?_
    refine SL.mv rfl <| SL.skip rfl rfl ?_
    refine SL.skip rfl rfl ?_
    refine SL.skip rfl rfl ?_
    refine SL.v (op_pickT rfl rfl) <| SL.mv rfl <| SL.skip rfl rfl ?_
    refine SL.skip rfl rfl ?_
    refine SL.skip rfl rfl ?_
    refine SL.v (op_pickT rfl rfl) <| SL.nil <| T.condT rfl <| T.seq <| T.region <| SL.as rfl <| SL.nil <| T.ret1 rfl (ResIs.tmp rfl) ?_
    rw [decide_eq_false fun h => h.1 h1]
  by_cases h2 : 12 < s.size
  · refine Spec.enter Tryz.func38 rfl Tryz.ntmps38 rfl ?_
    intro w0 hw0
    refine T.seq <| T.region <| SL.as rfl <| SL.nil <| T.seq <| T.seq <| T.region <| SL.mv rfl <| SL.v (op_lenStr Tryz.underlying9 rfl) <| SL.v (op_eqlF rfl rfl (by omega)) ?_
    refine SL.mv rfl <| SL.mv rfl <| SL.v (op_lenStr Tryz.underlying9 rfl) <| SL.v (op_gtrT rfl rfl (by omega)) ?_
    refine SL.v (op_pickF rfl rfl) <| SL.mv rfl <| SL.skip rfl rfl ?_
    refine SL.skip rfl rfl ?_
    refine SL.skip rfl rfl ?_
    refine SL.v (op_pickT rfl rfl) <| SL.nil <| T.condT rfl <| T.seq <| T.region <| SL.as rfl <| SL.nil <| T.ret1 rfl (ResIs.tmp rfl) ?_
    rw [decide_eq_false fun h => by have := h.2.1; omega]
  refine Spec.enter Tryz.func38 rfl Tryz.ntmps38 rfl ?_
  intro w0 hw0
  refine T.seq <| T.region <| SL.as rfl <| SL.nil <| T.seq <| T.seq <| T.region <| SL.mv rfl <| SL.v (op_lenStr Tryz.underlying9 rfl) <| SL.v (op_eqlF rfl rfl (by omega)) ?_
  refine SL.mv rfl <| SL.mv rfl <| SL.v (op_lenStr Tryz.underlying9 rfl) <| SL.v (op_gtrF rfl rfl (by omega)) ?_
  refine SL.v (op_pickF rfl rfl) <| SL.mv rfl <| SL.w (op_callF en82 (vs := []) rfl (keyws_spec)) ?_
  rintro kv _ X1 ⟨rfl, hX1, hkv⟩
  obtain ⟨Ak, ck, rfl⟩ := hkv.form
  refine SL.mv rfl <| SL.w (op_callF en81 (vs := [_, _]) rfl (scontains_spec hkv)) ?_
  rintro _ _ X2 ⟨rfl, hX2, rfl⟩
  by_cases h3 : s ∈ keyws
  · rw [decide_eq_true h3]
    refine SL.v (op_pickF rfl rfl) <| SL.nil <| T.condT rfl <| T.seq <| T.region <| SL.as rfl <| SL.nil <| T.ret1 rfl (ResIs.tmp rfl) ?_
    rw [decide_eq_false fun h => h.2.2.1 h3]
  rw [decide_eq_false h3]
  refine SL.v (op_pickF rfl rfl) <| SL.nil <| T.condF rfl <| T.skip <| T.seq <| T.region <| SL.w (op_alloc z126) ?_
  rintro _ _ _ ⟨B3, rfl, rfl, rfl⟩
  refine SL.w (op_store ty126 rfl rfl (by repeat constructor) rfl rfl rfl) ?_
  rintro _ _ _ ⟨rfl, rfl⟩
  refine SL.nil <| T.seq <| T.region <| SL.v (op_makeFunc (vs := []) (us := [_]) rfl rfl) <| SL.as rfl <| SL.nil <| T.seq <| T.seq <| T.region <| SL.mv rfl <| SL.v (op_lenStr Tryz.underlying9 rfl) <| SL.v (op_move (v := .int .i64 ((0 : Nat) : Int)) rfl) <| SL.nil <| T.block <| T.pub B3 (by repeat constructor) ?_
  intro X3 hX3 hB3 _
  refine T.loopW (fun m env own X' => ∃ i : Nat, m = s.size - i ∧ i ≤ s.size ∧ X3.le X' ∧ (∀ q b, q < i → s[q]? = some b → innB b = true ∧ (q = 0 → letB b = true)) ∧ env = [(0, .string s), (3, .pointer (some ⟨B3, 0, none⟩)), (4, .func (.func 84) #[] #[.pointer (some ⟨B3, 0, none⟩)]), (21, .int .i64 (s.size : Int)), (22, .int .i64 (i : Int))] ∧ own = []) s.size ⟨0, by simp, by omega, PMap.le_refl _, fun q x hq => absurd hq (by omega), rfl, rfl⟩ (by repeat (first | exact Sub.nil | refine Sub.cons rfl ?_)) ?_
  rintro m _ _ X4 ⟨i, rfl, hi, hX4, hin, rfl, rfl⟩
  rcases Nat.lt_or_ge i s.size with hil | hil
  · obtain ⟨b, hb⟩ : ∃ b, s[i]? = some b := ⟨_, ByteArray.getElem?_lt' s i hil⟩
    have hgo : innB b = true → (i = 0 → letB b = true) → ∀ q b, q < i + 1 → s[q]? = some b → innB b = true ∧ (q = 0 → letB b = true) := fun g1 g2 q c hq hc => by
      rcases Nat.lt_or_ge q i with h | h
      · exact hin q c h hc
      · obtain rfl : q = i := by omega
        rw [hb] at hc; cases hc; exact ⟨g1, g2⟩
    have hB4 := hB3.mono hX4
    refine T.seq <| T.region <| SL.v (op_lssT rfl rfl (by omega)) ?_
    refine SL.nil <| T.seq <| T.condT rfl <| T.skip <| T.seq <| T.block <| T.seq <| T.region <| SL.mv rfl <| SL.as rfl <| SL.nil <| T.seq <| T.draw (by kernel_rfl) 18 [.t 0, .t 1, .t 2, .t 3, .r 4, .t 5, .t 6, .t 7, .t 8, .t 9, .t 10, .t 11, .t 12, .t 13, .r 14, .t 15, .t 16, .t 17] (by kernel_rfl) ?_
    refine SD.take rfl panicBody (op_move rfl) rfl rfl ?_
    refine SD.take rfl panicBody (op_move rfl) rfl rfl ?_
    refine SD.take rfl panicBody (op_move rfl) rfl rfl ?_
    refine SD.take rfl panicBody (op_idxStr Tryz.underlying9 rfl rfl rfl hb) rfl rfl ?_
    refine SD.run rfl (op_call en84 rfl (vs := [_]) rfl (inner_spec hB4 b)) rfl rfl ?_
    rintro _ _ X5 ⟨rfl, hX5, rfl⟩
    cases hib : innB b with
    | false =>
      refine SD.take rfl panicBody (op_not rfl) rfl rfl ?_
      refine SD.take rfl panicBody (op_move rfl) rfl rfl ?_
      refine SD.skip rfl panicBody rfl rfl ?_
      refine SD.skip rfl panicBody rfl rfl ?_
      refine SD.skip rfl panicBody rfl rfl ?_
      refine SD.skip rfl panicBody rfl rfl ?_
      refine SD.skip rfl panicBody rfl rfl ?_
      refine SD.skip rfl panicBody rfl rfl ?_
      refine SD.skip rfl panicBody rfl rfl ?_
      refine SD.skipF rfl rfl rfl ?_
      refine SD.skip rfl panicBody rfl rfl ?_
      refine SD.skip rfl panicBody rfl rfl ?_
      refine SD.take rfl panicBody (op_pickT rfl rfl) rfl rfl ?_
      refine SD.nil ?_
      show SL _ _ _ _ _ _ _ [] _ _ _
      refine SL.nil <| T.condT rfl <| T.seq <| T.region <| SL.as rfl <| SL.nil <| T.ret1 rfl (ResIs.tmp rfl) ?_
      rw [decide_eq_false fun h => by have := (h.2.2.2 i b (by omega) hb).1; rw [hib] at this; cases this]
    | true =>
      by_cases h0 : i = 0
      · subst h0
        refine SD.take rfl panicBody (op_not rfl) rfl rfl ?_
        refine SD.take rfl panicBody (op_move rfl) rfl rfl ?_
        refine SD.take rfl panicBody (op_move rfl) rfl rfl ?_
        refine SD.take rfl panicBody (op_eqlT rfl rfl (by omega)) rfl rfl ?_
        refine SD.take rfl panicBody (op_move rfl) rfl rfl ?_
        refine SD.take rfl panicBody (op_loadX ty126 rfl hB4 rfl) rfl rfl ?_
        refine SD.take rfl panicBody (op_move rfl) rfl rfl ?_
        refine SD.take rfl panicBody (op_move rfl) rfl rfl ?_
        refine SD.take rfl panicBody (op_idxStr Tryz.underlying9 rfl rfl rfl hb) rfl rfl ?_
        refine SD.run rfl (op_call en83 rfl (vs := [_]) rfl (letter_spec b)) rfl rfl ?_
        rintro _ _ X6 ⟨rfl, hX6, rfl⟩
        cases hlb : letB b with
        | false =>
          refine SD.take rfl panicBody (op_not rfl) rfl rfl ?_
          refine SD.take rfl panicBody (op_pickT rfl rfl) rfl rfl ?_
          refine SD.take rfl panicBody (op_pickF rfl rfl) rfl rfl ?_
          refine SD.nil ?_
          show SL _ _ _ _ _ _ _ [] _ _ _
          refine SL.nil <| T.condT rfl <| T.seq <| T.region <| SL.as rfl <| SL.nil <| T.ret1 rfl (ResIs.tmp rfl) ?_
          rw [decide_eq_false fun h => by have := (h.2.2.2 0 b (by omega) hb).2 rfl; rw [hlb] at this; cases this]
        | true =>
          refine SD.take rfl panicBody (op_not rfl) rfl rfl ?_
          refine SD.take rfl panicBody (op_pickT rfl rfl) rfl rfl ?_
          refine SD.take rfl panicBody (op_pickF rfl rfl) rfl rfl ?_
          refine SD.nil ?_
          show SL _ _ _ _ _ _ _ [] _ _ _
          refine SL.nil <| T.condF rfl <| T.skip <| T.blk <| T.region <| SL.v (op_addN (q := 1) rfl rfl (by omega)) ?_
          refine SL.mv rfl <| SL.nil ?_
          exact T.backW (s.size - (0 + 1)) (by omega) ⟨0 + 1, rfl, by omega, (hX4.trans' hX5).trans' hX6, hgo hib fun _ => hlb, rfl, rfl⟩ (by repeat (first | exact Sub.nil | refine Sub.cons rfl ?_))
      · refine SD.take rfl panicBody (op_not rfl) rfl rfl ?_
        refine SD.take rfl panicBody (op_move rfl) rfl rfl ?_
        refine SD.take rfl panicBody (op_move rfl) rfl rfl ?_
        refine SD.take rfl panicBody (op_eqlF rfl rfl (by omega)) rfl rfl ?_
        refine SD.take rfl panicBody (op_move rfl) rfl rfl ?_
        refine SD.skip rfl panicBody rfl rfl ?_
        refine SD.skip rfl panicBody rfl rfl ?_
        refine SD.skip rfl panicBody rfl rfl ?_
        refine SD.skip rfl panicBody rfl rfl ?_
        refine SD.skipF rfl rfl rfl ?_
        refine SD.skip rfl panicBody rfl rfl ?_
        refine SD.take rfl panicBody (op_pickF rfl rfl) rfl rfl ?_
        refine SD.take rfl panicBody (op_pickF rfl rfl) rfl rfl ?_
        refine SD.nil ?_
        show SL _ _ _ _ _ _ _ [] _ _ _
        refine SL.nil <| T.condF rfl <| T.skip <| T.blk <| T.region <| SL.v (op_addN (q := 1) rfl rfl (by omega)) ?_
        refine SL.mv rfl <| SL.nil ?_
        exact T.backW (s.size - (i + 1)) (by omega) ⟨i + 1, rfl, by omega, hX4.trans' hX5, hgo hib fun h => absurd h h0, rfl, rfl⟩ (by repeat (first | exact Sub.nil | refine Sub.cons rfl ?_))
  · refine T.seq <| T.region <| SL.v (op_lssF rfl rfl (by omega)) ?_
    refine SL.nil <| T.seq <| T.condF rfl ?_
    refine T.exit (T.exitCode (T.exitCut (T.exitBlk ?_)))
    refine T.seq <| T.region <| SL.as rfl <| SL.nil <| T.ret1 rfl (ResIs.tmp rfl) ?_
    rw [decide_eq_true (show validS s from ⟨h1, by omega, h3, fun k b _ hb => hin k b (by have := ByteArray.getElem?_ge' s k; rcases Nat.lt_or_ge k s.size with h | h; omega; rw [this (by omega)] at hb; cases hb) hb⟩)]
end Go.Proofs.YtnabbnhefjfegaaGreatDoor
namespace Go.Proofs.YtnabbnhefjfegaaGreatDoor
section
set_option maxRecDepth 100000
theorem en106 : Enters Tryz.prog 106 := enters_mk Tryz.func106 (by kernel_rfl) rfl
theorem en107 : Enters Tryz.prog 107 := enters_mk Tryz.func107 (by kernel_rfl) rfl
theorem en108 : Enters Tryz.prog 108 := enters_mk Tryz.func108 (by kernel_rfl) rfl
theorem en109 : Enters Tryz.prog 109 := enters_mk Tryz.func109 (by kernel_rfl) rfl
theorem en110 : Enters Tryz.prog 110 := enters_mk Tryz.func110 (by kernel_rfl) rfl
theorem en144 : Enters Tryz.prog 144 := enters_mk Tryz.func144 (by kernel_rfl) rfl
theorem en38 : Enters Tryz.prog 38 := enters_mk Tryz.func38 (by kernel_rfl) rfl
theorem en56 : Enters Tryz.prog 56 := enters_mk Tryz.func56 (by kernel_rfl) rfl
theorem fa40_0 : FAdr Tryz.prog 40 0 0 := fadr_mk Tryz.underlying40 rfl rfl (by kernel_rfl)
theorem fa40_1 : FAdr Tryz.prog 40 1 1 := fadr_mk Tryz.underlying40 rfl rfl (by kernel_rfl)
theorem st40 : StT Tryz.prog 40 [(0, 1), (1, 1), (2, 1), (3, 1)] [.int .u8 0, .int .i64 0, .slice none 0 0, .slice none 0 0] := ⟨⟨_, Tryz.underlying40, fun _ => by kernel_rfl, z40⟩⟩
theorem ty3 : Ty Tryz.prog 3 false 1 := ⟨⟨_, Tryz.underlying3, rfl⟩, by kernel_rfl⟩
theorem ty36 : Ty Tryz.prog 36 false 1 := ⟨⟨_, Tryz.underlying36, rfl⟩, by kernel_rfl⟩
end
open Go.RowKit
section
variable {op k : Nat} {n : Int} {ns : List ByteArray}
theorem own1 (h : op < 1 ∨ 16 < op ∨ k ≠ argN op) : ownE op n ns k = 1 := by rw [ownE, if_pos h]
theorem own6 (h : ¬(op < 1 ∨ 16 < op ∨ k ≠ argN op)) (h2 : (n ≠ 0 ∧ op ≠ 1) ∨ ¬namN op ns.length) : ownE op n ns k = 6 := by rw [ownE, if_neg h, if_pos h2]
theorem own9 (h : ¬(op < 1 ∨ 16 < op ∨ k ≠ argN op)) (h2 : ¬((n ≠ 0 ∧ op ≠ 1) ∨ ¬namN op ns.length)) (h3 : ¬∀ s ∈ ns, validS s) : ownE op n ns k = 9 := by rw [ownE, if_neg h, if_neg h2, if_pos h3]
theorem own5 (h : ¬(op < 1 ∨ 16 < op ∨ k ≠ argN op)) (h2 : ¬((n ≠ 0 ∧ op ≠ 1) ∨ ¬namN op ns.length)) (h3 : ∀ s ∈ ns, validS s) (h4 : ¬ns.Nodup) : ownE op n ns k = 5 := by rw [ownE, if_neg h, if_neg h2, if_neg fun h => h h3, if_pos h4]
theorem own2 (h : ¬(op < 1 ∨ 16 < op ∨ k ≠ argN op)) (h2 : ¬((n ≠ 0 ∧ op ≠ 1) ∨ ¬namN op ns.length)) (h3 : ∀ s ∈ ns, validS s) (h4 : ns.Nodup) (h5 : n < 0 ∨ 999999 < n) : ownE op n ns k = 2 := by rw [ownE, if_neg h, if_neg h2, if_neg fun h => h h3, if_neg fun h => h h4, if_pos h5]
theorem own0' (h : ¬(op < 1 ∨ 16 < op ∨ k ≠ argN op)) (h2 : ¬((n ≠ 0 ∧ op ≠ 1) ∨ ¬namN op ns.length)) (h3 : ∀ s ∈ ns, validS s) (h4 : ns.Nodup) (h5 : ¬(n < 0 ∨ 999999 < n)) : ownE op n ns k = 0 := by rw [ownE, if_neg h, if_neg h2, if_neg fun h => h h3, if_neg fun h => h h4, if_neg h5]
theorem nodup_small (h : ns.length ≤ 1) : ns.Nodup := by
  match ns, h with
  | [], _ => exact List.nodup_nil
  | [a], _ => simp
theorem node_own {al : List Ex} (h : ownE op n ns al.length ≠ 0) : nodeE (.mk op n ns al) = ownE op n ns al.length := by rw [nodeE, if_pos h]
theorem node_args {al : List Ex} (h : ownE op n ns al.length = 0) : nodeE (.mk op n ns al) = nodeL al := by rw [nodeE, if_neg (by simp [h])]
end
theorem argN_spec {X : PMap} {op : Nat} : Spec Tryz.prog 106 [.int .u8 (op : Int)] X fun u _ => u = .int .i64 (argN op : Int) := by
  by_cases h1 : op < 7
  · refine Spec.enter Tryz.func106 rfl Tryz.ntmps106 rfl ?_
    intro w0 hw0
    refine T.seq <| T.region <| SL.v (op_assign (v := .int .i64 ((0 : Nat) : Int)) rfl) <| SL.nil <| T.seq <| T.block <| T.seq <| T.region <| SL.mv rfl <| SL.v (op_lssT rfl rfl (by omega)) ?_
    refine SL.as rfl <| SL.nil <| T.condT rfl <| T.seq <| T.region <| SL.v (op_assign (v := .int .i64 ((0 : Nat) : Int)) rfl) <| SL.nil <| T.ret1 rfl (ResIs.tmp rfl) ?_
    rw [argN, if_pos h1]
  · by_cases h2 : op = 7
    · refine Spec.enter Tryz.func106 rfl Tryz.ntmps106 rfl ?_
      intro w0 hw0
      refine T.seq <| T.region <| SL.v (op_assign (v := .int .i64 ((0 : Nat) : Int)) rfl) <| SL.nil <| T.seq <| T.block <| T.seq <| T.region <| SL.mv rfl <| SL.v (op_lssF rfl rfl (by omega)) ?_
      refine SL.as rfl <| SL.nil <| T.condF rfl <| T.seq <| T.region <| SL.mv rfl <| SL.v (op_eqlT rfl rfl (by omega)) ?_
      refine SL.as rfl <| SL.nil <| T.condT rfl <| T.seq <| T.region <| SL.v (op_assign (v := .int .i64 ((1 : Nat) : Int)) rfl) <| SL.nil <| T.ret1 rfl (ResIs.tmp rfl) ?_
      rw [argN, if_neg h1, if_pos h2]
    · refine Spec.enter Tryz.func106 rfl Tryz.ntmps106 rfl ?_
      intro w0 hw0
      refine T.seq <| T.region <| SL.v (op_assign (v := .int .i64 ((0 : Nat) : Int)) rfl) <| SL.nil <| T.seq <| T.block <| T.seq <| T.region <| SL.mv rfl <| SL.v (op_lssF rfl rfl (by omega)) ?_
      refine SL.as rfl <| SL.nil <| T.condF rfl <| T.seq <| T.region <| SL.mv rfl <| SL.v (op_eqlF rfl rfl (by omega)) ?_
      refine SL.as rfl <| SL.nil <| T.condF rfl <| T.skip <| T.blk <| T.seq <| T.region <| SL.v (op_assign (v := .int .i64 ((2 : Nat) : Int)) rfl) <| SL.nil <| T.ret1 rfl (ResIs.tmp rfl) ?_
      rw [argN, if_neg h1, if_neg h2]
theorem named_spec {X : PMap} {op : Nat} {n : Int} {A B : Option Addr} {k c l c' : Nat} (hk : k < 1000000000000) : Spec Tryz.prog 107 [.agg #[.int .u8 (op : Int), .int .i64 n, .slice A k c, .slice B l c']] X fun u _ => u = .bool (decide (namN op k)) := by
  by_cases h4 : op = 4
  · have e : namN op k ↔ k = 1 := by simp [namN, h4]
    by_cases hk1 : k = 1
    · refine Spec.enter Tryz.func107 rfl Tryz.ntmps107 rfl ?_
      intro w0 hw0
      refine T.seq <| T.region <| SL.w (op_box rfl) ?_
      rintro _ _ _ ⟨B1, rfl, rfl, rfl⟩
      refine SL.as rfl <| SL.nil <| T.seq <| T.region <| SL.v (op_fieldAddr fa40_2 rfl) <| SL.v (op_load ty37 rfl (by repeat constructor) rfl) ?_
      refine SL.v (op_lenS Tryz.underlying37 rfl) <| SL.as rfl <| SL.nil <| T.seq <| T.seq <| T.region <| SL.v (op_fieldAddr fa40_0 rfl) <| SL.v (op_load ty36 rfl (by repeat constructor) rfl) ?_
      refine SL.nil <| T.block <| T.seq <| T.seq <| T.region <| SL.v (op_eqlT rfl rfl (by omega)) ?_
      refine SL.as rfl <| SL.nil <| T.condT rfl <| T.skip <| T.condT rfl <| T.seq <| T.region <| SL.mv rfl <| SL.v (op_eqlT rfl rfl (by omega)) ?_
      refine SL.as rfl <| SL.nil <| T.ret1 rfl (ResIs.tmp rfl) ?_
      rw [decide_eq_true (e.2 hk1)]
    · refine Spec.enter Tryz.func107 rfl Tryz.ntmps107 rfl ?_
      intro w0 hw0
      refine T.seq <| T.region <| SL.w (op_box rfl) ?_
      rintro _ _ _ ⟨B1, rfl, rfl, rfl⟩
      refine SL.as rfl <| SL.nil <| T.seq <| T.region <| SL.v (op_fieldAddr fa40_2 rfl) <| SL.v (op_load ty37 rfl (by repeat constructor) rfl) ?_
      refine SL.v (op_lenS Tryz.underlying37 rfl) <| SL.as rfl <| SL.nil <| T.seq <| T.seq <| T.region <| SL.v (op_fieldAddr fa40_0 rfl) <| SL.v (op_load ty36 rfl (by repeat constructor) rfl) ?_
      refine SL.nil <| T.block <| T.seq <| T.seq <| T.region <| SL.v (op_eqlT rfl rfl (by omega)) ?_
      refine SL.as rfl <| SL.nil <| T.condT rfl <| T.skip <| T.condT rfl <| T.seq <| T.region <| SL.mv rfl <| SL.v (op_eqlF rfl rfl (by omega)) ?_
      refine SL.as rfl <| SL.nil <| T.ret1 rfl (ResIs.tmp rfl) ?_
      rw [decide_eq_false fun h => hk1 (e.1 h)]
  · by_cases h6 : op = 6
    · have e : namN op k ↔ k = 1 := by simp [namN, h6]
      by_cases hk1 : k = 1
      · refine Spec.enter Tryz.func107 rfl Tryz.ntmps107 rfl ?_
        intro w0 hw0
        refine T.seq <| T.region <| SL.w (op_box rfl) ?_
        rintro _ _ _ ⟨B1, rfl, rfl, rfl⟩
        refine SL.as rfl <| SL.nil <| T.seq <| T.region <| SL.v (op_fieldAddr fa40_2 rfl) <| SL.v (op_load ty37 rfl (by repeat constructor) rfl) ?_
        refine SL.v (op_lenS Tryz.underlying37 rfl) <| SL.as rfl <| SL.nil <| T.seq <| T.seq <| T.region <| SL.v (op_fieldAddr fa40_0 rfl) <| SL.v (op_load ty36 rfl (by repeat constructor) rfl) ?_
        refine SL.nil <| T.block <| T.seq <| T.seq <| T.region <| SL.v (op_eqlF rfl rfl (by omega)) ?_
        refine SL.as rfl <| SL.nil <| T.condF rfl <| T.region <| SL.v (op_eqlT rfl rfl (by omega)) ?_
        refine SL.as rfl <| SL.nil <| T.condT rfl <| T.seq <| T.region <| SL.mv rfl <| SL.v (op_eqlT rfl rfl (by omega)) ?_
        refine SL.as rfl <| SL.nil <| T.ret1 rfl (ResIs.tmp rfl) ?_
        rw [decide_eq_true (e.2 hk1)]
      · refine Spec.enter Tryz.func107 rfl Tryz.ntmps107 rfl ?_
        intro w0 hw0
        refine T.seq <| T.region <| SL.w (op_box rfl) ?_
        rintro _ _ _ ⟨B1, rfl, rfl, rfl⟩
        refine SL.as rfl <| SL.nil <| T.seq <| T.region <| SL.v (op_fieldAddr fa40_2 rfl) <| SL.v (op_load ty37 rfl (by repeat constructor) rfl) ?_
        refine SL.v (op_lenS Tryz.underlying37 rfl) <| SL.as rfl <| SL.nil <| T.seq <| T.seq <| T.region <| SL.v (op_fieldAddr fa40_0 rfl) <| SL.v (op_load ty36 rfl (by repeat constructor) rfl) ?_
        refine SL.nil <| T.block <| T.seq <| T.seq <| T.region <| SL.v (op_eqlF rfl rfl (by omega)) ?_
        refine SL.as rfl <| SL.nil <| T.condF rfl <| T.region <| SL.v (op_eqlT rfl rfl (by omega)) ?_
        refine SL.as rfl <| SL.nil <| T.condT rfl <| T.seq <| T.region <| SL.mv rfl <| SL.v (op_eqlF rfl rfl (by omega)) ?_
        refine SL.as rfl <| SL.nil <| T.ret1 rfl (ResIs.tmp rfl) ?_
        rw [decide_eq_false fun h => hk1 (e.1 h)]
    · by_cases h5 : op = 5
      · have e : namN op k ↔ 1 ≤ k ∧ k ≤ 8 := by simp [namN, h5]
        by_cases hk1 : 1 ≤ k
        · by_cases hk8 : k ≤ 8
          · refine Spec.enter Tryz.func107 rfl Tryz.ntmps107 rfl ?_
            intro w0 hw0
            refine T.seq <| T.region <| SL.w (op_box rfl) ?_
            rintro _ _ _ ⟨B1, rfl, rfl, rfl⟩
            refine SL.as rfl <| SL.nil <| T.seq <| T.region <| SL.v (op_fieldAddr fa40_2 rfl) <| SL.v (op_load ty37 rfl (by repeat constructor) rfl) ?_
            refine SL.v (op_lenS Tryz.underlying37 rfl) <| SL.as rfl <| SL.nil <| T.seq <| T.seq <| T.region <| SL.v (op_fieldAddr fa40_0 rfl) <| SL.v (op_load ty36 rfl (by repeat constructor) rfl) ?_
            refine SL.nil <| T.block <| T.seq <| T.seq <| T.region <| SL.v (op_eqlF rfl rfl (by omega)) ?_
            refine SL.as rfl <| SL.nil <| T.condF rfl <| T.region <| SL.v (op_eqlF rfl rfl (by omega)) ?_
            refine SL.as rfl <| SL.nil <| T.condF rfl <| T.seq <| T.region <| SL.v (op_eqlT rfl rfl (by omega)) ?_
            refine SL.as rfl <| SL.nil <| T.condT rfl <| T.seq <| T.region <| SL.mv rfl <| SL.v (op_geqT rfl rfl (by omega)) ?_
            refine SL.mv rfl <| SL.mv rfl <| SL.v (op_leqT rfl rfl (by omega)) ?_
            refine SL.v (op_pickT rfl rfl) <| SL.as rfl <| SL.nil <| T.ret1 rfl (ResIs.tmp rfl) ?_
            rw [decide_eq_true (e.2 ⟨hk1, hk8⟩)]
          · refine Spec.enter Tryz.func107 rfl Tryz.ntmps107 rfl ?_
            intro w0 hw0
            refine T.seq <| T.region <| SL.w (op_box rfl) ?_
            rintro _ _ _ ⟨B1, rfl, rfl, rfl⟩
            refine SL.as rfl <| SL.nil <| T.seq <| T.region <| SL.v (op_fieldAddr fa40_2 rfl) <| SL.v (op_load ty37 rfl (by repeat constructor) rfl) ?_
            refine SL.v (op_lenS Tryz.underlying37 rfl) <| SL.as rfl <| SL.nil <| T.seq <| T.seq <| T.region <| SL.v (op_fieldAddr fa40_0 rfl) <| SL.v (op_load ty36 rfl (by repeat constructor) rfl) ?_
            refine SL.nil <| T.block <| T.seq <| T.seq <| T.region <| SL.v (op_eqlF rfl rfl (by omega)) ?_
            refine SL.as rfl <| SL.nil <| T.condF rfl <| T.region <| SL.v (op_eqlF rfl rfl (by omega)) ?_
            refine SL.as rfl <| SL.nil <| T.condF rfl <| T.seq <| T.region <| SL.v (op_eqlT rfl rfl (by omega)) ?_
            refine SL.as rfl <| SL.nil <| T.condT rfl <| T.seq <| T.region <| SL.mv rfl <| SL.v (op_geqT rfl rfl (by omega)) ?_
            refine SL.mv rfl <| SL.mv rfl <| SL.v (op_leqF rfl rfl (by omega)) ?_
            refine SL.v (op_pickT rfl rfl) <| SL.as rfl <| SL.nil <| T.ret1 rfl (ResIs.tmp rfl) ?_
            rw [decide_eq_false fun h => hk8 (e.1 h).2]
        · refine Spec.enter Tryz.func107 rfl Tryz.ntmps107 rfl ?_
          intro w0 hw0
          refine T.seq <| T.region <| SL.w (op_box rfl) ?_
          rintro _ _ _ ⟨B1, rfl, rfl, rfl⟩
          refine SL.as rfl <| SL.nil <| T.seq <| T.region <| SL.v (op_fieldAddr fa40_2 rfl) <| SL.v (op_load ty37 rfl (by repeat constructor) rfl) ?_
          refine SL.v (op_lenS Tryz.underlying37 rfl) <| SL.as rfl <| SL.nil <| T.seq <| T.seq <| T.region <| SL.v (op_fieldAddr fa40_0 rfl) <| SL.v (op_load ty36 rfl (by repeat constructor) rfl) ?_
          refine SL.nil <| T.block <| T.seq <| T.seq <| T.region <| SL.v (op_eqlF rfl rfl (by omega)) ?_
          refine SL.as rfl <| SL.nil <| T.condF rfl <| T.region <| SL.v (op_eqlF rfl rfl (by omega)) ?_
          refine SL.as rfl <| SL.nil <| T.condF rfl <| T.seq <| T.region <| SL.v (op_eqlT rfl rfl (by omega)) ?_
          refine SL.as rfl <| SL.nil <| T.condT rfl <| T.seq <| T.region <| SL.mv rfl <| SL.v (op_geqF rfl rfl (by omega)) ?_
          refine SL.mv rfl <| SL.skip rfl rfl ?_
          refine SL.skip rfl rfl ?_
          refine SL.v (op_pickF rfl rfl) <| SL.as rfl <| SL.nil <| T.ret1 rfl (ResIs.tmp rfl) ?_
          rw [decide_eq_false fun h => hk1 (e.1 h).1]
      · have e : namN op k ↔ k = 0 := by simp [namN, h4, h5, h6]
        by_cases hk0 : k = 0
        · refine Spec.enter Tryz.func107 rfl Tryz.ntmps107 rfl ?_
          intro w0 hw0
          refine T.seq <| T.region <| SL.w (op_box rfl) ?_
          rintro _ _ _ ⟨B1, rfl, rfl, rfl⟩
          refine SL.as rfl <| SL.nil <| T.seq <| T.region <| SL.v (op_fieldAddr fa40_2 rfl) <| SL.v (op_load ty37 rfl (by repeat constructor) rfl) ?_
          refine SL.v (op_lenS Tryz.underlying37 rfl) <| SL.as rfl <| SL.nil <| T.seq <| T.seq <| T.region <| SL.v (op_fieldAddr fa40_0 rfl) <| SL.v (op_load ty36 rfl (by repeat constructor) rfl) ?_
          refine SL.nil <| T.block <| T.seq <| T.seq <| T.region <| SL.v (op_eqlF rfl rfl (by omega)) ?_
          refine SL.as rfl <| SL.nil <| T.condF rfl <| T.region <| SL.v (op_eqlF rfl rfl (by omega)) ?_
          refine SL.as rfl <| SL.nil <| T.condF rfl <| T.seq <| T.region <| SL.v (op_eqlF rfl rfl (by omega)) ?_
          refine SL.as rfl <| SL.nil <| T.condF rfl <| T.skip <| T.blk <| T.seq <| T.region <| SL.mv rfl <| SL.v (op_eqlT rfl rfl (by omega)) ?_
          refine SL.as rfl <| SL.nil <| T.ret1 rfl (ResIs.tmp rfl) ?_
          rw [decide_eq_true (e.2 hk0)]
        · refine Spec.enter Tryz.func107 rfl Tryz.ntmps107 rfl ?_
          intro w0 hw0
          refine T.seq <| T.region <| SL.w (op_box rfl) ?_
          rintro _ _ _ ⟨B1, rfl, rfl, rfl⟩
          refine SL.as rfl <| SL.nil <| T.seq <| T.region <| SL.v (op_fieldAddr fa40_2 rfl) <| SL.v (op_load ty37 rfl (by repeat constructor) rfl) ?_
          refine SL.v (op_lenS Tryz.underlying37 rfl) <| SL.as rfl <| SL.nil <| T.seq <| T.seq <| T.region <| SL.v (op_fieldAddr fa40_0 rfl) <| SL.v (op_load ty36 rfl (by repeat constructor) rfl) ?_
          refine SL.nil <| T.block <| T.seq <| T.seq <| T.region <| SL.v (op_eqlF rfl rfl (by omega)) ?_
          refine SL.as rfl <| SL.nil <| T.condF rfl <| T.region <| SL.v (op_eqlF rfl rfl (by omega)) ?_
          refine SL.as rfl <| SL.nil <| T.condF rfl <| T.seq <| T.region <| SL.v (op_eqlF rfl rfl (by omega)) ?_
          refine SL.as rfl <| SL.nil <| T.condF rfl <| T.skip <| T.blk <| T.seq <| T.region <| SL.mv rfl <| SL.v (op_eqlF rfl rfl (by omega)) ?_
          refine SL.as rfl <| SL.nil <| T.ret1 rfl (ResIs.tmp rfl) ?_
          rw [decide_eq_false fun h => hk0 (e.1 h)]
theorem inval_spec {X : PMap} {s : ByteArray} : Spec Tryz.prog 109 [.string s] X fun u _ => u = .bool (decide (¬validS s)) := by
  refine Spec.enter Tryz.func109 rfl Tryz.ntmps109 rfl ?_
  intro w0 hw0
  refine T.seq <| T.region <| SL.as rfl <| SL.nil <| T.seq <| T.region <| SL.mv rfl <| SL.w (op_callF en38 (vs := [_]) rfl (nvalid_spec)) ?_
  rintro _ _ X1 ⟨rfl, hX1, rfl⟩
  refine SL.v (op_not rfl) <| SL.as rfl <| SL.nil <| T.ret1 rfl (ResIs.tmp rfl) ?_
  rw [decide_not]
theorem idxf_spec {X : PMap} {v : Value} {l : List ByteArray} (h : RowR strC X v l) (hl : l.length < 1000000000000) : Spec Tryz.prog 144 [v, .func (.func 109) #[] #[]] X fun u _ => ∃ k : Int, u = .int .i64 k ∧ (0 ≤ k ↔ ¬∀ s ∈ l, validS s) := by
  obtain ⟨A, cp, rfl⟩ := h.form
  refine Spec.enter Tryz.func144 rfl Tryz.ntmps144 rfl ?_
  intro w0 hw0
  refine T.seq <| T.region <| SL.v (op_assign (v := .int .i64 ((0 : Nat) : Int)) rfl) <| SL.nil <| T.seq <| T.seq <| T.region <| SL.mv rfl <| SL.v (op_lenS Tryz.underlying37 rfl) <| SL.v (op_move (v := .int .i64 ((0 : Nat) : Int)) rfl) <| SL.nil <| T.block <| T.loopW (fun m env own X' => ∃ i : Nat, m = l.length - i ∧ i ≤ l.length ∧ X.le X' ∧ (∀ q x, q < i → l[q]? = some x → validS x) ∧ env = [(0, .slice A l.length cp), (1, .func (.func 109) #[] #[]), (7, .int .i64 (l.length : Int)), (8, .int .i64 (i : Int))] ∧ own = []) l.length ⟨0, by simp, by omega, PMap.le_refl _, fun q x hq => absurd hq (by omega), rfl, rfl⟩ (by repeat (first | exact Sub.nil | refine Sub.cons rfl ?_)) ?_
  rintro m _ _ X1 ⟨i, rfl, hi, hX1, hne, rfl, rfl⟩
  rcases Nat.lt_or_ge i l.length with hil | hil
  · obtain ⟨x, hx⟩ : ∃ x, l[i]? = some x := ⟨_, List.getElem?_eq_getElem hil⟩
    obtain ⟨b, pre, rfl, hB⟩ := h.blk (by omega)
    refine T.seq <| T.region <| SL.v (op_lssT rfl rfl (by omega)) ?_
    refine SL.nil <| T.seq <| T.condT rfl <| T.skip <| T.seq <| T.block <| T.seq <| T.region <| SL.mv rfl <| SL.as rfl <| SL.nil <| T.seq <| T.region <| SL.mv rfl <| SL.mv rfl ?_
    refine SL.mv rfl <| SL.v (op_indexN Tryz.underlying37 ty9 rfl rfl (by omega)) ?_
    refine SL.v (op_loadX ty9 rfl (hB.mono hX1) (str_read hx (by omega))) ?_
    refine SL.w (op_call en109 rfl (vs := [_]) rfl inval_spec) ?_
    rintro _ _ X2 ⟨rfl, hX2, rfl⟩
    by_cases hc : ¬validS x
    · rw [decide_eq_true hc]
      refine SL.nil <| T.condT rfl <| T.seq <| T.region <| SL.mv rfl <| SL.as rfl <| SL.nil <| T.ret1 rfl (ResIs.tmp rfl) ?_
      exact ⟨_, rfl, fun _ hall => hc (hall x (List.mem_of_getElem? hx)), fun _ => by omega⟩
    · rw [decide_eq_false hc]
      refine SL.nil <| T.condF rfl <| T.skip <| T.blk <| T.region <| SL.v (op_addN (q := 1) rfl rfl (by omega)) ?_
      refine SL.mv rfl <| SL.nil ?_
      have hne2 : ∀ (q : Nat) (y : ByteArray), q < i + 1 → l[q]? = some y → validS y := fun q y hq hy => by
        rcases Nat.lt_or_ge q i with h1 | h1
        · exact hne q y h1 hy
        · obtain rfl : q = i := by omega
          rw [hx] at hy; cases hy; exact Classical.not_not.1 hc
      exact T.backW (l.length - (i + 1)) (by omega) ⟨i + 1, rfl, by omega, hX1.trans' hX2, hne2, rfl, rfl⟩ (by repeat (first | exact Sub.nil | refine Sub.cons rfl ?_))
  · refine T.seq <| T.region <| SL.v (op_lssF rfl rfl (by omega)) ?_
    refine SL.nil <| T.seq <| T.condF rfl ?_
    refine T.exit (T.exitCode (T.exitCut (T.exitBlk ?_)))
    refine T.seq <| T.region <| SL.as rfl <| SL.nil <| T.ret1 rfl (ResIs.tmp rfl) ?_
    refine ⟨_, rfl, fun h => absurd h (by omega), fun hm => ?_⟩
    refine absurd (fun s hs => ?_) hm
    obtain ⟨q, hq⟩ := List.mem_iff_getElem?.1 hs
    have h1 := (List.getElem?_eq_some_iff.1 hq).1
    exact hne q s (by omega) hq
theorem contf_spec {X : PMap} {v : Value} {l : List ByteArray} (h : RowR strC X v l) (hl : l.length < 1000000000000) : Spec Tryz.prog 108 [v, .func (.func 109) #[] #[]] X fun u _ => ∃ b : Bool, u = .bool b ∧ (b = true ↔ ¬∀ s ∈ l, validS s) := by
  obtain ⟨A, cp, rfl⟩ := h.form
  refine Spec.enter Tryz.func108 rfl Tryz.ntmps108 rfl ?_
  intro w0 hw0
  refine T.seq <| T.region <| SL.as rfl <| SL.nil <| T.seq <| T.region <| SL.mv rfl <| SL.mv rfl <| SL.w (op_callF en144 (vs := [_, _]) rfl (idxf_spec h hl)) ?_
  rintro _ _ X1 ⟨rfl, hX1, k, rfl, hk⟩
  refine SL.v (op_geq rfl rfl) <| SL.as rfl <| SL.nil <| T.ret1 rfl (ResIs.tmp rfl) ?_
  exact ⟨_, rfl, by rw [decide_eq_true_eq]; exact hk⟩
theorem nodeL_at {al : List Ex} {i : Nat} {a : Ex} (h0 : nodeL (al.take i) = 0) (ha : al[i]? = some a) (hz : nodeE a ≠ 0) : nodeL al = nodeE a := by
  obtain ⟨h1, h2⟩ := List.getElem?_eq_some_iff.1 ha
  have e : al = al.take i ++ a :: al.drop (i + 1) := by rw [← h2, ← List.drop_eq_getElem_cons h1, List.take_append_drop]
  rw [e, nodeL_app, if_neg (by simp [h0]), nodeL, if_pos hz]
theorem nodeL_snoc {al : List Ex} {i : Nat} {a : Ex} (h0 : nodeL (al.take i) = 0) (ha : al[i]? = some a) (hz : nodeE a = 0) : nodeL (al.take (i + 1)) = 0 := by
  rw [take_snoc ha, nodeL_app, if_neg (by simp [h0]), nodeL, if_neg (by simp [hz]), nodeL]
theorem node_spec (N : Nat) : ∀ {X : PMap} {e : Ex} {r : Row4}, wtE e ≤ N → N < 100000000 → ExR .u8 X e r → Spec Tryz.prog 56 [.agg #[r.1, r.2.1, r.2.2.1, r.2.2.2]] X fun u _ => u = .int .i64 (nodeE e) := by
  induction N with
  | zero => intro X e r h; cases e; rw [wtE] at h; omega
  | succ N ih =>
    intro X e r hN hB h
    cases h with
    | @mk op n ns al vn va rows hn ha hl hr =>
    obtain ⟨Aa, ca, rfl⟩ := ha.form
    obtain ⟨An, cn, rfl⟩ := hn.form
    have hlen := wtL_len al
    have hnl := wtS_len ns
    rw [wtE] at hN
    by_cases a1 : op < 1
    · have e := own1 (k := al.length) (n := n) (ns := ns) (.inl a1)
      refine Spec.enter Tryz.func56 rfl Tryz.ntmps56 rfl ?_
      intro w0 hw0
      refine T.seq <| T.region <| SL.w (op_box rfl) ?_
      rintro _ _ _ ⟨B1, rfl, rfl, rfl⟩
      refine SL.v (op_assign (v := .int .i64 ((0 : Nat) : Int)) rfl) <| SL.nil <| T.seq <| T.block <| T.seq <| T.draw (by kernel_rfl) 18 [.t 0, .t 1, .t 2, .t 3, .t 4, .t 5, .t 6, .t 7, .t 8, .t 9, .t 10, .t 11, .t 12, .t 13, .r 14, .t 15, .t 16, .t 17] (by kernel_rfl) ?_
      refine SD.take rfl panicBody (op_fieldAddr fa40_0 rfl) rfl rfl ?_
      refine SD.take rfl panicBody (op_load ty36 rfl (by repeat constructor) rfl) rfl rfl ?_
      refine SD.take rfl panicBody (op_lssT rfl rfl (by omega)) rfl rfl ?_
      refine SD.take rfl panicBody (op_move rfl) rfl rfl ?_
      refine SD.skip rfl panicBody rfl rfl ?_
      refine SD.skip rfl panicBody rfl rfl ?_
      refine SD.skip rfl panicBody rfl rfl ?_
      refine SD.take rfl panicBody (op_pickT rfl rfl) rfl rfl ?_
      refine SD.take rfl panicBody (op_move rfl) rfl rfl ?_
      refine SD.skip rfl panicBody rfl rfl ?_
      refine SD.skip rfl panicBody rfl rfl ?_
      refine SD.skip rfl panicBody rfl rfl ?_
      refine SD.skip rfl panicBody rfl rfl ?_
      refine SD.skip rfl panicBody rfl rfl ?_
      refine SD.skipF rfl rfl rfl ?_
      refine SD.skip rfl panicBody rfl rfl ?_
      refine SD.take rfl panicBody (op_pickT rfl rfl) rfl rfl ?_
      refine SD.take rfl panicBody (op_assign rfl) rfl rfl ?_
      refine SD.nil ?_
      show SL _ _ _ _ _ _ _ [] _ _ _
      refine SL.nil <| T.condT rfl <| T.seq <| T.region <| SL.v (op_assign (v := .int .i64 ((1 : Nat) : Int)) rfl) <| SL.nil <| T.ret1 rfl (ResIs.tmp rfl) ?_
      rw [node_own (by rw [e]; decide), e]; rfl
    by_cases a2 : 16 < op
    · have e := own1 (k := al.length) (n := n) (ns := ns) (.inr (.inl a2))
      refine Spec.enter Tryz.func56 rfl Tryz.ntmps56 rfl ?_
      intro w0 hw0
      refine T.seq <| T.region <| SL.w (op_box rfl) ?_
      rintro _ _ _ ⟨B1, rfl, rfl, rfl⟩
      refine SL.v (op_assign (v := .int .i64 ((0 : Nat) : Int)) rfl) <| SL.nil <| T.seq <| T.block <| T.seq <| T.draw (by kernel_rfl) 18 [.t 0, .t 1, .t 2, .t 3, .t 4, .t 5, .t 6, .t 7, .t 8, .t 9, .t 10, .t 11, .t 12, .t 13, .r 14, .t 15, .t 16, .t 17] (by kernel_rfl) ?_
      refine SD.take rfl panicBody (op_fieldAddr fa40_0 rfl) rfl rfl ?_
      refine SD.take rfl panicBody (op_load ty36 rfl (by repeat constructor) rfl) rfl rfl ?_
      refine SD.take rfl panicBody (op_lssF rfl rfl (by omega)) rfl rfl ?_
      refine SD.take rfl panicBody (op_move rfl) rfl rfl ?_
      refine SD.take rfl panicBody (op_fieldAddr fa40_0 rfl) rfl rfl ?_
      refine SD.take rfl panicBody (op_load ty36 rfl (by repeat constructor) rfl) rfl rfl ?_
      refine SD.take rfl panicBody (op_gtrT rfl rfl (by omega)) rfl rfl ?_
      refine SD.take rfl panicBody (op_pickF rfl rfl) rfl rfl ?_
      refine SD.take rfl panicBody (op_move rfl) rfl rfl ?_
      refine SD.skip rfl panicBody rfl rfl ?_
      refine SD.skip rfl panicBody rfl rfl ?_
      refine SD.skip rfl panicBody rfl rfl ?_
      refine SD.skip rfl panicBody rfl rfl ?_
      refine SD.skip rfl panicBody rfl rfl ?_
      refine SD.skipF rfl rfl rfl ?_
      refine SD.skip rfl panicBody rfl rfl ?_
      refine SD.take rfl panicBody (op_pickT rfl rfl) rfl rfl ?_
      refine SD.take rfl panicBody (op_assign rfl) rfl rfl ?_
      refine SD.nil ?_
      show SL _ _ _ _ _ _ _ [] _ _ _
      refine SL.nil <| T.condT rfl <| T.seq <| T.region <| SL.v (op_assign (v := .int .i64 ((1 : Nat) : Int)) rfl) <| SL.nil <| T.ret1 rfl (ResIs.tmp rfl) ?_
      rw [node_own (by rw [e]; decide), e]; rfl
    by_cases a3 : al.length = argN op
    case neg =>
      have e := own1 (k := al.length) (op := op) (n := n) (ns := ns) (.inr (.inr a3))
      refine Spec.enter Tryz.func56 rfl Tryz.ntmps56 rfl ?_
      intro w0 hw0
      refine T.seq <| T.region <| SL.w (op_box rfl) ?_
      rintro _ _ _ ⟨B1, rfl, rfl, rfl⟩
      refine SL.v (op_assign (v := .int .i64 ((0 : Nat) : Int)) rfl) <| SL.nil <| T.seq <| T.block <| T.seq <| T.draw (by kernel_rfl) 18 [.t 0, .t 1, .t 2, .t 3, .t 4, .t 5, .t 6, .t 7, .t 8, .t 9, .t 10, .t 11, .t 12, .t 13, .r 14, .t 15, .t 16, .t 17] (by kernel_rfl) ?_
      refine SD.take rfl panicBody (op_fieldAddr fa40_0 rfl) rfl rfl ?_
      refine SD.take rfl panicBody (op_load ty36 rfl (by repeat constructor) rfl) rfl rfl ?_
      refine SD.take rfl panicBody (op_lssF rfl rfl (by omega)) rfl rfl ?_
      refine SD.take rfl panicBody (op_move rfl) rfl rfl ?_
      refine SD.take rfl panicBody (op_fieldAddr fa40_0 rfl) rfl rfl ?_
      refine SD.take rfl panicBody (op_load ty36 rfl (by repeat constructor) rfl) rfl rfl ?_
      refine SD.take rfl panicBody (op_gtrF rfl rfl (by omega)) rfl rfl ?_
      refine SD.take rfl panicBody (op_pickF rfl rfl) rfl rfl ?_
      refine SD.take rfl panicBody (op_move rfl) rfl rfl ?_
      refine SD.take rfl panicBody (op_fieldAddr fa40_3 rfl) rfl rfl ?_
      refine SD.take rfl panicBody (op_load ty38 rfl (by repeat constructor) rfl) rfl rfl ?_
      refine SD.take rfl panicBody (op_lenS Tryz.underlying38 rfl) rfl rfl ?_
      refine SD.take rfl panicBody (op_fieldAddr fa40_0 rfl) rfl rfl ?_
      refine SD.take rfl panicBody (op_load ty36 rfl (by repeat constructor) rfl) rfl rfl ?_
      refine SD.run rfl (op_callF en106 (vs := [_]) rfl (argN_spec)) rfl rfl ?_
      rintro _ _ X1 ⟨rfl, hX1, rfl⟩
      rw [← hl] at a3
      refine SD.take rfl panicBody (op_neqT rfl rfl (by omega)) rfl rfl ?_
      refine SD.take rfl panicBody (op_pickF rfl rfl) rfl rfl ?_
      refine SD.take rfl panicBody (op_assign rfl) rfl rfl ?_
      refine SD.nil ?_
      show SL _ _ _ _ _ _ _ [] _ _ _
      refine SL.nil <| T.condT rfl <| T.seq <| T.region <| SL.v (op_assign (v := .int .i64 ((1 : Nat) : Int)) rfl) <| SL.nil <| T.ret1 rfl (ResIs.tmp rfl) ?_
      rw [node_own (by rw [e]; decide), e]; rfl
    have hA1 : ¬(op < 1 ∨ 16 < op ∨ al.length ≠ argN op) := fun h => by omega
    by_cases hNN : n ≠ 0 ∧ op ≠ 1
    · obtain ⟨b1, b2⟩ := hNN
      have e := own6 (n := n) (ns := ns) hA1 (.inl ⟨b1, b2⟩)
      refine Spec.enter Tryz.func56 rfl Tryz.ntmps56 rfl ?_
      intro w0 hw0
      refine T.seq <| T.region <| SL.w (op_box rfl) ?_
      rintro _ _ _ ⟨B1, rfl, rfl, rfl⟩
      refine SL.v (op_assign (v := .int .i64 ((0 : Nat) : Int)) rfl) <| SL.nil <| T.seq <| T.block <| T.seq <| T.draw (by kernel_rfl) 18 [.t 0, .t 1, .t 2, .t 3, .t 4, .t 5, .t 6, .t 7, .t 8, .t 9, .t 10, .t 11, .t 12, .t 13, .r 14, .t 15, .t 16, .t 17] (by kernel_rfl) ?_
      refine SD.take rfl panicBody (op_fieldAddr fa40_0 rfl) rfl rfl ?_
      refine SD.take rfl panicBody (op_load ty36 rfl (by repeat constructor) rfl) rfl rfl ?_
      refine SD.take rfl panicBody (op_lssF rfl rfl (by omega)) rfl rfl ?_
      refine SD.take rfl panicBody (op_move rfl) rfl rfl ?_
      refine SD.take rfl panicBody (op_fieldAddr fa40_0 rfl) rfl rfl ?_
      refine SD.take rfl panicBody (op_load ty36 rfl (by repeat constructor) rfl) rfl rfl ?_
      refine SD.take rfl panicBody (op_gtrF rfl rfl (by omega)) rfl rfl ?_
      refine SD.take rfl panicBody (op_pickF rfl rfl) rfl rfl ?_
      refine SD.take rfl panicBody (op_move rfl) rfl rfl ?_
      refine SD.take rfl panicBody (op_fieldAddr fa40_3 rfl) rfl rfl ?_
      refine SD.take rfl panicBody (op_load ty38 rfl (by repeat constructor) rfl) rfl rfl ?_
      refine SD.take rfl panicBody (op_lenS Tryz.underlying38 rfl) rfl rfl ?_
      refine SD.take rfl panicBody (op_fieldAddr fa40_0 rfl) rfl rfl ?_
      refine SD.take rfl panicBody (op_load ty36 rfl (by repeat constructor) rfl) rfl rfl ?_
      refine SD.run rfl (op_callF en106 (vs := [_]) rfl (argN_spec)) rfl rfl ?_
      rintro _ _ X1 ⟨rfl, hX1, rfl⟩
      rw [← hl] at a3
      refine SD.take rfl panicBody (op_neqF rfl rfl (by omega)) rfl rfl ?_
      refine SD.take rfl panicBody (op_pickF rfl rfl) rfl rfl ?_
      refine SD.take rfl panicBody (op_assign rfl) rfl rfl ?_
      refine SD.nil ?_
      show SL _ _ _ _ _ _ _ [] _ _ _
      refine SL.nil <| T.condF rfl <| T.seq <| T.seq <| T.region <| SL.v (op_fieldAddr fa40_1 rfl) <| SL.v (op_load ty3 rfl (by repeat constructor) rfl) ?_
      refine SL.v (op_neqT rfl rfl (by omega)) ?_
      refine SL.mv rfl <| SL.v (op_fieldAddr fa40_0 rfl) <| SL.v (op_load ty36 rfl (by repeat constructor) rfl) ?_
      refine SL.v (op_neqT rfl rfl (by omega)) ?_
      refine SL.v (op_pickT rfl rfl) <| SL.as rfl <| SL.nil <| T.condT rfl <| T.skip <| T.condT rfl <| T.seq <| T.region <| SL.v (op_assign (v := .int .i64 ((6 : Nat) : Int)) rfl) <| SL.nil <| T.ret1 rfl (ResIs.tmp rfl) ?_
      rw [node_own (by rw [e]; decide), e]; rfl
    by_cases b1 : n = 0
    · skip
      refine Spec.enter Tryz.func56 rfl Tryz.ntmps56 rfl ?_
      intro w0 hw0
      refine T.seq <| T.region <| SL.w (op_box rfl) ?_
      rintro _ _ _ ⟨B1, rfl, rfl, rfl⟩
      refine SL.v (op_assign (v := .int .i64 ((0 : Nat) : Int)) rfl) <| SL.nil <| T.seq <| T.block <| T.seq <| T.draw (by kernel_rfl) 18 [.t 0, .t 1, .t 2, .t 3, .t 4, .t 5, .t 6, .t 7, .t 8, .t 9, .t 10, .t 11, .t 12, .t 13, .r 14, .t 15, .t 16, .t 17] (by kernel_rfl) ?_
      refine SD.take rfl panicBody (op_fieldAddr fa40_0 rfl) rfl rfl ?_
      refine SD.take rfl panicBody (op_load ty36 rfl (by repeat constructor) rfl) rfl rfl ?_
      refine SD.take rfl panicBody (op_lssF rfl rfl (by omega)) rfl rfl ?_
      refine SD.take rfl panicBody (op_move rfl) rfl rfl ?_
      refine SD.take rfl panicBody (op_fieldAddr fa40_0 rfl) rfl rfl ?_
      refine SD.take rfl panicBody (op_load ty36 rfl (by repeat constructor) rfl) rfl rfl ?_
      refine SD.take rfl panicBody (op_gtrF rfl rfl (by omega)) rfl rfl ?_
      refine SD.take rfl panicBody (op_pickF rfl rfl) rfl rfl ?_
      refine SD.take rfl panicBody (op_move rfl) rfl rfl ?_
      refine SD.take rfl panicBody (op_fieldAddr fa40_3 rfl) rfl rfl ?_
      refine SD.take rfl panicBody (op_load ty38 rfl (by repeat constructor) rfl) rfl rfl ?_
      refine SD.take rfl panicBody (op_lenS Tryz.underlying38 rfl) rfl rfl ?_
      refine SD.take rfl panicBody (op_fieldAddr fa40_0 rfl) rfl rfl ?_
      refine SD.take rfl panicBody (op_load ty36 rfl (by repeat constructor) rfl) rfl rfl ?_
      refine SD.run rfl (op_callF en106 (vs := [_]) rfl (argN_spec)) rfl rfl ?_
      rintro _ _ X1 ⟨rfl, hX1, rfl⟩
      rw [← hl] at a3
      refine SD.take rfl panicBody (op_neqF rfl rfl (by omega)) rfl rfl ?_
      refine SD.take rfl panicBody (op_pickF rfl rfl) rfl rfl ?_
      refine SD.take rfl panicBody (op_assign rfl) rfl rfl ?_
      refine SD.nil ?_
      show SL _ _ _ _ _ _ _ [] _ _ _
      refine SL.nil <| T.condF rfl <| T.seq <| T.seq <| T.region <| SL.v (op_fieldAddr fa40_1 rfl) <| SL.v (op_load ty3 rfl (by repeat constructor) rfl) ?_
      refine SL.v (op_neqF rfl rfl (by omega)) ?_
      refine SL.mv rfl <| SL.skip rfl rfl ?_
      refine SL.skip rfl rfl ?_
      refine SL.skip rfl rfl ?_
      refine SL.v (op_pickF rfl rfl) <| SL.as rfl <| SL.nil <| T.condF rfl <| T.region <| SL.v (op_load ty40 rfl (by repeat constructor) rfl) ?_
      refine SL.w (op_callF en107 (vs := [_]) rfl (named_spec (by omega))) ?_
      rintro _ _ X2 ⟨rfl, hX2, rfl⟩
      by_cases hnm : namN op ns.length
      case neg =>
        rw [decide_eq_false hnm]
        refine SL.v (op_not rfl) <| SL.as rfl <| SL.nil <| T.condT rfl <| T.seq <| T.region <| SL.v (op_assign (v := .int .i64 ((6 : Nat) : Int)) rfl) <| SL.nil <| T.ret1 rfl (ResIs.tmp rfl) ?_
        rw [node_own (by rw [own6 hA1 (.inr hnm)]; decide), own6 hA1 (.inr hnm)]; rfl
      rw [decide_eq_true hnm]
      have hA2 : ¬((n ≠ 0 ∧ op ≠ 1) ∨ ¬namN op ns.length) := fun h => h.elim (fun h => hNN h) (fun h => h hnm)
      refine SL.v (op_not rfl) <| SL.as rfl <| SL.nil <| T.condF rfl <| T.seq <| T.region <| SL.v (op_fieldAddr fa40_2 rfl) <| SL.v (op_load ty37 rfl (by repeat constructor) rfl) ?_
      refine SL.w (op_callF en108 (vs := [_, _]) rfl (contf_spec ((hn.mono hX1).mono hX2) (by omega))) ?_
      rintro _ _ X3 ⟨rfl, hX3, bv, rfl, hbv⟩
      cases bv with
      | true =>
        have hv := hbv.1 rfl
        refine SL.as rfl <| SL.nil <| T.condT rfl <| T.seq <| T.region <| SL.v (op_assign (v := .int .i64 ((9 : Nat) : Int)) rfl) <| SL.nil <| T.ret1 rfl (ResIs.tmp rfl) ?_
        rw [node_own (by rw [own9 hA1 hA2 hv]; decide), own9 hA1 hA2 hv]; rfl
      | false =>
      have hv : ∀ s ∈ ns, validS s := Classical.not_not.1 fun h => by have := hbv.2 h; cases this
      by_cases h5 : op = 5
      · subst h5
        have h18 : 1 ≤ ns.length ∧ ns.length ≤ 8 := by simpa [namN] using hnm
        have eA : allE (.mk 0 0 ns []) = ns := by simp [allE, allL]
        have hE : ExR .u8 X3 (.mk 0 0 ns []) (.int .u8 ((0 : Nat) : Int), .int .i64 0, .slice An ns.length cn, .slice none 0 0) := .mk (rows := []) (((hn.mono hX1).mono hX2).mono hX3) (.inl ⟨rfl, _, _, rfl⟩) rfl (fun i a r h => by simp at h)
        have hwE : wtE (.mk 0 0 ns []) < 100000000 := by rw [wtE, wtL]; omega
        have hcall : Spec Tryz.prog 110 [.agg #[.int .u8 0, .int .i64 0, .slice An ns.length cn, .slice none 0 0]] X3 fun u X' => ∃ l' : List ByteArray, l'.Perm ns ∧ AscS l' ∧ RowR strC X' u (compactS l') := by
          have := names_spec hwE hE (by rw [eA]; omega) (by rw [eA]; omega)
          rw [eA] at this
          exact this
        refine SL.as rfl <| SL.nil <| T.condF rfl <| T.seq <| T.draw (by kernel_rfl) 15 [.t 0, .t 1, .t 2, .t 3, .t 4, .t 5, .t 6, .t 9, .t 10, .t 11, .r 7, .t 8, .t 12, .t 13, .t 14] (by kernel_rfl) ?_
        refine SD.take rfl panicBody (op_fieldAddr fa40_0 rfl) rfl rfl ?_
        refine SD.take rfl panicBody (op_load ty36 rfl (by repeat constructor) rfl) rfl rfl ?_
        refine SD.take rfl panicBody (op_eqlT rfl rfl (by omega)) rfl rfl ?_
        refine SD.take rfl panicBody (op_move rfl) rfl rfl ?_
        refine SD.take rfl panicBody (op_fieldAddr fa40_2 rfl) rfl rfl ?_
        refine SD.take rfl panicBody (op_load ty37 rfl (by repeat constructor) rfl) rfl rfl ?_
        refine SD.take rfl panicBody (op_build st40 (qs := [(2, _)]) rfl rfl) rfl rfl ?_
        refine SD.take rfl panicBody (op_fieldAddr fa40_2 rfl) rfl rfl ?_
        refine SD.take rfl panicBody (op_load ty37 rfl (by repeat constructor) rfl) rfl rfl ?_
        refine SD.take rfl panicBody (op_lenS Tryz.underlying37 rfl) rfl rfl ?_
        refine SD.run rfl (op_callF en110 (vs := [_]) rfl (hcall)) rfl rfl ?_
        rintro u _ X4 ⟨rfl, hX4, l', hperm, hasc, hu⟩
        obtain ⟨Au, cu, rfl⟩ := hu.form
        have hcn := compact_nodup hasc
        have hcl := compact_len l'
        rw [hperm.nodup_iff, hperm.length_eq] at hcn
        rw [hperm.length_eq] at hcl
        by_cases hd : (compactS l').length < ns.length
        · have hnd : ¬ns.Nodup := fun h => by have := hcn.2 h; omega
          refine SD.take rfl panicBody (op_lenS Tryz.underlying37 rfl) rfl rfl ?_
          refine SD.take rfl panicBody (op_lssT rfl rfl (by omega)) rfl rfl ?_
          refine SD.take rfl panicBody (op_pickT rfl rfl) rfl rfl ?_
          refine SD.take rfl panicBody (op_assign rfl) rfl rfl ?_
          refine SD.nil ?_
          show SL _ _ _ _ _ _ _ [] _ _ _
          refine SL.nil <| T.condT rfl <| T.seq <| T.region <| SL.v (op_assign (v := .int .i64 ((5 : Nat) : Int)) rfl) <| SL.nil <| T.ret1 rfl (ResIs.tmp rfl) ?_
          rw [node_own (by rw [own5 hA1 hA2 hv hnd]; decide), own5 hA1 hA2 hv hnd]; rfl
        have hnd : ns.Nodup := hcn.1 (by omega)
        have hown := own0' hA1 hA2 hv hnd (by omega)
        have hXB := (hX1.trans' (hX2.trans' hX3)).trans' hX4
        refine SD.take rfl panicBody (op_lenS Tryz.underlying37 rfl) rfl rfl ?_
        refine SD.take rfl panicBody (op_lssF rfl rfl (by omega)) rfl rfl ?_
        refine SD.take rfl panicBody (op_pickT rfl rfl) rfl rfl ?_
        refine SD.take rfl panicBody (op_assign rfl) rfl rfl ?_
        refine SD.nil ?_
        show SL _ _ _ _ _ _ _ [] _ _ _
        refine SL.nil <| T.condF rfl <| T.seq <| T.region <| SL.v (op_fieldAddr fa40_1 rfl) <| SL.v (op_load ty3 rfl (by repeat constructor) rfl) ?_
        refine SL.v (op_lssF rfl rfl (by omega)) ?_
        refine SL.mv rfl <| SL.v (op_fieldAddr fa40_1 rfl) <| SL.v (op_load ty3 rfl (by repeat constructor) rfl) ?_
        refine SL.v (op_gtrF rfl rfl (by omega)) ?_
        refine SL.v (op_pickF rfl rfl) <| SL.as rfl <| SL.nil <| T.condF rfl <| T.skip <| T.blk <| T.seq <| T.seq <| T.region <| SL.v (op_fieldAddr fa40_3 rfl) <| SL.v (op_load ty38 rfl (by repeat constructor) rfl) ?_
        refine SL.v (op_lenS Tryz.underlying38 rfl) <| SL.v (op_move (v := .int .i64 ((0 : Nat) : Int)) rfl) <| SL.nil <| T.block <| T.drop B1 (by repeat constructor) ?_
        refine T.loopW (fun m env own X' => ∃ i : Nat, m = rows.length - i ∧ i ≤ rows.length ∧ X4.le X' ∧ nodeL (al.take i) = 0 ∧ env = [(65, .slice Aa rows.length ca), (66, .int .i64 (rows.length : Int)), (67, .int .i64 (i : Int))] ∧ own = []) rows.length ⟨0, by simp, by omega, PMap.le_refl _, by simp [nodeL], rfl, rfl⟩ (by repeat (first | exact Sub.nil | refine Sub.cons rfl ?_)) ?_
        rintro m _ _ X5 ⟨i, rfl, hi, hX5, hz0, rfl, rfl⟩
        rcases Nat.lt_or_ge i rows.length with hil | hil
        · obtain ⟨r2, hr2⟩ : ∃ r2, rows[i]? = some r2 := ⟨_, List.getElem?_eq_getElem hil⟩
          obtain ⟨a, ha2⟩ : ∃ a, al[i]? = some a := ⟨_, List.getElem?_eq_getElem (by omega)⟩
          have hra := hr i a r2 ha2 hr2
          obtain ⟨bA, pre, rfl, hbA⟩ := ha.blk (by omega)
          obtain ⟨_, _, _, _, _, _, _, _, rfl⟩ := hra.form
          have hwa := wtL_mem (List.mem_of_getElem? ha2)
          refine T.seq <| T.region <| SL.v (op_lssT rfl rfl (by omega)) ?_
          refine SL.nil <| T.seq <| T.condT rfl <| T.skip <| T.seq <| T.block <| T.seq <| T.region <| SL.v (op_indexN Tryz.underlying38 ty40 rfl rfl (by omega)) ?_
          refine SL.v (op_loadX ty40 rfl ((hbA.mono hXB).mono hX5) (row_read rc4_len hr2 (by omega))) ?_
          refine SL.w (op_alloc z40) ?_
          rintro _ _ _ ⟨B4, rfl, rfl, rfl⟩
          refine SL.w (op_store ty40 rfl rfl (by repeat constructor) rfl rfl rfl) ?_
          rintro _ _ _ ⟨rfl, rfl⟩
          refine SL.nil <| T.seq <| T.region <| SL.v (op_load ty40 rfl (by repeat constructor) rfl) ?_
          refine SL.w (op_callF en56 (vs := [_]) rfl (ih (by omega) (by omega) ((hra.mono hXB).mono hX5))) ?_
          rintro _ _ X6 ⟨rfl, hX6, rfl⟩
          by_cases hz : nodeE a = 0
          · skip
            refine SL.as rfl <| SL.nil <| T.seq <| T.region <| SL.mv rfl <| SL.v (op_neqF rfl rfl (by omega)) ?_
            refine SL.nil <| T.condF rfl <| T.skip <| T.blk <| T.region <| SL.v (op_addN (q := 1) rfl rfl (by omega)) ?_
            refine SL.mv rfl <| SL.nil <| T.drop B4 (by repeat constructor) ?_
            exact T.backW (rows.length - (i + 1)) (by omega) ⟨i + 1, rfl, by omega, hX5.trans' hX6, nodeL_snoc hz0 ha2 hz, rfl, rfl⟩ (by repeat (first | exact Sub.nil | refine Sub.cons rfl ?_))
          · refine SL.as rfl <| SL.nil <| T.seq <| T.region <| SL.mv rfl <| SL.v (op_neqT rfl rfl (by omega)) ?_
            refine SL.nil <| T.condT rfl <| T.seq <| T.region <| SL.mv rfl <| SL.as rfl <| SL.nil <| T.ret1 rfl (ResIs.tmp rfl) ?_
            rw [node_args hown, nodeL_at hz0 ha2 hz]
        · obtain rfl : i = rows.length := by omega
          rw [show al.take rows.length = al from List.take_of_length_le (by omega)] at hz0
          refine T.seq <| T.region <| SL.v (op_lssF rfl rfl (by omega)) ?_
          refine SL.nil <| T.seq <| T.condF rfl ?_
          refine T.exit (T.exitCode (T.exitCut (T.exitBlk ?_)))
          refine T.seq <| T.region <| SL.v (op_assign (v := .int .i64 ((0 : Nat) : Int)) rfl) <| SL.nil <| T.ret1 rfl (ResIs.tmp rfl) ?_
          rw [node_args hown, hz0]; rfl
      · have hown := fun hnd => own0' (op := op) (n := n) (ns := ns) (k := al.length) hA1 hA2 hv hnd (by omega)
        have hXB := hX1.trans' (hX2.trans' hX3)
        have hnd : ns.Nodup := nodup_small (by simp only [namN, h5, if_false] at hnm; split at hnm <;> omega)
        have hown := hown hnd
        refine SL.as rfl <| SL.nil <| T.condF rfl <| T.seq <| T.draw (by kernel_rfl) 15 [.t 0, .t 1, .t 2, .t 3, .t 4, .t 5, .t 6, .t 9, .t 10, .t 11, .r 7, .t 8, .t 12, .t 13, .t 14] (by kernel_rfl) ?_
        refine SD.take rfl panicBody (op_fieldAddr fa40_0 rfl) rfl rfl ?_
        refine SD.take rfl panicBody (op_load ty36 rfl (by repeat constructor) rfl) rfl rfl ?_
        refine SD.take rfl panicBody (op_eqlF rfl rfl (by omega)) rfl rfl ?_
        refine SD.take rfl panicBody (op_move rfl) rfl rfl ?_
        refine SD.skip rfl panicBody rfl rfl ?_
        refine SD.skip rfl panicBody rfl rfl ?_
        refine SD.skip rfl panicBody rfl rfl ?_
        refine SD.skip rfl panicBody rfl rfl ?_
        refine SD.skip rfl panicBody rfl rfl ?_
        refine SD.skip rfl panicBody rfl rfl ?_
        refine SD.skipF rfl rfl rfl ?_
        refine SD.skip rfl panicBody rfl rfl ?_
        refine SD.skip rfl panicBody rfl rfl ?_
        refine SD.take rfl panicBody (op_pickF rfl rfl) rfl rfl ?_
        refine SD.take rfl panicBody (op_assign rfl) rfl rfl ?_
        refine SD.nil ?_
        show SL _ _ _ _ _ _ _ [] _ _ _
        refine SL.nil <| T.condF rfl <| T.seq <| T.region <| SL.v (op_fieldAddr fa40_1 rfl) <| SL.v (op_load ty3 rfl (by repeat constructor) rfl) ?_
        refine SL.v (op_lssF rfl rfl (by omega)) ?_
        refine SL.mv rfl <| SL.v (op_fieldAddr fa40_1 rfl) <| SL.v (op_load ty3 rfl (by repeat constructor) rfl) ?_
        refine SL.v (op_gtrF rfl rfl (by omega)) ?_
        refine SL.v (op_pickF rfl rfl) <| SL.as rfl <| SL.nil <| T.condF rfl <| T.skip <| T.blk <| T.seq <| T.seq <| T.region <| SL.v (op_fieldAddr fa40_3 rfl) <| SL.v (op_load ty38 rfl (by repeat constructor) rfl) ?_
        refine SL.v (op_lenS Tryz.underlying38 rfl) <| SL.v (op_move (v := .int .i64 ((0 : Nat) : Int)) rfl) <| SL.nil <| T.block <| T.drop B1 (by repeat constructor) ?_
        refine T.loopW (fun m env own X' => ∃ i : Nat, m = rows.length - i ∧ i ≤ rows.length ∧ X3.le X' ∧ nodeL (al.take i) = 0 ∧ env = [(65, .slice Aa rows.length ca), (66, .int .i64 (rows.length : Int)), (67, .int .i64 (i : Int))] ∧ own = []) rows.length ⟨0, by simp, by omega, PMap.le_refl _, by simp [nodeL], rfl, rfl⟩ (by repeat (first | exact Sub.nil | refine Sub.cons rfl ?_)) ?_
        rintro m _ _ X5 ⟨i, rfl, hi, hX5, hz0, rfl, rfl⟩
        rcases Nat.lt_or_ge i rows.length with hil | hil
        · obtain ⟨r2, hr2⟩ : ∃ r2, rows[i]? = some r2 := ⟨_, List.getElem?_eq_getElem hil⟩
          obtain ⟨a, ha2⟩ : ∃ a, al[i]? = some a := ⟨_, List.getElem?_eq_getElem (by omega)⟩
          have hra := hr i a r2 ha2 hr2
          obtain ⟨bA, pre, rfl, hbA⟩ := ha.blk (by omega)
          obtain ⟨_, _, _, _, _, _, _, _, rfl⟩ := hra.form
          have hwa := wtL_mem (List.mem_of_getElem? ha2)
          refine T.seq <| T.region <| SL.v (op_lssT rfl rfl (by omega)) ?_
          refine SL.nil <| T.seq <| T.condT rfl <| T.skip <| T.seq <| T.block <| T.seq <| T.region <| SL.v (op_indexN Tryz.underlying38 ty40 rfl rfl (by omega)) ?_
          refine SL.v (op_loadX ty40 rfl ((hbA.mono hXB).mono hX5) (row_read rc4_len hr2 (by omega))) ?_
          refine SL.w (op_alloc z40) ?_
          rintro _ _ _ ⟨B4, rfl, rfl, rfl⟩
          refine SL.w (op_store ty40 rfl rfl (by repeat constructor) rfl rfl rfl) ?_
          rintro _ _ _ ⟨rfl, rfl⟩
          refine SL.nil <| T.seq <| T.region <| SL.v (op_load ty40 rfl (by repeat constructor) rfl) ?_
          refine SL.w (op_callF en56 (vs := [_]) rfl (ih (by omega) (by omega) ((hra.mono hXB).mono hX5))) ?_
          rintro _ _ X6 ⟨rfl, hX6, rfl⟩
          by_cases hz : nodeE a = 0
          · skip
            refine SL.as rfl <| SL.nil <| T.seq <| T.region <| SL.mv rfl <| SL.v (op_neqF rfl rfl (by omega)) ?_
            refine SL.nil <| T.condF rfl <| T.skip <| T.blk <| T.region <| SL.v (op_addN (q := 1) rfl rfl (by omega)) ?_
            refine SL.mv rfl <| SL.nil <| T.drop B4 (by repeat constructor) ?_
            exact T.backW (rows.length - (i + 1)) (by omega) ⟨i + 1, rfl, by omega, hX5.trans' hX6, nodeL_snoc hz0 ha2 hz, rfl, rfl⟩ (by repeat (first | exact Sub.nil | refine Sub.cons rfl ?_))
          · refine SL.as rfl <| SL.nil <| T.seq <| T.region <| SL.mv rfl <| SL.v (op_neqT rfl rfl (by omega)) ?_
            refine SL.nil <| T.condT rfl <| T.seq <| T.region <| SL.mv rfl <| SL.as rfl <| SL.nil <| T.ret1 rfl (ResIs.tmp rfl) ?_
            rw [node_args hown, nodeL_at hz0 ha2 hz]
        · obtain rfl : i = rows.length := by omega
          rw [show al.take rows.length = al from List.take_of_length_le (by omega)] at hz0
          refine T.seq <| T.region <| SL.v (op_lssF rfl rfl (by omega)) ?_
          refine SL.nil <| T.seq <| T.condF rfl ?_
          refine T.exit (T.exitCode (T.exitCut (T.exitBlk ?_)))
          refine T.seq <| T.region <| SL.v (op_assign (v := .int .i64 ((0 : Nat) : Int)) rfl) <| SL.nil <| T.ret1 rfl (ResIs.tmp rfl) ?_
          rw [node_args hown, hz0]; rfl
    · have hop : op = 1 := Decidable.not_not.1 fun h => hNN ⟨b1, h⟩
      refine Spec.enter Tryz.func56 rfl Tryz.ntmps56 rfl ?_
      intro w0 hw0
      refine T.seq <| T.region <| SL.w (op_box rfl) ?_
      rintro _ _ _ ⟨B1, rfl, rfl, rfl⟩
      refine SL.v (op_assign (v := .int .i64 ((0 : Nat) : Int)) rfl) <| SL.nil <| T.seq <| T.block <| T.seq <| T.draw (by kernel_rfl) 18 [.t 0, .t 1, .t 2, .t 3, .t 4, .t 5, .t 6, .t 7, .t 8, .t 9, .t 10, .t 11, .t 12, .t 13, .r 14, .t 15, .t 16, .t 17] (by kernel_rfl) ?_
      refine SD.take rfl panicBody (op_fieldAddr fa40_0 rfl) rfl rfl ?_
      refine SD.take rfl panicBody (op_load ty36 rfl (by repeat constructor) rfl) rfl rfl ?_
      refine SD.take rfl panicBody (op_lssF rfl rfl (by omega)) rfl rfl ?_
      refine SD.take rfl panicBody (op_move rfl) rfl rfl ?_
      refine SD.take rfl panicBody (op_fieldAddr fa40_0 rfl) rfl rfl ?_
      refine SD.take rfl panicBody (op_load ty36 rfl (by repeat constructor) rfl) rfl rfl ?_
      refine SD.take rfl panicBody (op_gtrF rfl rfl (by omega)) rfl rfl ?_
      refine SD.take rfl panicBody (op_pickF rfl rfl) rfl rfl ?_
      refine SD.take rfl panicBody (op_move rfl) rfl rfl ?_
      refine SD.take rfl panicBody (op_fieldAddr fa40_3 rfl) rfl rfl ?_
      refine SD.take rfl panicBody (op_load ty38 rfl (by repeat constructor) rfl) rfl rfl ?_
      refine SD.take rfl panicBody (op_lenS Tryz.underlying38 rfl) rfl rfl ?_
      refine SD.take rfl panicBody (op_fieldAddr fa40_0 rfl) rfl rfl ?_
      refine SD.take rfl panicBody (op_load ty36 rfl (by repeat constructor) rfl) rfl rfl ?_
      refine SD.run rfl (op_callF en106 (vs := [_]) rfl (argN_spec)) rfl rfl ?_
      rintro _ _ X1 ⟨rfl, hX1, rfl⟩
      rw [← hl] at a3
      refine SD.take rfl panicBody (op_neqF rfl rfl (by omega)) rfl rfl ?_
      refine SD.take rfl panicBody (op_pickF rfl rfl) rfl rfl ?_
      refine SD.take rfl panicBody (op_assign rfl) rfl rfl ?_
      refine SD.nil ?_
      show SL _ _ _ _ _ _ _ [] _ _ _
      refine SL.nil <| T.condF rfl <| T.seq <| T.seq <| T.region <| SL.v (op_fieldAddr fa40_1 rfl) <| SL.v (op_load ty3 rfl (by repeat constructor) rfl) ?_
      refine SL.v (op_neqT rfl rfl (by omega)) ?_
      refine SL.mv rfl <| SL.v (op_fieldAddr fa40_0 rfl) <| SL.v (op_load ty36 rfl (by repeat constructor) rfl) ?_
      refine SL.v (op_neqF rfl rfl (by omega)) ?_
      refine SL.v (op_pickT rfl rfl) <| SL.as rfl <| SL.nil <| T.condF rfl <| T.region <| SL.v (op_load ty40 rfl (by repeat constructor) rfl) ?_
      refine SL.w (op_callF en107 (vs := [_]) rfl (named_spec (by omega))) ?_
      rintro _ _ X2 ⟨rfl, hX2, rfl⟩
      by_cases hnm : namN op ns.length
      case neg =>
        rw [decide_eq_false hnm]
        refine SL.v (op_not rfl) <| SL.as rfl <| SL.nil <| T.condT rfl <| T.seq <| T.region <| SL.v (op_assign (v := .int .i64 ((6 : Nat) : Int)) rfl) <| SL.nil <| T.ret1 rfl (ResIs.tmp rfl) ?_
        rw [node_own (by rw [own6 hA1 (.inr hnm)]; decide), own6 hA1 (.inr hnm)]; rfl
      rw [decide_eq_true hnm]
      have hA2 : ¬((n ≠ 0 ∧ op ≠ 1) ∨ ¬namN op ns.length) := fun h => h.elim (fun h => hNN h) (fun h => h hnm)
      refine SL.v (op_not rfl) <| SL.as rfl <| SL.nil <| T.condF rfl <| T.seq <| T.region <| SL.v (op_fieldAddr fa40_2 rfl) <| SL.v (op_load ty37 rfl (by repeat constructor) rfl) ?_
      refine SL.w (op_callF en108 (vs := [_, _]) rfl (contf_spec ((hn.mono hX1).mono hX2) (by omega))) ?_
      rintro _ _ X3 ⟨rfl, hX3, bv, rfl, hbv⟩
      cases bv with
      | true =>
        have hv := hbv.1 rfl
        refine SL.as rfl <| SL.nil <| T.condT rfl <| T.seq <| T.region <| SL.v (op_assign (v := .int .i64 ((9 : Nat) : Int)) rfl) <| SL.nil <| T.ret1 rfl (ResIs.tmp rfl) ?_
        rw [node_own (by rw [own9 hA1 hA2 hv]; decide), own9 hA1 hA2 hv]; rfl
      | false =>
      have hv : ∀ s ∈ ns, validS s := Classical.not_not.1 fun h => by have := hbv.2 h; cases this
      have hnd : ns.Nodup := nodup_small (by simp [namN, hop] at hnm; rw [hnm]; simp)
      have hXB := hX1.trans' (hX2.trans' hX3)
      by_cases hlo : n < 0
      · have e := own2 hA1 hA2 hv hnd (.inl hlo)
        refine SL.as rfl <| SL.nil <| T.condF rfl <| T.seq <| T.draw (by kernel_rfl) 15 [.t 0, .t 1, .t 2, .t 3, .t 4, .t 5, .t 6, .t 9, .t 10, .t 11, .r 7, .t 8, .t 12, .t 13, .t 14] (by kernel_rfl) ?_
        refine SD.take rfl panicBody (op_fieldAddr fa40_0 rfl) rfl rfl ?_
        refine SD.take rfl panicBody (op_load ty36 rfl (by repeat constructor) rfl) rfl rfl ?_
        refine SD.take rfl panicBody (op_eqlF rfl rfl (by omega)) rfl rfl ?_
        refine SD.take rfl panicBody (op_move rfl) rfl rfl ?_
        refine SD.skip rfl panicBody rfl rfl ?_
        refine SD.skip rfl panicBody rfl rfl ?_
        refine SD.skip rfl panicBody rfl rfl ?_
        refine SD.skip rfl panicBody rfl rfl ?_
        refine SD.skip rfl panicBody rfl rfl ?_
        refine SD.skip rfl panicBody rfl rfl ?_
        refine SD.skipF rfl rfl rfl ?_
        refine SD.skip rfl panicBody rfl rfl ?_
        refine SD.skip rfl panicBody rfl rfl ?_
        refine SD.take rfl panicBody (op_pickF rfl rfl) rfl rfl ?_
        refine SD.take rfl panicBody (op_assign rfl) rfl rfl ?_
        refine SD.nil ?_
        show SL _ _ _ _ _ _ _ [] _ _ _
        refine SL.nil <| T.condF rfl <| T.seq <| T.region <| SL.v (op_fieldAddr fa40_1 rfl) <| SL.v (op_load ty3 rfl (by repeat constructor) rfl) ?_
        refine SL.v (op_lssT rfl rfl (by omega)) ?_
        refine SL.mv rfl <| SL.skip rfl rfl ?_
        refine SL.skip rfl rfl ?_
        refine SL.skip rfl rfl ?_
        refine SL.v (op_pickT rfl rfl) <| SL.as rfl <| SL.nil <| T.condT rfl <| T.seq <| T.region <| SL.v (op_assign (v := .int .i64 ((2 : Nat) : Int)) rfl) <| SL.nil <| T.ret1 rfl (ResIs.tmp rfl) ?_
        rw [node_own (by rw [e]; decide), e]; rfl
      by_cases hhi : 999999 < n
      · have e := own2 hA1 hA2 hv hnd (.inr hhi)
        refine SL.as rfl <| SL.nil <| T.condF rfl <| T.seq <| T.draw (by kernel_rfl) 15 [.t 0, .t 1, .t 2, .t 3, .t 4, .t 5, .t 6, .t 9, .t 10, .t 11, .r 7, .t 8, .t 12, .t 13, .t 14] (by kernel_rfl) ?_
        refine SD.take rfl panicBody (op_fieldAddr fa40_0 rfl) rfl rfl ?_
        refine SD.take rfl panicBody (op_load ty36 rfl (by repeat constructor) rfl) rfl rfl ?_
        refine SD.take rfl panicBody (op_eqlF rfl rfl (by omega)) rfl rfl ?_
        refine SD.take rfl panicBody (op_move rfl) rfl rfl ?_
        refine SD.skip rfl panicBody rfl rfl ?_
        refine SD.skip rfl panicBody rfl rfl ?_
        refine SD.skip rfl panicBody rfl rfl ?_
        refine SD.skip rfl panicBody rfl rfl ?_
        refine SD.skip rfl panicBody rfl rfl ?_
        refine SD.skip rfl panicBody rfl rfl ?_
        refine SD.skipF rfl rfl rfl ?_
        refine SD.skip rfl panicBody rfl rfl ?_
        refine SD.skip rfl panicBody rfl rfl ?_
        refine SD.take rfl panicBody (op_pickF rfl rfl) rfl rfl ?_
        refine SD.take rfl panicBody (op_assign rfl) rfl rfl ?_
        refine SD.nil ?_
        show SL _ _ _ _ _ _ _ [] _ _ _
        refine SL.nil <| T.condF rfl <| T.seq <| T.region <| SL.v (op_fieldAddr fa40_1 rfl) <| SL.v (op_load ty3 rfl (by repeat constructor) rfl) ?_
        refine SL.v (op_lssF rfl rfl (by omega)) ?_
        refine SL.mv rfl <| SL.v (op_fieldAddr fa40_1 rfl) <| SL.v (op_load ty3 rfl (by repeat constructor) rfl) ?_
        refine SL.v (op_gtrT rfl rfl (by omega)) ?_
        refine SL.v (op_pickF rfl rfl) <| SL.as rfl <| SL.nil <| T.condT rfl <| T.seq <| T.region <| SL.v (op_assign (v := .int .i64 ((2 : Nat) : Int)) rfl) <| SL.nil <| T.ret1 rfl (ResIs.tmp rfl) ?_
        rw [node_own (by rw [e]; decide), e]; rfl
      have hown := own0' hA1 hA2 hv hnd (by omega)
      refine SL.as rfl <| SL.nil <| T.condF rfl <| T.seq <| T.draw (by kernel_rfl) 15 [.t 0, .t 1, .t 2, .t 3, .t 4, .t 5, .t 6, .t 9, .t 10, .t 11, .r 7, .t 8, .t 12, .t 13, .t 14] (by kernel_rfl) ?_
      refine SD.take rfl panicBody (op_fieldAddr fa40_0 rfl) rfl rfl ?_
      refine SD.take rfl panicBody (op_load ty36 rfl (by repeat constructor) rfl) rfl rfl ?_
      refine SD.take rfl panicBody (op_eqlF rfl rfl (by omega)) rfl rfl ?_
      refine SD.take rfl panicBody (op_move rfl) rfl rfl ?_
      refine SD.skip rfl panicBody rfl rfl ?_
      refine SD.skip rfl panicBody rfl rfl ?_
      refine SD.skip rfl panicBody rfl rfl ?_
      refine SD.skip rfl panicBody rfl rfl ?_
      refine SD.skip rfl panicBody rfl rfl ?_
      refine SD.skip rfl panicBody rfl rfl ?_
      refine SD.skipF rfl rfl rfl ?_
      refine SD.skip rfl panicBody rfl rfl ?_
      refine SD.skip rfl panicBody rfl rfl ?_
      refine SD.take rfl panicBody (op_pickF rfl rfl) rfl rfl ?_
      refine SD.take rfl panicBody (op_assign rfl) rfl rfl ?_
      refine SD.nil ?_
      show SL _ _ _ _ _ _ _ [] _ _ _
      refine SL.nil <| T.condF rfl <| T.seq <| T.region <| SL.v (op_fieldAddr fa40_1 rfl) <| SL.v (op_load ty3 rfl (by repeat constructor) rfl) ?_
      refine SL.v (op_lssF rfl rfl (by omega)) ?_
      refine SL.mv rfl <| SL.v (op_fieldAddr fa40_1 rfl) <| SL.v (op_load ty3 rfl (by repeat constructor) rfl) ?_
      refine SL.v (op_gtrF rfl rfl (by omega)) ?_
      refine SL.v (op_pickF rfl rfl) <| SL.as rfl <| SL.nil <| T.condF rfl <| T.skip <| T.blk <| T.seq <| T.seq <| T.region <| SL.v (op_fieldAddr fa40_3 rfl) <| SL.v (op_load ty38 rfl (by repeat constructor) rfl) ?_
      refine SL.v (op_lenS Tryz.underlying38 rfl) <| SL.v (op_move (v := .int .i64 ((0 : Nat) : Int)) rfl) <| SL.nil <| T.block <| T.drop B1 (by repeat constructor) ?_
      refine T.loopW (fun m env own X' => ∃ i : Nat, m = rows.length - i ∧ i ≤ rows.length ∧ X3.le X' ∧ nodeL (al.take i) = 0 ∧ env = [(65, .slice Aa rows.length ca), (66, .int .i64 (rows.length : Int)), (67, .int .i64 (i : Int))] ∧ own = []) rows.length ⟨0, by simp, by omega, PMap.le_refl _, by simp [nodeL], rfl, rfl⟩ (by repeat (first | exact Sub.nil | refine Sub.cons rfl ?_)) ?_
      rintro m _ _ X5 ⟨i, rfl, hi, hX5, hz0, rfl, rfl⟩
      rcases Nat.lt_or_ge i rows.length with hil | hil
      · obtain ⟨r2, hr2⟩ : ∃ r2, rows[i]? = some r2 := ⟨_, List.getElem?_eq_getElem hil⟩
        obtain ⟨a, ha2⟩ : ∃ a, al[i]? = some a := ⟨_, List.getElem?_eq_getElem (by omega)⟩
        have hra := hr i a r2 ha2 hr2
        obtain ⟨bA, pre, rfl, hbA⟩ := ha.blk (by omega)
        obtain ⟨_, _, _, _, _, _, _, _, rfl⟩ := hra.form
        have hwa := wtL_mem (List.mem_of_getElem? ha2)
        refine T.seq <| T.region <| SL.v (op_lssT rfl rfl (by omega)) ?_
        refine SL.nil <| T.seq <| T.condT rfl <| T.skip <| T.seq <| T.block <| T.seq <| T.region <| SL.v (op_indexN Tryz.underlying38 ty40 rfl rfl (by omega)) ?_
        refine SL.v (op_loadX ty40 rfl ((hbA.mono hXB).mono hX5) (row_read rc4_len hr2 (by omega))) ?_
        refine SL.w (op_alloc z40) ?_
        rintro _ _ _ ⟨B4, rfl, rfl, rfl⟩
        refine SL.w (op_store ty40 rfl rfl (by repeat constructor) rfl rfl rfl) ?_
        rintro _ _ _ ⟨rfl, rfl⟩
        refine SL.nil <| T.seq <| T.region <| SL.v (op_load ty40 rfl (by repeat constructor) rfl) ?_
        refine SL.w (op_callF en56 (vs := [_]) rfl (ih (by omega) (by omega) ((hra.mono hXB).mono hX5))) ?_
        rintro _ _ X6 ⟨rfl, hX6, rfl⟩
        by_cases hz : nodeE a = 0
        · skip
          refine SL.as rfl <| SL.nil <| T.seq <| T.region <| SL.mv rfl <| SL.v (op_neqF rfl rfl (by omega)) ?_
          refine SL.nil <| T.condF rfl <| T.skip <| T.blk <| T.region <| SL.v (op_addN (q := 1) rfl rfl (by omega)) ?_
          refine SL.mv rfl <| SL.nil <| T.drop B4 (by repeat constructor) ?_
          exact T.backW (rows.length - (i + 1)) (by omega) ⟨i + 1, rfl, by omega, hX5.trans' hX6, nodeL_snoc hz0 ha2 hz, rfl, rfl⟩ (by repeat (first | exact Sub.nil | refine Sub.cons rfl ?_))
        · refine SL.as rfl <| SL.nil <| T.seq <| T.region <| SL.mv rfl <| SL.v (op_neqT rfl rfl (by omega)) ?_
          refine SL.nil <| T.condT rfl <| T.seq <| T.region <| SL.mv rfl <| SL.as rfl <| SL.nil <| T.ret1 rfl (ResIs.tmp rfl) ?_
          rw [node_args hown, nodeL_at hz0 ha2 hz]
      · obtain rfl : i = rows.length := by omega
        rw [show al.take rows.length = al from List.take_of_length_le (by omega)] at hz0
        refine T.seq <| T.region <| SL.v (op_lssF rfl rfl (by omega)) ?_
        refine SL.nil <| T.seq <| T.condF rfl ?_
        refine T.exit (T.exitCode (T.exitCut (T.exitBlk ?_)))
        refine T.seq <| T.region <| SL.v (op_assign (v := .int .i64 ((0 : Nat) : Int)) rfl) <| SL.nil <| T.ret1 rfl (ResIs.tmp rfl) ?_
        rw [node_args hown, hz0]; rfl
/-- The error of an expression. -/
theorem chk_spec {X : PMap} {e : Ex} {r : Row4} (hw : wtE e < 100000000) (h : ExR .u8 X e r) : Spec Tryz.prog 25 [.agg #[r.1, r.2.1, r.2.2.1, r.2.2.2]] X fun u _ => u = .int .i64 (chkE e) := by
  obtain ⟨_, _, _, _, _, _, _, _, rfl⟩ := h.form
  have hd := dep_wt e
  have hs := siz_wt e
  by_cases h1 : 10 < depE e
  · refine Spec.enter Tryz.func25 rfl Tryz.ntmps25 rfl ?_
    intro w0 hw0
    refine T.seq <| T.region <| SL.w (op_box rfl) ?_
    rintro _ _ _ ⟨B1, rfl, rfl, rfl⟩
    refine SL.v (op_assign (v := .int .i64 ((0 : Nat) : Int)) rfl) <| SL.nil <| T.seq <| T.seq <| T.region <| SL.v (op_load ty40 rfl (by repeat constructor) rfl) ?_
    refine SL.w (op_callF en54 (vs := [_]) rfl (depth_spec _ (Nat.le_refl _) (by omega) h)) ?_
    rintro _ _ X1 ⟨rfl, hX1, rfl⟩
    refine SL.v (op_gtrT rfl rfl (by omega)) ?_
    refine SL.mv rfl <| SL.skip rfl rfl ?_
    refine SL.skip rfl rfl ?_
    refine SL.skip rfl rfl ?_
    refine SL.v (op_pickT rfl rfl) <| SL.nil <| T.condT rfl <| T.seq <| T.region <| SL.v (op_assign (v := .int .i64 ((3 : Nat) : Int)) rfl) <| SL.nil <| T.ret1 rfl (ResIs.tmp rfl) ?_
    rw [chkE, if_pos (.inl h1)]; rfl
  · by_cases h2 : 200 < sizE e
    · refine Spec.enter Tryz.func25 rfl Tryz.ntmps25 rfl ?_
      intro w0 hw0
      refine T.seq <| T.region <| SL.w (op_box rfl) ?_
      rintro _ _ _ ⟨B1, rfl, rfl, rfl⟩
      refine SL.v (op_assign (v := .int .i64 ((0 : Nat) : Int)) rfl) <| SL.nil <| T.seq <| T.seq <| T.region <| SL.v (op_load ty40 rfl (by repeat constructor) rfl) ?_
      refine SL.w (op_callF en54 (vs := [_]) rfl (depth_spec _ (Nat.le_refl _) (by omega) h)) ?_
      rintro _ _ X1 ⟨rfl, hX1, rfl⟩
      refine SL.v (op_gtrF rfl rfl (by omega)) ?_
      refine SL.mv rfl <| SL.v (op_load ty40 rfl (by repeat constructor) rfl) ?_
      refine SL.w (op_callF en55 (vs := [_]) rfl (size_spec _ (Nat.le_refl _) (by omega) (h.mono hX1))) ?_
      rintro _ _ X2 ⟨rfl, hX2, rfl⟩
      refine SL.v (op_gtrT rfl rfl (by omega)) ?_
      refine SL.v (op_pickF rfl rfl) <| SL.nil <| T.condT rfl <| T.seq <| T.region <| SL.v (op_assign (v := .int .i64 ((3 : Nat) : Int)) rfl) <| SL.nil <| T.ret1 rfl (ResIs.tmp rfl) ?_
      rw [chkE, if_pos (.inr h2)]; rfl
    · refine Spec.enter Tryz.func25 rfl Tryz.ntmps25 rfl ?_
      intro w0 hw0
      refine T.seq <| T.region <| SL.w (op_box rfl) ?_
      rintro _ _ _ ⟨B1, rfl, rfl, rfl⟩
      refine SL.v (op_assign (v := .int .i64 ((0 : Nat) : Int)) rfl) <| SL.nil <| T.seq <| T.seq <| T.region <| SL.v (op_load ty40 rfl (by repeat constructor) rfl) ?_
      refine SL.w (op_callF en54 (vs := [_]) rfl (depth_spec _ (Nat.le_refl _) (by omega) h)) ?_
      rintro _ _ X1 ⟨rfl, hX1, rfl⟩
      refine SL.v (op_gtrF rfl rfl (by omega)) ?_
      refine SL.mv rfl <| SL.v (op_load ty40 rfl (by repeat constructor) rfl) ?_
      refine SL.w (op_callF en55 (vs := [_]) rfl (size_spec _ (Nat.le_refl _) (by omega) (h.mono hX1))) ?_
      rintro _ _ X2 ⟨rfl, hX2, rfl⟩
      refine SL.v (op_gtrF rfl rfl (by omega)) ?_
      refine SL.v (op_pickF rfl rfl) <| SL.nil <| T.condF rfl <| T.skip <| T.seq <| T.region <| SL.v (op_load ty40 rfl (by repeat constructor) rfl) ?_
      refine SL.w (op_callF en56 (vs := [_]) rfl (node_spec _ (Nat.le_refl _) (by omega) ((h.mono hX1).mono hX2))) ?_
      rintro _ _ X3 ⟨rfl, hX3, rfl⟩
      refine SL.as rfl <| SL.nil <| T.ret1 rfl (ResIs.tmp rfl) ?_
      rw [chkE, if_neg (by omega)]
end Go.Proofs.YtnabbnhefjfegaaGreatDoor
namespace Go.Proofs.YtnabbnhefjfegaaGreatDoor
open Go.RowKit
end Go.Proofs.YtnabbnhefjfegaaGreatDoor
namespace Go.Proofs.YtnabbnhefjfegaaGreatDoor
open Go.RowKit
end Go.Proofs.YtnabbnhefjfegaaGreatDoor
namespace Go.Proofs.YtnabbnhefjfegaaGreatDoor
open Go.RowKit
theorem grow1 {e : TypeId} {b : Nat} {cs : List Value} {size : Nat} (h : cs.length = size) (hm : 1 ≤ maxLen) : GrowS e size (.slice (some ⟨b, 0, none⟩) 1 1) 1 cs [⟨b, cs, e, 1 * size⟩] := .inr ⟨b, 1, rfl, rfl, Nat.le_refl _, hm, by omega⟩
end Go.Proofs.YtnabbnhefjfegaaGreatDoor
namespace Go.Proofs.YtnabbnhefjfegaaGreatDoor
section
set_option maxRecDepth 100000
theorem bs40 : ∃ i z, Tryz.prog.info? 40 = some i ∧ i.size = 4 ∧ i.zero = some z ∧ z.cells = ([.int .u8 0, .int .i64 0, .slice none 0 0, .slice none 0 0] : List Value).toArray := bs_of (by kernel_rfl)
theorem sl38 : SlT Tryz.prog 38 40 4 64 := ⟨Tryz.underlying38, sl_of (by kernel_rfl) (by decide)⟩
end
open Go.RowKit
end Go.Proofs.YtnabbnhefjfegaaGreatDoor
namespace Go.Proofs.YtnabbnhefjfegaaGreatDoor
section
set_option maxRecDepth 100000
theorem fa137_0 : FAdr Tryz.prog 137 0 0 := fadr_mk Tryz.underlying137 rfl rfl (by kernel_rfl)
theorem ty135 : Ty Tryz.prog 135 false 1 := ⟨⟨_, Tryz.underlying135, rfl⟩, by kernel_rfl⟩
end
open Go.RowKit
section
variable {ro : Option Nat} {P : Program} {n : NM} {w0 : Base} {X0 X : PMap} {own : Own} {env : Env}
/-- A part of a string. -/
theorem op_sliceStr {t : TypeId} {x lo hi : Operand} {s : ByteArray} {l h : Nat} {k k' : IntKind} (ht : P.underlying t = some .string) (hx : eev env x = some (.string s)) (hl : eev env lo = some (.int k (l : Int))) (hh : eev env hi = some (.int k' (h : Int))) (h1 : l ≤ h) (h2 : h ≤ s.size) :
    OpY P n env own X (.slice t x (some lo) (some hi) none) (.string (s.extract l h)) := by
  intro a W oper hop ha _
  have hb : (Instr.sliceBounds false s.size s.size (some (.int k (l : Int))) (some (.int k' (h : Int))) none).run P W = .ok (l, h, s.size) W := by
    simp [Instr.sliceBounds, Instr.sliceBound, asIntOf, h2, h1]
  have : (Instr.sliceAt t (.string s) (some (.int k (l : Int))) (some (.int k' (h : Int))) none).run P W = .ok (.string (s.extract l h)) W := by
    simp only [Instr.sliceAt, Sem.run_bind, run_underlying ht, Result.andThen_ok, Instr.slice]
    simp [hb]
  simp [execOp, hop, ha.eval hx, ha.eval hl, ha.eval hh, this]
end
/-- A builder. -/
abbrev BldO (b : Nat) (p s : Value) : Ow := ⟨b, [p, s], 137, 2⟩
theorem copyCheck_spec {X : PMap} {b : Nat} {p s : Value} (hp : p = .pointer none ∨ p = .pointer (some ⟨b, 0, none⟩)) : SpecM Tryz.prog 132 [.pointer (some ⟨b, 0, none⟩)] X [BldO b p s] fun u L' _ => u = .tuple #[] ∧ L' = [BldO b (.pointer (some ⟨b, 0, none⟩)) s] := by
  rcases hp with rfl | rfl
  · refine SpecM.enter Tryz.func132 rfl Tryz.ntmps132 rfl ?_
    intro w0 X0 own0
    refine T.seq <| T.region <| SL.mv rfl <| SL.v (op_nil rfl) <| SL.v (op_fieldAddr fa137_0 rfl) <| SL.v (op_load ty135 rfl (by repeat constructor) rfl) ?_
    refine SL.v (op_eqlNil Tryz.underlying135 rfl rfl) <| SL.nil <| T.condT rfl <| T.region <| SL.mv rfl <| SL.mv rfl <| SL.v (op_toUns (size := 1) Tryz.underlying135 Tryz.underlying180 (by kernel_rfl) rfl AtO.here (by omega)) ?_
    refine SL.v (op_noEsc Tryz.func152 (by kernel_rfl) (by kernel_rfl) (by kernel_rfl) (by kernel_rfl) rfl) ?_
    refine SL.v (op_fromUns (size := 2) Tryz.underlying180 Tryz.underlying135 (by kernel_rfl) rfl AtO.here (by kernel_rfl)) ?_
    refine SL.v (op_nil rfl) <| SL.v (op_fieldAddr fa137_0 rfl) <| SL.w (op_store ty135 rfl rfl (by repeat constructor) rfl rfl rfl) ?_
    rintro _ _ _ ⟨rfl, rfl⟩
    refine SL.nil <| T.doneM0 [BldO b (.pointer (some ⟨b, 0, none⟩)) s] rfl (List.Perm.refl _) ?_
    exact ⟨PMap.le_refl _, rfl, rfl⟩
  · refine SpecM.enter Tryz.func132 rfl Tryz.ntmps132 rfl ?_
    intro w0 X0 own0
    refine T.seq <| T.region <| SL.mv rfl <| SL.v (op_nil rfl) <| SL.v (op_fieldAddr fa137_0 rfl) <| SL.v (op_load ty135 rfl (by repeat constructor) rfl) ?_
    refine SL.v (op_eqlNil Tryz.underlying135 rfl rfl) <| SL.nil <| T.condF rfl <| T.seq <| T.region <| SL.mv rfl <| SL.v (op_nil rfl) <| SL.v (op_fieldAddr fa137_0 rfl) <| SL.v (op_load ty135 rfl (by repeat constructor) rfl) ?_
    refine SL.mv rfl <| SL.v (op_neqSame (size := 2) Tryz.underlying135 (by kernel_rfl) rfl rfl) ?_
    refine SL.nil <| T.condF rfl <| T.skip <| T.doneM0 [BldO b (.pointer (some ⟨b, 0, none⟩)) s] rfl (List.Perm.refl _) ?_
    exact ⟨PMap.le_refl _, rfl, rfl⟩
end Go.Proofs.YtnabbnhefjfegaaGreatDoor
namespace Go.Proofs.YtnabbnhefjfegaaGreatDoor
section
set_option maxRecDepth 100000
theorem en132 : Enters Tryz.prog 132 := enters_mk Tryz.func132 (by kernel_rfl) rfl
theorem fa137_1 : FAdr Tryz.prog 137 1 1 := fadr_mk Tryz.underlying137 rfl rfl (by kernel_rfl)
theorem ty64 : Ty Tryz.prog 64 false 1 := ⟨⟨_, Tryz.underlying64, rfl⟩, by kernel_rfl⟩
end
open Go.RowKit
/-- The builder's bytes. -/
def BufG (l : List UInt8) (s : Value) (G : Own) : Prop := GrowS 5 1 s l.length (Lib.byteCells l) G
theorem builderString_spec {X : PMap} {b : Nat} {p s : Value} {G : Own} {l : List UInt8} (hG : BufG l s G) (h0 : l ≠ []) (hl : l.length < 1000000000) :
    SpecM Tryz.prog 80 [.pointer (some ⟨b, 0, none⟩)] X (BldO b p s :: G) fun u L' _ => u = .string ⟨l.toArray⟩ ∧ L' = [BldO b p s] := by
  rcases hG with ⟨hz, _⟩ | ⟨g, cap, rfl, rfl, hc1, hc2, hc3⟩
  · exact absurd (List.eq_nil_of_length_eq_zero hz) h0
  have hpos : 0 < l.length := List.length_pos_iff.2 h0
  refine SpecM.enter Tryz.func80 rfl Tryz.ntmps80 rfl ?_
  intro w0 X0 own0
  refine T.perm (own' := (BldO b p (.slice (some ⟨g, 0, none⟩) l.length cap) :: own0) ++ [⟨g, Lib.byteCells l, 5, cap * 1⟩]) permC ?_
  refine T.seq <| T.region <| SL.as rfl <| SL.nil <| T.seq <| T.drawG (own0 := BldO b p (.slice (some ⟨g, 0, none⟩) l.length cap) :: own0) (by kernel_rfl) 12 [.t 0, .t 1, .t 2, .t 3, .t 4, .t 5, .t 6, .t 7, .t 8, .t 9, .r 10, .t 11] (by kernel_rfl) ?_
  refine SD.take rfl panicBody (op_move rfl) rfl rfl ?_
  refine SD.take rfl panicBody (op_nil rfl) rfl rfl ?_
  refine SD.take rfl panicBody (op_fieldAddr fa137_1 rfl) rfl rfl ?_
  refine SD.take rfl panicBody (op_load ty64 rfl (by repeat constructor) rfl) rfl rfl ?_
  refine SD.take rfl panicBody (op_sliceData rfl (by omega)) rfl rfl ?_
  refine SD.take rfl panicBody (op_move rfl) rfl rfl ?_
  refine SD.take rfl panicBody (op_nil rfl) rfl rfl ?_
  refine SD.take rfl panicBody (op_fieldAddr fa137_1 rfl) rfl rfl ?_
  refine SD.take rfl panicBody (op_load ty64 rfl (by repeat constructor) rfl) rfl rfl ?_
  refine SD.take rfl panicBody (op_lenS Tryz.underlying64 rfl) rfl rfl ?_
  refine SD.runK rfl (op_unsafeStr Tryz.underlying174 (by kernel_rfl) rfl rfl h0 hc1 hc2) (by rintro _ _ _ ⟨rfl, rfl, rfl⟩; exact ⟨fun p hp => hp, PMap.le_refl _⟩) rfl rfl ?_
  rintro _ _ _ ⟨rfl, rfl, rfl⟩
  refine SD.take rfl panicBody (op_assign rfl) rfl rfl ?_
  refine SD.nil ?_
  show SL _ _ _ _ _ _ _ [] _ _ _
  refine SL.nil <| T.retM1 [BldO b p (.slice (some ⟨g, 0, none⟩) l.length cap)] rfl (ResIs.tmp rfl) (List.Perm.refl _) ?_
  exact ⟨PMap.le_refl _, rfl, rfl⟩
end Go.Proofs.YtnabbnhefjfegaaGreatDoor
namespace Go.Proofs.YtnabbnhefjfegaaGreatDoor
section
set_option maxRecDepth 100000
theorem en133 : Enters Tryz.prog 133 := enters_mk Tryz.func133 (by kernel_rfl) rfl
theorem en77 : Enters Tryz.prog 77 := enters_mk Tryz.func77 (by kernel_rfl) rfl
theorem en78 : Enters Tryz.prog 78 := enters_mk Tryz.func78 (by kernel_rfl) rfl
theorem en80 : Enters Tryz.prog 80 := enters_mk Tryz.func80 (by kernel_rfl) rfl
theorem z137 : Zero Tryz.prog 137 [.pointer none, .slice none 0 0] := ⟨zero_of (by kernel_rfl)⟩
end
open Go.RowKit
section
variable {P : Program} {n : NM} {w0 : Base} {X0 X : PMap} {own : Own} {env : Env}
/-- append of a string onto nil. -/
theorem op_appendStrNil {t u e : TypeId} {s x : Operand} {str : ByteArray} (ht : P.underlying t = some (.slice e)) (hu : P.underlying u = some .string) (hi : ∃ i, P.info? e = some i ∧ i.zero = some (.int .u8 0) ∧ i.size = 1 ∧ i.bytes = 1) (hs : eev env s = some (.slice none 0 0)) (hx : eev env x = some (.string str))
    (h0 : 0 < str.size) (hby : str.size ≤ 140737488355328) :
    OpX P n w0 X0 env own X (.call { callee := .builtin .append, args := #[s, x], argTypes := #[t, u] }) false fun v own' X' => ∃ b cap, v = .slice (some ⟨b, 0, none⟩) str.size cap ∧ own' = ⟨b, Lib.strCells str, e, cap * 1⟩ :: own ∧ X = X' ∧ str.size ≤ cap ∧ cap ≤ maxLen := by
  intro a W oper K Q ro hop ha hsat hK
  obtain ⟨i, i1, i2, i3, i4⟩ := hi
  have hmx : maxLen = 9223372036854775807 := rfl
  have hr := run_append_nil_string (P := P) W t u oper.type e i (.int .u8 0) ht hu i1 i2 str h0 (by omega) (by rw [i4]; omega)
  have hcap := grownCap_ge W str.size 0 e
  have hcm := grownCap_le_maxLen W str.size 0 e (by omega)
  generalize grownCap W str.size 0 e = cap at *
  have hcells : (str.data.map (fun b => Value.int .u8 b.toNat) ++ Builtin.zeroCells (Value.int .u8 0).cells (cap - str.size)) = (Lib.strCells str ++ List.replicate (cap - str.size) (Value.int .u8 0)).toArray := by
    apply Array.ext'
    simp [Lib.strCells, Builtin.zeroCells, Value.cells]
    apply List.ext_getElem
    · simp
    · intro q h1 h2
      simp [Nat.mod_one]
  rw [hcells] at hr
  have hlen : (Lib.strCells str ++ List.replicate (cap - str.size) (Value.int .u8 0)).length = cap * 1 := by
    rw [List.length_append, Lib.strCells_length, List.length_replicate]; omega
  have h1 := (hsat.draw (W.drawn + 1)).alloc (Lib.strCells str ++ List.replicate (cap - str.size) (Value.int .u8 0)) e
  rw [hlen] at h1
  have h2 := h1.less (j := 0) rfl
  have hex : (execOp a.eval oper).run P W = .ok (.value (.slice (some ⟨W.heap.size, 0, none⟩) str.size cap)) (W.drew.alloc (.cells (Lib.strCells str ++ List.replicate (cap - str.size) (Value.int .u8 0)).toArray e)) := by
    simp only [execOp, hop, resolve, invoke, builtin, Sem.run_bind, Sem.run_pure, Result.andThen_ok, List.map_toArray, List.map_cons, List.map_nil, ha.eval hs, ha.eval hx, hr]
  exact wp_value (noDefer_spec (by rw [hop]; rfl)) hex (hK _ _ X _ ⟨_, cap, rfl, rfl, rfl, hcap, hcm⟩ h2 (fun h => by cases h))
/-- bytealg.MakeNoZero: a new row whose bytes nobody knows. -/
theorem op_makeNoZero {f : FuncId} {gn : Func} {x : Operand} {ts ps : Array TypeId} {t e : TypeId} {k : Nat} (hf : P.funcs[f]? = some gn) (h1 : (gn.name == "runtime.NumGoroutine") = false) (h2 : gn.body.isNone = true) (h3 : Extern.findNext gn = none) (h4 : Extern.find gn = some (Extern.BytealgMakeNoZero.makeNoZero ps #[t]))
    (ht : P.underlying t = some (.slice e)) (hx : eev env x = some (.int .i64 (k : Int))) (hk : k ≤ 281474976710656) :
    OpX P n w0 X0 env own X (.call { callee := .value (.func f), args := #[x], argTypes := ts }) false fun v own' X' => ∃ b cap, v = .slice (some ⟨b, 0, none⟩) k cap ∧ own' = ⟨b, [], e, cap * 1⟩ :: own ∧ X = X' ∧ k ≤ cap ∧ cap ≤ maxLen := by
  intro a W oper K Q ro hop ha hsat hK
  have hmx : maxLen = 9223372036854775807 := rfl
  obtain ⟨cs, hr, hc1, hc2⟩ := Lib.run_makeNoZero (P := P) W ps t e ht k hk
  have hc : a.eval (.func f) = .func (.func f) #[] #[] := ha.eval rfl
  have hr2 := run_callFunc_extern hf h1 h2 h3 h4 #[.int .i64 (k : Int)] W
  rw [hr] at hr2
  have hex : (execOp a.eval oper).run P W = .ok (.value (.slice (some ⟨W.heap.size, 0, none⟩) k cs.size)) (W.drew.drew.alloc (.cells cs e)) := by
    simp only [execOp, hop, resolve, hc, Deferred.ofValue, invoke, Sem.run_bind, Sem.run_pure, Result.andThen_ok]
    simpa [ha.eval hx] using hr2
  have s1 := ((hsat.draw (W.drawn + 1)).draw (W.drawn + 1 + 1)).alloc cs.toList e
  rw [show cs.toList.length = cs.size * 1 by simp] at s1
  have s2 := s1.less (j := 0) (cs := []) (ds := cs.toList) rfl
  exact wp_value (noDefer_spec (by rw [hop]; rfl)) hex (hK _ _ X _ ⟨_, cs.size, rfl, rfl, rfl, hc1, hc2 (by omega)⟩ s2 (fun h => by cases h))
end
/-- WriteString, whatever the builder holds. -/
theorem writeStr_spec {X : PMap} {b : Nat} {p s : Value} {G : Own} {l : List UInt8} {t : ByteArray} (hp : p = .pointer none ∨ p = .pointer (some ⟨b, 0, none⟩)) (hG : BufG l s G) (hl : l.length < 1000000000) (ht : t.size < 1000000000) (h0 : 0 < t.size) :
    SpecM Tryz.prog 78 [.pointer (some ⟨b, 0, none⟩), .string t] X (BldO b p s :: G) fun u L' _ => u = .tuple #[.int .i64 (t.size : Int), .nilIface] ∧ ∃ s' G', L' = BldO b (.pointer (some ⟨b, 0, none⟩)) s' :: G' ∧ BufG (l ++ t.data.toList) s' G' := by
  have hts : t.data.toList.length = t.size := by simp
  rcases hG with ⟨hz, hcs, rfl, rfl⟩ | ⟨g, cap, rfl, rfl, hc1, hc2, hc3⟩
  · obtain rfl : l = [] := List.eq_nil_of_length_eq_zero hz
    refine SpecM.enter Tryz.func78 rfl Tryz.ntmps78 rfl ?_
    intro w0 X0 own0
    refine T.perm (own' := BldO b p (.slice none 0 0) :: own0) (List.Perm.refl _) ?_
    refine T.seq <| T.region <| SL.v (op_assign (v := .int .i64 ((0 : Nat) : Int)) rfl) <| SL.as rfl <| SL.nil <| T.seq <| T.region <| SL.mv rfl <| SL.w (op_callM en132 (vs := [_]) rfl (copyCheck_spec hp) rfl) ?_
    rintro _ _ X1 ⟨_, rfl, hX1, rfl, rfl⟩
    refine SL.nil <| T.seq <| T.region <| SL.mv rfl <| SL.mv rfl <| SL.v (op_nil rfl) <| SL.v (op_fieldAddr fa137_1 rfl) <| SL.v (op_load ty64 rfl (by repeat constructor) rfl) ?_
    refine SL.mv rfl <| SL.w (op_appendStrNil Tryz.underlying64 Tryz.underlying9 (infoStr_of (by kernel_rfl)) rfl rfl h0 (by omega)) ?_
    rintro _ _ _ ⟨g, cap, rfl, rfl, rfl, hc1, hc2⟩
    refine SL.v (op_nil rfl) <| SL.v (op_fieldAddr fa137_1 rfl) <| SL.w (op_store ty64 rfl rfl (by repeat constructor) rfl rfl rfl) ?_
    rintro _ _ _ ⟨rfl, rfl⟩
    refine SL.nil <| T.seq <| T.region <| SL.mv rfl <| SL.v (op_lenStr Tryz.underlying9 rfl) <| SL.as rfl <| SL.as rfl <| SL.nil <| T.retM2 (BldO b (.pointer (some ⟨b, 0, none⟩)) _ :: [_]) rfl (ResIs.tmp rfl) (ResIs.tmp rfl) (List.Perm.swap _ _ _) ?_
    refine ⟨hX1, rfl, _, _, rfl, ?_⟩
    rw [BufG, List.nil_append, hts]
    exact .inr ⟨g, cap, rfl, rfl, hc1, hc2, by rw [Lib.byteCells_length, hts]; omega⟩
  · refine SpecM.enter Tryz.func78 rfl Tryz.ntmps78 rfl ?_
    intro w0 X0 own0
    show T _ _ _ _ _ _ _ _ _ (BldO b p _ :: ([_] ++ own0)) _
    refine T.seq <| T.region <| SL.v (op_assign (v := .int .i64 ((0 : Nat) : Int)) rfl) <| SL.as rfl <| SL.nil <| T.seq <| T.region <| SL.mv rfl <| SL.w (op_callM en132 (vs := [_]) rfl (copyCheck_spec hp) rfl) ?_
    rintro _ _ X1 ⟨_, rfl, hX1, rfl, rfl⟩
    refine SL.nil <| T.seq <| T.region <| SL.mv rfl <| SL.mv rfl <| SL.v (op_nil rfl) <| SL.v (op_fieldAddr fa137_1 rfl) <| SL.v (op_load ty64 rfl (by repeat constructor) rfl) ?_
    refine SL.mv rfl <| SL.perm (own' := (BldO b (.pointer (some ⟨b, 0, none⟩)) (.slice (some ⟨g, 0, none⟩) l.length cap) :: own0) ++ [⟨g, Lib.byteCells l, 5, cap * 1⟩]) (permA (G := [_])) ?_
    refine SL.w (op_appendStr (own := BldO b (.pointer (some ⟨b, 0, none⟩)) (.slice (some ⟨g, 0, none⟩) l.length cap) :: own0) Tryz.underlying64 Tryz.underlying9 (infoStr_of (by kernel_rfl)) rfl rfl hc1 hc2 hc3 (by omega)) ?_
    rintro s' _ _ ⟨G', rfl, rfl, hG', _⟩
    obtain ⟨As', cps', rfl⟩ := hG'.form
    refine SL.v (op_nil rfl) <| SL.v (op_fieldAddr fa137_1 rfl) <| SL.w (op_store ty64 rfl rfl (by repeat constructor) rfl rfl rfl) ?_
    rintro _ _ _ ⟨rfl, rfl⟩
    refine SL.nil <| T.seq <| T.region <| SL.mv rfl <| SL.v (op_lenStr Tryz.underlying9 rfl) <| SL.as rfl <| SL.as rfl <| SL.nil <| T.retM2 (BldO b (.pointer (some ⟨b, 0, none⟩)) _ :: G') rfl (ResIs.tmp rfl) (ResIs.tmp rfl) permD ?_
    refine ⟨hX1, rfl, _, G', rfl, ?_⟩
    have e : Lib.byteCells (l ++ t.data.toList) = Lib.byteCells l ++ Lib.strCells t := by rw [Lib.byteCells_append]; rfl
    rw [BufG, e, List.length_append, hts]
    exact hG'
theorem growB_spec {X : PMap} {b : Nat} {p : Value} {k : Nat} (hk : k < 1000000000) (hk0 : 0 < k) : SpecM Tryz.prog 133 [.pointer (some ⟨b, 0, none⟩), .int .i64 (k : Int)] X [BldO b p (.slice none 0 0)] fun _ L' _ => ∃ s G, L' = BldO b p s :: G ∧ BufG [] s G := by
  refine SpecM.enter Tryz.func133 rfl Tryz.ntmps133 rfl ?_
  intro w0 X0 own0
  refine T.perm (own' := BldO b p (.slice none 0 0) :: own0) (List.Perm.refl _) ?_
  refine T.seq <| T.draw (by kernel_rfl) 16 [.t 0, .t 1, .t 2, .t 3, .t 4, .t 5, .t 6, .t 7, .t 9, .t 10, .t 11, .t 12, .t 13, .r 8, .t 14, .t 15] (by kernel_rfl) ?_
  refine SD.take rfl panicBody (op_move rfl) rfl rfl ?_
  refine SD.take rfl panicBody (op_nil rfl) rfl rfl ?_
  refine SD.take rfl panicBody (op_fieldAddr fa137_1 rfl) rfl rfl ?_
  refine SD.take rfl panicBody (op_load ty64 rfl (by repeat constructor) rfl) rfl rfl ?_
  refine SD.take rfl panicBody (op_capS Tryz.underlying64 rfl) rfl rfl ?_
  refine SD.take rfl panicBody (op_mulN (p := 2) (q := 0) rfl rfl (by omega)) rfl rfl ?_
  refine SD.take rfl panicBody (op_move rfl) rfl rfl ?_
  refine SD.take rfl panicBody (op_addN (p := 2 * 0) rfl rfl (by omega)) rfl rfl ?_
  refine SD.take rfl panicBody (op_move rfl) rfl rfl ?_
  refine SD.take rfl panicBody (op_nil rfl) rfl rfl ?_
  refine SD.take rfl panicBody (op_fieldAddr fa137_1 rfl) rfl rfl ?_
  refine SD.take rfl panicBody (op_load ty64 rfl (by repeat constructor) rfl) rfl rfl ?_
  refine SD.take rfl panicBody (op_lenS Tryz.underlying64 rfl) rfl rfl ?_
  refine SD.runK rfl (op_makeNoZero (ps := #[3]) (k := 2 * 0 + k) Tryz.func153 (by kernel_rfl) (by kernel_rfl) (by kernel_rfl) (by kernel_rfl) Tryz.underlying64 rfl (by omega)) (by rintro _ _ _ ⟨g, cap, rfl, rfl, rfl, _, _⟩; exact ⟨fun p hp => List.mem_cons_of_mem _ hp, PMap.le_refl _⟩) rfl rfl ?_
  rintro _ _ _ ⟨g, cap, rfl, rfl, rfl, hc1, hc2⟩
  refine SD.take rfl panicBody (op_sliceHiN (l := 0) Tryz.underlying64 ty5 rfl rfl rfl (by omega)) rfl rfl ?_
  refine SD.take rfl panicBody (op_assign rfl) rfl rfl ?_
  refine SD.nil ?_
  show SL _ _ _ _ _ _ _ [] _ _ _
  refine SL.nil <| T.seq <| T.region <| SL.mv rfl <| SL.mv rfl <| SL.v (op_nil rfl) <| SL.v (op_fieldAddr fa137_1 rfl) <| SL.v (op_load ty64 rfl (by repeat constructor) rfl) ?_
  refine SL.w (op_copyS (m := 0) (size := 1) (sl := 0) (news := []) Tryz.underlying64 (by kernel_rfl) rfl rfl AtO.here Src.nil rfl (by simp) (fun _ h => by cases h)) ?_
  rintro _ _ _ ⟨rfl, rfl, rfl⟩
  refine SL.nil <| T.region <| SL.mv rfl <| SL.mv rfl <| SL.v (op_nil rfl) <| SL.v (op_fieldAddr fa137_1 rfl) <| SL.w (op_store ty64 rfl rfl (by repeat constructor) rfl rfl rfl) ?_
  rintro _ _ _ ⟨rfl, rfl⟩
  refine SL.nil <| T.doneM0 (BldO b p _ :: [_]) rfl (List.Perm.swap _ _ _) ?_
  exact ⟨PMap.le_refl _, _, _, rfl, .inr ⟨g, cap, rfl, rfl, Nat.zero_le _, hc2, rfl⟩⟩
/-- Grow of a builder that holds nothing. -/
theorem growBld_spec {X : PMap} {b : Nat} {p : Value} {k : Nat} (hp : p = .pointer none ∨ p = .pointer (some ⟨b, 0, none⟩)) (hk : k < 1000000000) (hk0 : 0 < k) : SpecM Tryz.prog 77 [.pointer (some ⟨b, 0, none⟩), .int .i64 (k : Int)] X [BldO b p (.slice none 0 0)] fun _ L' _ => ∃ s G, L' = BldO b (.pointer (some ⟨b, 0, none⟩)) s :: G ∧ BufG [] s G := by
  refine SpecM.enter Tryz.func77 rfl Tryz.ntmps77 rfl ?_
  intro w0 X0 own0
  refine T.perm (own' := [BldO b p (.slice none 0 0)] ++ own0) (List.Perm.refl _) ?_
  refine T.seq <| T.region <| SL.mv rfl <| SL.w (op_callM en132 (vs := [_]) rfl (copyCheck_spec hp) rfl) ?_
  rintro _ _ X1 ⟨_, rfl, hX1, rfl, rfl⟩
  refine SL.nil <| T.seq <| T.seq <| T.region <| SL.mv rfl <| SL.v (op_lssF rfl rfl (by omega)) ?_
  refine SL.nil <| T.condF rfl <| T.skip <| T.seq <| T.draw (by kernel_rfl) 13 [.t 0, .t 1, .t 2, .t 3, .t 4, .t 5, .t 6, .t 7, .t 8, .t 9, .t 10, .t 11, .t 12] (by kernel_rfl) ?_
  refine SD.take rfl panicBody (op_move rfl) rfl rfl ?_
  refine SD.take rfl panicBody (op_nil rfl) rfl rfl ?_
  refine SD.take rfl panicBody (op_fieldAddr fa137_1 rfl) rfl rfl ?_
  refine SD.take rfl panicBody (op_load ty64 rfl (by repeat constructor) rfl) rfl rfl ?_
  refine SD.take rfl panicBody (op_capS Tryz.underlying64 rfl) rfl rfl ?_
  refine SD.take rfl panicBody (op_move rfl) rfl rfl ?_
  refine SD.take rfl panicBody (op_nil rfl) rfl rfl ?_
  refine SD.take rfl panicBody (op_fieldAddr fa137_1 rfl) rfl rfl ?_
  refine SD.take rfl panicBody (op_load ty64 rfl (by repeat constructor) rfl) rfl rfl ?_
  refine SD.take rfl panicBody (op_lenS Tryz.underlying64 rfl) rfl rfl ?_
  refine SD.take rfl panicBody (op_subN (p := 0) (q := 0) rfl rfl (by omega) (by omega)) rfl rfl ?_
  refine SD.take rfl panicBody (op_move rfl) rfl rfl ?_
  refine SD.take rfl panicBody (op_lssT rfl rfl (by omega)) rfl rfl ?_
  refine SD.nil ?_
  show SL _ _ _ _ _ _ _ [] _ _ _
  refine SL.nil <| T.condT rfl <| T.region <| SL.mv rfl <| SL.mv rfl <| SL.w (op_callM en133 (vs := [_, _]) rfl (growB_spec hk hk0) rfl) ?_
  rintro _ _ X2 ⟨_, rfl, hX2, s, G, rfl, hG⟩
  refine SL.nil <| T.doneM0 (BldO b _ s :: G) rfl (List.Perm.refl _) ?_
  exact ⟨hX1.trans' hX2, s, G, rfl, hG⟩
def joinL (sep : ByteArray) : List ByteArray → List UInt8
  | [] => []
  | s :: l => s.data.toList ++ (l.map fun t => sep.data.toList ++ t.data.toList).flatten
def sumS (l : List ByteArray) : Nat := (l.map (·.size)).sum
theorem sumS_snoc (l : List ByteArray) (s : ByteArray) : sumS (l ++ [s]) = sumS l + s.size := by simp [sumS]
theorem joinL_snoc (sep : ByteArray) (a : ByteArray) (l : List ByteArray) (s : ByteArray) : joinL sep (a :: (l ++ [s])) = joinL sep (a :: l) ++ sep.data.toList ++ s.data.toList := by simp [joinL]
theorem sumS_take_le : ∀ (l : List ByteArray) (k : Nat), sumS (l.take k) ≤ sumS l
  | [], k => by simp
  | s :: l, 0 => by simp [sumS]
  | s :: l, k + 1 => by
    have := sumS_take_le l k
    simp only [sumS, List.take_succ_cons, List.map_cons, List.sum_cons] at this ⊢; omega
theorem sumS_mem {x : ByteArray} : ∀ {l : List ByteArray}, x ∈ l → x.size ≤ sumS l
  | y :: l, hm => by
    simp only [sumS, List.map_cons, List.sum_cons]
    rcases List.mem_cons.1 hm with rfl | hm
    · omega
    · have := sumS_mem hm; simp only [sumS] at this; omega
theorem joinL_len (sep : ByteArray) : ∀ (a : ByteArray) (l : List ByteArray), (joinL sep (a :: l)).length = sumS (a :: l) + sep.size * l.length
  | a, [] => by simp [joinL, sumS]
  | a, s :: l => by
    have := joinL_len sep a l
    simp only [joinL, sumS, List.map_cons, List.flatten_cons, List.sum_cons, List.length_append, List.length_cons, Nat.mul_succ] at this ⊢
    have e1 : a.data.toList.length = a.size := by simp
    have e2 : s.data.toList.length = s.size := by simp
    have e3 : sep.data.toList.length = sep.size := by simp
    omega
theorem join_spec {X : PMap} {v : Value} {l : List ByteArray} {sep : ByteArray} (h : RowR (fun s : ByteArray => [Value.string s]) X v l) (h1 : 1 ≤ l.length) (hl : l.length < 1000) (hs : sumS l < 100000000) (hz : ∀ s ∈ l, 0 < s.size) (hsp : 0 < sep.size) (hsp2 : sep.size < 1000) : Spec Tryz.prog 116 [v, .string sep] X fun u _ => u = .string ⟨(joinL sep l).toArray⟩ := by
  obtain ⟨A, cp, rfl⟩ := h.form
  obtain ⟨b0, pre, rfl, hB⟩ := h.blk (by omega)
  have hcap := h.cap (by omega)
  have hrd : ∀ {i k' : Nat} {s : ByteArray}, l[i]? = some s → k' = pre.length + i * 1 → cread false 1 (pre ++ (l.map fun s : ByteArray => [Value.string s]).flatten) k' = some (.string s) := fun hi e => row_cell (sz := 1) (j := 0) (fun _ => rfl) hi rfl (by omega)
  obtain ⟨a, l', rfl⟩ : ∃ a l', l = a :: l' := by
    cases l with
    | nil => simp at h1
    | cons a l' => exact ⟨a, l', rfl⟩
  rcases Nat.eq_zero_or_pos l'.length with h0 | h0
  · obtain rfl : l' = [] := List.eq_nil_of_length_eq_zero h0
    refine Spec.enter Tryz.func116 rfl Tryz.ntmps116 rfl ?_
    intro w0 hw0
    refine T.seq <| T.region <| SL.as rfl <| SL.nil <| T.seq <| T.seq <| T.region <| SL.mv rfl <| SL.v (op_lenS Tryz.underlying37 rfl) <| SL.nil <| T.block <| T.seq <| T.region <| SL.v (op_eqlF rfl rfl (by omega)) ?_
    refine SL.as rfl <| SL.nil <| T.condF rfl <| T.seq <| T.region <| SL.v (op_eql rfl rfl) <| SL.as rfl <| SL.nil <| T.condT rfl <| T.seq <| T.region <| SL.mv rfl <| SL.v (op_index Tryz.underlying37 ty9 rfl rfl (by omega) (by omega)) ?_
    refine SL.v (op_loadX ty9 rfl hB (hrd (i := 0) rfl (by omega))) ?_
    refine SL.as rfl <| SL.nil <| T.ret1 rfl (ResIs.tmp rfl) ?_
    simp [joinL]
  · have hd := h.drop (sz := 1) (fun _ => rfl) (k := 1) (by omega)
    simp only [List.length_cons, Nat.add_sub_cancel, List.drop_succ_cons, List.drop_zero] at h hd hcap hl h1
    have hq := joinL_len sep a l'
    have hmul : sep.size * l'.length ≤ 1000 * 1000 := Nat.mul_le_mul (by omega) (by omega)
    have hdiv : 9223372036854775807 / 1000 ≤ 9223372036854775807 / l'.length := Nat.div_le_div_left (by omega) (by omega)
    have hdv : (9223372036854775807 : Nat) / 1000 = 9223372036854775 := by decide
    rw [hdv] at hdiv
    have hmx : maxLen = 9223372036854775807 := rfl
    have hsa : 0 < a.size := hz a (by simp)
    have hsum : sumS (a :: l') = a.size + sumS l' := by simp [sumS]
    simp only [List.length_cons]
    refine Spec.enter Tryz.func116 rfl Tryz.ntmps116 rfl ?_
    intro w0 hw0
    refine T.seq <| T.region <| SL.as rfl <| SL.nil <| T.seq <| T.seq <| T.region <| SL.mv rfl <| SL.v (op_lenS Tryz.underlying37 rfl) <| SL.nil <| T.block <| T.seq <| T.region <| SL.v (op_eqlF rfl rfl (by omega)) ?_
    refine SL.as rfl <| SL.nil <| T.condF rfl <| T.seq <| T.region <| SL.v (op_eqlF rfl rfl (by omega)) ?_
    refine SL.as rfl <| SL.nil <| T.condF rfl <| T.skip <| T.blk <| T.seq <| T.region <| SL.v (op_assign (v := .int .i64 ((0 : Nat) : Int)) rfl) <| SL.nil <| T.seq <| T.seq <| T.region <| SL.mv rfl <| SL.v (op_lenStr Tryz.underlying9 rfl) <| SL.v (op_gtrT rfl rfl (by omega)) ?_
    refine SL.nil <| T.condT rfl <| T.seq <| T.seq <| T.region <| SL.mv rfl <| SL.v (op_lenStr Tryz.underlying9 rfl) <| SL.mv rfl <| SL.v (op_lenS Tryz.underlying37 rfl) <| SL.v (op_subN (p := l'.length + 1) (q := 1) rfl rfl (by omega) (by omega)) ?_
    rw [Nat.add_sub_cancel]
    refine SL.v (op_quoN (p := 9223372036854775807) (q := l'.length) rfl rfl rfl (by omega) (by omega)) ?_
    refine SL.v (op_geqF rfl rfl (by omega)) ?_
    refine SL.nil <| T.condF rfl <| T.skip <| T.region <| SL.mv rfl <| SL.mv rfl <| SL.v (op_lenStr Tryz.underlying9 rfl) <| SL.mv rfl <| SL.v (op_lenS Tryz.underlying37 rfl) <| SL.v (op_subN (p := l'.length + 1) (q := 1) rfl rfl (by omega) (by omega)) ?_
    rw [Nat.add_sub_cancel]
    refine SL.v (op_mulN rfl rfl (by omega)) ?_
    refine SL.v (op_addN (p := 0) rfl rfl (by omega)) ?_
    rw [Nat.zero_add]
    refine SL.as rfl <| SL.nil <| T.seq <| T.seq <| T.region <| SL.mv rfl <| SL.v (op_lenS Tryz.underlying37 rfl) <| SL.v (op_move (v := .int .i64 ((0 : Nat) : Int)) rfl) <| SL.nil <| T.block <| T.loopW (fun m env own X' => ∃ i : Nat, m = l'.length + 1 - i ∧ i ≤ l'.length + 1 ∧ X.le X' ∧ env = [(0, .slice (some ⟨b0, pre.length, none⟩) (l'.length + 1) cp), (1, .string sep), (5, .int .i64 ((sep.size * l'.length + sumS ((a :: l').take i) : Nat) : Int)), (39, .slice (some ⟨b0, pre.length, none⟩) (l'.length + 1) cp), (40, .int .i64 ((l'.length + 1 : Nat) : Int)), (41, .int .i64 (i : Int))] ∧ own = []) (l'.length + 1) ⟨0, by simp, by omega, PMap.le_refl _, rfl, rfl⟩ (by repeat (first | exact Sub.nil | refine Sub.cons rfl ?_)) ?_
    rintro m _ _ X1 ⟨i, rfl, hi, hX1, rfl, rfl⟩
    have htl := sumS_take_le (a :: l') i
    rcases Nat.lt_or_ge i (l'.length + 1) with hil | hil
    · obtain ⟨x, hx⟩ : ∃ x, (a :: l')[i]? = some x := ⟨_, List.getElem?_eq_getElem (by simpa using hil)⟩
      have hts : sumS ((a :: l').take (i + 1)) = sumS ((a :: l').take i) + x.size := by
        obtain ⟨g1, g2⟩ := List.getElem?_eq_some_iff.1 hx
        rw [List.take_succ_eq_append_getElem g1, g2, sumS_snoc]
      have htl2 := sumS_take_le (a :: l') (i + 1)
      refine T.seq <| T.region <| SL.v (op_lssT rfl rfl (by omega)) ?_
      refine SL.nil <| T.seq <| T.condT rfl <| T.skip <| T.seq <| T.block <| T.seq <| T.region <| SL.v (op_indexN Tryz.underlying37 ty9 rfl rfl (by omega)) ?_
      refine SL.v (op_loadX ty9 rfl (hB.mono hX1) (hrd hx (by omega))) ?_
      refine SL.as rfl <| SL.nil <| T.seq <| T.seq <| T.region <| SL.mv rfl <| SL.v (op_lenStr Tryz.underlying9 rfl) <| SL.mv rfl <| SL.v (op_subN (p := 9223372036854775807) rfl rfl (by omega) (by omega)) ?_
      refine SL.v (op_gtrF rfl rfl (by omega)) ?_
      refine SL.nil <| T.condF rfl <| T.skip <| T.region <| SL.mv rfl <| SL.mv rfl <| SL.v (op_lenStr Tryz.underlying9 rfl) <| SL.v (op_addN rfl rfl (by omega)) ?_
      rw [show sep.size * l'.length + sumS ((a :: l').take i) + x.size = sep.size * l'.length + sumS ((a :: l').take (i + 1)) by omega]
      refine SL.as rfl <| SL.nil <| T.blk <| T.region <| SL.v (op_addN (q := 1) rfl rfl (by omega)) ?_
      refine SL.mv rfl <| SL.nil ?_
      exact T.backW (l'.length + 1 - (i + 1)) (by omega) ⟨i + 1, rfl, by omega, hX1, rfl, rfl⟩ (by repeat (first | exact Sub.nil | refine Sub.cons rfl ?_))
    · obtain rfl : i = l'.length + 1 := by omega
      rw [show (a :: l').take (l'.length + 1) = a :: l' from List.take_of_length_le (by simp)]
      refine T.seq <| T.region <| SL.v (op_lssF rfl rfl (by omega)) ?_
      refine SL.nil <| T.seq <| T.condF rfl ?_
      refine T.exit (T.exitCode (T.exitCut (T.exitBlk ?_)))
      refine T.seq <| T.region <| SL.w (op_alloc z137) ?_
      rintro _ _ _ ⟨B8, rfl, rfl, rfl⟩
      refine SL.nil <| T.seq <| T.region <| SL.mv rfl <| SL.w (op_callM en77 (vs := [_, _]) rfl (growBld_spec (.inl rfl) (by omega) (by omega)) rfl) ?_
      rintro _ _ X2 ⟨_, rfl, hX2, s2, G2, rfl, hG2⟩
      refine SL.nil <| T.seq <| T.region <| SL.mv rfl <| SL.v (op_index Tryz.underlying37 ty9 rfl rfl (by omega) (by omega)) ?_
      refine SL.v (op_loadX ty9 rfl ((hB.mono hX1).mono hX2) (hrd (i := 0) rfl (by omega))) ?_
      refine SL.w (op_callM en78 (vs := [_, _]) rfl (writeStr_spec (.inr rfl) hG2 (by simp) (by omega) hsa) rfl) ?_
      rintro _ _ X3 ⟨_, rfl, hX3, rfl, s3, G3, rfl, hG3⟩
      refine SL.nil <| T.seq <| T.seq <| T.region <| SL.mv rfl <| SL.v (op_sliceLo (l := 1) Tryz.underlying37 ty9 rfl rfl (by omega) (by omega)) ?_
      rw [Nat.add_sub_cancel]
      generalize slA (some ⟨b0, pre.length, none⟩) cp 1 1 = A1 at *
      rw [List.nil_append] at hG3
      refine SL.v (op_lenS Tryz.underlying37 rfl) <| SL.v (op_move (v := .int .i64 ((0 : Nat) : Int)) rfl) <| SL.nil <| T.block <| T.loopW (fun m env own X' => ∃ (i : Nat) (s : Value) (G : Own), m = l'.length - i ∧ i ≤ l'.length ∧ X3.le X' ∧ BufG (joinL sep (a :: l'.take i)) s G ∧ env = [(1, .string sep), (8, .pointer (some ⟨B8, 0, none⟩)), (63, .slice A1 l'.length (cp - 1)), (64, .int .i64 (l'.length : Int)), (65, .int .i64 (i : Int))] ∧ own = (BldO B8 (.pointer (some ⟨B8, 0, none⟩)) s :: G) ++ []) l'.length ⟨0, _, _, by simp, by omega, PMap.le_refl _, by simpa [joinL] using hG3, rfl, rfl⟩ (by repeat (first | exact Sub.nil | refine Sub.cons rfl ?_)) ?_
      rintro m _ _ X4 ⟨i, s, G, rfl, hi, hX4, hG, rfl, rfl⟩
      have hjl := joinL_len sep a (l'.take i)
      have hsl : sumS (a :: l'.take i) = a.size + sumS (l'.take i) := by simp [sumS]
      have hst := sumS_take_le l' i
      have hml : sep.size * (l'.take i).length ≤ 1000 * 1000 := Nat.mul_le_mul (by omega) (by rw [List.length_take]; omega)
      rcases Nat.lt_or_ge i l'.length with hil | hil
      · obtain ⟨x, hx⟩ : ∃ x, l'[i]? = some x := ⟨_, List.getElem?_eq_getElem hil⟩
        have hxz := hz x (by simp [List.mem_of_getElem? hx])
        have hxs := sumS_mem (List.mem_of_getElem? hx)
        obtain ⟨b5, pre5, rfl, hB5⟩ := hd.blk (by omega)
        have hX34 := (hX1.trans' hX2).trans' (hX3.trans' hX4)
        refine T.seq <| T.region <| SL.v (op_lssT rfl rfl (by omega)) ?_
        refine SL.nil <| T.seq <| T.condT rfl <| T.skip <| T.seq <| T.block <| T.seq <| T.region <| SL.v (op_indexN Tryz.underlying37 ty9 rfl rfl (by omega)) ?_
        refine SL.v (op_loadX ty9 rfl (hB5.mono hX34) (row_cell (sz := 1) (j := 0) (fun _ => rfl) hx rfl (by omega))) ?_
        refine SL.as rfl <| SL.nil <| T.seq <| T.region <| SL.mv rfl <| SL.w (op_callM en78 (vs := [_, _]) rfl (writeStr_spec (.inr rfl) hG (by omega) (by omega) hsp) rfl) ?_
        rintro _ _ X5 ⟨_, rfl, hX5, rfl, s5, G5, rfl, hG5⟩
        refine SL.nil <| T.region <| SL.mv rfl <| SL.w (op_callM en78 (vs := [_, _]) rfl (writeStr_spec (.inr rfl) hG5 (by rw [List.length_append]; simp; omega) (by omega) hxz) rfl) ?_
        rintro _ _ X6 ⟨_, rfl, hX6, rfl, s6, G6, rfl, hG6⟩
        have hts : l'.take (i + 1) = l'.take i ++ [x] := by
          obtain ⟨g1, g2⟩ := List.getElem?_eq_some_iff.1 hx
          rw [List.take_succ_eq_append_getElem g1, g2]
        rw [← joinL_snoc, ← hts] at hG6
        refine SL.nil <| T.blk <| T.region <| SL.v (op_addN (q := 1) rfl rfl (by omega)) ?_
        refine SL.mv rfl <| SL.nil ?_
        exact T.backW (l'.length - (i + 1)) (by omega) ⟨i + 1, _, _, rfl, by omega, (hX4.trans' hX5).trans' hX6, hG6, rfl, rfl⟩ (by repeat (first | exact Sub.nil | refine Sub.cons rfl ?_))
      · obtain rfl : i = l'.length := by omega
        rw [List.take_length] at hG
        refine T.seq <| T.region <| SL.v (op_lssF rfl rfl (by omega)) ?_
        refine SL.nil <| T.seq <| T.condF rfl ?_
        refine T.exit (T.exitCode (T.exitCut (T.exitBlk ?_)))
        refine T.seq <| T.region <| SL.w (op_callM en80 (vs := [_]) rfl (builderString_spec hG (fun h => by rw [h] at hq; simp at hq; omega) (by omega)) rfl) ?_
        rintro _ _ X5 ⟨_, rfl, hX5, rfl, rfl⟩
        refine SL.as rfl <| SL.nil <| T.ret1 rfl (ResIs.tmp rfl) ?_
        rfl
end Go.Proofs.YtnabbnhefjfegaaGreatDoor
namespace Go.Proofs.YtnabbnhefjfegaaGreatDoor
section
set_option maxRecDepth 100000
theorem en114 : Enters Tryz.prog 114 := enters_mk Tryz.func114 (by kernel_rfl) rfl
theorem en115 : Enters Tryz.prog 115 := enters_mk Tryz.func115 (by kernel_rfl) rfl
theorem en116 : Enters Tryz.prog 116 := enters_mk Tryz.func116 (by kernel_rfl) rfl
theorem en117 : Enters Tryz.prog 117 := enters_mk Tryz.func117 (by kernel_rfl) rfl
theorem en118 : Enters Tryz.prog 118 := enters_mk Tryz.func118 (by kernel_rfl) rfl
theorem en58 : Enters Tryz.prog 58 := enters_mk Tryz.func58 (by kernel_rfl) rfl
end
open Go.RowKit
theorem decG_len : ∀ f v : Nat, (decG f v).length ≤ f
  | 0, _ => by simp [decG]
  | f + 1, v => by
    rw [decG]
    split
    · simp
    · have := decG_len f (v / 10)
      rw [List.length_append]; simp; exact this
theorem decB_size (v : Nat) : (decB v).size ≤ 20 := by
  have := decG_len 20 v
  show (decG 20 v).toArray.size ≤ 20
  simpa using this
theorem joinG_len : ∀ l : List ByteArray, (joinG l).length ≤ 2 * wtS l
  | [] => by simp [joinG]
  | s :: l => by
    have hl : ∀ l : List ByteArray, (l.map fun t : ByteArray => [(44 : UInt8), 32] ++ t.data.toList).flatten.length ≤ 2 * wtS l := by
      intro l
      induction l with
      | nil => simp
      | cons t l ih =>
        simp only [wtS, List.map_cons, List.flatten_cons, List.sum_cons, List.length_append, List.length_cons, List.length_nil] at ih ⊢
        have e : t.data.toList.length = t.size := by simp
        omega
    have h2 := hl l
    have e : s.data.toList.length = s.size := by simp
    simp only [joinG, List.length_append]
    simp only [wtS, List.map_cons, List.sum_cons] at h2 ⊢
    omega
theorem joinB_size (l : List ByteArray) : (joinB l).size ≤ 2 * wtS l := by
  have := joinG_len l
  show (joinG l).toArray.size ≤ _
  simpa using this
theorem headD_size (ns : List ByteArray) : (ns.headD ⟨#[]⟩).size ≤ wtS ns := by
  cases ns with
  | nil => exact Nat.zero_le _
  | cons s l => simp only [List.headD_cons, wtS, List.map_cons, List.sum_cons]; omega
theorem parB_size (s : Nat) (t : ByteArray) (k : Nat) : (parB s t k).size ≤ t.size + 2 := by
  have k1 : (⟨#[40]⟩ : ByteArray).size = 1 := rfl
  have k2 : (⟨#[41]⟩ : ByteArray).size = 1 := rfl
  unfold parB
  split
  · simp only [ByteArray.size_append]; omega
  · omega
theorem wordB_size (op : Nat) : (wordB op).size ≤ 5 := by
  unfold wordB
  split <;> decide
mutual
theorem text_size : ∀ e : Ex, (textE e).size ≤ 40 * wtE e
  | .mk op n ns al => by
    have h0 := textL_size al
    have h1 := decB_size n.toNat
    have h2 := joinB_size ns
    have h3 := headD_size ns
    have k1 : (⟨#[116, 114, 117, 101]⟩ : ByteArray).size = 4 := rfl
    have k2 : (⟨#[102, 97, 108, 115, 101]⟩ : ByteArray).size = 5 := rfl
    have k3 : (⟨#[99, 111, 117, 110, 116, 40]⟩ : ByteArray).size = 6 := rfl
    have k4 : (⟨#[41]⟩ : ByteArray).size = 1 := rfl
    have k5 : (⟨#[109, 101, 109, 98, 101, 114, 115, 40]⟩ : ByteArray).size = 8 := rfl
    have k6 : (⟨#[110, 111, 116, 32]⟩ : ByteArray).size = 4 := rfl
    have k7 : (⟨#[]⟩ : ByteArray).size = 0 := rfl
    rw [textE, wtE]
    split
    · omega
    · split
      · omega
      · split
        · omega
        · split
          · omega
          · split
            · simp only [ByteArray.size_append]; omega
            · split
              · simp only [ByteArray.size_append]; omega
              · split
                · omega
                · rename_i x hx
                  rw [hx] at h0
                  have := parB_size x.1 x.2 4
                  simp only [List.map_cons, List.map_nil, List.sum_cons, List.sum_nil] at h0
                  simp only [ByteArray.size_append]; omega
                · rename_i x y l hx
                  rw [hx] at h0
                  have := parB_size x.1 x.2 (lefN op)
                  have := parB_size y.1 y.2 (rigN op)
                  have := wordB_size op
                  simp only [List.map_cons, List.sum_cons] at h0
                  simp only [ByteArray.size_append]; omega
theorem textL_size : ∀ l : List Ex, ((textL l).map fun x : Nat × ByteArray => x.2.size).sum ≤ 40 * wtL l
  | [] => by simp [textL, wtL]
  | a :: l => by
    have h1 := text_size a
    have h2 := textL_size l
    rw [textL, wtL, List.map_cons, List.sum_cons]
    simp only at h1 h2 ⊢
    omega
end
theorem strN_le (op : Nat) : strN op ≤ 7 := by
  unfold strN
  split
  · omega
  · skip
    split
    · omega
    · skip
      split
      · omega
      · skip
        split
        · omega
        · skip
          split
          · omega
          · skip
            split
            · omega
            · omega
theorem strength_spec {X : PMap} {op : Nat} : Spec Tryz.prog 114 [.int .u8 (op : Int)] X fun u _ => u = .int .i64 (strN op : Int) := by
  by_cases h1 : op = 10
  · refine Spec.enter Tryz.func114 rfl Tryz.ntmps114 rfl ?_
    intro w0 hw0
    refine T.seq <| T.region <| SL.v (op_assign (v := .int .i64 ((0 : Nat) : Int)) rfl) <| SL.nil <| T.seq <| T.block <| T.seq <| T.region <| SL.mv rfl <| SL.v (op_eqlT rfl rfl (by omega)) ?_
    refine SL.as rfl <| SL.nil <| T.condT rfl <| T.seq <| T.region <| SL.v (op_assign (v := .int .i64 ((1 : Nat) : Int)) rfl) <| SL.nil <| T.ret1 rfl (ResIs.tmp rfl) ?_
    rw [strN, if_pos h1]
  by_cases h2 : op = 9
  · refine Spec.enter Tryz.func114 rfl Tryz.ntmps114 rfl ?_
    intro w0 hw0
    refine T.seq <| T.region <| SL.v (op_assign (v := .int .i64 ((0 : Nat) : Int)) rfl) <| SL.nil <| T.seq <| T.block <| T.seq <| T.region <| SL.mv rfl <| SL.v (op_eqlF rfl rfl (by omega)) ?_
    refine SL.as rfl <| SL.nil <| T.condF rfl <| T.seq <| T.region <| SL.mv rfl <| SL.v (op_eqlT rfl rfl (by omega)) ?_
    refine SL.as rfl <| SL.nil <| T.condT rfl <| T.seq <| T.region <| SL.v (op_assign (v := .int .i64 ((2 : Nat) : Int)) rfl) <| SL.nil <| T.ret1 rfl (ResIs.tmp rfl) ?_
    rw [strN, if_neg h1, if_pos h2]
  by_cases h3 : op = 8
  · refine Spec.enter Tryz.func114 rfl Tryz.ntmps114 rfl ?_
    intro w0 hw0
    refine T.seq <| T.region <| SL.v (op_assign (v := .int .i64 ((0 : Nat) : Int)) rfl) <| SL.nil <| T.seq <| T.block <| T.seq <| T.region <| SL.mv rfl <| SL.v (op_eqlF rfl rfl (by omega)) ?_
    refine SL.as rfl <| SL.nil <| T.condF rfl <| T.seq <| T.region <| SL.mv rfl <| SL.v (op_eqlF rfl rfl (by omega)) ?_
    refine SL.as rfl <| SL.nil <| T.condF rfl <| T.seq <| T.region <| SL.mv rfl <| SL.v (op_eqlT rfl rfl (by omega)) ?_
    refine SL.as rfl <| SL.nil <| T.condT rfl <| T.seq <| T.region <| SL.v (op_assign (v := .int .i64 ((3 : Nat) : Int)) rfl) <| SL.nil <| T.ret1 rfl (ResIs.tmp rfl) ?_
    rw [strN, if_neg h1, if_neg h2, if_pos h3]
  by_cases h4 : op = 7
  · refine Spec.enter Tryz.func114 rfl Tryz.ntmps114 rfl ?_
    intro w0 hw0
    refine T.seq <| T.region <| SL.v (op_assign (v := .int .i64 ((0 : Nat) : Int)) rfl) <| SL.nil <| T.seq <| T.block <| T.seq <| T.region <| SL.mv rfl <| SL.v (op_eqlF rfl rfl (by omega)) ?_
    refine SL.as rfl <| SL.nil <| T.condF rfl <| T.seq <| T.region <| SL.mv rfl <| SL.v (op_eqlF rfl rfl (by omega)) ?_
    refine SL.as rfl <| SL.nil <| T.condF rfl <| T.seq <| T.region <| SL.mv rfl <| SL.v (op_eqlF rfl rfl (by omega)) ?_
    refine SL.as rfl <| SL.nil <| T.condF rfl <| T.seq <| T.region <| SL.mv rfl <| SL.v (op_eqlT rfl rfl (by omega)) ?_
    refine SL.as rfl <| SL.nil <| T.condT rfl <| T.seq <| T.region <| SL.v (op_assign (v := .int .i64 ((4 : Nat) : Int)) rfl) <| SL.nil <| T.ret1 rfl (ResIs.tmp rfl) ?_
    rw [strN, if_neg h1, if_neg h2, if_neg h3, if_pos h4]
  by_cases h5 : 11 ≤ op ∧ op ≤ 15
  · obtain ⟨g1, g2⟩ := h5
    refine Spec.enter Tryz.func114 rfl Tryz.ntmps114 rfl ?_
    intro w0 hw0
    refine T.seq <| T.region <| SL.v (op_assign (v := .int .i64 ((0 : Nat) : Int)) rfl) <| SL.nil <| T.seq <| T.block <| T.seq <| T.region <| SL.mv rfl <| SL.v (op_eqlF rfl rfl (by omega)) ?_
    refine SL.as rfl <| SL.nil <| T.condF rfl <| T.seq <| T.region <| SL.mv rfl <| SL.v (op_eqlF rfl rfl (by omega)) ?_
    refine SL.as rfl <| SL.nil <| T.condF rfl <| T.seq <| T.region <| SL.mv rfl <| SL.v (op_eqlF rfl rfl (by omega)) ?_
    refine SL.as rfl <| SL.nil <| T.condF rfl <| T.seq <| T.region <| SL.mv rfl <| SL.v (op_eqlF rfl rfl (by omega)) ?_
    refine SL.as rfl <| SL.nil <| T.condF rfl <| T.seq <| T.region <| SL.mv rfl <| SL.v (op_geqT rfl rfl (by omega)) ?_
    refine SL.mv rfl <| SL.mv rfl <| SL.v (op_leqT rfl rfl (by omega)) ?_
    refine SL.v (op_pickT rfl rfl) <| SL.as rfl <| SL.nil <| T.condT rfl <| T.seq <| T.region <| SL.v (op_assign (v := .int .i64 ((5 : Nat) : Int)) rfl) <| SL.nil <| T.ret1 rfl (ResIs.tmp rfl) ?_
    rw [strN, if_neg h1, if_neg h2, if_neg h3, if_neg h4, if_pos ⟨g1, g2⟩]
  by_cases h6 : op = 16
  · refine Spec.enter Tryz.func114 rfl Tryz.ntmps114 rfl ?_
    intro w0 hw0
    refine T.seq <| T.region <| SL.v (op_assign (v := .int .i64 ((0 : Nat) : Int)) rfl) <| SL.nil <| T.seq <| T.block <| T.seq <| T.region <| SL.mv rfl <| SL.v (op_eqlF rfl rfl (by omega)) ?_
    refine SL.as rfl <| SL.nil <| T.condF rfl <| T.seq <| T.region <| SL.mv rfl <| SL.v (op_eqlF rfl rfl (by omega)) ?_
    refine SL.as rfl <| SL.nil <| T.condF rfl <| T.seq <| T.region <| SL.mv rfl <| SL.v (op_eqlF rfl rfl (by omega)) ?_
    refine SL.as rfl <| SL.nil <| T.condF rfl <| T.seq <| T.region <| SL.mv rfl <| SL.v (op_eqlF rfl rfl (by omega)) ?_
    refine SL.as rfl <| SL.nil <| T.condF rfl <| T.seq <| T.region <| SL.mv rfl <| SL.v (op_geqT rfl rfl (by omega)) ?_
    refine SL.mv rfl <| SL.mv rfl <| SL.v (op_leqF rfl rfl (by omega)) ?_
    refine SL.v (op_pickT rfl rfl) <| SL.as rfl <| SL.nil <| T.condF rfl <| T.seq <| T.region <| SL.mv rfl <| SL.v (op_eqlT rfl rfl (by omega)) ?_
    refine SL.as rfl <| SL.nil <| T.condT rfl <| T.seq <| T.region <| SL.v (op_assign (v := .int .i64 ((6 : Nat) : Int)) rfl) <| SL.nil <| T.ret1 rfl (ResIs.tmp rfl) ?_
    rw [strN, if_neg h1, if_neg h2, if_neg h3, if_neg h4, if_neg h5, if_pos h6]
  by_cases h7 : 11 ≤ op
  · have h8 : ¬op ≤ 15 := fun h => h5 ⟨h7, h⟩
    refine Spec.enter Tryz.func114 rfl Tryz.ntmps114 rfl ?_
    intro w0 hw0
    refine T.seq <| T.region <| SL.v (op_assign (v := .int .i64 ((0 : Nat) : Int)) rfl) <| SL.nil <| T.seq <| T.block <| T.seq <| T.region <| SL.mv rfl <| SL.v (op_eqlF rfl rfl (by omega)) ?_
    refine SL.as rfl <| SL.nil <| T.condF rfl <| T.seq <| T.region <| SL.mv rfl <| SL.v (op_eqlF rfl rfl (by omega)) ?_
    refine SL.as rfl <| SL.nil <| T.condF rfl <| T.seq <| T.region <| SL.mv rfl <| SL.v (op_eqlF rfl rfl (by omega)) ?_
    refine SL.as rfl <| SL.nil <| T.condF rfl <| T.seq <| T.region <| SL.mv rfl <| SL.v (op_eqlF rfl rfl (by omega)) ?_
    refine SL.as rfl <| SL.nil <| T.condF rfl <| T.seq <| T.region <| SL.mv rfl <| SL.v (op_geqT rfl rfl (by omega)) ?_
    refine SL.mv rfl <| SL.mv rfl <| SL.v (op_leqF rfl rfl (by omega)) ?_
    refine SL.v (op_pickT rfl rfl) <| SL.as rfl <| SL.nil <| T.condF rfl <| T.seq <| T.region <| SL.mv rfl <| SL.v (op_eqlF rfl rfl (by omega)) ?_
    refine SL.as rfl <| SL.nil <| T.condF rfl <| T.skip <| T.blk <| T.seq <| T.region <| SL.v (op_assign (v := .int .i64 ((7 : Nat) : Int)) rfl) <| SL.nil <| T.ret1 rfl (ResIs.tmp rfl) ?_
    rw [strN, if_neg h1, if_neg h2, if_neg h3, if_neg h4, if_neg h5, if_neg h6]
  · refine Spec.enter Tryz.func114 rfl Tryz.ntmps114 rfl ?_
    intro w0 hw0
    refine T.seq <| T.region <| SL.v (op_assign (v := .int .i64 ((0 : Nat) : Int)) rfl) <| SL.nil <| T.seq <| T.block <| T.seq <| T.region <| SL.mv rfl <| SL.v (op_eqlF rfl rfl (by omega)) ?_
    refine SL.as rfl <| SL.nil <| T.condF rfl <| T.seq <| T.region <| SL.mv rfl <| SL.v (op_eqlF rfl rfl (by omega)) ?_
    refine SL.as rfl <| SL.nil <| T.condF rfl <| T.seq <| T.region <| SL.mv rfl <| SL.v (op_eqlF rfl rfl (by omega)) ?_
    refine SL.as rfl <| SL.nil <| T.condF rfl <| T.seq <| T.region <| SL.mv rfl <| SL.v (op_eqlF rfl rfl (by omega)) ?_
    refine SL.as rfl <| SL.nil <| T.condF rfl <| T.seq <| T.region <| SL.mv rfl <| SL.v (op_geqF rfl rfl (by omega)) ?_
    refine SL.mv rfl <| SL.skip rfl rfl ?_
    refine SL.skip rfl rfl ?_
    refine SL.v (op_pickF rfl rfl) <| SL.as rfl <| SL.nil <| T.condF rfl <| T.seq <| T.region <| SL.mv rfl <| SL.v (op_eqlF rfl rfl (by omega)) ?_
    refine SL.as rfl <| SL.nil <| T.condF rfl <| T.skip <| T.blk <| T.seq <| T.region <| SL.v (op_assign (v := .int .i64 ((7 : Nat) : Int)) rfl) <| SL.nil <| T.ret1 rfl (ResIs.tmp rfl) ?_
    rw [strN, if_neg h1, if_neg h2, if_neg h3, if_neg h4, if_neg h5, if_neg h6]
theorem operand_spec {X : PMap} {e : Ex} {r : Row4} {least : Nat} (hr : ExR .u8 X e r) (ht : ∀ {X' : PMap}, X.le X' → Spec Tryz.prog 58 [.agg #[r.1, r.2.1, r.2.2.1, r.2.2.2]] X' fun u _ => u = .string (textE e)) (hs : (textE e).size < 1000000000000) : Spec Tryz.prog 117 [.agg #[r.1, r.2.1, r.2.2.1, r.2.2.2], .int .i64 (least : Int)] X fun u _ => u = .string (parB (strN e.op) (textE e) least) := by
  have k1 : (⟨#[40]⟩ : ByteArray).size = 1 := rfl
  have k2 : (⟨#[41]⟩ : ByteArray).size = 1 := rfl
  cases hr with
  | @mk op n ns al vn va rows hn ha hl hr =>
  obtain ⟨Aa, ca, rfl⟩ := ha.form
  obtain ⟨An, cn, rfl⟩ := hn.form
  by_cases hc : strN op < least
  · refine Spec.enter Tryz.func117 rfl Tryz.ntmps117 rfl ?_
    intro w0 hw0
    refine T.seq <| T.region <| SL.w (op_box rfl) ?_
    rintro _ _ _ ⟨B2, rfl, rfl, rfl⟩
    refine SL.as rfl <| SL.nil <| T.seq <| T.seq <| T.region <| SL.v (op_fieldAddr fa40_0 rfl) <| SL.v (op_load ty36 rfl (by repeat constructor) rfl) ?_
    refine SL.w (op_callF en114 (vs := [_]) rfl (strength_spec (op := op))) ?_
    rintro _ _ X1 ⟨rfl, hX1, rfl⟩
    refine SL.mv rfl <| SL.v (op_lssT rfl rfl (by omega)) ?_
    refine SL.nil <| T.condT rfl <| T.seq <| T.region <| SL.v (op_load ty40 rfl (by repeat constructor) rfl) ?_
    refine SL.w (op_callF en58 (vs := [_]) rfl (ht hX1)) ?_
    rintro _ _ X2 ⟨rfl, hX2, rfl⟩
    refine SL.v (op_addStr rfl rfl (by first | omega | (simp only [ByteArray.size_append]; omega))) ?_
    refine SL.v (op_addStr rfl rfl (by first | omega | (simp only [ByteArray.size_append]; omega))) ?_
    refine SL.as rfl <| SL.nil <| T.ret1 rfl (ResIs.tmp rfl) ?_
    rw [parB, Ex.op, if_pos hc]
  · refine Spec.enter Tryz.func117 rfl Tryz.ntmps117 rfl ?_
    intro w0 hw0
    refine T.seq <| T.region <| SL.w (op_box rfl) ?_
    rintro _ _ _ ⟨B2, rfl, rfl, rfl⟩
    refine SL.as rfl <| SL.nil <| T.seq <| T.seq <| T.region <| SL.v (op_fieldAddr fa40_0 rfl) <| SL.v (op_load ty36 rfl (by repeat constructor) rfl) ?_
    refine SL.w (op_callF en114 (vs := [_]) rfl (strength_spec (op := op))) ?_
    rintro _ _ X1 ⟨rfl, hX1, rfl⟩
    refine SL.mv rfl <| SL.v (op_lssF rfl rfl (by omega)) ?_
    refine SL.nil <| T.condF rfl <| T.skip <| T.seq <| T.region <| SL.v (op_load ty40 rfl (by repeat constructor) rfl) ?_
    refine SL.w (op_callF en58 (vs := [_]) rfl (ht hX1)) ?_
    rintro _ _ X2 ⟨rfl, hX2, rfl⟩
    refine SL.as rfl <| SL.nil <| T.ret1 rfl (ResIs.tmp rfl) ?_
    rw [parB, Ex.op, if_neg hc]
def words9 : List ByteArray := [wordB 8, wordB 9, wordB 10, wordB 11, wordB 12, wordB 13, wordB 14, wordB 15, wordB 16]
theorem words9_at {op : Nat} (h1 : 8 ≤ op) (h2 : op ≤ 16) : words9[op - 8]? = some (wordB op) := by
  rcases (by omega : op = 8 ∨ op = 9 ∨ op = 10 ∨ op = 11 ∨ op = 12 ∨ op = 13 ∨ op = 14 ∨ op = 15 ∨ op = 16) with rfl | rfl | rfl | rfl | rfl | rfl | rfl | rfl | rfl <;> rfl
theorem wrapU8s {op : Nat} (h1 : 8 ≤ op) (h2 : op < 256) : IntKind.u8.wrap ((op : Int) - 8) = ((op - 8 : Nat) : Int) := by
  have := wrap_u8 (p := (op : Int) - 8) (by omega) (by omega)
  rw [this]; omega
theorem opw_spec {X : PMap} {op : Nat} (h1 : 8 ≤ op) (h2 : op ≤ 16) : Spec Tryz.prog 118 [.int .u8 (op : Int)] X fun u _ => u = .string (wordB op) := by
  have hw := strsC_at (words9_at h1 h2)
  refine Spec.enter Tryz.func118 rfl Tryz.ntmps118 rfl ?_
  intro w0 hw0
  refine T.seq <| T.region <| SL.as rfl <| SL.nil <| T.seq <| T.region <| SL.w (op_buildSlice Tryz.underlying37 bs9 (qs := [(0, _), (1, _), (2, _), (3, _), (4, _), (5, _), (6, _), (7, _), (8, _)]) rfl rfl rfl rfl rfl) ?_
  rintro _ _ _ ⟨B3, rfl, rfl, rfl⟩
  refine SL.mv rfl <| SL.v (op_subW rfl rfl) ?_
  rw [wrapU8s h1 (by omega)]
  refine SL.v (op_indexN Tryz.underlying37 ty9 rfl rfl (by omega)) ?_
  refine SL.v (op_load ty9 rfl (by repeat constructor) (cread1k' hw (by omega))) ?_
  refine SL.as rfl <| SL.nil <| T.ret1 rfl (ResIs.tmp rfl) ?_
  rfl
mutual
/-- All numbers are below M. -/
def numE (M : Nat) : Ex → Prop
  | .mk op n _ al => (op = 1 → n < (M : Int)) ∧ numL M al
def numL (M : Nat) : List Ex → Prop
  | [] => True
  | a :: al => numE M a ∧ numL M al
end
theorem numL_mem {M : Nat} {a : Ex} : ∀ {l : List Ex}, numL M l → a ∈ l → numE M a
  | x :: l, h, hm => by
    rw [numL] at h
    rcases List.mem_cons.1 hm with rfl | hm
    · exact h.1
    · exact numL_mem h.2 hm
/-- strconv.Itoa of numbers below M. -/
def ItoaOk (M : Nat) (X : PMap) : Prop := ∀ X' : PMap, X.le X' → ∀ v : Nat, v < M → Spec Tryz.prog 115 [.int .i64 (v : Int)] X' fun u _ => u = .string (decB v)
theorem ItoaOk.mono {M : Nat} {X X' : PMap} (h : ItoaOk M X) (hX : X.le X') : ItoaOk M X' := fun X1 h' v hv => h X1 (hX.trans' h') v hv
theorem etext_spec {M : Nat} (N : Nat) : ∀ {X : PMap} {e : Ex} {r : Row4}, ItoaOk M X → wtE e ≤ N → N < 1000000 → nodeE e = 0 → numE M e → ExR .u8 X e r → Spec Tryz.prog 58 [.agg #[r.1, r.2.1, r.2.2.1, r.2.2.2]] X fun u _ => u = .string (textE e) := by
  induction N with
  | zero => intro X e r _ h; cases e; rw [wtE] at h; omega
  | succ N ih =>
    intro X e r hI hN hB hnode hnum h
    have hopd : ∀ {X : PMap} {a : Ex} {r : Row4} {least : Nat}, ItoaOk M X → wtE a ≤ N → nodeE a = 0 → numE M a → ExR .u8 X a r → Spec Tryz.prog 117 [.agg #[r.1, r.2.1, r.2.2.1, r.2.2.2], .int .i64 (least : Int)] X fun u _ => u = .string (parB (strN a.op) (textE a) least) := fun h0 h1 h2 h3 h4 => operand_spec h4 (fun hX => ih (h0.mono hX) h1 (by omega) h2 h3 (h4.mono hX)) (Nat.lt_of_le_of_lt (text_size _) (by omega))
    cases h with
    | @mk op n ns al vn va rows hn ha hl hr =>
    obtain ⟨Aa, ca, rfl⟩ := ha.form
    obtain ⟨An, cn, rfl⟩ := hn.form
    have hlen := wtL_len al
    have hnl := wtS_len ns
    rw [wtE] at hN
    obtain ⟨hown, hargs⟩ := node_ok hnode
    obtain ⟨o1, o2, o3, o4, o5, o6, o7, o8, o9⟩ := own_ok hown
    obtain ⟨hn1, hnumL⟩ : (op = 1 → n < (M : Int)) ∧ numL M al := hnum
    have k1 : (⟨#[99, 111, 117, 110, 116, 40]⟩ : ByteArray).size = 6 := rfl
    have k2 : (⟨#[41]⟩ : ByteArray).size = 1 := rfl
    have k3 : (⟨#[109, 101, 109, 98, 101, 114, 115, 40]⟩ : ByteArray).size = 8 := rfl
    have k4 : (⟨#[110, 111, 116, 32]⟩ : ByteArray).size = 4 := rfl
    by_cases c1 : op = 1
    · obtain ⟨v, rfl⟩ := Int.eq_ofNat_of_zero_le o8
      refine Spec.enter Tryz.func58 rfl Tryz.ntmps58 rfl ?_
      intro w0 hw0
      refine T.seq <| T.region <| SL.w (op_box rfl) ?_
      rintro _ _ _ ⟨B1, rfl, rfl, rfl⟩
      refine SL.as rfl <| SL.nil <| T.seq <| T.region <| SL.v (op_fieldAddr fa40_0 rfl) <| SL.v (op_load ty36 rfl (by repeat constructor) rfl) ?_
      refine SL.w (op_callF en114 (vs := [_]) rfl (strength_spec (op := op))) ?_
      rintro _ _ X1 ⟨rfl, hX1, rfl⟩
      refine SL.as rfl <| SL.nil <| T.seq <| T.seq <| T.region <| SL.v (op_fieldAddr fa40_0 rfl) <| SL.v (op_load ty36 rfl (by repeat constructor) rfl) ?_
      refine SL.nil <| T.block <| T.seq <| T.region <| SL.v (op_eqlT rfl rfl (by omega)) ?_
      refine SL.as rfl <| SL.nil <| T.condT rfl <| T.seq <| T.region <| SL.v (op_fieldAddr fa40_1 rfl) <| SL.v (op_load ty3 rfl (by repeat constructor) rfl) ?_
      refine SL.w (op_callF en115 (vs := [_]) rfl (hI _ hX1 v (by have := hn1 c1; omega))) ?_
      rintro _ _ X2 ⟨rfl, hX2, rfl⟩
      refine SL.as rfl <| SL.nil <| T.ret1 rfl (ResIs.tmp rfl) ?_
      rw [textE, if_pos c1]; rfl
    by_cases c2 : op = 2
    · refine Spec.enter Tryz.func58 rfl Tryz.ntmps58 rfl ?_
      intro w0 hw0
      refine T.seq <| T.region <| SL.w (op_box rfl) ?_
      rintro _ _ _ ⟨B1, rfl, rfl, rfl⟩
      refine SL.as rfl <| SL.nil <| T.seq <| T.region <| SL.v (op_fieldAddr fa40_0 rfl) <| SL.v (op_load ty36 rfl (by repeat constructor) rfl) ?_
      refine SL.w (op_callF en114 (vs := [_]) rfl (strength_spec (op := op))) ?_
      rintro _ _ X1 ⟨rfl, hX1, rfl⟩
      refine SL.as rfl <| SL.nil <| T.seq <| T.seq <| T.region <| SL.v (op_fieldAddr fa40_0 rfl) <| SL.v (op_load ty36 rfl (by repeat constructor) rfl) ?_
      refine SL.nil <| T.block <| T.seq <| T.region <| SL.v (op_eqlF rfl rfl (by omega)) ?_
      refine SL.as rfl <| SL.nil <| T.condF rfl <| T.seq <| T.region <| SL.v (op_eqlT rfl rfl (by omega)) ?_
      refine SL.as rfl <| SL.nil <| T.condT rfl <| T.seq <| T.region <| SL.as rfl <| SL.nil <| T.ret1 rfl (ResIs.tmp rfl) ?_
      rw [textE, if_neg c1, if_pos c2]
    by_cases c3 : op = 3
    · refine Spec.enter Tryz.func58 rfl Tryz.ntmps58 rfl ?_
      intro w0 hw0
      refine T.seq <| T.region <| SL.w (op_box rfl) ?_
      rintro _ _ _ ⟨B1, rfl, rfl, rfl⟩
      refine SL.as rfl <| SL.nil <| T.seq <| T.region <| SL.v (op_fieldAddr fa40_0 rfl) <| SL.v (op_load ty36 rfl (by repeat constructor) rfl) ?_
      refine SL.w (op_callF en114 (vs := [_]) rfl (strength_spec (op := op))) ?_
      rintro _ _ X1 ⟨rfl, hX1, rfl⟩
      refine SL.as rfl <| SL.nil <| T.seq <| T.seq <| T.region <| SL.v (op_fieldAddr fa40_0 rfl) <| SL.v (op_load ty36 rfl (by repeat constructor) rfl) ?_
      refine SL.nil <| T.block <| T.seq <| T.region <| SL.v (op_eqlF rfl rfl (by omega)) ?_
      refine SL.as rfl <| SL.nil <| T.condF rfl <| T.seq <| T.region <| SL.v (op_eqlF rfl rfl (by omega)) ?_
      refine SL.as rfl <| SL.nil <| T.condF rfl <| T.seq <| T.region <| SL.v (op_eqlT rfl rfl (by omega)) ?_
      refine SL.as rfl <| SL.nil <| T.condT rfl <| T.seq <| T.region <| SL.as rfl <| SL.nil <| T.ret1 rfl (ResIs.tmp rfl) ?_
      rw [textE, if_neg c1, if_neg c2, if_pos c3]
    by_cases c4 : op = 4
    · have hl1 : ns.length = 1 := by simpa [namN, c4] using o5
      obtain ⟨s, rfl⟩ : ∃ s, ns = [s] := by
        match ns, hl1 with
        | [s], _ => exact ⟨s, rfl⟩
      obtain ⟨bN, pre, rfl, hB1⟩ := hn.blk (by simp)
      refine Spec.enter Tryz.func58 rfl Tryz.ntmps58 rfl ?_
      intro w0 hw0
      refine T.seq <| T.region <| SL.w (op_box rfl) ?_
      rintro _ _ _ ⟨B1, rfl, rfl, rfl⟩
      refine SL.as rfl <| SL.nil <| T.seq <| T.region <| SL.v (op_fieldAddr fa40_0 rfl) <| SL.v (op_load ty36 rfl (by repeat constructor) rfl) ?_
      refine SL.w (op_callF en114 (vs := [_]) rfl (strength_spec (op := op))) ?_
      rintro _ _ X1 ⟨rfl, hX1, rfl⟩
      refine SL.as rfl <| SL.nil <| T.seq <| T.seq <| T.region <| SL.v (op_fieldAddr fa40_0 rfl) <| SL.v (op_load ty36 rfl (by repeat constructor) rfl) ?_
      refine SL.nil <| T.block <| T.seq <| T.region <| SL.v (op_eqlF rfl rfl (by omega)) ?_
      refine SL.as rfl <| SL.nil <| T.condF rfl <| T.seq <| T.region <| SL.v (op_eqlF rfl rfl (by omega)) ?_
      refine SL.as rfl <| SL.nil <| T.condF rfl <| T.seq <| T.region <| SL.v (op_eqlF rfl rfl (by omega)) ?_
      refine SL.as rfl <| SL.nil <| T.condF rfl <| T.seq <| T.region <| SL.v (op_eqlT rfl rfl (by omega)) ?_
      refine SL.as rfl <| SL.nil <| T.condT rfl <| T.seq <| T.region <| SL.v (op_fieldAddr fa40_2 rfl) <| SL.v (op_load ty37 rfl (by repeat constructor) rfl) ?_
      refine SL.v (op_index Tryz.underlying37 ty9 rfl rfl (by omega) (by omega)) ?_
      refine SL.v (op_loadX ty9 rfl (hB1.mono hX1) (str_read (i := 0) rfl (by omega))) ?_
      refine SL.as rfl <| SL.nil <| T.ret1 rfl (ResIs.tmp rfl) ?_
      rw [textE, if_neg c1, if_neg c2, if_neg c3, if_pos c4]; rfl
    by_cases c5 : op = 5
    · have hl1 : 1 ≤ ns.length ∧ ns.length ≤ 8 := by simpa [namN, c5] using o5
      have hj := joinB_size ns
      have hsum : sumS ns < 100000000 := by
        have e : ∀ l : List ByteArray, sumS l ≤ wtS l := by
          intro l
          induction l with
          | nil => simp [sumS, wtS]
          | cons x l ih => simp only [sumS, wtS, List.map_cons, List.sum_cons] at ih ⊢; omega
        have := e ns; omega
      refine Spec.enter Tryz.func58 rfl Tryz.ntmps58 rfl ?_
      intro w0 hw0
      refine T.seq <| T.region <| SL.w (op_box rfl) ?_
      rintro _ _ _ ⟨B1, rfl, rfl, rfl⟩
      refine SL.as rfl <| SL.nil <| T.seq <| T.region <| SL.v (op_fieldAddr fa40_0 rfl) <| SL.v (op_load ty36 rfl (by repeat constructor) rfl) ?_
      refine SL.w (op_callF en114 (vs := [_]) rfl (strength_spec (op := op))) ?_
      rintro _ _ X1 ⟨rfl, hX1, rfl⟩
      refine SL.as rfl <| SL.nil <| T.seq <| T.seq <| T.region <| SL.v (op_fieldAddr fa40_0 rfl) <| SL.v (op_load ty36 rfl (by repeat constructor) rfl) ?_
      refine SL.nil <| T.block <| T.seq <| T.region <| SL.v (op_eqlF rfl rfl (by omega)) ?_
      refine SL.as rfl <| SL.nil <| T.condF rfl <| T.seq <| T.region <| SL.v (op_eqlF rfl rfl (by omega)) ?_
      refine SL.as rfl <| SL.nil <| T.condF rfl <| T.seq <| T.region <| SL.v (op_eqlF rfl rfl (by omega)) ?_
      refine SL.as rfl <| SL.nil <| T.condF rfl <| T.seq <| T.region <| SL.v (op_eqlF rfl rfl (by omega)) ?_
      refine SL.as rfl <| SL.nil <| T.condF rfl <| T.seq <| T.region <| SL.v (op_eqlT rfl rfl (by omega)) ?_
      refine SL.as rfl <| SL.nil <| T.condT rfl <| T.seq <| T.region <| SL.v (op_fieldAddr fa40_2 rfl) <| SL.v (op_load ty37 rfl (by repeat constructor) rfl) ?_
      have hjn := join_spec (sep := ⟨#[44, 32]⟩) (hn.mono hX1) hl1.1 (by omega) hsum (fun s hs => Nat.pos_of_ne_zero (o6 s hs).1) (by decide) (by decide)
      rw [show joinL ⟨#[44, 32]⟩ ns = joinG ns by cases ns <;> rfl] at hjn
      refine SL.w (op_callF en116 (vs := [_, _]) rfl (hjn)) ?_
      rintro _ _ X2 ⟨rfl, hX2, rfl⟩
      have hjs : (⟨(joinG ns).toArray⟩ : ByteArray).size ≤ 2 * wtS ns := hj
      refine SL.v (op_addStr rfl rfl (by first | omega | (simp only [ByteArray.size_append]; omega))) ?_
      refine SL.v (op_addStr rfl rfl (by first | omega | (simp only [ByteArray.size_append]; omega))) ?_
      refine SL.as rfl <| SL.nil <| T.ret1 rfl (ResIs.tmp rfl) ?_
      rw [textE, if_neg c1, if_neg c2, if_neg c3, if_neg c4, if_pos c5]; rfl
    by_cases c6 : op = 6
    · have hl1 : ns.length = 1 := by simpa [namN, c6] using o5
      obtain ⟨s, rfl⟩ : ∃ s, ns = [s] := by
        match ns, hl1 with
        | [s], _ => exact ⟨s, rfl⟩
      obtain ⟨bN, pre, rfl, hB1⟩ := hn.blk (by simp)
      have hsz := wtS_mem (ns := [s]) (s := s) (by simp)
      refine Spec.enter Tryz.func58 rfl Tryz.ntmps58 rfl ?_
      intro w0 hw0
      refine T.seq <| T.region <| SL.w (op_box rfl) ?_
      rintro _ _ _ ⟨B1, rfl, rfl, rfl⟩
      refine SL.as rfl <| SL.nil <| T.seq <| T.region <| SL.v (op_fieldAddr fa40_0 rfl) <| SL.v (op_load ty36 rfl (by repeat constructor) rfl) ?_
      refine SL.w (op_callF en114 (vs := [_]) rfl (strength_spec (op := op))) ?_
      rintro _ _ X1 ⟨rfl, hX1, rfl⟩
      refine SL.as rfl <| SL.nil <| T.seq <| T.seq <| T.region <| SL.v (op_fieldAddr fa40_0 rfl) <| SL.v (op_load ty36 rfl (by repeat constructor) rfl) ?_
      refine SL.nil <| T.block <| T.seq <| T.region <| SL.v (op_eqlF rfl rfl (by omega)) ?_
      refine SL.as rfl <| SL.nil <| T.condF rfl <| T.seq <| T.region <| SL.v (op_eqlF rfl rfl (by omega)) ?_
      refine SL.as rfl <| SL.nil <| T.condF rfl <| T.seq <| T.region <| SL.v (op_eqlF rfl rfl (by omega)) ?_
      refine SL.as rfl <| SL.nil <| T.condF rfl <| T.seq <| T.region <| SL.v (op_eqlF rfl rfl (by omega)) ?_
      refine SL.as rfl <| SL.nil <| T.condF rfl <| T.seq <| T.region <| SL.v (op_eqlF rfl rfl (by omega)) ?_
      refine SL.as rfl <| SL.nil <| T.condF rfl <| T.seq <| T.region <| SL.v (op_eqlT rfl rfl (by omega)) ?_
      refine SL.as rfl <| SL.nil <| T.condT rfl <| T.seq <| T.region <| SL.v (op_fieldAddr fa40_2 rfl) <| SL.v (op_load ty37 rfl (by repeat constructor) rfl) ?_
      refine SL.v (op_index Tryz.underlying37 ty9 rfl rfl (by omega) (by omega)) ?_
      refine SL.v (op_loadX ty9 rfl (hB1.mono hX1) (str_read (i := 0) rfl (by omega))) ?_
      refine SL.v (op_addStr rfl rfl (by first | omega | (simp only [ByteArray.size_append]; omega))) ?_
      refine SL.v (op_addStr rfl rfl (by first | omega | (simp only [ByteArray.size_append]; omega))) ?_
      refine SL.as rfl <| SL.nil <| T.ret1 rfl (ResIs.tmp rfl) ?_
      rw [textE, if_neg c1, if_neg c2, if_neg c3, if_neg c4, if_neg c5, if_pos c6]; rfl
    by_cases c7 : op = 7
    · have hal : al.length = 1 := by rw [o3, c7]; rfl
      obtain ⟨a, rfl⟩ : ∃ a, al = [a] := by
        match al, hal with
        | [a], _ => exact ⟨a, rfl⟩
      obtain ⟨ra, rfl⟩ : ∃ ra, rows = [ra] := by
        match rows, hl with
        | [ra], _ => exact ⟨ra, rfl⟩
      have hra := hr 0 a ra rfl rfl
      obtain ⟨bA, pre, rfl, hbA⟩ := ha.blk (by simp)
      obtain ⟨_, _, _, _, _, _, _, _, rfl⟩ := hra.form
      have hna := nodeL_zero hargs a (by simp)
      have hma := numL_mem hnumL (a := a) (by simp)
      have hwa : wtE a ≤ N := by rw [wtL, wtL] at hN; omega
      have hts := text_size a
      have hps := parB_size (strN a.op) (textE a) 4
      refine Spec.enter Tryz.func58 rfl Tryz.ntmps58 rfl ?_
      intro w0 hw0
      refine T.seq <| T.region <| SL.w (op_box rfl) ?_
      rintro _ _ _ ⟨B1, rfl, rfl, rfl⟩
      refine SL.as rfl <| SL.nil <| T.seq <| T.region <| SL.v (op_fieldAddr fa40_0 rfl) <| SL.v (op_load ty36 rfl (by repeat constructor) rfl) ?_
      refine SL.w (op_callF en114 (vs := [_]) rfl (strength_spec (op := op))) ?_
      rintro _ _ X1 ⟨rfl, hX1, rfl⟩
      rw [show strN op = 4 by rw [c7]; rfl]
      refine SL.as rfl <| SL.nil <| T.seq <| T.seq <| T.region <| SL.v (op_fieldAddr fa40_0 rfl) <| SL.v (op_load ty36 rfl (by repeat constructor) rfl) ?_
      refine SL.nil <| T.block <| T.seq <| T.region <| SL.v (op_eqlF rfl rfl (by omega)) ?_
      refine SL.as rfl <| SL.nil <| T.condF rfl <| T.seq <| T.region <| SL.v (op_eqlF rfl rfl (by omega)) ?_
      refine SL.as rfl <| SL.nil <| T.condF rfl <| T.seq <| T.region <| SL.v (op_eqlF rfl rfl (by omega)) ?_
      refine SL.as rfl <| SL.nil <| T.condF rfl <| T.seq <| T.region <| SL.v (op_eqlF rfl rfl (by omega)) ?_
      refine SL.as rfl <| SL.nil <| T.condF rfl <| T.seq <| T.region <| SL.v (op_eqlF rfl rfl (by omega)) ?_
      refine SL.as rfl <| SL.nil <| T.condF rfl <| T.seq <| T.region <| SL.v (op_eqlF rfl rfl (by omega)) ?_
      refine SL.as rfl <| SL.nil <| T.condF rfl <| T.seq <| T.region <| SL.v (op_eqlT rfl rfl (by omega)) ?_
      refine SL.as rfl <| SL.nil <| T.condT rfl <| T.seq <| T.region <| SL.v (op_fieldAddr fa40_3 rfl) <| SL.v (op_load ty38 rfl (by repeat constructor) rfl) ?_
      refine SL.v (op_index Tryz.underlying38 ty40 rfl rfl (by omega) (by omega)) ?_
      refine SL.v (op_loadX ty40 rfl (hbA.mono hX1) (row_read rc4_len (rs := [_]) (k := 0) rfl (by omega))) ?_
      refine SL.mv rfl <| SL.w (op_callF en117 (vs := [_, _]) rfl (hopd (hI.mono hX1) hwa hna hma (hra.mono hX1))) ?_
      rintro _ _ X2 ⟨rfl, hX2, rfl⟩
      refine SL.v (op_addStr rfl rfl (by first | omega | (simp only [ByteArray.size_append]; omega))) ?_
      refine SL.as rfl <| SL.nil <| T.ret1 rfl (ResIs.tmp rfl) ?_
      rw [textE, if_neg c1, if_neg c2, if_neg c3, if_neg c4, if_neg c5, if_neg c6, textL, textL]
    have hal : al.length = 2 := by rw [o3, argN, if_neg (by omega), if_neg c7]
    obtain ⟨a, a2, rfl⟩ : ∃ a a2, al = [a, a2] := by
      match al, hal with
      | [a, b], _ => exact ⟨a, b, rfl⟩
    obtain ⟨ra, rb, rfl⟩ : ∃ ra rb, rows = [ra, rb] := by
      match rows, hl with
      | [ra, rb], _ => exact ⟨ra, rb, rfl⟩
    have hra := hr 0 a ra rfl rfl
    have hrb := hr 1 a2 rb rfl rfl
    obtain ⟨bA, pre, rfl, hbA⟩ := ha.blk (by simp)
    obtain ⟨_, _, _, _, _, _, _, _, rfl⟩ := hra.form
    obtain ⟨_, _, _, _, _, _, _, _, rfl⟩ := hrb.form
    have hna := nodeL_zero hargs a (by simp)
    have hnb := nodeL_zero hargs a2 (by simp)
    have hma := numL_mem hnumL (a := a) (by simp)
    have hmb := numL_mem hnumL (a := a2) (by simp)
    have hwa : wtE a ≤ N ∧ wtE a2 ≤ N := by rw [wtL, wtL, wtL] at hN; omega
    have hts := text_size a
    have hts2 := text_size a2
    have hps := fun k => parB_size (strN a.op) (textE a) k
    have hps2 := fun k => parB_size (strN a2.op) (textE a2) k
    have hps3 := hps (lefN op)
    have hps4 := hps2 (rigN op)
    have hps5 := hps2 (lefN op)
    have hww := wordB_size op
    have hs7 := strN_le op
    by_cases c10 : op = 10
    · have el : lefN op = strN op + 1 := if_pos c10
      have er : rigN op = strN op := if_pos c10
      refine Spec.enter Tryz.func58 rfl Tryz.ntmps58 rfl ?_
      intro w0 hw0
      refine T.seq <| T.region <| SL.w (op_box rfl) ?_
      rintro _ _ _ ⟨B1, rfl, rfl, rfl⟩
      refine SL.as rfl <| SL.nil <| T.seq <| T.region <| SL.v (op_fieldAddr fa40_0 rfl) <| SL.v (op_load ty36 rfl (by repeat constructor) rfl) ?_
      refine SL.w (op_callF en114 (vs := [_]) rfl (strength_spec (op := op))) ?_
      rintro _ _ X1 ⟨rfl, hX1, rfl⟩
      refine SL.as rfl <| SL.nil <| T.seq <| T.seq <| T.region <| SL.v (op_fieldAddr fa40_0 rfl) <| SL.v (op_load ty36 rfl (by repeat constructor) rfl) ?_
      refine SL.nil <| T.block <| T.seq <| T.region <| SL.v (op_eqlF rfl rfl (by omega)) ?_
      refine SL.as rfl <| SL.nil <| T.condF rfl <| T.seq <| T.region <| SL.v (op_eqlF rfl rfl (by omega)) ?_
      refine SL.as rfl <| SL.nil <| T.condF rfl <| T.seq <| T.region <| SL.v (op_eqlF rfl rfl (by omega)) ?_
      refine SL.as rfl <| SL.nil <| T.condF rfl <| T.seq <| T.region <| SL.v (op_eqlF rfl rfl (by omega)) ?_
      refine SL.as rfl <| SL.nil <| T.condF rfl <| T.seq <| T.region <| SL.v (op_eqlF rfl rfl (by omega)) ?_
      refine SL.as rfl <| SL.nil <| T.condF rfl <| T.seq <| T.region <| SL.v (op_eqlF rfl rfl (by omega)) ?_
      refine SL.as rfl <| SL.nil <| T.condF rfl <| T.seq <| T.region <| SL.v (op_eqlF rfl rfl (by omega)) ?_
      refine SL.as rfl <| SL.nil <| T.condF rfl <| T.skip <| T.blk <| T.seq <| T.region <| SL.mv rfl <| SL.mv rfl <| SL.v (op_addN (q := 1) rfl rfl (by omega)) ?_
      refine SL.as rfl <| SL.as rfl <| SL.nil <| T.seq <| T.block <| T.seq <| T.region <| SL.v (op_fieldAddr fa40_0 rfl) <| SL.v (op_load ty36 rfl (by repeat constructor) rfl) ?_
      refine SL.v (op_eqlT rfl rfl (by omega)) ?_
      refine SL.as rfl <| SL.nil <| T.condT rfl <| T.region <| SL.mv rfl <| SL.v (op_addN (q := 1) rfl rfl (by omega)) ?_
      refine SL.mv rfl <| SL.as rfl <| SL.as rfl <| SL.nil <| T.blk ?_
      rw [← el, ← er]
      refine T.seq <| T.draw (by kernel_rfl) 18 [.t 0, .t 1, .t 2, .t 3, .t 4, .t 6, .t 7, .t 10, .t 11, .t 12, .t 13, .t 14, .r 5, .r 8, .t 9, .r 15, .t 16, .t 17] (by kernel_rfl) ?_
      refine SD.take rfl panicBody (op_fieldAddr fa40_3 rfl) rfl rfl ?_
      refine SD.take rfl panicBody (op_load ty38 rfl (by repeat constructor) rfl) rfl rfl ?_
      refine SD.take rfl panicBody (op_index Tryz.underlying38 ty40 rfl rfl (by omega) (by omega)) rfl rfl ?_
      refine SD.take rfl panicBody (op_loadX ty40 rfl (hbA.mono hX1) (row_read rc4_len (rs := [_, _]) (k := 0) rfl (by omega))) rfl rfl ?_
      refine SD.take rfl panicBody (op_move rfl) rfl rfl ?_
      refine SD.take rfl panicBody (op_fieldAddr fa40_0 rfl) rfl rfl ?_
      refine SD.take rfl panicBody (op_load ty36 rfl (by repeat constructor) rfl) rfl rfl ?_
      refine SD.take rfl panicBody (op_fieldAddr fa40_3 rfl) rfl rfl ?_
      refine SD.take rfl panicBody (op_load ty38 rfl (by repeat constructor) rfl) rfl rfl ?_
      refine SD.take rfl panicBody (op_index Tryz.underlying38 ty40 rfl rfl (by omega) (by omega)) rfl rfl ?_
      refine SD.take rfl panicBody (op_loadX ty40 rfl (hbA.mono hX1) (row_read rc4_len (rs := [_, _]) (k := 1) rfl (by omega))) rfl rfl ?_
      refine SD.take rfl panicBody (op_move rfl) rfl rfl ?_
      refine SD.run rfl (op_callF en117 (vs := [_, _]) rfl (hopd (hI.mono hX1) hwa.1 hna hma (hra.mono hX1))) rfl rfl ?_
      rintro _ _ X3 ⟨rfl, hX3, rfl⟩
      refine SD.run rfl (op_callF en118 (vs := [_]) rfl (opw_spec (op := op) (by omega) (by omega))) rfl rfl ?_
      rintro _ _ X4 ⟨rfl, hX4, rfl⟩
      refine SD.take rfl panicBody (op_addStr rfl rfl (by first | omega | (simp only [ByteArray.size_append]; omega))) rfl rfl ?_
      refine SD.run rfl (op_callF en117 (vs := [_, _]) rfl (hopd (((hI.mono hX1).mono hX3).mono hX4) hwa.2 hnb hmb (((hrb.mono hX1).mono hX3).mono hX4))) rfl rfl ?_
      rintro _ _ X5 ⟨rfl, hX5, rfl⟩
      refine SD.take rfl panicBody (op_addStr rfl rfl (by first | omega | (simp only [ByteArray.size_append]; omega))) rfl rfl ?_
      refine SD.take rfl panicBody (op_assign rfl) rfl rfl ?_
      refine SD.nil ?_
      show SL _ _ _ _ _ _ _ [] _ _ _
      refine SL.nil <| T.ret1 rfl (ResIs.tmp rfl) ?_
      rw [textE, if_neg c1, if_neg c2, if_neg c3, if_neg c4, if_neg c5, if_neg c6, textL, textL, textL]
    by_cases c5s : strN op = 5
    · have el : lefN op = strN op + 1 := by rw [lefN, if_neg c10, if_pos c5s]
      have er : rigN op = strN op + 1 := if_neg c10
      refine Spec.enter Tryz.func58 rfl Tryz.ntmps58 rfl ?_
      intro w0 hw0
      refine T.seq <| T.region <| SL.w (op_box rfl) ?_
      rintro _ _ _ ⟨B1, rfl, rfl, rfl⟩
      refine SL.as rfl <| SL.nil <| T.seq <| T.region <| SL.v (op_fieldAddr fa40_0 rfl) <| SL.v (op_load ty36 rfl (by repeat constructor) rfl) ?_
      refine SL.w (op_callF en114 (vs := [_]) rfl (strength_spec (op := op))) ?_
      rintro _ _ X1 ⟨rfl, hX1, rfl⟩
      refine SL.as rfl <| SL.nil <| T.seq <| T.seq <| T.region <| SL.v (op_fieldAddr fa40_0 rfl) <| SL.v (op_load ty36 rfl (by repeat constructor) rfl) ?_
      refine SL.nil <| T.block <| T.seq <| T.region <| SL.v (op_eqlF rfl rfl (by omega)) ?_
      refine SL.as rfl <| SL.nil <| T.condF rfl <| T.seq <| T.region <| SL.v (op_eqlF rfl rfl (by omega)) ?_
      refine SL.as rfl <| SL.nil <| T.condF rfl <| T.seq <| T.region <| SL.v (op_eqlF rfl rfl (by omega)) ?_
      refine SL.as rfl <| SL.nil <| T.condF rfl <| T.seq <| T.region <| SL.v (op_eqlF rfl rfl (by omega)) ?_
      refine SL.as rfl <| SL.nil <| T.condF rfl <| T.seq <| T.region <| SL.v (op_eqlF rfl rfl (by omega)) ?_
      refine SL.as rfl <| SL.nil <| T.condF rfl <| T.seq <| T.region <| SL.v (op_eqlF rfl rfl (by omega)) ?_
      refine SL.as rfl <| SL.nil <| T.condF rfl <| T.seq <| T.region <| SL.v (op_eqlF rfl rfl (by omega)) ?_
      refine SL.as rfl <| SL.nil <| T.condF rfl <| T.skip <| T.blk <| T.seq <| T.region <| SL.mv rfl <| SL.mv rfl <| SL.v (op_addN (q := 1) rfl rfl (by omega)) ?_
      refine SL.as rfl <| SL.as rfl <| SL.nil <| T.seq <| T.block <| T.seq <| T.region <| SL.v (op_fieldAddr fa40_0 rfl) <| SL.v (op_load ty36 rfl (by repeat constructor) rfl) ?_
      refine SL.v (op_eqlF rfl rfl (by omega)) ?_
      refine SL.as rfl <| SL.nil <| T.condF rfl <| T.seq <| T.region <| SL.mv rfl <| SL.w (op_callF en114 (vs := [_]) rfl (strength_spec (op := 11))) ?_
      rintro _ _ X2 ⟨rfl, hX2, rfl⟩
      rw [show strN 11 = 5 from rfl]
      refine SL.v (op_eqlT rfl rfl (by omega)) ?_
      refine SL.as rfl <| SL.nil <| T.condT rfl <| T.region <| SL.mv rfl <| SL.v (op_addN (q := 1) rfl rfl (by omega)) ?_
      refine SL.mv rfl <| SL.v (op_addN (q := 1) rfl rfl (by omega)) ?_
      refine SL.as rfl <| SL.as rfl <| SL.nil <| T.blk ?_
      rw [← el]
      refine T.seq <| T.draw (by kernel_rfl) 18 [.t 0, .t 1, .t 2, .t 3, .t 4, .t 6, .t 7, .t 10, .t 11, .t 12, .t 13, .t 14, .r 5, .r 8, .t 9, .r 15, .t 16, .t 17] (by kernel_rfl) ?_
      refine SD.take rfl panicBody (op_fieldAddr fa40_3 rfl) rfl rfl ?_
      refine SD.take rfl panicBody (op_load ty38 rfl (by repeat constructor) rfl) rfl rfl ?_
      refine SD.take rfl panicBody (op_index Tryz.underlying38 ty40 rfl rfl (by omega) (by omega)) rfl rfl ?_
      refine SD.take rfl panicBody (op_loadX ty40 rfl (hbA.mono (hX1.trans' hX2)) (row_read rc4_len (rs := [_, _]) (k := 0) rfl (by omega))) rfl rfl ?_
      refine SD.take rfl panicBody (op_move rfl) rfl rfl ?_
      refine SD.take rfl panicBody (op_fieldAddr fa40_0 rfl) rfl rfl ?_
      refine SD.take rfl panicBody (op_load ty36 rfl (by repeat constructor) rfl) rfl rfl ?_
      refine SD.take rfl panicBody (op_fieldAddr fa40_3 rfl) rfl rfl ?_
      refine SD.take rfl panicBody (op_load ty38 rfl (by repeat constructor) rfl) rfl rfl ?_
      refine SD.take rfl panicBody (op_index Tryz.underlying38 ty40 rfl rfl (by omega) (by omega)) rfl rfl ?_
      refine SD.take rfl panicBody (op_loadX ty40 rfl (hbA.mono (hX1.trans' hX2)) (row_read rc4_len (rs := [_, _]) (k := 1) rfl (by omega))) rfl rfl ?_
      refine SD.take rfl panicBody (op_move rfl) rfl rfl ?_
      refine SD.run rfl (op_callF en117 (vs := [_, _]) rfl (hopd (hI.mono (hX1.trans' hX2)) hwa.1 hna hma (hra.mono (hX1.trans' hX2)))) rfl rfl ?_
      rintro _ _ X3 ⟨rfl, hX3, rfl⟩
      refine SD.run rfl (op_callF en118 (vs := [_]) rfl (opw_spec (op := op) (by omega) (by omega))) rfl rfl ?_
      rintro _ _ X4 ⟨rfl, hX4, rfl⟩
      refine SD.take rfl panicBody (op_addStr rfl rfl (by first | omega | (simp only [ByteArray.size_append]; omega))) rfl rfl ?_
      refine SD.run rfl (op_callF en117 (vs := [_, _]) rfl (hopd (((hI.mono (hX1.trans' hX2)).mono hX3).mono hX4) hwa.2 hnb hmb (((hrb.mono (hX1.trans' hX2)).mono hX3).mono hX4))) rfl rfl ?_
      rintro _ _ X5 ⟨rfl, hX5, rfl⟩
      refine SD.take rfl panicBody (op_addStr rfl rfl (by first | omega | (simp only [ByteArray.size_append]; omega))) rfl rfl ?_
      refine SD.take rfl panicBody (op_assign rfl) rfl rfl ?_
      refine SD.nil ?_
      show SL _ _ _ _ _ _ _ [] _ _ _
      refine SL.nil <| T.ret1 rfl (ResIs.tmp rfl) ?_
      rw [textE, if_neg c1, if_neg c2, if_neg c3, if_neg c4, if_neg c5, if_neg c6, textL, textL, textL, er, ← el]
    · have el : lefN op = strN op := by rw [lefN, if_neg c10, if_neg c5s]
      have er : rigN op = strN op + 1 := if_neg c10
      refine Spec.enter Tryz.func58 rfl Tryz.ntmps58 rfl ?_
      intro w0 hw0
      refine T.seq <| T.region <| SL.w (op_box rfl) ?_
      rintro _ _ _ ⟨B1, rfl, rfl, rfl⟩
      refine SL.as rfl <| SL.nil <| T.seq <| T.region <| SL.v (op_fieldAddr fa40_0 rfl) <| SL.v (op_load ty36 rfl (by repeat constructor) rfl) ?_
      refine SL.w (op_callF en114 (vs := [_]) rfl (strength_spec (op := op))) ?_
      rintro _ _ X1 ⟨rfl, hX1, rfl⟩
      refine SL.as rfl <| SL.nil <| T.seq <| T.seq <| T.region <| SL.v (op_fieldAddr fa40_0 rfl) <| SL.v (op_load ty36 rfl (by repeat constructor) rfl) ?_
      refine SL.nil <| T.block <| T.seq <| T.region <| SL.v (op_eqlF rfl rfl (by omega)) ?_
      refine SL.as rfl <| SL.nil <| T.condF rfl <| T.seq <| T.region <| SL.v (op_eqlF rfl rfl (by omega)) ?_
      refine SL.as rfl <| SL.nil <| T.condF rfl <| T.seq <| T.region <| SL.v (op_eqlF rfl rfl (by omega)) ?_
      refine SL.as rfl <| SL.nil <| T.condF rfl <| T.seq <| T.region <| SL.v (op_eqlF rfl rfl (by omega)) ?_
      refine SL.as rfl <| SL.nil <| T.condF rfl <| T.seq <| T.region <| SL.v (op_eqlF rfl rfl (by omega)) ?_
      refine SL.as rfl <| SL.nil <| T.condF rfl <| T.seq <| T.region <| SL.v (op_eqlF rfl rfl (by omega)) ?_
      refine SL.as rfl <| SL.nil <| T.condF rfl <| T.seq <| T.region <| SL.v (op_eqlF rfl rfl (by omega)) ?_
      refine SL.as rfl <| SL.nil <| T.condF rfl <| T.skip <| T.blk <| T.seq <| T.region <| SL.mv rfl <| SL.mv rfl <| SL.v (op_addN (q := 1) rfl rfl (by omega)) ?_
      refine SL.as rfl <| SL.as rfl <| SL.nil <| T.seq <| T.block <| T.seq <| T.region <| SL.v (op_fieldAddr fa40_0 rfl) <| SL.v (op_load ty36 rfl (by repeat constructor) rfl) ?_
      refine SL.v (op_eqlF rfl rfl (by omega)) ?_
      refine SL.as rfl <| SL.nil <| T.condF rfl <| T.seq <| T.region <| SL.mv rfl <| SL.w (op_callF en114 (vs := [_]) rfl (strength_spec (op := 11))) ?_
      rintro _ _ X2 ⟨rfl, hX2, rfl⟩
      rw [show strN 11 = 5 from rfl]
      refine SL.v (op_eqlF rfl rfl (by omega)) ?_
      refine SL.as rfl <| SL.nil <| T.condF rfl <| T.skip <| T.blk ?_
      rw [← er, ← el]
      refine T.seq <| T.draw (by kernel_rfl) 18 [.t 0, .t 1, .t 2, .t 3, .t 4, .t 6, .t 7, .t 10, .t 11, .t 12, .t 13, .t 14, .r 5, .r 8, .t 9, .r 15, .t 16, .t 17] (by kernel_rfl) ?_
      refine SD.take rfl panicBody (op_fieldAddr fa40_3 rfl) rfl rfl ?_
      refine SD.take rfl panicBody (op_load ty38 rfl (by repeat constructor) rfl) rfl rfl ?_
      refine SD.take rfl panicBody (op_index Tryz.underlying38 ty40 rfl rfl (by omega) (by omega)) rfl rfl ?_
      refine SD.take rfl panicBody (op_loadX ty40 rfl (hbA.mono (hX1.trans' hX2)) (row_read rc4_len (rs := [_, _]) (k := 0) rfl (by omega))) rfl rfl ?_
      refine SD.take rfl panicBody (op_move rfl) rfl rfl ?_
      refine SD.take rfl panicBody (op_fieldAddr fa40_0 rfl) rfl rfl ?_
      refine SD.take rfl panicBody (op_load ty36 rfl (by repeat constructor) rfl) rfl rfl ?_
      refine SD.take rfl panicBody (op_fieldAddr fa40_3 rfl) rfl rfl ?_
      refine SD.take rfl panicBody (op_load ty38 rfl (by repeat constructor) rfl) rfl rfl ?_
      refine SD.take rfl panicBody (op_index Tryz.underlying38 ty40 rfl rfl (by omega) (by omega)) rfl rfl ?_
      refine SD.take rfl panicBody (op_loadX ty40 rfl (hbA.mono (hX1.trans' hX2)) (row_read rc4_len (rs := [_, _]) (k := 1) rfl (by omega))) rfl rfl ?_
      refine SD.take rfl panicBody (op_move rfl) rfl rfl ?_
      refine SD.run rfl (op_callF en117 (vs := [_, _]) rfl (hopd (hI.mono (hX1.trans' hX2)) hwa.1 hna hma (hra.mono (hX1.trans' hX2)))) rfl rfl ?_
      rintro _ _ X3 ⟨rfl, hX3, rfl⟩
      refine SD.run rfl (op_callF en118 (vs := [_]) rfl (opw_spec (op := op) (by omega) (by omega))) rfl rfl ?_
      rintro _ _ X4 ⟨rfl, hX4, rfl⟩
      refine SD.take rfl panicBody (op_addStr rfl rfl (by first | omega | (simp only [ByteArray.size_append]; omega))) rfl rfl ?_
      refine SD.run rfl (op_callF en117 (vs := [_, _]) rfl (hopd (((hI.mono (hX1.trans' hX2)).mono hX3).mono hX4) hwa.2 hnb hmb (((hrb.mono (hX1.trans' hX2)).mono hX3).mono hX4))) rfl rfl ?_
      rintro _ _ X5 ⟨rfl, hX5, rfl⟩
      refine SD.take rfl panicBody (op_addStr rfl rfl (by first | omega | (simp only [ByteArray.size_append]; omega))) rfl rfl ?_
      refine SD.take rfl panicBody (op_assign rfl) rfl rfl ?_
      refine SD.nil ?_
      show SL _ _ _ _ _ _ _ [] _ _ _
      refine SL.nil <| T.ret1 rfl (ResIs.tmp rfl) ?_
      rw [textE, if_neg c1, if_neg c2, if_neg c3, if_neg c4, if_neg c5, if_neg c6, textL, textL, textL]
end Go.Proofs.YtnabbnhefjfegaaGreatDoor
namespace Go.Proofs.YtnabbnhefjfegaaGreatDoor
section
set_option maxRecDepth 100000
theorem en25 : Enters Tryz.prog 25 := enters_mk Tryz.func25 (by kernel_rfl) rfl
theorem fa82_0 : FAdr Tryz.prog 82 0 0 := fadr_mk Tryz.underlying82 rfl rfl (by kernel_rfl)
theorem fa82_1 : FAdr Tryz.prog 82 1 1 := fadr_mk Tryz.underlying82 rfl rfl (by kernel_rfl)
theorem fa82_2 : FAdr Tryz.prog 82 2 2 := fadr_mk Tryz.underlying82 rfl rfl (by kernel_rfl)
theorem fa82_3 : FAdr Tryz.prog 82 3 3 := fadr_mk Tryz.underlying82 rfl rfl (by kernel_rfl)
theorem ty4 : Ty Tryz.prog 4 false 1 := ⟨⟨_, Tryz.underlying4, rfl⟩, by kernel_rfl⟩
theorem ty80 : Ty Tryz.prog 80 false 1 := ⟨⟨_, Tryz.underlying80, rfl⟩, by kernel_rfl⟩
theorem ty82 : Ty Tryz.prog 82 true 7 := ⟨⟨_, Tryz.underlying82, rfl⟩, by kernel_rfl⟩
theorem z82 : Zero Tryz.prog 82 [.bool false, .int .u8 0, .string ⟨#[]⟩, .int .u8 0, .int .i64 0, .slice none 0 0, .slice none 0 0] := ⟨zero_of (by kernel_rfl)⟩
end
open Go.RowKit
theorem eprint_spec {M : Nat} {X : PMap} (hI : ItoaOk M X) {e : Ex} {r : Row4} (hw : wtE e < 900000) (hn : chkE e = 0 → numE M e) (h : ExR .u8 X e r) : Spec Tryz.prog 27 [.agg #[r.1, r.2.1, r.2.2.1, r.2.2.2]] X fun u _ => u = .string (if chkE e = 0 then textE e else ⟨#[]⟩) := by
  obtain ⟨_, _, _, _, _, _, _, _, rfl⟩ := h.form
  by_cases hc : chkE e = 0
  · have hnode : nodeE e = 0 := by
      unfold chkE at hc
      split at hc
      · cases hc
      · exact hc
    refine Spec.enter Tryz.func27 rfl Tryz.ntmps27 rfl ?_
    intro w0 hw0
    refine T.seq <| T.region <| SL.w (op_box rfl) ?_
    rintro _ _ _ ⟨B1, rfl, rfl, rfl⟩
    refine SL.as rfl <| SL.nil <| T.seq <| T.seq <| T.region <| SL.v (op_load ty40 rfl (by repeat constructor) rfl) ?_
    refine SL.w (op_callF en25 (vs := [_]) rfl (chk_spec (by omega) h)) ?_
    rintro _ _ X1 ⟨rfl, hX1, rfl⟩
    refine SL.v (op_neqF rfl rfl (by omega)) ?_
    refine SL.nil <| T.condF rfl <| T.skip <| T.seq <| T.region <| SL.v (op_load ty40 rfl (by repeat constructor) rfl) ?_
    refine SL.w (op_callF en58 (vs := [_]) rfl (etext_spec _ (hI.mono hX1) (Nat.le_refl _) (by omega) hnode (hn hc) (h.mono hX1))) ?_
    rintro _ _ X2 ⟨rfl, hX2, rfl⟩
    refine SL.as rfl <| SL.nil <| T.ret1 rfl (ResIs.tmp rfl) ?_
    rw [if_pos hc]
  · refine Spec.enter Tryz.func27 rfl Tryz.ntmps27 rfl ?_
    intro w0 hw0
    refine T.seq <| T.region <| SL.w (op_box rfl) ?_
    rintro _ _ _ ⟨B1, rfl, rfl, rfl⟩
    refine SL.as rfl <| SL.nil <| T.seq <| T.seq <| T.region <| SL.v (op_load ty40 rfl (by repeat constructor) rfl) ?_
    refine SL.w (op_callF en25 (vs := [_]) rfl (chk_spec (by omega) h)) ?_
    rintro _ _ X1 ⟨rfl, hX1, rfl⟩
    refine SL.v (op_neqT rfl rfl (by omega)) ?_
    refine SL.nil <| T.condT rfl <| T.seq <| T.region <| SL.as rfl <| SL.nil <| T.ret1 rfl (ResIs.tmp rfl) ?_
    rw [if_neg hc]
structure Con where
  enf : Bool
  kind : Nat
  name : ByteArray
  ex : Ex
abbrev Row7 := Bool × Nat × ByteArray × Row4
def rc7 (r : Row7) : List Value := [.bool r.1, .int .u8 (r.2.1 : Int), .string r.2.2.1, r.2.2.2.1, r.2.2.2.2.1, r.2.2.2.2.2.1, r.2.2.2.2.2.2]
theorem rc7_len (r : Row7) : (rc7 r).length = 7 := rfl
def ConR (X : PMap) (c : Con) (r : Row7) : Prop := r.1 = c.enf ∧ r.2.1 = c.kind ∧ r.2.2.1 = c.name ∧ ExR .u8 X c.ex r.2.2.2
theorem ConR.mono {X X' : PMap} {c : Con} {r : Row7} (h : ConR X c r) (hX : X.le X') : ConR X' c r := ⟨h.1, h.2.1, h.2.2.1, h.2.2.2.mono hX⟩
theorem ConR.form {X : PMap} {c : Con} {r : Row7} (h : ConR X c r) : ∃ (o : Nat) (n : Int) (A B : Option Addr) (l c1 l' c' : Nat), r = (c.enf, c.kind, c.name, .int .u8 (o : Int), .int .i64 n, .slice A l c1, .slice B l' c') := by
  obtain ⟨e, k, s, r4⟩ := r
  obtain ⟨h1, h2, h3, h4⟩ := h
  simp only at h1 h2 h3 h4
  subst h1 h2 h3
  obtain ⟨o, n, A, B, l, c1, l', c', rfl⟩ := h4.form
  exact ⟨_, _, _, _, _, _, _, _, rfl⟩
def ConsR (X : PMap) (v : Value) (cs : List Con) : Prop := ∃ rows : List Row7, RowR rc7 X v rows ∧ rows.length = cs.length ∧ ∀ (i : Nat) (c : Con) (r : Row7), cs[i]? = some c → rows[i]? = some r → ConR X c r
theorem ConsR.mono {X X' : PMap} {v : Value} {cs : List Con} (h : ConsR X v cs) (hX : X.le X') : ConsR X' v cs :=
  let ⟨rows, h1, h2, h3⟩ := h
  ⟨rows, h1.mono hX, h2, fun i c r a b => (h3 i c r a b).mono hX⟩
/-- The error of a constraint behind these names. -/
noncomputable def errC (pre : List ByteArray) (c : Con) : Int := if c.kind < 1 ∨ 3 < c.kind then 1 else if ¬validS c.name then 9 else if c.name ∈ pre then 5 else chkE c.ex
noncomputable def chkCs (pre : List ByteArray) : List Con → Int
  | [] => 0
  | c :: cs => if errC pre c ≠ 0 then errC pre c else chkCs (pre ++ [c.name]) cs
def modeB (c : Con) : ByteArray := if c.enf then ⟨#[101, 110, 102, 111, 114, 99, 101, 32]⟩ else ⟨#[100, 101, 99, 108, 97, 114, 101, 32]⟩
def kinds3 : List ByteArray := [⟨#[115, 116, 97, 116, 105, 99, 32]⟩, ⟨#[100, 121, 110, 97, 109, 105, 99, 32]⟩, ⟨#[117, 115, 101, 114, 115, 32]⟩]
def kindB (k : Nat) : ByteArray := (kinds3[k - 1]?).getD ⟨#[]⟩
def lineB (c : Con) : ByteArray := modeB c ++ kindB c.kind ++ c.name ++ ⟨#[58, 32]⟩ ++ textE c.ex ++ ⟨#[59, 10]⟩
def linesL (cs : List Con) : List UInt8 := (cs.map fun c => (lineB c).data.toList).flatten
theorem linesL_snoc (cs : List Con) (c : Con) : linesL (cs ++ [c]) = linesL cs ++ (lineB c).data.toList := by simp [linesL]
noncomputable def chkAll (cs : List Con) : Int := if 32 < cs.length then 3 else if chkCs [] cs ≠ 0 then chkCs [] cs else if 8000 < (linesL cs).length then 3 else 0
theorem chkCs_app (b : List Con) : ∀ (a : List Con) (pre : List ByteArray), chkCs pre (a ++ b) = if chkCs pre a ≠ 0 then chkCs pre a else chkCs (pre ++ a.map (·.name)) b
  | [], pre => by simp [chkCs]
  | c :: a, pre => by
    rw [List.cons_append, chkCs, chkCs, chkCs_app b a]
    by_cases h : errC pre c ≠ 0
    · simp [h]
    · simp only [h, if_false, List.map_cons, List.append_assoc, List.cons_append, List.nil_append]
theorem errC_ok {pre : List ByteArray} {c : Con} (h : errC pre c = 0) : 1 ≤ c.kind ∧ c.kind ≤ 3 ∧ validS c.name ∧ c.name ∉ pre ∧ chkE c.ex = 0 := by
  unfold errC at h
  by_cases h1 : c.kind < 1 ∨ 3 < c.kind
  · rw [if_pos h1] at h; cases h
  · rw [if_neg h1] at h
    by_cases h2 : ¬validS c.name
    · rw [if_pos h2] at h; cases h
    · rw [if_neg h2] at h
      by_cases h3 : c.name ∈ pre
      · rw [if_pos h3] at h; cases h
      · rw [if_neg h3] at h
        exact ⟨by omega, by omega, Classical.not_not.1 h2, h3, h⟩
theorem chkE_node {e : Ex} (h : chkE e = 0) : nodeE e = 0 := by
  unfold chkE at h
  split at h
  · cases h
  · exact h
theorem chkCs_mem : ∀ {cs : List Con} {pre : List ByteArray}, chkCs pre cs = 0 → ∀ c ∈ cs, 1 ≤ c.kind ∧ c.kind ≤ 3 ∧ validS c.name ∧ chkE c.ex = 0
  | d :: cs, pre, h, c, hm => by
    rw [chkCs] at h
    by_cases he : errC pre d ≠ 0
    · rw [if_pos he] at h; exact absurd h he
    · rw [if_neg he] at h
      rcases List.mem_cons.1 hm with rfl | hm
      · obtain ⟨a, b, c', _, d'⟩ := errC_ok (Decidable.not_not.1 he)
        exact ⟨a, b, c', d'⟩
      · exact chkCs_mem h c hm
theorem kind_at {k : Nat} (h1 : 1 ≤ k) (h3 : k ≤ 3) : kinds3[k - 1]? = some (kindB k) := by
  rw [kindB, List.getElem?_eq_getElem (show k - 1 < kinds3.length by show k - 1 < 3; omega)]; rfl
theorem kindB_size (k : Nat) : (kindB k).size ≤ 8 := by
  unfold kindB
  cases h : kinds3[k - 1]? with
  | none => exact Nat.zero_le _
  | some s =>
    have := List.mem_of_getElem? h
    simp only [kinds3, List.mem_cons, List.not_mem_nil, or_false] at this
    rcases this with rfl | rfl | rfl <;> decide
theorem modeB_size (c : Con) : (modeB c).size = 8 := by unfold modeB; split <;> rfl
theorem lineB_size {c : Con} (hv : c.name.size ≤ 12) : 1 ≤ (lineB c).size ∧ (lineB c).size ≤ 40 * wtE c.ex + 40 := by
  have h1 := text_size c.ex
  have h2 := kindB_size c.kind
  have h3 := modeB_size c
  have k1 : (⟨#[58, 32]⟩ : ByteArray).size = 2 := rfl
  have k2 : (⟨#[59, 10]⟩ : ByteArray).size = 2 := rfl
  simp only [lineB, ByteArray.size_append]
  omega
theorem wrapK {k : Nat} (h1 : 1 ≤ k) (h3 : k ≤ 3) : IntKind.u8.wrap ((k : Int) - 1) = ((k - 1 : Nat) : Int) := by
  have := wrap_u8 (p := (k : Int) - 1) (by omega) (by omega)
  rw [this]; omega
def wtC (cs : List Con) : Nat := (cs.map fun c => wtE c.ex).sum
theorem wtC_mem {c : Con} : ∀ {cs : List Con}, c ∈ cs → wtE c.ex ≤ wtC cs
  | d :: cs, h => by
    simp only [wtC, List.map_cons, List.sum_cons]
    rcases List.mem_cons.1 h with rfl | h
    · omega
    · have := wtC_mem h; simp only [wtC] at this; omega
theorem linesL_len : ∀ {cs : List Con}, (∀ c ∈ cs, c.name.size ≤ 12) → (linesL cs).length ≤ 40 * wtC cs + 40 * cs.length
  | [], _ => by simp [linesL]
  | c :: cs, h => by
    have h1 := linesL_len (cs := cs) fun d hd => h d (by simp [hd])
    have h2 := (lineB_size (h c (by simp))).2
    simp only [linesL, wtC, List.map_cons, List.flatten_cons, List.sum_cons, List.length_append, List.length_cons] at h1 ⊢
    have e : (lineB c).data.toList.length = (lineB c).size := by simp
    omega
theorem wtC_take_le : ∀ (cs : List Con) (i : Nat), wtC (cs.take i) ≤ wtC cs
  | [], _ => by simp
  | _ :: _, 0 => by simp [wtC]
  | c :: cs, i + 1 => by
    have := wtC_take_le cs i
    simp only [wtC, List.take_succ_cons, List.map_cons, List.sum_cons] at this ⊢; omega
theorem perm2a {a b : Ow} {L : Own} : (a :: b :: (L ++ [])).Perm (L ++ ([] ++ [a, b])) := by
  rw [List.append_nil, List.nil_append]
  exact List.perm_append_comm (l₁ := [a, b])
theorem lines_spec {M : Nat} {X : PMap} (hI : ItoaOk M X) {v : Value} {cs : List Con} (h : ConsR X v cs) (hl : cs.length ≤ 40) (h0 : 0 < cs.length) (hw : wtC cs < 15000000) (hww : ∀ c ∈ cs, wtE c.ex < 900000) (hn : ∀ c ∈ cs, numE M c.ex)
    (hok : ∀ c ∈ cs, 1 ≤ c.kind ∧ c.kind ≤ 3 ∧ validS c.name ∧ chkE c.ex = 0) : Spec Tryz.prog 37 [v] X fun u _ => u = .string ⟨(linesL cs).toArray⟩ := by
  obtain ⟨rows, hr, hrl, hrow⟩ := h
  obtain ⟨A, cp, rfl⟩ := hr.form
  have hvs : ∀ c ∈ cs, c.name.size ≤ 12 := fun c hc => (hok c hc).2.2.1.2.1
  refine Spec.enter Tryz.func37 rfl Tryz.ntmps37 rfl ?_
  intro w0 hw0
  refine T.seq <| T.region <| SL.as rfl <| SL.nil <| T.seq <| T.region <| SL.w (op_alloc z137) ?_
  rintro _ _ _ ⟨B3, rfl, rfl, rfl⟩
  refine SL.nil <| T.seq <| T.seq <| T.region <| SL.mv rfl <| SL.v (op_lenS Tryz.underlying24 rfl) <| SL.v (op_move (v := .int .i64 ((0 : Nat) : Int)) rfl) <| SL.nil <| T.block <| T.loopW (fun m env own X' => ∃ (i : Nat) (p s : Value) (G : Own), m = rows.length - i ∧ i ≤ rows.length ∧ X.le X' ∧ (p = .pointer none ∨ p = .pointer (some ⟨B3, 0, none⟩)) ∧ BufG (linesL (cs.take i)) s G ∧ env = [(3, .pointer (some ⟨B3, 0, none⟩)), (8, .slice A rows.length cp), (9, .int .i64 (rows.length : Int)), (10, .int .i64 (i : Int))] ∧ own = (BldO B3 p s :: G) ++ []) rows.length ⟨0, _, _, [], by simp, by omega, PMap.le_refl _, .inl rfl, GrowS.nil, rfl, rfl⟩ (by repeat (first | exact Sub.nil | refine Sub.cons rfl ?_)) ?_
  rintro m _ _ X1 ⟨i, p, s, G, rfl, hi, hX1, hp, hG, rfl, rfl⟩
  have hlt := linesL_len (cs := cs.take i) fun c hc => hvs c (List.mem_of_mem_take hc)
  have hwt := wtC_take_le cs i
  have hlt2 : (cs.take i).length ≤ 40 := by rw [List.length_take]; omega
  rcases Nat.lt_or_ge i rows.length with hil | hil
  · obtain ⟨r2, hr2⟩ : ∃ r2, rows[i]? = some r2 := ⟨_, List.getElem?_eq_getElem hil⟩
    obtain ⟨c, hc2⟩ : ∃ c, cs[i]? = some c := ⟨_, List.getElem?_eq_getElem (by omega)⟩
    have hmc := List.mem_of_getElem? hc2
    have hrc := hrow i c r2 hc2 hr2
    obtain ⟨q1, q2, q3, q4⟩ := hok c hmc
    obtain ⟨bA, pre, rfl, hbA⟩ := hr.blk (by omega)
    obtain ⟨o8, n8, a8, b8, l8, c8, l9, c9, rfl⟩ := hrc.form
    have hex := hrc.2.2.2
    simp only at hex
    have hts := text_size c.ex
    have hwe := hww c hmc
    have hls := lineB_size (hvs c hmc)
    have hk3 := strsC_at (kind_at q1 q2)
    have hks := kindB_size c.kind
    have hms := modeB_size c
    have hnz := q3.2.1
    have k1 : (⟨#[58, 32]⟩ : ByteArray).size = 2 := rfl
    have k2 : (⟨#[59, 10]⟩ : ByteArray).size = 2 := rfl
    have k3 : (⟨#[101, 110, 102, 111, 114, 99, 101, 32]⟩ : ByteArray).size = 8 := rfl
    have k4 : (⟨#[100, 101, 99, 108, 97, 114, 101, 32]⟩ : ByteArray).size = 8 := rfl
    have htk := take_snoc hc2
    refine T.seq <| T.region <| SL.v (op_lssT rfl rfl (by omega)) ?_
    refine SL.nil <| T.seq <| T.condT rfl <| T.skip <| T.seq <| T.block <| T.seq <| T.region <| SL.v (op_indexN Tryz.underlying24 ty82 rfl rfl (by omega)) ?_
    refine SL.v (op_loadX ty82 rfl (hbA.mono hX1) (row_read rc7_len hr2 (by omega))) ?_
    refine SL.w (op_alloc z82) ?_
    rintro _ _ _ ⟨B5, rfl, rfl, rfl⟩
    refine SL.w (op_store ty82 rfl rfl (by repeat constructor) rfl rfl rfl) ?_
    rintro _ _ _ ⟨rfl, rfl⟩
    refine SL.nil <| T.seq <| T.region <| SL.as rfl <| SL.nil <| T.seq <| T.meet (fun _ env own X' => X1.le X' ∧ env = [(3, .pointer (some ⟨B3, 0, none⟩)), (5, .pointer (some ⟨B5, 0, none⟩)), (6, .string (modeB c)), (8, .slice (some ⟨bA, pre.length, none⟩) rows.length cp), (9, .int .i64 (rows.length : Int)), (10, .int .i64 (i : Int))] ∧ own = ⟨B5, rc7 (c.enf, c.kind, c.name, .int .u8 (o8 : Int), .int .i64 n8, .slice a8 l8 c8, .slice b8 l9 c9), 82, 7⟩ :: ((BldO B3 p s :: G) ++ [])) ?_ ?_
    · cases hce : c.enf with
      | true =>
        have e : modeB c = ⟨#[101, 110, 102, 111, 114, 99, 101, 32]⟩ := by rw [modeB, hce]; rfl
        rw [e]
        refine T.seq <| T.region <| SL.v (op_fieldAddr fa82_0 rfl) <| SL.v (op_load ty4 rfl (by repeat constructor) rfl) ?_
        refine SL.nil <| T.condT rfl <| T.region <| SL.as rfl <| SL.nil ?_
        exact T.backW 0 (by omega) ⟨PMap.le_refl _, rfl, rfl⟩ (by repeat (first | exact Sub.nil | refine Sub.cons rfl ?_))
      | false =>
        have e : modeB c = ⟨#[100, 101, 99, 108, 97, 114, 101, 32]⟩ := by rw [modeB, hce]; rfl
        rw [e]
        refine T.seq <| T.region <| SL.v (op_fieldAddr fa82_0 rfl) <| SL.v (op_load ty4 rfl (by repeat constructor) rfl) ?_
        refine SL.nil <| T.condF rfl <| T.skip ?_
        exact T.backW 0 (by omega) ⟨PMap.le_refl _, rfl, rfl⟩ (by repeat (first | exact Sub.nil | refine Sub.cons rfl ?_))
    rintro _ _ _ X2 ⟨hX2, rfl, rfl⟩
    refine T.seq <| T.region <| SL.w (op_buildSlice Tryz.underlying37 bs9 (qs := [(0, _), (1, _), (2, _)]) rfl rfl rfl rfl rfl) ?_
    rintro _ _ _ ⟨B16, rfl, rfl, rfl⟩
    refine SL.v (op_fieldAddr fa82_1 rfl) <| SL.v (op_load ty80 rfl (by repeat constructor) rfl) ?_
    refine SL.v (op_subW rfl rfl) ?_
    rw [wrapK q1 q2]
    refine SL.v (op_indexN Tryz.underlying37 ty9 rfl rfl (by omega)) ?_
    refine SL.v (op_load ty9 rfl (by repeat constructor) (cread1k' hk3 (by omega))) ?_
    refine SL.as rfl <| SL.nil <| T.drawG (own0 := [_, _]) (by kernel_rfl) 13 [.t 0, .t 1, .t 2, .t 3, .t 4, .t 5, .t 6, .t 7, .t 8, .r 9, .t 10, .t 11, .r 12] (by kernel_rfl) ?_
    refine SD.take rfl panicBody (op_move rfl) rfl rfl ?_
    refine SD.take rfl panicBody (op_move rfl) rfl rfl ?_
    refine SD.take rfl panicBody (op_addStr rfl rfl (by first | omega | (simp only [ByteArray.size_append]; omega))) rfl rfl ?_
    refine SD.take rfl panicBody (op_fieldAddr fa82_2 rfl) rfl rfl ?_
    refine SD.take rfl panicBody (op_load ty9 rfl (by repeat constructor) rfl) rfl rfl ?_
    refine SD.take rfl panicBody (op_addStr rfl rfl (by first | omega | (simp only [ByteArray.size_append]; omega))) rfl rfl ?_
    refine SD.take rfl panicBody (op_addStr rfl rfl (by first | omega | (simp only [ByteArray.size_append]; omega))) rfl rfl ?_
    refine SD.take rfl panicBody (op_fieldAddr fa82_3 rfl) rfl rfl ?_
    refine SD.take rfl panicBody (op_load ty40 rfl (by repeat constructor) rfl) rfl rfl ?_
    refine SD.run rfl (op_callF en58 (vs := [_]) rfl (etext_spec _ ((hI.mono hX1).mono hX2) (Nat.le_refl _) (by omega) (chkE_node q4) (hn c hmc) ((hex.mono hX1).mono hX2))) rfl rfl ?_
    rintro _ _ X3 ⟨rfl, hX3, rfl⟩
    refine SD.take rfl panicBody (op_addStr rfl rfl (by first | omega | (simp only [ByteArray.size_append]; omega))) rfl rfl ?_
    refine SD.take rfl panicBody (op_addStr rfl rfl (by first | omega | (simp only [ByteArray.size_append]; omega))) rfl rfl ?_
    refine SD.perm (perm2a (L := BldO B3 p s :: G)) ?_
    refine SD.runK rfl (op_callM en78 (vs := [_, _]) rfl (writeStr_spec (t := lineB c) hp hG (by omega) (by omega) hls.1) rfl) (by rintro _ _ _ ⟨L', rfl, hX, _⟩; exact ⟨fun p hp => List.mem_append_right _ hp, hX3.trans' hX⟩) rfl rfl ?_
    rintro _ _ X4 ⟨_, rfl, hX4, rfl, s4, G4, rfl, hG4⟩
    refine SD.nil ?_
    show SL _ _ _ _ _ _ _ [] _ _ _
    refine SL.nil <| T.blk <| T.region <| SL.v (op_addN (q := 1) rfl rfl (by omega)) ?_
    refine SL.mv rfl <| SL.nil <| T.less (List.Sublist.append_left (List.nil_sublist _) _) ?_
    rw [← linesL_snoc, ← htk] at hG4
    exact T.backW (rows.length - (i + 1)) (by omega) ⟨i + 1, _, _, _, rfl, by omega, ((hX1.trans' hX2).trans' hX3).trans' hX4, .inr rfl, hG4, rfl, rfl⟩ (by repeat (first | exact Sub.nil | refine Sub.cons rfl ?_))
  · obtain rfl : i = rows.length := by omega
    have e : cs.take rows.length = cs := List.take_of_length_le (by omega)
    rw [e] at hG hlt
    have hne : linesL cs ≠ [] := by
      obtain ⟨c, l, rfl⟩ : ∃ c l, cs = c :: l := by
        cases cs with
        | nil => simp at h0
        | cons c l => exact ⟨c, l, rfl⟩
      intro h
      have := (lineB_size (hvs c (by simp))).1
      have e : (lineB c).data.toList.length = (lineB c).size := by simp
      have h2 := congrArg List.length h
      simp only [linesL, List.map_cons, List.flatten_cons, List.length_append, List.length_nil] at h2
      omega
    refine T.seq <| T.region <| SL.v (op_lssF rfl rfl (by omega)) ?_
    refine SL.nil <| T.seq <| T.condF rfl ?_
    refine T.exit (T.exitCode (T.exitCut (T.exitBlk ?_)))
    refine T.seq <| T.region <| SL.w (op_callM en80 (vs := [_]) rfl (builderString_spec hG hne (by omega)) rfl) ?_
    rintro _ _ X5 ⟨_, rfl, hX5, rfl, rfl⟩
    refine SL.as rfl <| SL.nil <| T.ret1 rfl (ResIs.tmp rfl) ?_
    rfl
end Go.Proofs.YtnabbnhefjfegaaGreatDoor
namespace Go.Proofs.YtnabbnhefjfegaaGreatDoor
open Go.RowKit
section
variable {P : Program} {n : NM} {w0 : Base} {X0 X : PMap} {own : Own} {env : Env}
/-- string(b) of bytes that are known. -/
theorem op_strBytes {src dst e : TypeId} {x : Operand} {a : Addr} {cap : Nat} {l : List UInt8} (hs : P.underlying src = some (.slice e)) (he : P.underlying e = some (.int .u8)) (hd : P.underlying dst = some .string)
    (hx : eev env x = some (.slice (some a) l.length cap)) (hc : ∀ W, Stab own X W → ∀ j (hj : j < l.length), W.cell? (a.add j) = some (.int .u8 (l[j].toNat : Int))) : OpY P n env own X (.convert src dst x) (.string ⟨l.toArray⟩) := by
  intro A W oper hop ha hst
  have hr := run_convert_bytes_back (P := P) W src dst e a cap l hs he hd (hc W hst)
  simp only [execOp, hop, ha.eval hx, Sem.run_bind, Sem.run_pure, Result.andThen_ok, hr]
end
end Go.Proofs.YtnabbnhefjfegaaGreatDoor
namespace Go.Proofs.YtnabbnhefjfegaaGreatDoor
section
set_option maxRecDepth 100000
theorem bs5 : ∃ i z, Tryz.prog.info? 5 = some i ∧ i.size = 1 ∧ i.zero = some z ∧ z.cells = ([.int .u8 0] : List Value).toArray := bs_of (by kernel_rfl)
end
open Go.RowKit
end Go.Proofs.YtnabbnhefjfegaaGreatDoor
namespace Go.Proofs.YtnabbnhefjfegaaGreatDoor
open Go.RowKit
structure Itm where
  enf : Bool
  kind : Nat
  name : Nat
  nodes : List Nd
abbrev RowI := Bool × Nat × Nat × Value
def itC (r : RowI) : List Value := [.bool r.1, .int .u8 (r.2.1 : Int), .int .u8 (r.2.2.1 : Int), r.2.2.2]
def ItR (X : PMap) (x : Itm) (r : RowI) : Prop := r.1 = x.enf ∧ r.2.1 = x.kind ∧ r.2.2.1 = x.name ∧ RowR ndC X r.2.2.2 x.nodes
def ItsR (X : PMap) (v : Value) (l : List Itm) : Prop := ∃ rows : List RowI, RowR itC X v rows ∧ rows.length = l.length ∧ ∀ (i : Nat) (x : Itm) (r : RowI), l[i]? = some x → rows[i]? = some r → ItR X x r
theorem ItsR.mono {X X' : PMap} {v : Value} {l : List Itm} (h : ItsR X v l) (hX : X.le X') : ItsR X' v l :=
  let ⟨rows, h1, h2, h3⟩ := h
  ⟨rows, h1.mono hX, h2, fun i x r a b => let ⟨p, q, s, t⟩ := h3 i x r a b; ⟨p, q, s, t.mono hX⟩⟩
/-- The specification's constraints in memory. -/
def rc7i (r : Row7) : List Value := [.bool r.1, .int .i64 (r.2.1 : Int), .string r.2.2.1, r.2.2.2.1, r.2.2.2.2.1, r.2.2.2.2.2.1, r.2.2.2.2.2.2]
def ConRi (X : PMap) (c : Con) (r : Row7) : Prop := r.1 = c.enf ∧ r.2.1 = c.kind ∧ r.2.2.1 = c.name ∧ ExR .i64 X c.ex r.2.2.2
theorem ConRi.mono {X X' : PMap} {c : Con} {r : Row7} (h : ConRi X c r) (hX : X.le X') : ConRi X' c r := ⟨h.1, h.2.1, h.2.2.1, h.2.2.2.mono hX⟩
theorem ConRi.form {X : PMap} {c : Con} {r : Row7} (h : ConRi X c r) : ∃ (o : Nat) (n : Int) (A B : Option Addr) (l c1 l' c' : Nat), r = (c.enf, c.kind, c.name, .int .i64 (o : Int), .int .i64 n, .slice A l c1, .slice B l' c') := by
  obtain ⟨e, k, s, r4⟩ := r
  obtain ⟨h1, h2, h3, h4⟩ := h
  simp only at h1 h2 h3 h4
  subst h1 h2 h3
  obtain ⟨o, n, A, B, l, c1, l', c', rfl⟩ := h4.form
  exact ⟨_, _, _, _, _, _, _, _, rfl⟩
def ConsRi (X : PMap) (v : Value) (cs : List Con) : Prop := ∃ rows : List Row7, RowR rc7i X v rows ∧ rows.length = cs.length ∧ ∀ (i : Nat) (c : Con) (r : Row7), cs[i]? = some c → rows[i]? = some r → ConRi X c r
theorem ConsRi.mono {X X' : PMap} {v : Value} {cs : List Con} (h : ConsRi X v cs) (hX : X.le X') : ConsRi X' v cs :=
  let ⟨rows, h1, h2, h3⟩ := h
  ⟨rows, h1.mono hX, h2, fun i c r a b => (h3 i c r a b).mono hX⟩
/-- One row more. -/
theorem rows_snoc {α β : Type} {R : PMap → α → β → Prop} {X : PMap} {cs : List α} {rows : List β} {c : α} {r : β} (hl : rows.length = cs.length) (h : ∀ (i : Nat) (c : α) (r : β), cs[i]? = some c → rows[i]? = some r → R X c r) (hc : R X c r) :
    ∀ (i : Nat) (c' : α) (r' : β), (cs ++ [c])[i]? = some c' → (rows ++ [r])[i]? = some r' → R X c' r' := by
  intro i c' r' h1 h2
  rcases Nat.lt_or_ge i cs.length with hi | hi
  · rw [List.getElem?_append_left hi] at h1
    rw [List.getElem?_append_left (by omega)] at h2
    exact h i c' r' h1 h2
  · have hik : i = cs.length := by
      have := (List.getElem?_eq_some_iff.1 h1).1
      rw [List.length_append] at this; simp at this; omega
    subst hik
    rw [List.getElem?_append_right (Nat.le_refl _), Nat.sub_self] at h1
    rw [List.getElem?_append_right (by omega), ← hl, Nat.sub_self] at h2
    simp only [List.getElem?_cons_zero, Option.some.injEq] at h1 h2
    subst h1 h2
    exact hc
end Go.Proofs.YtnabbnhefjfegaaGreatDoor
namespace Go.Proofs.YtnabbnhefjfegaaGreatDoor
open Go.ChangeShapes Go.WideShapes Go.ChangeAt Go.RowKit Go.Joins Go.Deep
end Go.Proofs.YtnabbnhefjfegaaGreatDoor
namespace Go.Proofs.YtnabbnhefjfegaaGreatDoor
open Go.ChangeShapes Go.WideShapes Go.ChangeAt Go.RowKit Go.Joins Go.Deep
end Go.Proofs.YtnabbnhefjfegaaGreatDoor
namespace Go.Proofs.YtnabbnhefjfegaaGreatDoor
open Go.Shelf
def lays105_ren : Go.Shelf.Ren := ⟨fun | 105 => 34 | 212 => 75 | 99 => 76 | 165 => 77 | 166 => 78 | 170 => 79 | 169 => 80 | 263 => 129 | 264 => 130 | 206 => 131 | 240 => 132 | 241 => 133 | 276 => 152 | 277 => 153 | n => n, fun | 9 => 9 | 3 => 3 | 4 => 4 | 20 => 20 | 0 => 0 | 46 => 131 | 109 => 132 | 5 => 5 | 72 => 137 | 76 => 140 | 51 => 168 | 146 => 169 | 53 => 171 | 148 => 172 | 70 => 135 | 37 => 64 | 75 => 139 | 127 => 174 | 164 => 180 | 80 => 143 | n => n, fun | n => n⟩
theorem lays105 : Go.Proofs.Lays.n105 Tryz.prog lays105_ren := {
  mixed := by kernel_rfl
  f99 := Tryz.func76.trans (congrArg some (by kernel_rfl))
  f105 := Tryz.func34.trans (congrArg some (by kernel_rfl))
  f165 := Tryz.func77.trans (congrArg some (by kernel_rfl))
  f166 := Tryz.func78.trans (congrArg some (by kernel_rfl))
  f169 := Tryz.func80.trans (congrArg some (by kernel_rfl))
  f170 := Tryz.func79.trans (congrArg some (by kernel_rfl))
  f206 := Tryz.func131.trans (congrArg some (by kernel_rfl))
  f212 := Tryz.func75.trans (congrArg some (by kernel_rfl))
  f240 := Tryz.func132.trans (congrArg some (by kernel_rfl))
  f241 := Tryz.func133.trans (congrArg some (by kernel_rfl))
  f263 := Tryz.func129.trans (congrArg some (by kernel_rfl))
  f264 := Tryz.func130.trans (congrArg some (by kernel_rfl))
  f276 := Tryz.func152.trans (congrArg some (by kernel_rfl))
  f277 := Tryz.func153.trans (congrArg some (by kernel_rfl))
  t0 := Tryz.underlying0
  a0 := Tryz.isAgg0
  z0 := Tryz.sizeOf0
  v0 := Tryz.zeroValue0
  t3 := Tryz.underlying3
  a3 := Tryz.isAgg3
  z3 := Tryz.sizeOf3
  v3 := Tryz.zeroValue3
  t4 := Tryz.underlying4
  a4 := Tryz.isAgg4
  z4 := Tryz.sizeOf4
  v4 := Tryz.zeroValue4
  t5 := Tryz.underlying5
  a5 := Tryz.isAgg5
  z5 := Tryz.sizeOf5
  v5 := Tryz.zeroValue5
  t9 := Tryz.underlying9
  a9 := Tryz.isAgg9
  z9 := Tryz.sizeOf9
  v9 := Tryz.zeroValue9
  t20 := Tryz.underlying20
  a20 := Tryz.isAgg20
  z20 := Tryz.sizeOf20
  v20 := Tryz.zeroValue20
  t37 := Tryz.underlying64
  a37 := Tryz.isAgg64
  z37 := Tryz.sizeOf64
  v37 := Tryz.zeroValue64
  t46 := Tryz.underlying131
  a46 := Tryz.isAgg131
  z46 := Tryz.sizeOf131
  v46 := Tryz.zeroValue131
  t51 := Tryz.underlying168
  a51 := Tryz.isAgg168
  z51 := Tryz.sizeOf168
  v51 := Tryz.zeroValue168
  t53 := Tryz.underlying171
  a53 := Tryz.isAgg171
  z53 := Tryz.sizeOf171
  v53 := Tryz.zeroValue171
  t70 := Tryz.underlying135
  a70 := Tryz.isAgg135
  z70 := Tryz.sizeOf135
  v70 := Tryz.zeroValue135
  t72 := Tryz.underlying137
  a72 := Tryz.isAgg137
  z72 := Tryz.sizeOf137
  v72 := Tryz.zeroValue137
  t75 := Tryz.underlying139
  a75 := Tryz.isAgg139
  z75 := Tryz.sizeOf139
  v75 := Tryz.zeroValue139
  t76 := Tryz.underlying140
  a76 := Tryz.isAgg140
  z76 := Tryz.sizeOf140
  v76 := Tryz.zeroValue140
  t109 := Tryz.underlying132
  a109 := Tryz.isAgg132
  z109 := Tryz.sizeOf132
  v109 := Tryz.zeroValue132
  t127 := Tryz.underlying174
  a127 := Tryz.isAgg174
  z127 := Tryz.sizeOf174
  v127 := Tryz.zeroValue174
  t146 := Tryz.underlying169
  a146 := Tryz.isAgg169
  z146 := Tryz.sizeOf169
  v146 := Tryz.zeroValue169
  t148 := Tryz.underlying172
  a148 := Tryz.isAgg172
  z148 := Tryz.sizeOf172
  v148 := Tryz.zeroValue172
  t164 := Tryz.underlying180
  a164 := Tryz.isAgg180
  z164 := Tryz.sizeOf180
  v164 := Tryz.zeroValue180 }
theorem extra105 : Go.Proofs.Builder.Extra Tryz.prog lays105_ren := {
  sizeBuilder := by kernel_rfl
  liesBuilder := by kernel_rfl
  t5 := Tryz.underlying5
  a5 := Tryz.isAgg5
  z5 := Tryz.sizeOf5
  v5 := Tryz.zeroValue5
  infoByte := by kernel_rfl
  cellsByte := by kernel_rfl
  sizeByte := by kernel_rfl
  neB5 := by decide }
end Go.Proofs.YtnabbnhefjfegaaGreatDoor
namespace Go.Proofs.YtnabbnhefjfegaaGreatDoor
open Go.Shelf
def lays171_ren : Go.Shelf.Ren := ⟨fun | 171 => 115 | 243 => 148 | 246 => 158 | 283 => 175 | 284 => 176 | 285 => 177 | 286 => 178 | 129 => 174 | 317 => 188 | 318 => 189 | 319 => 190 | 320 => 191 | 337 => 195 | 338 => 196 | n => n, fun | 3 => 3 | 9 => 9 | 2 => 2 | 4 => 4 | 171 => 198 | 0 => 0 | 53 => 171 | 37 => 64 | 5 => 5 | 173 => 200 | 212 => 211 | 51 => 168 | 20 => 20 | 213 => 212 | 46 => 131 | 232 => 219 | 233 => 220 | n => n, fun | 17 => 1 | 18 => 2 | 19 => 3 | n => n⟩
theorem lays171 : Go.Proofs.LaysM.n171 Tryz.prog lays171_ren := {
  mixed := by kernel_rfl
  f129 := Tryz.func174.trans (congrArg some (by kernel_rfl))
  f171 := Tryz.func115.trans (congrArg some (by kernel_rfl))
  f243 := Tryz.func148.trans (congrArg some (by kernel_rfl))
  f246 := Tryz.func158.trans (congrArg some (by kernel_rfl))
  f283 := Tryz.func175.trans (congrArg some (by kernel_rfl))
  f284 := Tryz.func176.trans (congrArg some (by kernel_rfl))
  f285 := Tryz.func177.trans (congrArg some (by kernel_rfl))
  f286 := Tryz.func178.trans (congrArg some (by kernel_rfl))
  f317 := Tryz.func188.trans (congrArg some (by kernel_rfl))
  f318 := Tryz.func189.trans (congrArg some (by kernel_rfl))
  f319 := Tryz.func190.trans (congrArg some (by kernel_rfl))
  f320 := Tryz.func191.trans (congrArg some (by kernel_rfl))
  f337 := Tryz.func195.trans (congrArg some (by kernel_rfl))
  f338 := Tryz.func196.trans (congrArg some (by kernel_rfl))
  t0 := Tryz.underlying0
  a0 := Tryz.isAgg0
  z0 := Tryz.sizeOf0
  v0 := Tryz.zeroValue0
  t2 := Tryz.underlying2
  a2 := Tryz.isAgg2
  z2 := Tryz.sizeOf2
  v2 := Tryz.zeroValue2
  t3 := Tryz.underlying3
  a3 := Tryz.isAgg3
  z3 := Tryz.sizeOf3
  v3 := Tryz.zeroValue3
  t4 := Tryz.underlying4
  a4 := Tryz.isAgg4
  z4 := Tryz.sizeOf4
  v4 := Tryz.zeroValue4
  t5 := Tryz.underlying5
  a5 := Tryz.isAgg5
  z5 := Tryz.sizeOf5
  v5 := Tryz.zeroValue5
  t9 := Tryz.underlying9
  a9 := Tryz.isAgg9
  z9 := Tryz.sizeOf9
  v9 := Tryz.zeroValue9
  t20 := Tryz.underlying20
  a20 := Tryz.isAgg20
  z20 := Tryz.sizeOf20
  v20 := Tryz.zeroValue20
  t37 := Tryz.underlying64
  a37 := Tryz.isAgg64
  z37 := Tryz.sizeOf64
  v37 := Tryz.zeroValue64
  t46 := Tryz.underlying131
  a46 := Tryz.isAgg131
  z46 := Tryz.sizeOf131
  v46 := Tryz.zeroValue131
  t51 := Tryz.underlying168
  a51 := Tryz.isAgg168
  z51 := Tryz.sizeOf168
  v51 := Tryz.zeroValue168
  t53 := Tryz.underlying171
  a53 := Tryz.isAgg171
  z53 := Tryz.sizeOf171
  v53 := Tryz.zeroValue171
  t171 := Tryz.underlying198
  a171 := Tryz.isAgg198
  z171 := Tryz.sizeOf198
  v171 := Tryz.zeroValue198
  t173 := Tryz.underlying200
  a173 := Tryz.isAgg200
  z173 := Tryz.sizeOf200
  v173 := Tryz.zeroValue200
  t212 := Tryz.underlying211
  a212 := Tryz.isAgg211
  z212 := Tryz.sizeOf211
  v212 := Tryz.zeroValue211
  t213 := Tryz.underlying212
  a213 := Tryz.isAgg212
  z213 := Tryz.sizeOf212
  t232 := Tryz.underlying219
  a232 := Tryz.isAgg219
  z232 := Tryz.sizeOf219
  v232 := Tryz.zeroValue219
  t233 := Tryz.underlying220
  a233 := Tryz.isAgg220
  z233 := Tryz.sizeOf220
  v233 := Tryz.zeroValue220
  g17 := by kernel_rfl
  g18 := by kernel_rfl
  g19 := by kernel_rfl
  i0 := by kernel_rfl
  i2 := by kernel_rfl
  i3 := by kernel_rfl
  i4 := by kernel_rfl
  i5 := by kernel_rfl
  i9 := by kernel_rfl
  i20 := by kernel_rfl
  i37 := by kernel_rfl
  i46 := by kernel_rfl
  i51 := by kernel_rfl
  i53 := by kernel_rfl
  i171 := by kernel_rfl
  i173 := by kernel_rfl
  i212 := by kernel_rfl
  i232 := by kernel_rfl
  i233 := by kernel_rfl
  m17 := by kernel_rfl
  m18 := by kernel_rfl
  m19 := by kernel_rfl }
end Go.Proofs.YtnabbnhefjfegaaGreatDoor
namespace Go.Proofs.YtnabbnhefjfegaaGreatDoor
open Go.RowKit
/-- The table of powers of ten lies as its initialiser lays it. -/
def Pow10 (X : PMap) : Prop := ∀ w, PIn X w → Lib.TabIs Tryz.prog w "internal/strconv.uint64pow10" .u64 Lib.pow10Tab
theorem Pow10.mono {X X' : PMap} (h : Pow10 X) (hX : X.le X') : Pow10 X' := fun w hw => h w fun k o hk => hw k o (hX k o hk)
theorem decG_lib : ∀ (f v : Nat), v < 10 ^ f → 0 < f → decG f v = Lib.decDigits v
  | 0, _, _, h => by omega
  | f + 1, v, h, _ => by
    rw [decG, Lib.decDigits]
    by_cases hv : v < 10
    · rw [if_pos hv, dif_pos hv]
    · rw [if_neg hv, dif_neg hv]
      have h1 : v / 10 < 10 ^ f := by rw [Nat.pow_succ] at h; omega
      rw [decG_lib f (v / 10) h1 (Nat.pos_of_ne_zero fun e => by subst e; simp at h1; omega)]
theorem itoaL_spec {X : PMap} (hP : Pow10 X) (v : Nat) (hv : v ≤ 9223372036854775807) : Spec Tryz.prog 115 [.int .i64 (v : Int)] X fun u _ => u = .string (decB v) := fun w hw => by
  have h := Any.strconv_Itoa lays171 (v : Int) (by omega) (by omega) w (hP w hw)
  refine h.mono ?_
  rintro e w' ⟨rfl, k, os, rfl⟩
  have e1 : (⟨(Lib.itoa (v : Int)).toArray⟩ : ByteArray) = decB v := by
    rw [Lib.itoa, if_neg (by omega), Int.toNat_natCast, decB, decG_lib 20 v (by omega) (by omega)]
  have hlt : ∀ k' : Nat, k' < w.heap.size → (Sort.grow (w.drewN k) os).heap[k']? = w.heap[k']? := fun k' hk => by
    show (w.heap ++ os)[k']? = _
    rw [Array.getElem?_append_left hk]
  refine ⟨_, X, rfl, ⟨rfl, rfl, rfl, ?_, hlt⟩, fun k' o hk => ?_, fun _ _ => rfl, by rw [e1]⟩
  · show w.heap.size ≤ (w.heap ++ os).size
    simp
  · rw [hlt k' (hw.lt hk)]; exact hw k' o hk
end Go.Proofs.YtnabbnhefjfegaaGreatDoor
namespace Go.Proofs.YtnabbnhefjfegaaGreatDoor
open Go.RowKit
/-- A token: 0 the end, 1 a word, 2 a number, 3 a symbol. -/
structure Tk where
  kind : Nat
  text : ByteArray
  num : Nat
  off : Nat
def digB (b : UInt8) : Bool := decide (48 ≤ b.toNat ∧ b.toNat ≤ 57)
def blkB (b : UInt8) : Bool := decide (b.toNat = 32 ∨ b.toNat = 9 ∨ b.toNat = 10 ∨ b.toNat = 13)
/-- What is left behind blanks and comments; true: inside a comment. -/
def skipL : Bool → List UInt8 → List UInt8
  | _, [] => []
  | true, b :: l => if b.toNat = 10 then skipL false l else skipL true l
  | false, b :: l => if blkB b then skipL false l else if b.toNat = 35 then skipL true l else b :: l
def symsL : List (List UInt8) := [[45, 62], [60, 61], [62, 61], [61, 61], [60], [62], [40], [41], [44], [59], [58], [43], [45]]
def valL (l : List UInt8) : Nat := l.foldl (fun n c => 10 * n + (c.toNat - 48)) 0
def glued : List UInt8 → Bool
  | [] => false
  | b :: _ => letB b || b.toNat == 95
/-- The digits of a number; none: it breaks a rule. -/
def numT (l : List UInt8) : Option (List UInt8) :=
  if 6 < (l.takeWhile digB).length ∨ (1 < (l.takeWhile digB).length ∧ l.head? = some 48) ∨ glued (l.drop (l.takeWhile digB).length) = true then none else some (l.takeWhile digB)
/-- The kind, the text and the number of the token at the front. -/
def tok1 : List UInt8 → Option (Nat × List UInt8 × Nat)
  | [] => none
  | b :: l => if letB b then some (1, (b :: l).takeWhile innB, 0) else if digB b then (numT (b :: l)).map fun d => (2, d, valL d) else (symsL.find? fun s => s.isPrefixOf (b :: l)).map fun s => (3, s, 0)
def consR (t : Tk) : Except Nat (List Tk) → Except Nat (List Tk)
  | .ok l => .ok (t :: l)
  | .error o => .error o
def appR (ts : List Tk) : Except Nat (List Tk) → Except Nat (List Tk)
  | .ok l => .ok (ts ++ l)
  | .error o => .error o
/-- The tokens of what is left of a text of N bytes, or the offset at which there is none. -/
def scanG (N : Nat) : Nat → List UInt8 → Except Nat (List Tk)
  | 0, _ => .error 0
  | f + 1, l => match skipL false l with
    | [] => .ok [⟨0, ⟨#[]⟩, 0, N⟩]
    | b :: r => match tok1 (b :: r) with
      | none => .error (N - (b :: r).length)
      | some (k, t, n) => consR ⟨k, ⟨t.toArray⟩, n, N - (b :: r).length⟩ (scanG N f ((b :: r).drop t.length))
def scanL (N : Nat) (l : List UInt8) : Except Nat (List Tk) := scanG N (l.length + 1) l
theorem skip_len : ∀ (c : Bool) (l : List UInt8), (skipL c l).length ≤ l.length
  | _, [] => by simp [skipL]
  | true, b :: l => by
    rw [skipL]
    have h1 := skip_len false l
    have h2 := skip_len true l
    split <;> simp only [List.length_cons] <;> omega
  | false, b :: l => by
    rw [skipL]
    have h1 := skip_len false l
    have h2 := skip_len true l
    split
    · simp only [List.length_cons]; omega
    · split
      · simp only [List.length_cons]; omega
      · exact Nat.le_refl _
theorem symsL_pos : ∀ s ∈ symsL, 0 < s.length := by decide
theorem tok1_pos {l : List UInt8} {k n : Nat} {t : List UInt8} (h : tok1 l = some (k, t, n)) : 0 < t.length := by
  cases l with
  | nil => cases h
  | cons b l =>
    rw [tok1] at h
    split at h
    · rename_i hb
      have hi : innB b = true := by simp only [letB, innB, decide_eq_true_eq] at hb ⊢; omega
      simp only [Option.some.injEq, Prod.mk.injEq] at h
      rw [← h.2.1, List.takeWhile_cons_of_pos hi]; simp
    · split at h
      · rename_i hd
        unfold numT at h
        split at h
        · cases h
        · simp only [Option.map_some, Option.some.injEq, Prod.mk.injEq] at h
          rw [← h.2.1, List.takeWhile_cons_of_pos hd]; simp
      · cases hf : symsL.find? fun s => s.isPrefixOf (b :: l) with
        | none => rw [hf] at h; cases h
        | some s =>
          rw [hf] at h
          simp only [Option.map_some, Option.some.injEq, Prod.mk.injEq] at h
          rw [← h.2.1]
          exact symsL_pos s (List.mem_of_find?_eq_some hf)
theorem scanG_fuel (N : Nat) : ∀ (f g : Nat) (l : List UInt8), l.length < f → l.length < g → scanG N f l = scanG N g l
  | 0, _, _, h, _ => by omega
  | _, 0, _, _, h => by omega
  | f + 1, g + 1, l, hf, hg => by
    rw [scanG, scanG]
    have hs := skip_len false l
    cases h : skipL false l with
    | nil => rfl
    | cons b r =>
      rw [h] at hs
      simp only
      cases ht : tok1 (b :: r) with
      | none => rfl
      | some x =>
        obtain ⟨k, t, n⟩ := x
        have hp := tok1_pos ht
        have hd : ((b :: r).drop t.length).length < l.length := by rw [List.length_drop]; simp only [List.length_cons] at hs ⊢; omega
        simp only
        rw [scanG_fuel N f g _ (by omega) (by omega)]
theorem scan_eq (N : Nat) (l : List UInt8) : scanL N l = match skipL false l with
    | [] => .ok [⟨0, ⟨#[]⟩, 0, N⟩]
    | b :: r => match tok1 (b :: r) with
      | none => .error (N - (b :: r).length)
      | some (k, t, n) => consR ⟨k, ⟨t.toArray⟩, n, N - (b :: r).length⟩ (scanL N ((b :: r).drop t.length)) := by
  rw [scanL, scanG]
  have hs := skip_len false l
  cases h : skipL false l with
  | nil => rfl
  | cons b r =>
    rw [h] at hs
    simp only
    cases ht : tok1 (b :: r) with
    | none => rfl
    | some x =>
      obtain ⟨k, t, n⟩ := x
      have hp := tok1_pos ht
      have hd : ((b :: r).drop t.length).length < l.length := by rw [List.length_drop]; simp only [List.length_cons] at hs ⊢; omega
      simp only
      rw [scanL, scanG_fuel N l.length (((b :: r).drop t.length).length + 1) _ hd (by omega)]
theorem scan_skip {N : Nat} {l l' : List UInt8} (h : skipL false l = skipL false l') : scanL N l = scanL N l' := by rw [scan_eq, h, ← scan_eq]
theorem scan_blank {N : Nat} {l : List UInt8} : scanL N (32 :: l) = scanL N l := scan_skip rfl
theorem scan_end {N : Nat} : scanL N [] = .ok [⟨0, ⟨#[]⟩, 0, N⟩] := by rw [scan_eq]; rfl
/-- One token. -/
theorem scan_one {N k n : Nat} {b : UInt8} {t l r : List UInt8} (hl : l = b :: r) (h0 : blkB b = false) (h1 : b.toNat ≠ 35) (ht : tok1 l = some (k, t, n)) : scanL N l = consR ⟨k, ⟨t.toArray⟩, n, N - l.length⟩ (scanL N (l.drop t.length)) := by
  subst hl
  rw [scan_eq, skipL, if_neg (by simp [h0]), if_neg h1]
  simp only [ht]
end Go.Proofs.YtnabbnhefjfegaaGreatDoor
namespace Go.Proofs.YtnabbnhefjfegaaGreatDoor
open Go.RowKit
abbrev Res (α : Type) := Except (Nat × Int) (α × List Tk)
def isT (w : ByteArray) : List Tk → Bool
  | [] => false
  | t :: _ => (t.kind == 1 || t.kind == 3) && decide (t.text = w)
def offT : List Tk → Nat
  | [] => 0
  | t :: _ => t.off
noncomputable def nameT : List Tk → Res ByteArray
  | [] => .error (0, 8)
  | t :: r => if t.kind ≠ 1 ∨ t.text ∈ keyws then .error (t.off, 8) else if ¬validS t.text then .error (t.off, 9) else .ok (t.text, r)
def expT (w : ByteArray) (l : List Tk) : Res Unit := if isT w l then .ok ((), l.tail) else .error (offT l, 8)
def bindR {α β : Type} (x : Res α) (f : α → List Tk → Res β) : Res β := match x with
  | .ok (a, l) => f a l
  | .error e => .error e
theorem bindR_ok {α β : Type} {a : α} {l : List Tk} {f : α → List Tk → Res β} : bindR (.ok (a, l)) f = f a l := rfl
abbrev ParP := List Tk → Res Ex
def two (op : Nat) (x y : Ex) : Ex := .mk op 0 [] [x, y]
/-- Operands between which a word stands, to the left. -/
def leftG (w : ByteArray) (op : Nat) (p : ParP) : Nat → Ex → List Tk → Res Ex
  | 0, x, l => .ok (x, l)
  | k + 1, x, l => if isT w l then bindR (p l.tail) fun y l' => leftG w op p k (two op x y) l' else .ok (x, l)
def leftP (w : ByteArray) (op : Nat) (p : ParP) : ParP := fun l => bindR (p l) fun x l' => leftG w op p l'.length x l'
abbrev wOr : ByteArray := ⟨#[111, 114]⟩
abbrev wAnd : ByteArray := ⟨#[97, 110, 100]⟩
abbrev wNot : ByteArray := ⟨#[110, 111, 116]⟩
abbrev wArrow : ByteArray := ⟨#[45, 62]⟩
abbrev wPlus : ByteArray := ⟨#[43]⟩
abbrev wTrue : ByteArray := ⟨#[116, 114, 117, 101]⟩
abbrev wFalse : ByteArray := ⟨#[102, 97, 108, 115, 101]⟩
abbrev wCount : ByteArray := ⟨#[99, 111, 117, 110, 116]⟩
abbrev wMembers : ByteArray := ⟨#[109, 101, 109, 98, 101, 114, 115]⟩
abbrev wLp : ByteArray := ⟨#[40]⟩
abbrev wRp : ByteArray := ⟨#[41]⟩
abbrev wComma : ByteArray := ⟨#[44]⟩
abbrev wLe : ByteArray := ⟨#[60, 61]⟩
abbrev wLt : ByteArray := ⟨#[60]⟩
abbrev wGe : ByteArray := ⟨#[62, 61]⟩
abbrev wGt : ByteArray := ⟨#[62]⟩
abbrev wEq : ByteArray := ⟨#[61, 61]⟩
noncomputable def namesG : Nat → List ByteArray → List Tk → Res (List ByteArray)
  | 0, ns, l => .ok (ns, l)
  | k + 1, ns, l => if isT wComma l then bindR (nameT l.tail) fun s l' => namesG k (ns ++ [s]) l' else .ok (ns, l)
/-- Names in parentheses: one, or several. -/
noncomputable def namesP (several : Bool) (l : List Tk) : Res (List ByteArray) :=
  bindR (expT wLp l) fun _ l1 => bindR (nameT l1) fun s l2 => bindR (namesG (if several then l2.length else 0) [s] l2) fun ns l3 => bindR (expT wRp l3) fun _ l4 => .ok (ns, l4)
noncomputable def primP (ex : ParP) (l : List Tk) : Res Ex := match l with
  | [] => .error (0, 8)
  | t :: r => if t.kind = 2 then .ok (.mk 1 (t.num : Int) [] [], r)
    else if isT wTrue (t :: r) then .ok (.mk 2 0 [] [], r) else if isT wFalse (t :: r) then .ok (.mk 3 0 [] [], r)
    else if isT wCount (t :: r) then bindR (namesP true r) fun ns l' => .ok (.mk 5 0 ns [], l')
    else if isT wMembers (t :: r) then bindR (namesP false r) fun ns l' => .ok (.mk 6 0 ns [], l')
    else if isT wLp (t :: r) then bindR (ex r) fun x l' => bindR (expT wRp l') fun _ l'' => .ok (x, l'')
    else bindR (nameT (t :: r)) fun s l' => .ok (.mk 4 0 [s] [], l')
def cmps : List (ByteArray × Nat) := [(wLe, 11), (wLt, 12), (wGe, 13), (wGt, 14), (wEq, 15)]
noncomputable def sumP (pr : ParP) : ParP := leftP wPlus 16 pr
noncomputable def cmpP (pr : ParP) : ParP := fun l => bindR (sumP pr l) fun x l' => match cmps.find? fun c => isT c.1 l' with
  | some c => bindR (sumP pr l'.tail) fun y l'' => .ok (two c.2 x y, l'')
  | none => .ok (x, l')
noncomputable def negP (pr : ParP) : Nat → ParP
  | 0 => fun l => .error (offT l, 8)
  | k + 1 => fun l => if isT wNot l then bindR (negP pr k l.tail) fun x l' => .ok (.mk 7 0 [] [x], l') else cmpP pr l
noncomputable def conjP (pr : ParP) : ParP := leftP wAnd 8 fun l => negP pr (l.length + 1) l
noncomputable def disjP (pr : ParP) : ParP := leftP wOr 9 (conjP pr)
noncomputable def implP (pr : ParP) : Nat → ParP
  | 0 => fun l => .error (offT l, 8)
  | k + 1 => fun l => bindR (disjP pr l) fun x l' => if isT wArrow l' then bindR (implP pr k l'.tail) fun y l'' => .ok (two 10 x y, l'') else .ok (x, l')
theorem negP_succ {pr : ParP} {k : Nat} {l : List Tk} : negP pr (k + 1) l = if isT wNot l then bindR (negP pr k l.tail) fun x l' => .ok (.mk 7 0 [] [x], l') else cmpP pr l := rfl
theorem implP_succ {pr : ParP} {k : Nat} {l : List Tk} : implP pr (k + 1) l = bindR (disjP pr l) fun x l' => if isT wArrow l' then bindR (implP pr k l'.tail) fun y l'' => .ok (two 10 x y, l'') else .ok (x, l') := rfl
theorem cmpP_eq {pr : ParP} {l : List Tk} : cmpP pr l = bindR (sumP pr l) fun x l' => match cmps.find? fun c => isT c.1 l' with
  | some c => bindR (sumP pr l'.tail) fun y l'' => .ok (two c.2 x y, l'')
  | none => .ok (x, l') := rfl
/-- An expression, with parentheses at most so deep. -/
noncomputable def exprP : Nat → ParP
  | 0 => fun l => .error (offT l, 8)
  | f + 1 => fun l => implP (primP (exprP f)) (l.length + 1) l
theorem exprP_succ {f : Nat} {l : List Tk} : exprP (f + 1) l = implP (primP (exprP f)) (l.length + 1) l := rfl
end Go.Proofs.YtnabbnhefjfegaaGreatDoor
namespace Go.Proofs.YtnabbnhefjfegaaGreatDoor
open Go.RowKit
def wT (s : ByteArray) (o : Nat) : Tk := ⟨1, s, 0, o⟩
def sT (s : ByteArray) (o : Nat) : Tk := ⟨3, s, 0, o⟩
def commasK : List ByteArray → Nat → List Tk
  | [], _ => []
  | s :: l, o => sT wComma o :: wT s (o + 2) :: commasK l (o + 2 + s.size)
def namesK : List ByteArray → Nat → List Tk
  | [], _ => []
  | s :: l, o => wT s o :: commasK l (o + s.size)
def parK (s least n : Nat) (t : Nat → List Tk) (o : Nat) : List Tk := if s < least then sT wLp o :: (t (o + 1) ++ [sT wRp (o + 1 + n)]) else t o
def opB (op : Nat) : ByteArray := match op with
  | 8 => wAnd | 9 => wOr | 10 => wArrow | 11 => wLe | 12 => wLt | 13 => wGe | 14 => wGt | 15 => wEq | _ => wPlus
def opK (op o : Nat) : Tk := ⟨if op = 8 ∨ op = 9 then 1 else 3, opB op, 0, o⟩
mutual
def toksE : Ex → Nat → List Tk
  | .mk op n ns al, o =>
    if op = 1 then [⟨2, decB n.toNat, n.toNat, o⟩] else if op = 2 then [wT wTrue o] else if op = 3 then [wT wFalse o] else if op = 4 then [wT (ns.headD ⟨#[]⟩) o]
    else if op = 5 then wT wCount o :: sT wLp (o + 5) :: (namesK ns (o + 6) ++ [sT wRp (o + 6 + (joinB ns).size)])
    else if op = 6 then [wT wMembers o, sT wLp (o + 7), wT (ns.headD ⟨#[]⟩) (o + 8), sT wRp (o + 8 + (ns.headD ⟨#[]⟩).size)]
    else match toksL al with
      | [] => []
      | [x] => wT wNot o :: parK x.1 4 x.2.1.size x.2.2 (o + 4)
      | x :: y :: _ => parK x.1 (lefN op) x.2.1.size x.2.2 o ++ opK op (o + (parB x.1 x.2.1 (lefN op)).size + 1) :: parK y.1 (rigN op) y.2.1.size y.2.2 (o + (parB x.1 x.2.1 (lefN op)).size + (wordB op).size)
def toksL : List Ex → List (Nat × ByteArray × (Nat → List Tk))
  | [] => []
  | a :: al => (strN a.op, textE a, toksE a) :: toksL al
end
/-- The tokens of an operand. -/
def oprK (a : Ex) (k o : Nat) : List Tk := parK (strN a.op) k (textE a).size (toksE a) o
/-- The token at the front goes on with no operator that binds at least so strongly. -/
structure Stop (k : Nat) (l : List Tk) : Prop where
  s1 : k ≤ 1 → isT wArrow l = false
  s2 : k ≤ 2 → isT wOr l = false
  s3 : k ≤ 3 → isT wAnd l = false
  s5 : k ≤ 5 → ∀ c ∈ cmps, isT c.1 l = false
  s6 : k ≤ 6 → isT wPlus l = false
theorem Stop.mono {k k' : Nat} {l : List Tk} (h : Stop k l) (hk : k ≤ k') : Stop k' l := ⟨fun x => h.s1 (by omega), fun x => h.s2 (by omega), fun x => h.s3 (by omega), fun x => h.s5 (by omega), fun x => h.s6 (by omega)⟩
section
variable {pr : ParP} {t : List Tk} {e : Ex}
noncomputable abbrev negQ (pr : ParP) : ParP := fun l => negP pr (l.length + 1) l
def C7 (pr : ParP) (t : List Tk) (e : Ex) : Prop := ∀ rest, pr (t ++ rest) = .ok (e, rest)
def C6 (pr : ParP) (t : List Tk) (e : Ex) : Prop := ∀ rest, ∃ m, rest.length ≤ m ∧ sumP pr (t ++ rest) = leftG wPlus 16 pr m e rest
def C5 (pr : ParP) (t : List Tk) (e : Ex) : Prop := ∀ rest, Stop 5 rest → cmpP pr (t ++ rest) = .ok (e, rest)
def C4 (pr : ParP) (t : List Tk) (e : Ex) : Prop := ∀ rest, Stop 4 rest → negQ pr (t ++ rest) = .ok (e, rest)
def C3 (pr : ParP) (t : List Tk) (e : Ex) : Prop := ∀ rest, Stop 4 rest → ∃ m, rest.length ≤ m ∧ conjP pr (t ++ rest) = leftG wAnd 8 (negQ pr) m e rest
def C2 (pr : ParP) (t : List Tk) (e : Ex) : Prop := ∀ rest, Stop 3 rest → ∃ m, rest.length ≤ m ∧ disjP pr (t ++ rest) = leftG wOr 9 (conjP pr) m e rest
def C1 (pr : ParP) (t : List Tk) (e : Ex) : Prop := ∀ rest k, Stop 1 rest → (t ++ rest).length < k → implP pr k (t ++ rest) = .ok (e, rest)
def Ck (pr : ParP) (k : Nat) (t : List Tk) (e : Ex) : Prop := match k with
  | 7 => C7 pr t e | 6 => C6 pr t e | 5 => C5 pr t e | 4 => C4 pr t e | 3 => C3 pr t e | 2 => C2 pr t e | _ => C1 pr t e
def hdN (t : List Tk) : Prop := ∀ rest, isT wNot (t ++ rest) = false
theorem leftG_stop {w : ByteArray} {op m : Nat} {p : ParP} {x : Ex} {l : List Tk} (h : isT w l = false) : leftG w op p m x l = .ok (x, l) := by
  cases m with
  | zero => rfl
  | succ m => rw [leftG, h]; rfl
theorem leftG_go {w : ByteArray} {op m : Nat} {p : ParP} {x y : Ex} {l l' : List Tk} (h : isT w l = true) (hp : p l.tail = .ok (y, l')) : leftG w op p (m + 1) x l = leftG w op p m (two op x y) l' := by
  rw [leftG, h, if_pos rfl, hp, bindR_ok]
theorem leftP_ok {w : ByteArray} {op : Nat} {p : ParP} {x : Ex} {l l' : List Tk} (h : p l = .ok (x, l')) : leftP w op p l = leftG w op p l'.length x l' := by rw [leftP, h, bindR_ok]
theorem c76 (h : C7 pr t e) : C6 pr t e := fun rest => ⟨_, Nat.le_refl _, leftP_ok (h rest)⟩
theorem sum_ok (h : C6 pr t e) {rest : List Tk} (hs : isT wPlus rest = false) : sumP pr (t ++ rest) = .ok (e, rest) := by
  obtain ⟨m, _, hm⟩ := h rest
  rw [hm, leftG_stop hs]
theorem find_none {l : List Tk} (h : ∀ c ∈ cmps, isT c.1 l = false) : (cmps.find? fun c => isT c.1 l) = none := List.find?_eq_none.2 fun c hc => by simp [h c hc]
theorem c65 (h : C6 pr t e) : C5 pr t e := fun rest hs => by
  rw [cmpP_eq, sum_ok h (hs.s6 (by omega)), bindR_ok, find_none (hs.s5 (by omega))]
theorem c54 (h : C5 pr t e) (hn : hdN t) : C4 pr t e := fun rest hs => by
  show negP pr ((t ++ rest).length + 1) (t ++ rest) = _
  rw [negP_succ, hn rest, if_neg (by simp), h rest (hs.mono (by omega))]
theorem c43 (h : C4 pr t e) : C3 pr t e := fun rest hs => ⟨_, Nat.le_refl _, leftP_ok (h rest hs)⟩
theorem conj_ok (h : C3 pr t e) {rest : List Tk} (hs : Stop 3 rest) : conjP pr (t ++ rest) = .ok (e, rest) := by
  obtain ⟨m, _, hm⟩ := h rest (hs.mono (by omega))
  rw [hm, leftG_stop (hs.s3 (by omega))]
theorem c32 (h : C3 pr t e) : C2 pr t e := fun _ hs => ⟨_, Nat.le_refl _, leftP_ok (conj_ok h hs)⟩
theorem disj_ok (h : C2 pr t e) {rest : List Tk} (hs : Stop 2 rest) : disjP pr (t ++ rest) = .ok (e, rest) := by
  obtain ⟨m, _, hm⟩ := h rest (hs.mono (by omega))
  rw [hm, leftG_stop (hs.s2 (by omega))]
theorem c21 (h : C2 pr t e) : C1 pr t e := fun rest k hs hk => by
  obtain ⟨k, rfl⟩ : ∃ q, k = q + 1 := ⟨k - 1, by omega⟩
  rw [implP_succ, disj_ok h (hs.mono (by omega)), bindR_ok, hs.s1 (by omega)]; rfl
/-- From a level down to all below it. -/
theorem Ck.down {s : Nat} (h : Ck pr s t e) (hs : s ≤ 7) (hn : 5 ≤ s → hdN t) : ∀ k, 1 ≤ k → k ≤ s → Ck pr k t e := by
  have d21 : Ck pr 2 t e → Ck pr 1 t e := c21
  have d32 : Ck pr 3 t e → Ck pr 2 t e := c32
  have d43 : Ck pr 4 t e → Ck pr 3 t e := c43
  have d54 : hdN t → Ck pr 5 t e → Ck pr 4 t e := fun h g => c54 g h
  have d65 : Ck pr 6 t e → Ck pr 5 t e := c65
  have d76 : Ck pr 7 t e → Ck pr 6 t e := c76
  have step : ∀ k, 1 ≤ k → k < s → Ck pr (k + 1) t e → Ck pr k t e := by
    intro k h1 h2
    rcases (by omega : k = 1 ∨ k = 2 ∨ k = 3 ∨ k = 4 ∨ k = 5 ∨ k = 6) with rfl | rfl | rfl | rfl | rfl | rfl
    · exact d21
    · exact d32
    · exact d43
    · exact d54 (hn (by omega))
    · exact d65
    · exact d76
  have key : ∀ d k, 1 ≤ k → k + d = s → Ck pr k t e := by
    intro d
    induction d with
    | zero => intro k _ h2; obtain rfl : k = s := by omega
              exact h
    | succ d ih => intro k h1 h2; exact step k h1 (by omega) (ih (k + 1) (by omega) (by omega))
  exact fun k h1 h2 => key (s - k) k h1 (by omega)
theorem op_isT {op o : Nat} {l : List Tk} : isT (opB op) (opK op o :: l) = true := by
  unfold isT opK
  simp only
  split <;> simp
theorem isT_opw {op o : Nat} {w : ByteArray} {l : List Tk} (h : opB op ≠ w) : isT w (opK op o :: l) = false := by simp [isT, opK, h]
theorem isT_kind2 {w : ByteArray} {t : Tk} {l : List Tk} (h : t.kind = 2) : isT w (t :: l) = false := by simp [isT, h]
theorem isT_ne {w : ByteArray} {t : Tk} {l : List Tk} (h : t.text ≠ w) : isT w (t :: l) = false := by simp [isT, h]
theorem isT_sne {v w : ByteArray} {o : Nat} {l : List Tk} (h : v ≠ w) : isT w (sT v o :: l) = false := isT_ne h
theorem isT_wne {v w : ByteArray} {o : Nat} {l : List Tk} (h : v ≠ w) : isT w (wT v o :: l) = false := isT_ne h
theorem isT_w {w : ByteArray} {o : Nat} {l : List Tk} : isT w (wT w o :: l) = true := by simp [isT, wT]
theorem isT_s {w : ByteArray} {o : Nat} {l : List Tk} : isT w (sT w o :: l) = true := by simp [isT, sT]
theorem b_arr : C2 pr t e → ∀ {t2 : List Tk} {e2 : Ex} {o : Nat}, C1 pr t2 e2 → C1 pr (t ++ opK 10 o :: t2) (two 10 e e2) := fun h t2 e2 o h2 rest k hs hk => by
  obtain ⟨k, rfl⟩ : ∃ q, k = q + 1 := ⟨k - 1, by omega⟩
  rw [List.append_assoc, List.cons_append] at hk ⊢
  rw [implP_succ, disj_ok h ⟨by omega, fun _ => isT_opw (by decide), fun _ => isT_opw (by decide), fun _ c hc => isT_opw (by revert c; decide), fun _ => isT_opw (by decide)⟩, bindR_ok,
    show isT wArrow (opK 10 o :: (t2 ++ rest)) = true from op_isT (op := 10), if_pos rfl, List.tail_cons, h2 rest k hs (by simp only [List.length_append, List.length_cons] at hk ⊢; omega), bindR_ok]
theorem b_or : C2 pr t e → ∀ {t2 : List Tk} {e2 : Ex} {o : Nat}, C3 pr t2 e2 → C2 pr (t ++ opK 9 o :: t2) (two 9 e e2) := fun h t2 e2 o h2 rest hs => by
  rw [List.append_assoc, List.cons_append]
  obtain ⟨m, h1, hm⟩ := h (opK 9 o :: (t2 ++ rest)) ⟨by omega, by omega, fun _ => isT_opw (by decide), fun _ c hc => isT_opw (by revert c; decide), fun _ => isT_opw (by decide)⟩
  simp only [List.length_cons, List.length_append] at h1
  obtain ⟨m, rfl⟩ : ∃ q, m = q + 1 := ⟨m - 1, by omega⟩
  exact ⟨m, by omega, by rw [hm]; exact leftG_go (op_isT (op := 9)) (by rw [List.tail_cons]; exact conj_ok h2 hs)⟩
theorem b_and : C3 pr t e → ∀ {t2 : List Tk} {e2 : Ex} {o : Nat}, C4 pr t2 e2 → C3 pr (t ++ opK 8 o :: t2) (two 8 e e2) := fun h t2 e2 o h2 rest hs => by
  rw [List.append_assoc, List.cons_append]
  obtain ⟨m, h1, hm⟩ := h (opK 8 o :: (t2 ++ rest)) ⟨by omega, by omega, by omega, fun _ c hc => isT_opw (by revert c; decide), fun _ => isT_opw (by decide)⟩
  simp only [List.length_cons, List.length_append] at h1
  obtain ⟨m, rfl⟩ : ∃ q, m = q + 1 := ⟨m - 1, by omega⟩
  exact ⟨m, by omega, by rw [hm]; exact leftG_go (op_isT (op := 8)) (by rw [List.tail_cons]; exact h2 rest hs)⟩
theorem b_add : C6 pr t e → ∀ {t2 : List Tk} {e2 : Ex} {o : Nat}, C7 pr t2 e2 → C6 pr (t ++ opK 16 o :: t2) (two 16 e e2) := fun h t2 e2 o h2 rest => by
  rw [List.append_assoc, List.cons_append]
  obtain ⟨m, h1, hm⟩ := h (opK 16 o :: (t2 ++ rest))
  simp only [List.length_cons, List.length_append] at h1
  obtain ⟨m, rfl⟩ : ∃ q, m = q + 1 := ⟨m - 1, by omega⟩
  exact ⟨m, by omega, by rw [hm]; exact leftG_go (op_isT (op := 16)) (by rw [List.tail_cons]; exact h2 rest)⟩
theorem cmps_find {op o : Nat} {l : List Tk} (h1 : 11 ≤ op) (h2 : op ≤ 15) : (cmps.find? fun c => isT c.1 (opK op o :: l)) = some (opB op, op) := by
  rcases (by omega : op = 11 ∨ op = 12 ∨ op = 13 ∨ op = 14 ∨ op = 15) with rfl | rfl | rfl | rfl | rfl <;> rfl
theorem cmp_plus {op o : Nat} {l : List Tk} (h1 : 11 ≤ op) (h2 : op ≤ 15) : isT wPlus (opK op o :: l) = false := by
  rcases (by omega : op = 11 ∨ op = 12 ∨ op = 13 ∨ op = 14 ∨ op = 15) with rfl | rfl | rfl | rfl | rfl <;> exact isT_opw (by decide)
theorem b_cmp {op : Nat} (h1 : 11 ≤ op) (h2 : op ≤ 15) : C6 pr t e → ∀ {t2 : List Tk} {e2 : Ex} {o : Nat}, C6 pr t2 e2 → C5 pr (t ++ opK op o :: t2) (two op e e2) := fun h t2 e2 o h3 rest hs => by
  rw [List.append_assoc, List.cons_append, cmpP_eq, sum_ok h (cmp_plus h1 h2), bindR_ok, cmps_find h1 h2]
  simp only [List.tail_cons]
  rw [sum_ok h3 (hs.s6 (by omega)), bindR_ok]
theorem b_not {o : Nat} (h : C4 pr t e) : C4 pr (wT wNot o :: t) (.mk 7 0 [] [e]) := fun rest hs => by
  rw [List.cons_append]
  show negP pr ((wT wNot o :: (t ++ rest)).length + 1) (wT wNot o :: (t ++ rest)) = _
  rw [negP_succ, isT_w, if_pos rfl, List.tail_cons, List.length_cons]
  have := h rest hs
  rw [show negQ pr (t ++ rest) = negP pr ((t ++ rest).length + 1) (t ++ rest) from rfl] at this
  rw [this, bindR_ok]
end
end Go.Proofs.YtnabbnhefjfegaaGreatDoor
