/- CLOSURES (package closure), as folds over members. -/
import Derived.Test.YtoheffglppbcbaaDoorMat
namespace Go.Proofs.YtoheffglppbcbaaDoor
section
set_option maxRecDepth 100000
theorem en58 : Enters Tryd.prog 58 := enters_mk Tryd.func58 (by kernel_rfl) rfl
theorem en61 : Enters Tryd.prog 61 := enters_mk Tryd.func61 (by kernel_rfl) rfl
theorem en66 : Enters Tryd.prog 66 := enters_mk Tryd.func66 (by kernel_rfl) rfl
theorem en67 : Enters Tryd.prog 67 := enters_mk Tryd.func67 (by kernel_rfl) rfl
theorem en68 : Enters Tryd.prog 68 := enters_mk Tryd.func68 (by kernel_rfl) rfl
theorem en74 : Enters Tryd.prog 74 := enters_mk Tryd.func74 (by kernel_rfl) rfl
theorem en87 : Enters Tryd.prog 87 := enters_mk Tryd.func87 (by kernel_rfl) rfl
theorem z49 : Zero Tryd.prog 49 [.slice none 0 0, .slice none 0 0] := ⟨zero_of (by kernel_rfl)⟩
theorem st49 : StT Tryd.prog 49 [(0, 1), (1, 1)] [.slice none 0 0, .slice none 0 0] := ⟨⟨_, Tryd.underlying49, fun _ => by kernel_rfl, z49⟩⟩
theorem ty27 : Ty Tryd.prog 27 false 1 := ⟨⟨_, Tryd.underlying27, rfl⟩, by kernel_rfl⟩
theorem ty49 : Ty Tryd.prog 49 true 2 := ⟨⟨_, Tryd.underlying49, rfl⟩, by kernel_rfl⟩
end
open Go.RowKit

def comF (c : Nat) (ms : List Nat) (l : List Nat) : Nat := l.foldl (fun o i => if i < ms.length then o &&& rowM ms (i : Int) else o) (2 ^ c - 1)
def havF (c : Nat) (ms : List Nat) (l : List Nat) : Nat := l.foldl (fun o j => if j < c then o &&& colM c ms (j : Int) else o) (2 ^ ms.length - 1)
theorem comF_succ (c : Nat) (ms l : List Nat) (i : Nat) (h : i < l.length) : comF c ms (l.take (i + 1)) = if l[i] < ms.length then comF c ms (l.take i) &&& rowM ms (l[i] : Int) else comF c ms (l.take i) := by
  unfold comF
  rw [List.take_succ_eq_append_getElem h, List.foldl_append]
  rfl
theorem havF_succ (c : Nat) (ms l : List Nat) (i : Nat) (h : i < l.length) : havF c ms (l.take (i + 1)) = if l[i] < c then havF c ms (l.take i) &&& colM c ms (l[i] : Int) else havF c ms (l.take i) := by
  unfold havF
  rw [List.take_succ_eq_append_getElem h, List.foldl_append]
  rfl
/-- The columns that all of the rows have. -/
def com (c : Nat) (ms : List Nat) (rows : Nat) : Nat := comF c ms (mem64 rows)
/-- The rows that have all of the columns. -/
def hav (c : Nat) (ms : List Nat) (cols : Nat) : Nat := havF c ms (mem64 cols)
def clo (c : Nat) (ms : List Nat) (cols : Nat) : Nat := com c ms (hav c ms cols)

theorem common_spec {X : PMap} (hT : Tab X) {v s : Value} {c : Nat} {ms : List Nat} {rows : Nat} (h : MatR X v c ms) (hs : SetR X s rows) : Spec Tryd.prog 87 [v, s] X fun u X' => SetR X' u (com c ms rows) := by
  have hc : c < 64 := by obtain ⟨_, _, _, _, _, _, _, _, _, h⟩ := h; exact h
  obtain ⟨bm, rfl⟩ : ∃ b, v = .pointer (some ⟨b, 0, none⟩) := by obtain ⟨b, _, _, _, h, _⟩ := h; exact ⟨b, h⟩
  obtain ⟨A, l, cp, rfl⟩ := hs.form
  refine Spec.enter Tryd.func87 rfl Tryd.ntmps87 rfl ?_
  intro w0 hw0
  refine T.seq ?_
  refine T.region ?_
  refine SL.x (op_box rfl) rfl rfl ?_
  rintro _ _ _ ⟨B2, rfl, rfl, rfl⟩
  refine SL.x (op_box rfl) rfl rfl ?_
  rintro _ _ _ ⟨B3, rfl, rfl, rfl⟩
  refine SL.x (op_alloc z47) rfl rfl ?_
  rintro _ _ _ ⟨B4, rfl, rfl, rfl⟩
  refine SL.nil ?_
  refine T.seq ?_
  refine T.region ?_
  first | refine SL.y (op_load ty27 rfl (by repeat (first | exact AtO.here | apply AtO.there)) rfl) rfl rfl ?_ | refine SL.y (op_loadX ty27 rfl (by assumption) rfl) rfl rfl ?_
  -- op
  refine SL.x (op_callF en45 (vs := [_]) rfl (columns_spec h)) rfl rfl ?_
  rintro _ _ X1 ⟨rfl, hX1, rfl⟩
  -- op
  refine SL.x (op_callF en74 (vs := [_]) rfl (below_spec c hc)) rfl rfl ?_
  rintro _ _ X2 ⟨rfl, hX2, hS2⟩
  obtain ⟨A2, l2, c2, rfl⟩ := hS2.form
  refine SL.x (op_alloc z47) rfl rfl ?_
  rintro _ _ _ ⟨B5, rfl, rfl, rfl⟩
  refine SL.x (op_store ty47 rfl rfl (by repeat (first | exact AtO.here | apply AtO.there)) rfl rfl rfl) rfl rfl ?_
  rintro _ _ _ ⟨rfl, rfl⟩
  refine SL.nil ?_
  refine T.seq ?_
  refine T.seq ?_
  refine T.region ?_
  first | refine SL.y (op_load ty47 rfl (by repeat (first | exact AtO.here | apply AtO.there)) rfl) rfl rfl ?_ | refine SL.y (op_loadX ty47 rfl (by assumption) rfl) rfl rfl ?_
  -- op
  refine SL.x (op_callF en76 (vs := [_]) rfl (all_spec)) rfl rfl ?_
  rintro _ _ X3 ⟨rfl, hX3, B11, rfl, hB11⟩
  have hX03 := (hX1.trans' hX2).trans' hX3
  refine SL.nil ?_
  refine T.block ?_
  -- rangeFunc live [2, 4, 5, 11]
  refine T.rangeFunc (xs := (ints (mem64 rows))) rfl en93 rfl rfl (all_seq (hT.mono hX03) (hs.mono hX03) hB11) (fun i own' X' => X3.le X' ∧ ∃ A' l' c', SetR X' (.agg #[.slice A' l' c']) (comF c ms ((mem64 rows).take i)) ∧ own' = [⟨B5, [.slice A' l' c'], 47, 1⟩, ⟨B4, [.slice none 0 0], 47, 1⟩, ⟨B3, [.slice A l cp], 47, 1⟩, ⟨B2, [.pointer (some ⟨bm, 0, none⟩)], 27, 1⟩]) ⟨PMap.le_refl _, _, _, _, hS2.mono hX3, rfl⟩ (fun i own' X' h => h.1) ?_ ?_
  · rintro i x _ X4 l' r D hx ⟨hX4, A3, l3, c3, hS3, rfl⟩
    obtain ⟨hi, rfl⟩ := ints_some hx
    have hX04 := hX03.trans' hX4
    by_cases hlt : (mem64 rows)[i] < ms.length
    · skip
      refine T.block ?_
      refine T.seq ?_
      refine T.region ?_
      refine SL.y (op_move rfl) rfl rfl ?_
      first | refine SL.y (op_load ty27 rfl (by repeat (first | exact AtO.here | apply AtO.there)) rfl) rfl rfl ?_ | refine SL.y (op_loadX ty27 rfl (by assumption) rfl) rfl rfl ?_
      -- op
      refine SL.x (op_callF en44 (vs := [_]) rfl (rows_spec (h.mono hX04))) rfl rfl ?_
      rintro _ _ X5 ⟨rfl, hX5, rfl⟩
      first | refine SL.y (op_lssT rfl rfl (by omega)) rfl rfl ?_ | refine SL.y (op_lssF rfl rfl (by omega)) rfl rfl ?_ | refine SL.y (op_lss rfl rfl) rfl rfl ?_
      refine SL.nil ?_
      refine T.condT rfl ?_
      refine T.draw (by kernel_rfl) 5 [.t 0, .t 1, .t 2, .r 3, .r 4] (by kernel_rfl) ?_
      first | refine SD.take rfl panicRound (op_load ty47 rfl (by repeat (first | exact AtO.here | apply AtO.there)) rfl) rfl rfl ?_ | refine SD.take rfl panicRound (op_loadX ty47 rfl (by assumption) rfl) rfl rfl ?_
      first | refine SD.take rfl panicRound (op_load ty27 rfl (by repeat (first | exact AtO.here | apply AtO.there)) rfl) rfl rfl ?_ | refine SD.take rfl panicRound (op_loadX ty27 rfl (by assumption) rfl) rfl rfl ?_
      refine SD.take rfl panicRound (op_move rfl) rfl rfl ?_
      -- op
      refine SD.run rfl (op_callF en67 (vs := [_, _]) rfl (row_spec ((h.mono hX04).mono hX5) ((mem64 rows)[i] : Nat))) rfl rfl ?_
      rintro _ _ X6 ⟨rfl, hX6, hS6⟩
      -- op
      refine SD.run rfl (op_callF en61 (vs := [_, _]) rfl (and_spec ((hS3.mono hX5).mono hX6) hS6)) rfl rfl ?_
      rintro _ _ X7 ⟨rfl, hX7, hS7⟩
      refine SD.nil ?_
      show SL _ _ _ _ _ _ _ [_] _ _ _
      obtain ⟨A7, l7, c7, rfl⟩ := hS7.form
      refine SL.x (op_store ty47 rfl rfl (by repeat (first | exact AtO.here | apply AtO.there)) rfl rfl rfl) rfl rfl ?_
      rintro _ _ _ ⟨rfl, rfl⟩
      refine SL.nil ?_
      refine T.blk ?_
      -- end
      exact T.roundEnd ⟨((hX4.trans' hX5).trans' hX6).trans' hX7, A7, l7, c7, by rw [comF_succ _ _ _ _ hi, if_pos hlt]; exact hS7, rfl⟩
    · refine T.block ?_
      refine T.seq ?_
      refine T.region ?_
      refine SL.y (op_move rfl) rfl rfl ?_
      first | refine SL.y (op_load ty27 rfl (by repeat (first | exact AtO.here | apply AtO.there)) rfl) rfl rfl ?_ | refine SL.y (op_loadX ty27 rfl (by assumption) rfl) rfl rfl ?_
      -- op
      refine SL.x (op_callF en44 (vs := [_]) rfl (rows_spec (h.mono hX04))) rfl rfl ?_
      rintro _ _ X5 ⟨rfl, hX5, rfl⟩
      first | refine SL.y (op_lssT rfl rfl (by omega)) rfl rfl ?_ | refine SL.y (op_lssF rfl rfl (by omega)) rfl rfl ?_ | refine SL.y (op_lss rfl rfl) rfl rfl ?_
      refine SL.nil ?_
      refine T.condF rfl ?_
      refine T.skip ?_
      refine T.blk ?_
      -- end
      exact T.roundEnd ⟨hX4.trans' hX5, A3, l3, c3, by rw [comF_succ _ _ _ _ hi, if_neg hlt]; exact hS3.mono hX5, rfl⟩
  · rintro D _ X4 ⟨hX4, A3, l3, c3, hS3, rfl⟩
    refine T.blk ?_
    refine T.seq ?_
    refine T.region ?_
    first | refine SL.y (op_load ty47 rfl (by repeat (first | exact AtO.here | apply AtO.there)) rfl) rfl rfl ?_ | refine SL.y (op_loadX ty47 rfl (by assumption) rfl) rfl rfl ?_
    refine SL.x (op_store ty47 rfl rfl (by repeat (first | exact AtO.here | apply AtO.there)) rfl rfl rfl) rfl rfl ?_
    rintro _ _ _ ⟨rfl, rfl⟩
    refine SL.nil ?_
    -- ret
    refine T.ret1 rfl (ResIs.cell rfl ty47 (by repeat (first | exact AtO.here | apply AtO.there)) rfl) ?_
    rw [show (ints (mem64 rows)).length = (mem64 rows).length by simp [ints], List.take_length] at hS3
    exact hS3

theorem having_spec {X : PMap} (hT : Tab X) {v s : Value} {c : Nat} {ms : List Nat} {cols : Nat} (h : MatR X v c ms) (hs : SetR X s cols) : Spec Tryd.prog 66 [v, s] X fun u X' => SetR X' u (hav c ms cols) := by
  have hr : ms.length < 64 := by obtain ⟨_, _, _, _, _, _, _, _, h, _⟩ := h; exact h
  obtain ⟨bm, rfl⟩ : ∃ b, v = .pointer (some ⟨b, 0, none⟩) := by obtain ⟨b, _, _, _, h, _⟩ := h; exact ⟨b, h⟩
  obtain ⟨A, l, cp, rfl⟩ := hs.form
  refine Spec.enter Tryd.func66 rfl Tryd.ntmps66 rfl ?_
  intro w0 hw0
  refine T.seq ?_
  refine T.region ?_
  refine SL.x (op_box rfl) rfl rfl ?_
  rintro _ _ _ ⟨B2, rfl, rfl, rfl⟩
  refine SL.x (op_box rfl) rfl rfl ?_
  rintro _ _ _ ⟨B3, rfl, rfl, rfl⟩
  refine SL.x (op_alloc z47) rfl rfl ?_
  rintro _ _ _ ⟨B4, rfl, rfl, rfl⟩
  refine SL.nil ?_
  refine T.seq ?_
  refine T.region ?_
  first | refine SL.y (op_load ty27 rfl (by repeat (first | exact AtO.here | apply AtO.there)) rfl) rfl rfl ?_ | refine SL.y (op_loadX ty27 rfl (by assumption) rfl) rfl rfl ?_
  -- op
  refine SL.x (op_callF en44 (vs := [_]) rfl (rows_spec h)) rfl rfl ?_
  rintro _ _ X1 ⟨rfl, hX1, rfl⟩
  -- op
  refine SL.x (op_callF en74 (vs := [_]) rfl (below_spec ms.length hr)) rfl rfl ?_
  rintro _ _ X2 ⟨rfl, hX2, hS2⟩
  obtain ⟨A2, l2, c2, rfl⟩ := hS2.form
  refine SL.x (op_alloc z47) rfl rfl ?_
  rintro _ _ _ ⟨B5, rfl, rfl, rfl⟩
  refine SL.x (op_store ty47 rfl rfl (by repeat (first | exact AtO.here | apply AtO.there)) rfl rfl rfl) rfl rfl ?_
  rintro _ _ _ ⟨rfl, rfl⟩
  refine SL.nil ?_
  refine T.seq ?_
  refine T.seq ?_
  refine T.region ?_
  first | refine SL.y (op_load ty47 rfl (by repeat (first | exact AtO.here | apply AtO.there)) rfl) rfl rfl ?_ | refine SL.y (op_loadX ty47 rfl (by assumption) rfl) rfl rfl ?_
  -- op
  refine SL.x (op_callF en76 (vs := [_]) rfl (all_spec)) rfl rfl ?_
  rintro _ _ X3 ⟨rfl, hX3, B11, rfl, hB11⟩
  have hX03 := (hX1.trans' hX2).trans' hX3
  refine SL.nil ?_
  refine T.block ?_
  -- rangeFunc live [2, 4, 5, 11]
  refine T.rangeFunc (xs := (ints (mem64 cols))) rfl en93 rfl rfl (all_seq (hT.mono hX03) (hs.mono hX03) hB11) (fun i own' X' => X3.le X' ∧ ∃ A' l' c', SetR X' (.agg #[.slice A' l' c']) (havF c ms ((mem64 cols).take i)) ∧ own' = [⟨B5, [.slice A' l' c'], 47, 1⟩, ⟨B4, [.slice none 0 0], 47, 1⟩, ⟨B3, [.slice A l cp], 47, 1⟩, ⟨B2, [.pointer (some ⟨bm, 0, none⟩)], 27, 1⟩]) ⟨PMap.le_refl _, _, _, _, hS2.mono hX3, rfl⟩ (fun i own' X' h => h.1) ?_ ?_
  · rintro i x _ X4 l' r D hx ⟨hX4, A3, l3, c3, hS3, rfl⟩
    obtain ⟨hi, rfl⟩ := ints_some hx
    have hX04 := hX03.trans' hX4
    by_cases hlt : (mem64 cols)[i] < c
    · skip
      refine T.block ?_
      refine T.seq ?_
      refine T.region ?_
      refine SL.y (op_move rfl) rfl rfl ?_
      first | refine SL.y (op_load ty27 rfl (by repeat (first | exact AtO.here | apply AtO.there)) rfl) rfl rfl ?_ | refine SL.y (op_loadX ty27 rfl (by assumption) rfl) rfl rfl ?_
      -- op
      refine SL.x (op_callF en45 (vs := [_]) rfl (columns_spec (h.mono hX04))) rfl rfl ?_
      rintro _ _ X5 ⟨rfl, hX5, rfl⟩
      first | refine SL.y (op_lssT rfl rfl (by omega)) rfl rfl ?_ | refine SL.y (op_lssF rfl rfl (by omega)) rfl rfl ?_ | refine SL.y (op_lss rfl rfl) rfl rfl ?_
      refine SL.nil ?_
      refine T.condT rfl ?_
      refine T.draw (by kernel_rfl) 5 [.t 0, .t 1, .t 2, .r 3, .r 4] (by kernel_rfl) ?_
      first | refine SD.take rfl panicRound (op_load ty47 rfl (by repeat (first | exact AtO.here | apply AtO.there)) rfl) rfl rfl ?_ | refine SD.take rfl panicRound (op_loadX ty47 rfl (by assumption) rfl) rfl rfl ?_
      first | refine SD.take rfl panicRound (op_load ty27 rfl (by repeat (first | exact AtO.here | apply AtO.there)) rfl) rfl rfl ?_ | refine SD.take rfl panicRound (op_loadX ty27 rfl (by assumption) rfl) rfl rfl ?_
      refine SD.take rfl panicRound (op_move rfl) rfl rfl ?_
      -- op
      refine SD.run rfl (op_callF en68 (vs := [_, _]) rfl (column_spec ((h.mono hX04).mono hX5) ((mem64 cols)[i] : Nat))) rfl rfl ?_
      rintro _ _ X6 ⟨rfl, hX6, hS6⟩
      -- op
      refine SD.run rfl (op_callF en61 (vs := [_, _]) rfl (and_spec ((hS3.mono hX5).mono hX6) hS6)) rfl rfl ?_
      rintro _ _ X7 ⟨rfl, hX7, hS7⟩
      refine SD.nil ?_
      show SL _ _ _ _ _ _ _ [_] _ _ _
      obtain ⟨A7, l7, c7, rfl⟩ := hS7.form
      refine SL.x (op_store ty47 rfl rfl (by repeat (first | exact AtO.here | apply AtO.there)) rfl rfl rfl) rfl rfl ?_
      rintro _ _ _ ⟨rfl, rfl⟩
      refine SL.nil ?_
      refine T.blk ?_
      -- end
      exact T.roundEnd ⟨((hX4.trans' hX5).trans' hX6).trans' hX7, A7, l7, c7, by rw [havF_succ _ _ _ _ hi, if_pos hlt]; exact hS7, rfl⟩
    · refine T.block ?_
      refine T.seq ?_
      refine T.region ?_
      refine SL.y (op_move rfl) rfl rfl ?_
      first | refine SL.y (op_load ty27 rfl (by repeat (first | exact AtO.here | apply AtO.there)) rfl) rfl rfl ?_ | refine SL.y (op_loadX ty27 rfl (by assumption) rfl) rfl rfl ?_
      -- op
      refine SL.x (op_callF en45 (vs := [_]) rfl (columns_spec (h.mono hX04))) rfl rfl ?_
      rintro _ _ X5 ⟨rfl, hX5, rfl⟩
      first | refine SL.y (op_lssT rfl rfl (by omega)) rfl rfl ?_ | refine SL.y (op_lssF rfl rfl (by omega)) rfl rfl ?_ | refine SL.y (op_lss rfl rfl) rfl rfl ?_
      refine SL.nil ?_
      refine T.condF rfl ?_
      refine T.skip ?_
      refine T.blk ?_
      -- end
      exact T.roundEnd ⟨hX4.trans' hX5, A3, l3, c3, by rw [havF_succ _ _ _ _ hi, if_neg hlt]; exact hS3.mono hX5, rfl⟩
  · rintro D _ X4 ⟨hX4, A3, l3, c3, hS3, rfl⟩
    refine T.blk ?_
    refine T.seq ?_
    refine T.region ?_
    first | refine SL.y (op_load ty47 rfl (by repeat (first | exact AtO.here | apply AtO.there)) rfl) rfl rfl ?_ | refine SL.y (op_loadX ty47 rfl (by assumption) rfl) rfl rfl ?_
    refine SL.x (op_store ty47 rfl rfl (by repeat (first | exact AtO.here | apply AtO.there)) rfl rfl rfl) rfl rfl ?_
    rintro _ _ _ ⟨rfl, rfl⟩
    refine SL.nil ?_
    -- ret
    refine T.ret1 rfl (ResIs.cell rfl ty47 (by repeat (first | exact AtO.here | apply AtO.there)) rfl) ?_
    rw [show (ints (mem64 cols)).length = (mem64 cols).length by simp [ints], List.take_length] at hS3
    exact hS3

theorem close_spec {X : PMap} (hT : Tab X) {v s : Value} {c : Nat} {ms : List Nat} {cols : Nat} (h : MatR X v c ms) (hs : SetR X s cols) : Spec Tryd.prog 58 [v, s] X fun u X' => SetR X' u (clo c ms cols) := by
  obtain ⟨A, l, cp, rfl⟩ := hs.form
  refine Spec.enter Tryd.func58 rfl Tryd.ntmps58 rfl ?_
  intro w0 hw0
  refine T.seq ?_
  refine T.region ?_
  refine SL.x (op_box rfl) rfl rfl ?_
  rintro _ _ _ ⟨B3, rfl, rfl, rfl⟩
  refine SL.x (op_alloc z47) rfl rfl ?_
  rintro _ _ _ ⟨B4, rfl, rfl, rfl⟩
  refine SL.nil ?_
  refine T.seq ?_
  refine T.region ?_
  refine SL.y (op_move rfl) rfl rfl ?_
  refine SL.y (op_move rfl) rfl rfl ?_
  first | refine SL.y (op_load ty47 rfl (by repeat (first | exact AtO.here | apply AtO.there)) rfl) rfl rfl ?_ | refine SL.y (op_loadX ty47 rfl (by assumption) rfl) rfl rfl ?_
  -- op
  refine SL.x (op_callF en66 (vs := [_, _]) rfl (having_spec hT h hs)) rfl rfl ?_
  rintro _ _ X1 ⟨rfl, hX1, hS1⟩
  -- op
  refine SL.x (op_callF en87 (vs := [_, _]) rfl (common_spec (hT.mono hX1) (h.mono hX1) hS1)) rfl rfl ?_
  rintro _ _ X2 ⟨rfl, hX2, hS2⟩
  obtain ⟨A2, l2, c2, rfl⟩ := hS2.form
  refine SL.x (op_store ty47 rfl rfl (by repeat (first | exact AtO.here | apply AtO.there)) rfl rfl rfl) rfl rfl ?_
  rintro _ _ _ ⟨rfl, rfl⟩
  refine SL.nil ?_
  -- ret
  refine T.ret1 rfl (ResIs.cell rfl ty47 (by repeat (first | exact AtO.here | apply AtO.there)) rfl) ?_
  exact hS2
/-- A concept's two sets. -/
def ConR (X : PMap) (v : Value) (rows cols : Nat) : Prop := ∃ x y, v = .agg #[x, y] ∧ SetR X (.agg #[x]) rows ∧ SetR X (.agg #[y]) cols
theorem ConR.mono {X X' : PMap} {v : Value} {r c : Nat} (h : ConR X v r c) (hX : X.le X') : ConR X' v r c := let ⟨x, y, h1, h2, h3⟩ := h; ⟨x, y, h1, h2.mono hX, h3.mono hX⟩
theorem cof_spec {X : PMap} (hT : Tab X) {v s : Value} {c : Nat} {ms : List Nat} {cols : Nat} (h : MatR X v c ms) (hs : SetR X s cols) : Spec Tryd.prog 36 [v, s] X fun u X' => ConR X' u (hav c ms cols) (clo c ms cols) := by
  obtain ⟨A, l, cp, rfl⟩ := hs.form
  refine Spec.enter Tryd.func36 rfl Tryd.ntmps36 rfl ?_
  intro w0 hw0
  refine T.seq ?_
  refine T.region ?_
  refine SL.x (op_box rfl) rfl rfl ?_
  rintro _ _ _ ⟨B3, rfl, rfl, rfl⟩
  refine SL.x (op_alloc z49) rfl rfl ?_
  rintro _ _ _ ⟨B4, rfl, rfl, rfl⟩
  refine SL.nil ?_
  refine T.seq ?_
  refine T.draw (by kernel_rfl) 7 [.t 0, .t 1, .t 3, .t 4, .r 2, .r 5, .t 6] (by kernel_rfl) ?_
  refine SD.take rfl panicBody (op_move rfl) rfl rfl ?_
  first | refine SD.take rfl panicBody (op_load ty47 rfl (by repeat (first | exact AtO.here | apply AtO.there)) rfl) rfl rfl ?_ | refine SD.take rfl panicBody (op_loadX ty47 rfl (by assumption) rfl) rfl rfl ?_
  refine SD.take rfl panicBody (op_move rfl) rfl rfl ?_
  first | refine SD.take rfl panicBody (op_load ty47 rfl (by repeat (first | exact AtO.here | apply AtO.there)) rfl) rfl rfl ?_ | refine SD.take rfl panicBody (op_loadX ty47 rfl (by assumption) rfl) rfl rfl ?_
  -- op
  refine SD.run rfl (op_callF en66 (vs := [_, _]) rfl (having_spec hT h hs)) rfl rfl ?_
  rintro _ _ X1 ⟨rfl, hX1, hS1⟩
  obtain ⟨A1, l1, c1, rfl⟩ := hS1.form
  -- op
  refine SD.run rfl (op_callF en58 (vs := [_, _]) rfl (close_spec (hT.mono hX1) (h.mono hX1) (hs.mono hX1))) rfl rfl ?_
  rintro _ _ X2 ⟨rfl, hX2, hS2⟩
  obtain ⟨A2, l2, c2, rfl⟩ := hS2.form
  refine SD.take rfl panicBody (op_build st49 (qs := [(0, _), (1, _)]) rfl rfl) rfl rfl ?_
  refine SD.nil ?_
  show SL _ _ _ _ _ _ _ [_] _ _ _
  refine SL.x (op_store ty49 rfl rfl (by repeat (first | exact AtO.here | apply AtO.there)) rfl rfl rfl) rfl rfl ?_
  rintro _ _ _ ⟨rfl, rfl⟩
  refine SL.nil ?_
  -- ret
  refine T.ret1 rfl (ResIs.cell rfl ty49 (by repeat (first | exact AtO.here | apply AtO.there)) rfl) ?_
  exact ⟨_, _, rfl, hS1.mono hX2, hS2⟩
end Go.Proofs.YtoheffglppbcbaaDoor
