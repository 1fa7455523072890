/- What the law's proof rests on: the engine, a small separation logic over the kit's walk, and contracts of the functions that the law reaches. Part 4. -/
import Derived.Laws.IdiomStrings
import Derived.ChangeMaps5
import Derived.Laws.Externs
import Derived.MapKept
import Derived.Test.YtnabbnhefjfegaaGreatDoorPart1
import Derived.Test.YtnabbnhefjfegaaGreatDoorPart2
import Derived.Test.YtnabbnhefjfegaaGreatDoorPart3
namespace Go.Proofs.YtnabbnhefjfegaaGreatDoor
section
set_option maxRecDepth 100000
theorem en25 : Enters Tryz.prog 25 := enters_mk Tryz.func25 (by kernel_rfl) rfl
theorem fa82_0 : FAdr Tryz.prog 82 0 0 := fadr_mk Tryz.underlying82 rfl rfl (by kernel_rfl)
theorem fa82_1 : FAdr Tryz.prog 82 1 1 := fadr_mk Tryz.underlying82 rfl rfl (by kernel_rfl)
theorem fa82_2 : FAdr Tryz.prog 82 2 2 := fadr_mk Tryz.underlying82 rfl rfl (by kernel_rfl)
theorem fa82_3 : FAdr Tryz.prog 82 3 3 := fadr_mk Tryz.underlying82 rfl rfl (by kernel_rfl)
theorem ty4 : Ty Tryz.prog 4 false 1 := ⟨⟨_, Tryz.underlying4, rfl⟩, by kernel_rfl⟩
theorem ty80 : Ty Tryz.prog 80 false 1 := ⟨⟨_, Tryz.underlying80, rfl⟩, by kernel_rfl⟩
theorem ty82 : Ty Tryz.prog 82 true 7 := ⟨⟨_, Tryz.underlying82, rfl⟩, by kernel_rfl⟩
theorem z82 : Zero Tryz.prog 82 [.bool false, .int .u8 0, .string ⟨#[]⟩, .int .u8 0, .int .i64 0, .slice none 0 0, .slice none 0 0] := ⟨zero_of (by kernel_rfl)⟩
end
open Go.RowKit
theorem eprint_spec {M : Nat} {X : PMap} (hI : ItoaOk M X) {e : Ex} {r : Row4} (hw : wtE e < 900000) (hn : chkE e = 0 → numE M e) (h : ExR .u8 X e r) : Spec Tryz.prog 27 [.agg #[r.1, r.2.1, r.2.2.1, r.2.2.2]] X fun u _ => u = .string (if chkE e = 0 then textE e else ⟨#[]⟩) := by
  obtain ⟨_, _, _, _, _, _, _, _, rfl⟩ := h.form
  by_cases hc : chkE e = 0
  · have hnode : nodeE e = 0 := by
      unfold chkE at hc
      split at hc
      · cases hc
      · exact hc
    refine Spec.enter Tryz.func27 rfl Tryz.ntmps27 rfl ?_
    intro w0 hw0
    refine T.seq <| T.region <| SL.w (op_box rfl) ?_
    rintro _ _ _ ⟨B1, rfl, rfl, rfl⟩
    refine SL.as rfl <| SL.nil <| T.seq <| T.seq <| T.region <| SL.v (op_load ty40 rfl (by repeat constructor) rfl) ?_
    refine SL.w (op_callF en25 (vs := [_]) rfl (chk_spec (by omega) h)) ?_
    rintro _ _ X1 ⟨rfl, hX1, rfl⟩
    refine SL.v (op_neqF rfl rfl (by omega)) ?_
    refine SL.nil <| T.condF rfl <| T.skip <| T.seq <| T.region <| SL.v (op_load ty40 rfl (by repeat constructor) rfl) ?_
    refine SL.w (op_callF en58 (vs := [_]) rfl (etext_spec _ (hI.mono hX1) (Nat.le_refl _) (by omega) hnode (hn hc) (h.mono hX1))) ?_
    rintro _ _ X2 ⟨rfl, hX2, rfl⟩
    refine SL.as rfl <| SL.nil <| T.ret1 rfl (ResIs.tmp rfl) ?_
    rw [if_pos hc]
  · refine Spec.enter Tryz.func27 rfl Tryz.ntmps27 rfl ?_
    intro w0 hw0
    refine T.seq <| T.region <| SL.w (op_box rfl) ?_
    rintro _ _ _ ⟨B1, rfl, rfl, rfl⟩
    refine SL.as rfl <| SL.nil <| T.seq <| T.seq <| T.region <| SL.v (op_load ty40 rfl (by repeat constructor) rfl) ?_
    refine SL.w (op_callF en25 (vs := [_]) rfl (chk_spec (by omega) h)) ?_
    rintro _ _ X1 ⟨rfl, hX1, rfl⟩
    refine SL.v (op_neqT rfl rfl (by omega)) ?_
    refine SL.nil <| T.condT rfl <| T.seq <| T.region <| SL.as rfl <| SL.nil <| T.ret1 rfl (ResIs.tmp rfl) ?_
    rw [if_neg hc]
structure Con where
  enf : Bool
  kind : Nat
  name : ByteArray
  ex : Ex
abbrev Row7 := Bool × Nat × ByteArray × Row4
def rc7 (r : Row7) : List Value := [.bool r.1, .int .u8 (r.2.1 : Int), .string r.2.2.1, r.2.2.2.1, r.2.2.2.2.1, r.2.2.2.2.2.1, r.2.2.2.2.2.2]
theorem rc7_len (r : Row7) : (rc7 r).length = 7 := rfl
def ConR (X : PMap) (c : Con) (r : Row7) : Prop := r.1 = c.enf ∧ r.2.1 = c.kind ∧ r.2.2.1 = c.name ∧ ExR .u8 X c.ex r.2.2.2
theorem ConR.mono {X X' : PMap} {c : Con} {r : Row7} (h : ConR X c r) (hX : X.le X') : ConR X' c r := ⟨h.1, h.2.1, h.2.2.1, h.2.2.2.mono hX⟩
theorem ConR.form {X : PMap} {c : Con} {r : Row7} (h : ConR X c r) : ∃ (o : Nat) (n : Int) (A B : Option Addr) (l c1 l' c' : Nat), r = (c.enf, c.kind, c.name, .int .u8 (o : Int), .int .i64 n, .slice A l c1, .slice B l' c') := by
  obtain ⟨e, k, s, r4⟩ := r
  obtain ⟨h1, h2, h3, h4⟩ := h
  simp only at h1 h2 h3 h4
  subst h1 h2 h3
  obtain ⟨o, n, A, B, l, c1, l', c', rfl⟩ := h4.form
  exact ⟨_, _, _, _, _, _, _, _, rfl⟩
def ConsR (X : PMap) (v : Value) (cs : List Con) : Prop := ∃ rows : List Row7, RowR rc7 X v rows ∧ rows.length = cs.length ∧ ∀ (i : Nat) (c : Con) (r : Row7), cs[i]? = some c → rows[i]? = some r → ConR X c r
theorem ConsR.mono {X X' : PMap} {v : Value} {cs : List Con} (h : ConsR X v cs) (hX : X.le X') : ConsR X' v cs :=
  let ⟨rows, h1, h2, h3⟩ := h
  ⟨rows, h1.mono hX, h2, fun i c r a b => (h3 i c r a b).mono hX⟩
/-- The error of a constraint behind these names. -/
noncomputable def errC (pre : List ByteArray) (c : Con) : Int := if c.kind < 1 ∨ 3 < c.kind then 1 else if ¬validS c.name then 9 else if c.name ∈ pre then 5 else chkE c.ex
noncomputable def chkCs (pre : List ByteArray) : List Con → Int
  | [] => 0
  | c :: cs => if errC pre c ≠ 0 then errC pre c else chkCs (pre ++ [c.name]) cs
def modeB (c : Con) : ByteArray := if c.enf then ⟨#[101, 110, 102, 111, 114, 99, 101, 32]⟩ else ⟨#[100, 101, 99, 108, 97, 114, 101, 32]⟩
def kinds3 : List ByteArray := [⟨#[115, 116, 97, 116, 105, 99, 32]⟩, ⟨#[100, 121, 110, 97, 109, 105, 99, 32]⟩, ⟨#[117, 115, 101, 114, 115, 32]⟩]
def kindB (k : Nat) : ByteArray := (kinds3[k - 1]?).getD ⟨#[]⟩
def lineB (c : Con) : ByteArray := modeB c ++ kindB c.kind ++ c.name ++ ⟨#[58, 32]⟩ ++ textE c.ex ++ ⟨#[59, 10]⟩
def linesL (cs : List Con) : List UInt8 := (cs.map fun c => (lineB c).data.toList).flatten
theorem linesL_snoc (cs : List Con) (c : Con) : linesL (cs ++ [c]) = linesL cs ++ (lineB c).data.toList := by simp [linesL]
noncomputable def chkAll (cs : List Con) : Int := if 32 < cs.length then 3 else if chkCs [] cs ≠ 0 then chkCs [] cs else if 8000 < (linesL cs).length then 3 else 0
theorem chkCs_app (b : List Con) : ∀ (a : List Con) (pre : List ByteArray), chkCs pre (a ++ b) = if chkCs pre a ≠ 0 then chkCs pre a else chkCs (pre ++ a.map (·.name)) b
  | [], pre => by simp [chkCs]
  | c :: a, pre => by
    rw [List.cons_append, chkCs, chkCs, chkCs_app b a]
    by_cases h : errC pre c ≠ 0
    · simp [h]
    · simp only [h, if_false, List.map_cons, List.append_assoc, List.cons_append, List.nil_append]
theorem errC_ok {pre : List ByteArray} {c : Con} (h : errC pre c = 0) : 1 ≤ c.kind ∧ c.kind ≤ 3 ∧ validS c.name ∧ c.name ∉ pre ∧ chkE c.ex = 0 := by
  unfold errC at h
  by_cases h1 : c.kind < 1 ∨ 3 < c.kind
  · rw [if_pos h1] at h; cases h
  · rw [if_neg h1] at h
    by_cases h2 : ¬validS c.name
    · rw [if_pos h2] at h; cases h
    · rw [if_neg h2] at h
      by_cases h3 : c.name ∈ pre
      · rw [if_pos h3] at h; cases h
      · rw [if_neg h3] at h
        exact ⟨by omega, by omega, Classical.not_not.1 h2, h3, h⟩
theorem chkE_node {e : Ex} (h : chkE e = 0) : nodeE e = 0 := by
  unfold chkE at h
  split at h
  · cases h
  · exact h
theorem chkCs_mem : ∀ {cs : List Con} {pre : List ByteArray}, chkCs pre cs = 0 → ∀ c ∈ cs, 1 ≤ c.kind ∧ c.kind ≤ 3 ∧ validS c.name ∧ chkE c.ex = 0
  | d :: cs, pre, h, c, hm => by
    rw [chkCs] at h
    by_cases he : errC pre d ≠ 0
    · rw [if_pos he] at h; exact absurd h he
    · rw [if_neg he] at h
      rcases List.mem_cons.1 hm with rfl | hm
      · obtain ⟨a, b, c', _, d'⟩ := errC_ok (Decidable.not_not.1 he)
        exact ⟨a, b, c', d'⟩
      · exact chkCs_mem h c hm
theorem kind_at {k : Nat} (h1 : 1 ≤ k) (h3 : k ≤ 3) : kinds3[k - 1]? = some (kindB k) := by
  rw [kindB, List.getElem?_eq_getElem (show k - 1 < kinds3.length by show k - 1 < 3; omega)]; rfl
theorem kindB_size (k : Nat) : (kindB k).size ≤ 8 := by
  unfold kindB
  cases h : kinds3[k - 1]? with
  | none => exact Nat.zero_le _
  | some s =>
    have := List.mem_of_getElem? h
    simp only [kinds3, List.mem_cons, List.not_mem_nil, or_false] at this
    rcases this with rfl | rfl | rfl <;> decide
theorem modeB_size (c : Con) : (modeB c).size = 8 := by unfold modeB; split <;> rfl
theorem lineB_size {c : Con} (hv : c.name.size ≤ 12) : 1 ≤ (lineB c).size ∧ (lineB c).size ≤ 40 * wtE c.ex + 40 := by
  have h1 := text_size c.ex
  have h2 := kindB_size c.kind
  have h3 := modeB_size c
  have k1 : (⟨#[58, 32]⟩ : ByteArray).size = 2 := rfl
  have k2 : (⟨#[59, 10]⟩ : ByteArray).size = 2 := rfl
  simp only [lineB, ByteArray.size_append]
  omega
theorem wrapK {k : Nat} (h1 : 1 ≤ k) (h3 : k ≤ 3) : IntKind.u8.wrap ((k : Int) - 1) = ((k - 1 : Nat) : Int) := by
  have := wrap_u8 (p := (k : Int) - 1) (by omega) (by omega)
  rw [this]; omega
def wtC (cs : List Con) : Nat := (cs.map fun c => wtE c.ex).sum
theorem wtC_mem {c : Con} : ∀ {cs : List Con}, c ∈ cs → wtE c.ex ≤ wtC cs
  | d :: cs, h => by
    simp only [wtC, List.map_cons, List.sum_cons]
    rcases List.mem_cons.1 h with rfl | h
    · omega
    · have := wtC_mem h; simp only [wtC] at this; omega
theorem linesL_len : ∀ {cs : List Con}, (∀ c ∈ cs, c.name.size ≤ 12) → (linesL cs).length ≤ 40 * wtC cs + 40 * cs.length
  | [], _ => by simp [linesL]
  | c :: cs, h => by
    have h1 := linesL_len (cs := cs) fun d hd => h d (by simp [hd])
    have h2 := (lineB_size (h c (by simp))).2
    simp only [linesL, wtC, List.map_cons, List.flatten_cons, List.sum_cons, List.length_append, List.length_cons] at h1 ⊢
    have e : (lineB c).data.toList.length = (lineB c).size := by simp
    omega
theorem wtC_take_le : ∀ (cs : List Con) (i : Nat), wtC (cs.take i) ≤ wtC cs
  | [], _ => by simp
  | _ :: _, 0 => by simp [wtC]
  | c :: cs, i + 1 => by
    have := wtC_take_le cs i
    simp only [wtC, List.take_succ_cons, List.map_cons, List.sum_cons] at this ⊢; omega
theorem perm2a {a b : Ow} {L : Own} : (a :: b :: (L ++ [])).Perm (L ++ ([] ++ [a, b])) := by
  rw [List.append_nil, List.nil_append]
  exact List.perm_append_comm (l₁ := [a, b])
theorem lines_spec {M : Nat} {X : PMap} (hI : ItoaOk M X) {v : Value} {cs : List Con} (h : ConsR X v cs) (hl : cs.length ≤ 40) (h0 : 0 < cs.length) (hw : wtC cs < 15000000) (hww : ∀ c ∈ cs, wtE c.ex < 900000) (hn : ∀ c ∈ cs, numE M c.ex)
    (hok : ∀ c ∈ cs, 1 ≤ c.kind ∧ c.kind ≤ 3 ∧ validS c.name ∧ chkE c.ex = 0) : Spec Tryz.prog 37 [v] X fun u _ => u = .string ⟨(linesL cs).toArray⟩ := by
  obtain ⟨rows, hr, hrl, hrow⟩ := h
  obtain ⟨A, cp, rfl⟩ := hr.form
  have hvs : ∀ c ∈ cs, c.name.size ≤ 12 := fun c hc => (hok c hc).2.2.1.2.1
  refine Spec.enter Tryz.func37 rfl Tryz.ntmps37 rfl ?_
  intro w0 hw0
  refine T.seq <| T.region <| SL.as rfl <| SL.nil <| T.seq <| T.region <| SL.w (op_alloc z137) ?_
  rintro _ _ _ ⟨B3, rfl, rfl, rfl⟩
  refine SL.nil <| T.seq <| T.seq <| T.region <| SL.mv rfl <| SL.v (op_lenS Tryz.underlying24 rfl) <| SL.v (op_move (v := .int .i64 ((0 : Nat) : Int)) rfl) <| SL.nil <| T.block <| T.loopW (fun m env own X' => ∃ (i : Nat) (p s : Value) (G : Own), m = rows.length - i ∧ i ≤ rows.length ∧ X.le X' ∧ (p = .pointer none ∨ p = .pointer (some ⟨B3, 0, none⟩)) ∧ BufG (linesL (cs.take i)) s G ∧ env = [(3, .pointer (some ⟨B3, 0, none⟩)), (8, .slice A rows.length cp), (9, .int .i64 (rows.length : Int)), (10, .int .i64 (i : Int))] ∧ own = (BldO B3 p s :: G) ++ []) rows.length ⟨0, _, _, [], by simp, by omega, PMap.le_refl _, .inl rfl, GrowS.nil, rfl, rfl⟩ (by repeat (first | exact Sub.nil | refine Sub.cons rfl ?_)) ?_
  rintro m _ _ X1 ⟨i, p, s, G, rfl, hi, hX1, hp, hG, rfl, rfl⟩
  have hlt := linesL_len (cs := cs.take i) fun c hc => hvs c (List.mem_of_mem_take hc)
  have hwt := wtC_take_le cs i
  have hlt2 : (cs.take i).length ≤ 40 := by rw [List.length_take]; omega
  rcases Nat.lt_or_ge i rows.length with hil | hil
  · obtain ⟨r2, hr2⟩ : ∃ r2, rows[i]? = some r2 := ⟨_, List.getElem?_eq_getElem hil⟩
    obtain ⟨c, hc2⟩ : ∃ c, cs[i]? = some c := ⟨_, List.getElem?_eq_getElem (by omega)⟩
    have hmc := List.mem_of_getElem? hc2
    have hrc := hrow i c r2 hc2 hr2
    obtain ⟨q1, q2, q3, q4⟩ := hok c hmc
    obtain ⟨bA, pre, rfl, hbA⟩ := hr.blk (by omega)
    obtain ⟨o8, n8, a8, b8, l8, c8, l9, c9, rfl⟩ := hrc.form
    have hex := hrc.2.2.2
    simp only at hex
    have hts := text_size c.ex
    have hwe := hww c hmc
    have hls := lineB_size (hvs c hmc)
    have hk3 := strsC_at (kind_at q1 q2)
    have hks := kindB_size c.kind
    have hms := modeB_size c
    have hnz := q3.2.1
    have k1 : (⟨#[58, 32]⟩ : ByteArray).size = 2 := rfl
    have k2 : (⟨#[59, 10]⟩ : ByteArray).size = 2 := rfl
    have k3 : (⟨#[101, 110, 102, 111, 114, 99, 101, 32]⟩ : ByteArray).size = 8 := rfl
    have k4 : (⟨#[100, 101, 99, 108, 97, 114, 101, 32]⟩ : ByteArray).size = 8 := rfl
    have htk := take_snoc hc2
    refine T.seq <| T.region <| SL.v (op_lssT rfl rfl (by omega)) ?_
    refine SL.nil <| T.seq <| T.condT rfl <| T.skip <| T.seq <| T.block <| T.seq <| T.region <| SL.v (op_indexN Tryz.underlying24 ty82 rfl rfl (by omega)) ?_
    refine SL.v (op_loadX ty82 rfl (hbA.mono hX1) (row_read rc7_len hr2 (by omega))) ?_
    refine SL.w (op_alloc z82) ?_
    rintro _ _ _ ⟨B5, rfl, rfl, rfl⟩
    refine SL.w (op_store ty82 rfl rfl (by repeat constructor) rfl rfl rfl) ?_
    rintro _ _ _ ⟨rfl, rfl⟩
    refine SL.nil <| T.seq <| T.region <| SL.as rfl <| SL.nil <| T.seq <| T.meet (fun _ env own X' => X1.le X' ∧ env = [(3, .pointer (some ⟨B3, 0, none⟩)), (5, .pointer (some ⟨B5, 0, none⟩)), (6, .string (modeB c)), (8, .slice (some ⟨bA, pre.length, none⟩) rows.length cp), (9, .int .i64 (rows.length : Int)), (10, .int .i64 (i : Int))] ∧ own = ⟨B5, rc7 (c.enf, c.kind, c.name, .int .u8 (o8 : Int), .int .i64 n8, .slice a8 l8 c8, .slice b8 l9 c9), 82, 7⟩ :: ((BldO B3 p s :: G) ++ [])) ?_ ?_
    · cases hce : c.enf with
      | true =>
        have e : modeB c = ⟨#[101, 110, 102, 111, 114, 99, 101, 32]⟩ := by rw [modeB, hce]; rfl
        rw [e]
        refine T.seq <| T.region <| SL.v (op_fieldAddr fa82_0 rfl) <| SL.v (op_load ty4 rfl (by repeat constructor) rfl) ?_
        refine SL.nil <| T.condT rfl <| T.region <| SL.as rfl <| SL.nil ?_
        exact T.backW 0 (by omega) ⟨PMap.le_refl _, rfl, rfl⟩ (by repeat (first | exact Sub.nil | refine Sub.cons rfl ?_))
      | false =>
        have e : modeB c = ⟨#[100, 101, 99, 108, 97, 114, 101, 32]⟩ := by rw [modeB, hce]; rfl
        rw [e]
        refine T.seq <| T.region <| SL.v (op_fieldAddr fa82_0 rfl) <| SL.v (op_load ty4 rfl (by repeat constructor) rfl) ?_
        refine SL.nil <| T.condF rfl <| T.skip ?_
        exact T.backW 0 (by omega) ⟨PMap.le_refl _, rfl, rfl⟩ (by repeat (first | exact Sub.nil | refine Sub.cons rfl ?_))
    rintro _ _ _ X2 ⟨hX2, rfl, rfl⟩
    refine T.seq <| T.region <| SL.w (op_buildSlice Tryz.underlying37 bs9 (qs := [(0, _), (1, _), (2, _)]) rfl rfl rfl rfl rfl) ?_
    rintro _ _ _ ⟨B16, rfl, rfl, rfl⟩
    refine SL.v (op_fieldAddr fa82_1 rfl) <| SL.v (op_load ty80 rfl (by repeat constructor) rfl) ?_
    refine SL.v (op_subW rfl rfl) ?_
    rw [wrapK q1 q2]
    refine SL.v (op_indexN Tryz.underlying37 ty9 rfl rfl (by omega)) ?_
    refine SL.v (op_load ty9 rfl (by repeat constructor) (cread1k' hk3 (by omega))) ?_
    refine SL.as rfl <| SL.nil <| T.drawG (own0 := [_, _]) (by kernel_rfl) 13 [.t 0, .t 1, .t 2, .t 3, .t 4, .t 5, .t 6, .t 7, .t 8, .r 9, .t 10, .t 11, .r 12] (by kernel_rfl) ?_
    refine SD.take rfl panicBody (op_move rfl) rfl rfl ?_
    refine SD.take rfl panicBody (op_move rfl) rfl rfl ?_
    refine SD.take rfl panicBody (op_addStr rfl rfl (by first | omega | (simp only [ByteArray.size_append]; omega))) rfl rfl ?_
    refine SD.take rfl panicBody (op_fieldAddr fa82_2 rfl) rfl rfl ?_
    refine SD.take rfl panicBody (op_load ty9 rfl (by repeat constructor) rfl) rfl rfl ?_
    refine SD.take rfl panicBody (op_addStr rfl rfl (by first | omega | (simp only [ByteArray.size_append]; omega))) rfl rfl ?_
    refine SD.take rfl panicBody (op_addStr rfl rfl (by first | omega | (simp only [ByteArray.size_append]; omega))) rfl rfl ?_
    refine SD.take rfl panicBody (op_fieldAddr fa82_3 rfl) rfl rfl ?_
    refine SD.take rfl panicBody (op_load ty40 rfl (by repeat constructor) rfl) rfl rfl ?_
    refine SD.run rfl (op_callF en58 (vs := [_]) rfl (etext_spec _ ((hI.mono hX1).mono hX2) (Nat.le_refl _) (by omega) (chkE_node q4) (hn c hmc) ((hex.mono hX1).mono hX2))) rfl rfl ?_
    rintro _ _ X3 ⟨rfl, hX3, rfl⟩
    refine SD.take rfl panicBody (op_addStr rfl rfl (by first | omega | (simp only [ByteArray.size_append]; omega))) rfl rfl ?_
    refine SD.take rfl panicBody (op_addStr rfl rfl (by first | omega | (simp only [ByteArray.size_append]; omega))) rfl rfl ?_
    refine SD.perm (perm2a (L := BldO B3 p s :: G)) ?_
    refine SD.runK rfl (op_callM en78 (vs := [_, _]) rfl (writeStr_spec (t := lineB c) hp hG (by omega) (by omega) hls.1) rfl) (by rintro _ _ _ ⟨L', rfl, hX, _⟩; exact ⟨fun p hp => List.mem_append_right _ hp, hX3.trans' hX⟩) rfl rfl ?_
    rintro _ _ X4 ⟨_, rfl, hX4, rfl, s4, G4, rfl, hG4⟩
    refine SD.nil ?_
    show SL _ _ _ _ _ _ _ [] _ _ _
    refine SL.nil <| T.blk <| T.region <| SL.v (op_addN (q := 1) rfl rfl (by omega)) ?_
    refine SL.mv rfl <| SL.nil <| T.less (List.Sublist.append_left (List.nil_sublist _) _) ?_
    rw [← linesL_snoc, ← htk] at hG4
    exact T.backW (rows.length - (i + 1)) (by omega) ⟨i + 1, _, _, _, rfl, by omega, ((hX1.trans' hX2).trans' hX3).trans' hX4, .inr rfl, hG4, rfl, rfl⟩ (by repeat (first | exact Sub.nil | refine Sub.cons rfl ?_))
  · obtain rfl : i = rows.length := by omega
    have e : cs.take rows.length = cs := List.take_of_length_le (by omega)
    rw [e] at hG hlt
    have hne : linesL cs ≠ [] := by
      obtain ⟨c, l, rfl⟩ : ∃ c l, cs = c :: l := by
        cases cs with
        | nil => simp at h0
        | cons c l => exact ⟨c, l, rfl⟩
      intro h
      have := (lineB_size (hvs c (by simp))).1
      have e : (lineB c).data.toList.length = (lineB c).size := by simp
      have h2 := congrArg List.length h
      simp only [linesL, List.map_cons, List.flatten_cons, List.length_append, List.length_nil] at h2
      omega
    refine T.seq <| T.region <| SL.v (op_lssF rfl rfl (by omega)) ?_
    refine SL.nil <| T.seq <| T.condF rfl ?_
    refine T.exit (T.exitCode (T.exitCut (T.exitBlk ?_)))
    refine T.seq <| T.region <| SL.w (op_callM en80 (vs := [_]) rfl (builderString_spec hG hne (by omega)) rfl) ?_
    rintro _ _ X5 ⟨_, rfl, hX5, rfl, rfl⟩
    refine SL.as rfl <| SL.nil <| T.ret1 rfl (ResIs.tmp rfl) ?_
    rfl
end Go.Proofs.YtnabbnhefjfegaaGreatDoor
namespace Go.Proofs.YtnabbnhefjfegaaGreatDoor
open Go.RowKit
section
variable {P : Program} {n : NM} {w0 : Base} {X0 X : PMap} {own : Own} {env : Env}
/-- string(b) of bytes that are known. -/
theorem op_strBytes {src dst e : TypeId} {x : Operand} {a : Addr} {cap : Nat} {l : List UInt8} (hs : P.underlying src = some (.slice e)) (he : P.underlying e = some (.int .u8)) (hd : P.underlying dst = some .string)
    (hx : eev env x = some (.slice (some a) l.length cap)) (hc : ∀ W, Stab own X W → ∀ j (hj : j < l.length), W.cell? (a.add j) = some (.int .u8 (l[j].toNat : Int))) : OpY P n env own X (.convert src dst x) (.string ⟨l.toArray⟩) := by
  intro A W oper hop ha hst
  have hr := run_convert_bytes_back (P := P) W src dst e a cap l hs he hd (hc W hst)
  simp only [execOp, hop, ha.eval hx, Sem.run_bind, Sem.run_pure, Result.andThen_ok, hr]
/-- string([]byte{c}). -/
theorem op_str1 {src dst e ty : TypeId} {x : Operand} {b cap sz j : Nat} {c : UInt8} (hs : P.underlying src = some (.slice e)) (he : P.underlying e = some (.int .u8)) (hd : P.underlying dst = some .string)
    (hx : eev env x = some (.slice (some ⟨b, 0, none⟩) 1 cap)) (ho : AtO own b [.int .u8 (c.toNat : Int)] ty sz j) : OpY P n env own X (.convert src dst x) (.string ⟨#[c]⟩) :=
  op_strBytes (l := [c]) hs he hd hx fun W hst j hj => by
    obtain rfl : j = 0 := by simpa using hj
    exact (hst.own _ ho.mem).cell rfl
end
end Go.Proofs.YtnabbnhefjfegaaGreatDoor
namespace Go.Proofs.YtnabbnhefjfegaaGreatDoor
section
set_option maxRecDepth 100000
theorem bs5 : ∃ i z, Tryz.prog.info? 5 = some i ∧ i.size = 1 ∧ i.zero = some z ∧ z.cells = ([.int .u8 0] : List Value).toArray := bs_of (by kernel_rfl)
theorem en149 : Enters Tryz.prog 149 := enters_mk Tryz.func149 (by kernel_rfl) rfl
theorem en159 : Enters Tryz.prog 159 := enters_mk Tryz.func159 (by kernel_rfl) rfl
theorem en160 : Enters Tryz.prog 160 := enters_mk Tryz.func160 (by kernel_rfl) rfl
theorem en161 : Enters Tryz.prog 161 := enters_mk Tryz.func161 (by kernel_rfl) rfl
theorem en36 : Enters Tryz.prog 36 := enters_mk Tryz.func36 (by kernel_rfl) rfl
end
open Go.RowKit
theorem binds_spec {X : PMap} {op : Nat} : Spec Tryz.prog 161 [.int .i64 (op : Int)] X fun u _ => u = .int .i64 (strN op : Int) := by
  by_cases h1 : op = 10
  · refine Spec.enter Tryz.func161 rfl Tryz.ntmps161 rfl ?_
    intro w0 hw0
    refine T.seq <| T.region <| SL.v (op_assign (v := .int .i64 ((0 : Nat) : Int)) rfl) <| SL.nil <| T.seq <| T.block <| T.seq <| T.region <| SL.mv rfl <| SL.v (op_eqlT rfl rfl (by omega)) ?_
    refine SL.as rfl <| SL.nil <| T.condT rfl <| T.seq <| T.region <| SL.v (op_assign (v := .int .i64 ((1 : Nat) : Int)) rfl) <| SL.nil <| T.ret1 rfl (ResIs.tmp rfl) ?_
    rw [strN, if_pos h1]
  by_cases h2 : op = 9
  · refine Spec.enter Tryz.func161 rfl Tryz.ntmps161 rfl ?_
    intro w0 hw0
    refine T.seq <| T.region <| SL.v (op_assign (v := .int .i64 ((0 : Nat) : Int)) rfl) <| SL.nil <| T.seq <| T.block <| T.seq <| T.region <| SL.mv rfl <| SL.v (op_eqlF rfl rfl (by omega)) ?_
    refine SL.as rfl <| SL.nil <| T.condF rfl <| T.seq <| T.region <| SL.mv rfl <| SL.v (op_eqlT rfl rfl (by omega)) ?_
    refine SL.as rfl <| SL.nil <| T.condT rfl <| T.seq <| T.region <| SL.v (op_assign (v := .int .i64 ((2 : Nat) : Int)) rfl) <| SL.nil <| T.ret1 rfl (ResIs.tmp rfl) ?_
    rw [strN, if_neg h1, if_pos h2]
  by_cases h3 : op = 8
  · refine Spec.enter Tryz.func161 rfl Tryz.ntmps161 rfl ?_
    intro w0 hw0
    refine T.seq <| T.region <| SL.v (op_assign (v := .int .i64 ((0 : Nat) : Int)) rfl) <| SL.nil <| T.seq <| T.block <| T.seq <| T.region <| SL.mv rfl <| SL.v (op_eqlF rfl rfl (by omega)) ?_
    refine SL.as rfl <| SL.nil <| T.condF rfl <| T.seq <| T.region <| SL.mv rfl <| SL.v (op_eqlF rfl rfl (by omega)) ?_
    refine SL.as rfl <| SL.nil <| T.condF rfl <| T.seq <| T.region <| SL.mv rfl <| SL.v (op_eqlT rfl rfl (by omega)) ?_
    refine SL.as rfl <| SL.nil <| T.condT rfl <| T.seq <| T.region <| SL.v (op_assign (v := .int .i64 ((3 : Nat) : Int)) rfl) <| SL.nil <| T.ret1 rfl (ResIs.tmp rfl) ?_
    rw [strN, if_neg h1, if_neg h2, if_pos h3]
  by_cases h4 : op = 7
  · refine Spec.enter Tryz.func161 rfl Tryz.ntmps161 rfl ?_
    intro w0 hw0
    refine T.seq <| T.region <| SL.v (op_assign (v := .int .i64 ((0 : Nat) : Int)) rfl) <| SL.nil <| T.seq <| T.block <| T.seq <| T.region <| SL.mv rfl <| SL.v (op_eqlF rfl rfl (by omega)) ?_
    refine SL.as rfl <| SL.nil <| T.condF rfl <| T.seq <| T.region <| SL.mv rfl <| SL.v (op_eqlF rfl rfl (by omega)) ?_
    refine SL.as rfl <| SL.nil <| T.condF rfl <| T.seq <| T.region <| SL.mv rfl <| SL.v (op_eqlF rfl rfl (by omega)) ?_
    refine SL.as rfl <| SL.nil <| T.condF rfl <| T.seq <| T.region <| SL.mv rfl <| SL.v (op_eqlT rfl rfl (by omega)) ?_
    refine SL.as rfl <| SL.nil <| T.condT rfl <| T.seq <| T.region <| SL.v (op_assign (v := .int .i64 ((4 : Nat) : Int)) rfl) <| SL.nil <| T.ret1 rfl (ResIs.tmp rfl) ?_
    rw [strN, if_neg h1, if_neg h2, if_neg h3, if_pos h4]
  by_cases h5 : 11 ≤ op ∧ op ≤ 15
  · obtain ⟨g1, g2⟩ := h5
    refine Spec.enter Tryz.func161 rfl Tryz.ntmps161 rfl ?_
    intro w0 hw0
    refine T.seq <| T.region <| SL.v (op_assign (v := .int .i64 ((0 : Nat) : Int)) rfl) <| SL.nil <| T.seq <| T.block <| T.seq <| T.region <| SL.mv rfl <| SL.v (op_eqlF rfl rfl (by omega)) ?_
    refine SL.as rfl <| SL.nil <| T.condF rfl <| T.seq <| T.region <| SL.mv rfl <| SL.v (op_eqlF rfl rfl (by omega)) ?_
    refine SL.as rfl <| SL.nil <| T.condF rfl <| T.seq <| T.region <| SL.mv rfl <| SL.v (op_eqlF rfl rfl (by omega)) ?_
    refine SL.as rfl <| SL.nil <| T.condF rfl <| T.seq <| T.region <| SL.mv rfl <| SL.v (op_eqlF rfl rfl (by omega)) ?_
    refine SL.as rfl <| SL.nil <| T.condF rfl <| T.seq <| T.region <| SL.mv rfl <| SL.v (op_geqT rfl rfl (by omega)) ?_
    refine SL.mv rfl <| SL.mv rfl <| SL.v (op_leqT rfl rfl (by omega)) ?_
    refine SL.v (op_pickT rfl rfl) <| SL.as rfl <| SL.nil <| T.condT rfl <| T.seq <| T.region <| SL.v (op_assign (v := .int .i64 ((5 : Nat) : Int)) rfl) <| SL.nil <| T.ret1 rfl (ResIs.tmp rfl) ?_
    rw [strN, if_neg h1, if_neg h2, if_neg h3, if_neg h4, if_pos ⟨g1, g2⟩]
  by_cases h6 : op = 16
  · refine Spec.enter Tryz.func161 rfl Tryz.ntmps161 rfl ?_
    intro w0 hw0
    refine T.seq <| T.region <| SL.v (op_assign (v := .int .i64 ((0 : Nat) : Int)) rfl) <| SL.nil <| T.seq <| T.block <| T.seq <| T.region <| SL.mv rfl <| SL.v (op_eqlF rfl rfl (by omega)) ?_
    refine SL.as rfl <| SL.nil <| T.condF rfl <| T.seq <| T.region <| SL.mv rfl <| SL.v (op_eqlF rfl rfl (by omega)) ?_
    refine SL.as rfl <| SL.nil <| T.condF rfl <| T.seq <| T.region <| SL.mv rfl <| SL.v (op_eqlF rfl rfl (by omega)) ?_
    refine SL.as rfl <| SL.nil <| T.condF rfl <| T.seq <| T.region <| SL.mv rfl <| SL.v (op_eqlF rfl rfl (by omega)) ?_
    refine SL.as rfl <| SL.nil <| T.condF rfl <| T.seq <| T.region <| SL.mv rfl <| SL.v (op_geqT rfl rfl (by omega)) ?_
    refine SL.mv rfl <| SL.mv rfl <| SL.v (op_leqF rfl rfl (by omega)) ?_
    refine SL.v (op_pickT rfl rfl) <| SL.as rfl <| SL.nil <| T.condF rfl <| T.seq <| T.region <| SL.mv rfl <| SL.v (op_eqlT rfl rfl (by omega)) ?_
    refine SL.as rfl <| SL.nil <| T.condT rfl <| T.seq <| T.region <| SL.v (op_assign (v := .int .i64 ((6 : Nat) : Int)) rfl) <| SL.nil <| T.ret1 rfl (ResIs.tmp rfl) ?_
    rw [strN, if_neg h1, if_neg h2, if_neg h3, if_neg h4, if_neg h5, if_pos h6]
  by_cases h7 : 11 ≤ op
  · have h8 : ¬op ≤ 15 := fun h => h5 ⟨h7, h⟩
    refine Spec.enter Tryz.func161 rfl Tryz.ntmps161 rfl ?_
    intro w0 hw0
    refine T.seq <| T.region <| SL.v (op_assign (v := .int .i64 ((0 : Nat) : Int)) rfl) <| SL.nil <| T.seq <| T.block <| T.seq <| T.region <| SL.mv rfl <| SL.v (op_eqlF rfl rfl (by omega)) ?_
    refine SL.as rfl <| SL.nil <| T.condF rfl <| T.seq <| T.region <| SL.mv rfl <| SL.v (op_eqlF rfl rfl (by omega)) ?_
    refine SL.as rfl <| SL.nil <| T.condF rfl <| T.seq <| T.region <| SL.mv rfl <| SL.v (op_eqlF rfl rfl (by omega)) ?_
    refine SL.as rfl <| SL.nil <| T.condF rfl <| T.seq <| T.region <| SL.mv rfl <| SL.v (op_eqlF rfl rfl (by omega)) ?_
    refine SL.as rfl <| SL.nil <| T.condF rfl <| T.seq <| T.region <| SL.mv rfl <| SL.v (op_geqT rfl rfl (by omega)) ?_
    refine SL.mv rfl <| SL.mv rfl <| SL.v (op_leqF rfl rfl (by omega)) ?_
    refine SL.v (op_pickT rfl rfl) <| SL.as rfl <| SL.nil <| T.condF rfl <| T.seq <| T.region <| SL.mv rfl <| SL.v (op_eqlF rfl rfl (by omega)) ?_
    refine SL.as rfl <| SL.nil <| T.condF rfl <| T.skip <| T.blk <| T.seq <| T.region <| SL.v (op_assign (v := .int .i64 ((7 : Nat) : Int)) rfl) <| SL.nil <| T.ret1 rfl (ResIs.tmp rfl) ?_
    rw [strN, if_neg h1, if_neg h2, if_neg h3, if_neg h4, if_neg h5, if_neg h6]
  · refine Spec.enter Tryz.func161 rfl Tryz.ntmps161 rfl ?_
    intro w0 hw0
    refine T.seq <| T.region <| SL.v (op_assign (v := .int .i64 ((0 : Nat) : Int)) rfl) <| SL.nil <| T.seq <| T.block <| T.seq <| T.region <| SL.mv rfl <| SL.v (op_eqlF rfl rfl (by omega)) ?_
    refine SL.as rfl <| SL.nil <| T.condF rfl <| T.seq <| T.region <| SL.mv rfl <| SL.v (op_eqlF rfl rfl (by omega)) ?_
    refine SL.as rfl <| SL.nil <| T.condF rfl <| T.seq <| T.region <| SL.mv rfl <| SL.v (op_eqlF rfl rfl (by omega)) ?_
    refine SL.as rfl <| SL.nil <| T.condF rfl <| T.seq <| T.region <| SL.mv rfl <| SL.v (op_eqlF rfl rfl (by omega)) ?_
    refine SL.as rfl <| SL.nil <| T.condF rfl <| T.seq <| T.region <| SL.mv rfl <| SL.v (op_geqF rfl rfl (by omega)) ?_
    refine SL.mv rfl <| SL.skip rfl rfl ?_
    refine SL.skip rfl rfl ?_
    refine SL.v (op_pickF rfl rfl) <| SL.as rfl <| SL.nil <| T.condF rfl <| T.seq <| T.region <| SL.mv rfl <| SL.v (op_eqlF rfl rfl (by omega)) ?_
    refine SL.as rfl <| SL.nil <| T.condF rfl <| T.skip <| T.blk <| T.seq <| T.region <| SL.v (op_assign (v := .int .i64 ((7 : Nat) : Int)) rfl) <| SL.nil <| T.ret1 rfl (ResIs.tmp rfl) ?_
    rw [strN, if_neg h1, if_neg h2, if_neg h3, if_neg h4, if_neg h5, if_neg h6]
theorem nil_bytes (s : ByteArray) : (⟨#[]⟩ : ByteArray) ++ s = s := by
  apply ByteArray.ext
  simp
theorem bytes_nil (s : ByteArray) : s ++ (⟨#[]⟩ : ByteArray) = s := by
  apply ByteArray.ext
  simp
theorem joinG_snoc : ∀ (l : List ByteArray) (s : ByteArray), l ≠ [] → joinG (l ++ [s]) = joinG l ++ [44, 32] ++ s.data.toList
  | a :: l, s, _ => by simp [joinG]
theorem joinB_snoc (l : List ByteArray) (s : ByteArray) (h : l ≠ []) : joinB (l ++ [s]) = joinB l ++ ⟨#[44, 32]⟩ ++ s := by
  apply ByteArray.ext
  simp [joinB, joinG_snoc l s h]
theorem joinB_one (s : ByteArray) : joinB [s] = ⟨#[]⟩ ++ s := by
  apply ByteArray.ext
  simp [joinB, joinG]
theorem wtS_take (l : List ByteArray) (i : Nat) : wtS (l.take i) ≤ wtS l := by
  have : wtS (l.take i ++ l.drop i) = wtS (l.take i) + wtS (l.drop i) := by simp only [wtS, List.map_append, List.sum_append]
  rw [List.take_append_drop] at this; omega
theorem joined_spec {X : PMap} {v : Value} {l : List ByteArray} (h : RowR strC X v l) (hl : wtS l < 1000000) : Spec Tryz.prog 159 [v] X fun u _ => u = .string (joinB l) := by
  obtain ⟨A, cp, rfl⟩ := h.form
  have hmx : maxLen = 9223372036854775807 := rfl
  have hln := wtS_len l
  have k1 : (⟨#[44, 32]⟩ : ByteArray).size = 2 := rfl
  refine Spec.enter Tryz.func159 rfl Tryz.ntmps159 rfl ?_
  intro w0 hw0
  refine T.seq <| T.region <| SL.as rfl <| SL.nil <| T.seq <| T.region <| SL.as rfl <| SL.nil <| T.seq <| T.seq <| T.region <| SL.mv rfl <| SL.v (op_lenS Tryz.underlying37 rfl) <| SL.v (op_move (v := .int .i64 ((0 : Nat) : Int)) rfl) <| SL.nil ?_
  refine T.block <| T.loopW (fun m env own X' => ∃ i : Nat, m = l.length - i ∧ i ≤ l.length ∧ X.le X' ∧ env = [(3, .string (joinB (l.take i))), (6, .slice A l.length cp), (7, .int .i64 (l.length : Int)), (8, .int .i64 (i : Int))] ∧ own = []) l.length ⟨0, by simp, by omega, PMap.le_refl _, rfl, rfl⟩ (by repeat (first | exact Sub.nil | refine Sub.cons rfl ?_)) ?_
  rintro m _ _ X1 ⟨i, rfl, hi, hX1, rfl, rfl⟩
  rcases Nat.lt_or_ge i l.length with hil | hil
  · obtain ⟨x, hx⟩ : ∃ x, l[i]? = some x := ⟨_, List.getElem?_eq_getElem hil⟩
    obtain ⟨b, pre, rfl, hB⟩ := h.blk (by omega)
    have hts := take_snoc hx
    have hj := joinB_size (l.take i)
    have hw := wtS_take l i
    have hxs := wtS_mem (List.mem_of_getElem? hx)
    have k0 : (⟨#[]⟩ : ByteArray).size = 0 := rfl
    rcases Nat.eq_zero_or_pos i with h0 | h0
    · subst h0
      rw [show l.take 0 = [] from rfl, show joinB [] = ⟨#[]⟩ from rfl]
      rw [show l.take 0 = [] from rfl, List.nil_append] at hts
      refine T.seq <| T.region <| SL.v (op_lssT rfl rfl (by omega)) ?_
      refine SL.nil <| T.seq <| T.condT rfl <| T.skip <| T.seq <| T.block <| T.seq <| T.region <| SL.mv rfl <| SL.v (op_indexN Tryz.underlying37 ty9 rfl rfl (by omega)) ?_
      refine SL.v (op_loadX ty9 rfl (hB.mono hX1) (str_read hx (by omega))) ?_
      refine SL.as rfl <| SL.as rfl <| SL.nil <| T.seq <| T.seq <| T.region <| SL.mv rfl <| SL.v (op_gtrF rfl rfl (by omega)) ?_
      refine SL.nil <| T.condF rfl <| T.skip <| T.region <| SL.mv rfl <| SL.mv rfl <| SL.v (op_addStr rfl rfl (by first | omega | (simp only [ByteArray.size_append]; omega))) ?_
      refine SL.as rfl <| SL.nil <| T.blk <| T.region <| SL.v (op_addN (q := 1) rfl rfl (by omega)) ?_
      refine SL.mv rfl <| SL.nil ?_
      exact T.backW (l.length - (0 + 1)) (by omega) ⟨0 + 1, rfl, by omega, hX1, by rw [hts, joinB_one], rfl⟩ (by repeat (first | exact Sub.nil | refine Sub.cons rfl ?_))
    · have hne : l.take i ≠ [] := fun e => by have := congrArg List.length e; rw [List.length_take, List.length_nil] at this; omega
      refine T.seq <| T.region <| SL.v (op_lssT rfl rfl (by omega)) ?_
      refine SL.nil <| T.seq <| T.condT rfl <| T.skip <| T.seq <| T.block <| T.seq <| T.region <| SL.mv rfl <| SL.v (op_indexN Tryz.underlying37 ty9 rfl rfl (by omega)) ?_
      refine SL.v (op_loadX ty9 rfl (hB.mono hX1) (str_read hx (by omega))) ?_
      refine SL.as rfl <| SL.as rfl <| SL.nil <| T.seq <| T.seq <| T.region <| SL.mv rfl <| SL.v (op_gtrT rfl rfl (by omega)) ?_
      refine SL.nil <| T.condT rfl <| T.region <| SL.mv rfl <| SL.v (op_addStr rfl rfl (by first | omega | (simp only [ByteArray.size_append]; omega))) ?_
      refine SL.as rfl <| SL.nil <| T.region <| SL.mv rfl <| SL.mv rfl <| SL.v (op_addStr rfl rfl (by first | omega | (simp only [ByteArray.size_append]; omega))) ?_
      refine SL.as rfl <| SL.nil <| T.blk <| T.region <| SL.v (op_addN (q := 1) rfl rfl (by omega)) ?_
      refine SL.mv rfl <| SL.nil ?_
      exact T.backW (l.length - (i + 1)) (by omega) ⟨i + 1, rfl, by omega, hX1, by rw [hts, joinB_snoc _ _ hne], rfl⟩ (by repeat (first | exact Sub.nil | refine Sub.cons rfl ?_))
  · obtain rfl : i = l.length := by omega
    rw [List.take_length]
    refine T.seq <| T.region <| SL.v (op_lssF rfl rfl (by omega)) ?_
    refine SL.nil <| T.seq <| T.condF rfl ?_
    refine T.exit (T.exitCode (T.exitCut (T.exitBlk ?_)))
    refine T.seq <| T.region <| SL.mv rfl <| SL.as rfl <| SL.nil <| T.ret1 rfl (ResIs.tmp rfl) ?_
    rfl
theorem decG_more : ∀ (f g v : Nat), v < 10 ^ f → 0 < f → f ≤ g → decG g v = decG f v
  | 0, _, _, _, h, _ => by omega
  | f + 1, 0, _, _, _, h => by omega
  | f + 1, g + 1, v, h, _, hg => by
    rw [decG, decG]
    by_cases hv : v < 10
    · rw [if_pos hv, if_pos hv]
    · have h1 : v / 10 < 10 ^ f := by rw [Nat.pow_succ] at h; omega
      have hf0 : 0 < f := Nat.pos_of_ne_zero fun e => by subst e; simp at h1; omega
      rw [if_neg hv, if_neg hv, decG_more f g _ h1 hf0 (by omega)]
theorem decB_step {v : Nat} (hv : v ≤ 999999999) (h0 : 10 ≤ v) : decB v = decB (v / 10) ++ ⟨#[UInt8.ofNat (48 + v % 10)]⟩ := by
  apply ByteArray.ext
  have e : decG 20 v = decG 19 (v / 10) ++ [UInt8.ofNat (48 + v % 10)] := by rw [decG, if_neg (by omega)]
  have e2 := decG_more 19 20 (v / 10) (by omega) (by omega) (by omega)
  simp [decB, e, e2]
theorem decB_digit {v : Nat} (h : v < 10) : decB v = ⟨#[UInt8.ofNat (48 + v)]⟩ := by rw [decB, decG, if_pos h]
theorem dec_spec {X : PMap} {v : Nat} (hv : v ≤ 999999999) : Spec Tryz.prog 36 [.int .i64 (v : Int)] X fun u _ => u = .string (decB v) := by
  have hmx : maxLen = 9223372036854775807 := rfl
  refine Spec.enter Tryz.func36 rfl Tryz.ntmps36 rfl ?_
  intro w0 hw0
  refine T.seq <| T.region <| SL.as rfl <| SL.nil <| T.seq <| T.region <| SL.as rfl <| SL.nil <| T.seq <| T.block <| T.loopW (fun m env own X' => ∃ (q : Nat) (s : ByteArray), q ≤ v ∧ ((s = ⟨#[]⟩ ∧ q = v ∧ m = v + 1) ∨ (s.size ≠ 0 ∧ m = q ∧ s.size ≤ 20 + v - q ∧ decB v = (if q = 0 then ⟨#[]⟩ else decB q) ++ s)) ∧ X.le X' ∧ env = [(0, .int .i64 (q : Int)), (3, .string s)] ∧ own = []) (v + 1) ⟨v, _, Nat.le_refl _, .inl ⟨rfl, rfl, rfl⟩, PMap.le_refl _, rfl, rfl⟩ (by repeat (first | exact Sub.nil | refine Sub.cons rfl ?_)) ?_
  rintro m _ _ X1 ⟨q, s, hq, hs, hX1, rfl, rfl⟩
  have step : ∀ (_ : s = ⟨#[]⟩ ∧ q = v ∨ 0 < q ∧ s.size ≠ 0 ∧ decB v = decB q ++ s), decB v = (if q / 10 = 0 then ⟨#[]⟩ else decB (q / 10)) ++ (⟨#[UInt8.ofNat (48 + q % 10)]⟩ ++ s) := by
    have base : decB q = (if q / 10 = 0 then ⟨#[]⟩ else decB (q / 10)) ++ ⟨#[UInt8.ofNat (48 + q % 10)]⟩ := by
      by_cases h10 : q < 10
      · rw [if_pos (by omega), decB_digit h10, Nat.mod_eq_of_lt h10, nil_bytes]
      · rw [if_neg (by omega), decB_step (by omega) (by omega)]
    rintro (⟨rfl, rfl⟩ | ⟨h1, h2, h3⟩)
    · rw [base, bytes_nil]
    · rw [h3, base, ByteArray.append_assoc]
  have k1 : (⟨#[UInt8.ofNat (48 + q % 10)]⟩ : ByteArray).size = 1 := rfl
  have hq10 : q % 10 < 10 := Nat.mod_lt _ (by omega)
  have kc : ((UInt8.ofNat (48 + q % 10)).toNat : Int) = ((48 + q % 10 : Nat) : Int) := by
    rw [UInt8.toNat_ofNat']; omega
  have hsz : s.size ≤ 20 + v - q := by
    rcases hs with ⟨rfl, rfl, _⟩ | ⟨_, _, h, _⟩
    · exact Nat.zero_le _
    · exact h
  have hsz2 : (⟨#[UInt8.ofNat (48 + q % 10)]⟩ ++ s : ByteArray).size = s.size + 1 := by rw [ByteArray.size_append, k1]; omega
  have hnew : ∀ _ : s = ⟨#[]⟩ ∧ q = v ∨ 0 < q ∧ s.size ≠ 0 ∧ decB v = decB q ++ s, (⟨#[UInt8.ofNat (48 + q % 10)]⟩ ++ s : ByteArray).size ≠ 0 ∧ q / 10 = q / 10 ∧ (⟨#[UInt8.ofNat (48 + q % 10)]⟩ ++ s : ByteArray).size ≤ 20 + v - q / 10 ∧ decB v = (if q / 10 = 0 then ⟨#[]⟩ else decB (q / 10)) ++ (⟨#[UInt8.ofNat (48 + q % 10)]⟩ ++ s) := fun h => by
    refine ⟨by omega, rfl, ?_, step h⟩
    rcases h with ⟨rfl, rfl⟩ | ⟨h1, _⟩
    · rw [hsz2]; show 0 + 1 ≤ _; omega
    · omega
  by_cases hemp : s = ⟨#[]⟩
  · subst hemp
    have hqv : q = v ∧ m = v + 1 := by
      rcases hs with ⟨_, h1, h2⟩ | ⟨h, _⟩
      · exact ⟨h1, h2⟩
      · exact absurd rfl h
    have hn := hnew (.inl ⟨rfl, hqv.1⟩)
    refine T.seq <| T.seq <| T.region <| SL.mv rfl <| SL.v (op_eqlStrD rfl rfl) <| SL.mv rfl <| SL.skip rfl rfl ?_
    refine SL.skip rfl rfl ?_
    refine SL.v (op_pickT rfl rfl) <| SL.nil ?_
    rw [decide_eq_true rfl]
    refine T.condT rfl <| T.skip <| T.block <| T.seq <| T.region <| SL.mv rfl <| SL.v (op_remN (q := 10) rfl rfl rfl (by decide)) ?_
    refine SL.v (op_addN (p := 48) rfl rfl (by omega)) ?_
    refine SL.v (op_convU8 Tryz.underlying3 Tryz.underlying5 rfl (by omega) (by omega)) ?_
    refine SL.w (op_buildSlice Tryz.underlying64 bs5 (qs := [(0, _)]) rfl rfl rfl rfl rfl) ?_
    rintro _ _ _ ⟨B14, rfl, rfl, rfl⟩
    refine SL.v (op_str1 (c := UInt8.ofNat (48 + q % 10)) Tryz.underlying64 Tryz.underlying5 Tryz.underlying9 rfl (by rw [← kc]; exact AtO.here)) ?_
    refine SL.mv rfl <| SL.v (op_addStr rfl rfl (by first | omega | (simp only [ByteArray.size_append]; omega))) ?_
    refine SL.as rfl <| SL.nil <| T.region <| SL.mv rfl <| SL.v (op_quoN (q := 10) rfl rfl rfl (by omega) (by decide)) ?_
    refine SL.as rfl <| SL.nil <| T.blk <| T.drop B14 (by repeat constructor) ?_
    exact T.backW (q / 10) (by omega) ⟨q / 10, _, by omega, .inr hn, hX1, rfl, rfl⟩ (by repeat (first | exact Sub.nil | refine Sub.cons rfl ?_))
  · have hs2 : s.size ≠ 0 ∧ m = q ∧ s.size ≤ 20 + v - q ∧ decB v = (if q = 0 then ⟨#[]⟩ else decB q) ++ s := by
      rcases hs with ⟨h, _⟩ | h
      · exact absurd h hemp
      · exact h
    obtain ⟨g1, rfl, g3, g4⟩ := hs2
    rcases Nat.eq_zero_or_pos m with h0 | h0
    · subst h0
      rw [if_pos rfl, nil_bytes] at g4
      refine T.seq <| T.seq <| T.region <| SL.mv rfl <| SL.v (op_eqlStrD rfl rfl) ?_
      rw [decide_eq_false hemp]
      refine SL.mv rfl <| SL.mv rfl <| SL.v (op_gtrF rfl rfl (by omega)) ?_
      refine SL.v (op_pickF rfl rfl) <| SL.nil <| T.condF rfl ?_
      refine T.exit (T.exitCode (T.exitCut (T.exitBlk ?_)))
      refine T.seq <| T.region <| SL.mv rfl <| SL.as rfl <| SL.nil <| T.ret1 rfl (ResIs.tmp rfl) ?_
      rw [g4]
    · have hn := hnew (.inr ⟨h0, g1, by rw [if_neg (by omega)] at g4; exact g4⟩)
      refine T.seq <| T.seq <| T.region <| SL.mv rfl <| SL.v (op_eqlStrD rfl rfl) ?_
      rw [decide_eq_false hemp]
      refine SL.mv rfl <| SL.mv rfl <| SL.v (op_gtrT rfl rfl (by omega)) ?_
      refine SL.v (op_pickF rfl rfl) <| SL.nil <| T.condT rfl <| T.skip <| T.block <| T.seq <| T.region <| SL.mv rfl <| SL.v (op_remN (q := 10) rfl rfl rfl (by decide)) ?_
      refine SL.v (op_addN (p := 48) rfl rfl (by omega)) ?_
      refine SL.v (op_convU8 Tryz.underlying3 Tryz.underlying5 rfl (by omega) (by omega)) ?_
      refine SL.w (op_buildSlice Tryz.underlying64 bs5 (qs := [(0, _)]) rfl rfl rfl rfl rfl) ?_
      rintro _ _ _ ⟨B14, rfl, rfl, rfl⟩
      refine SL.v (op_str1 (c := UInt8.ofNat (48 + m % 10)) Tryz.underlying64 Tryz.underlying5 Tryz.underlying9 rfl (by rw [← kc]; exact AtO.here)) ?_
      refine SL.mv rfl <| SL.v (op_addStr rfl rfl (by first | omega | (simp only [ByteArray.size_append]; omega))) ?_
      refine SL.as rfl <| SL.nil <| T.region <| SL.mv rfl <| SL.v (op_quoN (q := 10) rfl rfl rfl (by omega) (by decide)) ?_
      refine SL.as rfl <| SL.nil <| T.blk <| T.drop B14 (by repeat constructor) ?_
      exact T.backW (m / 10) (by omega) ⟨m / 10, _, by omega, .inr hn, hX1, rfl, rfl⟩ (by repeat (first | exact Sub.nil | refine Sub.cons rfl ?_))
theorem roperand_spec {X : PMap} {e : Ex} {r : Row4} {least : Nat} (hr : ExR .i64 X e r) (ht : ∀ {X' : PMap}, X.le X' → Spec Tryz.prog 149 [.agg #[r.1, r.2.1, r.2.2.1, r.2.2.2]] X' fun u _ => u = .string (textE e)) (hs : (textE e).size < 1000000000000) : Spec Tryz.prog 160 [.agg #[r.1, r.2.1, r.2.2.1, r.2.2.2], .int .i64 (least : Int)] X fun u _ => u = .string (parB (strN e.op) (textE e) least) := by
  have k1 : (⟨#[40]⟩ : ByteArray).size = 1 := rfl
  have k2 : (⟨#[41]⟩ : ByteArray).size = 1 := rfl
  cases hr with
  | @mk op n ns al vn va rows hn ha hl hr =>
  obtain ⟨Aa, ca, rfl⟩ := ha.form
  obtain ⟨An, cn, rfl⟩ := hn.form
  by_cases hc : strN op < least
  · refine Spec.enter Tryz.func160 rfl Tryz.ntmps160 rfl ?_
    intro w0 hw0
    refine T.seq <| T.region <| SL.w (op_box rfl) ?_
    rintro _ _ _ ⟨B2, rfl, rfl, rfl⟩
    refine SL.as rfl <| SL.nil <| T.seq <| T.seq <| T.region <| SL.v (op_fieldAddr fa45_0 rfl) <| SL.v (op_load ty3 rfl (by repeat constructor) rfl) ?_
    refine SL.w (op_callF en161 (vs := [_]) rfl (binds_spec (op := op))) ?_
    rintro _ _ X1 ⟨rfl, hX1, rfl⟩
    refine SL.mv rfl <| SL.v (op_lssT rfl rfl (by omega)) ?_
    refine SL.nil <| T.condT rfl <| T.seq <| T.region <| SL.v (op_load ty45 rfl (by repeat constructor) rfl) ?_
    refine SL.w (op_callF en149 (vs := [_]) rfl (ht hX1)) ?_
    rintro _ _ X2 ⟨rfl, hX2, rfl⟩
    refine SL.v (op_addStr rfl rfl (by first | omega | (simp only [ByteArray.size_append]; omega))) ?_
    refine SL.v (op_addStr rfl rfl (by first | omega | (simp only [ByteArray.size_append]; omega))) ?_
    refine SL.as rfl <| SL.nil <| T.ret1 rfl (ResIs.tmp rfl) ?_
    rw [parB, Ex.op, if_pos hc]
  · refine Spec.enter Tryz.func160 rfl Tryz.ntmps160 rfl ?_
    intro w0 hw0
    refine T.seq <| T.region <| SL.w (op_box rfl) ?_
    rintro _ _ _ ⟨B2, rfl, rfl, rfl⟩
    refine SL.as rfl <| SL.nil <| T.seq <| T.seq <| T.region <| SL.v (op_fieldAddr fa45_0 rfl) <| SL.v (op_load ty3 rfl (by repeat constructor) rfl) ?_
    refine SL.w (op_callF en161 (vs := [_]) rfl (binds_spec (op := op))) ?_
    rintro _ _ X1 ⟨rfl, hX1, rfl⟩
    refine SL.mv rfl <| SL.v (op_lssF rfl rfl (by omega)) ?_
    refine SL.nil <| T.condF rfl <| T.skip <| T.seq <| T.region <| SL.v (op_load ty45 rfl (by repeat constructor) rfl) ?_
    refine SL.w (op_callF en149 (vs := [_]) rfl (ht hX1)) ?_
    rintro _ _ X2 ⟨rfl, hX2, rfl⟩
    refine SL.as rfl <| SL.nil <| T.ret1 rfl (ResIs.tmp rfl) ?_
    rw [parB, Ex.op, if_neg hc]
def sgnB (op : Nat) : ByteArray := match op with
  | 8 => ⟨#[97, 110, 100]⟩ | 9 => ⟨#[111, 114]⟩ | 10 => ⟨#[45, 62]⟩ | 11 => ⟨#[60, 61]⟩ | 12 => ⟨#[60]⟩ | 13 => ⟨#[62, 61]⟩ | 14 => ⟨#[62]⟩ | 15 => ⟨#[61, 61]⟩ | _ => ⟨#[43]⟩
def signs9 : List ByteArray := [sgnB 8, sgnB 9, sgnB 10, sgnB 11, sgnB 12, sgnB 13, sgnB 14, sgnB 15, sgnB 16]
theorem signs9_at {op : Nat} (h1 : 8 ≤ op) (h2 : op ≤ 16) : signs9[op - 8]? = some (sgnB op) := by
  rcases (by omega : op = 8 ∨ op = 9 ∨ op = 10 ∨ op = 11 ∨ op = 12 ∨ op = 13 ∨ op = 14 ∨ op = 15 ∨ op = 16) with rfl | rfl | rfl | rfl | rfl | rfl | rfl | rfl | rfl <;> rfl
theorem sgn_word {op : Nat} (h1 : 8 ≤ op) (h2 : op ≤ 16) (a b : ByteArray) : a ++ ⟨#[32]⟩ ++ sgnB op ++ ⟨#[32]⟩ ++ b = a ++ wordB op ++ b := by
  have e : (⟨#[32]⟩ : ByteArray) ++ sgnB op ++ ⟨#[32]⟩ = wordB op := by
    rcases (by omega : op = 8 ∨ op = 9 ∨ op = 10 ∨ op = 11 ∨ op = 12 ∨ op = 13 ∨ op = 14 ∨ op = 15 ∨ op = 16) with rfl | rfl | rfl | rfl | rfl | rfl | rfl | rfl | rfl <;> rfl
  rw [← e]
  simp only [ByteArray.append_assoc]
theorem sgnB_size (op : Nat) : (sgnB op).size ≤ 3 := by
  unfold sgnB
  split <;> decide
theorem rtext_spec (N : Nat) : ∀ {X : PMap} {e : Ex} {r : Row4}, wtE e ≤ N → N < 1000000 → nodeE e = 0 → ExR .i64 X e r → Spec Tryz.prog 149 [.agg #[r.1, r.2.1, r.2.2.1, r.2.2.2]] X fun u _ => u = .string (textE e) := by
  induction N with
  | zero => intro X e r h; cases e; rw [wtE] at h; omega
  | succ N ih =>
    intro X e r hN hB hnode h
    have hopd : ∀ {X : PMap} {a : Ex} {r : Row4} {least : Nat}, wtE a ≤ N → nodeE a = 0 → ExR .i64 X a r → Spec Tryz.prog 160 [.agg #[r.1, r.2.1, r.2.2.1, r.2.2.2], .int .i64 (least : Int)] X fun u _ => u = .string (parB (strN a.op) (textE a) least) := fun h1 h2 h4 => roperand_spec h4 (fun hX => ih h1 (by omega) h2 (h4.mono hX)) (Nat.lt_of_le_of_lt (text_size _) (by omega))
    cases h with
    | @mk op n ns al vn va rows hn ha hl hr =>
    obtain ⟨Aa, ca, rfl⟩ := ha.form
    obtain ⟨An, cn, rfl⟩ := hn.form
    have hlen := wtL_len al
    have hnl := wtS_len ns
    rw [wtE] at hN
    obtain ⟨hown, hargs⟩ := node_ok hnode
    obtain ⟨o1, o2, o3, o4, o5, o6, o7, o8, o9⟩ := own_ok hown
    have k1 : (⟨#[99, 111, 117, 110, 116, 40]⟩ : ByteArray).size = 6 := rfl
    have k2 : (⟨#[41]⟩ : ByteArray).size = 1 := rfl
    have k3 : (⟨#[109, 101, 109, 98, 101, 114, 115, 40]⟩ : ByteArray).size = 8 := rfl
    have k4 : (⟨#[110, 111, 116, 32]⟩ : ByteArray).size = 4 := rfl
    have k5 : (⟨#[32]⟩ : ByteArray).size = 1 := rfl
    by_cases c1 : op = 1
    · obtain ⟨v, rfl⟩ := Int.eq_ofNat_of_zero_le o8
      refine Spec.enter Tryz.func149 rfl Tryz.ntmps149 rfl ?_
      intro w0 hw0
      refine T.seq <| T.region <| SL.w (op_box rfl) ?_
      rintro _ _ _ ⟨B1, rfl, rfl, rfl⟩
      refine SL.as rfl <| SL.nil <| T.seq <| T.seq <| T.region <| SL.v (op_fieldAddr fa45_0 rfl) <| SL.v (op_load ty3 rfl (by repeat constructor) rfl) ?_
      refine SL.nil <| T.block <| T.seq <| T.region <| SL.v (op_eqlT rfl rfl (by omega)) ?_
      refine SL.as rfl <| SL.nil <| T.condT rfl <| T.seq <| T.region <| SL.v (op_fieldAddr fa45_1 rfl) <| SL.v (op_load ty3 rfl (by repeat constructor) rfl) ?_
      refine SL.w (op_callF en36 (vs := [_]) rfl (dec_spec (v := v) (by omega))) ?_
      rintro _ _ X2 ⟨rfl, hX2, rfl⟩
      refine SL.as rfl <| SL.nil <| T.ret1 rfl (ResIs.tmp rfl) ?_
      rw [textE, if_pos c1]; rfl
    by_cases c2 : op = 2
    · refine Spec.enter Tryz.func149 rfl Tryz.ntmps149 rfl ?_
      intro w0 hw0
      refine T.seq <| T.region <| SL.w (op_box rfl) ?_
      rintro _ _ _ ⟨B1, rfl, rfl, rfl⟩
      refine SL.as rfl <| SL.nil <| T.seq <| T.seq <| T.region <| SL.v (op_fieldAddr fa45_0 rfl) <| SL.v (op_load ty3 rfl (by repeat constructor) rfl) ?_
      refine SL.nil <| T.block <| T.seq <| T.region <| SL.v (op_eqlF rfl rfl (by omega)) ?_
      refine SL.as rfl <| SL.nil <| T.condF rfl <| T.seq <| T.region <| SL.v (op_eqlT rfl rfl (by omega)) ?_
      refine SL.as rfl <| SL.nil <| T.condT rfl <| T.seq <| T.region <| SL.as rfl <| SL.nil <| T.ret1 rfl (ResIs.tmp rfl) ?_
      rw [textE, if_neg c1, if_pos c2]
    by_cases c3 : op = 3
    · refine Spec.enter Tryz.func149 rfl Tryz.ntmps149 rfl ?_
      intro w0 hw0
      refine T.seq <| T.region <| SL.w (op_box rfl) ?_
      rintro _ _ _ ⟨B1, rfl, rfl, rfl⟩
      refine SL.as rfl <| SL.nil <| T.seq <| T.seq <| T.region <| SL.v (op_fieldAddr fa45_0 rfl) <| SL.v (op_load ty3 rfl (by repeat constructor) rfl) ?_
      refine SL.nil <| T.block <| T.seq <| T.region <| SL.v (op_eqlF rfl rfl (by omega)) ?_
      refine SL.as rfl <| SL.nil <| T.condF rfl <| T.seq <| T.region <| SL.v (op_eqlF rfl rfl (by omega)) ?_
      refine SL.as rfl <| SL.nil <| T.condF rfl <| T.seq <| T.region <| SL.v (op_eqlT rfl rfl (by omega)) ?_
      refine SL.as rfl <| SL.nil <| T.condT rfl <| T.seq <| T.region <| SL.as rfl <| SL.nil <| T.ret1 rfl (ResIs.tmp rfl) ?_
      rw [textE, if_neg c1, if_neg c2, if_pos c3]
    by_cases c4 : op = 4
    · have hl1 : ns.length = 1 := by simpa [namN, c4] using o5
      obtain ⟨s, rfl⟩ : ∃ s, ns = [s] := by
        match ns, hl1 with
        | [s], _ => exact ⟨s, rfl⟩
      obtain ⟨bN, pre, rfl, hB1⟩ := hn.blk (by simp)
      refine Spec.enter Tryz.func149 rfl Tryz.ntmps149 rfl ?_
      intro w0 hw0
      refine T.seq <| T.region <| SL.w (op_box rfl) ?_
      rintro _ _ _ ⟨B1, rfl, rfl, rfl⟩
      refine SL.as rfl <| SL.nil <| T.seq <| T.seq <| T.region <| SL.v (op_fieldAddr fa45_0 rfl) <| SL.v (op_load ty3 rfl (by repeat constructor) rfl) ?_
      refine SL.nil <| T.block <| T.seq <| T.region <| SL.v (op_eqlF rfl rfl (by omega)) ?_
      refine SL.as rfl <| SL.nil <| T.condF rfl <| T.seq <| T.region <| SL.v (op_eqlF rfl rfl (by omega)) ?_
      refine SL.as rfl <| SL.nil <| T.condF rfl <| T.seq <| T.region <| SL.v (op_eqlF rfl rfl (by omega)) ?_
      refine SL.as rfl <| SL.nil <| T.condF rfl <| T.seq <| T.region <| SL.v (op_eqlT rfl rfl (by omega)) ?_
      refine SL.as rfl <| SL.nil <| T.condT rfl <| T.seq <| T.region <| SL.v (op_fieldAddr fa45_2 rfl) <| SL.v (op_load ty37 rfl (by repeat constructor) rfl) ?_
      refine SL.v (op_index Tryz.underlying37 ty9 rfl rfl (by omega) (by omega)) ?_
      refine SL.v (op_loadX ty9 rfl hB1 (str_read (i := 0) rfl (by omega))) ?_
      refine SL.as rfl <| SL.nil <| T.ret1 rfl (ResIs.tmp rfl) ?_
      rw [textE, if_neg c1, if_neg c2, if_neg c3, if_pos c4]; rfl
    by_cases c5 : op = 5
    · have hj := joinB_size ns
      refine Spec.enter Tryz.func149 rfl Tryz.ntmps149 rfl ?_
      intro w0 hw0
      refine T.seq <| T.region <| SL.w (op_box rfl) ?_
      rintro _ _ _ ⟨B1, rfl, rfl, rfl⟩
      refine SL.as rfl <| SL.nil <| T.seq <| T.seq <| T.region <| SL.v (op_fieldAddr fa45_0 rfl) <| SL.v (op_load ty3 rfl (by repeat constructor) rfl) ?_
      refine SL.nil <| T.block <| T.seq <| T.region <| SL.v (op_eqlF rfl rfl (by omega)) ?_
      refine SL.as rfl <| SL.nil <| T.condF rfl <| T.seq <| T.region <| SL.v (op_eqlF rfl rfl (by omega)) ?_
      refine SL.as rfl <| SL.nil <| T.condF rfl <| T.seq <| T.region <| SL.v (op_eqlF rfl rfl (by omega)) ?_
      refine SL.as rfl <| SL.nil <| T.condF rfl <| T.seq <| T.region <| SL.v (op_eqlF rfl rfl (by omega)) ?_
      refine SL.as rfl <| SL.nil <| T.condF rfl <| T.seq <| T.region <| SL.v (op_eqlT rfl rfl (by omega)) ?_
      refine SL.as rfl <| SL.nil <| T.condT rfl <| T.seq <| T.region <| SL.v (op_fieldAddr fa45_2 rfl) <| SL.v (op_load ty37 rfl (by repeat constructor) rfl) ?_
      refine SL.w (op_callF en159 (vs := [_]) rfl (joined_spec hn (by omega))) ?_
      rintro _ _ X2 ⟨rfl, hX2, rfl⟩
      refine SL.v (op_addStr rfl rfl (by first | omega | (simp only [ByteArray.size_append]; omega))) ?_
      refine SL.v (op_addStr rfl rfl (by first | omega | (simp only [ByteArray.size_append]; omega))) ?_
      refine SL.as rfl <| SL.nil <| T.ret1 rfl (ResIs.tmp rfl) ?_
      rw [textE, if_neg c1, if_neg c2, if_neg c3, if_neg c4, if_pos c5]
    by_cases c6 : op = 6
    · have hl1 : ns.length = 1 := by simpa [namN, c6] using o5
      obtain ⟨s, rfl⟩ : ∃ s, ns = [s] := by
        match ns, hl1 with
        | [s], _ => exact ⟨s, rfl⟩
      obtain ⟨bN, pre, rfl, hB1⟩ := hn.blk (by simp)
      have hsz := wtS_mem (ns := [s]) (s := s) (by simp)
      refine Spec.enter Tryz.func149 rfl Tryz.ntmps149 rfl ?_
      intro w0 hw0
      refine T.seq <| T.region <| SL.w (op_box rfl) ?_
      rintro _ _ _ ⟨B1, rfl, rfl, rfl⟩
      refine SL.as rfl <| SL.nil <| T.seq <| T.seq <| T.region <| SL.v (op_fieldAddr fa45_0 rfl) <| SL.v (op_load ty3 rfl (by repeat constructor) rfl) ?_
      refine SL.nil <| T.block <| T.seq <| T.region <| SL.v (op_eqlF rfl rfl (by omega)) ?_
      refine SL.as rfl <| SL.nil <| T.condF rfl <| T.seq <| T.region <| SL.v (op_eqlF rfl rfl (by omega)) ?_
      refine SL.as rfl <| SL.nil <| T.condF rfl <| T.seq <| T.region <| SL.v (op_eqlF rfl rfl (by omega)) ?_
      refine SL.as rfl <| SL.nil <| T.condF rfl <| T.seq <| T.region <| SL.v (op_eqlF rfl rfl (by omega)) ?_
      refine SL.as rfl <| SL.nil <| T.condF rfl <| T.seq <| T.region <| SL.v (op_eqlF rfl rfl (by omega)) ?_
      refine SL.as rfl <| SL.nil <| T.condF rfl <| T.seq <| T.region <| SL.v (op_eqlT rfl rfl (by omega)) ?_
      refine SL.as rfl <| SL.nil <| T.condT rfl <| T.seq <| T.region <| SL.v (op_fieldAddr fa45_2 rfl) <| SL.v (op_load ty37 rfl (by repeat constructor) rfl) ?_
      refine SL.v (op_index Tryz.underlying37 ty9 rfl rfl (by omega) (by omega)) ?_
      refine SL.v (op_loadX ty9 rfl hB1 (str_read (i := 0) rfl (by omega))) ?_
      refine SL.v (op_addStr rfl rfl (by first | omega | (simp only [ByteArray.size_append]; omega))) ?_
      refine SL.v (op_addStr rfl rfl (by first | omega | (simp only [ByteArray.size_append]; omega))) ?_
      refine SL.as rfl <| SL.nil <| T.ret1 rfl (ResIs.tmp rfl) ?_
      rw [textE, if_neg c1, if_neg c2, if_neg c3, if_neg c4, if_neg c5, if_pos c6]; rfl
    by_cases c7 : op = 7
    · have hal : al.length = 1 := by rw [o3, c7]; rfl
      obtain ⟨a, rfl⟩ : ∃ a, al = [a] := by
        match al, hal with
        | [a], _ => exact ⟨a, rfl⟩
      obtain ⟨ra, rfl⟩ : ∃ ra, rows = [ra] := by
        match rows, hl with
        | [ra], _ => exact ⟨ra, rfl⟩
      have hra := hr 0 a ra rfl rfl
      obtain ⟨bA, pre, rfl, hbA⟩ := ha.blk (by simp)
      obtain ⟨_, _, _, _, _, _, _, _, rfl⟩ := hra.form
      have hna := nodeL_zero hargs a (by simp)
      have hwa : wtE a ≤ N := by rw [wtL, wtL] at hN; omega
      have hts := text_size a
      have hps := parB_size (strN a.op) (textE a) 4
      refine Spec.enter Tryz.func149 rfl Tryz.ntmps149 rfl ?_
      intro w0 hw0
      refine T.seq <| T.region <| SL.w (op_box rfl) ?_
      rintro _ _ _ ⟨B1, rfl, rfl, rfl⟩
      refine SL.as rfl <| SL.nil <| T.seq <| T.seq <| T.region <| SL.v (op_fieldAddr fa45_0 rfl) <| SL.v (op_load ty3 rfl (by repeat constructor) rfl) ?_
      refine SL.nil <| T.block <| T.seq <| T.region <| SL.v (op_eqlF rfl rfl (by omega)) ?_
      refine SL.as rfl <| SL.nil <| T.condF rfl <| T.seq <| T.region <| SL.v (op_eqlF rfl rfl (by omega)) ?_
      refine SL.as rfl <| SL.nil <| T.condF rfl <| T.seq <| T.region <| SL.v (op_eqlF rfl rfl (by omega)) ?_
      refine SL.as rfl <| SL.nil <| T.condF rfl <| T.seq <| T.region <| SL.v (op_eqlF rfl rfl (by omega)) ?_
      refine SL.as rfl <| SL.nil <| T.condF rfl <| T.seq <| T.region <| SL.v (op_eqlF rfl rfl (by omega)) ?_
      refine SL.as rfl <| SL.nil <| T.condF rfl <| T.seq <| T.region <| SL.v (op_eqlF rfl rfl (by omega)) ?_
      refine SL.as rfl <| SL.nil <| T.condF rfl <| T.seq <| T.region <| SL.v (op_eqlT rfl rfl (by omega)) ?_
      refine SL.as rfl <| SL.nil <| T.condT rfl <| T.seq <| T.region <| SL.v (op_fieldAddr fa45_3 rfl) <| SL.v (op_load ty43 rfl (by repeat constructor) rfl) ?_
      refine SL.v (op_index Tryz.underlying43 ty45 rfl rfl (by omega) (by omega)) ?_
      refine SL.v (op_loadX ty45 rfl hbA (row_read rc4_len (rs := [_]) (k := 0) rfl (by omega))) ?_
      refine SL.w (op_callF en160 (vs := [_, _]) rfl (hopd (least := 4) hwa hna hra)) ?_
      rintro _ _ X2 ⟨rfl, hX2, rfl⟩
      refine SL.v (op_addStr rfl rfl (by first | omega | (simp only [ByteArray.size_append]; omega))) ?_
      refine SL.as rfl <| SL.nil <| T.ret1 rfl (ResIs.tmp rfl) ?_
      rw [textE, if_neg c1, if_neg c2, if_neg c3, if_neg c4, if_neg c5, if_neg c6, textL, textL]
    have hal : al.length = 2 := by rw [o3, argN, if_neg (by omega), if_neg c7]
    obtain ⟨a, a2, rfl⟩ : ∃ a a2, al = [a, a2] := by
      match al, hal with
      | [a, b], _ => exact ⟨a, b, rfl⟩
    obtain ⟨ra, rb, rfl⟩ : ∃ ra rb, rows = [ra, rb] := by
      match rows, hl with
      | [ra, rb], _ => exact ⟨ra, rb, rfl⟩
    have hra := hr 0 a ra rfl rfl
    have hrb := hr 1 a2 rb rfl rfl
    obtain ⟨bA, pre, rfl, hbA⟩ := ha.blk (by simp)
    obtain ⟨_, _, _, _, _, _, _, _, rfl⟩ := hra.form
    obtain ⟨_, _, _, _, _, _, _, _, rfl⟩ := hrb.form
    have hna := nodeL_zero hargs a (by simp)
    have hnb := nodeL_zero hargs a2 (by simp)
    have hwa : wtE a ≤ N ∧ wtE a2 ≤ N := by rw [wtL, wtL, wtL] at hN; omega
    have hts := text_size a
    have hts2 := text_size a2
    have hps := fun k => parB_size (strN a.op) (textE a) k
    have hps2 := fun k => parB_size (strN a2.op) (textE a2) k
    have hps3 := hps (lefN op)
    have hps4 := hps2 (rigN op)
    have hsg := sgnB_size op
    have hs7 := strN_le op
    have hsn := strsC_at (signs9_at (op := op) (by omega) o2)
    have hfin : textE (.mk op n ns [a, a2]) = parB (strN a.op) (textE a) (lefN op) ++ wordB op ++ parB (strN a2.op) (textE a2) (rigN op) := by
      rw [textE, if_neg c1, if_neg c2, if_neg c3, if_neg c4, if_neg c5, if_neg c6, textL, textL, textL]
    rw [hfin, ← sgn_word (by omega) o2]
    by_cases c10 : op = 10
    · have el : lefN op = 2 := by rw [c10]; rfl
      have er : rigN op = 1 := by rw [c10]; rfl
      rw [el] at hps3
      rw [er] at hps4
      rw [el, er]
      refine Spec.enter Tryz.func149 rfl Tryz.ntmps149 rfl ?_
      intro w0 hw0
      refine T.seq <| T.region <| SL.w (op_box rfl) ?_
      rintro _ _ _ ⟨B1, rfl, rfl, rfl⟩
      refine SL.as rfl <| SL.nil <| T.seq <| T.seq <| T.region <| SL.v (op_fieldAddr fa45_0 rfl) <| SL.v (op_load ty3 rfl (by repeat constructor) rfl) ?_
      refine SL.nil <| T.block <| T.seq <| T.region <| SL.v (op_eqlF rfl rfl (by omega)) ?_
      refine SL.as rfl <| SL.nil <| T.condF rfl <| T.seq <| T.region <| SL.v (op_eqlF rfl rfl (by omega)) ?_
      refine SL.as rfl <| SL.nil <| T.condF rfl <| T.seq <| T.region <| SL.v (op_eqlF rfl rfl (by omega)) ?_
      refine SL.as rfl <| SL.nil <| T.condF rfl <| T.seq <| T.region <| SL.v (op_eqlF rfl rfl (by omega)) ?_
      refine SL.as rfl <| SL.nil <| T.condF rfl <| T.seq <| T.region <| SL.v (op_eqlF rfl rfl (by omega)) ?_
      refine SL.as rfl <| SL.nil <| T.condF rfl <| T.seq <| T.region <| SL.v (op_eqlF rfl rfl (by omega)) ?_
      refine SL.as rfl <| SL.nil <| T.condF rfl <| T.seq <| T.region <| SL.v (op_eqlF rfl rfl (by omega)) ?_
      refine SL.as rfl <| SL.nil <| T.condF rfl <| T.skip <| T.blk <| T.seq <| T.region <| SL.w (op_buildSlice Tryz.underlying37 bs9 (qs := [(0, _), (1, _), (2, _), (3, _), (4, _), (5, _), (6, _), (7, _), (8, _)]) rfl rfl rfl rfl rfl) ?_
      rintro _ _ _ ⟨B46, rfl, rfl, rfl⟩
      refine SL.v (op_fieldAddr fa45_0 rfl) <| SL.v (op_load ty3 rfl (by repeat constructor) rfl) ?_
      refine SL.v (op_subN (q := 8) rfl rfl (by omega) (by omega)) ?_
      refine SL.v (op_indexN Tryz.underlying37 ty9 rfl rfl (by omega)) ?_
      refine SL.v (op_load ty9 rfl (by repeat constructor) (cread1k' hsn (by omega))) ?_
      refine SL.as rfl <| SL.nil <| T.seq <| T.draw (by kernel_rfl) 9 [.t 0, .t 1, .t 3, .t 4, .r 2, .r 5, .t 6, .t 7, .t 8] (by kernel_rfl) ?_
      refine SD.take rfl panicBody (op_fieldAddr fa45_0 rfl) rfl rfl ?_
      refine SD.take rfl panicBody (op_load ty3 rfl (by repeat constructor) rfl) rfl rfl ?_
      refine SD.take rfl panicBody (op_fieldAddr fa45_0 rfl) rfl rfl ?_
      refine SD.take rfl panicBody (op_load ty3 rfl (by repeat constructor) rfl) rfl rfl ?_
      refine SD.run rfl (op_callF en161 (vs := [_]) rfl (binds_spec (op := op))) rfl rfl ?_
      rintro _ _ X1 ⟨rfl, hX1, rfl⟩
      refine SD.run rfl (op_callF en161 (vs := [_]) rfl (binds_spec (op := op))) rfl rfl ?_
      rintro _ _ X2 ⟨rfl, hX2, rfl⟩
      refine SD.take rfl panicBody (op_addN (q := 1) rfl rfl (by omega)) rfl rfl ?_
      refine SD.take rfl panicBody (op_assign rfl) rfl rfl ?_
      refine SD.take rfl panicBody (op_assign rfl) rfl rfl ?_
      refine SD.nil ?_
      show SL _ _ _ _ _ _ _ [] _ _ _
      refine SL.nil <| T.seq <| T.seq <| T.region <| SL.v (op_fieldAddr fa45_0 rfl) <| SL.v (op_load ty3 rfl (by repeat constructor) rfl) ?_
      refine SL.v (op_eqlT rfl rfl (by omega)) ?_
      refine SL.nil <| T.condT rfl <| T.region <| SL.v (op_assign (v := .int .i64 ((2 : Nat) : Int)) rfl) <| SL.v (op_assign (v := .int .i64 ((1 : Nat) : Int)) rfl) <| SL.nil <| T.seq <| T.seq <| T.region <| SL.v (op_fieldAddr fa45_0 rfl) <| SL.v (op_load ty3 rfl (by repeat constructor) rfl) ?_
      refine SL.v (op_geqF rfl rfl (by omega)) ?_
      refine SL.mv rfl <| SL.skip rfl rfl ?_
      refine SL.skip rfl rfl ?_
      refine SL.skip rfl rfl ?_
      refine SL.v (op_pickF rfl rfl) <| SL.nil <| T.condF rfl <| T.skip <| T.seq <| T.draw (by kernel_rfl) 18 [.t 0, .t 1, .t 2, .t 3, .t 4, .t 7, .t 10, .t 11, .t 12, .t 13, .t 14, .r 5, .t 6, .t 8, .t 9, .r 15, .t 16, .t 17] (by kernel_rfl) ?_
      refine SD.take rfl panicBody (op_fieldAddr fa45_3 rfl) rfl rfl ?_
      refine SD.take rfl panicBody (op_load ty43 rfl (by repeat constructor) rfl) rfl rfl ?_
      refine SD.take rfl panicBody (op_index Tryz.underlying43 ty45 rfl rfl (by omega) (by omega)) rfl rfl ?_
      refine SD.take rfl panicBody (op_loadX ty45 rfl (hbA.mono (hX1.trans' hX2)) (row_read rc4_len (rs := [_, _]) (k := 0) rfl (by omega))) rfl rfl ?_
      refine SD.take rfl panicBody (op_move rfl) rfl rfl ?_
      refine SD.take rfl panicBody (op_move rfl) rfl rfl ?_
      refine SD.take rfl panicBody (op_fieldAddr fa45_3 rfl) rfl rfl ?_
      refine SD.take rfl panicBody (op_load ty43 rfl (by repeat constructor) rfl) rfl rfl ?_
      refine SD.take rfl panicBody (op_index Tryz.underlying43 ty45 rfl rfl (by omega) (by omega)) rfl rfl ?_
      refine SD.take rfl panicBody (op_loadX ty45 rfl (hbA.mono (hX1.trans' hX2)) (row_read rc4_len (rs := [_, _]) (k := 1) rfl (by omega))) rfl rfl ?_
      refine SD.take rfl panicBody (op_move rfl) rfl rfl ?_
      refine SD.run rfl (op_callF en160 (vs := [_, _]) rfl (hopd (least := 2) hwa.1 hna (hra.mono (hX1.trans' hX2)))) rfl rfl ?_
      rintro _ _ X3 ⟨rfl, hX3, rfl⟩
      refine SD.take rfl panicBody (op_addStr rfl rfl (by first | omega | (simp only [ByteArray.size_append]; omega))) rfl rfl ?_
      refine SD.take rfl panicBody (op_addStr rfl rfl (by first | omega | (simp only [ByteArray.size_append]; omega))) rfl rfl ?_
      refine SD.take rfl panicBody (op_addStr rfl rfl (by first | omega | (simp only [ByteArray.size_append]; omega))) rfl rfl ?_
      refine SD.run rfl (op_callF en160 (vs := [_, _]) rfl (hopd (least := 1) hwa.2 hnb ((hrb.mono (hX1.trans' hX2)).mono hX3))) rfl rfl ?_
      rintro _ _ X5 ⟨rfl, hX5, rfl⟩
      refine SD.take rfl panicBody (op_addStr rfl rfl (by first | omega | (simp only [ByteArray.size_append]; omega))) rfl rfl ?_
      refine SD.take rfl panicBody (op_assign rfl) rfl rfl ?_
      refine SD.nil ?_
      show SL _ _ _ _ _ _ _ [] _ _ _
      refine SL.nil <| T.ret1 rfl (ResIs.tmp rfl) ?_
      rfl
    by_cases c5s : 11 ≤ op ∧ op ≤ 15
    · have h5 : strN op = 5 := by unfold strN; rw [if_neg (by omega), if_neg (by omega), if_neg (by omega), if_neg (by omega), if_pos (by omega)]
      have el : lefN op = 6 := by rw [lefN, if_neg c10, if_pos h5, h5]
      have er : rigN op = 6 := by rw [rigN, if_neg c10, h5]
      rw [el] at hps3
      rw [er] at hps4
      rw [el, er]
      obtain ⟨g1, g2⟩ := c5s
      refine Spec.enter Tryz.func149 rfl Tryz.ntmps149 rfl ?_
      intro w0 hw0
      refine T.seq <| T.region <| SL.w (op_box rfl) ?_
      rintro _ _ _ ⟨B1, rfl, rfl, rfl⟩
      refine SL.as rfl <| SL.nil <| T.seq <| T.seq <| T.region <| SL.v (op_fieldAddr fa45_0 rfl) <| SL.v (op_load ty3 rfl (by repeat constructor) rfl) ?_
      refine SL.nil <| T.block <| T.seq <| T.region <| SL.v (op_eqlF rfl rfl (by omega)) ?_
      refine SL.as rfl <| SL.nil <| T.condF rfl <| T.seq <| T.region <| SL.v (op_eqlF rfl rfl (by omega)) ?_
      refine SL.as rfl <| SL.nil <| T.condF rfl <| T.seq <| T.region <| SL.v (op_eqlF rfl rfl (by omega)) ?_
      refine SL.as rfl <| SL.nil <| T.condF rfl <| T.seq <| T.region <| SL.v (op_eqlF rfl rfl (by omega)) ?_
      refine SL.as rfl <| SL.nil <| T.condF rfl <| T.seq <| T.region <| SL.v (op_eqlF rfl rfl (by omega)) ?_
      refine SL.as rfl <| SL.nil <| T.condF rfl <| T.seq <| T.region <| SL.v (op_eqlF rfl rfl (by omega)) ?_
      refine SL.as rfl <| SL.nil <| T.condF rfl <| T.seq <| T.region <| SL.v (op_eqlF rfl rfl (by omega)) ?_
      refine SL.as rfl <| SL.nil <| T.condF rfl <| T.skip <| T.blk <| T.seq <| T.region <| SL.w (op_buildSlice Tryz.underlying37 bs9 (qs := [(0, _), (1, _), (2, _), (3, _), (4, _), (5, _), (6, _), (7, _), (8, _)]) rfl rfl rfl rfl rfl) ?_
      rintro _ _ _ ⟨B46, rfl, rfl, rfl⟩
      refine SL.v (op_fieldAddr fa45_0 rfl) <| SL.v (op_load ty3 rfl (by repeat constructor) rfl) ?_
      refine SL.v (op_subN (q := 8) rfl rfl (by omega) (by omega)) ?_
      refine SL.v (op_indexN Tryz.underlying37 ty9 rfl rfl (by omega)) ?_
      refine SL.v (op_load ty9 rfl (by repeat constructor) (cread1k' hsn (by omega))) ?_
      refine SL.as rfl <| SL.nil <| T.seq <| T.draw (by kernel_rfl) 9 [.t 0, .t 1, .t 3, .t 4, .r 2, .r 5, .t 6, .t 7, .t 8] (by kernel_rfl) ?_
      refine SD.take rfl panicBody (op_fieldAddr fa45_0 rfl) rfl rfl ?_
      refine SD.take rfl panicBody (op_load ty3 rfl (by repeat constructor) rfl) rfl rfl ?_
      refine SD.take rfl panicBody (op_fieldAddr fa45_0 rfl) rfl rfl ?_
      refine SD.take rfl panicBody (op_load ty3 rfl (by repeat constructor) rfl) rfl rfl ?_
      refine SD.run rfl (op_callF en161 (vs := [_]) rfl (binds_spec (op := op))) rfl rfl ?_
      rintro _ _ X1 ⟨rfl, hX1, rfl⟩
      refine SD.run rfl (op_callF en161 (vs := [_]) rfl (binds_spec (op := op))) rfl rfl ?_
      rintro _ _ X2 ⟨rfl, hX2, rfl⟩
      rw [h5]
      refine SD.take rfl panicBody (op_addN (q := 1) rfl rfl (by omega)) rfl rfl ?_
      refine SD.take rfl panicBody (op_assign rfl) rfl rfl ?_
      refine SD.take rfl panicBody (op_assign rfl) rfl rfl ?_
      refine SD.nil ?_
      show SL _ _ _ _ _ _ _ [] _ _ _
      refine SL.nil <| T.seq <| T.seq <| T.region <| SL.v (op_fieldAddr fa45_0 rfl) <| SL.v (op_load ty3 rfl (by repeat constructor) rfl) ?_
      refine SL.v (op_eqlF rfl rfl (by omega)) ?_
      refine SL.nil <| T.condF rfl <| T.skip <| T.seq <| T.seq <| T.region <| SL.v (op_fieldAddr fa45_0 rfl) <| SL.v (op_load ty3 rfl (by repeat constructor) rfl) ?_
      refine SL.v (op_geqT rfl rfl (by omega)) ?_
      refine SL.mv rfl <| SL.v (op_fieldAddr fa45_0 rfl) <| SL.v (op_load ty3 rfl (by repeat constructor) rfl) ?_
      refine SL.v (op_leqT rfl rfl (by omega)) ?_
      refine SL.v (op_pickT rfl rfl) <| SL.nil <| T.condT rfl <| T.region <| SL.v (op_assign (v := .int .i64 ((6 : Nat) : Int)) rfl) <| SL.nil <| T.seq <| T.draw (by kernel_rfl) 18 [.t 0, .t 1, .t 2, .t 3, .t 4, .t 7, .t 10, .t 11, .t 12, .t 13, .t 14, .r 5, .t 6, .t 8, .t 9, .r 15, .t 16, .t 17] (by kernel_rfl) ?_
      refine SD.take rfl panicBody (op_fieldAddr fa45_3 rfl) rfl rfl ?_
      refine SD.take rfl panicBody (op_load ty43 rfl (by repeat constructor) rfl) rfl rfl ?_
      refine SD.take rfl panicBody (op_index Tryz.underlying43 ty45 rfl rfl (by omega) (by omega)) rfl rfl ?_
      refine SD.take rfl panicBody (op_loadX ty45 rfl (hbA.mono (hX1.trans' hX2)) (row_read rc4_len (rs := [_, _]) (k := 0) rfl (by omega))) rfl rfl ?_
      refine SD.take rfl panicBody (op_move rfl) rfl rfl ?_
      refine SD.take rfl panicBody (op_move rfl) rfl rfl ?_
      refine SD.take rfl panicBody (op_fieldAddr fa45_3 rfl) rfl rfl ?_
      refine SD.take rfl panicBody (op_load ty43 rfl (by repeat constructor) rfl) rfl rfl ?_
      refine SD.take rfl panicBody (op_index Tryz.underlying43 ty45 rfl rfl (by omega) (by omega)) rfl rfl ?_
      refine SD.take rfl panicBody (op_loadX ty45 rfl (hbA.mono (hX1.trans' hX2)) (row_read rc4_len (rs := [_, _]) (k := 1) rfl (by omega))) rfl rfl ?_
      refine SD.take rfl panicBody (op_move rfl) rfl rfl ?_
      refine SD.run rfl (op_callF en160 (vs := [_, _]) rfl (hopd (least := 6) hwa.1 hna (hra.mono (hX1.trans' hX2)))) rfl rfl ?_
      rintro _ _ X3 ⟨rfl, hX3, rfl⟩
      refine SD.take rfl panicBody (op_addStr rfl rfl (by first | omega | (simp only [ByteArray.size_append]; omega))) rfl rfl ?_
      refine SD.take rfl panicBody (op_addStr rfl rfl (by first | omega | (simp only [ByteArray.size_append]; omega))) rfl rfl ?_
      refine SD.take rfl panicBody (op_addStr rfl rfl (by first | omega | (simp only [ByteArray.size_append]; omega))) rfl rfl ?_
      refine SD.run rfl (op_callF en160 (vs := [_, _]) rfl (hopd (least := 6) hwa.2 hnb ((hrb.mono (hX1.trans' hX2)).mono hX3))) rfl rfl ?_
      rintro _ _ X5 ⟨rfl, hX5, rfl⟩
      refine SD.take rfl panicBody (op_addStr rfl rfl (by first | omega | (simp only [ByteArray.size_append]; omega))) rfl rfl ?_
      refine SD.take rfl panicBody (op_assign rfl) rfl rfl ?_
      refine SD.nil ?_
      show SL _ _ _ _ _ _ _ [] _ _ _
      refine SL.nil <| T.ret1 rfl (ResIs.tmp rfl) ?_
      rfl
    · have h5 : ¬strN op = 5 := by
        rcases (by omega : op = 8 ∨ op = 9 ∨ op = 16) with rfl | rfl | rfl <;> decide
      have el : lefN op = strN op := by rw [lefN, if_neg c10, if_neg h5]
      have er : rigN op = strN op + 1 := if_neg c10
      rw [el] at hps3
      rw [er] at hps4
      rw [el, er]
      by_cases g1 : 11 ≤ op
      · have g2 : ¬op ≤ 15 := fun h => c5s ⟨g1, h⟩
        refine Spec.enter Tryz.func149 rfl Tryz.ntmps149 rfl ?_
        intro w0 hw0
        refine T.seq <| T.region <| SL.w (op_box rfl) ?_
        rintro _ _ _ ⟨B1, rfl, rfl, rfl⟩
        refine SL.as rfl <| SL.nil <| T.seq <| T.seq <| T.region <| SL.v (op_fieldAddr fa45_0 rfl) <| SL.v (op_load ty3 rfl (by repeat constructor) rfl) ?_
        refine SL.nil <| T.block <| T.seq <| T.region <| SL.v (op_eqlF rfl rfl (by omega)) ?_
        refine SL.as rfl <| SL.nil <| T.condF rfl <| T.seq <| T.region <| SL.v (op_eqlF rfl rfl (by omega)) ?_
        refine SL.as rfl <| SL.nil <| T.condF rfl <| T.seq <| T.region <| SL.v (op_eqlF rfl rfl (by omega)) ?_
        refine SL.as rfl <| SL.nil <| T.condF rfl <| T.seq <| T.region <| SL.v (op_eqlF rfl rfl (by omega)) ?_
        refine SL.as rfl <| SL.nil <| T.condF rfl <| T.seq <| T.region <| SL.v (op_eqlF rfl rfl (by omega)) ?_
        refine SL.as rfl <| SL.nil <| T.condF rfl <| T.seq <| T.region <| SL.v (op_eqlF rfl rfl (by omega)) ?_
        refine SL.as rfl <| SL.nil <| T.condF rfl <| T.seq <| T.region <| SL.v (op_eqlF rfl rfl (by omega)) ?_
        refine SL.as rfl <| SL.nil <| T.condF rfl <| T.skip <| T.blk <| T.seq <| T.region <| SL.w (op_buildSlice Tryz.underlying37 bs9 (qs := [(0, _), (1, _), (2, _), (3, _), (4, _), (5, _), (6, _), (7, _), (8, _)]) rfl rfl rfl rfl rfl) ?_
        rintro _ _ _ ⟨B46, rfl, rfl, rfl⟩
        refine SL.v (op_fieldAddr fa45_0 rfl) <| SL.v (op_load ty3 rfl (by repeat constructor) rfl) ?_
        refine SL.v (op_subN (q := 8) rfl rfl (by omega) (by omega)) ?_
        refine SL.v (op_indexN Tryz.underlying37 ty9 rfl rfl (by omega)) ?_
        refine SL.v (op_load ty9 rfl (by repeat constructor) (cread1k' hsn (by omega))) ?_
        refine SL.as rfl <| SL.nil <| T.seq <| T.draw (by kernel_rfl) 9 [.t 0, .t 1, .t 3, .t 4, .r 2, .r 5, .t 6, .t 7, .t 8] (by kernel_rfl) ?_
        refine SD.take rfl panicBody (op_fieldAddr fa45_0 rfl) rfl rfl ?_
        refine SD.take rfl panicBody (op_load ty3 rfl (by repeat constructor) rfl) rfl rfl ?_
        refine SD.take rfl panicBody (op_fieldAddr fa45_0 rfl) rfl rfl ?_
        refine SD.take rfl panicBody (op_load ty3 rfl (by repeat constructor) rfl) rfl rfl ?_
        refine SD.run rfl (op_callF en161 (vs := [_]) rfl (binds_spec (op := op))) rfl rfl ?_
        rintro _ _ X1 ⟨rfl, hX1, rfl⟩
        refine SD.run rfl (op_callF en161 (vs := [_]) rfl (binds_spec (op := op))) rfl rfl ?_
        rintro _ _ X2 ⟨rfl, hX2, rfl⟩
        refine SD.take rfl panicBody (op_addN (q := 1) rfl rfl (by omega)) rfl rfl ?_
        refine SD.take rfl panicBody (op_assign rfl) rfl rfl ?_
        refine SD.take rfl panicBody (op_assign rfl) rfl rfl ?_
        refine SD.nil ?_
        show SL _ _ _ _ _ _ _ [] _ _ _
        refine SL.nil <| T.seq <| T.seq <| T.region <| SL.v (op_fieldAddr fa45_0 rfl) <| SL.v (op_load ty3 rfl (by repeat constructor) rfl) ?_
        refine SL.v (op_eqlF rfl rfl (by omega)) ?_
        refine SL.nil <| T.condF rfl <| T.skip <| T.seq <| T.seq <| T.region <| SL.v (op_fieldAddr fa45_0 rfl) <| SL.v (op_load ty3 rfl (by repeat constructor) rfl) ?_
        refine SL.v (op_geqT rfl rfl (by omega)) ?_
        refine SL.mv rfl <| SL.v (op_fieldAddr fa45_0 rfl) <| SL.v (op_load ty3 rfl (by repeat constructor) rfl) ?_
        refine SL.v (op_leqF rfl rfl (by omega)) ?_
        refine SL.v (op_pickT rfl rfl) <| SL.nil <| T.condF rfl <| T.skip <| T.seq <| T.draw (by kernel_rfl) 18 [.t 0, .t 1, .t 2, .t 3, .t 4, .t 7, .t 10, .t 11, .t 12, .t 13, .t 14, .r 5, .t 6, .t 8, .t 9, .r 15, .t 16, .t 17] (by kernel_rfl) ?_
        refine SD.take rfl panicBody (op_fieldAddr fa45_3 rfl) rfl rfl ?_
        refine SD.take rfl panicBody (op_load ty43 rfl (by repeat constructor) rfl) rfl rfl ?_
        refine SD.take rfl panicBody (op_index Tryz.underlying43 ty45 rfl rfl (by omega) (by omega)) rfl rfl ?_
        refine SD.take rfl panicBody (op_loadX ty45 rfl (hbA.mono (hX1.trans' hX2)) (row_read rc4_len (rs := [_, _]) (k := 0) rfl (by omega))) rfl rfl ?_
        refine SD.take rfl panicBody (op_move rfl) rfl rfl ?_
        refine SD.take rfl panicBody (op_move rfl) rfl rfl ?_
        refine SD.take rfl panicBody (op_fieldAddr fa45_3 rfl) rfl rfl ?_
        refine SD.take rfl panicBody (op_load ty43 rfl (by repeat constructor) rfl) rfl rfl ?_
        refine SD.take rfl panicBody (op_index Tryz.underlying43 ty45 rfl rfl (by omega) (by omega)) rfl rfl ?_
        refine SD.take rfl panicBody (op_loadX ty45 rfl (hbA.mono (hX1.trans' hX2)) (row_read rc4_len (rs := [_, _]) (k := 1) rfl (by omega))) rfl rfl ?_
        refine SD.take rfl panicBody (op_move rfl) rfl rfl ?_
        refine SD.run rfl (op_callF en160 (vs := [_, _]) rfl (hopd hwa.1 hna (hra.mono (hX1.trans' hX2)))) rfl rfl ?_
        rintro _ _ X3 ⟨rfl, hX3, rfl⟩
        refine SD.take rfl panicBody (op_addStr rfl rfl (by first | omega | (simp only [ByteArray.size_append]; omega))) rfl rfl ?_
        refine SD.take rfl panicBody (op_addStr rfl rfl (by first | omega | (simp only [ByteArray.size_append]; omega))) rfl rfl ?_
        refine SD.take rfl panicBody (op_addStr rfl rfl (by first | omega | (simp only [ByteArray.size_append]; omega))) rfl rfl ?_
        refine SD.run rfl (op_callF en160 (vs := [_, _]) rfl (hopd hwa.2 hnb ((hrb.mono (hX1.trans' hX2)).mono hX3))) rfl rfl ?_
        rintro _ _ X5 ⟨rfl, hX5, rfl⟩
        refine SD.take rfl panicBody (op_addStr rfl rfl (by first | omega | (simp only [ByteArray.size_append]; omega))) rfl rfl ?_
        refine SD.take rfl panicBody (op_assign rfl) rfl rfl ?_
        refine SD.nil ?_
        show SL _ _ _ _ _ _ _ [] _ _ _
        refine SL.nil <| T.ret1 rfl (ResIs.tmp rfl) ?_
        rfl
      · refine Spec.enter Tryz.func149 rfl Tryz.ntmps149 rfl ?_
        intro w0 hw0
        refine T.seq <| T.region <| SL.w (op_box rfl) ?_
        rintro _ _ _ ⟨B1, rfl, rfl, rfl⟩
        refine SL.as rfl <| SL.nil <| T.seq <| T.seq <| T.region <| SL.v (op_fieldAddr fa45_0 rfl) <| SL.v (op_load ty3 rfl (by repeat constructor) rfl) ?_
        refine SL.nil <| T.block <| T.seq <| T.region <| SL.v (op_eqlF rfl rfl (by omega)) ?_
        refine SL.as rfl <| SL.nil <| T.condF rfl <| T.seq <| T.region <| SL.v (op_eqlF rfl rfl (by omega)) ?_
        refine SL.as rfl <| SL.nil <| T.condF rfl <| T.seq <| T.region <| SL.v (op_eqlF rfl rfl (by omega)) ?_
        refine SL.as rfl <| SL.nil <| T.condF rfl <| T.seq <| T.region <| SL.v (op_eqlF rfl rfl (by omega)) ?_
        refine SL.as rfl <| SL.nil <| T.condF rfl <| T.seq <| T.region <| SL.v (op_eqlF rfl rfl (by omega)) ?_
        refine SL.as rfl <| SL.nil <| T.condF rfl <| T.seq <| T.region <| SL.v (op_eqlF rfl rfl (by omega)) ?_
        refine SL.as rfl <| SL.nil <| T.condF rfl <| T.seq <| T.region <| SL.v (op_eqlF rfl rfl (by omega)) ?_
        refine SL.as rfl <| SL.nil <| T.condF rfl <| T.skip <| T.blk <| T.seq <| T.region <| SL.w (op_buildSlice Tryz.underlying37 bs9 (qs := [(0, _), (1, _), (2, _), (3, _), (4, _), (5, _), (6, _), (7, _), (8, _)]) rfl rfl rfl rfl rfl) ?_
        rintro _ _ _ ⟨B46, rfl, rfl, rfl⟩
        refine SL.v (op_fieldAddr fa45_0 rfl) <| SL.v (op_load ty3 rfl (by repeat constructor) rfl) ?_
        refine SL.v (op_subN (q := 8) rfl rfl (by omega) (by omega)) ?_
        refine SL.v (op_indexN Tryz.underlying37 ty9 rfl rfl (by omega)) ?_
        refine SL.v (op_load ty9 rfl (by repeat constructor) (cread1k' hsn (by omega))) ?_
        refine SL.as rfl <| SL.nil <| T.seq <| T.draw (by kernel_rfl) 9 [.t 0, .t 1, .t 3, .t 4, .r 2, .r 5, .t 6, .t 7, .t 8] (by kernel_rfl) ?_
        refine SD.take rfl panicBody (op_fieldAddr fa45_0 rfl) rfl rfl ?_
        refine SD.take rfl panicBody (op_load ty3 rfl (by repeat constructor) rfl) rfl rfl ?_
        refine SD.take rfl panicBody (op_fieldAddr fa45_0 rfl) rfl rfl ?_
        refine SD.take rfl panicBody (op_load ty3 rfl (by repeat constructor) rfl) rfl rfl ?_
        refine SD.run rfl (op_callF en161 (vs := [_]) rfl (binds_spec (op := op))) rfl rfl ?_
        rintro _ _ X1 ⟨rfl, hX1, rfl⟩
        refine SD.run rfl (op_callF en161 (vs := [_]) rfl (binds_spec (op := op))) rfl rfl ?_
        rintro _ _ X2 ⟨rfl, hX2, rfl⟩
        refine SD.take rfl panicBody (op_addN (q := 1) rfl rfl (by omega)) rfl rfl ?_
        refine SD.take rfl panicBody (op_assign rfl) rfl rfl ?_
        refine SD.take rfl panicBody (op_assign rfl) rfl rfl ?_
        refine SD.nil ?_
        show SL _ _ _ _ _ _ _ [] _ _ _
        refine SL.nil <| T.seq <| T.seq <| T.region <| SL.v (op_fieldAddr fa45_0 rfl) <| SL.v (op_load ty3 rfl (by repeat constructor) rfl) ?_
        refine SL.v (op_eqlF rfl rfl (by omega)) ?_
        refine SL.nil <| T.condF rfl <| T.skip <| T.seq <| T.seq <| T.region <| SL.v (op_fieldAddr fa45_0 rfl) <| SL.v (op_load ty3 rfl (by repeat constructor) rfl) ?_
        refine SL.v (op_geqF rfl rfl (by omega)) ?_
        refine SL.mv rfl <| SL.skip rfl rfl ?_
        refine SL.skip rfl rfl ?_
        refine SL.skip rfl rfl ?_
        refine SL.v (op_pickF rfl rfl) <| SL.nil <| T.condF rfl <| T.skip <| T.seq <| T.draw (by kernel_rfl) 18 [.t 0, .t 1, .t 2, .t 3, .t 4, .t 7, .t 10, .t 11, .t 12, .t 13, .t 14, .r 5, .t 6, .t 8, .t 9, .r 15, .t 16, .t 17] (by kernel_rfl) ?_
        refine SD.take rfl panicBody (op_fieldAddr fa45_3 rfl) rfl rfl ?_
        refine SD.take rfl panicBody (op_load ty43 rfl (by repeat constructor) rfl) rfl rfl ?_
        refine SD.take rfl panicBody (op_index Tryz.underlying43 ty45 rfl rfl (by omega) (by omega)) rfl rfl ?_
        refine SD.take rfl panicBody (op_loadX ty45 rfl (hbA.mono (hX1.trans' hX2)) (row_read rc4_len (rs := [_, _]) (k := 0) rfl (by omega))) rfl rfl ?_
        refine SD.take rfl panicBody (op_move rfl) rfl rfl ?_
        refine SD.take rfl panicBody (op_move rfl) rfl rfl ?_
        refine SD.take rfl panicBody (op_fieldAddr fa45_3 rfl) rfl rfl ?_
        refine SD.take rfl panicBody (op_load ty43 rfl (by repeat constructor) rfl) rfl rfl ?_
        refine SD.take rfl panicBody (op_index Tryz.underlying43 ty45 rfl rfl (by omega) (by omega)) rfl rfl ?_
        refine SD.take rfl panicBody (op_loadX ty45 rfl (hbA.mono (hX1.trans' hX2)) (row_read rc4_len (rs := [_, _]) (k := 1) rfl (by omega))) rfl rfl ?_
        refine SD.take rfl panicBody (op_move rfl) rfl rfl ?_
        refine SD.run rfl (op_callF en160 (vs := [_, _]) rfl (hopd hwa.1 hna (hra.mono (hX1.trans' hX2)))) rfl rfl ?_
        rintro _ _ X3 ⟨rfl, hX3, rfl⟩
        refine SD.take rfl panicBody (op_addStr rfl rfl (by first | omega | (simp only [ByteArray.size_append]; omega))) rfl rfl ?_
        refine SD.take rfl panicBody (op_addStr rfl rfl (by first | omega | (simp only [ByteArray.size_append]; omega))) rfl rfl ?_
        refine SD.take rfl panicBody (op_addStr rfl rfl (by first | omega | (simp only [ByteArray.size_append]; omega))) rfl rfl ?_
        refine SD.run rfl (op_callF en160 (vs := [_, _]) rfl (hopd hwa.2 hnb ((hrb.mono (hX1.trans' hX2)).mono hX3))) rfl rfl ?_
        rintro _ _ X5 ⟨rfl, hX5, rfl⟩
        refine SD.take rfl panicBody (op_addStr rfl rfl (by first | omega | (simp only [ByteArray.size_append]; omega))) rfl rfl ?_
        refine SD.take rfl panicBody (op_assign rfl) rfl rfl ?_
        refine SD.nil ?_
        show SL _ _ _ _ _ _ _ [] _ _ _
        refine SL.nil <| T.ret1 rfl (ResIs.tmp rfl) ?_
        rfl
end Go.Proofs.YtnabbnhefjfegaaGreatDoor
namespace Go.Proofs.YtnabbnhefjfegaaGreatDoor
section
set_option maxRecDepth 100000
theorem en26 : Enters Tryz.prog 26 := enters_mk Tryz.func26 (by kernel_rfl) rfl
end
open Go.RowKit
structure Itm where
  enf : Bool
  kind : Nat
  name : Nat
  nodes : List Nd
abbrev RowI := Bool × Nat × Nat × Value
def itC (r : RowI) : List Value := [.bool r.1, .int .u8 (r.2.1 : Int), .int .u8 (r.2.2.1 : Int), r.2.2.2]
def ItR (X : PMap) (x : Itm) (r : RowI) : Prop := r.1 = x.enf ∧ r.2.1 = x.kind ∧ r.2.2.1 = x.name ∧ RowR ndC X r.2.2.2 x.nodes
def ItsR (X : PMap) (v : Value) (l : List Itm) : Prop := ∃ rows : List RowI, RowR itC X v rows ∧ rows.length = l.length ∧ ∀ (i : Nat) (x : Itm) (r : RowI), l[i]? = some x → rows[i]? = some r → ItR X x r
theorem ItsR.mono {X X' : PMap} {v : Value} {l : List Itm} (h : ItsR X v l) (hX : X.le X') : ItsR X' v l :=
  let ⟨rows, h1, h2, h3⟩ := h
  ⟨rows, h1.mono hX, h2, fun i x r a b => let ⟨p, q, s, t⟩ := h3 i x r a b; ⟨p, q, s, t.mono hX⟩⟩
/-- The specification's constraints in memory. -/
def rc7i (r : Row7) : List Value := [.bool r.1, .int .i64 (r.2.1 : Int), .string r.2.2.1, r.2.2.2.1, r.2.2.2.2.1, r.2.2.2.2.2.1, r.2.2.2.2.2.2]
def ConRi (X : PMap) (c : Con) (r : Row7) : Prop := r.1 = c.enf ∧ r.2.1 = c.kind ∧ r.2.2.1 = c.name ∧ ExR .i64 X c.ex r.2.2.2
theorem ConRi.mono {X X' : PMap} {c : Con} {r : Row7} (h : ConRi X c r) (hX : X.le X') : ConRi X' c r := ⟨h.1, h.2.1, h.2.2.1, h.2.2.2.mono hX⟩
theorem ConRi.form {X : PMap} {c : Con} {r : Row7} (h : ConRi X c r) : ∃ (o : Nat) (n : Int) (A B : Option Addr) (l c1 l' c' : Nat), r = (c.enf, c.kind, c.name, .int .i64 (o : Int), .int .i64 n, .slice A l c1, .slice B l' c') := by
  obtain ⟨e, k, s, r4⟩ := r
  obtain ⟨h1, h2, h3, h4⟩ := h
  simp only at h1 h2 h3 h4
  subst h1 h2 h3
  obtain ⟨o, n, A, B, l, c1, l', c', rfl⟩ := h4.form
  exact ⟨_, _, _, _, _, _, _, _, rfl⟩
def ConsRi (X : PMap) (v : Value) (cs : List Con) : Prop := ∃ rows : List Row7, RowR rc7i X v rows ∧ rows.length = cs.length ∧ ∀ (i : Nat) (c : Con) (r : Row7), cs[i]? = some c → rows[i]? = some r → ConRi X c r
theorem ConsRi.mono {X X' : PMap} {v : Value} {cs : List Con} (h : ConsRi X v cs) (hX : X.le X') : ConsRi X' v cs :=
  let ⟨rows, h1, h2, h3⟩ := h
  ⟨rows, h1.mono hX, h2, fun i c r a b => (h3 i c r a b).mono hX⟩
/-- One row more. -/
theorem rows_snoc {α β : Type} {R : PMap → α → β → Prop} {X : PMap} {cs : List α} {rows : List β} {c : α} {r : β} (hl : rows.length = cs.length) (h : ∀ (i : Nat) (c : α) (r : β), cs[i]? = some c → rows[i]? = some r → R X c r) (hc : R X c r) :
    ∀ (i : Nat) (c' : α) (r' : β), (cs ++ [c])[i]? = some c' → (rows ++ [r])[i]? = some r' → R X c' r' := by
  intro i c' r' h1 h2
  rcases Nat.lt_or_ge i cs.length with hi | hi
  · rw [List.getElem?_append_left hi] at h1
    rw [List.getElem?_append_left (by omega)] at h2
    exact h i c' r' h1 h2
  · have hik : i = cs.length := by
      have := (List.getElem?_eq_some_iff.1 h1).1
      rw [List.length_append] at this; simp at this; omega
    subst hik
    rw [List.getElem?_append_right (Nat.le_refl _), Nat.sub_self] at h1
    rw [List.getElem?_append_right (by omega), ← hl, Nat.sub_self] at h2
    simp only [List.getElem?_cons_zero, Option.some.injEq] at h1 h2
    subst h1 h2
    exact hc
end Go.Proofs.YtnabbnhefjfegaaGreatDoor
namespace Go.Proofs.YtnabbnhefjfegaaGreatDoor
open Go.ChangeShapes Go.WideShapes Go.ChangeAt Go.RowKit Go.Joins Go.Deep
theorem u8_of {z : Int} (h : (Lit.int .u8 z).wf = true) : ∃ b : Nat, z = (b : Int) ∧ b < 256 := by
  simp only [Lit.wf, Bool.and_eq_true, decide_eq_true_eq] at h
  obtain ⟨h1, h2⟩ : (0 : Int) ≤ z ∧ z ≤ 255 := h
  obtain ⟨b, rfl⟩ := Int.eq_ofNat_of_zero_le h1
  exact ⟨b, rfl, by omega⟩
theorem okWide_slice {P : Program} {W : World} {base : Nat} {t e : TypeId} {v : Value} (ht : P.underlying t = some (.slice e)) (h : Value.okWide P W .any base t v) : ∃ A len cap, v = .slice A len cap := by
  simp only [Value.okWide, Cell.okWide, ht] at h
  simp only [Cell.ok, ht] at h
  cases v <;> simp_all
section
variable {H : Type} {enc : TypeId × Value → H} {W : World}
theorem node_cells : Tryz.prog.cellsOf 158 = 4 := by kernel_rfl
set_option maxRecDepth 100000 in
theorem node_el {n : Nat} {cs : List Value} {y : DataW H × List MemPlace} (hl : cs.length = 4) (h : DataW.trod enc Tryz.prog W 0 (fun _ => true) true n 158 cs = some y) : ∃ x : Nd, cs = ndC x ∧ ndOk x := by
  obtain ⟨xs, m, _, rfl, _, hlen, hf⟩ := DataW.trod_struct Tryz.underlying158 h
  match cs, hl with
  | [a, b, c, d], _ =>
    have f0 : DataW.trod enc Tryz.prog W 0 (fun _ => true) true m 5 (List.take (Tryz.prog.cellsOf 5) (List.drop 0 [a, b, c, d])) = xs[0]? := hf 0 _ rfl
    have f1 : DataW.trod enc Tryz.prog W 0 (fun _ => true) true m 5 (List.take (Tryz.prog.cellsOf 5) (List.drop 1 [a, b, c, d])) = xs[1]? := hf 1 _ rfl
    have f2 : DataW.trod enc Tryz.prog W 0 (fun _ => true) true m 5 (List.take (Tryz.prog.cellsOf 5) (List.drop 2 [a, b, c, d])) = xs[2]? := hf 2 _ rfl
    have f3 : DataW.trod enc Tryz.prog W 0 (fun _ => true) true m 3 (List.take (Tryz.prog.cellsOf 3) (List.drop 3 [a, b, c, d])) = xs[3]? := hf 3 _ rfl
    rw [cells5] at f0 f1 f2
    rw [show Tryz.prog.cellsOf 3 = 1 by kernel_rfl] at f3
    match xs, hlen with
    | [x0, x1, x2, x3], _ =>
      obtain ⟨za, e0, _, w0⟩ := DataW.trod_int Tryz.underlying5 f0
      obtain ⟨zb, e1, _, w1⟩ := DataW.trod_int Tryz.underlying5 f1
      obtain ⟨zc, e2, _, w2⟩ := DataW.trod_int Tryz.underlying5 f2
      obtain ⟨zd, e3, _, w3⟩ := DataW.trod_int Tryz.underlying3 f3
      obtain ⟨na, rfl, ha⟩ := u8_of w0
      obtain ⟨nb, rfl, hb⟩ := u8_of w1
      obtain ⟨nc, rfl, hc⟩ := u8_of w2
      refine ⟨⟨na, nb, nc, zd⟩, ?_, ha, hb, hc⟩
      simp at e0 e1 e2 e3
      subst e0 e1 e2 e3
      rfl
set_option maxRecDepth 100000 in
theorem open_nodes {base : Nat} {v : Value} {d : DataW H} {p : List MemPlace} (hval : Value.okWide Tryz.prog W .any base 53 v) (h : DataW.Trod enc Tryz.prog W 0 (fun _ => true) true 53 v d p) : ∃ rs : List Nd, (∀ x ∈ rs, ndOk x) ∧ RowR ndC (heapX W) v rs :=
  open_rows (rc := ndC) Tryz.underlying53 node_cells (by omega) (fun _ => rfl) (fun hl h => node_el hl h) (okWide_slice Tryz.underlying53 hval) h
end
end Go.Proofs.YtnabbnhefjfegaaGreatDoor
namespace Go.Proofs.YtnabbnhefjfegaaGreatDoor
open Go.ChangeShapes Go.WideShapes Go.ChangeAt Go.RowKit Go.Joins Go.Deep
end Go.Proofs.YtnabbnhefjfegaaGreatDoor
namespace Go.Proofs.YtnabbnhefjfegaaGreatDoor
open Go.RowKit
/-- A token: 0 the end, 1 a word, 2 a number, 3 a symbol. -/
structure Tk where
  kind : Nat
  text : ByteArray
  num : Nat
  off : Nat
def digB (b : UInt8) : Bool := decide (48 ≤ b.toNat ∧ b.toNat ≤ 57)
def blkB (b : UInt8) : Bool := decide (b.toNat = 32 ∨ b.toNat = 9 ∨ b.toNat = 10 ∨ b.toNat = 13)
/-- What is left behind blanks and comments; true: inside a comment. -/
def skipL : Bool → List UInt8 → List UInt8
  | _, [] => []
  | true, b :: l => if b.toNat = 10 then skipL false l else skipL true l
  | false, b :: l => if blkB b then skipL false l else if b.toNat = 35 then skipL true l else b :: l
def symsL : List (List UInt8) := [[45, 62], [60, 61], [62, 61], [61, 61], [60], [62], [40], [41], [44], [59], [58], [43], [45]]
def valL (l : List UInt8) : Nat := l.foldl (fun n c => 10 * n + (c.toNat - 48)) 0
def glued : List UInt8 → Bool
  | [] => false
  | b :: _ => letB b || b.toNat == 95
/-- The digits of a number; none: it breaks a rule. -/
def numT (l : List UInt8) : Option (List UInt8) :=
  if 6 < (l.takeWhile digB).length ∨ (1 < (l.takeWhile digB).length ∧ l.head? = some 48) ∨ glued (l.drop (l.takeWhile digB).length) = true then none else some (l.takeWhile digB)
/-- The kind, the text and the number of the token at the front. -/
def tok1 : List UInt8 → Option (Nat × List UInt8 × Nat)
  | [] => none
  | b :: l => if letB b then some (1, (b :: l).takeWhile innB, 0) else if digB b then (numT (b :: l)).map fun d => (2, d, valL d) else (symsL.find? fun s => s.isPrefixOf (b :: l)).map fun s => (3, s, 0)
def consR (t : Tk) : Except Nat (List Tk) → Except Nat (List Tk)
  | .ok l => .ok (t :: l)
  | .error o => .error o
def appR (ts : List Tk) : Except Nat (List Tk) → Except Nat (List Tk)
  | .ok l => .ok (ts ++ l)
  | .error o => .error o
/-- The tokens of what is left of a text of N bytes, or the offset at which there is none. -/
def scanG (N : Nat) : Nat → List UInt8 → Except Nat (List Tk)
  | 0, _ => .error 0
  | f + 1, l => match skipL false l with
    | [] => .ok [⟨0, ⟨#[]⟩, 0, N⟩]
    | b :: r => match tok1 (b :: r) with
      | none => .error (N - (b :: r).length)
      | some (k, t, n) => consR ⟨k, ⟨t.toArray⟩, n, N - (b :: r).length⟩ (scanG N f ((b :: r).drop t.length))
def scanL (N : Nat) (l : List UInt8) : Except Nat (List Tk) := scanG N (l.length + 1) l
theorem skip_len : ∀ (c : Bool) (l : List UInt8), (skipL c l).length ≤ l.length
  | _, [] => by simp [skipL]
  | true, b :: l => by
    rw [skipL]
    have h1 := skip_len false l
    have h2 := skip_len true l
    split <;> simp only [List.length_cons] <;> omega
  | false, b :: l => by
    rw [skipL]
    have h1 := skip_len false l
    have h2 := skip_len true l
    split
    · simp only [List.length_cons]; omega
    · split
      · simp only [List.length_cons]; omega
      · exact Nat.le_refl _
theorem symsL_pos : ∀ s ∈ symsL, 0 < s.length := by decide
theorem tok1_pos {l : List UInt8} {k n : Nat} {t : List UInt8} (h : tok1 l = some (k, t, n)) : 0 < t.length := by
  cases l with
  | nil => cases h
  | cons b l =>
    rw [tok1] at h
    split at h
    · rename_i hb
      have hi : innB b = true := by simp only [letB, innB, decide_eq_true_eq] at hb ⊢; omega
      simp only [Option.some.injEq, Prod.mk.injEq] at h
      rw [← h.2.1, List.takeWhile_cons_of_pos hi]; simp
    · split at h
      · rename_i hd
        unfold numT at h
        split at h
        · cases h
        · simp only [Option.map_some, Option.some.injEq, Prod.mk.injEq] at h
          rw [← h.2.1, List.takeWhile_cons_of_pos hd]; simp
      · cases hf : symsL.find? fun s => s.isPrefixOf (b :: l) with
        | none => rw [hf] at h; cases h
        | some s =>
          rw [hf] at h
          simp only [Option.map_some, Option.some.injEq, Prod.mk.injEq] at h
          rw [← h.2.1]
          exact symsL_pos s (List.mem_of_find?_eq_some hf)
theorem scanG_fuel (N : Nat) : ∀ (f g : Nat) (l : List UInt8), l.length < f → l.length < g → scanG N f l = scanG N g l
  | 0, _, _, h, _ => by omega
  | _, 0, _, _, h => by omega
  | f + 1, g + 1, l, hf, hg => by
    rw [scanG, scanG]
    have hs := skip_len false l
    cases h : skipL false l with
    | nil => rfl
    | cons b r =>
      rw [h] at hs
      simp only
      cases ht : tok1 (b :: r) with
      | none => rfl
      | some x =>
        obtain ⟨k, t, n⟩ := x
        have hp := tok1_pos ht
        have hd : ((b :: r).drop t.length).length < l.length := by rw [List.length_drop]; simp only [List.length_cons] at hs ⊢; omega
        simp only
        rw [scanG_fuel N f g _ (by omega) (by omega)]
theorem scan_eq (N : Nat) (l : List UInt8) : scanL N l = match skipL false l with
    | [] => .ok [⟨0, ⟨#[]⟩, 0, N⟩]
    | b :: r => match tok1 (b :: r) with
      | none => .error (N - (b :: r).length)
      | some (k, t, n) => consR ⟨k, ⟨t.toArray⟩, n, N - (b :: r).length⟩ (scanL N ((b :: r).drop t.length)) := by
  rw [scanL, scanG]
  have hs := skip_len false l
  cases h : skipL false l with
  | nil => rfl
  | cons b r =>
    rw [h] at hs
    simp only
    cases ht : tok1 (b :: r) with
    | none => rfl
    | some x =>
      obtain ⟨k, t, n⟩ := x
      have hp := tok1_pos ht
      have hd : ((b :: r).drop t.length).length < l.length := by rw [List.length_drop]; simp only [List.length_cons] at hs ⊢; omega
      simp only
      rw [scanL, scanG_fuel N l.length (((b :: r).drop t.length).length + 1) _ hd (by omega)]
theorem scan_skip {N : Nat} {l l' : List UInt8} (h : skipL false l = skipL false l') : scanL N l = scanL N l' := by rw [scan_eq, h, ← scan_eq]
theorem scan_blank {N : Nat} {l : List UInt8} : scanL N (32 :: l) = scanL N l := scan_skip rfl
theorem scan_end {N : Nat} : scanL N [] = .ok [⟨0, ⟨#[]⟩, 0, N⟩] := by rw [scan_eq]; rfl
/-- One token. -/
theorem scan_one {N k n : Nat} {b : UInt8} {t l r : List UInt8} (hl : l = b :: r) (h0 : blkB b = false) (h1 : b.toNat ≠ 35) (ht : tok1 l = some (k, t, n)) : scanL N l = consR ⟨k, ⟨t.toArray⟩, n, N - l.length⟩ (scanL N (l.drop t.length)) := by
  subst hl
  rw [scan_eq, skipL, if_neg (by simp [h0]), if_neg h1]
  simp only [ht]
end Go.Proofs.YtnabbnhefjfegaaGreatDoor
namespace Go.Proofs.YtnabbnhefjfegaaGreatDoor
open Go.RowKit
abbrev Res (α : Type) := Except (Nat × Int) (α × List Tk)
def isT (w : ByteArray) : List Tk → Bool
  | [] => false
  | t :: _ => (t.kind == 1 || t.kind == 3) && decide (t.text = w)
def offT : List Tk → Nat
  | [] => 0
  | t :: _ => t.off
noncomputable def nameT : List Tk → Res ByteArray
  | [] => .error (0, 8)
  | t :: r => if t.kind ≠ 1 ∨ t.text ∈ keyws then .error (t.off, 8) else if ¬validS t.text then .error (t.off, 9) else .ok (t.text, r)
def expT (w : ByteArray) (l : List Tk) : Res Unit := if isT w l then .ok ((), l.tail) else .error (offT l, 8)
def bindR {α β : Type} (x : Res α) (f : α → List Tk → Res β) : Res β := match x with
  | .ok (a, l) => f a l
  | .error e => .error e
theorem bindR_ok {α β : Type} {a : α} {l : List Tk} {f : α → List Tk → Res β} : bindR (.ok (a, l)) f = f a l := rfl
abbrev ParP := List Tk → Res Ex
def two (op : Nat) (x y : Ex) : Ex := .mk op 0 [] [x, y]
/-- Operands between which a word stands, to the left. -/
def leftG (w : ByteArray) (op : Nat) (p : ParP) : Nat → Ex → List Tk → Res Ex
  | 0, x, l => .ok (x, l)
  | k + 1, x, l => if isT w l then bindR (p l.tail) fun y l' => leftG w op p k (two op x y) l' else .ok (x, l)
def leftP (w : ByteArray) (op : Nat) (p : ParP) : ParP := fun l => bindR (p l) fun x l' => leftG w op p l'.length x l'
abbrev wOr : ByteArray := ⟨#[111, 114]⟩
abbrev wAnd : ByteArray := ⟨#[97, 110, 100]⟩
abbrev wNot : ByteArray := ⟨#[110, 111, 116]⟩
abbrev wArrow : ByteArray := ⟨#[45, 62]⟩
abbrev wPlus : ByteArray := ⟨#[43]⟩
abbrev wTrue : ByteArray := ⟨#[116, 114, 117, 101]⟩
abbrev wFalse : ByteArray := ⟨#[102, 97, 108, 115, 101]⟩
abbrev wCount : ByteArray := ⟨#[99, 111, 117, 110, 116]⟩
abbrev wMembers : ByteArray := ⟨#[109, 101, 109, 98, 101, 114, 115]⟩
abbrev wLp : ByteArray := ⟨#[40]⟩
abbrev wRp : ByteArray := ⟨#[41]⟩
abbrev wComma : ByteArray := ⟨#[44]⟩
abbrev wLe : ByteArray := ⟨#[60, 61]⟩
abbrev wLt : ByteArray := ⟨#[60]⟩
abbrev wGe : ByteArray := ⟨#[62, 61]⟩
abbrev wGt : ByteArray := ⟨#[62]⟩
abbrev wEq : ByteArray := ⟨#[61, 61]⟩
noncomputable def namesG : Nat → List ByteArray → List Tk → Res (List ByteArray)
  | 0, ns, l => .ok (ns, l)
  | k + 1, ns, l => if isT wComma l then bindR (nameT l.tail) fun s l' => namesG k (ns ++ [s]) l' else .ok (ns, l)
/-- Names in parentheses: one, or several. -/
noncomputable def namesP (several : Bool) (l : List Tk) : Res (List ByteArray) :=
  bindR (expT wLp l) fun _ l1 => bindR (nameT l1) fun s l2 => bindR (namesG (if several then l2.length else 0) [s] l2) fun ns l3 => bindR (expT wRp l3) fun _ l4 => .ok (ns, l4)
noncomputable def primP (ex : ParP) (l : List Tk) : Res Ex := match l with
  | [] => .error (0, 8)
  | t :: r => if t.kind = 2 then .ok (.mk 1 (t.num : Int) [] [], r)
    else if isT wTrue (t :: r) then .ok (.mk 2 0 [] [], r) else if isT wFalse (t :: r) then .ok (.mk 3 0 [] [], r)
    else if isT wCount (t :: r) then bindR (namesP true r) fun ns l' => .ok (.mk 5 0 ns [], l')
    else if isT wMembers (t :: r) then bindR (namesP false r) fun ns l' => .ok (.mk 6 0 ns [], l')
    else if isT wLp (t :: r) then bindR (ex r) fun x l' => bindR (expT wRp l') fun _ l'' => .ok (x, l'')
    else bindR (nameT (t :: r)) fun s l' => .ok (.mk 4 0 [s] [], l')
def cmps : List (ByteArray × Nat) := [(wLe, 11), (wLt, 12), (wGe, 13), (wGt, 14), (wEq, 15)]
noncomputable def sumP (pr : ParP) : ParP := leftP wPlus 16 pr
noncomputable def cmpP (pr : ParP) : ParP := fun l => bindR (sumP pr l) fun x l' => match cmps.find? fun c => isT c.1 l' with
  | some c => bindR (sumP pr l'.tail) fun y l'' => .ok (two c.2 x y, l'')
  | none => .ok (x, l')
noncomputable def negP (pr : ParP) : Nat → ParP
  | 0 => fun l => .error (offT l, 8)
  | k + 1 => fun l => if isT wNot l then bindR (negP pr k l.tail) fun x l' => .ok (.mk 7 0 [] [x], l') else cmpP pr l
noncomputable def conjP (pr : ParP) : ParP := leftP wAnd 8 fun l => negP pr (l.length + 1) l
noncomputable def disjP (pr : ParP) : ParP := leftP wOr 9 (conjP pr)
noncomputable def implP (pr : ParP) : Nat → ParP
  | 0 => fun l => .error (offT l, 8)
  | k + 1 => fun l => bindR (disjP pr l) fun x l' => if isT wArrow l' then bindR (implP pr k l'.tail) fun y l'' => .ok (two 10 x y, l'') else .ok (x, l')
theorem negP_succ {pr : ParP} {k : Nat} {l : List Tk} : negP pr (k + 1) l = if isT wNot l then bindR (negP pr k l.tail) fun x l' => .ok (.mk 7 0 [] [x], l') else cmpP pr l := rfl
theorem implP_succ {pr : ParP} {k : Nat} {l : List Tk} : implP pr (k + 1) l = bindR (disjP pr l) fun x l' => if isT wArrow l' then bindR (implP pr k l'.tail) fun y l'' => .ok (two 10 x y, l'') else .ok (x, l') := rfl
theorem cmpP_eq {pr : ParP} {l : List Tk} : cmpP pr l = bindR (sumP pr l) fun x l' => match cmps.find? fun c => isT c.1 l' with
  | some c => bindR (sumP pr l'.tail) fun y l'' => .ok (two c.2 x y, l'')
  | none => .ok (x, l') := rfl
/-- An expression, with parentheses at most so deep. -/
noncomputable def exprP : Nat → ParP
  | 0 => fun l => .error (offT l, 8)
  | f + 1 => fun l => implP (primP (exprP f)) (l.length + 1) l
theorem exprP_succ {f : Nat} {l : List Tk} : exprP (f + 1) l = implP (primP (exprP f)) (l.length + 1) l := rfl
end Go.Proofs.YtnabbnhefjfegaaGreatDoor
namespace Go.Proofs.YtnabbnhefjfegaaGreatDoor
open Go.RowKit
def wT (s : ByteArray) (o : Nat) : Tk := ⟨1, s, 0, o⟩
def sT (s : ByteArray) (o : Nat) : Tk := ⟨3, s, 0, o⟩
def commasK : List ByteArray → Nat → List Tk
  | [], _ => []
  | s :: l, o => sT wComma o :: wT s (o + 2) :: commasK l (o + 2 + s.size)
def namesK : List ByteArray → Nat → List Tk
  | [], _ => []
  | s :: l, o => wT s o :: commasK l (o + s.size)
def parK (s least n : Nat) (t : Nat → List Tk) (o : Nat) : List Tk := if s < least then sT wLp o :: (t (o + 1) ++ [sT wRp (o + 1 + n)]) else t o
def opB (op : Nat) : ByteArray := match op with
  | 8 => wAnd | 9 => wOr | 10 => wArrow | 11 => wLe | 12 => wLt | 13 => wGe | 14 => wGt | 15 => wEq | _ => wPlus
def opK (op o : Nat) : Tk := ⟨if op = 8 ∨ op = 9 then 1 else 3, opB op, 0, o⟩
mutual
def toksE : Ex → Nat → List Tk
  | .mk op n ns al, o =>
    if op = 1 then [⟨2, decB n.toNat, n.toNat, o⟩] else if op = 2 then [wT wTrue o] else if op = 3 then [wT wFalse o] else if op = 4 then [wT (ns.headD ⟨#[]⟩) o]
    else if op = 5 then wT wCount o :: sT wLp (o + 5) :: (namesK ns (o + 6) ++ [sT wRp (o + 6 + (joinB ns).size)])
    else if op = 6 then [wT wMembers o, sT wLp (o + 7), wT (ns.headD ⟨#[]⟩) (o + 8), sT wRp (o + 8 + (ns.headD ⟨#[]⟩).size)]
    else match toksL al with
      | [] => []
      | [x] => wT wNot o :: parK x.1 4 x.2.1.size x.2.2 (o + 4)
      | x :: y :: _ => parK x.1 (lefN op) x.2.1.size x.2.2 o ++ opK op (o + (parB x.1 x.2.1 (lefN op)).size + 1) :: parK y.1 (rigN op) y.2.1.size y.2.2 (o + (parB x.1 x.2.1 (lefN op)).size + (wordB op).size)
def toksL : List Ex → List (Nat × ByteArray × (Nat → List Tk))
  | [] => []
  | a :: al => (strN a.op, textE a, toksE a) :: toksL al
end
/-- The tokens of an operand. -/
def oprK (a : Ex) (k o : Nat) : List Tk := parK (strN a.op) k (textE a).size (toksE a) o
/-- The token at the front goes on with no operator that binds at least so strongly. -/
structure Stop (k : Nat) (l : List Tk) : Prop where
  s1 : k ≤ 1 → isT wArrow l = false
  s2 : k ≤ 2 → isT wOr l = false
  s3 : k ≤ 3 → isT wAnd l = false
  s5 : k ≤ 5 → ∀ c ∈ cmps, isT c.1 l = false
  s6 : k ≤ 6 → isT wPlus l = false
theorem Stop.mono {k k' : Nat} {l : List Tk} (h : Stop k l) (hk : k ≤ k') : Stop k' l := ⟨fun x => h.s1 (by omega), fun x => h.s2 (by omega), fun x => h.s3 (by omega), fun x => h.s5 (by omega), fun x => h.s6 (by omega)⟩
section
variable {pr : ParP} {t : List Tk} {e : Ex}
noncomputable abbrev negQ (pr : ParP) : ParP := fun l => negP pr (l.length + 1) l
def C7 (pr : ParP) (t : List Tk) (e : Ex) : Prop := ∀ rest, pr (t ++ rest) = .ok (e, rest)
def C6 (pr : ParP) (t : List Tk) (e : Ex) : Prop := ∀ rest, ∃ m, rest.length ≤ m ∧ sumP pr (t ++ rest) = leftG wPlus 16 pr m e rest
def C5 (pr : ParP) (t : List Tk) (e : Ex) : Prop := ∀ rest, Stop 5 rest → cmpP pr (t ++ rest) = .ok (e, rest)
def C4 (pr : ParP) (t : List Tk) (e : Ex) : Prop := ∀ rest, Stop 4 rest → negQ pr (t ++ rest) = .ok (e, rest)
def C3 (pr : ParP) (t : List Tk) (e : Ex) : Prop := ∀ rest, Stop 4 rest → ∃ m, rest.length ≤ m ∧ conjP pr (t ++ rest) = leftG wAnd 8 (negQ pr) m e rest
def C2 (pr : ParP) (t : List Tk) (e : Ex) : Prop := ∀ rest, Stop 3 rest → ∃ m, rest.length ≤ m ∧ disjP pr (t ++ rest) = leftG wOr 9 (conjP pr) m e rest
def C1 (pr : ParP) (t : List Tk) (e : Ex) : Prop := ∀ rest k, Stop 1 rest → (t ++ rest).length < k → implP pr k (t ++ rest) = .ok (e, rest)
def Ck (pr : ParP) (k : Nat) (t : List Tk) (e : Ex) : Prop := match k with
  | 7 => C7 pr t e | 6 => C6 pr t e | 5 => C5 pr t e | 4 => C4 pr t e | 3 => C3 pr t e | 2 => C2 pr t e | _ => C1 pr t e
def hdN (t : List Tk) : Prop := ∀ rest, isT wNot (t ++ rest) = false
theorem leftG_stop {w : ByteArray} {op m : Nat} {p : ParP} {x : Ex} {l : List Tk} (h : isT w l = false) : leftG w op p m x l = .ok (x, l) := by
  cases m with
  | zero => rfl
  | succ m => rw [leftG, h]; rfl
theorem leftG_go {w : ByteArray} {op m : Nat} {p : ParP} {x y : Ex} {l l' : List Tk} (h : isT w l = true) (hp : p l.tail = .ok (y, l')) : leftG w op p (m + 1) x l = leftG w op p m (two op x y) l' := by
  rw [leftG, h, if_pos rfl, hp, bindR_ok]
theorem leftP_ok {w : ByteArray} {op : Nat} {p : ParP} {x : Ex} {l l' : List Tk} (h : p l = .ok (x, l')) : leftP w op p l = leftG w op p l'.length x l' := by rw [leftP, h, bindR_ok]
theorem c76 (h : C7 pr t e) : C6 pr t e := fun rest => ⟨_, Nat.le_refl _, leftP_ok (h rest)⟩
theorem sum_ok (h : C6 pr t e) {rest : List Tk} (hs : isT wPlus rest = false) : sumP pr (t ++ rest) = .ok (e, rest) := by
  obtain ⟨m, _, hm⟩ := h rest
  rw [hm, leftG_stop hs]
theorem find_none {l : List Tk} (h : ∀ c ∈ cmps, isT c.1 l = false) : (cmps.find? fun c => isT c.1 l) = none := List.find?_eq_none.2 fun c hc => by simp [h c hc]
theorem c65 (h : C6 pr t e) : C5 pr t e := fun rest hs => by
  rw [cmpP_eq, sum_ok h (hs.s6 (by omega)), bindR_ok, find_none (hs.s5 (by omega))]
theorem c54 (h : C5 pr t e) (hn : hdN t) : C4 pr t e := fun rest hs => by
  show negP pr ((t ++ rest).length + 1) (t ++ rest) = _
  rw [negP_succ, hn rest, if_neg (by simp), h rest (hs.mono (by omega))]
theorem c43 (h : C4 pr t e) : C3 pr t e := fun rest hs => ⟨_, Nat.le_refl _, leftP_ok (h rest hs)⟩
theorem conj_ok (h : C3 pr t e) {rest : List Tk} (hs : Stop 3 rest) : conjP pr (t ++ rest) = .ok (e, rest) := by
  obtain ⟨m, _, hm⟩ := h rest (hs.mono (by omega))
  rw [hm, leftG_stop (hs.s3 (by omega))]
theorem c32 (h : C3 pr t e) : C2 pr t e := fun _ hs => ⟨_, Nat.le_refl _, leftP_ok (conj_ok h hs)⟩
theorem disj_ok (h : C2 pr t e) {rest : List Tk} (hs : Stop 2 rest) : disjP pr (t ++ rest) = .ok (e, rest) := by
  obtain ⟨m, _, hm⟩ := h rest (hs.mono (by omega))
  rw [hm, leftG_stop (hs.s2 (by omega))]
theorem c21 (h : C2 pr t e) : C1 pr t e := fun rest k hs hk => by
  obtain ⟨k, rfl⟩ : ∃ q, k = q + 1 := ⟨k - 1, by omega⟩
  rw [implP_succ, disj_ok h (hs.mono (by omega)), bindR_ok, hs.s1 (by omega)]; rfl
/-- From a level down to all below it. -/
theorem Ck.down {s : Nat} (h : Ck pr s t e) (hs : s ≤ 7) (hn : 5 ≤ s → hdN t) : ∀ k, 1 ≤ k → k ≤ s → Ck pr k t e := by
  have d21 : Ck pr 2 t e → Ck pr 1 t e := c21
  have d32 : Ck pr 3 t e → Ck pr 2 t e := c32
  have d43 : Ck pr 4 t e → Ck pr 3 t e := c43
  have d54 : hdN t → Ck pr 5 t e → Ck pr 4 t e := fun h g => c54 g h
  have d65 : Ck pr 6 t e → Ck pr 5 t e := c65
  have d76 : Ck pr 7 t e → Ck pr 6 t e := c76
  have step : ∀ k, 1 ≤ k → k < s → Ck pr (k + 1) t e → Ck pr k t e := by
    intro k h1 h2
    rcases (by omega : k = 1 ∨ k = 2 ∨ k = 3 ∨ k = 4 ∨ k = 5 ∨ k = 6) with rfl | rfl | rfl | rfl | rfl | rfl
    · exact d21
    · exact d32
    · exact d43
    · exact d54 (hn (by omega))
    · exact d65
    · exact d76
  have key : ∀ d k, 1 ≤ k → k + d = s → Ck pr k t e := by
    intro d
    induction d with
    | zero => intro k _ h2; obtain rfl : k = s := by omega
              exact h
    | succ d ih => intro k h1 h2; exact step k h1 (by omega) (ih (k + 1) (by omega) (by omega))
  exact fun k h1 h2 => key (s - k) k h1 (by omega)
theorem op_isT {op o : Nat} {l : List Tk} : isT (opB op) (opK op o :: l) = true := by
  unfold isT opK
  simp only
  split <;> simp
theorem isT_opw {op o : Nat} {w : ByteArray} {l : List Tk} (h : opB op ≠ w) : isT w (opK op o :: l) = false := by simp [isT, opK, h]
theorem isT_kind2 {w : ByteArray} {t : Tk} {l : List Tk} (h : t.kind = 2) : isT w (t :: l) = false := by simp [isT, h]
theorem isT_ne {w : ByteArray} {t : Tk} {l : List Tk} (h : t.text ≠ w) : isT w (t :: l) = false := by simp [isT, h]
theorem isT_sne {v w : ByteArray} {o : Nat} {l : List Tk} (h : v ≠ w) : isT w (sT v o :: l) = false := isT_ne h
theorem isT_wne {v w : ByteArray} {o : Nat} {l : List Tk} (h : v ≠ w) : isT w (wT v o :: l) = false := isT_ne h
theorem isT_w {w : ByteArray} {o : Nat} {l : List Tk} : isT w (wT w o :: l) = true := by simp [isT, wT]
theorem isT_s {w : ByteArray} {o : Nat} {l : List Tk} : isT w (sT w o :: l) = true := by simp [isT, sT]
theorem b_arr : C2 pr t e → ∀ {t2 : List Tk} {e2 : Ex} {o : Nat}, C1 pr t2 e2 → C1 pr (t ++ opK 10 o :: t2) (two 10 e e2) := fun h t2 e2 o h2 rest k hs hk => by
  obtain ⟨k, rfl⟩ : ∃ q, k = q + 1 := ⟨k - 1, by omega⟩
  rw [List.append_assoc, List.cons_append] at hk ⊢
  rw [implP_succ, disj_ok h ⟨by omega, fun _ => isT_opw (by decide), fun _ => isT_opw (by decide), fun _ c hc => isT_opw (by revert c; decide), fun _ => isT_opw (by decide)⟩, bindR_ok,
    show isT wArrow (opK 10 o :: (t2 ++ rest)) = true from op_isT (op := 10), if_pos rfl, List.tail_cons, h2 rest k hs (by simp only [List.length_append, List.length_cons] at hk ⊢; omega), bindR_ok]
theorem b_or : C2 pr t e → ∀ {t2 : List Tk} {e2 : Ex} {o : Nat}, C3 pr t2 e2 → C2 pr (t ++ opK 9 o :: t2) (two 9 e e2) := fun h t2 e2 o h2 rest hs => by
  rw [List.append_assoc, List.cons_append]
  obtain ⟨m, h1, hm⟩ := h (opK 9 o :: (t2 ++ rest)) ⟨by omega, by omega, fun _ => isT_opw (by decide), fun _ c hc => isT_opw (by revert c; decide), fun _ => isT_opw (by decide)⟩
  simp only [List.length_cons, List.length_append] at h1
  obtain ⟨m, rfl⟩ : ∃ q, m = q + 1 := ⟨m - 1, by omega⟩
  exact ⟨m, by omega, by rw [hm]; exact leftG_go (op_isT (op := 9)) (by rw [List.tail_cons]; exact conj_ok h2 hs)⟩
theorem b_and : C3 pr t e → ∀ {t2 : List Tk} {e2 : Ex} {o : Nat}, C4 pr t2 e2 → C3 pr (t ++ opK 8 o :: t2) (two 8 e e2) := fun h t2 e2 o h2 rest hs => by
  rw [List.append_assoc, List.cons_append]
  obtain ⟨m, h1, hm⟩ := h (opK 8 o :: (t2 ++ rest)) ⟨by omega, by omega, by omega, fun _ c hc => isT_opw (by revert c; decide), fun _ => isT_opw (by decide)⟩
  simp only [List.length_cons, List.length_append] at h1
  obtain ⟨m, rfl⟩ : ∃ q, m = q + 1 := ⟨m - 1, by omega⟩
  exact ⟨m, by omega, by rw [hm]; exact leftG_go (op_isT (op := 8)) (by rw [List.tail_cons]; exact h2 rest hs)⟩
theorem b_add : C6 pr t e → ∀ {t2 : List Tk} {e2 : Ex} {o : Nat}, C7 pr t2 e2 → C6 pr (t ++ opK 16 o :: t2) (two 16 e e2) := fun h t2 e2 o h2 rest => by
  rw [List.append_assoc, List.cons_append]
  obtain ⟨m, h1, hm⟩ := h (opK 16 o :: (t2 ++ rest))
  simp only [List.length_cons, List.length_append] at h1
  obtain ⟨m, rfl⟩ : ∃ q, m = q + 1 := ⟨m - 1, by omega⟩
  exact ⟨m, by omega, by rw [hm]; exact leftG_go (op_isT (op := 16)) (by rw [List.tail_cons]; exact h2 rest)⟩
theorem cmps_find {op o : Nat} {l : List Tk} (h1 : 11 ≤ op) (h2 : op ≤ 15) : (cmps.find? fun c => isT c.1 (opK op o :: l)) = some (opB op, op) := by
  rcases (by omega : op = 11 ∨ op = 12 ∨ op = 13 ∨ op = 14 ∨ op = 15) with rfl | rfl | rfl | rfl | rfl <;> rfl
theorem cmp_plus {op o : Nat} {l : List Tk} (h1 : 11 ≤ op) (h2 : op ≤ 15) : isT wPlus (opK op o :: l) = false := by
  rcases (by omega : op = 11 ∨ op = 12 ∨ op = 13 ∨ op = 14 ∨ op = 15) with rfl | rfl | rfl | rfl | rfl <;> exact isT_opw (by decide)
theorem b_cmp {op : Nat} (h1 : 11 ≤ op) (h2 : op ≤ 15) : C6 pr t e → ∀ {t2 : List Tk} {e2 : Ex} {o : Nat}, C6 pr t2 e2 → C5 pr (t ++ opK op o :: t2) (two op e e2) := fun h t2 e2 o h3 rest hs => by
  rw [List.append_assoc, List.cons_append, cmpP_eq, sum_ok h (cmp_plus h1 h2), bindR_ok, cmps_find h1 h2]
  simp only [List.tail_cons]
  rw [sum_ok h3 (hs.s6 (by omega)), bindR_ok]
theorem b_not {o : Nat} (h : C4 pr t e) : C4 pr (wT wNot o :: t) (.mk 7 0 [] [e]) := fun rest hs => by
  rw [List.cons_append]
  show negP pr ((wT wNot o :: (t ++ rest)).length + 1) (wT wNot o :: (t ++ rest)) = _
  rw [negP_succ, isT_w, if_pos rfl, List.tail_cons, List.length_cons]
  have := h rest hs
  rw [show negQ pr (t ++ rest) = negP pr ((t ++ rest).length + 1) (t ++ rest) from rfl] at this
  rw [this, bindR_ok]
end
end Go.Proofs.YtnabbnhefjfegaaGreatDoor
namespace Go.Proofs.YtnabbnhefjfegaaGreatDoor
open Go.RowKit
abbrev bl (s : ByteArray) : List UInt8 := s.data.toList
theorem bl_app (a b : ByteArray) : bl (a ++ b) = bl a ++ bl b := by simp [bl]
theorem bl_size (s : ByteArray) : (bl s).length = s.size := by simp [bl]
theorem bl_mk (s : ByteArray) : (⟨(bl s).toArray⟩ : ByteArray) = s := by simp [bl]
theorem bl_inj {a b : ByteArray} (h : bl a = bl b) : a = b := by rw [← bl_mk a, h, bl_mk]
/-- What may stand behind a word or a number. -/
def ndel : List UInt8 → Prop
  | [] => True
  | b :: _ => innB b = false
/-- A piece of a text, and its tokens by the offset at which it begins; behind it stands nothing that would go on with its last word. -/
def LxW (t : List UInt8) (ts : Nat → List Tk) : Prop := ∀ N r, ndel r → (t ++ r).length ≤ N → scanL N (t ++ r) = appR (ts (N - (t ++ r).length)) (scanL N r)
/-- The same, whatever stands behind. -/
def LxS (t : List UInt8) (ts : Nat → List Tk) : Prop := ∀ N r, (t ++ r).length ≤ N → scanL N (t ++ r) = appR (ts (N - (t ++ r).length)) (scanL N r)
theorem LxS.w {t : List UInt8} {ts : Nat → List Tk} (h : LxS t ts) : LxW t ts := fun N r _ => h N r
theorem appR_app (a b : List Tk) (x : Except Nat (List Tk)) : appR a (appR b x) = appR (a ++ b) x := by cases x <;> simp [appR]
theorem appR_one (t : Tk) (x : Except Nat (List Tk)) : consR t x = appR [t] x := by cases x <;> simp [appR, consR]
theorem appR_nil (x : Except Nat (List Tk)) : appR [] x = x := by cases x <;> simp [appR]
section
variable {t t' : List UInt8} {ts ts' : Nat → List Tk}
theorem LxS.app (h : LxS t ts) (h' : LxS t' ts') : LxS (t ++ t') (fun o => ts o ++ ts' (o + t.length)) := fun N r hN => by
  rw [List.append_assoc] at hN ⊢
  rw [h N _ hN, h' N r (by simp only [List.length_append] at hN ⊢; omega), appR_app]
  congr 3
  simp only [List.length_append] at hN ⊢; omega
theorem LxS.appW (h : LxS t ts) (h' : LxW t' ts') : LxW (t ++ t') (fun o => ts o ++ ts' (o + t.length)) := fun N r hr hN => by
  rw [List.append_assoc] at hN ⊢
  rw [h N _ hN, h' N r hr (by simp only [List.length_append] at hN ⊢; omega), appR_app]
  congr 3
  simp only [List.length_append] at hN ⊢; omega
theorem LxW.app (h : LxW t ts) (h' : LxW t' ts') (hd : ∀ r, ndel r → ndel (t' ++ r)) : LxW (t ++ t') (fun o => ts o ++ ts' (o + t.length)) := fun N r hr hN => by
  rw [List.append_assoc] at hN ⊢
  rw [h N _ (hd r hr) hN, h' N r hr (by simp only [List.length_append] at hN ⊢; omega), appR_app]
  congr 3
  simp only [List.length_append] at hN ⊢; omega
theorem LxW.appS (h : LxW t ts) (h' : LxS t' ts') (hd : ∀ r, ndel (t' ++ r)) : LxS (t ++ t') (fun o => ts o ++ ts' (o + t.length)) := fun N r hN => by
  rw [List.append_assoc] at hN ⊢
  rw [h N _ (hd r) hN, h' N r (by simp only [List.length_append] at hN ⊢; omega), appR_app]
  congr 3
  simp only [List.length_append] at hN ⊢; omega
end
theorem takeWhile_all {f : UInt8 → Bool} : ∀ {t r : List UInt8}, (∀ b ∈ t, f b = true) → (∀ b l, r = b :: l → f b = false) → (t ++ r).takeWhile f = t
  | [], [], _, _ => rfl
  | [], b :: r, _, h => by rw [List.nil_append, List.takeWhile_cons_of_neg (by simp [h b r rfl])]
  | b :: t, r, h, h' => by rw [List.cons_append, List.takeWhile_cons_of_pos (h b (by simp)), takeWhile_all (fun x hx => h x (by simp [hx])) h']
theorem ndel_of {r : List UInt8} (h : ndel r) : ∀ b l, r = b :: l → innB b = false := fun b l e => by subst e; exact h
theorem let_blk {b : UInt8} (h : letB b = true) : blkB b = false ∧ b.toNat ≠ 35 := by simp only [letB, blkB, decide_eq_true_eq, decide_eq_false_iff_not] at h ⊢; omega
theorem dig_blk {b : UInt8} (h : digB b = true) : blkB b = false ∧ b.toNat ≠ 35 ∧ letB b = false ∧ innB b = true := by simp only [digB, letB, innB, blkB, decide_eq_true_eq, decide_eq_false_iff_not] at h ⊢; omega
/-- A word. -/
theorem lx_word {s : ByteArray} {b : UInt8} {l : List UInt8} (hs : bl s = b :: l) (hb : letB b = true) (ha : ∀ c ∈ bl s, innB c = true) : LxW (bl s) (fun o => [wT s o]) := fun N r hr hN => by
  obtain ⟨k1, k2⟩ := let_blk hb
  have ht : tok1 (bl s ++ r) = some (1, bl s, 0) := by
    have := takeWhile_all (f := innB) (t := bl s) ha (ndel_of hr)
    rw [hs, List.cons_append] at this ⊢
    rw [tok1, if_pos hb, this]
  rw [scan_one (b := b) (r := l ++ r) (by rw [hs]; rfl) k1 k2 ht, bl_mk, List.drop_left, appR_one]; rfl
theorem valid_bytes {s : ByteArray} (h : validS s) : ∃ b l, bl s = b :: l ∧ letB b = true ∧ ∀ c ∈ bl s, innB c = true := by
  obtain ⟨h1, _, _, h4⟩ := h
  have get : ∀ (k : Nat) (b : UInt8), (bl s)[k]? = some b → s[k]? = some b := fun k b hk => by
    obtain ⟨hlt, he⟩ := List.getElem?_eq_some_iff.1 hk
    have hlt2 : k < s.size := by rw [← bl_size]; exact hlt
    rw [getElem?_pos s k hlt2]
    congr 1
  cases hb : bl s with
  | nil => exact absurd (by rw [← bl_size, hb]; rfl) h1
  | cons b l =>
    have hall : ∀ c ∈ bl s, innB c = true := fun c hc => by
      obtain ⟨k, hk⟩ := List.mem_iff_getElem?.1 hc
      exact (h4 k c (Nat.zero_le _) (get k c hk)).1
    refine ⟨b, l, rfl, (h4 0 b (Nat.le_refl _) (get 0 b (by rw [hb]; rfl))).2 rfl, ?_⟩
    rw [← hb]; exact hall
theorem lx_name {s : ByteArray} (h : validS s) : LxW (bl s) (fun o => [wT s o]) := by
  obtain ⟨b, l, h1, h2, h3⟩ := valid_bytes h
  exact lx_word h1 h2 h3
theorem lx_true : LxW (bl wTrue) (fun o => [wT wTrue o]) := lx_word rfl (by decide) (by decide)
theorem lx_false : LxW (bl wFalse) (fun o => [wT wFalse o]) := lx_word rfl (by decide) (by decide)
theorem lx_count : LxW (bl wCount) (fun o => [wT wCount o]) := lx_word rfl (by decide) (by decide)
theorem lx_members : LxW (bl wMembers) (fun o => [wT wMembers o]) := lx_word rfl (by decide) (by decide)
theorem lx_notw : LxW (bl wNot) (fun o => [wT wNot o]) := lx_word rfl (by decide) (by decide)
theorem lx_blank : LxS [32] (fun _ => []) := fun N r _ => by rw [appR_nil]; exact scan_blank
theorem lx_sym {s : List UInt8} {b : UInt8} {l : List UInt8} (hs : s = b :: l) (h1 : blkB b = false) (h2 : b.toNat ≠ 35) (ht : ∀ r, tok1 (s ++ r) = some (3, s, 0)) : LxS s (fun o => [sT ⟨s.toArray⟩ o]) := fun N r _ => by
  rw [scan_one (b := b) (r := l ++ r) (by rw [hs]; rfl) h1 h2 (ht r), List.drop_left, appR_one]; rfl
theorem lx_lp : LxS [40] (fun o => [sT wLp o]) := lx_sym rfl (by decide) (by decide) fun _ => rfl
theorem lx_rp : LxS [41] (fun o => [sT wRp o]) := lx_sym rfl (by decide) (by decide) fun _ => rfl
theorem lx_comma : LxS [44] (fun o => [sT wComma o]) := lx_sym rfl (by decide) (by decide) fun _ => rfl
/-- An operator between blanks. -/
theorem lx_op {op : Nat} (h1 : 8 ≤ op) (h2 : op ≤ 16) : LxS (bl (wordB op)) (fun o => [opK op (o + 1)]) := by
  have key : ∀ {s : List UInt8} {b : UInt8} {l : List UInt8} {k : Nat}, s = b :: l → blkB b = false → b.toNat ≠ 35 → (∀ r, tok1 (s ++ 32 :: r) = some (k, s, 0)) → LxS (32 :: (s ++ [32])) (fun o => [⟨k, ⟨s.toArray⟩, 0, o + 1⟩]) := by
    intro s b l k hs k1 k2 ht N r hN
    rw [List.cons_append, scan_blank, List.append_assoc, List.singleton_append, scan_one (b := b) (r := l ++ 32 :: r) (by rw [hs]; rfl) k1 k2 (ht r), List.drop_left, scan_blank, appR_one]
    simp only [List.length_append, List.length_cons, List.length_nil] at hN ⊢
    rw [show N - (s.length + (r.length + 1)) = N - (s.length + (r.length + 1) + 1) + 1 by omega]
  rcases (by omega : op = 8 ∨ op = 9 ∨ op = 10 ∨ op = 11 ∨ op = 12 ∨ op = 13 ∨ op = 14 ∨ op = 15 ∨ op = 16) with rfl | rfl | rfl | rfl | rfl | rfl | rfl | rfl | rfl
  · exact key (s := [97, 110, 100]) rfl (by decide) (by decide) fun _ => rfl
  · exact key (s := [111, 114]) rfl (by decide) (by decide) fun _ => rfl
  · exact key (s := [45, 62]) rfl (by decide) (by decide) fun _ => rfl
  · exact key (s := [60, 61]) rfl (by decide) (by decide) fun _ => rfl
  · exact key (s := [60]) rfl (by decide) (by decide) fun _ => rfl
  · exact key (s := [62, 61]) rfl (by decide) (by decide) fun _ => rfl
  · exact key (s := [62]) rfl (by decide) (by decide) fun _ => rfl
  · exact key (s := [61, 61]) rfl (by decide) (by decide) fun _ => rfl
  · exact key (s := [43]) rfl (by decide) (by decide) fun _ => rfl
theorem op_ndel {op : Nat} (h1 : 8 ≤ op) (h2 : op ≤ 16) : ∀ r, ndel (bl (wordB op) ++ r) := by
  rcases (by omega : op = 8 ∨ op = 9 ∨ op = 10 ∨ op = 11 ∨ op = 12 ∨ op = 13 ∨ op = 14 ∨ op = 15 ∨ op = 16) with rfl | rfl | rfl | rfl | rfl | rfl | rfl | rfl | rfl <;> exact fun _ => (by decide : innB 32 = false)
theorem digit_of {v : Nat} (h : v < 10) : digB (UInt8.ofNat (48 + v)) = true ∧ (UInt8.ofNat (48 + v)).toNat = 48 + v := by
  have : (UInt8.ofNat (48 + v)).toNat = 48 + v := by rw [UInt8.toNat_ofNat']; omega
  exact ⟨by simp only [digB, this, decide_eq_true_eq]; omega, this⟩
theorem decG_dig : ∀ (f v : Nat), ∀ b ∈ decG f v, digB b = true
  | 0, _, b, h => by simp [decG] at h
  | f + 1, v, b, h => by
    rw [decG] at h
    split at h
    · rename_i hv
      rw [List.mem_singleton] at h
      subst h
      exact (digit_of hv).1
    · rcases List.mem_append.1 h with h | h
      · exact decG_dig f _ b h
      · rw [List.mem_singleton] at h
        subst h
        exact (digit_of (Nat.mod_lt _ (by omega))).1
theorem valL_snoc (l : List UInt8) (c : UInt8) : valL (l ++ [c]) = 10 * valL l + (c.toNat - 48) := by simp [valL]
theorem decG_val : ∀ (f v : Nat), v < 10 ^ f → valL (decG f v) = v
  | 0, v, h => by simp at h; subst h; rfl
  | f + 1, v, h => by
    rw [decG]
    split
    · rename_i hv
      simp [valL]
      omega
    · rw [valL_snoc, decG_val f (v / 10) (by rw [Nat.pow_succ] at h; omega), (digit_of (Nat.mod_lt _ (by omega))).2]; omega
theorem decG_length : ∀ (f v k : Nat), v < 10 ^ k → 1 ≤ k → (decG f v).length ≤ k
  | 0, _, _, _, _ => by simp [decG]
  | f + 1, v, k, h, hk => by
    rw [decG]
    split
    · simpa using hk
    · rename_i hv
      obtain ⟨k, rfl⟩ : ∃ q, k = q + 1 := ⟨k - 1, by omega⟩
      have h1 : v / 10 < 10 ^ k := by rw [Nat.pow_succ] at h; omega
      have hk0 : 1 ≤ k := Nat.pos_of_ne_zero fun e => by subst e; simp at h1; omega
      have := decG_length f (v / 10) k h1 hk0
      rw [List.length_append]; simp; omega
theorem decG_head : ∀ (f v : Nat), 0 < v → v < 10 ^ f → ∃ b l, decG f v = b :: l ∧ b ≠ 48
  | 0, v, h, h' => by simp at h'; omega
  | f + 1, v, h, h' => by
    rw [decG]
    split
    · rename_i hv
      refine ⟨_, [], rfl, fun e => ?_⟩
      have := (digit_of hv).2
      rw [e] at this
      have h48 : (48 : UInt8).toNat = 48 := rfl
      omega
    · obtain ⟨b, l, e, hb⟩ := decG_head f (v / 10) (by omega) (by rw [Nat.pow_succ] at h'; omega)
      exact ⟨b, l ++ [_], by rw [e]; rfl, hb⟩
theorem decG_pos (f v : Nat) : 0 < (decG (f + 1) v).length := by
  rw [decG]
  split
  · simp
  · simp
theorem lx_num {v : Nat} (hv : v ≤ 999999) : LxW (bl (decB v)) (fun o => [⟨2, decB v, v, o⟩]) := fun N r hr hN => by
  have e : bl (decB v) = decG 20 v := by simp [bl, decB]
  have hdig := decG_dig 20 v
  have hval := decG_val 20 v (by omega)
  have hlen := decG_length 20 v 6 (by omega) (by omega)
  have hrd : ∀ b l, r = b :: l → digB b = false := fun b l h => by
    have := ndel_of hr b l h
    simp only [innB, digB, decide_eq_false_iff_not] at this ⊢; omega
  have htw : (decG 20 v ++ r).takeWhile digB = decG 20 v := takeWhile_all hdig hrd
  have hpos := decG_pos 19 v
  obtain ⟨b, l, hbl⟩ : ∃ b l, decG 20 v = b :: l := by
    cases h : decG 20 v with
    | nil => rw [h] at hpos; simp at hpos
    | cons b l => exact ⟨b, l, rfl⟩
  have hb : digB b = true := hdig b (by rw [hbl]; simp)
  obtain ⟨k1, k2, k3, k4⟩ := dig_blk hb
  have hz : ¬(1 < (decG 20 v).length ∧ (decG 20 v ++ r).head? = some 48) := fun ⟨h1, h2⟩ => by
    have hv0 : 0 < v := Nat.pos_of_ne_zero fun h0 => by subst h0; simp [decG] at h1
    obtain ⟨b2, l2, e2, hne⟩ := decG_head 20 v hv0 (by omega)
    rw [e2, List.cons_append, List.head?_cons] at h2
    exact hne (Option.some.inj h2)
  have hg : glued r = false := by
    cases r with
    | nil => rfl
    | cons c r =>
      have := ndel_of hr c r rfl
      simp only [innB, decide_eq_false_iff_not] at this
      simp only [glued, letB, Bool.or_eq_false_iff, decide_eq_false_iff_not, beq_eq_false_iff_ne]
      omega
  have ht : tok1 (decG 20 v ++ r) = some (2, decG 20 v, v) := by
    have hnum : numT (decG 20 v ++ r) = some (decG 20 v) := by
      rw [numT, htw, List.drop_left]
      rw [if_neg]
      rintro (h | h | h)
      · omega
      · exact hz h
      · rw [hg] at h; cases h
    rw [hbl, List.cons_append] at hnum ⊢
    rw [tok1, if_neg (by simp [k3]), if_pos hb, hnum, ← hbl]
    simp [hval]
  rw [e] at hN ⊢
  rw [scan_one (b := b) (r := l ++ r) (by rw [hbl]; rfl) k1 k2 ht, List.drop_left, appR_one]; rfl
theorem LxW.of {t t' : List UInt8} {ts ts' : Nat → List Tk} (h : LxW t ts) (ht : t' = t) (e : ∀ o, ts' o = ts o) : LxW t' ts' := by
  subst ht
  rw [show ts' = ts from funext e]; exact h
theorem LxS.of {t t' : List UInt8} {ts ts' : Nat → List Tk} (h : LxS t ts) (ht : t' = t) (e : ∀ o, ts' o = ts o) : LxS t' ts' := by
  subst ht
  rw [show ts' = ts from funext e]; exact h
theorem lx_commas : ∀ {l : List ByteArray}, (∀ s ∈ l, validS s) → LxW (l.map fun t => [44, 32] ++ bl t).flatten (commasK l)
  | [], _ => fun N r _ _ => by simp [commasK, appR_nil]
  | s :: l, h => by
    have h1 := ((lx_comma.app lx_blank).appW (lx_name (h s (by simp)))).app (lx_commas (l := l) fun x hx => h x (List.mem_cons_of_mem _ hx)) fun r hr => by
      cases l with
      | nil => exact hr
      | cons x l => exact (by decide : innB 44 = false)
    refine h1.of (by simp) fun o => ?_
    rw [commasK]
    simp only [List.length_cons, List.length_nil, List.append_nil, List.cons_append, List.nil_append, bl_size]
    rw [show o + (s.size + 1 + 1) = o + 2 + s.size by omega]
theorem lx_names {l : List ByteArray} (h : ∀ s ∈ l, validS s) (h0 : 0 < l.length) : LxW (bl (joinB l)) (namesK l) := by
  match l, h0 with
  | s :: l, _ =>
    have h1 := (lx_name (h s (by simp))).app (lx_commas (l := l) fun x hx => h x (List.mem_cons_of_mem _ hx)) fun r hr => by
      cases l with
      | nil => exact hr
      | cons x l => exact (by decide : innB 44 = false)
    refine h1.of (by simp [bl, joinB, joinG]) fun o => ?_
    rw [namesK, bl_size]; rfl
/-- An operand, with its parentheses. -/
theorem lx_par {s least : Nat} {t : ByteArray} {ts : Nat → List Tk} (h : LxW (bl t) ts) : LxW (bl (parB s t least)) (parK s least t.size ts) := by
  by_cases hc : s < least
  · have h1 := (lx_lp.appW h).appS lx_rp fun _ => (by decide : innB 41 = false)
    refine h1.w.of (by rw [parB, if_pos hc, bl_app, bl_app]) fun o => ?_
    rw [parK, if_pos hc]
    simp only [List.length_cons, List.length_nil, List.cons_append, List.nil_append, bl_size]
    rw [show o + (t.size + 1) = o + 1 + t.size by omega]
  · exact h.of (by rw [parB, if_neg hc]) fun o => by rw [parK, if_neg hc]
/-- THE TEXT OF AN ACCEPTED TREE. -/
theorem lx_text : ∀ (n : Nat) (e : Ex), sizE e ≤ n → nodeE e = 0 → LxW (bl (textE e)) (toksE e) := by
  intro n
  induction n with
  | zero => intro e h; cases e; rw [sizE] at h; omega
  | succ n ih =>
    intro e hsz hnode
    cases e with
    | mk op v ns al =>
    obtain ⟨hown, hargs⟩ := node_ok hnode
    obtain ⟨o1, o2, o3, o4, o5, o6, o7, o8, o9⟩ := own_ok hown
    rw [sizE] at hsz
    by_cases c1 : op = 1
    · obtain ⟨q, rfl⟩ := Int.eq_ofNat_of_zero_le o8
      exact (lx_num (v := q) (by omega)).of (by rw [textE, if_pos c1]; rfl) fun o => by rw [toksE, if_pos c1]; rfl
    by_cases c2 : op = 2
    · exact lx_true.of (by rw [textE, if_neg c1, if_pos c2]) fun o => by rw [toksE, if_neg c1, if_pos c2]
    by_cases c3 : op = 3
    · exact lx_false.of (by rw [textE, if_neg c1, if_neg c2, if_pos c3]) fun o => by rw [toksE, if_neg c1, if_neg c2, if_pos c3]
    by_cases c4 : op = 4
    · obtain ⟨s, rfl⟩ : ∃ s, ns = [s] := by
        have hl1 : ns.length = 1 := by simpa [namN, c4] using o5
        match ns, hl1 with
        | [s], _ => exact ⟨s, rfl⟩
      exact (lx_name (o6 s (by simp))).of (by rw [textE, if_neg c1, if_neg c2, if_neg c3, if_pos c4]; rfl) fun o => by rw [toksE, if_neg c1, if_neg c2, if_neg c3, if_pos c4]; rfl
    by_cases c5 : op = 5
    · have hl1 : 1 ≤ ns.length ∧ ns.length ≤ 8 := by simpa [namN, c5] using o5
      have h1 := ((lx_count.appS lx_lp fun _ => (by decide : innB 40 = false)).appW (lx_names o6 hl1.1)).appS lx_rp fun _ => (by decide : innB 41 = false)
      refine h1.w.of (by rw [textE, if_neg c1, if_neg c2, if_neg c3, if_neg c4, if_pos c5, bl_app, bl_app]; rfl) fun o => ?_
      rw [toksE, if_neg c1, if_neg c2, if_neg c3, if_neg c4, if_pos c5]
      simp only [List.length_append, List.length_cons, List.length_nil, List.cons_append, List.nil_append, bl_size]
      rw [show o + wCount.size = o + 5 from rfl, show o + (wCount.size + (0 + 1)) = o + 6 from rfl, show o + (wCount.size + (0 + 1) + (joinB ns).size) = o + 6 + (joinB ns).size by rw [show wCount.size = 5 from rfl]; omega]
    by_cases c6 : op = 6
    · obtain ⟨s, rfl⟩ : ∃ s, ns = [s] := by
        have hl1 : ns.length = 1 := by simpa [namN, c6] using o5
        match ns, hl1 with
        | [s], _ => exact ⟨s, rfl⟩
      have h1 := ((lx_members.appS lx_lp fun _ => (by decide : innB 40 = false)).appW (lx_name (o6 s (by simp)))).appS lx_rp fun _ => (by decide : innB 41 = false)
      refine h1.w.of (by rw [textE, if_neg c1, if_neg c2, if_neg c3, if_neg c4, if_neg c5, if_pos c6, bl_app, bl_app]; rfl) fun o => ?_
      rw [toksE, if_neg c1, if_neg c2, if_neg c3, if_neg c4, if_neg c5, if_pos c6]
      simp only [List.length_append, List.length_cons, List.length_nil, List.cons_append, List.nil_append, bl_size, List.headD_cons]
      rw [show o + wMembers.size = o + 7 from rfl, show o + (wMembers.size + (0 + 1)) = o + 8 from rfl, show o + (wMembers.size + (0 + 1) + s.size) = o + 8 + s.size by rw [show wMembers.size = 7 from rfl]; omega]
    by_cases c7 : op = 7
    · obtain ⟨a, rfl⟩ : ∃ a, al = [a] := by
        have hl1 : al.length = 1 := by rw [o3, c7]; rfl
        match al, hl1 with
        | [a], _ => exact ⟨a, rfl⟩
      have ha := ih a (by rw [sizL, sizL] at hsz; omega) (nodeL_zero hargs a (by simp))
      have h1 := (lx_notw.appS lx_blank fun _ => (by decide : innB 32 = false)).appW (lx_par (s := strN a.op) (least := 4) ha)
      refine h1.of (by rw [textE, if_neg c1, if_neg c2, if_neg c3, if_neg c4, if_neg c5, if_neg c6, textL, textL, bl_app]; rfl) fun o => ?_
      rw [toksE, if_neg c1, if_neg c2, if_neg c3, if_neg c4, if_neg c5, if_neg c6, toksL, toksL]
      rfl
    obtain ⟨a, b, rfl⟩ : ∃ a b, al = [a, b] := by
      have hl1 : al.length = 2 := by rw [o3, argN, if_neg (by omega), if_neg c7]
      match al, hl1 with
      | [a, b], _ => exact ⟨a, b, rfl⟩
    have ha := ih a (by rw [sizL, sizL, sizL] at hsz; omega) (nodeL_zero hargs a (by simp))
    have hb := ih b (by rw [sizL, sizL, sizL] at hsz; omega) (nodeL_zero hargs b (by simp))
    have h1 := ((lx_par (s := strN a.op) (least := lefN op) ha).appS (lx_op (op := op) (by omega) o2) (op_ndel (by omega) o2)).appW (lx_par (s := strN b.op) (least := rigN op) hb)
    refine h1.of (by rw [textE, if_neg c1, if_neg c2, if_neg c3, if_neg c4, if_neg c5, if_neg c6, textL, textL, textL]; simp only [bl_app]) fun o => ?_
    rw [toksE, if_neg c1, if_neg c2, if_neg c3, if_neg c4, if_neg c5, if_neg c6, toksL, toksL, toksL]
    simp only [List.append_assoc, List.singleton_append, List.length_append, bl_size]
    rw [Nat.add_assoc o (parB _ _ _).size (wordB op).size]
end Go.Proofs.YtnabbnhefjfegaaGreatDoor
namespace Go.Proofs.YtnabbnhefjfegaaGreatDoor
open Go.RowKit
theorem bl_get (s : ByteArray) (i : Nat) : (bl s)[i]? = s[i]? := by simp only [bl, Array.getElem?_toList]; rfl
theorem drop_cons' {s : ByteArray} {i : Nat} {b : UInt8} (h : s[i]? = some b) : (bl s).drop i = b :: (bl s).drop (i + 1) := by
  rw [← bl_get] at h
  obtain ⟨h1, h2⟩ := List.getElem?_eq_some_iff.1 h
  rw [List.drop_eq_getElem_cons h1, h2]
theorem drop_none {s : ByteArray} {i : Nat} (h : s.size ≤ i) : (bl s).drop i = [] := List.drop_eq_nil_of_le (by rw [bl_size]; exact h)
theorem get_some {s : ByteArray} {i : Nat} (h : i < s.size) : ∃ b, s[i]? = some b := by
  rw [← bl_get]
  exact ⟨_, List.getElem?_eq_getElem (by rw [bl_size]; exact h)⟩
/-- The place behind the bytes from i on of which f is true. -/
def whl (s : ByteArray) (f : UInt8 → Bool) (i : Nat) : Nat := i + (((bl s).drop i).takeWhile f).length
section
variable {s : ByteArray} {f : UInt8 → Bool} {i : Nat} {b : UInt8}
theorem whl_go (h : s[i]? = some b) (hf : f b = true) : whl s f i = whl s f (i + 1) := by
  rw [whl, whl, drop_cons' h, List.takeWhile_cons_of_pos hf, List.length_cons]; omega
theorem whl_stop (h : s[i]? = some b) (hf : f b = false) : whl s f i = i := by
  rw [whl, drop_cons' h, List.takeWhile_cons_of_neg (by rw [hf]; decide), List.length_nil]; rfl
theorem whl_end (h : s.size ≤ i) : whl s f i = i := by rw [whl, drop_none h]; rfl
theorem tw_len (l : List UInt8) : (l.takeWhile f).length ≤ l.length := by
  have := congrArg List.length (List.takeWhile_append_dropWhile (p := f) (l := l))
  rw [List.length_append] at this; omega
theorem whl_le (h : i ≤ s.size) : whl s f i ≤ s.size := by
  have := tw_len (f := f) ((bl s).drop i)
  rw [List.length_drop, bl_size] at this
  rw [whl]; omega
theorem whl_ge : i ≤ whl s f i := Nat.le_add_right _ _
theorem take_tw : ∀ l : List UInt8, l.take (l.takeWhile f).length = l.takeWhile f
  | [] => rfl
  | b :: l => by
    rw [List.takeWhile_cons]
    split
    · rw [List.length_cons, List.take_succ_cons, take_tw l]
    · rfl
theorem ext_bl (l h : Nat) : bl (s.extract l h) = ((bl s).drop l).take (h - l) := by
  simp only [bl, ByteArray.data_extract, Array.toList_extract]
theorem whl_text : bl (s.extract i (whl s f i)) = ((bl s).drop i).takeWhile f := by
  rw [ext_bl, whl, Nat.add_sub_cancel_left, take_tw]
theorem whl_drop : (bl s).drop (whl s f i) = ((bl s).drop i).drop (((bl s).drop i).takeWhile f).length := by rw [whl, List.drop_drop]
end
theorem skip_suf : ∀ (c : Bool) (l : List UInt8), ∃ k, skipL c l = l.drop k
  | _, [] => ⟨0, by simp [skipL]⟩
  | true, b :: l => by
    rw [skipL]
    obtain ⟨k, hk⟩ := skip_suf false l
    obtain ⟨k', hk'⟩ := skip_suf true l
    split
    · exact ⟨k + 1, by rw [hk]; rfl⟩
    · exact ⟨k' + 1, by rw [hk']; rfl⟩
  | false, b :: l => by
    rw [skipL]
    obtain ⟨k, hk⟩ := skip_suf false l
    obtain ⟨k', hk'⟩ := skip_suf true l
    split
    · exact ⟨k + 1, by rw [hk]; rfl⟩
    · split
      · exact ⟨k' + 1, by rw [hk']; rfl⟩
      · exact ⟨0, rfl⟩
/-- The place behind blanks and comments. -/
def skp (s : ByteArray) (i : Nat) : Nat := s.size - (skipL false ((bl s).drop i)).length
def nnl (b : UInt8) : Bool := !decide (b.toNat = 10)
section
variable {s : ByteArray} {i : Nat} {b : UInt8}
theorem skp_le : skp s i ≤ s.size := Nat.sub_le _ _
theorem skp_drop : (bl s).drop (skp s i) = skipL false ((bl s).drop i) := by
  obtain ⟨k, hk⟩ := skip_suf false ((bl s).drop i)
  rw [List.drop_drop] at hk
  have hl : (skipL false ((bl s).drop i)).length = s.size - (i + k) := by rw [hk, List.length_drop, bl_size]
  rcases Nat.lt_or_ge (i + k) s.size with h | h
  · rw [skp, hl, show s.size - (s.size - (i + k)) = i + k by omega, hk]
  · rw [skp, hl, show s.size - (s.size - (i + k)) = s.size by omega, hk, drop_none h, drop_none (Nat.le_refl _)]
theorem skp_blank (h : s[i]? = some b) (hb : blkB b = true) : skp s i = skp s (i + 1) := by
  rw [skp, skp, drop_cons' h, skipL, if_pos hb]
theorem skp_stop (hi : i ≤ s.size) (h : s[i]? = some b) (hb : blkB b = false) (h2 : b.toNat ≠ 35) : skp s i = i := by
  rw [skp, drop_cons' h, skipL, if_neg (by rw [hb]; decide), if_neg h2, ← drop_cons' h, List.length_drop, bl_size]; omega
theorem skp_end (h : s.size ≤ i) : skp s i = s.size := by rw [skp, drop_none h]; simp [skipL]
theorem skipL_true : ∀ l : List UInt8, skipL true l = skipL false (l.drop (l.takeWhile nnl).length)
  | [] => by simp [skipL]
  | b :: l => by
    rw [skipL, List.takeWhile_cons]
    by_cases h : b.toNat = 10
    · have hn : nnl b = false := by simp [nnl, h]
      rw [if_pos h, hn, if_neg (by decide), List.length_nil, List.drop_zero, skipL, if_pos (by simp [blkB, h])]
    · have hn : nnl b = true := by simp [nnl, h]
      rw [if_neg h, hn, if_pos rfl, List.length_cons, List.drop_succ_cons, skipL_true l]
theorem skp_hash (h : s[i]? = some b) (hb : b.toNat = 35) : skp s i = skp s (whl s nnl i) := by
  have hb1 : blkB b = false := by simp [blkB, hb]
  have hn : nnl b = true := by simp [nnl, hb]
  rw [whl_go h hn, skp, skp, drop_cons' h, skipL, if_neg (by rw [hb1]; decide), if_pos hb, skipL_true, whl_drop]
end
end Go.Proofs.YtnabbnhefjfegaaGreatDoor
namespace Go.Proofs.YtnabbnhefjfegaaGreatDoor
open Go.RowKit Go.MapKept
section
variable {P : Program} {n : NM} {w0 : Base} {X0 X : PMap} {own : Own} {env : Env}
theorem PMap.add_at {b : Nat} {o : Obj} : X.add b o b = some o := by simp [PMap.add]
theorem PMap.add_ne {b k : Nat} {o : Obj} (h : k ≠ b) : X.add b o k = X k := by simp [PMap.add, h]
theorem PMap.le_add {b : Nat} {o : Obj} {Y : PMap} (h : Y.le X) (hb : Y b = none) : Y.le (X.add b o) := fun k q hk => by
  have hne : k ≠ b := fun e => by rw [e, hb] at hk; cases hk
  rw [PMap.add_ne hne]; exact h k q hk
/-- A new block of any kind, public at once. -/
theorem Sat.lay {W : World} (h : Sat w0 X0 own X W) (o : Obj) : Sat w0 X0 own (X.add W.heap.size o) (W.alloc o) := by
  refine h.call ((Below.refl _ W).alloc (Nat.le_refl _) _) (fun k q hk => ?_) fun k hk => PMap.add_ne (Nat.ne_of_lt hk)
  by_cases e : k = W.heap.size
  · subst e; rw [PMap.add_at] at hk; cases hk; exact (heap_alloc W _).1
  · rw [PMap.add_ne e] at hk; exact (Grow.alloc W _).pin h.stab.pers k q hk
end
end Go.Proofs.YtnabbnhefjfegaaGreatDoor
namespace Go.Proofs.YtnabbnhefjfegaaGreatDoor
open Go.RowKit
section
variable {P : Program} {n : NM} {w0 : Base} {X0 X : PMap} {own : Own} {env : Env}
theorem op_sliceStrLo {t : TypeId} {x lo : Operand} {s : ByteArray} {l : Nat} {k : IntKind} (ht : P.underlying t = some .string) (hx : eev env x = some (.string s)) (hl : eev env lo = some (.int k (l : Int))) (h1 : l ≤ s.size) :
    OpY P n env own X (.slice t x (some lo) none none) (.string (s.extract l s.size)) := by
  intro a W oper hop ha _
  have hb : (Instr.sliceBounds false s.size s.size (some (.int k (l : Int))) none none).run P W = .ok (l, s.size, s.size) W := by
    simp [Instr.sliceBounds, Instr.sliceBound, asIntOf, h1]
  have : (Instr.sliceAt t (.string s) (some (.int k (l : Int))) none none).run P W = .ok (.string (s.extract l s.size)) W := by
    simp only [Instr.sliceAt, Sem.run_bind, run_underlying ht, Result.andThen_ok, Instr.slice]
    simp [hb]
  simp [execOp, hop, ha.eval hx, ha.eval hl, this]
theorem op_sliceStrHi {t : TypeId} {x hi : Operand} {s : ByteArray} {h : Nat} {k' : IntKind} (ht : P.underlying t = some .string) (hx : eev env x = some (.string s)) (hh : eev env hi = some (.int k' (h : Int))) (h2 : h ≤ s.size) :
    OpY P n env own X (.slice t x none (some hi) none) (.string (s.extract 0 h)) := by
  intro a W oper hop ha _
  have hb : (Instr.sliceBounds false s.size s.size none (some (.int k' (h : Int))) none).run P W = .ok (0, h, s.size) W := by
    simp [Instr.sliceBounds, Instr.sliceBound, asIntOf, h2]
  have : (Instr.sliceAt t (.string s) none (some (.int k' (h : Int))) none).run P W = .ok (.string (s.extract 0 h)) W := by
    simp only [Instr.sliceAt, Sem.run_bind, run_underlying ht, Result.andThen_ok, Instr.slice]
    simp [hb]
  simp [execOp, hop, ha.eval hx, ha.eval hh, this]
def byteC (s : ByteArray) : List Value := s.data.toList.map fun b => .int .u8 (b.toNat : Int)
/-- []byte(s): a row that nobody writes. -/
theorem op_bytesOf {src dst e : TypeId} {x : Operand} {s : ByteArray} (hs : P.underlying src = some .string) (hd : P.underlying dst = some (.slice e)) (he : P.underlying e = some (.int .u8)) (hx : eev env x = some (.string s)) :
    OpX P n w0 X0 env own X (.convert src dst x) true fun u own' X' => ∃ b cap, u = .slice (some ⟨b, 0, none⟩) s.size cap ∧ own = own' ∧ X.le X' ∧ Blk X' b (byteC s) := by
  intro a W oper K Q ro hop ha hsat hK
  have hr := run_bytes_of_string (P := P) W src dst e s hs hd he
  have hex : (execOp a.eval oper).run P W = .ok (.value (.slice (some ⟨W.heap.size, 0, none⟩) s.size (grownCap W s.size 0 e))) (W.drew.alloc (.cells (bytesRow s (grownCap W s.size 0 e)) e ((bytesRow s (grownCap W s.size 0 e)).size, (bytesRow s (grownCap W s.size 0 e)).size + 1))) := by
    simp [execOp, hop, ha.eval hx, hr]
  have h1 := hsat.draw (W.drawn + 1)
  have h2 := h1.lay (.cells (bytesRow s (grownCap W s.size 0 e)) e ((bytesRow s (grownCap W s.size 0 e)).size, (bytesRow s (grownCap W s.size 0 e)).size + 1))
  refine wp_value (noDefer_spec (by rw [hop]; rfl)) hex (hK _ _ _ _ ⟨_, _, rfl, rfl, PMap.le_add (PMap.le_refl _) hsat.stab.pers.fresh, ?_⟩ h2 fun _ => ?_)
  · have e1 : bytesRow s (grownCap W s.size 0 e) = (byteC s ++ List.replicate (grownCap W s.size 0 e - s.size) (Value.int .u8 0)).toArray := by
      apply Array.ext'
      simp [bytesRow, byteC]
    refine ⟨List.replicate (grownCap W s.size 0 e - s.size) (Value.int .u8 0), e, ((bytesRow s (grownCap W s.size 0 e)).size, (bytesRow s (grownCap W s.size 0 e)).size + 1), ?_⟩
    rw [← e1]
    exact PMap.add_at
  · have := Grow.alloc W.drew (.cells (bytesRow s (grownCap W s.size 0 e)) e ((bytesRow s (grownCap W s.size 0 e)).size, (bytesRow s (grownCap W s.size 0 e)).size + 1))
    exact ⟨this.size, this.same⟩
end
end Go.Proofs.YtnabbnhefjfegaaGreatDoor
namespace Go.Proofs.YtnabbnhefjfegaaGreatDoor
section
set_option maxRecDepth 100000
theorem en127 : Enters Tryz.prog 127 := enters_mk Tryz.func127 (by kernel_rfl) rfl
theorem en68 : Enters Tryz.prog 68 := enters_mk Tryz.func68 (by kernel_rfl) rfl
theorem en69 : Enters Tryz.prog 69 := enters_mk Tryz.func69 (by kernel_rfl) rfl
theorem en71 : Enters Tryz.prog 71 := enters_mk Tryz.func71 (by kernel_rfl) rfl
end
open Go.RowKit
theorem letB_ge {b : UInt8} : letB b = true ↔ 97 ≤ b.toNat ∧ b.toNat ≤ 122 := by simp [letB]
theorem digB_ge {b : UInt8} : digB b = true ↔ 48 ≤ b.toNat ∧ b.toNat ≤ 57 := by simp [digB]
theorem tletter_spec {X : PMap} (b : UInt8) : Spec Tryz.prog 68 [.int .u8 (b.toNat : Int)] X fun u _ => u = .bool (letB b) := by
  by_cases h1 : 97 ≤ b.toNat
  · by_cases h2 : b.toNat ≤ 122
    · refine Spec.enter Tryz.func68 rfl Tryz.ntmps68 rfl ?_
      intro w0 hw0
      refine T.seq <| T.region <| SL.as rfl <| SL.nil <| T.seq <| T.region <| SL.mv rfl <| SL.v (op_geqT rfl rfl (by omega)) ?_
      refine SL.mv rfl <| SL.mv rfl <| SL.v (op_leqT rfl rfl (by omega)) ?_
      refine SL.v (op_pickT rfl rfl) <| SL.as rfl <| SL.nil <| T.ret1 rfl (ResIs.tmp rfl) ?_
      rw [letB_ge.2 ⟨h1, h2⟩]
    · refine Spec.enter Tryz.func68 rfl Tryz.ntmps68 rfl ?_
      intro w0 hw0
      refine T.seq <| T.region <| SL.as rfl <| SL.nil <| T.seq <| T.region <| SL.mv rfl <| SL.v (op_geqT rfl rfl (by omega)) ?_
      refine SL.mv rfl <| SL.mv rfl <| SL.v (op_leqF rfl rfl (by omega)) ?_
      refine SL.v (op_pickT rfl rfl) <| SL.as rfl <| SL.nil <| T.ret1 rfl (ResIs.tmp rfl) ?_
      rw [show letB b = false by simp [letB, h2]]
  · refine Spec.enter Tryz.func68 rfl Tryz.ntmps68 rfl ?_
    intro w0 hw0
    refine T.seq <| T.region <| SL.as rfl <| SL.nil <| T.seq <| T.region <| SL.mv rfl <| SL.v (op_geqF rfl rfl (by omega)) ?_
    refine SL.mv rfl <| SL.skip rfl rfl ?_
    refine SL.skip rfl rfl ?_
    refine SL.v (op_pickF rfl rfl) <| SL.as rfl <| SL.nil <| T.ret1 rfl (ResIs.tmp rfl) ?_
    rw [show letB b = false by simp [letB, h1]]
theorem tdigit_spec {X : PMap} (b : UInt8) : Spec Tryz.prog 71 [.int .u8 (b.toNat : Int)] X fun u _ => u = .bool (digB b) := by
  by_cases h1 : 48 ≤ b.toNat
  · by_cases h2 : b.toNat ≤ 57
    · refine Spec.enter Tryz.func71 rfl Tryz.ntmps71 rfl ?_
      intro w0 hw0
      refine T.seq <| T.region <| SL.as rfl <| SL.nil <| T.seq <| T.region <| SL.mv rfl <| SL.v (op_geqT rfl rfl (by omega)) ?_
      refine SL.mv rfl <| SL.mv rfl <| SL.v (op_leqT rfl rfl (by omega)) ?_
      refine SL.v (op_pickT rfl rfl) <| SL.as rfl <| SL.nil <| T.ret1 rfl (ResIs.tmp rfl) ?_
      rw [digB_ge.2 ⟨h1, h2⟩]
    · refine Spec.enter Tryz.func71 rfl Tryz.ntmps71 rfl ?_
      intro w0 hw0
      refine T.seq <| T.region <| SL.as rfl <| SL.nil <| T.seq <| T.region <| SL.mv rfl <| SL.v (op_geqT rfl rfl (by omega)) ?_
      refine SL.mv rfl <| SL.mv rfl <| SL.v (op_leqF rfl rfl (by omega)) ?_
      refine SL.v (op_pickT rfl rfl) <| SL.as rfl <| SL.nil <| T.ret1 rfl (ResIs.tmp rfl) ?_
      rw [show digB b = false by simp [digB, h2]]
  · refine Spec.enter Tryz.func71 rfl Tryz.ntmps71 rfl ?_
    intro w0 hw0
    refine T.seq <| T.region <| SL.as rfl <| SL.nil <| T.seq <| T.region <| SL.mv rfl <| SL.v (op_geqF rfl rfl (by omega)) ?_
    refine SL.mv rfl <| SL.skip rfl rfl ?_
    refine SL.skip rfl rfl ?_
    refine SL.v (op_pickF rfl rfl) <| SL.as rfl <| SL.nil <| T.ret1 rfl (ResIs.tmp rfl) ?_
    rw [show digB b = false by simp [digB, h1]]
theorem innB_or (b : UInt8) : innB b = (letB b || digB b || decide (b.toNat = 95)) := by
  simp only [innB, letB, digB]
  rw [Bool.eq_iff_iff]
  simp only [decide_eq_true_eq, Bool.or_eq_true]
  omega
theorem tinner_spec {X : PMap} (b : UInt8) : Spec Tryz.prog 70 [.int .u8 (b.toNat : Int)] X fun u _ => u = .bool (innB b) := by
  rw [innB_or]
  refine Spec.enter Tryz.func70 rfl Tryz.ntmps70 rfl ?_
  intro w0 hw0
  refine T.seq <| T.region <| SL.as rfl <| SL.nil <| T.seq <| T.region <| SL.mv rfl <| SL.w (op_callF en68 (vs := [_]) rfl (tletter_spec b)) ?_
  rintro _ _ X1 ⟨rfl, hX1, rfl⟩
  cases hl : letB b with
  | true =>
    refine SL.mv rfl <| SL.skip rfl rfl ?_
    refine SL.skip rfl rfl ?_
    refine SL.v (op_pickT rfl rfl) <| SL.mv rfl <| SL.skip rfl rfl ?_
    refine SL.skip rfl rfl ?_
    refine SL.v (op_pickT rfl rfl) <| SL.as rfl <| SL.nil <| T.ret1 rfl (ResIs.tmp rfl) ?_
    rfl
  | false =>
    refine SL.mv rfl <| SL.mv rfl <| SL.w (op_callF en71 (vs := [_]) rfl (tdigit_spec b)) ?_
    rintro _ _ X2 ⟨rfl, hX2, rfl⟩
    cases hd : digB b with
    | true =>
      refine SL.v (op_pickF rfl rfl) <| SL.mv rfl <| SL.skip rfl rfl ?_
      refine SL.skip rfl rfl ?_
      refine SL.v (op_pickT rfl rfl) <| SL.as rfl <| SL.nil <| T.ret1 rfl (ResIs.tmp rfl) ?_
      rfl
    | false =>
      by_cases h : b.toNat = 95
      · skip
        refine SL.v (op_pickF rfl rfl) <| SL.mv rfl <| SL.mv rfl <| SL.v (op_eqlT rfl rfl (by omega)) ?_
        refine SL.v (op_pickF rfl rfl) <| SL.as rfl <| SL.nil <| T.ret1 rfl (ResIs.tmp rfl) ?_
        rw [decide_eq_true h]; rfl
      · refine SL.v (op_pickF rfl rfl) <| SL.mv rfl <| SL.mv rfl <| SL.v (op_eqlF rfl rfl (by omega)) ?_
        refine SL.v (op_pickF rfl rfl) <| SL.as rfl <| SL.nil <| T.ret1 rfl (ResIs.tmp rfl) ?_
        rw [decide_eq_false h]; rfl
theorem tnnl_spec {X : PMap} (b : UInt8) : Spec Tryz.prog 127 [.int .u8 (b.toNat : Int)] X fun u _ => u = .bool (nnl b) := by
  by_cases h : b.toNat = 10
  · refine Spec.enter Tryz.func127 rfl Tryz.ntmps127 rfl ?_
    intro w0 hw0
    refine T.seq <| T.region <| SL.as rfl <| SL.nil <| T.seq <| T.region <| SL.mv rfl <| SL.v (op_neqF rfl rfl (by omega)) ?_
    refine SL.as rfl <| SL.nil <| T.ret1 rfl (ResIs.tmp rfl) ?_
    rw [show nnl b = false by simp [nnl, h]]
  · refine Spec.enter Tryz.func127 rfl Tryz.ntmps127 rfl ?_
    intro w0 hw0
    refine T.seq <| T.region <| SL.as rfl <| SL.nil <| T.seq <| T.region <| SL.mv rfl <| SL.v (op_neqT rfl rfl (by omega)) ?_
    refine SL.as rfl <| SL.nil <| T.ret1 rfl (ResIs.tmp rfl) ?_
    rw [show nnl b = true by simp [nnl, h]]
theorem while_spec {X : PMap} {g : Nat} {f : UInt8 → Bool} {s : ByteArray} {i : Nat} (en : Enters Tryz.prog g) (hg : ∀ {X : PMap} (b : UInt8), Spec Tryz.prog g [.int .u8 (b.toNat : Int)] X fun u _ => u = .bool (f b)) (hi : i ≤ s.size) (hs : s.size < 1000000000) :
    Spec Tryz.prog 69 [.string s, .int .i64 (i : Int), .func (.func g) #[] #[]] X fun u _ => u = .int .i64 (whl s f i : Int) := by
  refine Spec.enter Tryz.func69 rfl Tryz.ntmps69 rfl ?_
  intro w0 hw0
  refine T.seq <| T.region <| SL.v (op_assign (v := .int .i64 ((0 : Nat) : Int)) rfl) <| SL.nil <| T.seq <| T.block <| T.loopW (fun m env own X' => ∃ q : Nat, m = s.size - q ∧ q ≤ s.size ∧ X.le X' ∧ whl s f i = whl s f q ∧ env = [(0, .string s), (1, .int .i64 (q : Int)), (2, .func (.func g) #[] #[])] ∧ own = []) (s.size - i) ⟨i, rfl, hi, PMap.le_refl _, rfl, rfl, rfl⟩ (by repeat (first | exact Sub.nil | refine Sub.cons rfl ?_)) ?_
  rintro m _ _ X1 ⟨q, rfl, hq, hX1, hw, rfl, rfl⟩
  rcases Nat.lt_or_ge q s.size with hql | hql
  · obtain ⟨b, hb⟩ := get_some hql
    refine T.seq <| T.seq <| T.region <| SL.mv rfl <| SL.mv rfl <| SL.v (op_lenStr Tryz.underlying9 rfl) <| SL.v (op_lssT rfl rfl (by omega)) ?_
    refine SL.mv rfl <| SL.mv rfl <| SL.mv rfl <| SL.mv rfl <| SL.v (op_idxStr Tryz.underlying9 rfl rfl rfl hb) <| SL.w (op_call en rfl (vs := [_]) rfl (hg b)) ?_
    rintro _ _ X2 ⟨rfl, hX2, rfl⟩
    cases hf : f b with
    | true =>
      refine SL.v (op_pickT rfl rfl) <| SL.nil <| T.condT rfl <| T.skip <| T.block <| T.region <| SL.mv rfl <| SL.v (op_addN (q := 1) rfl rfl (by omega)) ?_
      refine SL.as rfl <| SL.nil <| T.blk ?_
      exact T.backW (s.size - (q + 1)) (by omega) ⟨q + 1, rfl, by omega, hX1.trans' hX2, by rw [hw, whl_go hb hf], rfl, rfl⟩ (by repeat (first | exact Sub.nil | refine Sub.cons rfl ?_))
    | false =>
      refine SL.v (op_pickT rfl rfl) <| SL.nil <| T.condF rfl ?_
      refine T.exit (T.exitCode (T.exitCut (T.exitBlk ?_)))
      refine T.seq <| T.region <| SL.mv rfl <| SL.as rfl <| SL.nil <| T.ret1 rfl (ResIs.tmp rfl) ?_
      rw [hw, whl_stop hb hf]
  · refine T.seq <| T.seq <| T.region <| SL.mv rfl <| SL.mv rfl <| SL.v (op_lenStr Tryz.underlying9 rfl) <| SL.v (op_lssF rfl rfl (by omega)) ?_
    refine SL.mv rfl <| SL.skip rfl rfl ?_
    refine SL.skip rfl rfl ?_
    refine SL.skip rfl rfl ?_
    refine SL.skip rfl rfl ?_
    refine SL.skip rfl rfl ?_
    refine SL.v (op_pickF rfl rfl) <| SL.nil <| T.condF rfl ?_
    refine T.exit (T.exitCode (T.exitCut (T.exitBlk ?_)))
    refine T.seq <| T.region <| SL.mv rfl <| SL.as rfl <| SL.nil <| T.ret1 rfl (ResIs.tmp rfl) ?_
    rw [hw, whl_end hql]
theorem skip_spec {X : PMap} {s : ByteArray} {i : Nat} (hi : i ≤ s.size) (hs : s.size < 1000000000) : Spec Tryz.prog 67 [.string s, .int .i64 (i : Int)] X fun u _ => u = .int .i64 (skp s i : Int) := by
  refine Spec.enter Tryz.func67 rfl Tryz.ntmps67 rfl ?_
  intro w0 hw0
  refine T.seq <| T.region <| SL.v (op_assign (v := .int .i64 ((0 : Nat) : Int)) rfl) <| SL.nil <| T.seq <| T.block <| T.loopW (fun m env own X' => ∃ q : Nat, m = s.size - q ∧ q ≤ s.size ∧ X.le X' ∧ skp s i = skp s q ∧ env = [(0, .string s), (1, .int .i64 (q : Int))] ∧ own = []) (s.size - i) ⟨i, rfl, hi, PMap.le_refl _, rfl, rfl, rfl⟩ (by repeat (first | exact Sub.nil | refine Sub.cons rfl ?_)) ?_
  rintro m _ _ X1 ⟨q, rfl, hq, hX1, hw, rfl, rfl⟩
  rcases Nat.lt_or_ge q s.size with hql | hql
  · obtain ⟨b, hb⟩ := get_some hql
    by_cases hbl : blkB b = true
    · have hb4 : b.toNat = 32 ∨ b.toNat = 9 ∨ b.toNat = 10 ∨ b.toNat = 13 := by simpa [blkB] using hbl
      have hn : skp s i = skp s (q + 1) := by rw [hw, skp_blank hb hbl]
      rcases hb4 with h | h | h | h
      · skip
        refine T.seq <| T.seq <| T.region <| SL.mv rfl <| SL.mv rfl <| SL.v (op_lenStr Tryz.underlying9 rfl) <| SL.v (op_lssT rfl rfl (by omega)) ?_
        refine SL.nil <| T.condT rfl <| T.skip <| T.block <| T.block <| T.seq <| T.region <| SL.mv rfl <| SL.mv rfl <| SL.v (op_idxStr Tryz.underlying9 rfl rfl rfl (by assumption)) ?_
        refine SL.v (op_eqlT rfl rfl (by omega)) ?_
        refine SL.mv rfl <| SL.skip rfl rfl ?_
        refine SL.skip rfl rfl ?_
        refine SL.skip rfl rfl ?_
        refine SL.skip rfl rfl ?_
        refine SL.v (op_pickT rfl rfl) <| SL.mv rfl <| SL.skip rfl rfl ?_
        refine SL.skip rfl rfl ?_
        refine SL.skip rfl rfl ?_
        refine SL.skip rfl rfl ?_
        refine SL.v (op_pickT rfl rfl) <| SL.mv rfl <| SL.skip rfl rfl ?_
        refine SL.skip rfl rfl ?_
        refine SL.skip rfl rfl ?_
        refine SL.skip rfl rfl ?_
        refine SL.v (op_pickT rfl rfl) <| SL.as rfl <| SL.nil <| T.condT rfl <| T.region <| SL.mv rfl <| SL.v (op_addN (q := 1) rfl rfl (by omega)) ?_
        refine SL.as rfl <| SL.nil <| T.blk <| T.blk ?_
        exact T.backW (s.size - (q + 1)) (by omega) ⟨q + 1, rfl, by omega, hX1, hn, rfl, rfl⟩ (by repeat (first | exact Sub.nil | refine Sub.cons rfl ?_))
      · skip
        refine T.seq <| T.seq <| T.region <| SL.mv rfl <| SL.mv rfl <| SL.v (op_lenStr Tryz.underlying9 rfl) <| SL.v (op_lssT rfl rfl (by omega)) ?_
        refine SL.nil <| T.condT rfl <| T.skip <| T.block <| T.block <| T.seq <| T.region <| SL.mv rfl <| SL.mv rfl <| SL.v (op_idxStr Tryz.underlying9 rfl rfl rfl (by assumption)) ?_
        refine SL.v (op_eqlF rfl rfl (by omega)) ?_
        refine SL.mv rfl <| SL.mv rfl <| SL.mv rfl <| SL.v (op_idxStr Tryz.underlying9 rfl rfl rfl (by assumption)) ?_
        refine SL.v (op_eqlT rfl rfl (by omega)) ?_
        refine SL.v (op_pickF rfl rfl) <| SL.mv rfl <| SL.skip rfl rfl ?_
        refine SL.skip rfl rfl ?_
        refine SL.skip rfl rfl ?_
        refine SL.skip rfl rfl ?_
        refine SL.v (op_pickT rfl rfl) <| SL.mv rfl <| SL.skip rfl rfl ?_
        refine SL.skip rfl rfl ?_
        refine SL.skip rfl rfl ?_
        refine SL.skip rfl rfl ?_
        refine SL.v (op_pickT rfl rfl) <| SL.as rfl <| SL.nil <| T.condT rfl <| T.region <| SL.mv rfl <| SL.v (op_addN (q := 1) rfl rfl (by omega)) ?_
        refine SL.as rfl <| SL.nil <| T.blk <| T.blk ?_
        exact T.backW (s.size - (q + 1)) (by omega) ⟨q + 1, rfl, by omega, hX1, hn, rfl, rfl⟩ (by repeat (first | exact Sub.nil | refine Sub.cons rfl ?_))
      · skip
        refine T.seq <| T.seq <| T.region <| SL.mv rfl <| SL.mv rfl <| SL.v (op_lenStr Tryz.underlying9 rfl) <| SL.v (op_lssT rfl rfl (by omega)) ?_
        refine SL.nil <| T.condT rfl <| T.skip <| T.block <| T.block <| T.seq <| T.region <| SL.mv rfl <| SL.mv rfl <| SL.v (op_idxStr Tryz.underlying9 rfl rfl rfl (by assumption)) ?_
        refine SL.v (op_eqlF rfl rfl (by omega)) ?_
        refine SL.mv rfl <| SL.mv rfl <| SL.mv rfl <| SL.v (op_idxStr Tryz.underlying9 rfl rfl rfl (by assumption)) ?_
        refine SL.v (op_eqlF rfl rfl (by omega)) ?_
        refine SL.v (op_pickF rfl rfl) <| SL.mv rfl <| SL.mv rfl <| SL.mv rfl <| SL.v (op_idxStr Tryz.underlying9 rfl rfl rfl (by assumption)) ?_
        refine SL.v (op_eqlT rfl rfl (by omega)) ?_
        refine SL.v (op_pickF rfl rfl) <| SL.mv rfl <| SL.skip rfl rfl ?_
        refine SL.skip rfl rfl ?_
        refine SL.skip rfl rfl ?_
        refine SL.skip rfl rfl ?_
        refine SL.v (op_pickT rfl rfl) <| SL.as rfl <| SL.nil <| T.condT rfl <| T.region <| SL.mv rfl <| SL.v (op_addN (q := 1) rfl rfl (by omega)) ?_
        refine SL.as rfl <| SL.nil <| T.blk <| T.blk ?_
        exact T.backW (s.size - (q + 1)) (by omega) ⟨q + 1, rfl, by omega, hX1, hn, rfl, rfl⟩ (by repeat (first | exact Sub.nil | refine Sub.cons rfl ?_))
      · skip
        refine T.seq <| T.seq <| T.region <| SL.mv rfl <| SL.mv rfl <| SL.v (op_lenStr Tryz.underlying9 rfl) <| SL.v (op_lssT rfl rfl (by omega)) ?_
        refine SL.nil <| T.condT rfl <| T.skip <| T.block <| T.block <| T.seq <| T.region <| SL.mv rfl <| SL.mv rfl <| SL.v (op_idxStr Tryz.underlying9 rfl rfl rfl (by assumption)) ?_
        refine SL.v (op_eqlF rfl rfl (by omega)) ?_
        refine SL.mv rfl <| SL.mv rfl <| SL.mv rfl <| SL.v (op_idxStr Tryz.underlying9 rfl rfl rfl (by assumption)) ?_
        refine SL.v (op_eqlF rfl rfl (by omega)) ?_
        refine SL.v (op_pickF rfl rfl) <| SL.mv rfl <| SL.mv rfl <| SL.mv rfl <| SL.v (op_idxStr Tryz.underlying9 rfl rfl rfl (by assumption)) ?_
        refine SL.v (op_eqlF rfl rfl (by omega)) ?_
        refine SL.v (op_pickF rfl rfl) <| SL.mv rfl <| SL.mv rfl <| SL.mv rfl <| SL.v (op_idxStr Tryz.underlying9 rfl rfl rfl (by assumption)) ?_
        refine SL.v (op_eqlT rfl rfl (by omega)) ?_
        refine SL.v (op_pickF rfl rfl) <| SL.as rfl <| SL.nil <| T.condT rfl <| T.region <| SL.mv rfl <| SL.v (op_addN (q := 1) rfl rfl (by omega)) ?_
        refine SL.as rfl <| SL.nil <| T.blk <| T.blk ?_
        exact T.backW (s.size - (q + 1)) (by omega) ⟨q + 1, rfl, by omega, hX1, hn, rfl, rfl⟩ (by repeat (first | exact Sub.nil | refine Sub.cons rfl ?_))
    · have hb4 : b.toNat ≠ 32 ∧ b.toNat ≠ 9 ∧ b.toNat ≠ 10 ∧ b.toNat ≠ 13 := by simpa [blkB] using hbl
      obtain ⟨g1, g2, g3, g4⟩ := hb4
      by_cases h35 : b.toNat = 35
      · have hnn : nnl b = true := by simp [nnl, h35]
        have hlt : q + 1 ≤ whl s nnl q := by rw [whl_go hb hnn]; exact whl_ge
        have hle : whl s nnl q ≤ s.size := whl_le hq
        refine T.seq <| T.seq <| T.region <| SL.mv rfl <| SL.mv rfl <| SL.v (op_lenStr Tryz.underlying9 rfl) <| SL.v (op_lssT rfl rfl (by omega)) ?_
        refine SL.nil <| T.condT rfl <| T.skip <| T.block <| T.block <| T.seq <| T.region <| SL.mv rfl <| SL.mv rfl <| SL.v (op_idxStr Tryz.underlying9 rfl rfl rfl (by assumption)) ?_
        refine SL.v (op_eqlF rfl rfl (by omega)) ?_
        refine SL.mv rfl <| SL.mv rfl <| SL.mv rfl <| SL.v (op_idxStr Tryz.underlying9 rfl rfl rfl (by assumption)) ?_
        refine SL.v (op_eqlF rfl rfl (by omega)) ?_
        refine SL.v (op_pickF rfl rfl) <| SL.mv rfl <| SL.mv rfl <| SL.mv rfl <| SL.v (op_idxStr Tryz.underlying9 rfl rfl rfl (by assumption)) ?_
        refine SL.v (op_eqlF rfl rfl (by omega)) ?_
        refine SL.v (op_pickF rfl rfl) <| SL.mv rfl <| SL.mv rfl <| SL.mv rfl <| SL.v (op_idxStr Tryz.underlying9 rfl rfl rfl (by assumption)) ?_
        refine SL.v (op_eqlF rfl rfl (by omega)) ?_
        refine SL.v (op_pickF rfl rfl) <| SL.as rfl <| SL.nil <| T.condF rfl <| T.seq <| T.region <| SL.mv rfl <| SL.mv rfl <| SL.v (op_idxStr Tryz.underlying9 rfl rfl rfl (by assumption)) ?_
        refine SL.v (op_eqlT rfl rfl (by omega)) ?_
        refine SL.as rfl <| SL.nil <| T.condT rfl <| T.region <| SL.mv rfl <| SL.mv rfl <| SL.w (op_callF en69 (vs := [_, _, _]) rfl (while_spec en127 tnnl_spec hq hs)) ?_
        rintro _ _ X2 ⟨rfl, hX2, rfl⟩
        refine SL.as rfl <| SL.nil <| T.blk <| T.blk ?_
        exact T.backW (s.size - whl s nnl q) (by omega) ⟨whl s nnl q, rfl, hle, hX1.trans' hX2, by rw [hw, skp_hash hb h35], rfl, rfl⟩ (by repeat (first | exact Sub.nil | refine Sub.cons rfl ?_))
      · skip
        refine T.seq <| T.seq <| T.region <| SL.mv rfl <| SL.mv rfl <| SL.v (op_lenStr Tryz.underlying9 rfl) <| SL.v (op_lssT rfl rfl (by omega)) ?_
        refine SL.nil <| T.condT rfl <| T.skip <| T.block <| T.block <| T.seq <| T.region <| SL.mv rfl <| SL.mv rfl <| SL.v (op_idxStr Tryz.underlying9 rfl rfl rfl (by assumption)) ?_
        refine SL.v (op_eqlF rfl rfl (by omega)) ?_
        refine SL.mv rfl <| SL.mv rfl <| SL.mv rfl <| SL.v (op_idxStr Tryz.underlying9 rfl rfl rfl (by assumption)) ?_
        refine SL.v (op_eqlF rfl rfl (by omega)) ?_
        refine SL.v (op_pickF rfl rfl) <| SL.mv rfl <| SL.mv rfl <| SL.mv rfl <| SL.v (op_idxStr Tryz.underlying9 rfl rfl rfl (by assumption)) ?_
        refine SL.v (op_eqlF rfl rfl (by omega)) ?_
        refine SL.v (op_pickF rfl rfl) <| SL.mv rfl <| SL.mv rfl <| SL.mv rfl <| SL.v (op_idxStr Tryz.underlying9 rfl rfl rfl (by assumption)) ?_
        refine SL.v (op_eqlF rfl rfl (by omega)) ?_
        refine SL.v (op_pickF rfl rfl) <| SL.as rfl <| SL.nil <| T.condF rfl <| T.seq <| T.region <| SL.mv rfl <| SL.mv rfl <| SL.v (op_idxStr Tryz.underlying9 rfl rfl rfl (by assumption)) ?_
        refine SL.v (op_eqlF rfl rfl (by omega)) ?_
        refine SL.as rfl <| SL.nil <| T.condF rfl <| T.seq <| T.region <| SL.mv rfl <| SL.as rfl <| SL.nil <| T.ret1 rfl (ResIs.tmp rfl) ?_
        rw [hw, skp_stop hq hb (by simpa using hbl) h35]
  · refine T.seq <| T.seq <| T.region <| SL.mv rfl <| SL.mv rfl <| SL.v (op_lenStr Tryz.underlying9 rfl) <| SL.v (op_lssF rfl rfl (by omega)) ?_
    refine SL.nil <| T.condF rfl ?_
    refine T.exit (T.exitCode (T.exitCut (T.exitBlk ?_)))
    refine T.seq <| T.region <| SL.mv rfl <| SL.as rfl <| SL.nil <| T.ret1 rfl (ResIs.tmp rfl) ?_
    rw [hw, skp_end hql]
    obtain rfl : q = s.size := by omega
    rfl
end Go.Proofs.YtnabbnhefjfegaaGreatDoor
namespace Go.Proofs.YtnabbnhefjfegaaGreatDoor
open Go.RowKit
theorem skip_idem : ∀ (c : Bool) (l : List UInt8), skipL false (skipL c l) = skipL c l
  | _, [] => by simp [skipL]
  | true, b :: l => by
    rw [skipL]
    split
    · exact skip_idem false l
    · exact skip_idem true l
  | false, b :: l => by
    rw [skipL]
    by_cases h1 : blkB b = true
    · rw [if_pos h1]; exact skip_idem false l
    · rw [if_neg h1]
      by_cases h2 : b.toNat = 35
      · rw [if_pos h2]; exact skip_idem true l
      · rw [if_neg h2, skipL, if_neg h1, if_neg h2]
def symF (s : ByteArray) (i : Nat) : Option (List UInt8) := symsL.find? fun x => x.isPrefixOf ((bl s).drop i)
theorem tok1_at {s : ByteArray} {p : Nat} {b : UInt8} (h : s[p]? = some b) : tok1 ((bl s).drop p) = if letB b then some (1, ((bl s).drop p).takeWhile innB, 0) else if digB b then (numT ((bl s).drop p)).map fun d => (2, d, valL d) else (symF s p).map fun x => (3, x, 0) := by
  rw [symF, drop_cons' h, tok1]
theorem tok1_len {l : List UInt8} {k n : Nat} {t : List UInt8} (h : tok1 l = some (k, t, n)) : t.length ≤ l.length := by
  cases l with
  | nil => cases h
  | cons b l =>
    rw [tok1] at h
    split at h
    · simp only [Option.some.injEq, Prod.mk.injEq] at h
      rw [← h.2.1]; exact tw_len _
    · split at h
      · unfold numT at h
        split at h
        · cases h
        · simp only [Option.map_some, Option.some.injEq, Prod.mk.injEq] at h
          rw [← h.2.1]; exact tw_len _
      · cases hf : symsL.find? fun s => s.isPrefixOf (b :: l) with
        | none => rw [hf] at h; cases h
        | some s =>
          rw [hf] at h
          simp only [Option.map_some, Option.some.injEq, Prod.mk.injEq] at h
          rw [← h.2.1]
          exact (List.isPrefixOf_iff_prefix.1 (List.find?_some (p := fun s : List UInt8 => s.isPrefixOf (b :: l)) hf)).length_le
theorem scan_at {s : ByteArray} {p : Nat} (hp : p < s.size) (hsk : skipL false ((bl s).drop p) = (bl s).drop p) :
    scanL s.size ((bl s).drop p) = match tok1 ((bl s).drop p) with | none => .error p | some (k, t, n) => consR ⟨k, ⟨t.toArray⟩, n, p⟩ (scanL s.size ((bl s).drop (skp s (p + t.length)))) := by
  obtain ⟨b, hb⟩ := get_some hp
  have hl : ((bl s).drop p).length = s.size - p := by rw [List.length_drop, bl_size]
  rw [scan_eq, hsk, drop_cons' hb] 
  rw [drop_cons' hb] at hl
  simp only [hl, show s.size - (s.size - p) = p by omega]
  cases ht : tok1 (b :: (bl s).drop (p + 1)) with
  | none => rfl
  | some x =>
    obtain ⟨k, t, n⟩ := x
    simp only
    congr 1
    rw [← drop_cons' hb, List.drop_drop]
    exact scan_skip (by rw [skp_drop, skip_idem])
theorem scan_none {s : ByteArray} {p : Nat} (hp : s.size ≤ p) : scanL s.size ((bl s).drop p) = .ok [⟨0, ⟨#[]⟩, 0, s.size⟩] := by rw [drop_none hp, scan_end]
theorem skp_ge {s : ByteArray} {i : Nat} (h : i ≤ s.size) : i ≤ skp s i := by
  have := skip_len false ((bl s).drop i)
  rw [List.length_drop, bl_size] at this
  rw [skp]; omega
theorem skp_skip {s : ByteArray} {i : Nat} : skipL false ((bl s).drop (skp s i)) = (bl s).drop (skp s i) := by rw [skp_drop, skip_idem]
theorem scan_skp {s : ByteArray} {i : Nat} : scanL s.size ((bl s).drop i) = scanL s.size ((bl s).drop (skp s i)) := scan_skip (by rw [skp_drop, skip_idem])
end Go.Proofs.YtnabbnhefjfegaaGreatDoor
namespace Go.Proofs.YtnabbnhefjfegaaGreatDoor
section
set_option maxRecDepth 100000
theorem en131 : Enters Tryz.prog 131 := enters_mk Tryz.func131 (by kernel_rfl) rfl
theorem en76 : Enters Tryz.prog 76 := enters_mk Tryz.func76 (by kernel_rfl) rfl
theorem z70 : Zero Tryz.prog 70 [.int .u8 0, .string ⟨#[]⟩, .int .i64 0, .int .i64 0] := ⟨zero_of (by kernel_rfl)⟩
theorem st70 : StT Tryz.prog 70 [(0, 1), (1, 1), (2, 1), (3, 1)] [.int .u8 0, .string ⟨#[]⟩, .int .i64 0, .int .i64 0] := ⟨⟨_, Tryz.underlying70, fun _ => by kernel_rfl, z70⟩⟩
theorem ty70 : Ty Tryz.prog 70 true 4 := ⟨⟨_, Tryz.underlying70, rfl⟩, by kernel_rfl⟩
end
open Go.RowKit
section
variable {P : Program} {n : NM} {own : Own} {X : PMap} {env : Env} {t t' : TypeId} {x y : Operand}
theorem op_sub8 {p q : Nat} (hx : eev env x = some (.int .u8 (p : Int))) (hy : eev env y = some (.int .u8 (q : Int))) (h : q ≤ p) (h' : p < 256) : OpY P n env own X (.binOp .sub t x y t') (.int .u8 ((p - q : Nat) : Int)) := by
  have := op_subW (P := P) (n := n) (own := own) (X := X) (t := t) (t' := t') hx hy
  rwa [show (p : Int) - (q : Int) = ((p - q : Nat) : Int) by omega, wrap_u8 (by omega) (by omega)] at this
end
theorem pre_iff {s t : ByteArray} : (bl t).isPrefixOf (bl s) = true ↔ s.extract 0 t.size = t := by
  rw [List.isPrefixOf_iff_prefix, List.prefix_iff_eq_take]
  have e : bl (s.extract 0 t.size) = (bl s).take (bl t).length := by rw [ext_bl, List.drop_zero, Nat.sub_zero, bl_size]
  rw [← e]
  exact ⟨fun h => (bl_inj h).symm, fun h => by rw [h]⟩
theorem hasPre_spec {X : PMap} {s t : ByteArray} : Spec Tryz.prog 131 [.string s, .string t] X fun u _ => u = .bool ((bl t).isPrefixOf (bl s)) := by
  by_cases h : t.size ≤ s.size
  · refine Spec.enter Tryz.func131 rfl Tryz.ntmps131 rfl ?_
    intro w0 hw0
    refine T.seq <| T.region <| SL.as rfl <| SL.nil <| T.seq <| T.region <| SL.mv rfl <| SL.v (op_lenStr Tryz.underlying9 rfl) <| SL.mv rfl <| SL.v (op_lenStr Tryz.underlying9 rfl) <| SL.v (op_geqT rfl rfl (by omega)) ?_
    refine SL.mv rfl <| SL.mv rfl <| SL.mv rfl <| SL.v (op_lenStr Tryz.underlying9 rfl) <| SL.v (op_sliceStrHi Tryz.underlying9 rfl rfl h) <| SL.mv rfl <| SL.v (op_eqlStrD (s := s.extract 0 t.size) (s' := t) rfl rfl) ?_
    rw [show decide (s.extract 0 t.size = t) = (bl t).isPrefixOf (bl s) by rw [Bool.eq_iff_iff, decide_eq_true_eq]; exact pre_iff.symm]
    refine SL.v (op_pickT rfl rfl) <| SL.as rfl <| SL.nil <| T.ret1 rfl (ResIs.tmp rfl) ?_
    rfl
  · have hn : (bl t).isPrefixOf (bl s) = false := by
      cases hq : (bl t).isPrefixOf (bl s) with
      | false => rfl
      | true =>
        have := (List.isPrefixOf_iff_prefix.1 hq).length_le
        rw [bl_size, bl_size] at this; omega
    refine Spec.enter Tryz.func131 rfl Tryz.ntmps131 rfl ?_
    intro w0 hw0
    refine T.seq <| T.region <| SL.as rfl <| SL.nil <| T.seq <| T.region <| SL.mv rfl <| SL.v (op_lenStr Tryz.underlying9 rfl) <| SL.mv rfl <| SL.v (op_lenStr Tryz.underlying9 rfl) <| SL.v (op_geqF rfl rfl (by omega)) ?_
    refine SL.mv rfl <| SL.skip rfl rfl ?_
    refine SL.skip rfl rfl ?_
    refine SL.skip rfl rfl ?_
    refine SL.skip rfl rfl ?_
    refine SL.skip rfl rfl ?_
    refine SL.skip rfl rfl ?_
    refine SL.v (op_pickF rfl rfl) <| SL.as rfl <| SL.nil <| T.ret1 rfl (ResIs.tmp rfl) ?_
    rw [hn]
theorem hasPrefix_spec {X : PMap} {s t : ByteArray} : Spec Tryz.prog 76 [.string s, .string t] X fun u _ => u = .bool ((bl t).isPrefixOf (bl s)) := by
  refine Spec.enter Tryz.func76 rfl Tryz.ntmps76 rfl ?_
  intro w0 hw0
  refine T.seq <| T.region <| SL.as rfl <| SL.nil <| T.seq <| T.region <| SL.mv rfl <| SL.mv rfl <| SL.w (op_callF en131 (vs := [_, _]) rfl (hasPre_spec)) ?_
  rintro _ _ X1 ⟨rfl, hX1, rfl⟩
  refine SL.as rfl <| SL.nil <| T.ret1 rfl (ResIs.tmp rfl) ?_
  rfl
theorem ext_lo {s : ByteArray} {i : Nat} : bl (s.extract i s.size) = (bl s).drop i := by
  rw [ext_bl, List.take_of_length_le (by rw [List.length_drop, bl_size]; exact Nat.le_refl _)]
def syms13 : List ByteArray := symsL.map fun l => ⟨l.toArray⟩
theorem syms_at {q : Nat} {x : ByteArray} (h : syms13[q]? = some x) : symsL[q]? = some (bl x) := by
  unfold syms13 at h
  rw [List.getElem?_map] at h
  obtain ⟨l, hl, rfl⟩ := Option.map_eq_some_iff.1 h
  rw [hl]
theorem find_step {f : List UInt8 → Bool} {l : List (List UInt8)} {q : Nat} {x : List UInt8} (h : (l.take q).find? f = none) (hx : l[q]? = some x) : (f x = true → l.find? f = some x) ∧ (f x = false → (l.take (q + 1)).find? f = none) := by
  constructor
  · intro hf
    have hl : l = l.take q ++ x :: l.drop (q + 1) := by
      obtain ⟨h1, h2⟩ := List.getElem?_eq_some_iff.1 hx
      rw [← h2, ← List.drop_eq_getElem_cons h1, List.take_append_drop]
    rw [hl, List.find?_append, h, List.find?_cons_of_pos hf]; rfl
  · intro hf
    rw [List.take_add_one, hx, List.find?_append, h]
    simp [hf]
def tkV (k : Nat) (t : ByteArray) (n o : Nat) : Value := .agg #[.int .u8 (k : Int), .string t, .int .i64 (n : Int), .int .i64 (o : Int)]
theorem symbol_spec {X : PMap} {s : ByteArray} {i : Nat} (hi : i ≤ s.size) : Spec Tryz.prog 73 [.string s, .int .i64 (i : Int)] X fun u _ => u = match symF s i with | some x => .tuple #[tkV 3 ⟨x.toArray⟩ 0 i, .bool true] | none => .tuple #[tkV 0 ⟨#[]⟩ 0 0, .bool false] := by
  refine Spec.enter Tryz.func73 rfl Tryz.ntmps73 rfl ?_
  intro w0 hw0
  refine T.seq <| T.region <| SL.w (op_alloc z70) ?_
  rintro _ _ _ ⟨B4, rfl, rfl, rfl⟩
  refine SL.as rfl <| SL.nil <| T.seq <| T.seq <| T.region <| SL.w (op_buildSlice Tryz.underlying37 bs9 (qs := [(0, _), (1, _), (2, _), (3, _), (4, _), (5, _), (6, _), (7, _), (8, _), (9, _), (10, _), (11, _), (12, _)]) rfl rfl rfl rfl rfl) ?_
  rintro _ _ _ ⟨B8, rfl, rfl, rfl⟩
  refine SL.v (op_lenS Tryz.underlying37 rfl) <| SL.v (op_move (v := .int .i64 ((0 : Nat) : Int)) rfl) <| SL.nil <| T.block <| T.pub B8 (by repeat constructor) ?_
  intro X1 hX1 hB8 _
  refine T.loopW (fun m env own X' => ∃ q : Nat, m = syms13.length - q ∧ q ≤ syms13.length ∧ X1.le X' ∧ ((symsL.take q).find? fun x => x.isPrefixOf ((bl s).drop i)) = none ∧ env = [(0, .string s), (1, .int .i64 (i : Int)), (4, .pointer (some ⟨B4, 0, none⟩)), (5, .bool false), (8, .slice (some ⟨B8, 0, none⟩) syms13.length 13), (9, .int .i64 (syms13.length : Int)), (10, .int .i64 (q : Int))] ∧ own = [⟨B4, [.int .u8 0, .string ⟨#[]⟩, .int .i64 0, .int .i64 0], 70, 4⟩]) syms13.length ⟨0, rfl, by omega, PMap.le_refl _, rfl, rfl, rfl⟩ (by repeat (first | exact Sub.nil | refine Sub.cons rfl ?_)) ?_
  rintro m _ _ X2 ⟨q, rfl, hq, hX2, hf, rfl, rfl⟩
  have h13 : syms13.length = 13 := rfl
  rcases Nat.lt_or_ge q syms13.length with hql | hql
  · obtain ⟨x, hx⟩ : ∃ x, syms13[q]? = some x := ⟨_, List.getElem?_eq_getElem hql⟩
    obtain ⟨hstep1, hstep2⟩ := find_step hf (syms_at hx)
    have hbA : Blk X1 B8 ([] ++ (syms13.map strC).flatten) := hB8
    refine T.seq <| T.region <| SL.v (op_lssT rfl rfl (by omega)) ?_
    refine SL.nil <| T.seq <| T.condT rfl <| T.skip <| T.seq <| T.block <| T.seq <| T.region <| SL.v (op_indexN Tryz.underlying37 ty9 rfl rfl (by omega)) ?_
    refine SL.v (op_loadX ty9 rfl (hbA.mono hX2) (str_read hx (by simp))) ?_
    refine SL.as rfl <| SL.nil <| T.seq <| T.region <| SL.mv rfl <| SL.mv rfl <| SL.v (op_sliceStrLo Tryz.underlying9 rfl rfl hi) <| SL.mv rfl <| SL.w (op_callF en76 (vs := [_, _]) rfl (hasPrefix_spec)) ?_
    rintro _ _ X3 ⟨rfl, hX3, rfl⟩
    rw [ext_lo]
    cases hp : (bl x).isPrefixOf ((bl s).drop i) with
    | true =>
      refine SL.nil <| T.condT rfl <| T.seq <| T.region <| SL.mv rfl <| SL.mv rfl <| SL.v (op_build st70 (qs := [(0, _), (1, _), (2, _), (3, _)]) rfl rfl) <| SL.w (op_store ty70 rfl rfl (by repeat constructor) rfl rfl rfl) ?_
      rintro _ _ _ ⟨rfl, rfl⟩
      refine SL.as rfl <| SL.nil <| T.ret2 rfl (ResIs.cell rfl ty70 (by repeat constructor) rfl) (ResIs.tmp rfl) ?_
      rw [symF, hstep1 hp]
      simp only [bl_mk]
      rfl
    | false =>
      refine SL.nil <| T.condF rfl <| T.skip <| T.blk <| T.region <| SL.v (op_addN (q := 1) rfl rfl (by omega)) ?_
      refine SL.mv rfl <| SL.nil ?_
      exact T.backW (syms13.length - (q + 1)) (by omega) ⟨q + 1, rfl, by omega, hX2.trans' hX3, hstep2 hp, rfl, rfl⟩ (by repeat (first | exact Sub.nil | refine Sub.cons rfl ?_))
  · refine T.seq <| T.region <| SL.v (op_lssF rfl rfl (by omega)) ?_
    refine SL.nil <| T.seq <| T.condF rfl ?_
    refine T.exit (T.exitCode (T.exitCut (T.exitBlk ?_)))
    refine T.seq <| T.region <| SL.v (op_build st70 (qs := []) rfl rfl) <| SL.w (op_store ty70 rfl rfl (by repeat constructor) rfl rfl rfl) ?_
    rintro _ _ _ ⟨rfl, rfl⟩
    refine SL.as rfl <| SL.nil <| T.ret2 rfl (ResIs.cell rfl ty70 (by repeat constructor) rfl) (ResIs.tmp rfl) ?_
    rw [List.take_of_length_le (by simpa [syms13] using hql)] at hf
    rw [symF, hf]
    rfl
theorem tw_mem {f : UInt8 → Bool} {b : UInt8} : ∀ {l : List UInt8}, b ∈ l.takeWhile f → f b = true
  | [], h => by cases h
  | c :: l, h => by
    rw [List.takeWhile_cons] at h
    split at h
    · rcases List.mem_cons.1 h with rfl | h
      · assumption
      · exact tw_mem h
    · cases h
theorem valL_lt : ∀ (k : Nat) (l : List UInt8), l.length = k → (∀ b ∈ l, digB b = true) → valL l < 10 ^ k
  | 0, l, h, _ => by rw [List.eq_nil_of_length_eq_zero h]; decide
  | k + 1, l, h, hd => by
    have hne : l ≠ [] := fun e => by rw [e] at h; cases h
    have hl : l = l.dropLast ++ [l.getLast hne] := (List.dropLast_concat_getLast hne).symm
    have ih := valL_lt k l.dropLast (by rw [List.length_dropLast, h]; rfl) fun b hb => hd b (List.dropLast_subset l hb)
    have hc := digB_ge.1 (hd _ (List.getLast_mem hne))
    rw [hl, valL_snoc, Nat.pow_succ]
    omega
theorem glued_at {s : ByteArray} {e : Nat} {b : UInt8} (h : s[e]? = some b) : glued ((bl s).drop e) = (letB b || b.toNat == 95) := by rw [drop_cons' h]; rfl
theorem glued_end {s : ByteArray} {e : Nat} (h : s.size ≤ e) : glued ((bl s).drop e) = false := by rw [drop_none h]; rfl
theorem head_at {s : ByteArray} {i : Nat} {b : UInt8} (h : s[i]? = some b) : ((bl s).drop i).head? = some b := by rw [drop_cons' h]; rfl
theorem whl_len {s : ByteArray} {f : UInt8 → Bool} {i : Nat} : whl s f i - i = (((bl s).drop i).takeWhile f).length := by rw [whl]; omega
theorem number_spec17 {X : PMap} {s : ByteArray} {i : Nat} {b0 : UInt8} (hb0 : s[i]? = some b0) (hi : i < s.size) (hs : s.size < 1000000000) : Spec Tryz.prog 72 [.string s, .int .i64 (i : Int)] X fun u _ => u = match numT ((bl s).drop i) with | some d => .tuple #[tkV 2 ⟨d.toArray⟩ (valL d) i, .bool true] | none => .tuple #[tkV 0 ⟨#[]⟩ 0 0, .bool false] := by
  have hle : whl s digB i ≤ s.size := whl_le (by omega)
  have hge : i ≤ whl s digB i := whl_ge
  have hlen := whl_len (s := s) (f := digB) (i := i)
  have hdr := whl_drop (s := s) (f := digB) (i := i)
  have htx := whl_text (s := s) (f := digB) (i := i)
  have hdig : ∀ b ∈ ((bl s).drop i).takeWhile digB, digB b = true := fun b => tw_mem
  have hhd := head_at hb0
  generalize he : whl s digB i = e at *
  generalize hd : ((bl s).drop i).takeWhile digB = d at *
  have hnum : ∀ x, numT ((bl s).drop i) = x ↔ (if 6 < d.length ∨ (1 < d.length ∧ some b0 = some 48) ∨ glued ((bl s).drop e) = true then none else some d) = x := fun x => by
    rw [numT, hd, hhd, hdr]
  refine Spec.enter Tryz.func72 rfl Tryz.ntmps72 rfl ?_
  intro w0 hw0
  refine T.seq <| T.region <| SL.w (op_alloc z70) ?_
  rintro _ _ _ ⟨B4, rfl, rfl, rfl⟩
  refine SL.as rfl <| SL.nil <| T.seq <| T.region <| SL.mv rfl <| SL.mv rfl <| SL.w (op_callF en69 (vs := [_, _, _]) rfl (while_spec en71 tdigit_spec (by omega) hs)) ?_
  rintro _ _ X1 ⟨rfl, hX1, rfl⟩
  rw [he]
  refine SL.as rfl <| SL.nil <| T.seq <| T.meet (fun _ env own X' => (numT ((bl s).drop i) = some d ∧ d.length ≤ 6) ∧ X1.le X' ∧ env = [(0, .string s), (1, .int .i64 (i : Int)), (4, .pointer (some ⟨B4, 0, none⟩)), (6, .int .i64 (e : Int))] ∧ own = [⟨B4, [.int .u8 0, .string ⟨#[]⟩, .int .i64 0, .int .i64 0], 70, 4⟩]) ?_ ?_
  · by_cases h1 : 6 < e - i
    · have hn : numT ((bl s).drop i) = none := (hnum _).2 (if_pos (.inl (by omega)))
      refine T.seq <| T.region <| SL.mv rfl <| SL.mv rfl <| SL.v (op_subN rfl rfl (by omega) (by omega)) ?_
      refine SL.v (op_gtrT rfl rfl (by omega)) ?_
      refine SL.mv rfl <| SL.skip rfl rfl ?_
      refine SL.skip rfl rfl ?_
      refine SL.skip rfl rfl ?_
      refine SL.skip rfl rfl ?_
      refine SL.skip rfl rfl ?_
      refine SL.skip rfl rfl ?_
      refine SL.skip rfl rfl ?_
      refine SL.skip rfl rfl ?_
      refine SL.skip rfl rfl ?_
      refine SL.skip rfl rfl ?_
      refine SL.v (op_pickT rfl rfl) <| SL.mv rfl <| SL.skip rfl rfl ?_
      refine SL.skip rfl rfl ?_
      refine SL.skip rfl rfl ?_
      refine SL.skip rfl rfl ?_
      refine SL.skip rfl rfl ?_
      refine SL.skip rfl rfl ?_
      refine SL.skip rfl rfl ?_
      refine SL.skip rfl rfl ?_
      refine SL.skip rfl rfl ?_
      refine SL.skip rfl rfl ?_
      refine SL.skip rfl rfl ?_
      refine SL.skip rfl rfl ?_
      refine SL.skip rfl rfl ?_
      refine SL.skip rfl rfl ?_
      refine SL.skip rfl rfl ?_
      refine SL.skip rfl rfl ?_
      refine SL.v (op_pickT rfl rfl) <| SL.nil <| T.condT rfl <| T.seq <| T.region <| SL.v (op_build st70 (qs := []) rfl rfl) <| SL.w (op_store ty70 rfl rfl (by repeat constructor) rfl rfl rfl) ?_
      rintro _ _ _ ⟨rfl, rfl⟩
      refine SL.as rfl <| SL.nil <| T.ret2 rfl (ResIs.cell rfl ty70 (by repeat constructor) rfl) (ResIs.tmp rfl) ?_
      rw [hn]
      rfl
    by_cases h2 : b0.toNat = 48 ∧ 1 < e - i
    · obtain ⟨h2, h3⟩ := h2
      have hb48 : b0 = 48 := UInt8.toNat_inj.1 h2
      have hn : numT ((bl s).drop i) = none := (hnum _).2 (if_pos (.inr (.inl ⟨by omega, by rw [hb48]⟩)))
      refine T.seq <| T.region <| SL.mv rfl <| SL.mv rfl <| SL.v (op_subN rfl rfl (by omega) (by omega)) ?_
      refine SL.v (op_gtrF rfl rfl (by omega)) ?_
      refine SL.mv rfl <| SL.mv rfl <| SL.mv rfl <| SL.v (op_idxStr Tryz.underlying9 rfl rfl rfl (by assumption)) ?_
      refine SL.v (op_eqlT rfl rfl (by omega)) ?_
      refine SL.mv rfl <| SL.mv rfl <| SL.mv rfl <| SL.v (op_subN rfl rfl (by omega) (by omega)) ?_
      refine SL.v (op_gtrT rfl rfl (by omega)) ?_
      refine SL.v (op_pickT rfl rfl) <| SL.v (op_pickF rfl rfl) <| SL.mv rfl <| SL.skip rfl rfl ?_
      refine SL.skip rfl rfl ?_
      refine SL.skip rfl rfl ?_
      refine SL.skip rfl rfl ?_
      refine SL.skip rfl rfl ?_
      refine SL.skip rfl rfl ?_
      refine SL.skip rfl rfl ?_
      refine SL.skip rfl rfl ?_
      refine SL.skip rfl rfl ?_
      refine SL.skip rfl rfl ?_
      refine SL.skip rfl rfl ?_
      refine SL.skip rfl rfl ?_
      refine SL.skip rfl rfl ?_
      refine SL.skip rfl rfl ?_
      refine SL.skip rfl rfl ?_
      refine SL.skip rfl rfl ?_
      refine SL.v (op_pickT rfl rfl) <| SL.nil <| T.condT rfl <| T.seq <| T.region <| SL.v (op_build st70 (qs := []) rfl rfl) <| SL.w (op_store ty70 rfl rfl (by repeat constructor) rfl rfl rfl) ?_
      rintro _ _ _ ⟨rfl, rfl⟩
      refine SL.as rfl <| SL.nil <| T.ret2 rfl (ResIs.cell rfl ty70 (by repeat constructor) rfl) (ResIs.tmp rfl) ?_
      rw [hn]
      rfl
    have hno : ∀ (hg : glued ((bl s).drop e) = false), numT ((bl s).drop i) = some d ∧ d.length ≤ 6 := fun hg => ⟨(hnum _).2 (if_neg (by
      rintro (h | ⟨h, h48⟩ | h)
      · omega
      · exact h2 ⟨by rw [Option.some.inj h48]; rfl, by omega⟩
      · rw [hg] at h; cases h)), by omega⟩
    have h12 : b0.toNat ≠ 48 ∨ (b0.toNat = 48 ∧ ¬(1 < e - i)) := by
      by_cases hx : b0.toNat = 48
      · exact .inr ⟨hx, fun h => h2 ⟨hx, h⟩⟩
      · exact .inl hx
    rcases Nat.lt_or_ge e s.size with hel | hel
    · obtain ⟨b, hb⟩ := get_some hel
      have hgl := glued_at hb
      rcases h12 with h12 | ⟨h12, h13⟩
      · skip
        refine T.seq <| T.region <| SL.mv rfl <| SL.mv rfl <| SL.v (op_subN rfl rfl (by omega) (by omega)) ?_
        refine SL.v (op_gtrF rfl rfl (by omega)) ?_
        refine SL.mv rfl <| SL.mv rfl <| SL.mv rfl <| SL.v (op_idxStr Tryz.underlying9 rfl rfl rfl (by assumption)) ?_
        refine SL.v (op_eqlF rfl rfl (by omega)) ?_
        refine SL.mv rfl <| SL.skip rfl rfl ?_
        refine SL.skip rfl rfl ?_
        refine SL.skip rfl rfl ?_
        refine SL.skip rfl rfl ?_
        refine SL.v (op_pickF rfl rfl) <| SL.v (op_pickF rfl rfl) <| SL.mv rfl <| SL.mv rfl <| SL.mv rfl <| SL.v (op_lenStr Tryz.underlying9 rfl) <| SL.v (op_lssT rfl rfl (by omega)) ?_
        refine SL.mv rfl <| SL.mv rfl <| SL.mv rfl <| SL.v (op_idxStr Tryz.underlying9 rfl rfl rfl (by assumption)) ?_
        refine SL.w (op_callF en68 (vs := [_]) rfl (tletter_spec b)) ?_
        rintro _ _ X2 ⟨rfl, hX2, rfl⟩
        cases hlb : letB b with
        | true =>
          have hn : numT ((bl s).drop i) = none := (hnum _).2 (if_pos (.inr (.inr (by rw [hgl, hlb]; rfl))))
          refine SL.mv rfl <| SL.skip rfl rfl ?_
          refine SL.skip rfl rfl ?_
          refine SL.skip rfl rfl ?_
          refine SL.skip rfl rfl ?_
          refine SL.v (op_pickT rfl rfl) <| SL.v (op_pickT rfl rfl) <| SL.v (op_pickF rfl rfl) <| SL.nil <| T.condT rfl <| T.seq <| T.region <| SL.v (op_build st70 (qs := []) rfl rfl) <| SL.w (op_store ty70 rfl rfl (by repeat constructor) rfl rfl rfl) ?_
          rintro _ _ _ ⟨rfl, rfl⟩
          refine SL.as rfl <| SL.nil <| T.ret2 rfl (ResIs.cell rfl ty70 (by repeat constructor) rfl) (ResIs.tmp rfl) ?_
          rw [hn]
          rfl
        | false =>
          by_cases h95 : b.toNat = 95
          · have hn : numT ((bl s).drop i) = none := (hnum _).2 (if_pos (.inr (.inr (by rw [hgl, h95]; simp))))
            refine SL.mv rfl <| SL.mv rfl <| SL.mv rfl <| SL.v (op_idxStr Tryz.underlying9 rfl rfl rfl (by assumption)) ?_
            refine SL.v (op_eqlT rfl rfl (by omega)) ?_
            refine SL.v (op_pickF rfl rfl) <| SL.v (op_pickT rfl rfl) <| SL.v (op_pickF rfl rfl) <| SL.nil <| T.condT rfl <| T.seq <| T.region <| SL.v (op_build st70 (qs := []) rfl rfl) <| SL.w (op_store ty70 rfl rfl (by repeat constructor) rfl rfl rfl) ?_
            rintro _ _ _ ⟨rfl, rfl⟩
            refine SL.as rfl <| SL.nil <| T.ret2 rfl (ResIs.cell rfl ty70 (by repeat constructor) rfl) (ResIs.tmp rfl) ?_
            rw [hn]
            rfl
          · refine SL.mv rfl <| SL.mv rfl <| SL.mv rfl <| SL.v (op_idxStr Tryz.underlying9 rfl rfl rfl (by assumption)) ?_
            refine SL.v (op_eqlF rfl rfl (by omega)) ?_
            refine SL.v (op_pickF rfl rfl) <| SL.v (op_pickT rfl rfl) <| SL.v (op_pickF rfl rfl) <| SL.nil <| T.condF rfl <| T.skip ?_
            exact T.backW 0 (by omega) ⟨hno (by rw [hgl, hlb]; simp [h95]), hX2, rfl, rfl⟩ (by repeat (first | exact Sub.nil | refine Sub.cons rfl ?_))
      · skip
        refine T.seq <| T.region <| SL.mv rfl <| SL.mv rfl <| SL.v (op_subN rfl rfl (by omega) (by omega)) ?_
        refine SL.v (op_gtrF rfl rfl (by omega)) ?_
        refine SL.mv rfl <| SL.mv rfl <| SL.mv rfl <| SL.v (op_idxStr Tryz.underlying9 rfl rfl rfl (by assumption)) ?_
        refine SL.v (op_eqlT rfl rfl (by omega)) ?_
        refine SL.mv rfl <| SL.mv rfl <| SL.mv rfl <| SL.v (op_subN rfl rfl (by omega) (by omega)) ?_
        refine SL.v (op_gtrF rfl rfl (by omega)) ?_
        refine SL.v (op_pickT rfl rfl) <| SL.v (op_pickF rfl rfl) <| SL.mv rfl <| SL.mv rfl <| SL.mv rfl <| SL.v (op_lenStr Tryz.underlying9 rfl) <| SL.v (op_lssT rfl rfl (by omega)) ?_
        refine SL.mv rfl <| SL.mv rfl <| SL.mv rfl <| SL.v (op_idxStr Tryz.underlying9 rfl rfl rfl (by assumption)) ?_
        refine SL.w (op_callF en68 (vs := [_]) rfl (tletter_spec b)) ?_
        rintro _ _ X2 ⟨rfl, hX2, rfl⟩
        cases hlb : letB b with
        | true =>
          have hn : numT ((bl s).drop i) = none := (hnum _).2 (if_pos (.inr (.inr (by rw [hgl, hlb]; rfl))))
          refine SL.mv rfl <| SL.skip rfl rfl ?_
          refine SL.skip rfl rfl ?_
          refine SL.skip rfl rfl ?_
          refine SL.skip rfl rfl ?_
          refine SL.v (op_pickT rfl rfl) <| SL.v (op_pickT rfl rfl) <| SL.v (op_pickF rfl rfl) <| SL.nil <| T.condT rfl <| T.seq <| T.region <| SL.v (op_build st70 (qs := []) rfl rfl) <| SL.w (op_store ty70 rfl rfl (by repeat constructor) rfl rfl rfl) ?_
          rintro _ _ _ ⟨rfl, rfl⟩
          refine SL.as rfl <| SL.nil <| T.ret2 rfl (ResIs.cell rfl ty70 (by repeat constructor) rfl) (ResIs.tmp rfl) ?_
          rw [hn]
          rfl
        | false =>
          by_cases h95 : b.toNat = 95
          · have hn : numT ((bl s).drop i) = none := (hnum _).2 (if_pos (.inr (.inr (by rw [hgl, h95]; simp))))
            refine SL.mv rfl <| SL.mv rfl <| SL.mv rfl <| SL.v (op_idxStr Tryz.underlying9 rfl rfl rfl (by assumption)) ?_
            refine SL.v (op_eqlT rfl rfl (by omega)) ?_
            refine SL.v (op_pickF rfl rfl) <| SL.v (op_pickT rfl rfl) <| SL.v (op_pickF rfl rfl) <| SL.nil <| T.condT rfl <| T.seq <| T.region <| SL.v (op_build st70 (qs := []) rfl rfl) <| SL.w (op_store ty70 rfl rfl (by repeat constructor) rfl rfl rfl) ?_
            rintro _ _ _ ⟨rfl, rfl⟩
            refine SL.as rfl <| SL.nil <| T.ret2 rfl (ResIs.cell rfl ty70 (by repeat constructor) rfl) (ResIs.tmp rfl) ?_
            rw [hn]
            rfl
          · refine SL.mv rfl <| SL.mv rfl <| SL.mv rfl <| SL.v (op_idxStr Tryz.underlying9 rfl rfl rfl (by assumption)) ?_
            refine SL.v (op_eqlF rfl rfl (by omega)) ?_
            refine SL.v (op_pickF rfl rfl) <| SL.v (op_pickT rfl rfl) <| SL.v (op_pickF rfl rfl) <| SL.nil <| T.condF rfl <| T.skip ?_
            exact T.backW 0 (by omega) ⟨hno (by rw [hgl, hlb]; simp [h95]), hX2, rfl, rfl⟩ (by repeat (first | exact Sub.nil | refine Sub.cons rfl ?_))
    · have hgl := glued_end hel
      rcases h12 with h12 | ⟨h12, h13⟩
      · skip
        refine T.seq <| T.region <| SL.mv rfl <| SL.mv rfl <| SL.v (op_subN rfl rfl (by omega) (by omega)) ?_
        refine SL.v (op_gtrF rfl rfl (by omega)) ?_
        refine SL.mv rfl <| SL.mv rfl <| SL.mv rfl <| SL.v (op_idxStr Tryz.underlying9 rfl rfl rfl (by assumption)) ?_
        refine SL.v (op_eqlF rfl rfl (by omega)) ?_
        refine SL.mv rfl <| SL.skip rfl rfl ?_
        refine SL.skip rfl rfl ?_
        refine SL.skip rfl rfl ?_
        refine SL.skip rfl rfl ?_
        refine SL.v (op_pickF rfl rfl) <| SL.v (op_pickF rfl rfl) <| SL.mv rfl <| SL.mv rfl <| SL.mv rfl <| SL.v (op_lenStr Tryz.underlying9 rfl) <| SL.v (op_lssF rfl rfl (by omega)) ?_
        refine SL.mv rfl <| SL.skip rfl rfl ?_
        refine SL.skip rfl rfl ?_
        refine SL.skip rfl rfl ?_
        refine SL.skip rfl rfl ?_
        refine SL.skip rfl rfl ?_
        refine SL.skip rfl rfl ?_
        refine SL.skip rfl rfl ?_
        refine SL.skip rfl rfl ?_
        refine SL.skip rfl rfl ?_
        refine SL.skip rfl rfl ?_
        refine SL.v (op_pickF rfl rfl) <| SL.v (op_pickF rfl rfl) <| SL.nil <| T.condF rfl <| T.skip ?_
        exact T.backW 0 (by omega) ⟨hno hgl, PMap.le_refl _, rfl, rfl⟩ (by repeat (first | exact Sub.nil | refine Sub.cons rfl ?_))
      · refine T.seq <| T.region <| SL.mv rfl <| SL.mv rfl <| SL.v (op_subN rfl rfl (by omega) (by omega)) ?_
        refine SL.v (op_gtrF rfl rfl (by omega)) ?_
        refine SL.mv rfl <| SL.mv rfl <| SL.mv rfl <| SL.v (op_idxStr Tryz.underlying9 rfl rfl rfl (by assumption)) ?_
        refine SL.v (op_eqlT rfl rfl (by omega)) ?_
        refine SL.mv rfl <| SL.mv rfl <| SL.mv rfl <| SL.v (op_subN rfl rfl (by omega) (by omega)) ?_
        refine SL.v (op_gtrF rfl rfl (by omega)) ?_
        refine SL.v (op_pickT rfl rfl) <| SL.v (op_pickF rfl rfl) <| SL.mv rfl <| SL.mv rfl <| SL.mv rfl <| SL.v (op_lenStr Tryz.underlying9 rfl) <| SL.v (op_lssF rfl rfl (by omega)) ?_
        refine SL.mv rfl <| SL.skip rfl rfl ?_
        refine SL.skip rfl rfl ?_
        refine SL.skip rfl rfl ?_
        refine SL.skip rfl rfl ?_
        refine SL.skip rfl rfl ?_
        refine SL.skip rfl rfl ?_
        refine SL.skip rfl rfl ?_
        refine SL.skip rfl rfl ?_
        refine SL.skip rfl rfl ?_
        refine SL.skip rfl rfl ?_
        refine SL.v (op_pickF rfl rfl) <| SL.v (op_pickF rfl rfl) <| SL.nil <| T.condF rfl <| T.skip ?_
        exact T.backW 0 (by omega) ⟨hno hgl, PMap.le_refl _, rfl, rfl⟩ (by repeat (first | exact Sub.nil | refine Sub.cons rfl ?_))
  rintro _ _ _ X3 ⟨⟨hn, hd6⟩, hX3, rfl, rfl⟩
  have htxt : s.extract i e = ⟨d.toArray⟩ := bl_inj htx
  have hds : (⟨d.toArray⟩ : ByteArray).size = d.length := rfl
  refine T.seq <| T.region <| SL.v (op_assign (v := .int .i64 ((0 : Nat) : Int)) rfl) <| SL.nil <| T.seq <| T.seq <| T.region <| SL.mv rfl <| SL.mv rfl <| SL.mv rfl <| SL.v (op_sliceStr Tryz.underlying9 rfl rfl rfl hge hle) ?_
  rw [htxt]
  refine SL.w (op_bytesOf Tryz.underlying9 Tryz.underlying64 Tryz.underlying5 rfl) ?_
  rintro _ _ X4 ⟨b52, c52, rfl, rfl, hX4, hB52⟩
  rw [hds]
  refine SL.v (op_lenS Tryz.underlying64 rfl) <| SL.v (op_move (v := .int .i64 ((0 : Nat) : Int)) rfl) <| SL.nil <| T.block <| T.loopW (fun m env own X' => ∃ q : Nat, m = d.length - q ∧ q ≤ d.length ∧ X4.le X' ∧ env = [(0, .string s), (1, .int .i64 (i : Int)), (4, .pointer (some ⟨B4, 0, none⟩)), (6, .int .i64 (e : Int)), (7, .int .i64 (valL (d.take q) : Int)), (52, .slice (some ⟨b52, 0, none⟩) d.length c52), (53, .int .i64 (d.length : Int)), (54, .int .i64 (q : Int))] ∧ own = [⟨B4, [.int .u8 0, .string ⟨#[]⟩, .int .i64 0, .int .i64 0], 70, 4⟩]) d.length ⟨0, rfl, by omega, PMap.le_refl _, rfl, rfl⟩ (by repeat (first | exact Sub.nil | refine Sub.cons rfl ?_)) ?_
  rintro m _ _ X5 ⟨q, rfl, hq, hX5, rfl, rfl⟩
  have hvq := valL_lt q (d.take q) (by rw [List.length_take]; omega) fun b hb => hdig b (List.mem_of_mem_take hb)
  have hv6 : valL (d.take q) < 1000000 := Nat.lt_of_lt_of_le hvq (Nat.le_trans (Nat.pow_le_pow_right (by decide) (show q ≤ 6 by omega)) (by decide))
  rcases Nat.lt_or_ge q d.length with hql | hql
  · obtain ⟨c, hc⟩ : ∃ c, d[q]? = some c := ⟨_, List.getElem?_eq_getElem hql⟩
    have hcd := digB_ge.1 (hdig c (List.mem_of_getElem? hc))
    have hbc : (byteC ⟨d.toArray⟩)[q]? = some (.int .u8 (c.toNat : Int)) := by simp [byteC, hc]
    have hval : valL (d.take (q + 1)) = 10 * valL (d.take q) + (c.toNat - 48) := by rw [List.take_add_one, hc]; exact valL_snoc _ _
    refine T.seq <| T.region <| SL.v (op_lssT rfl rfl (by omega)) ?_
    refine SL.nil <| T.seq <| T.condT rfl <| T.skip <| T.seq <| T.block <| T.seq <| T.region <| SL.v (op_indexN Tryz.underlying64 ty5 rfl rfl (by omega)) ?_
    refine SL.v (op_loadX ty5 rfl (hB52.mono hX5) (cread1k' hbc (by omega))) ?_
    refine SL.as rfl <| SL.nil <| T.region <| SL.mv rfl <| SL.v (op_mulN (p := 10) (q := valL (d.take q)) rfl rfl (by omega)) ?_
    refine SL.mv rfl <| SL.v (op_sub8 (p := c.toNat) (q := 48) rfl rfl (by omega) (by omega)) ?_
    refine SL.v (op_convI64 Tryz.underlying5 Tryz.underlying3 rfl (by omega) (by omega)) ?_
    refine SL.v (op_addN (p := 10 * valL (d.take q)) (q := c.toNat - 48) rfl rfl (by omega)) ?_
    rw [← hval]
    refine SL.as rfl <| SL.nil <| T.blk <| T.region <| SL.v (op_addN (q := 1) rfl rfl (by omega)) ?_
    refine SL.mv rfl <| SL.nil ?_
    exact T.backW (d.length - (q + 1)) (by omega) ⟨q + 1, rfl, by omega, hX5, rfl, rfl⟩ (by repeat (first | exact Sub.nil | refine Sub.cons rfl ?_))
  · rw [List.take_of_length_le hql]
    refine T.seq <| T.region <| SL.v (op_lssF rfl rfl (by omega)) ?_
    refine SL.nil <| T.seq <| T.condF rfl ?_
    refine T.exit (T.exitCode (T.exitCut (T.exitBlk ?_)))
    refine T.seq <| T.region <| SL.mv rfl <| SL.mv rfl <| SL.mv rfl <| SL.v (op_sliceStr Tryz.underlying9 rfl rfl rfl hge hle) ?_
    rw [htxt]
    refine SL.mv rfl <| SL.mv rfl <| SL.v (op_build st70 (qs := [(0, _), (1, _), (2, _), (3, _)]) rfl rfl) <| SL.w (op_store ty70 rfl rfl (by repeat constructor) rfl rfl rfl) ?_
    rintro _ _ _ ⟨rfl, rfl⟩
    refine SL.as rfl <| SL.nil <| T.ret2 rfl (ResIs.cell rfl ty70 (by repeat constructor) rfl) (ResIs.tmp rfl) ?_
    rw [hn]
    rfl
end Go.Proofs.YtnabbnhefjfegaaGreatDoor
namespace Go.Proofs.YtnabbnhefjfegaaGreatDoor
section
set_option maxRecDepth 100000
theorem bs70 : ∃ i z, Tryz.prog.info? 70 = some i ∧ i.size = 4 ∧ i.zero = some z ∧ z.cells = ([.int .u8 0, .string ⟨#[]⟩, .int .i64 0, .int .i64 0] : List Value).toArray := bs_of (by kernel_rfl)
theorem en67 : Enters Tryz.prog 67 := enters_mk Tryz.func67 (by kernel_rfl) rfl
theorem en70 : Enters Tryz.prog 70 := enters_mk Tryz.func70 (by kernel_rfl) rfl
theorem en72 : Enters Tryz.prog 72 := enters_mk Tryz.func72 (by kernel_rfl) rfl
theorem en73 : Enters Tryz.prog 73 := enters_mk Tryz.func73 (by kernel_rfl) rfl
theorem fa70_1 : FAdr Tryz.prog 70 1 1 := fadr_mk Tryz.underlying70 rfl rfl (by kernel_rfl)
theorem sl65 : SlT Tryz.prog 65 70 4 40 := ⟨Tryz.underlying65, sl_of (by kernel_rfl) (by decide)⟩
end
open Go.RowKit
def rcT (t : Tk) : List Value := [.int .u8 (t.kind : Int), .string t.text, .int .i64 (t.num : Int), .int .i64 (t.off : Int)]
theorem rcT_len (t : Tk) : (rcT t).length = 4 := rfl
abbrev TkO (b : Nat) (cs : List Value) : Ow := ⟨b, cs, 70, 4⟩
def zT : List Value := [.int .u8 0, .string ⟨#[]⟩, .int .i64 0, .int .i64 0]
/-- What the cells hold of the token at this place. -/
def TokAt (s : ByteArray) (p : Nat) (ok : Bool) (cs : List Value) : Prop := match tok1 ((bl s).drop p) with
  | some (k, t, n) => ok = true ∧ cs = rcT ⟨k, ⟨t.toArray⟩, n, p⟩
  | none => ok = false ∧ cs = zT
theorem scan_spec {X : PMap} {s : ByteArray} (hs : s.size < 1000000000) : Spec Tryz.prog 32 [.string s] X fun u X' => if 8000 < s.size then u = .tuple #[.slice none 0 0, .int .i64 0, .int .i64 3] else match scanL s.size (bl s) with
    | .ok ts => ∃ v, u = .tuple #[v, .int .i64 0, .int .i64 0] ∧ RowR rcT X' v ts
    | .error o => u = .tuple #[.slice none 0 0, .int .i64 (o : Int), .int .i64 8] := by
  by_cases h8 : 8000 < s.size
  · refine Spec.enter Tryz.func32 rfl Tryz.ntmps32 rfl ?_
    intro w0 hw0
    refine T.seq <| T.region <| SL.as rfl <| SL.v (op_assign (v := .int .i64 ((0 : Nat) : Int)) rfl) <| SL.v (op_assign (v := .int .i64 ((0 : Nat) : Int)) rfl) <| SL.nil <| T.seq <| T.seq <| T.region <| SL.mv rfl <| SL.v (op_lenStr Tryz.underlying9 rfl) <| SL.v (op_gtrT rfl rfl (by omega)) ?_
    refine SL.nil <| T.condT rfl <| T.seq <| T.region <| SL.as rfl <| SL.v (op_assign (v := .int .i64 ((0 : Nat) : Int)) rfl) <| SL.v (op_assign (v := .int .i64 ((3 : Nat) : Int)) rfl) <| SL.nil <| T.ret3 rfl rfl rfl rfl ?_
    rw [if_pos h8]
    rfl
  simp only [if_neg h8]
  have hmx : maxLen = 9223372036854775807 := rfl
  refine Spec.enter Tryz.func32 rfl Tryz.ntmps32 rfl ?_
  intro w0 hw0
  refine T.seq <| T.region <| SL.as rfl <| SL.v (op_assign (v := .int .i64 ((0 : Nat) : Int)) rfl) <| SL.v (op_assign (v := .int .i64 ((0 : Nat) : Int)) rfl) <| SL.nil <| T.seq <| T.seq <| T.region <| SL.mv rfl <| SL.v (op_lenStr Tryz.underlying9 rfl) <| SL.v (op_gtrF rfl rfl (by omega)) ?_
  refine SL.nil <| T.condF rfl <| T.skip <| T.seq <| T.region <| SL.as rfl <| SL.nil <| T.seq <| T.seq <| T.region <| SL.mv rfl <| SL.w (op_callF en67 (vs := [_, _]) rfl (skip_spec (i := 0) (Nat.zero_le _) hs)) ?_
  rintro _ _ X0 ⟨rfl, hX0, rfl⟩
  refine SL.as rfl <| SL.nil <| T.block <| T.loopW (fun m env own X' => ∃ (p : Nat) (ts : List Tk) (v : Value), m = s.size - p ∧ p ≤ s.size ∧ ts.length ≤ p ∧ X.le X' ∧ skipL false ((bl s).drop p) = (bl s).drop p ∧ scanL s.size (bl s) = appR ts (scanL s.size ((bl s).drop p)) ∧ GrowS 70 4 v ts.length (ts.map rcT).flatten own ∧ env = [(0, .string s), (5, v), (6, .int .i64 (p : Int))]) (s.size - skp s 0) ⟨skp s 0, [], _, rfl, skp_le, Nat.zero_le _, hX0, skp_skip, by rw [appR_nil, ← scan_skp]; rfl, GrowS.nil, rfl⟩ (by repeat (first | exact Sub.nil | refine Sub.cons rfl ?_)) ?_
  rintro m _ G X1 ⟨p, ts, v, rfl, hp, htl, hX1, hsk, hsc, hG, rfl⟩
  rcases Nat.lt_or_ge p s.size with hpl | hpl
  · obtain ⟨b, hb⟩ := get_some hpl
    have ht1 := tok1_at hb
    obtain ⟨A, c, rfl⟩ := hG.form
    refine T.seq <| T.seq <| T.region <| SL.mv rfl <| SL.mv rfl <| SL.v (op_lenStr Tryz.underlying9 rfl) <| SL.v (op_lssT rfl rfl (by omega)) ?_
    refine SL.nil <| T.condT rfl <| T.skip <| T.seq <| T.block <| T.seq <| T.region <| SL.w (op_alloc z70) ?_
    rintro _ _ _ ⟨B7, rfl, rfl, rfl⟩
    refine SL.nil <| T.seq <| T.region <| SL.as rfl <| SL.nil <| T.seq <| T.meet (fun _ env own X' => ∃ (ok : Bool) (cs : List Value), TokAt s p ok cs ∧ X1.le X' ∧ env = [(0, .string s), (5, .slice A ts.length c), (6, .int .i64 (p : Int)), (7, .pointer (some ⟨B7, 0, none⟩)), (8, .bool ok)] ∧ own = TkO B7 cs :: G) ?_ ?_
    · skip
      refine T.block <| T.seq <| T.region <| SL.mv rfl <| SL.mv rfl <| SL.v (op_idxStr Tryz.underlying9 rfl rfl rfl (by assumption)) ?_
      refine SL.w (op_callF en68 (vs := [_]) rfl (tletter_spec b)) ?_
      rintro _ _ X2 ⟨rfl, hX2, rfl⟩
      cases hlb : letB b with
      | true =>
        refine SL.as rfl <| SL.nil <| T.condT rfl <| T.region <| SL.mv rfl <| SL.mv rfl <| SL.mv rfl <| SL.mv rfl <| SL.w (op_callF en69 (vs := [_, _, _]) rfl (while_spec en70 tinner_spec (Nat.le_of_lt hpl) hs)) ?_
        rintro _ _ X3 ⟨rfl, hX3, rfl⟩
        refine SL.v (op_sliceStr Tryz.underlying9 rfl rfl rfl whl_ge (whl_le (Nat.le_of_lt hpl))) <| SL.mv rfl <| SL.v (op_build st70 (qs := [(0, _), (1, _), (2, _), (3, _)]) rfl rfl) <| SL.w (op_store ty70 rfl rfl (by repeat constructor) rfl rfl rfl) ?_
        rintro _ _ _ ⟨rfl, rfl⟩
        refine SL.nil <| T.blk ?_
        rw [show s.extract p (whl s innB p) = ⟨(((bl s).drop p).takeWhile innB).toArray⟩ from bl_inj whl_text]
        exact T.backW 0 (by omega) ⟨true, _, by rw [TokAt, ht1, hlb, if_pos rfl]; exact ⟨rfl, rfl⟩, hX2.trans' hX3, rfl, rfl⟩ (by repeat (first | exact Sub.nil | refine Sub.cons rfl ?_))
      | false =>
        rw [hlb, if_neg (by decide)] at ht1
        refine SL.as rfl <| SL.nil <| T.condF rfl <| T.seq <| T.region <| SL.mv rfl <| SL.mv rfl <| SL.v (op_idxStr Tryz.underlying9 rfl rfl rfl (by assumption)) ?_
        refine SL.w (op_callF en71 (vs := [_]) rfl (tdigit_spec b)) ?_
        rintro _ _ X3 ⟨rfl, hX3, rfl⟩
        cases hdb : digB b with
        | true =>
          rw [hdb, if_pos rfl] at ht1
          refine SL.as rfl <| SL.nil <| T.condT rfl <| T.region <| SL.mv rfl <| SL.mv rfl <| SL.w (op_callF en72 (vs := [_, _]) rfl (number_spec17 hb hpl hs)) ?_
          rintro _ _ X4 ⟨rfl, hX4, rfl⟩
          cases hn : numT ((bl s).drop p) with
          | none =>
            refine SL.mv rfl <| SL.v (op_extract rfl rfl) <| SL.v (op_extract rfl rfl) <| SL.w (op_store ty70 rfl rfl (by repeat constructor) rfl rfl rfl) ?_
            rintro _ _ _ ⟨rfl, rfl⟩
            refine SL.as rfl <| SL.nil <| T.blk ?_
            exact T.backW 0 (by omega) ⟨false, _, by rw [TokAt, ht1, hn]; exact ⟨rfl, rfl⟩, (hX2.trans' hX3).trans' hX4, rfl, rfl⟩ (by repeat (first | exact Sub.nil | refine Sub.cons rfl ?_))
          | some d =>
            refine SL.mv rfl <| SL.v (op_extract rfl rfl) <| SL.v (op_extract rfl rfl) <| SL.w (op_store ty70 rfl rfl (by repeat constructor) rfl rfl rfl) ?_
            rintro _ _ _ ⟨rfl, rfl⟩
            refine SL.as rfl <| SL.nil <| T.blk ?_
            exact T.backW 0 (by omega) ⟨true, _, by rw [TokAt, ht1, hn]; exact ⟨rfl, rfl⟩, (hX2.trans' hX3).trans' hX4, rfl, rfl⟩ (by repeat (first | exact Sub.nil | refine Sub.cons rfl ?_))
        | false =>
          rw [hdb, if_neg (by decide)] at ht1
          refine SL.as rfl <| SL.nil <| T.condF rfl <| T.region <| SL.mv rfl <| SL.mv rfl <| SL.w (op_callF en73 (vs := [_, _]) rfl (symbol_spec hp)) ?_
          rintro _ _ X4 ⟨rfl, hX4, rfl⟩
          cases hn : symF s p with
          | none =>
            refine SL.mv rfl <| SL.v (op_extract rfl rfl) <| SL.v (op_extract rfl rfl) <| SL.w (op_store ty70 rfl rfl (by repeat constructor) rfl rfl rfl) ?_
            rintro _ _ _ ⟨rfl, rfl⟩
            refine SL.as rfl <| SL.nil <| T.blk ?_
            exact T.backW 0 (by omega) ⟨false, _, by rw [TokAt, ht1, hn]; exact ⟨rfl, rfl⟩, (hX2.trans' hX3).trans' hX4, rfl, rfl⟩ (by repeat (first | exact Sub.nil | refine Sub.cons rfl ?_))
          | some x =>
            refine SL.mv rfl <| SL.v (op_extract rfl rfl) <| SL.v (op_extract rfl rfl) <| SL.w (op_store ty70 rfl rfl (by repeat constructor) rfl rfl rfl) ?_
            rintro _ _ _ ⟨rfl, rfl⟩
            refine SL.as rfl <| SL.nil <| T.blk ?_
            exact T.backW 0 (by omega) ⟨true, _, by rw [TokAt, ht1, hn]; exact ⟨rfl, rfl⟩, (hX2.trans' hX3).trans' hX4, rfl, rfl⟩ (by repeat (first | exact Sub.nil | refine Sub.cons rfl ?_))
    rintro _ _ _ X5 ⟨ok, cs, hTA, hX5, rfl, rfl⟩
    have hsa := scan_at hpl hsk
    unfold TokAt at hTA
    cases ht : tok1 ((bl s).drop p) with
    | none =>
      rw [ht] at hTA hsa
      obtain ⟨rfl, rfl⟩ := hTA
      simp only at hsa
      refine T.seq <| T.seq <| T.region <| SL.mv rfl <| SL.v (op_not rfl) <| SL.nil <| T.condT rfl <| T.seq <| T.region <| SL.mv rfl <| SL.as rfl <| SL.as rfl <| SL.v (op_assign (v := .int .i64 ((8 : Nat) : Int)) rfl) <| SL.nil <| T.ret3 rfl rfl rfl rfl ?_
      rw [hsc, hsa]
      rfl
    | some x =>
      obtain ⟨k, t, n⟩ := x
      rw [ht] at hTA hsa
      obtain ⟨rfl, rfl⟩ := hTA
      simp only at hsa
      have htp := tok1_pos ht
      have htle := tok1_len ht
      rw [List.length_drop, bl_size] at htle
      have hgs : p + t.length ≤ skp s (p + t.length) := skp_ge (by omega)
      have hls : skp s (p + t.length) ≤ s.size := skp_le
      have hsz : (⟨t.toArray⟩ : ByteArray).size = t.length := rfl
      unfold rcT
      refine T.seq <| T.seq <| T.region <| SL.mv rfl <| SL.v (op_not rfl) <| SL.nil <| T.condF rfl <| T.skip <| T.seq <| T.region <| SL.mv rfl <| SL.v (op_load ty70 rfl (by repeat constructor) rfl) ?_
      refine SL.w (op_buildSlice Tryz.underlying65 bs70 (qs := [(0, _)]) rfl rfl rfl rfl rfl) ?_
      rintro _ _ _ ⟨B56, rfl, rfl, rfl⟩
      refine SL.w (op_appendG (own0 := [_]) sl65 rfl hG rfl rfl rfl (by omega) (by omega)) ?_
      rintro v2 _ _ ⟨G2, rfl, rfl, hG2⟩
      have hG2 : GrowS 70 4 v2 (ts ++ [(⟨k, ⟨t.toArray⟩, n, p⟩ : Tk)]).length ((ts ++ [(⟨k, ⟨t.toArray⟩, n, p⟩ : Tk)]).map rcT).flatten G2 := by
        rw [List.length_append, List.map_append, List.flatten_append]; exact hG2
      refine SL.as rfl <| SL.nil <| T.region <| SL.mv rfl <| SL.v (op_fieldAddr fa70_1 rfl) <| SL.v (op_load ty9 rfl (by repeat constructor) rfl) ?_
      refine SL.v (op_lenStr Tryz.underlying9 rfl) ?_
      rw [hsz]
      refine SL.v (op_addN rfl rfl (by omega)) ?_
      refine SL.as rfl <| SL.nil <| T.blk <| T.region <| SL.mv rfl <| SL.mv rfl <| SL.w (op_callF en67 (vs := [_, _]) rfl (skip_spec (i := p + t.length) (by omega) hs)) ?_
      rintro _ _ X6 ⟨rfl, hX6, rfl⟩
      refine SL.as rfl <| SL.nil <| T.drop B7 (by repeat constructor) ?_
      exact T.backW (s.size - skp s (p + t.length)) (by omega) ⟨skp s (p + t.length), ts ++ [(⟨k, ⟨t.toArray⟩, n, p⟩ : Tk)], v2, rfl, hls, by rw [List.length_append]; simp; omega, (hX1.trans' hX5).trans' hX6, skp_skip, by rw [hsc, hsa, appR_one, appR_app], hG2, rfl⟩ (by repeat (first | exact Sub.nil | refine Sub.cons rfl ?_))
  · obtain rfl : p = s.size := by omega
    rw [scan_none (Nat.le_refl _)] at hsc
    obtain ⟨A, c, rfl⟩ := hG.form
    refine T.seq <| T.seq <| T.region <| SL.mv rfl <| SL.mv rfl <| SL.v (op_lenStr Tryz.underlying9 rfl) <| SL.v (op_lssF rfl rfl (by omega)) ?_
    refine SL.nil <| T.condF rfl ?_
    refine T.exit (T.exitCode (T.exitCut (T.exitBlk ?_)))
    refine T.seq <| T.region <| SL.mv rfl <| SL.mv rfl <| SL.v (op_lenStr Tryz.underlying9 rfl) <| SL.v (op_build st70 (qs := [(0, _), (1, _), (2, _), (3, _)]) rfl rfl) <| SL.w (op_buildSlice Tryz.underlying65 bs70 (qs := [(0, _)]) rfl rfl rfl rfl rfl) ?_
    rintro _ _ _ ⟨B67, rfl, rfl, rfl⟩
    refine SL.w (op_appendG (own0 := []) sl65 rfl hG rfl rfl rfl (by omega) (by omega)) ?_
    rintro v2 G2 _ ⟨_, rfl, rfl, hG2⟩
    have hG2 : GrowS 70 4 v2 (ts ++ [(⟨0, ⟨#[]⟩, 0, s.size⟩ : Tk)]).length ((ts ++ [(⟨0, ⟨#[]⟩, 0, s.size⟩ : Tk)]).map rcT).flatten G2 := by
      rw [List.length_append, List.map_append, List.flatten_append]; exact hG2
    refine SL.as rfl <| SL.v (op_assign (v := .int .i64 ((0 : Nat) : Int)) rfl) <| SL.v (op_assign (v := .int .i64 ((0 : Nat) : Int)) rfl) <| SL.nil <| T.pubG (own0 := []) hG2 ?_
    intro X9 hX9 hS9
    refine T.ret3 rfl rfl rfl rfl ?_
    rw [hsc]
    exact ⟨_, rfl, RowR.ofG hG2 hS9⟩
end Go.Proofs.YtnabbnhefjfegaaGreatDoor
namespace Go.Proofs.YtnabbnhefjfegaaGreatDoor
section
set_option maxRecDepth 100000
theorem en136 : Enters Tryz.prog 136 := enters_mk Tryz.func136 (by kernel_rfl) rfl
theorem en45 : Enters Tryz.prog 45 := enters_mk Tryz.func45 (by kernel_rfl) rfl
theorem en88 : Enters Tryz.prog 88 := enters_mk Tryz.func88 (by kernel_rfl) rfl
theorem en89 : Enters Tryz.prog 89 := enters_mk Tryz.func89 (by kernel_rfl) rfl
theorem en95 : Enters Tryz.prog 95 := enters_mk Tryz.func95 (by kernel_rfl) rfl
theorem fa151_0 : FAdr Tryz.prog 151 0 0 := fadr_mk Tryz.underlying151 rfl rfl (by kernel_rfl)
theorem fa151_1 : FAdr Tryz.prog 151 1 1 := fadr_mk Tryz.underlying151 rfl rfl (by kernel_rfl)
theorem fa151_2 : FAdr Tryz.prog 151 2 2 := fadr_mk Tryz.underlying151 rfl rfl (by kernel_rfl)
theorem fa151_3 : FAdr Tryz.prog 151 3 3 := fadr_mk Tryz.underlying151 rfl rfl (by kernel_rfl)
theorem fa70_0 : FAdr Tryz.prog 70 0 0 := fadr_mk Tryz.underlying70 rfl rfl (by kernel_rfl)
theorem fa98_0 : FAdr Tryz.prog 98 0 0 := fadr_mk Tryz.underlying98 rfl rfl (by kernel_rfl)
theorem ty68 : Ty Tryz.prog 68 false 1 := ⟨⟨_, Tryz.underlying68, rfl⟩, by kernel_rfl⟩
theorem fv70_0 : FVal Tryz.prog 70 0 0 false 1 := ⟨⟨_, _, Tryz.underlying70, rfl, rfl, ty68⟩⟩
theorem fv70_3 : FVal Tryz.prog 70 3 3 false 1 := ⟨⟨_, _, Tryz.underlying70, rfl, rfl, ty3⟩⟩
theorem ty29 : Ty Tryz.prog 29 false 1 := ⟨⟨_, Tryz.underlying29, rfl⟩, by kernel_rfl⟩
theorem ty65 : Ty Tryz.prog 65 false 1 := ⟨⟨_, Tryz.underlying65, rfl⟩, by kernel_rfl⟩
theorem ty96 : Ty Tryz.prog 96 false 1 := ⟨⟨_, Tryz.underlying96, rfl⟩, by kernel_rfl⟩
end
open Go.RowKit
abbrev rdC (v : Value) (i off : Nat) (e : Int) : List Value := [v, .int .i64 (i : Int), .int .i64 (off : Int), .int .i64 e]
abbrev RdO (b : Nat) (v : Value) (i off : Nat) (e : Int) : Ow := ⟨b, rdC v i off e, 151, 4⟩
def endT : Tk := ⟨0, ⟨#[]⟩, 0, 0⟩
def pk (e : Int) (t : Tk) : Tk := if e = 0 then t else endT
def isK (w : ByteArray) (t : Tk) : Bool := (t.kind == 1 || t.kind == 3) && decide (t.text = w)
section
variable {X : PMap} {v : Value} {ts : List Tk} {rb i off : Nat} {e : Int} {t : Tk}
theorem here_spec (hR : RowR rcT X v ts) (hl : ts.length < 1000000) (hB : Blk X rb (rdC v i off e)) (ht : ts[i]? = some t) : Spec Tryz.prog 136 [.pointer (some ⟨rb, 0, none⟩)] X fun u _ => u = .agg (rcT t).toArray := by
  obtain ⟨A, c, rfl⟩ := hR.form
  obtain ⟨hi, _⟩ := List.getElem?_eq_some_iff.1 ht
  obtain ⟨bA, pre, rfl, hbA⟩ := hR.blk (by omega)
  refine Spec.enter Tryz.func136 rfl Tryz.ntmps136 rfl ?_
  intro w0 hw0
  refine T.seq <| T.region <| SL.w (op_alloc z70) ?_
  rintro _ _ _ ⟨B2, rfl, rfl, rfl⟩
  refine SL.nil <| T.seq <| T.seq <| T.draw (by kernel_rfl) 10 [.t 0, .t 1, .t 2, .t 3, .t 4, .t 5, .t 6, .t 7, .t 8, .t 9] (by kernel_rfl) ?_
  refine SD.take rfl panicBody (op_move rfl) rfl rfl ?_
  refine SD.take rfl panicBody (op_nil rfl) rfl rfl ?_
  refine SD.take rfl panicBody (op_fieldAddr fa151_1 rfl) rfl rfl ?_
  refine SD.take rfl panicBody (op_loadX ty3 rfl (by assumption) rfl) rfl rfl ?_
  refine SD.take rfl panicBody (op_move rfl) rfl rfl ?_
  refine SD.take rfl panicBody (op_nil rfl) rfl rfl ?_
  refine SD.take rfl panicBody (op_fieldAddr fa151_0 rfl) rfl rfl ?_
  refine SD.take rfl panicBody (op_loadX ty65 rfl (by assumption) rfl) rfl rfl ?_
  refine SD.take rfl panicBody (op_lenS Tryz.underlying65 rfl) rfl rfl ?_
  refine SD.take rfl panicBody (op_lssT rfl rfl (by omega)) rfl rfl ?_
  refine SD.nil ?_
  show SL _ _ _ _ _ _ _ [] _ _ _
  refine SL.nil <| T.condT rfl <| T.seq <| T.draw (by kernel_rfl) 10 [.t 0, .t 1, .t 2, .t 3, .t 4, .t 5, .t 6, .t 7, .t 8, .t 9] (by kernel_rfl) ?_
  refine SD.take rfl panicBody (op_move rfl) rfl rfl ?_
  refine SD.take rfl panicBody (op_nil rfl) rfl rfl ?_
  refine SD.take rfl panicBody (op_fieldAddr fa151_0 rfl) rfl rfl ?_
  refine SD.take rfl panicBody (op_loadX ty65 rfl (by assumption) rfl) rfl rfl ?_
  refine SD.take rfl panicBody (op_move rfl) rfl rfl ?_
  refine SD.take rfl panicBody (op_nil rfl) rfl rfl ?_
  refine SD.take rfl panicBody (op_fieldAddr fa151_1 rfl) rfl rfl ?_
  refine SD.take rfl panicBody (op_loadX ty3 rfl (by assumption) rfl) rfl rfl ?_
  refine SD.take rfl panicBody (op_indexN Tryz.underlying65 ty70 rfl rfl (by omega)) rfl rfl ?_
  refine SD.take rfl panicBody (op_loadX ty70 rfl hbA (row_read rcT_len ht (by omega))) rfl rfl ?_
  refine SD.nil ?_
  show SL _ _ _ _ _ _ _ [_] _ _ _
  refine SL.w (op_store ty70 rfl rfl (by repeat constructor) rfl rfl rfl) ?_
  rintro _ _ _ ⟨rfl, rfl⟩
  refine SL.nil <| T.ret1 rfl (ResIs.cell rfl ty70 (by repeat constructor) rfl) ?_
  rfl
theorem offset_spec (hR : RowR rcT X v ts) (hl : ts.length < 1000000) (hB : Blk X rb (rdC v i off e)) (ht : ts[i]? = some t) : Spec Tryz.prog 96 [.pointer (some ⟨rb, 0, none⟩)] X fun u _ => u = .int .i64 (t.off : Int) := by
  obtain ⟨A, c, rfl⟩ := hR.form
  obtain ⟨hi, _⟩ := List.getElem?_eq_some_iff.1 ht
  refine Spec.enter Tryz.func96 rfl Tryz.ntmps96 rfl ?_
  intro w0 hw0
  refine T.seq <| T.region <| SL.v (op_assign (v := .int .i64 ((0 : Nat) : Int)) rfl) <| SL.nil <| T.seq <| T.seq <| T.draw (by kernel_rfl) 18 [.t 0, .t 1, .t 2, .t 3, .t 4, .t 5, .t 6, .t 7, .t 8, .t 9, .t 10, .t 11, .t 12, .t 13, .t 14, .t 15, .t 16, .t 17] (by kernel_rfl) ?_
  refine SD.take rfl panicBody (op_move rfl) rfl rfl ?_
  refine SD.take rfl panicBody (op_nil rfl) rfl rfl ?_
  refine SD.take rfl panicBody (op_fieldAddr fa151_1 rfl) rfl rfl ?_
  refine SD.take rfl panicBody (op_loadX ty3 rfl (by assumption) rfl) rfl rfl ?_
  refine SD.take rfl panicBody (op_move rfl) rfl rfl ?_
  refine SD.take rfl panicBody (op_nil rfl) rfl rfl ?_
  refine SD.take rfl panicBody (op_fieldAddr fa151_0 rfl) rfl rfl ?_
  refine SD.take rfl panicBody (op_loadX ty65 rfl (by assumption) rfl) rfl rfl ?_
  refine SD.take rfl panicBody (op_lenS Tryz.underlying65 rfl) rfl rfl ?_
  refine SD.take rfl panicBody (op_geqF rfl rfl (by omega)) rfl rfl ?_
  refine SD.take rfl panicBody (op_move rfl) rfl rfl ?_
  refine SD.skip rfl panicBody rfl rfl ?_
  refine SD.skip rfl panicBody rfl rfl ?_
  refine SD.skip rfl panicBody rfl rfl ?_
  refine SD.skip rfl panicBody rfl rfl ?_
  refine SD.skip rfl panicBody rfl rfl ?_
  refine SD.skip rfl panicBody rfl rfl ?_
  refine SD.take rfl panicBody (op_pickF rfl rfl) rfl rfl ?_
  refine SD.nil ?_
  show SL _ _ _ _ _ _ _ [] _ _ _
  refine SL.nil <| T.condF rfl <| T.skip <| T.seq <| T.region <| SL.mv rfl <| SL.w (op_callF en136 (vs := [_]) rfl (here_spec hR hl hB ht)) ?_
  rintro _ _ X1 ⟨rfl, hX1, rfl⟩
  unfold rcT
  refine SL.v (op_field1 fv70_3 rfl rfl) <| SL.as rfl <| SL.nil <| T.ret1 rfl (ResIs.tmp rfl) ?_
  rfl
theorem ok_spec (hB : Blk X rb (rdC v i off e)) : Spec Tryz.prog 95 [.pointer (some ⟨rb, 0, none⟩)] X fun u _ => u = .bool (decide (e = 0)) := by
  by_cases h : e = 0
  · refine Spec.enter Tryz.func95 rfl Tryz.ntmps95 rfl ?_
    intro w0 hw0
    refine T.seq <| T.region <| SL.as rfl <| SL.nil <| T.seq <| T.region <| SL.mv rfl <| SL.v (op_neqNil Tryz.underlying96 rfl rfl) <| SL.mv rfl <| SL.mv rfl <| SL.v (op_nil rfl) <| SL.v (op_fieldAddr fa151_3 rfl) <| SL.v (op_loadX ty29 rfl (by assumption) rfl) ?_
    refine SL.v (op_eqlT rfl rfl (by omega)) ?_
    refine SL.v (op_pickT rfl rfl) <| SL.as rfl <| SL.nil <| T.ret1 rfl (ResIs.tmp rfl) ?_
    rw [decide_eq_true h]
  · refine Spec.enter Tryz.func95 rfl Tryz.ntmps95 rfl ?_
    intro w0 hw0
    refine T.seq <| T.region <| SL.as rfl <| SL.nil <| T.seq <| T.region <| SL.mv rfl <| SL.v (op_neqNil Tryz.underlying96 rfl rfl) <| SL.mv rfl <| SL.mv rfl <| SL.v (op_nil rfl) <| SL.v (op_fieldAddr fa151_3 rfl) <| SL.v (op_loadX ty29 rfl (by assumption) rfl) ?_
    refine SL.v (op_eqlF rfl rfl (by omega)) ?_
    refine SL.v (op_pickT rfl rfl) <| SL.as rfl <| SL.nil <| T.ret1 rfl (ResIs.tmp rfl) ?_
    rw [decide_eq_false h]
theorem peek_spec (hR : RowR rcT X v ts) (hl : ts.length < 1000000) (hB : Blk X rb (rdC v i off e)) (ht : ts[i]? = some t) : Spec Tryz.prog 89 [.pointer (some ⟨rb, 0, none⟩)] X fun u _ => u = .agg (rcT (pk e t)).toArray := by
  by_cases h : e = 0
  · refine Spec.enter Tryz.func89 rfl Tryz.ntmps89 rfl ?_
    intro w0 hw0
    refine T.seq <| T.region <| SL.w (op_alloc z70) ?_
    rintro _ _ _ ⟨B2, rfl, rfl, rfl⟩
    refine SL.nil <| T.seq <| T.seq <| T.region <| SL.mv rfl <| SL.w (op_callF en95 (vs := [_]) rfl (ok_spec hB)) ?_
    rintro _ _ X1 ⟨rfl, hX1, rfl⟩
    rw [decide_eq_true h]
    refine SL.v (op_not rfl) <| SL.nil <| T.condF rfl <| T.skip <| T.seq <| T.region <| SL.mv rfl <| SL.w (op_callF en136 (vs := [_]) rfl (here_spec (hR.mono hX1) hl (hB.mono hX1) ht)) ?_
    rintro _ _ X2 ⟨rfl, hX2, rfl⟩
    unfold rcT
    refine SL.w (op_store ty70 rfl rfl (by repeat constructor) rfl rfl rfl) ?_
    rintro _ _ _ ⟨rfl, rfl⟩
    refine SL.nil <| T.ret1 rfl (ResIs.cell rfl ty70 (by repeat constructor) rfl) ?_
    rw [pk, if_pos h]
    rfl
  · refine Spec.enter Tryz.func89 rfl Tryz.ntmps89 rfl ?_
    intro w0 hw0
    refine T.seq <| T.region <| SL.w (op_alloc z70) ?_
    rintro _ _ _ ⟨B2, rfl, rfl, rfl⟩
    refine SL.nil <| T.seq <| T.seq <| T.region <| SL.mv rfl <| SL.w (op_callF en95 (vs := [_]) rfl (ok_spec hB)) ?_
    rintro _ _ X1 ⟨rfl, hX1, rfl⟩
    rw [decide_eq_false h]
    refine SL.v (op_not rfl) <| SL.nil <| T.condT rfl <| T.seq <| T.region <| SL.v (op_build st70 (qs := []) rfl rfl) <| SL.w (op_store ty70 rfl rfl (by repeat constructor) rfl rfl rfl) ?_
    rintro _ _ _ ⟨rfl, rfl⟩
    refine SL.nil <| T.ret1 rfl (ResIs.cell rfl ty70 (by repeat constructor) rfl) ?_
    rw [pk, if_neg h]
    rfl
theorem is_spec (hR : RowR rcT X v ts) (hl : ts.length < 1000000) (hB : Blk X rb (rdC v i off e)) (ht : ts[i]? = some t) {w : ByteArray} : Spec Tryz.prog 137 [.pointer (some ⟨rb, 0, none⟩), .string w] X fun u _ => u = .bool (isK w (pk e t)) := by
  refine Spec.enter Tryz.func137 rfl Tryz.ntmps137 rfl ?_
  intro w0 hw0
  refine T.seq <| T.region <| SL.as rfl <| SL.nil <| T.seq <| T.region <| SL.mv rfl <| SL.w (op_callF en89 (vs := [_]) rfl (peek_spec hR hl hB ht)) ?_
  rintro _ _ X1 ⟨rfl, hX1, rfl⟩
  generalize pk e t = t
  obtain ⟨k, x, n, o⟩ := t
  rw [show (rcT ⟨k, x, n, o⟩).toArray = #[.int .u8 (k : Int), .string x, .int .i64 (n : Int), .int .i64 (o : Int)] from rfl]
  by_cases h1 : k = 1
  · subst h1
    refine SL.w (op_alloc z70) ?_
    rintro _ _ _ ⟨B5, rfl, rfl, rfl⟩
    refine SL.w (op_store ty70 rfl rfl (by repeat constructor) rfl rfl rfl) ?_
    rintro _ _ _ ⟨rfl, rfl⟩
    refine SL.nil <| T.seq <| T.region <| SL.v (op_fieldAddr fa70_0 rfl) <| SL.v (op_load ty68 rfl (by repeat constructor) rfl) ?_
    refine SL.v (op_eqlT rfl rfl (by omega)) ?_
    refine SL.mv rfl <| SL.skip rfl rfl ?_
    refine SL.skip rfl rfl ?_
    refine SL.skip rfl rfl ?_
    refine SL.v (op_pickT rfl rfl) <| SL.mv rfl <| SL.v (op_fieldAddr fa70_1 rfl) <| SL.v (op_load ty9 rfl (by repeat constructor) rfl) ?_
    refine SL.mv rfl <| SL.v (op_eqlStrD (s := x) (s' := w) rfl rfl) <| SL.v (op_pickT rfl rfl) <| SL.as rfl <| SL.nil <| T.ret1 rfl (ResIs.tmp rfl) ?_
    simp [isK]
  by_cases h3 : k = 3
  · subst h3
    refine SL.w (op_alloc z70) ?_
    rintro _ _ _ ⟨B5, rfl, rfl, rfl⟩
    refine SL.w (op_store ty70 rfl rfl (by repeat constructor) rfl rfl rfl) ?_
    rintro _ _ _ ⟨rfl, rfl⟩
    refine SL.nil <| T.seq <| T.region <| SL.v (op_fieldAddr fa70_0 rfl) <| SL.v (op_load ty68 rfl (by repeat constructor) rfl) ?_
    refine SL.v (op_eqlF rfl rfl (by omega)) ?_
    refine SL.mv rfl <| SL.v (op_fieldAddr fa70_0 rfl) <| SL.v (op_load ty68 rfl (by repeat constructor) rfl) ?_
    refine SL.v (op_eqlT rfl rfl (by omega)) ?_
    refine SL.v (op_pickF rfl rfl) <| SL.mv rfl <| SL.v (op_fieldAddr fa70_1 rfl) <| SL.v (op_load ty9 rfl (by repeat constructor) rfl) ?_
    refine SL.mv rfl <| SL.v (op_eqlStrD (s := x) (s' := w) rfl rfl) <| SL.v (op_pickT rfl rfl) <| SL.as rfl <| SL.nil <| T.ret1 rfl (ResIs.tmp rfl) ?_
    simp [isK]
  refine SL.w (op_alloc z70) ?_
  rintro _ _ _ ⟨B5, rfl, rfl, rfl⟩
  refine SL.w (op_store ty70 rfl rfl (by repeat constructor) rfl rfl rfl) ?_
  rintro _ _ _ ⟨rfl, rfl⟩
  refine SL.nil <| T.seq <| T.region <| SL.v (op_fieldAddr fa70_0 rfl) <| SL.v (op_load ty68 rfl (by repeat constructor) rfl) ?_
  refine SL.v (op_eqlF rfl rfl (by omega)) ?_
  refine SL.mv rfl <| SL.v (op_fieldAddr fa70_0 rfl) <| SL.v (op_load ty68 rfl (by repeat constructor) rfl) ?_
  refine SL.v (op_eqlF rfl rfl (by omega)) ?_
  refine SL.v (op_pickF rfl rfl) <| SL.mv rfl <| SL.skip rfl rfl ?_
  refine SL.skip rfl rfl ?_
  refine SL.skip rfl rfl ?_
  refine SL.skip rfl rfl ?_
  refine SL.v (op_pickF rfl rfl) <| SL.as rfl <| SL.nil <| T.ret1 rfl (ResIs.tmp rfl) ?_
  simp [isK, h1, h3]
theorem err_spec (hB : Blk X rb (rdC v i off e)) : Spec Tryz.prog 45 [.pointer (some ⟨rb, 0, none⟩)] X fun u _ => u = .tuple #[.int .i64 (off : Int), .int .i64 e] := by
  refine Spec.enter Tryz.func45 rfl Tryz.ntmps45 rfl ?_
  intro w0 hw0
  refine T.seq <| T.region <| SL.v (op_assign (v := .int .i64 ((0 : Nat) : Int)) rfl) <| SL.v (op_assign (v := .int .i64 ((0 : Nat) : Int)) rfl) <| SL.nil <| T.seq <| T.seq <| T.region <| SL.mv rfl <| SL.v (op_eqlNil Tryz.underlying96 rfl rfl) <| SL.nil <| T.condF rfl <| T.skip <| T.seq <| T.draw (by kernel_rfl) 10 [.t 0, .t 1, .t 2, .t 3, .t 4, .t 5, .t 6, .t 7, .t 8, .t 9] (by kernel_rfl) ?_
  refine SD.take rfl panicBody (op_move rfl) rfl rfl ?_
  refine SD.take rfl panicBody (op_nil rfl) rfl rfl ?_
  refine SD.take rfl panicBody (op_fieldAddr fa151_2 rfl) rfl rfl ?_
  refine SD.take rfl panicBody (op_loadX ty3 rfl (by assumption) rfl) rfl rfl ?_
  refine SD.take rfl panicBody (op_move rfl) rfl rfl ?_
  refine SD.take rfl panicBody (op_nil rfl) rfl rfl ?_
  refine SD.take rfl panicBody (op_fieldAddr fa151_3 rfl) rfl rfl ?_
  refine SD.take rfl panicBody (op_loadX ty29 rfl (by assumption) rfl) rfl rfl ?_
  refine SD.take rfl panicBody (op_assign rfl) rfl rfl ?_
  refine SD.take rfl panicBody (op_assign rfl) rfl rfl ?_
  refine SD.nil ?_
  show SL _ _ _ _ _ _ _ [] _ _ _
  refine SL.nil <| T.ret2 rfl (ResIs.tmp rfl) (ResIs.tmp rfl) ?_
  rfl
theorem failed_spec {pb : Nat} (hP : Blk X pb [.pointer (some ⟨rb, 0, none⟩)]) (hB : Blk X rb (rdC v i off e)) : Spec Tryz.prog 88 [.pointer (some ⟨pb, 0, none⟩)] X fun u _ => u = .bool (decide (e ≠ 0)) := by
  refine Spec.enter Tryz.func88 rfl Tryz.ntmps88 rfl ?_
  intro w0 hw0
  refine T.seq <| T.region <| SL.as rfl <| SL.nil <| T.seq <| T.region <| SL.mv rfl <| SL.v (op_nil rfl) <| SL.v (op_fieldAddr fa98_0 rfl) <| SL.v (op_loadX ty96 rfl (by assumption) rfl) ?_
  refine SL.w (op_callF en45 (vs := [_]) rfl (err_spec hB)) ?_
  rintro _ _ X1 ⟨rfl, hX1, rfl⟩
  refine SL.mv rfl <| SL.v (op_extract rfl rfl) <| SL.v (op_extract rfl rfl) <| SL.as rfl <| SL.as rfl <| SL.nil <| T.seq <| T.region <| SL.mv rfl <| SL.v (op_neq rfl rfl) <| SL.as rfl <| SL.nil <| T.ret1 rfl (ResIs.tmp rfl) ?_
  rfl
theorem done_spec {pb : Nat} (hP : Blk X pb [.pointer (some ⟨rb, 0, none⟩)]) (hR : RowR rcT X v ts) (hl : ts.length < 1000000) (hB : Blk X rb (rdC v i off e)) (ht : ts[i]? = some t) : Spec Tryz.prog 43 [.pointer (some ⟨pb, 0, none⟩)] X fun u _ => u = .bool (decide (e ≠ 0 ∨ t.kind = 0)) := by
  by_cases h : e = 0
  · refine Spec.enter Tryz.func43 rfl Tryz.ntmps43 rfl ?_
    intro w0 hw0
    refine T.seq <| T.region <| SL.as rfl <| SL.nil <| T.seq <| T.region <| SL.mv rfl <| SL.w (op_callF en88 (vs := [_]) rfl (failed_spec hP hB)) ?_
    rintro _ _ X1 ⟨rfl, hX1, rfl⟩
    have hP := hP.mono hX1
    rw [decide_eq_false (show ¬(e ≠ 0) from fun hh => hh h)]
    refine SL.mv rfl <| SL.mv rfl <| SL.v (op_nil rfl) <| SL.v (op_fieldAddr fa98_0 rfl) <| SL.v (op_loadX ty96 rfl (by assumption) rfl) ?_
    refine SL.w (op_callF en89 (vs := [_]) rfl (peek_spec (hR.mono hX1) hl (hB.mono hX1) ht)) ?_
    rintro _ _ X2 ⟨rfl, hX2, rfl⟩
    rw [pk, if_pos h]
    unfold rcT
    by_cases hk : t.kind = 0
    · skip
      refine SL.v (op_field1 fv70_0 rfl rfl) <| SL.v (op_eqlT rfl rfl (by omega)) ?_
      refine SL.v (op_pickF rfl rfl) <| SL.as rfl <| SL.nil <| T.ret1 rfl (ResIs.tmp rfl) ?_
      rw [decide_eq_true (.inr hk)]
    · refine SL.v (op_field1 fv70_0 rfl rfl) <| SL.v (op_eqlF rfl rfl (by omega)) ?_
      refine SL.v (op_pickF rfl rfl) <| SL.as rfl <| SL.nil <| T.ret1 rfl (ResIs.tmp rfl) ?_
      rw [decide_eq_false (by simp [h, hk])]
  · refine Spec.enter Tryz.func43 rfl Tryz.ntmps43 rfl ?_
    intro w0 hw0
    refine T.seq <| T.region <| SL.as rfl <| SL.nil <| T.seq <| T.region <| SL.mv rfl <| SL.w (op_callF en88 (vs := [_]) rfl (failed_spec hP hB)) ?_
    rintro _ _ X1 ⟨rfl, hX1, rfl⟩
    rw [decide_eq_true (show e ≠ 0 from h)]
    refine SL.mv rfl <| SL.skip rfl rfl ?_
    refine SL.skip rfl rfl ?_
    refine SL.skip rfl rfl ?_
    refine SL.skip rfl rfl ?_
    refine SL.skip rfl rfl ?_
    refine SL.skip rfl rfl ?_
    refine SL.skip rfl rfl ?_
    refine SL.v (op_pickT rfl rfl) <| SL.as rfl <| SL.nil <| T.ret1 rfl (ResIs.tmp rfl) ?_
    rw [decide_eq_true (.inl h)]
end
end Go.Proofs.YtnabbnhefjfegaaGreatDoor
namespace Go.Proofs.YtnabbnhefjfegaaGreatDoor
section
set_option maxRecDepth 100000
theorem en137 : Enters Tryz.prog 137 := enters_mk Tryz.func137 (by kernel_rfl) rfl
theorem en96 : Enters Tryz.prog 96 := enters_mk Tryz.func96 (by kernel_rfl) rfl
end
open Go.RowKit
section
variable {X : PMap} {v : Value} {ts : List Tk} {rb i off : Nat} {e : Int} {t : Tk}
theorem accept_spec (hR : RowR rcT X v ts) (hl : ts.length < 1000000) (ht : ts[i]? = some t) {w : ByteArray} : SpecM Tryz.prog 90 [.pointer (some ⟨rb, 0, none⟩), .string w] X [RdO rb v i off e] fun u L' _ => u = .bool (isK w (pk e t)) ∧ L' = [RdO rb v (if isK w (pk e t) then i + 1 else i) off e] := by
  obtain ⟨hi, _⟩ := List.getElem?_eq_some_iff.1 ht
  refine SpecM.enter Tryz.func90 rfl Tryz.ntmps90 rfl ?_
  intro w0 X0 own0
  refine T.seq <| T.region <| SL.as rfl <| SL.nil <| T.seq <| T.region <| SL.mv rfl <| SL.mv rfl <| SL.w (op_callLend en137 (vs := [_, _]) rfl ((fun X1 h1 h2 => (is_spec (w := w) (hR.mono h1) hl (h2 (RdO rb v i off e) (by simp)) ht : Spec _ _ _ _ fun u _ => u = .bool (isK w (pk e t)))))) ?_
  rintro _ _ _ ⟨rfl, rfl, rfl⟩
  cases hk : isK w (pk e t) with
  | true =>
    refine SL.as rfl <| SL.nil <| T.seq <| T.seq <| T.region <| SL.mv rfl <| SL.nil <| T.condT rfl <| T.region <| SL.mv rfl <| SL.v (op_nil rfl) <| SL.v (op_fieldAddr fa151_1 rfl) <| SL.v (op_load ty3 rfl (by repeat constructor) rfl) ?_
    refine SL.v (op_addN (q := 1) rfl rfl (by omega)) ?_
    refine SL.v (op_nil rfl) <| SL.v (op_fieldAddr fa151_1 rfl) <| SL.w (op_store ty3 rfl rfl (by repeat constructor) rfl rfl rfl) ?_
    rintro _ _ _ ⟨rfl, rfl⟩
    refine SL.nil <| T.seq <| T.region <| SL.mv rfl <| SL.as rfl <| SL.nil <| T.retM1 [RdO rb v (i + 1) off e] rfl (ResIs.tmp rfl) (List.Perm.refl _) ?_
    exact ⟨PMap.le_refl _, rfl, rfl⟩
  | false =>
    refine SL.as rfl <| SL.nil <| T.seq <| T.seq <| T.region <| SL.mv rfl <| SL.nil <| T.condF rfl <| T.skip <| T.seq <| T.region <| SL.mv rfl <| SL.as rfl <| SL.nil <| T.retM1 [RdO rb v i off e] rfl (ResIs.tmp rfl) (List.Perm.refl _) ?_
    exact ⟨PMap.le_refl _, rfl, rfl⟩
theorem fail_spec (hR : RowR rcT X v ts) (hl : ts.length < 1000000) (ht : ts[i]? = some t) {c : Int} (hc : c ≠ 0) : SpecM Tryz.prog 47 [.pointer (some ⟨rb, 0, none⟩), .int .i64 c] X [RdO rb v i off e] fun _ L' _ => L' = [if e = 0 then RdO rb v i t.off c else RdO rb v i off e] := by
  refine SpecM.enter Tryz.func47 rfl Tryz.ntmps47 rfl ?_
  intro w0 X0 own0
  refine T.seq <| T.region <| SL.mv rfl <| SL.w (op_callLend en95 (vs := [_]) rfl ((fun X1 h1 h2 => (ok_spec (h2 (RdO rb v i off e) (by simp)) : Spec _ _ _ _ fun u _ => u = .bool (decide (e = 0)))))) ?_
  rintro _ _ _ ⟨rfl, rfl, rfl⟩
  by_cases h : e = 0
  · rw [decide_eq_true h, if_pos h]
    refine SL.mv rfl <| SL.mv rfl <| SL.v (op_neqT rfl rfl (by omega)) ?_
    refine SL.v (op_pickT rfl rfl) <| SL.nil <| T.condT rfl <| T.region <| SL.mv rfl <| SL.mv rfl <| SL.mv rfl <| SL.w (op_callLend en96 (vs := [_]) rfl ((fun X1 h1 h2 => (offset_spec (hR.mono h1) hl (h2 (RdO rb v i off e) (by simp)) ht : Spec _ _ _ _ fun u _ => u = .int .i64 (t.off : Int))))) ?_
    rintro _ _ _ ⟨rfl, rfl, rfl⟩
    refine SL.mv rfl <| SL.v (op_nil rfl) <| SL.v (op_fieldAddr fa151_2 rfl) <| SL.w (op_store ty3 rfl rfl (by repeat constructor) rfl rfl rfl) ?_
    rintro _ _ _ ⟨rfl, rfl⟩
    refine SL.v (op_nil rfl) <| SL.v (op_fieldAddr fa151_3 rfl) <| SL.w (op_store ty29 rfl rfl (by repeat constructor) rfl rfl rfl) ?_
    rintro _ _ _ ⟨rfl, rfl⟩
    refine SL.nil <| T.doneM0 [RdO rb v i t.off c] rfl (List.Perm.refl _) ?_
    exact ⟨PMap.le_refl _, rfl⟩
  · rw [decide_eq_false h, if_neg h]
    refine SL.mv rfl <| SL.skip rfl rfl ?_
    refine SL.skip rfl rfl ?_
    refine SL.v (op_pickF rfl rfl) <| SL.nil <| T.condF rfl <| T.skip <| T.doneM0 [RdO rb v i off e] rfl (List.Perm.refl _) ?_
    exact ⟨PMap.le_refl _, rfl⟩
end
end Go.Proofs.YtnabbnhefjfegaaGreatDoor
namespace Go.Proofs.YtnabbnhefjfegaaGreatDoor
open Go.RowKit
theorem cons_erase {α : Type} : ∀ (l : List α) (j : Nat) (h : j < l.length), (l[j] :: l.eraseIdx j).Perm l
  | [], j, h => by cases h
  | a :: l, 0, _ => List.Perm.refl _
  | a :: l, j + 1, h => by
    rw [List.eraseIdx_cons_succ, List.getElem_cons_succ]
    exact (List.Perm.swap _ _ _).trans (List.Perm.cons a (cons_erase l j (by simpa using h)))
section
variable {P : Program} {n : NM} {w0 : Base} {X0 X : PMap} {own : Own} {env : Env}
/-- A call that changes one of the call's own blocks, whichever stands where. -/
theorem op_callJ {c : Operand} {f : FuncId} {xs : Array Operand} {ts : Array TypeId} {fs cs : Array Value} {vs : List Value} {x : Ow} {j : Nat} {Φ : Value → Ow → PMap → Prop} (he : Enters P f) (hc : eev env c = some (.func (.func f) fs cs)) (hx : xs.toList.map (eev env) = vs.map some)
    (h : SpecM P f (fs.toList ++ vs ++ cs.toList) X [x] fun u L' X' => ∃ x', L' = [x'] ∧ Φ u x' X') (hj : AtO own x.b x.cs x.ty x.sz j) : OpX P n w0 X0 env own X (.call { callee := .value c, args := xs, argTypes := ts }) false fun v own' X' => ∃ x', own' = own.set j x' ∧ X.le X' ∧ Φ v x' X' := by
  intro a W oper K Q ro hop ha hs hK
  have all : ∀ (xs : List Operand) (vs : List Value), xs.map (eev env) = vs.map some → xs.map a.eval = vs := by
    intro xs
    induction xs with
    | nil => intro vs h; cases vs <;> simp_all
    | cons x xs ih =>
      intro vs h
      cases vs with
      | nil => simp at h
      | cons v vs =>
        simp only [List.map_cons, List.cons.injEq] at h
        simp [ha.eval h.1, ih vs h.2]
  have h1 : xs.map a.eval = vs.toArray := by apply Array.toList_inj.1; simp [all _ _ hx]
  have hex : (execOp a.eval oper).run P W = .ok (.enter f (fs.toList ++ vs ++ cs.toList).toArray) W := by
    have hargs : fs ++ vs.toArray ++ cs = (fs.toList ++ vs ++ cs.toList).toArray := by apply Array.toList_inj.1; simp
    simp only [execOp, hop, resolve, ha.eval hc, h1, Deferred.ofValue, invoke, Sem.run_bind, Sem.run_pure, Result.andThen_ok]
    rw [hargs]
    exact he _ _
  obtain ⟨hjl, hjx⟩ := List.getElem?_eq_some_iff.1 hj.get
  have hp : own.Perm ([x] ++ own.eraseIdx j) := by
    have := cons_erase own j hjl
    rw [hjx] at this
    exact this.symm
  refine wp_enters (noDefer_spec (by rw [hop]; rfl)) hex ((h w0 X0 (own.eraseIdx j) W (hs.perm hp)).mono fun e w' hfin => ?_)
  obtain ⟨v, L', X', rfl, hsat, hX, x', rfl, hΦ⟩ := hfin
  have hp' : ([x'] ++ own.eraseIdx j).Perm (own.set j x') := by
    have hl : j < (own.set j x').length := by rw [List.length_set]; exact hjl
    have := cons_erase (own.set j x') j hl
    rw [List.getElem_set_self, List.eraseIdx_set_eq] at this
    exact this
  exact ⟨v, rfl, hK v _ X' w' ⟨x', rfl, hX, hΦ⟩ (hsat.perm hp') (fun h => by cases h)⟩
end
abbrev RSt := Except (Nat × Int) (List Tk)
/-- The tokens of a source, in a row. -/
structure Tks (X : PMap) (v : Value) (ts : List Tk) : Prop where
  row : RowR rcT X v ts
  len : ts.length < 1000000
  fin : ∀ t, ts[ts.length - 1]? = some t → t.kind = 0
theorem Tks.mono {X X' : PMap} {v : Value} {ts : List Tk} (h : Tks X v ts) (hX : X.le X') : Tks X' v ts := ⟨h.row.mono hX, h.len, h.fin⟩
def RdS (ts : List Tk) (st : RSt) (i off : Nat) (e : Int) : Prop := i < ts.length ∧ match st with | .ok l => off = 0 ∧ e = 0 ∧ l = ts.drop i | .error x => off = x.1 ∧ e = x.2 ∧ x.2 ≠ 0
def accM (w : ByteArray) : RSt → Bool × RSt
  | .ok l => if isT w l then (true, .ok l.tail) else (false, .ok l)
  | .error x => (false, .error x)
def expM (w : ByteArray) : RSt → RSt
  | .ok l => if isT w l then .ok l.tail else .error (offT l, 8)
  | .error x => .error x
noncomputable def namM : RSt → ByteArray × RSt
  | .ok l => match nameT l with
    | .ok (s, l') => (s, .ok l')
    | .error x => (⟨#[]⟩, .error x)
  | .error x => (⟨#[]⟩, .error x)
/-- What is left is no longer than before. -/
def Sh (st st' : RSt) : Prop := ∀ l', st' = .ok l' → ∃ l, st = .ok l ∧ l'.length ≤ l.length
theorem Sh.refl (st : RSt) : Sh st st := fun l h => ⟨l, h, Nat.le_refl _⟩
theorem Sh.trans {a b c : RSt} (h : Sh a b) (h' : Sh b c) : Sh a c := fun l hl => by
  obtain ⟨l1, h1, h2⟩ := h' l hl
  obtain ⟨l2, h3, h4⟩ := h l1 h1
  exact ⟨l2, h3, Nat.le_trans h2 h4⟩
section
variable {ts : List Tk} {st : RSt} {i off : Nat} {e : Int}
theorem RdS.tok (h : RdS ts st i off e) : ∃ t, ts[i]? = some t := ⟨_, List.getElem?_eq_getElem h.1⟩
theorem drop_tok {t : Tk} (ht : ts[i]? = some t) : ts.drop i = t :: ts.drop (i + 1) := by
  obtain ⟨h1, h2⟩ := List.getElem?_eq_some_iff.1 ht
  rw [List.drop_eq_getElem_cons h1, h2]
theorem isT_cons {w : ByteArray} {t : Tk} {l : List Tk} : isT w (t :: l) = isK w t := rfl
theorem isK_end {w : ByteArray} : isK w endT = false := rfl
theorem isK_kind {w : ByteArray} {t : Tk} (h : isK w t = true) : t.kind ≠ 0 := by
  intro h0
  simp [isK, h0] at h
theorem next_lt (hf : ∀ t, ts[ts.length - 1]? = some t → t.kind = 0) {t : Tk} (ht : ts[i]? = some t) (hk : t.kind ≠ 0) : i + 1 < ts.length := by
  obtain ⟨h1, h2⟩ := List.getElem?_eq_some_iff.1 ht
  rcases Nat.lt_or_ge (i + 1) ts.length with h | h
  · exact h
  · exact absurd (hf t (by rw [show ts.length - 1 = i by omega]; exact ht)) hk
theorem RdS.acc (hf : ∀ t, ts[ts.length - 1]? = some t → t.kind = 0) (h : RdS ts st i off e) {t : Tk} (ht : ts[i]? = some t) (w : ByteArray) : isK w (pk e t) = (accM w st).1 ∧ RdS ts (accM w st).2 (if isK w (pk e t) then i + 1 else i) off e ∧ Sh st (accM w st).2 := by
  obtain ⟨h1, h2⟩ := h
  cases st with
  | error x =>
    obtain ⟨rfl, rfl, h3⟩ := h2
    have hp : pk x.2 t = endT := by rw [pk, if_neg h3]
    rw [hp, isK_end]
    exact ⟨rfl, ⟨h1, rfl, rfl, h3⟩, Sh.refl _⟩
  | ok l =>
    obtain ⟨rfl, rfl, rfl⟩ := h2
    have hp : pk 0 t = t := by rw [pk, if_pos rfl]
    rw [hp]
    have hd := drop_tok ht
    have hi : isT w (ts.drop i) = isK w t := by rw [hd, isT_cons]
    unfold accM
    simp only [hi]
    cases hk : isK w t with
    | true =>
      have hlt := next_lt hf ht (isK_kind hk)
      exact ⟨rfl, ⟨hlt, rfl, rfl, by rw [hd]; rfl⟩, fun l' hl' => ⟨_, rfl, by
        have := Except.ok.inj hl'
        subst this
        rw [List.length_tail]; omega⟩⟩
    | false => exact ⟨rfl, ⟨h1, rfl, rfl, rfl⟩, Sh.refl _⟩
end
end Go.Proofs.YtnabbnhefjfegaaGreatDoor
namespace Go.Proofs.YtnabbnhefjfegaaGreatDoor
section
set_option maxRecDepth 100000
theorem en47 : Enters Tryz.prog 47 := enters_mk Tryz.func47 (by kernel_rfl) rfl
theorem en90 : Enters Tryz.prog 90 := enters_mk Tryz.func90 (by kernel_rfl) rfl
end
open Go.RowKit
theorem SpecM.mono {P : Program} {f : FuncId} {vs : List Value} {X : PMap} {L : Own} {Φ Ψ : Value → Own → PMap → Prop} (h : SpecM P f vs X L Φ) (hk : ∀ v L' X', X.le X' → Φ v L' X' → Ψ v L' X') : SpecM P f vs X L Ψ :=
  fun w0 X0 own0 W hs => (h w0 X0 own0 W hs).mono fun _ _ ⟨v, L', X', he, hsat, hX, hΦ⟩ => ⟨v, L', X', he, hsat, hX, hk v L' X' hX hΦ⟩
def failM (c : Int) : RSt → RSt
  | .ok l => .error (offT l, c)
  | .error x => .error x
/-- A function that moves the cursor. -/
def SpecR (P : Program) (f : FuncId) (vs : List Value) (X : PMap) (ts : List Tk) (rb : Nat) (v : Value) (i off : Nat) (e : Int) (Ψ : Value → RSt → PMap → Prop) : Prop :=
  SpecM P f vs X [RdO rb v i off e] fun u L' X' => ∃ x', L' = [x'] ∧ ∃ (i' off' : Nat) (e' : Int) (st' : RSt), x' = RdO rb v i' off' e' ∧ RdS ts st' i' off' e' ∧ Ψ u st' X'
section
variable {X : PMap} {v : Value} {ts : List Tk} {rb i off : Nat} {e : Int} {st : RSt}
theorem acc_spec (hT : Tks X v ts) (hS : RdS ts st i off e) {w : ByteArray} : SpecR Tryz.prog 90 [.pointer (some ⟨rb, 0, none⟩), .string w] X ts rb v i off e fun u st' _ => u = .bool (accM w st).1 ∧ st' = (accM w st).2 := by
  obtain ⟨t, ht⟩ := hS.tok
  obtain ⟨h1, h2, _⟩ := hS.acc hT.fin ht w
  exact (accept_spec hT.row hT.len ht).mono fun u L' X' _ ⟨hu, hL⟩ => ⟨_, hL, _, _, _, _, rfl, h2, by rw [hu, h1], rfl⟩
theorem RdS.fail (h : RdS ts st i off e) {t : Tk} (ht : ts[i]? = some t) {c : Int} (hc : c ≠ 0) : ∃ i' off' e', (if e = 0 then RdO rb v i t.off c else RdO rb v i off e) = RdO rb v i' off' e' ∧ RdS ts (failM c st) i' off' e' := by
  obtain ⟨h1, h2⟩ := h
  cases st with
  | error x =>
    obtain ⟨rfl, rfl, h3⟩ := h2
    rw [if_neg h3]
    exact ⟨i, x.1, x.2, rfl, h1, rfl, rfl, h3⟩
  | ok l =>
    obtain ⟨rfl, rfl, rfl⟩ := h2
    rw [if_pos rfl]
    exact ⟨i, t.off, c, rfl, h1, by rw [drop_tok ht]; rfl, rfl, hc⟩
theorem failR_spec (hT : Tks X v ts) (hS : RdS ts st i off e) {c : Int} (hc : c ≠ 0) : SpecR Tryz.prog 47 [.pointer (some ⟨rb, 0, none⟩), .int .i64 c] X ts rb v i off e fun _ st' _ => st' = failM c st := by
  obtain ⟨t, ht⟩ := hS.tok
  obtain ⟨i', off', e', h1, h2⟩ := hS.fail (rb := rb) (v := v) ht hc
  exact (fail_spec hT.row hT.len ht hc).mono fun u L' X' _ hL => ⟨_, hL, i', off', e', _, h1, h2, rfl⟩
theorem exp_spec (hT : Tks X v ts) (hS : RdS ts st i off e) {w : ByteArray} : SpecR Tryz.prog 91 [.pointer (some ⟨rb, 0, none⟩), .string w] X ts rb v i off e fun _ st' _ => st' = expM w st := by
  obtain ⟨t, ht⟩ := hS.tok
  obtain ⟨h1, h2, _⟩ := hS.acc hT.fin ht w
  refine SpecM.enter Tryz.func91 rfl Tryz.ntmps91 rfl ?_
  intro w0 X0 own0
  refine T.seq <| T.region <| SL.mv rfl <| SL.mv rfl <| SL.w (op_callJ en90 rfl (vs := [_, _]) rfl (acc_spec hT hS) (by repeat constructor)) ?_
  rintro _ _ X1 ⟨_, rfl, hX1, i1, off1, e1, _, rfl, hS1, rfl, rfl⟩
  cases ha : (accM w st).1 with
  | true =>
    refine SL.v (op_not rfl) <| SL.nil <| T.condF rfl <| T.skip <| T.doneM0 [RdO rb v i1 off1 e1] rfl (List.Perm.refl _) ?_
    refine ⟨hX1, _, rfl, i1, off1, e1, _, rfl, hS1, ?_⟩
    cases st with
    | error x => cases ha
    | ok l =>
      cases hk : isT w l with
      | true => simp only [accM, expM, hk]; rfl
      | false => simp only [accM, hk] at ha; cases ha
  | false =>
    have hst : (accM w st).2 = st ∧ expM w st = failM 8 st := by
      cases st with
      | error x => exact ⟨rfl, rfl⟩
      | ok l =>
        cases hk : isT w l with
        | true => simp only [accM, hk] at ha; cases ha
        | false => simp only [accM, expM, hk]; exact ⟨rfl, rfl⟩
    rw [hst.1] at hS1
    refine SL.v (op_not rfl) <| SL.nil <| T.condT rfl <| T.region <| SL.mv rfl <| SL.w (op_callJ en47 rfl (vs := [_, _]) rfl (failR_spec (hT.mono hX1) hS1 (by decide)) (by repeat constructor)) ?_
    rintro _ _ X2 ⟨_, rfl, hX2, i2, off2, e2, _, rfl, hS2, rfl⟩
    refine SL.nil <| T.doneM0 [RdO rb v i2 off2 e2] rfl (List.Perm.refl _) ?_
    exact ⟨hX1.trans' hX2, _, rfl, i2, off2, e2, _, rfl, hS2, hst.2.symm⟩
theorem nam_spec (hT : Tks X v ts) (hS : RdS ts st i off e) : SpecR Tryz.prog 92 [.pointer (some ⟨rb, 0, none⟩)] X ts rb v i off e fun u st' _ => u = .string (namM st).1 ∧ st' = (namM st).2 := by
  obtain ⟨t, ht⟩ := hS.tok
  refine SpecM.enter Tryz.func92 rfl Tryz.ntmps92 rfl ?_
  intro w0 X0 own0
  refine T.seq <| T.region <| SL.as rfl <| SL.nil <| T.seq <| T.region <| SL.mv rfl <| SL.w (op_callLend en89 (vs := [_]) rfl ((fun X1 h1 h2 => (peek_spec (hT.row.mono h1) hT.len (h2 (RdO rb v i off e) (by simp)) ht : Spec _ _ _ _ fun u _ => u = .agg (rcT (pk e t)).toArray)))) ?_
  rintro _ _ _ ⟨rfl, rfl, rfl⟩
  generalize hpt : pk e t = q
  obtain ⟨k, x, n, o⟩ := q
  rw [show (rcT ⟨k, x, n, o⟩).toArray = #[.int .u8 (k : Int), .string x, .int .i64 (n : Int), .int .i64 (o : Int)] from rfl]
  by_cases hk : k = 1
  case neg =>
    have hm : namM st = (⟨#[]⟩, failM 8 st) := by
      obtain ⟨h1, h2⟩ := hS
      cases st with
      | error x => rfl
      | ok l =>
        obtain ⟨rfl, rfl, rfl⟩ := h2
        rw [pk, if_pos rfl] at hpt
        subst hpt
        simp only [namM, failM, drop_tok ht, nameT]
        rw [if_pos (.inl hk)]
        rfl
    refine SL.w (op_alloc z70) ?_
    rintro _ _ _ ⟨B3, rfl, rfl, rfl⟩
    refine SL.w (op_store ty70 rfl rfl (by repeat constructor) rfl rfl rfl) ?_
    rintro _ _ _ ⟨rfl, rfl⟩
    refine SL.nil <| T.seq <| T.block <| T.seq <| T.draw (by kernel_rfl) 10 [.t 0, .t 1, .t 2, .t 3, .t 5, .t 6, .r 4, .r 7, .t 8, .t 9] (by kernel_rfl) ?_
    refine SD.take rfl panicBody (op_fieldAddr fa70_0 rfl) rfl rfl ?_
    refine SD.take rfl panicBody (op_load ty68 rfl (by repeat constructor) rfl) rfl rfl ?_
    refine SD.take rfl panicBody (op_neqT rfl rfl (by omega)) rfl rfl ?_
    refine SD.take rfl panicBody (op_move rfl) rfl rfl ?_
    refine SD.skip rfl panicBody rfl rfl ?_
    refine SD.skip rfl panicBody rfl rfl ?_
    refine SD.skipF rfl rfl rfl ?_
    refine SD.skipF rfl rfl rfl ?_
    refine SD.take rfl panicBody (op_pickT rfl rfl) rfl rfl ?_
    refine SD.take rfl panicBody (op_assign rfl) rfl rfl ?_
    refine SD.nil ?_
    show SL _ _ _ _ _ _ _ [] _ _ _
    refine SL.nil <| T.condT rfl <| T.seq <| T.region <| SL.mv rfl <| SL.w (op_callJ en47 rfl (vs := [_, _]) rfl (failR_spec hT hS (by decide)) (by repeat constructor)) ?_
    rintro _ _ X2 ⟨_, rfl, hX2, i2, off2, e2, _, rfl, hS2, rfl⟩
    refine SL.nil <| T.seq <| T.region <| SL.as rfl <| SL.nil <| T.drop B3 (by repeat constructor) ?_
    refine T.retM1 [RdO rb v i2 off2 e2] rfl (ResIs.tmp rfl) (List.Perm.refl _) ?_
    exact ⟨hX2, _, rfl, i2, off2, e2, _, rfl, hS2, by rw [hm], by rw [hm]⟩
  subst hk
  have he : e = 0 := by
    by_cases h : e = 0
    · exact h
    · rw [pk, if_neg h] at hpt; cases hpt
  obtain ⟨l, rfl⟩ : ∃ l, st = .ok l := by
    obtain ⟨_, h2⟩ := hS
    cases st with
    | error x => obtain ⟨_, h3, h4⟩ := h2; exact absurd (h3.symm.trans he) h4
    | ok l => exact ⟨l, rfl⟩
  have hl : l = ⟨1, x, n, o⟩ :: ts.drop (i + 1) := by
    rw [pk, if_pos he] at hpt
    subst hpt
    rw [hS.2.2.2]; exact drop_tok ht
  have hlt : i + 1 < ts.length := by
    rw [pk, if_pos he] at hpt
    exact next_lt hT.fin ht (by rw [hpt]; exact fun h => by cases h)
  refine SL.w (op_alloc z70) ?_
  rintro _ _ _ ⟨B3, rfl, rfl, rfl⟩
  refine SL.w (op_store ty70 rfl rfl (by repeat constructor) rfl rfl rfl) ?_
  rintro _ _ _ ⟨rfl, rfl⟩
  refine SL.nil <| T.seq <| T.block <| T.seq <| T.draw (by kernel_rfl) 10 [.t 0, .t 1, .t 2, .t 3, .t 5, .t 6, .r 4, .r 7, .t 8, .t 9] (by kernel_rfl) ?_
  refine SD.take rfl panicBody (op_fieldAddr fa70_0 rfl) rfl rfl ?_
  refine SD.take rfl panicBody (op_load ty68 rfl (by repeat constructor) rfl) rfl rfl ?_
  refine SD.take rfl panicBody (op_neqF rfl rfl (by omega)) rfl rfl ?_
  refine SD.take rfl panicBody (op_move rfl) rfl rfl ?_
  refine SD.take rfl panicBody (op_fieldAddr fa70_1 rfl) rfl rfl ?_
  refine SD.take rfl panicBody (op_load ty9 rfl (by repeat constructor) rfl) rfl rfl ?_
  refine SD.run rfl (op_callF en82 (vs := []) rfl (keyws_spec)) rfl rfl ?_
  rintro kv _ X1 ⟨rfl, hX1, hkv⟩
  obtain ⟨Ak, ck, rfl⟩ := hkv.form
  refine SD.run rfl (op_callF en81 (vs := [_, _]) rfl (scontains_spec hkv)) rfl rfl ?_
  rintro _ _ X2 ⟨rfl, hX2, rfl⟩
  have hT := (hT.mono hX1).mono hX2
  by_cases h3 : x ∈ keyws
  · have hm : namM (.ok l) = (⟨#[]⟩, failM 8 (.ok l)) := by
      subst hl
      simp only [namM, failM, nameT]
      rw [if_pos (.inr h3)]
      rfl
    rw [decide_eq_true h3]
    refine SD.take rfl panicBody (op_pickF rfl rfl) rfl rfl ?_
    refine SD.take rfl panicBody (op_assign rfl) rfl rfl ?_
    refine SD.nil ?_
    show SL _ _ _ _ _ _ _ [] _ _ _
    refine SL.nil <| T.condT rfl <| T.seq <| T.region <| SL.mv rfl <| SL.w (op_callJ en47 rfl (vs := [_, _]) rfl (failR_spec hT hS (by decide)) (by repeat constructor)) ?_
    rintro _ _ X3 ⟨_, rfl, hX3, i2, off2, e2, _, rfl, hS2, rfl⟩
    refine SL.nil <| T.seq <| T.region <| SL.as rfl <| SL.nil <| T.drop B3 (by repeat constructor) ?_
    refine T.retM1 [RdO rb v i2 off2 e2] rfl (ResIs.tmp rfl) (List.Perm.refl _) ?_
    exact ⟨(hX1.trans' hX2).trans' hX3, _, rfl, i2, off2, e2, _, rfl, hS2, by rw [hm], by rw [hm]⟩
  rw [decide_eq_false h3]
  refine SD.take rfl panicBody (op_pickF rfl rfl) rfl rfl ?_
  refine SD.take rfl panicBody (op_assign rfl) rfl rfl ?_
  refine SD.nil ?_
  show SL _ _ _ _ _ _ _ [] _ _ _
  refine SL.nil <| T.condF rfl <| T.seq <| T.region <| SL.v (op_fieldAddr fa70_1 rfl) <| SL.v (op_load ty9 rfl (by repeat constructor) rfl) ?_
  refine SL.w (op_callF en38 (vs := [_]) rfl (nvalid_spec)) ?_
  rintro _ _ X3 ⟨rfl, hX3, rfl⟩
  have hT := hT.mono hX3
  by_cases h4 : validS x
  case neg =>
    have hm : namM (.ok l) = (⟨#[]⟩, failM 9 (.ok l)) := by
      subst hl
      simp only [namM, failM, nameT]
      rw [if_neg (fun h => h.elim (fun h => h rfl) h3), if_pos h4]
      rfl
    rw [decide_eq_false h4]
    refine SL.v (op_not rfl) <| SL.as rfl <| SL.nil <| T.condT rfl <| T.seq <| T.region <| SL.mv rfl <| SL.w (op_callJ en47 rfl (vs := [_, _]) rfl (failR_spec hT hS (by decide)) (by repeat constructor)) ?_
    rintro _ _ X4 ⟨_, rfl, hX4, i2, off2, e2, _, rfl, hS2, rfl⟩
    refine SL.nil <| T.seq <| T.region <| SL.as rfl <| SL.nil <| T.drop B3 (by repeat constructor) ?_
    refine T.retM1 [RdO rb v i2 off2 e2] rfl (ResIs.tmp rfl) (List.Perm.refl _) ?_
    exact ⟨((hX1.trans' hX2).trans' hX3).trans' hX4, _, rfl, i2, off2, e2, _, rfl, hS2, by rw [hm], by rw [hm]⟩
  have hm : namM (.ok l) = (x, .ok (ts.drop (i + 1))) := by
    subst hl
    simp only [namM, nameT]
    rw [if_neg (fun h => h.elim (fun h => h rfl) h3), if_neg (fun h => h h4)]
  have hlen := hT.len
  rw [decide_eq_true h4]
  refine SL.v (op_not rfl) <| SL.as rfl <| SL.nil <| T.condF rfl <| T.skip <| T.blk <| T.seq <| T.region <| SL.mv rfl <| SL.v (op_nil rfl) <| SL.v (op_fieldAddr fa151_1 rfl) <| SL.v (op_load ty3 rfl (by repeat constructor) rfl) ?_
  refine SL.v (op_addN (q := 1) rfl rfl (by omega)) ?_
  refine SL.v (op_nil rfl) <| SL.v (op_fieldAddr fa151_1 rfl) <| SL.w (op_store ty3 rfl rfl (by repeat constructor) rfl rfl rfl) ?_
  rintro _ _ _ ⟨rfl, rfl⟩
  refine SL.nil <| T.seq <| T.region <| SL.v (op_fieldAddr fa70_1 rfl) <| SL.v (op_load ty9 rfl (by repeat constructor) rfl) ?_
  refine SL.as rfl <| SL.nil <| T.drop B3 (by repeat constructor) ?_
  refine T.retM1 [RdO rb v (i + 1) off e] rfl (ResIs.tmp rfl) (List.Perm.refl _) ?_
  exact ⟨(hX1.trans' hX2).trans' hX3, _, rfl, i + 1, off, e, .ok (ts.drop (i + 1)), rfl, ⟨hlt, hS.2.1, hS.2.2.1, rfl⟩, by rw [hm], by rw [hm]⟩
end
end Go.Proofs.YtnabbnhefjfegaaGreatDoor
namespace Go.Proofs.YtnabbnhefjfegaaGreatDoor
open Go.RowKit
/-- A way to read, from a state on. -/
def runM {α : Type} (p : List Tk → Res α) : RSt → Res α
  | .ok l => p l
  | .error x => .error x
def Out {α : Type} (R : Res α) (st : RSt) (e : α) : Prop := match R with
  | .ok y => e = y.1 ∧ st = .ok y.2
  | .error x => st = .error x
section
variable {α β : Type} {st : RSt}
theorem runM_exp {w : ByteArray} {q : List Tk → Res β} : runM (fun l => bindR (expT w l) fun _ l1 => q l1) st = runM q (expM w st) := by
  cases st with
  | error x => rfl
  | ok l =>
    simp only [runM, expT, expM]
    cases isT w l <;> rfl
theorem runM_nam {q : ByteArray → List Tk → Res β} : runM (fun l => bindR (nameT l) q) st = runM (q (namM st).1) (namM st).2 := by
  cases st with
  | error x => rfl
  | ok l =>
    simp only [runM, namM]
    cases nameT l with
    | error x => rfl
    | ok y => rfl
theorem accM_t {w : ByteArray} {l : List Tk} (h : isT w l = true) : accM w (.ok l) = (true, .ok l.tail) := by rw [accM, h]; rfl
theorem accM_f {w : ByteArray} {l : List Tk} (h : isT w l = false) : accM w (.ok l) = (false, .ok l) := by rw [accM, h]; rfl
theorem runM_acc {w : ByteArray} {q1 q2 : List Tk → Res β} : runM (fun l => if isT w l then q1 l.tail else q2 l) st = if (accM w st).1 then runM q1 (accM w st).2 else runM q2 (accM w st).2 := by
  cases st with
  | error x => rfl
  | ok l =>
    cases hk : isT w l with
    | true => rw [accM_t hk, runM, hk]; rfl
    | false => rw [accM_f hk, runM, hk]; rfl
theorem runM_par {p : List Tk → Res α} {q : α → List Tk → Res β} {st' : RSt} {e : α} (h : Out (runM p st) st' e) : runM (fun l => bindR (p l) q) st = runM (q e) st' := by
  cases st with
  | error x => simp only [runM, Out] at h; subst h; rfl
  | ok l =>
    simp only [runM] at h ⊢
    cases hp : p l with
    | error x => rw [hp] at h; simp only [Out] at h; subst h; rfl
    | ok y => rw [hp] at h; obtain ⟨rfl, rfl⟩ := h; rfl
theorem out_ok {p : List Tk → Res α} {e : α} (h : p = fun l => .ok (e, l)) : Out (runM p st) st e := by
  subst h
  cases st with
  | error x => rfl
  | ok l => exact ⟨rfl, rfl⟩
theorem tail_sh {l : List Tk} : Sh (.ok l) (.ok l.tail) := fun l' h => ⟨l, rfl, by have := Except.ok.inj h; subst this; rw [List.length_tail]; omega⟩
theorem err_sh {x : Nat × Int} : Sh st (.error x) := fun l' h => by cases h
theorem accM_sh {w : ByteArray} : Sh st (accM w st).2 := by
  cases st with
  | error x => exact Sh.refl _
  | ok l =>
    cases hk : isT w l with
    | true => rw [accM_t hk]; exact tail_sh
    | false => rw [accM_f hk]; exact Sh.refl _
theorem accM_lt {w : ByteArray} (h : (accM w st).1 = true) : ∃ l, st = .ok l ∧ (accM w st).2 = .ok l.tail ∧ 0 < l.length := by
  cases st with
  | error x => cases h
  | ok l =>
    cases hk : isT w l with
    | false => rw [accM_f hk] at h; cases h
    | true =>
      refine ⟨l, rfl, by rw [accM_t hk], ?_⟩
      cases l with
      | nil => cases hk
      | cons t l => simp
theorem expM_sh {w : ByteArray} : Sh st (expM w st) := by
  cases st with
  | error x => exact Sh.refl _
  | ok l =>
    rw [expM]
    split
    · exact tail_sh
    · exact err_sh
theorem namM_sh : Sh st (namM st).2 := by
  cases st with
  | error x => exact Sh.refl _
  | ok l =>
    unfold namM
    cases l with
    | nil => exact fun l' h => by cases h
    | cons t l =>
      simp only [nameT]
      split
      · rename_i h1
        split at h1
        · cases h1
        · split at h1
          · cases h1
          · simp only [Except.ok.injEq, Prod.mk.injEq] at h1
            obtain ⟨rfl, rfl⟩ := h1
            exact fun l' h => ⟨t :: l, rfl, by have := Except.ok.inj h; subst this; simp⟩
      · exact fun l' h => by cases h
end
/-- A function of the parser reads as p does. -/
def SpecP (P : Program) (g : FuncId) (p : ParP) (f : Nat) : Prop :=
  ∀ {X : PMap} {v : Value} {ts : List Tk} {rb pb i off : Nat} {e : Int} {st : RSt}, Tks X v ts → Blk X pb [.pointer (some ⟨rb, 0, none⟩)] → RdS ts st i off e → (∀ l, st = .ok l → l.length < f) →
    SpecR P g [.pointer (some ⟨pb, 0, none⟩)] X ts rb v i off e fun u st' X' => ∃ (ex : Ex) (r : Row4), u = .agg #[r.1, r.2.1, r.2.2.1, r.2.2.2] ∧ ExR .u8 X' ex r ∧ Out (runM p st) st' ex ∧ Sh st st'
theorem two_spec {X : PMap} {op : Nat} {a b : Ex} {r r' : Row4} (ha : ExR .u8 X a r) (hb : ExR .u8 X b r') : Spec Tryz.prog 94 [.int .u8 (op : Int), .agg #[r.1, r.2.1, r.2.2.1, r.2.2.2], .agg #[r'.1, r'.2.1, r'.2.2.1, r'.2.2.2]] X fun u X' => ∃ r2 : Row4, u = .agg #[r2.1, r2.2.1, r2.2.2.1, r2.2.2.2] ∧ ExR .u8 X' (two op a b) r2 := by
  refine Spec.enter Tryz.func94 rfl Tryz.ntmps94 rfl ?_
  intro w0 hw0
  refine T.seq <| T.region <| SL.w (op_box rfl) ?_
  rintro _ _ _ ⟨B4, rfl, rfl, rfl⟩
  refine SL.w (op_box rfl) ?_
  rintro _ _ _ ⟨B5, rfl, rfl, rfl⟩
  refine SL.w (op_alloc z40) ?_
  rintro _ _ _ ⟨B6, rfl, rfl, rfl⟩
  refine SL.nil <| T.seq <| T.region <| SL.mv rfl <| SL.v (op_load ty40 rfl (by repeat constructor) rfl) ?_
  refine SL.v (op_load ty40 rfl (by repeat constructor) rfl) ?_
  refine SL.w (op_buildSlice Tryz.underlying38 bs40 (qs := [(0, _), (1, _)]) rfl rfl rfl rfl rfl) ?_
  rintro _ _ _ ⟨B10, rfl, rfl, rfl⟩
  refine SL.v (op_build st40 (qs := [(0, _), (3, _)]) rfl rfl) <| SL.w (op_store ty40 rfl rfl (by repeat constructor) rfl rfl rfl) ?_
  rintro _ _ _ ⟨rfl, rfl⟩
  refine SL.nil <| T.pub B10 (by repeat constructor) ?_
  intro X1 hX1 hB10 _
  refine T.ret1 rfl (ResIs.cell rfl ty40 (by repeat constructor) rfl) ?_
  exact ⟨(_, _, _, _), rfl, .mk (.inl ⟨rfl, _, _, rfl⟩) (rows := [r, r']) (.inr ⟨by simp, B10, 2, [], rfl, hB10, by simp, by decide⟩) rfl fun i x y hx hy => by
    match i with
    | 0 => cases hx; cases hy; exact ha.mono hX1
    | 1 => cases hx; cases hy; exact hb.mono hX1
    | i + 2 => cases hx⟩
end Go.Proofs.YtnabbnhefjfegaaGreatDoor
namespace Go.Proofs.YtnabbnhefjfegaaGreatDoor
section
set_option maxRecDepth 100000
theorem en91 : Enters Tryz.prog 91 := enters_mk Tryz.func91 (by kernel_rfl) rfl
theorem en92 : Enters Tryz.prog 92 := enters_mk Tryz.func92 (by kernel_rfl) rfl
end
open Go.RowKit
def lenS : RSt → Nat
  | .ok l => l.length
  | .error _ => 0
theorem Sh.len {a b : RSt} (h : Sh a b) : lenS b ≤ lenS a := by
  cases b with
  | error x => exact Nat.zero_le _
  | ok l =>
    obtain ⟨l0, rfl, hl⟩ := h l rfl
    exact hl
theorem RdS.lenS {ts : List Tk} {st : RSt} {i off : Nat} {e : Int} (h : RdS ts st i off e) : lenS st ≤ ts.length := by
  obtain ⟨_, h2⟩ := h
  cases st with
  | error x => exact Nat.zero_le _
  | ok l => obtain ⟨_, _, rfl⟩ := h2; show (ts.drop i).length ≤ _; rw [List.length_drop]; omega
theorem accM_dec {w : ByteArray} {st : RSt} (h : (accM w st).1 = true) : lenS (accM w st).2 + 1 ≤ lenS st := by
  obtain ⟨l, rfl, h2, h3⟩ := accM_lt h
  rw [h2]
  show l.tail.length + 1 ≤ l.length
  rw [List.length_tail]; omega
theorem accM_same {w : ByteArray} {st : RSt} (h : (accM w st).1 = false) : (accM w st).2 = st := by
  cases st with
  | error x => rfl
  | ok l =>
    cases hk : isT w l with
    | true => rw [accM_t hk] at h; cases h
    | false => rw [accM_f hk]
section
variable {α : Type} {st : RSt} {k : Nat} {ns : List ByteArray} {Q : List ByteArray → List Tk → Res α}
theorem namesG_stop (h : (accM wComma st).1 = false ∨ k = 0) : runM (fun l => bindR (namesG k ns l) Q) st = runM (Q ns) st := by
  cases st with
  | error x => rfl
  | ok l =>
    cases k with
    | zero => rfl
    | succ k =>
      rcases h with h | h
      · cases hk : isT wComma l with
        | true => rw [accM_t hk] at h; cases h
        | false => simp only [runM, namesG, hk]; rfl
      · cases h
theorem namesG_step (h : (accM wComma st).1 = true) : runM (fun l => bindR (namesG (k + 1) ns l) Q) st = runM (fun l => bindR (namesG k (ns ++ [(namM (accM wComma st).2).1]) l) Q) (namM (accM wComma st).2).2 := by
  obtain ⟨l, rfl, h2, h3⟩ := accM_lt h
  rw [h2]
  have hk : isT wComma l = true := by
    cases hk : isT wComma l with
    | true => rfl
    | false => rw [accM_f hk] at h; cases h
  rw [← runM_nam (q := fun s l1 => bindR (namesG k (ns ++ [s]) l1) Q)]
  show bindR (namesG (k + 1) ns l) Q = bindR (nameT l.tail) fun s l1 => bindR (namesG k (ns ++ [s]) l1) Q
  rw [namesG, if_pos hk]
  cases nameT l.tail with
  | error x => rfl
  | ok y => rfl
end
/-- What is left to read of names in parentheses. -/
noncomputable def rpQ (op : Nat) (ns : List ByteArray) (l3 : List Tk) : Res Ex := bindR (expT wRp l3) fun _ l4 => .ok (.mk op 0 ns [], l4)
noncomputable def namesQ (op : Nat) (several : Bool) : ParP := fun l => bindR (namesP several l) fun ns l' => .ok (.mk op 0 ns [], l')
theorem namesQ_start {op : Nat} {several : Bool} {st : RSt} : runM (namesQ op several) st = runM (fun l => bindR (namesG (if several then lenS (namM (expM wLp st)).2 else 0) [(namM (expM wLp st)).1] l) (rpQ op)) (namM (expM wLp st)).2 := by
  have e : namesQ op several = fun l => bindR (expT wLp l) fun _ l1 => bindR (nameT l1) fun s l2 => bindR (namesG (if several then l2.length else 0) [s] l2) (rpQ op) := by
    funext l
    simp only [namesQ, namesP]
    cases expT wLp l with
    | error x => rfl
    | ok y =>
      obtain ⟨_, l1⟩ := y
      simp only [bindR_ok]
      cases nameT l1 with
      | error x => rfl
      | ok z =>
        obtain ⟨s, l2⟩ := z
        simp only [bindR_ok]
        cases namesG (if several then l2.length else 0) [s] l2 with
        | error x => rfl
        | ok w =>
          obtain ⟨ns, l3⟩ := w
          simp only [bindR_ok, rpQ]
          cases expT wRp l3 with
          | error x => rfl
          | ok y => rfl
  rw [e, runM_exp, runM_nam]
  cases (namM (expM wLp st)).2 with
  | error x => rfl
  | ok l => rfl
abbrev E0 (b : Nat) : Ow := ⟨b, [.int .u8 0, .int .i64 0, .slice none 0 0, .slice none 0 0], 40, 4⟩
abbrev W1 (b : Nat) (s : ByteArray) : Ow := ⟨b, [.string s], 9, 1⟩
section
variable {X : PMap} {v : Value} {ts : List Tk} {rb pb i off : Nat} {e : Int} {st : RSt}
theorem pnames_spec (hT : Tks X v ts) (hP : Blk X pb [.pointer (some ⟨rb, 0, none⟩)]) (hS : RdS ts st i off e) {op : Nat} {several : Bool} :
    SpecR Tryz.prog 198 [.pointer (some ⟨pb, 0, none⟩), .int .u8 (op : Int), .bool several] X ts rb v i off e fun u st' X' => ∃ (ex : Ex) (r : Row4), u = .agg #[r.1, r.2.1, r.2.2.1, r.2.2.2] ∧ ExR .u8 X' ex r ∧ Out (runM (namesQ op several) st) st' ex ∧ Sh st st' := by
  have hmx : maxLen = 9223372036854775807 := rfl
  have hlen := hT.len
  refine SpecM.enter Tryz.func198 rfl Tryz.ntmps198 rfl ?_
  intro w0 X0 own0
  refine T.seq <| T.region <| SL.w (op_alloc z40) ?_
  rintro _ _ _ ⟨B6, rfl, rfl, rfl⟩
  refine SL.nil <| T.seq <| T.region <| SL.mv rfl <| SL.v (op_nil rfl) <| SL.v (op_fieldAddr fa98_0 rfl) <| SL.v (op_loadX ty96 rfl (by assumption) rfl) ?_
  refine SL.w (op_callJ en91 rfl (vs := [_, _]) rfl (exp_spec hT hS) (by repeat constructor)) ?_
  rintro _ _ X1 ⟨_, rfl, hX1, i1, off1, e1, _, rfl, hS1, rfl⟩
  have hP := hP.mono hX1
  have hT := hT.mono hX1
  refine SL.nil <| T.seq <| T.region <| SL.mv rfl <| SL.v (op_nil rfl) <| SL.v (op_fieldAddr fa98_0 rfl) <| SL.v (op_loadX ty96 rfl (by assumption) rfl) ?_
  refine SL.w (op_callJ en92 rfl (vs := [_]) rfl (nam_spec hT hS1) (by repeat constructor)) ?_
  rintro _ _ X2 ⟨_, rfl, hX2, i2, off2, e2, _, rfl, hS2, rfl, rfl⟩
  have hP := hP.mono hX2
  have hT := hT.mono hX2
  have hl2 := hS2.lenS
  have h0 := namesQ_start (op := op) (several := several) (st := st)
  have hsh := (expM_sh (w := wLp) (st := st)).trans namM_sh
  generalize (namM (expM wLp st)).1 = s0 at *
  generalize (namM (expM wLp st)).2 = sw at *
  refine SL.w (op_buildSlice Tryz.underlying37 bs9 (qs := [(0, _)]) rfl rfl rfl rfl rfl) ?_
  rintro _ _ _ ⟨B18, rfl, rfl, rfl⟩
  refine SL.as rfl <| SL.nil <| T.seq <| T.block <| T.perm (own' := E0 B6 :: RdO rb v i2 off2 e2 :: (own0 ++ [W1 B18 s0])) (show (W1 B18 s0 :: E0 B6 :: RdO rb v i2 off2 e2 :: own0).Perm _ from (List.perm_append_singleton (W1 B18 s0) (E0 B6 :: RdO rb v i2 off2 e2 :: own0)).symm) ?_
  refine T.loopW (fun m env own X' => ∃ (ns : List ByteArray) (vs : Value) (G : Own) (i off : Nat) (e : Int) (sa : RSt) (k : Nat), m = lenS sa ∧ X2.le X' ∧ RdS ts sa i off e ∧ Sh st sa ∧ ns.length + lenS sa ≤ 2000000 ∧ (several = false → k = 0) ∧ (several = true → lenS sa ≤ k) ∧ runM (namesQ op several) st = runM (fun l => bindR (namesG k ns l) (rpQ op)) sa ∧ GrowS 9 1 vs ns.length (strsC ns) G ∧ env = [(0, .pointer (some ⟨pb, 0, none⟩)), (1, .int .u8 (op : Int)), (2, .bool several), (6, .pointer (some ⟨B6, 0, none⟩)), (7, vs)] ∧ own = E0 B6 :: RdO rb v i off e :: (own0 ++ G)) (lenS sw) ⟨[s0], _, _, i2, off2, e2, sw, _, rfl, PMap.le_refl _, hS2, hsh, by simp; omega, fun h => by rw [h]; rfl, fun h => by rw [h]; exact Nat.le_refl _, h0, grow1 rfl (by omega), rfl, rfl⟩ (by repeat (first | exact Sub.nil | refine Sub.cons rfl ?_)) ?_
  rintro m _ _ X3 ⟨ns, vs, G, i3, off3, e3, sa, k, rfl, hX3, hS3, hsh3, hns, hk0, hk1, heq, hG, rfl, rfl⟩
  cases several with
  | false =>
    obtain rfl := hk0 rfl
    obtain ⟨Av, cv, rfl⟩ := hG.form
    have hP := hP.mono hX3
    refine T.seq <| T.seq <| T.region <| SL.mv rfl <| SL.mv rfl <| SL.skip rfl rfl ?_
    refine SL.skip rfl rfl ?_
    refine SL.skip rfl rfl ?_
    refine SL.skip rfl rfl ?_
    refine SL.skip rfl rfl ?_
    refine SL.v (op_pickF rfl rfl) <| SL.nil <| T.condF rfl ?_
    refine T.exit (T.exitCode (T.exitCut (T.exitBlk ?_)))
    refine T.seq <| T.region <| SL.mv rfl <| SL.v (op_nil rfl) <| SL.v (op_fieldAddr fa98_0 rfl) <| SL.v (op_loadX ty96 rfl (by assumption) rfl) ?_
    refine SL.w (op_callJ en91 rfl (vs := [_, _]) rfl (exp_spec (hT.mono hX3) hS3) (by repeat constructor)) ?_
    rintro _ _ X5 ⟨_, rfl, hX5, i5, off5, e5, _, rfl, hS5, rfl⟩
    refine SL.nil <| T.seq <| T.region <| SL.mv rfl <| SL.mv rfl <| SL.v (op_build st40 (qs := [(0, _), (2, _)]) rfl rfl) <| SL.w (op_store ty40 rfl rfl (by repeat constructor) rfl rfl rfl) ?_
    rintro _ _ _ ⟨rfl, rfl⟩
    refine SL.nil <| T.pubG (own0 := _ :: _ :: own0) hG ?_
    intro X9 hX9 hS9
    refine T.retM1S [_] _ rfl (ResIs.cell rfl ty40 (by repeat constructor) rfl) (List.sublist_cons_self _ _) (List.Perm.refl _) ?_
    refine ⟨(((hX1.trans' hX2).trans' hX3).trans' hX5).trans' hX9, _, rfl, i5, off5, e5, _, rfl, hS5, _, (_, _, _, _), rfl, .mk (RowR.ofG (rc := strC) (by rw [strsC_flat]; exact hG) (by rw [strsC_flat]; exact hS9)) (.inl ⟨rfl, _, _, rfl⟩) (rows := []) (al := []) rfl (fun i a r h => absurd h (by simp)), ?_, hsh3.trans expM_sh⟩
    rw [heq, namesG_stop (.inr rfl)]
    show Out (runM (fun l => bindR (expT wRp l) fun _ l4 => .ok (Ex.mk op 0 ns [], l4)) _) _ _
    rw [runM_exp]
    exact out_ok rfl
  | true =>
    have hk1 := hk1 rfl
    have hP := hP.mono hX3
    have hT := hT.mono hX3
    obtain ⟨Av, cv, rfl⟩ := hG.form
    refine T.seq <| T.seq <| T.region <| SL.mv rfl <| SL.mv rfl <| SL.mv rfl <| SL.v (op_nil rfl) <| SL.v (op_fieldAddr fa98_0 rfl) <| SL.v (op_loadX ty96 rfl (by assumption) rfl) ?_
    refine SL.w (op_callJ en90 rfl (vs := [_, _]) rfl (acc_spec hT hS3) (by repeat constructor)) ?_
    rintro _ _ X4 ⟨_, rfl, hX4, i4, off4, e4, _, rfl, hS4, rfl, rfl⟩
    have hP := hP.mono hX4
    have hT := hT.mono hX4
    have hsh4 := hsh3.trans (accM_sh (w := wComma))
    cases ha : (accM wComma sa).1 with
    | true =>
      have hdec := accM_dec ha
      obtain ⟨k, rfl⟩ : ∃ q, k = q + 1 := ⟨k - 1, by omega⟩
      rw [namesG_step ha] at heq
      refine SL.v (op_pickT rfl rfl) <| SL.nil <| T.condT rfl <| T.skip <| T.block <| T.region <| SL.mv rfl <| SL.mv rfl <| SL.v (op_nil rfl) <| SL.v (op_fieldAddr fa98_0 rfl) <| SL.v (op_loadX ty96 rfl (by assumption) rfl) ?_
      refine SL.w (op_callJ en92 rfl (vs := [_]) rfl (nam_spec hT hS4) (by repeat constructor)) ?_
      rintro _ _ X5 ⟨_, rfl, hX5, i5, off5, e5, _, rfl, hS5, rfl, rfl⟩
      have hd2 := (namM_sh (st := (accM wComma sa).2)).len
      have hsh5 := hsh4.trans namM_sh
      generalize (namM (accM wComma sa).2).1 = s5 at *
      generalize (namM (accM wComma sa).2).2 = sb at *
      refine SL.w (op_buildSlice Tryz.underlying37 bs9 (qs := [(0, _)]) rfl rfl rfl rfl rfl) ?_
      rintro _ _ _ ⟨B33, rfl, rfl, rfl⟩
      refine SL.w (op_appendG (own0 := _ :: _ :: own0) sl37 rfl hG rfl rfl rfl (by omega) (by omega)) ?_
      rintro vn _ _ ⟨G2, rfl, rfl, hG2⟩
      have hG2 : GrowS 9 1 vn (ns ++ [s5]).length (strsC (ns ++ [s5])) G2 := by rw [List.length_append, strsC_app]; exact hG2
      refine SL.as rfl <| SL.nil <| T.blk ?_
      exact T.backW (lenS sb) (by omega) ⟨ns ++ [s5], vn, G2, i5, off5, e5, sb, k, rfl, (hX3.trans' hX4).trans' hX5, hS5, hsh5, by rw [List.length_append]; simp; omega, fun h => (by cases h), fun _ => by omega, heq, hG2, rfl, rfl⟩ (by repeat (first | exact Sub.nil | refine Sub.cons rfl ?_))
    | false =>
      rw [accM_same ha] at hS4 hsh4
      refine SL.v (op_pickT rfl rfl) <| SL.nil <| T.condF rfl ?_
      refine T.exit (T.exitCode (T.exitCut (T.exitBlk ?_)))
      refine T.seq <| T.region <| SL.mv rfl <| SL.v (op_nil rfl) <| SL.v (op_fieldAddr fa98_0 rfl) <| SL.v (op_loadX ty96 rfl (by assumption) rfl) ?_
      refine SL.w (op_callJ en91 rfl (vs := [_, _]) rfl (exp_spec hT hS4) (by repeat constructor)) ?_
      rintro _ _ X5 ⟨_, rfl, hX5, i5, off5, e5, _, rfl, hS5, rfl⟩
      refine SL.nil <| T.seq <| T.region <| SL.mv rfl <| SL.mv rfl <| SL.v (op_build st40 (qs := [(0, _), (2, _)]) rfl rfl) <| SL.w (op_store ty40 rfl rfl (by repeat constructor) rfl rfl rfl) ?_
      rintro _ _ _ ⟨rfl, rfl⟩
      refine SL.nil <| T.pubG (own0 := _ :: _ :: own0) hG ?_
      intro X9 hX9 hS9
      refine T.retM1S [_] _ rfl (ResIs.cell rfl ty40 (by repeat constructor) rfl) (List.sublist_cons_self _ _) (List.Perm.refl _) ?_
      refine ⟨((((hX1.trans' hX2).trans' hX3).trans' hX4).trans' hX5).trans' hX9, _, rfl, i5, off5, e5, _, rfl, hS5, _, (_, _, _, _), rfl, .mk (RowR.ofG (rc := strC) (by rw [strsC_flat]; exact hG) (by rw [strsC_flat]; exact hS9)) (.inl ⟨rfl, _, _, rfl⟩) (rows := []) (al := []) rfl (fun i a r h => absurd h (by simp)), ?_, hsh4.trans expM_sh⟩
      rw [heq, namesG_stop (.inl ha)]
      show Out (runM (fun l => bindR (expT wRp l) fun _ l4 => .ok (Ex.mk op 0 ns [], l4)) _) _ _
      rw [runM_exp]
      exact out_ok rfl
end
end Go.Proofs.YtnabbnhefjfegaaGreatDoor
