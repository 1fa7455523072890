/- Constraints: their lines, and their errors; the program's. -/
import Derived.Test.YtaooojjhlngcmaaDoorText
namespace Go.Proofs.YtaooojjhlngcmaaDoor
section
set_option maxRecDepth 100000
theorem en13 : Enters Tryd.prog 13 := enters_mk Tryd.func13 (by kernel_rfl) rfl
theorem fa61_0 : FAdr Tryd.prog 61 0 0 := fadr_mk Tryd.underlying61 rfl rfl (by kernel_rfl)
theorem fa61_1 : FAdr Tryd.prog 61 1 1 := fadr_mk Tryd.underlying61 rfl rfl (by kernel_rfl)
theorem fa61_2 : FAdr Tryd.prog 61 2 2 := fadr_mk Tryd.underlying61 rfl rfl (by kernel_rfl)
theorem fa61_3 : FAdr Tryd.prog 61 3 3 := fadr_mk Tryd.underlying61 rfl rfl (by kernel_rfl)
theorem ty4 : Ty Tryd.prog 4 false 1 := ⟨⟨_, Tryd.underlying4, rfl⟩, by kernel_rfl⟩
theorem ty59 : Ty Tryd.prog 59 false 1 := ⟨⟨_, Tryd.underlying59, rfl⟩, by kernel_rfl⟩
theorem ty61 : Ty Tryd.prog 61 true 7 := ⟨⟨_, Tryd.underlying61, rfl⟩, by kernel_rfl⟩
theorem z61 : Zero Tryd.prog 61 [.bool false, .int .u8 0, .string ⟨#[]⟩, .int .u8 0, .int .i64 0, .slice none 0 0, .slice none 0 0] := ⟨zero_of (by kernel_rfl)⟩
end
open Go.RowKit
theorem eprint_spec {M : Nat} {X : PMap} (hI : ItoaOk M X) {e : Ex} {r : Row4} (hw : wtE e < 900000) (hn : chkE e = 0 → numE M e) (h : ExR .u8 X e r) : Spec Tryd.prog 26 [.agg #[r.1, r.2.1, r.2.2.1, r.2.2.2]] X fun u _ => u = .string (if chkE e = 0 then textE e else ⟨#[]⟩) := by
  obtain ⟨_, _, _, _, _, _, _, _, rfl⟩ := h.form
  by_cases hc : chkE e = 0
  · have hnode : nodeE e = 0 := by
      unfold chkE at hc
      split at hc
      · cases hc
      · exact hc
    refine Spec.enter Tryd.func26 rfl Tryd.ntmps26 rfl ?_
    intro w0 hw0
    refine T.seq ?_
    refine T.region ?_
    refine SL.x (op_box rfl) rfl rfl ?_
    rintro _ _ _ ⟨B1, rfl, rfl, rfl⟩
    refine SL.y (op_assign rfl) rfl rfl ?_
    refine SL.nil ?_
    refine T.seq ?_
    refine T.seq ?_
    refine T.region ?_
    first | refine SL.y (op_load ty34 rfl (by repeat (first | exact AtO.here | apply AtO.there)) rfl) rfl rfl ?_ | refine SL.y (op_loadX ty34 rfl (by assumption) rfl) rfl rfl ?_
    -- op
    refine SL.x (op_callF en13 (vs := [_]) rfl (chk_spec (by omega) h)) rfl rfl ?_
    rintro _ _ X1 ⟨rfl, hX1, rfl⟩
    first | refine SL.y (op_neqT rfl rfl (by omega)) rfl rfl ?_ | refine SL.y (op_neqF rfl rfl (by omega)) rfl rfl ?_ | refine SL.y (op_neq rfl rfl) rfl rfl ?_
    refine SL.nil ?_
    refine T.condF rfl ?_
    refine T.skip ?_
    refine T.seq ?_
    refine T.region ?_
    first | refine SL.y (op_load ty34 rfl (by repeat (first | exact AtO.here | apply AtO.there)) rfl) rfl rfl ?_ | refine SL.y (op_loadX ty34 rfl (by assumption) rfl) rfl rfl ?_
    -- op
    refine SL.x (op_callF en53 (vs := [_]) rfl (etext_spec _ (hI.mono hX1) (Nat.le_refl _) (by omega) hnode (hn hc) (h.mono hX1))) rfl rfl ?_
    rintro _ _ X2 ⟨rfl, hX2, rfl⟩
    refine SL.y (op_assign rfl) rfl rfl ?_
    refine SL.nil ?_
    -- ret
    refine T.ret1 rfl (ResIs.tmp rfl) ?_
    rw [if_pos hc]
  · refine Spec.enter Tryd.func26 rfl Tryd.ntmps26 rfl ?_
    intro w0 hw0
    refine T.seq ?_
    refine T.region ?_
    refine SL.x (op_box rfl) rfl rfl ?_
    rintro _ _ _ ⟨B1, rfl, rfl, rfl⟩
    refine SL.y (op_assign rfl) rfl rfl ?_
    refine SL.nil ?_
    refine T.seq ?_
    refine T.seq ?_
    refine T.region ?_
    first | refine SL.y (op_load ty34 rfl (by repeat (first | exact AtO.here | apply AtO.there)) rfl) rfl rfl ?_ | refine SL.y (op_loadX ty34 rfl (by assumption) rfl) rfl rfl ?_
    -- op
    refine SL.x (op_callF en13 (vs := [_]) rfl (chk_spec (by omega) h)) rfl rfl ?_
    rintro _ _ X1 ⟨rfl, hX1, rfl⟩
    first | refine SL.y (op_neqT rfl rfl (by omega)) rfl rfl ?_ | refine SL.y (op_neqF rfl rfl (by omega)) rfl rfl ?_ | refine SL.y (op_neq rfl rfl) rfl rfl ?_
    refine SL.nil ?_
    refine T.condT rfl ?_
    refine T.seq ?_
    refine T.region ?_
    refine SL.y (op_assign rfl) rfl rfl ?_
    refine SL.nil ?_
    -- ret
    refine T.ret1 rfl (ResIs.tmp rfl) ?_
    rw [if_neg hc]
structure Con where
  enf : Bool
  kind : Nat
  name : ByteArray
  ex : Ex
abbrev Row7 := Bool × Nat × ByteArray × Row4
def rc7 (r : Row7) : List Value := [.bool r.1, .int .u8 (r.2.1 : Int), .string r.2.2.1, r.2.2.2.1, r.2.2.2.2.1, r.2.2.2.2.2.1, r.2.2.2.2.2.2]
theorem rc7_len (r : Row7) : (rc7 r).length = 7 := rfl
def ConR (X : PMap) (c : Con) (r : Row7) : Prop := r.1 = c.enf ∧ r.2.1 = c.kind ∧ r.2.2.1 = c.name ∧ ExR .u8 X c.ex r.2.2.2
theorem ConR.mono {X X' : PMap} {c : Con} {r : Row7} (h : ConR X c r) (hX : X.le X') : ConR X' c r := ⟨h.1, h.2.1, h.2.2.1, h.2.2.2.mono hX⟩
theorem ConR.form {X : PMap} {c : Con} {r : Row7} (h : ConR X c r) : ∃ (o : Nat) (n : Int) (A B : Option Addr) (l c1 l' c' : Nat), r = (c.enf, c.kind, c.name, .int .u8 (o : Int), .int .i64 n, .slice A l c1, .slice B l' c') := by
  obtain ⟨e, k, s, r4⟩ := r
  obtain ⟨h1, h2, h3, h4⟩ := h
  simp only at h1 h2 h3 h4
  subst h1 h2 h3
  obtain ⟨o, n, A, B, l, c1, l', c', rfl⟩ := h4.form
  exact ⟨_, _, _, _, _, _, _, _, rfl⟩
def ConsR (X : PMap) (v : Value) (cs : List Con) : Prop := ∃ rows : List Row7, RowR rc7 X v rows ∧ rows.length = cs.length ∧ ∀ (i : Nat) (c : Con) (r : Row7), cs[i]? = some c → rows[i]? = some r → ConR X c r
theorem ConsR.mono {X X' : PMap} {v : Value} {cs : List Con} (h : ConsR X v cs) (hX : X.le X') : ConsR X' v cs :=
  let ⟨rows, h1, h2, h3⟩ := h
  ⟨rows, h1.mono hX, h2, fun i c r a b => (h3 i c r a b).mono hX⟩
/-- The error of a constraint behind these names. -/
noncomputable def errC (pre : List ByteArray) (c : Con) : Int := if c.kind < 1 ∨ 3 < c.kind then 1 else if ¬validS c.name then 9 else if c.name ∈ pre then 5 else chkE c.ex
noncomputable def chkCs (pre : List ByteArray) : List Con → Int
  | [] => 0
  | c :: cs => if errC pre c ≠ 0 then errC pre c else chkCs (pre ++ [c.name]) cs
def modeB (c : Con) : ByteArray := if c.enf then ⟨#[101, 110, 102, 111, 114, 99, 101, 32]⟩ else ⟨#[100, 101, 99, 108, 97, 114, 101, 32]⟩
def kinds3 : List ByteArray := [⟨#[115, 116, 97, 116, 105, 99, 32]⟩, ⟨#[100, 121, 110, 97, 109, 105, 99, 32]⟩, ⟨#[117, 115, 101, 114, 115, 32]⟩]
def kindB (k : Nat) : ByteArray := (kinds3[k - 1]?).getD ⟨#[]⟩
def lineB (c : Con) : ByteArray := modeB c ++ kindB c.kind ++ c.name ++ ⟨#[58, 32]⟩ ++ textE c.ex ++ ⟨#[59, 10]⟩
def linesL (cs : List Con) : List UInt8 := (cs.map fun c => (lineB c).data.toList).flatten
theorem linesL_snoc (cs : List Con) (c : Con) : linesL (cs ++ [c]) = linesL cs ++ (lineB c).data.toList := by simp [linesL]
noncomputable def chkAll (cs : List Con) : Int := if 32 < cs.length then 3 else if chkCs [] cs ≠ 0 then chkCs [] cs else if 8000 < (linesL cs).length then 3 else 0
theorem chkCs_app (b : List Con) : ∀ (a : List Con) (pre : List ByteArray), chkCs pre (a ++ b) = if chkCs pre a ≠ 0 then chkCs pre a else chkCs (pre ++ a.map (·.name)) b
  | [], pre => by simp [chkCs]
  | c :: a, pre => by
    rw [List.cons_append, chkCs, chkCs, chkCs_app b a]
    by_cases h : errC pre c ≠ 0
    · simp [h]
    · simp only [h, if_false, List.map_cons, List.append_assoc, List.cons_append, List.nil_append]
theorem errC_ok {pre : List ByteArray} {c : Con} (h : errC pre c = 0) : 1 ≤ c.kind ∧ c.kind ≤ 3 ∧ validS c.name ∧ c.name ∉ pre ∧ chkE c.ex = 0 := by
  unfold errC at h
  by_cases h1 : c.kind < 1 ∨ 3 < c.kind
  · rw [if_pos h1] at h; cases h
  · rw [if_neg h1] at h
    by_cases h2 : ¬validS c.name
    · rw [if_pos h2] at h; cases h
    · rw [if_neg h2] at h
      by_cases h3 : c.name ∈ pre
      · rw [if_pos h3] at h; cases h
      · rw [if_neg h3] at h
        exact ⟨by omega, by omega, Classical.not_not.1 h2, h3, h⟩
theorem chkE_node {e : Ex} (h : chkE e = 0) : nodeE e = 0 := by
  unfold chkE at h
  split at h
  · cases h
  · exact h
theorem chkCs_mem : ∀ {cs : List Con} {pre : List ByteArray}, chkCs pre cs = 0 → ∀ c ∈ cs, 1 ≤ c.kind ∧ c.kind ≤ 3 ∧ validS c.name ∧ chkE c.ex = 0
  | d :: cs, pre, h, c, hm => by
    rw [chkCs] at h
    by_cases he : errC pre d ≠ 0
    · rw [if_pos he] at h; exact absurd h he
    · rw [if_neg he] at h
      rcases List.mem_cons.1 hm with rfl | hm
      · obtain ⟨a, b, c', _, d'⟩ := errC_ok (Decidable.not_not.1 he)
        exact ⟨a, b, c', d'⟩
      · exact chkCs_mem h c hm
theorem wtE_pos (e : Ex) : 1 ≤ wtE e := by cases e; rw [wtE]; omega
theorem kind_at {k : Nat} (h1 : 1 ≤ k) (h3 : k ≤ 3) : kinds3[k - 1]? = some (kindB k) := by
  rw [kindB, List.getElem?_eq_getElem (show k - 1 < kinds3.length by show k - 1 < 3; omega)]; rfl
theorem kindB_size (k : Nat) : (kindB k).size ≤ 8 := by
  unfold kindB
  cases h : kinds3[k - 1]? with
  | none => exact Nat.zero_le _
  | some s =>
    have := List.mem_of_getElem? h
    simp only [kinds3, List.mem_cons, List.not_mem_nil, or_false] at this
    rcases this with rfl | rfl | rfl <;> decide
theorem modeB_size (c : Con) : (modeB c).size = 8 := by unfold modeB; split <;> rfl
theorem lineB_size {c : Con} (hv : c.name.size ≤ 12) : 1 ≤ (lineB c).size ∧ (lineB c).size ≤ 40 * wtE c.ex + 40 := by
  have h1 := text_size c.ex
  have h2 := kindB_size c.kind
  have h3 := modeB_size c
  have k1 : (⟨#[58, 32]⟩ : ByteArray).size = 2 := rfl
  have k2 : (⟨#[59, 10]⟩ : ByteArray).size = 2 := rfl
  simp only [lineB, ByteArray.size_append]
  omega
theorem wrapK {k : Nat} (h1 : 1 ≤ k) (h3 : k ≤ 3) : IntKind.u8.wrap ((k : Int) - 1) = ((k - 1 : Nat) : Int) := by
  have := wrap_u8 (p := (k : Int) - 1) (by omega) (by omega)
  rw [this]; omega
def wtC (cs : List Con) : Nat := (cs.map fun c => wtE c.ex).sum
theorem wtC_mem {c : Con} : ∀ {cs : List Con}, c ∈ cs → wtE c.ex ≤ wtC cs
  | d :: cs, h => by
    simp only [wtC, List.map_cons, List.sum_cons]
    rcases List.mem_cons.1 h with rfl | h
    · omega
    · have := wtC_mem h; simp only [wtC] at this; omega
theorem linesL_len : ∀ {cs : List Con}, (∀ c ∈ cs, c.name.size ≤ 12) → (linesL cs).length ≤ 40 * wtC cs + 40 * cs.length
  | [], _ => by simp [linesL]
  | c :: cs, h => by
    have h1 := linesL_len (cs := cs) fun d hd => h d (by simp [hd])
    have h2 := (lineB_size (h c (by simp))).2
    simp only [linesL, wtC, List.map_cons, List.flatten_cons, List.sum_cons, List.length_append, List.length_cons] at h1 ⊢
    have e : (lineB c).data.toList.length = (lineB c).size := by simp
    omega
theorem wtC_take_le : ∀ (cs : List Con) (i : Nat), wtC (cs.take i) ≤ wtC cs
  | [], _ => by simp
  | _ :: _, 0 => by simp [wtC]
  | c :: cs, i + 1 => by
    have := wtC_take_le cs i
    simp only [wtC, List.take_succ_cons, List.map_cons, List.sum_cons] at this ⊢; omega
theorem perm2a {a b : Ow} {L : Own} : (a :: b :: (L ++ [])).Perm (L ++ ([] ++ [a, b])) := by
  rw [List.append_nil, List.nil_append]
  exact List.perm_append_comm (l₁ := [a, b])
theorem lines_spec {M : Nat} {X : PMap} (hI : ItoaOk M X) {v : Value} {cs : List Con} (h : ConsR X v cs) (hl : cs.length ≤ 40) (h0 : 0 < cs.length) (hw : wtC cs < 15000000) (hww : ∀ c ∈ cs, wtE c.ex < 900000) (hn : ∀ c ∈ cs, numE M c.ex)
    (hok : ∀ c ∈ cs, 1 ≤ c.kind ∧ c.kind ≤ 3 ∧ validS c.name ∧ chkE c.ex = 0) : Spec Tryd.prog 45 [v] X fun u _ => u = .string ⟨(linesL cs).toArray⟩ := by
  obtain ⟨rows, hr, hrl, hrow⟩ := h
  obtain ⟨A, cp, rfl⟩ := hr.form
  have hvs : ∀ c ∈ cs, c.name.size ≤ 12 := fun c hc => (hok c hc).2.2.1.2.1
  refine Spec.enter Tryd.func45 rfl Tryd.ntmps45 rfl ?_
  intro w0 hw0
  refine T.seq ?_
  refine T.region ?_
  refine SL.y (op_assign rfl) rfl rfl ?_
  refine SL.nil ?_
  refine T.seq ?_
  refine T.region ?_
  refine SL.x (op_alloc z111) rfl rfl ?_
  rintro _ _ _ ⟨B3, rfl, rfl, rfl⟩
  refine SL.nil ?_
  refine T.seq ?_
  refine T.seq ?_
  refine T.region ?_
  refine SL.y (op_move rfl) rfl rfl ?_
  refine SL.y (op_lenS Tryd.underlying42 rfl) rfl rfl ?_
  refine SL.y (op_move (v := .int .i64 ((0 : Nat) : Int)) rfl) rfl rfl ?_
  refine SL.nil ?_
  refine T.block ?_
  -- loop live [2, 3, 8, 9, 10]
  refine T.loopW (fun m env own X' => ∃ (i : Nat) (p s : Value) (G : Own), m = rows.length - i ∧ i ≤ rows.length ∧ X.le X' ∧ (p = .pointer none ∨ p = .pointer (some ⟨B3, 0, none⟩)) ∧ BufG (linesL (cs.take i)) s G ∧ env = [(3, .pointer (some ⟨B3, 0, none⟩)), (8, .slice A rows.length cp), (9, .int .i64 (rows.length : Int)), (10, .int .i64 (i : Int))] ∧ own = (BldO B3 p s :: G) ++ []) rows.length ⟨0, _, _, [], by simp, by omega, PMap.le_refl _, .inl rfl, GrowS.nil, rfl, rfl⟩ (by repeat (first | exact Sub.nil | refine Sub.cons rfl ?_)) ?_
  rintro m _ _ X1 ⟨i, p, s, G, rfl, hi, hX1, hp, hG, rfl, rfl⟩
  have hlt := linesL_len (cs := cs.take i) fun c hc => hvs c (List.mem_of_mem_take hc)
  have hwt := wtC_take_le cs i
  have hlt2 : (cs.take i).length ≤ 40 := by rw [List.length_take]; omega
  rcases Nat.lt_or_ge i rows.length with hil | hil
  · obtain ⟨r2, hr2⟩ : ∃ r2, rows[i]? = some r2 := ⟨_, List.getElem?_eq_getElem hil⟩
    obtain ⟨c, hc2⟩ : ∃ c, cs[i]? = some c := ⟨_, List.getElem?_eq_getElem (by omega)⟩
    have hmc := List.mem_of_getElem? hc2
    have hrc := hrow i c r2 hc2 hr2
    obtain ⟨q1, q2, q3, q4⟩ := hok c hmc
    obtain ⟨bA, pre, rfl, hbA⟩ := hr.blk (by omega)
    obtain ⟨o8, n8, a8, b8, l8, c8, l9, c9, rfl⟩ := hrc.form
    have hex := hrc.2.2.2
    simp only at hex
    have hts := text_size c.ex
    have hwe := hww c hmc
    have hls := lineB_size (hvs c hmc)
    have hk3 := strsC_at (kind_at q1 q2)
    have hks := kindB_size c.kind
    have hms := modeB_size c
    have hnz := q3.2.1
    have k1 : (⟨#[58, 32]⟩ : ByteArray).size = 2 := rfl
    have k2 : (⟨#[59, 10]⟩ : ByteArray).size = 2 := rfl
    have k3 : (⟨#[101, 110, 102, 111, 114, 99, 101, 32]⟩ : ByteArray).size = 8 := rfl
    have k4 : (⟨#[100, 101, 99, 108, 97, 114, 101, 32]⟩ : ByteArray).size = 8 := rfl
    have htk := take_snoc hc2
    refine T.seq ?_
    refine T.region ?_
    first | refine SL.y (op_lssT rfl rfl (by omega)) rfl rfl ?_ | refine SL.y (op_lssF rfl rfl (by omega)) rfl rfl ?_ | refine SL.y (op_lss rfl rfl) rfl rfl ?_
    refine SL.nil ?_
    refine T.seq ?_
    refine T.condT rfl ?_
    refine T.skip ?_
    refine T.seq ?_
    refine T.block ?_
    refine T.seq ?_
    refine T.region ?_
    first | refine SL.y (op_indexN Tryd.underlying42 ty61 rfl rfl (by omega)) rfl rfl ?_ | refine SL.y (op_index Tryd.underlying42 ty61 rfl rfl (by omega) (by omega)) rfl rfl ?_
    -- to 13: op
    refine SL.y (op_loadX ty61 rfl (hbA.mono hX1) (row_read rc7_len hr2 (by omega))) rfl rfl ?_
    refine SL.x (op_alloc z61) rfl rfl ?_
    rintro _ _ _ ⟨B5, rfl, rfl, rfl⟩
    refine SL.x (op_store ty61 rfl rfl (by repeat (first | exact AtO.here | apply AtO.there)) rfl rfl rfl) rfl rfl ?_
    rintro _ _ _ ⟨rfl, rfl⟩
    refine SL.nil ?_
    refine T.seq ?_
    refine T.region ?_
    refine SL.y (op_assign rfl) rfl rfl ?_
    refine SL.nil ?_
    refine T.seq ?_
    -- upto 6
    refine T.meet (fun _ env own X' => X1.le X' ∧ env = [(3, .pointer (some ⟨B3, 0, none⟩)), (5, .pointer (some ⟨B5, 0, none⟩)), (6, .string (modeB c)), (8, .slice (some ⟨bA, pre.length, none⟩) rows.length cp), (9, .int .i64 (rows.length : Int)), (10, .int .i64 (i : Int))] ∧ own = ⟨B5, rc7 (c.enf, c.kind, c.name, .int .u8 (o8 : Int), .int .i64 n8, .slice a8 l8 c8, .slice b8 l9 c9), 61, 7⟩ :: ((BldO B3 p s :: G) ++ [])) ?_ ?_
    · cases hce : c.enf with
      | true =>
        have e : modeB c = ⟨#[101, 110, 102, 111, 114, 99, 101, 32]⟩ := by rw [modeB, hce]; rfl
        rw [e]
        refine T.seq ?_
        refine T.region ?_
        refine SL.y (op_fieldAddr fa61_0 rfl) rfl rfl ?_
        first | refine SL.y (op_load ty4 rfl (by repeat (first | exact AtO.here | apply AtO.there)) rfl) rfl rfl ?_ | refine SL.y (op_loadX ty4 rfl (by assumption) rfl) rfl rfl ?_
        refine SL.nil ?_
        refine T.condT rfl ?_
        refine T.region ?_
        refine SL.y (op_assign rfl) rfl rfl ?_
        refine SL.nil ?_
        -- cut
        exact T.backW 0 (by omega) ⟨PMap.le_refl _, rfl, rfl⟩ (by repeat (first | exact Sub.nil | refine Sub.cons rfl ?_))
      | false =>
        have e : modeB c = ⟨#[100, 101, 99, 108, 97, 114, 101, 32]⟩ := by rw [modeB, hce]; rfl
        rw [e]
        refine T.seq ?_
        refine T.region ?_
        refine SL.y (op_fieldAddr fa61_0 rfl) rfl rfl ?_
        first | refine SL.y (op_load ty4 rfl (by repeat (first | exact AtO.here | apply AtO.there)) rfl) rfl rfl ?_ | refine SL.y (op_loadX ty4 rfl (by assumption) rfl) rfl rfl ?_
        refine SL.nil ?_
        refine T.condF rfl ?_
        refine T.skip ?_
        -- cut
        exact T.backW 0 (by omega) ⟨PMap.le_refl _, rfl, rfl⟩ (by repeat (first | exact Sub.nil | refine Sub.cons rfl ?_))
    rintro _ _ _ X2 ⟨hX2, rfl, rfl⟩
    refine T.seq ?_
    refine T.region ?_
    refine SL.x (op_buildSlice Tryd.underlying24 bs9 (qs := [(0, _), (1, _), (2, _)]) rfl rfl rfl rfl rfl) rfl rfl ?_
    rintro _ _ _ ⟨B16, rfl, rfl, rfl⟩
    refine SL.y (op_fieldAddr fa61_1 rfl) rfl rfl ?_
    first | refine SL.y (op_load ty59 rfl (by repeat (first | exact AtO.here | apply AtO.there)) rfl) rfl rfl ?_ | refine SL.y (op_loadX ty59 rfl (by assumption) rfl) rfl rfl ?_
    refine SL.y (op_subW rfl rfl) rfl rfl ?_
    -- to 20: op
    rw [wrapK q1 q2]
    first | refine SL.y (op_indexN Tryd.underlying24 ty9 rfl rfl (by omega)) rfl rfl ?_ | refine SL.y (op_index Tryd.underlying24 ty9 rfl rfl (by omega) (by omega)) rfl rfl ?_
    -- to 21: op
    refine SL.y (op_load ty9 rfl (by repeat (first | exact AtO.here | apply AtO.there)) (cread1k' hk3 (by omega))) rfl rfl ?_
    refine SL.y (op_assign rfl) rfl rfl ?_
    refine SL.nil ?_
    refine T.drawG (own0 := [_, _]) (by kernel_rfl) 13 [.t 0, .t 1, .t 2, .t 3, .t 4, .t 5, .t 6, .t 7, .t 8, .r 9, .t 10, .t 11, .r 12] (by kernel_rfl) ?_
    refine SD.take rfl panicBody (op_move rfl) rfl rfl ?_
    refine SD.take rfl panicBody (op_move rfl) rfl rfl ?_
    refine SD.take rfl panicBody (op_addStr rfl rfl (by first | omega | (simp only [ByteArray.size_append]; omega))) rfl rfl ?_
    refine SD.take rfl panicBody (op_fieldAddr fa61_2 rfl) rfl rfl ?_
    first | refine SD.take rfl panicBody (op_load ty9 rfl (by repeat (first | exact AtO.here | apply AtO.there)) rfl) rfl rfl ?_ | refine SD.take rfl panicBody (op_loadX ty9 rfl (by assumption) rfl) rfl rfl ?_
    refine SD.take rfl panicBody (op_addStr rfl rfl (by first | omega | (simp only [ByteArray.size_append]; omega))) rfl rfl ?_
    refine SD.take rfl panicBody (op_addStr rfl rfl (by first | omega | (simp only [ByteArray.size_append]; omega))) rfl rfl ?_
    refine SD.take rfl panicBody (op_fieldAddr fa61_3 rfl) rfl rfl ?_
    first | refine SD.take rfl panicBody (op_load ty34 rfl (by repeat (first | exact AtO.here | apply AtO.there)) rfl) rfl rfl ?_ | refine SD.take rfl panicBody (op_loadX ty34 rfl (by assumption) rfl) rfl rfl ?_
    -- op
    refine SD.run rfl (op_callF en53 (vs := [_]) rfl (etext_spec _ ((hI.mono hX1).mono hX2) (Nat.le_refl _) (by omega) (chkE_node q4) (hn c hmc) ((hex.mono hX1).mono hX2))) rfl rfl ?_
    rintro _ _ X3 ⟨rfl, hX3, rfl⟩
    refine SD.take rfl panicBody (op_addStr rfl rfl (by first | omega | (simp only [ByteArray.size_append]; omega))) rfl rfl ?_
    refine SD.take rfl panicBody (op_addStr rfl rfl (by first | omega | (simp only [ByteArray.size_append]; omega))) rfl rfl ?_
    -- op
    refine SD.perm (perm2a (L := BldO B3 p s :: G)) ?_
    refine SD.runK rfl (op_callM en75 (vs := [_, _]) rfl (writeStr_spec (t := lineB c) hp hG (by omega) (by omega) hls.1) rfl) (by rintro _ _ _ ⟨L', rfl, hX, _⟩; exact ⟨fun p hp => List.mem_append_right _ hp, hX3.trans' hX⟩) rfl rfl ?_
    rintro _ _ X4 ⟨_, rfl, hX4, rfl, s4, G4, rfl, hG4⟩
    refine SD.nil ?_
    show SL _ _ _ _ _ _ _ [] _ _ _
    refine SL.nil ?_
    refine T.blk ?_
    refine T.region ?_
    first | refine SL.y (op_addN (q := 1) rfl rfl (by omega)) rfl rfl ?_ | refine SL.y (op_add rfl rfl (by omega) (by omega)) rfl rfl ?_ | refine SL.y (op_addW rfl rfl) rfl rfl ?_
    refine SL.y (op_move rfl) rfl rfl ?_
    refine SL.nil ?_
    -- cut
    refine T.less (List.Sublist.append_left (List.nil_sublist _) _) ?_
    rw [← linesL_snoc, ← htk] at hG4
    exact T.backW (rows.length - (i + 1)) (by omega) ⟨i + 1, _, _, _, rfl, by omega, ((hX1.trans' hX2).trans' hX3).trans' hX4, .inr rfl, hG4, rfl, rfl⟩ (by repeat (first | exact Sub.nil | refine Sub.cons rfl ?_))
  · obtain rfl : i = rows.length := by omega
    have e : cs.take rows.length = cs := List.take_of_length_le (by omega)
    rw [e] at hG hlt
    have hne : linesL cs ≠ [] := by
      obtain ⟨c, l, rfl⟩ : ∃ c l, cs = c :: l := by
        cases cs with
        | nil => simp at h0
        | cons c l => exact ⟨c, l, rfl⟩
      intro h
      have := (lineB_size (hvs c (by simp))).1
      have e : (lineB c).data.toList.length = (lineB c).size := by simp
      have h2 := congrArg List.length h
      simp only [linesL, List.map_cons, List.flatten_cons, List.length_append, List.length_nil] at h2
      omega
    refine T.seq ?_
    refine T.region ?_
    first | refine SL.y (op_lssT rfl rfl (by omega)) rfl rfl ?_ | refine SL.y (op_lssF rfl rfl (by omega)) rfl rfl ?_ | refine SL.y (op_lss rfl rfl) rfl rfl ?_
    refine SL.nil ?_
    refine T.seq ?_
    refine T.condF rfl ?_
    refine T.exit (T.exitCode (T.exitCut (T.exitBlk ?_)))
    refine T.seq ?_
    refine T.region ?_
    -- op
    refine SL.x (op_callM en76 (vs := [_]) rfl (builderString_spec hG hne (by omega)) rfl) rfl rfl ?_
    rintro _ _ X5 ⟨_, rfl, hX5, rfl, rfl⟩
    refine SL.y (op_assign rfl) rfl rfl ?_
    refine SL.nil ?_
    -- ret
    refine T.ret1 rfl (ResIs.tmp rfl) ?_
    rfl
end Go.Proofs.YtaooojjhlngcmaaDoor
