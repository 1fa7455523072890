/- Books: read from bytes. -/
import Derived.Test.YtkmnlogacfkjmaaDoorLaw2
import Derived.Test.YtkmnlogacfkjmaaDoorRead
namespace Go.Proofs.YtkmnlogacfkjmaaDoor
section
set_option maxRecDepth 100000
theorem en67 : Enters Tryd.prog 67 := enters_mk Tryd.func67 (by kernel_rfl) rfl
theorem en68 : Enters Tryd.prog 68 := enters_mk Tryd.func68 (by kernel_rfl) rfl
theorem en70 : Enters Tryd.prog 70 := enters_mk Tryd.func70 (by kernel_rfl) rfl
theorem en72 : Enters Tryd.prog 72 := enters_mk Tryd.func72 (by kernel_rfl) rfl
end
open Go.RowKit
/-- An entry that is refused behind these. -/
def badE (l : List En) (x : En) : Prop := x.1 < 1 ∨ x.2.1 < 1 ∨ x.1 < (l.getLastD (0, 0, 0)).1 ∨ (x.1 = (l.getLastD (0, 0, 0)).1 ∧ x.2.1 ≤ (l.getLastD (0, 0, 0)).2.1)
instance (l : List En) (x : En) : Decidable (badE l x) := inferInstanceAs (Decidable (_ ∨ _ ∨ _ ∨ _))
def rd1 (e : Int) (bs : List Nat) := rdU 2 256 e bs
def rd2 (e : Int) (bs : List Nat) := rdU 2 63 (rd1 e bs).2.1 (rd1 e bs).2.2
def rd3 (e : Int) (bs : List Nat) := rdU 2 30000 (rd2 e bs).2.1 (rd2 e bs).2.2
def rdX (e : Int) (bs : List Nat) : En := (((rd1 e bs).1 : Int), ((rd2 e bs).1 : Int), ((rd3 e bs).1 : Int))
def rdE (l : List En) (e : Int) (bs : List Nat) : Int := if badE l (rdX e bs) then (if (rd3 e bs).2.1 = 0 then 6 else (rd3 e bs).2.1) else (rd3 e bs).2.1
def rdEs : Nat → List En → Int → List Nat → List En × Int × List Nat
  | 0, l, e, bs => (l, e, bs)
  | n + 1, l, e, bs => if e = 0 then rdEs n (l ++ [rdX e bs]) (rdE l e bs) (rd3 e bs).2.2 else (l, e, bs)
theorem rdU_len {c e : Int} {most : Nat} {bs : List Nat} : (rdU c most e bs).2.2.length ≤ bs.length := by
  obtain ⟨k, hk⟩ := rdU_sub (c := c) (e := e) (most := most) (bs := bs)
  rw [hk, List.length_drop]; omega
def rdBook (bs : List Nat) : List En × Int × List Nat := rdEs (rdU 3 16128 0 bs).1 [] (rdU 3 16128 0 bs).2.1 (rdU 3 16128 0 bs).2.2
theorem last_at {l : List En} (h : 0 < l.length) : l[l.length - 1]? = some (l.getLastD (0, 0, 0)) := by
  rw [← List.getLast?_eq_getElem?, List.getLastD_eq_getLast?]
  cases hh : l.getLast? with
  | none => rw [List.getLast?_eq_none_iff] at hh; rw [hh] at h; simp at h
  | some x => rfl
theorem perm_b {a c : Ow} {l : Own} : (a :: ([c] ++ l)).Perm ([c] ++ (a :: l)) := List.Perm.swap _ _ _
theorem perm_c {a b c : Ow} {l : Own} : ([c] ++ (a :: b :: l)).Perm (a :: b :: c :: l) := (List.Perm.swap _ _ _).trans (List.Perm.cons _ (List.Perm.swap _ _ _))
theorem perm_sw {a b : Ow} {l : Own} : ([a] ++ ([b] ++ l)).Perm ([b] ++ ([a] ++ l)) := List.Perm.swap _ _ _
section
variable {X : PMap} {b : Nat} {sv : Value} {e : Int} {ds : List Nat}
theorem rd1_spec (h : CutR X sv ds) (hl : ds.length < 1000000) : SpecM Tryd.prog 70 [.pointer (some ⟨b, 0, none⟩), .int .i64 256] X [RdO b sv e] fun u L' X' => u = .int .i64 ((rd1 e ds).1 : Int) ∧ ∃ sv', L' = [RdO b sv' (rd1 e ds).2.1] ∧ CutR X' sv' (rd1 e ds).2.2 := rnum_spec (most := 256) h hl (by omega)
theorem rd2_spec (h : CutR X sv (rd1 e ds).2.2) (hl : (rd1 e ds).2.2.length < 1000000) : SpecM Tryd.prog 70 [.pointer (some ⟨b, 0, none⟩), .int .i64 63] X [RdO b sv (rd1 e ds).2.1] fun u L' X' => u = .int .i64 ((rd2 e ds).1 : Int) ∧ ∃ sv', L' = [RdO b sv' (rd2 e ds).2.1] ∧ CutR X' sv' (rd2 e ds).2.2 := rnum_spec (most := 63) h hl (by omega)
theorem rd3_spec (h : CutR X sv (rd2 e ds).2.2) (hl : (rd2 e ds).2.2.length < 1000000) : SpecM Tryd.prog 70 [.pointer (some ⟨b, 0, none⟩), .int .i64 30000] X [RdO b sv (rd2 e ds).2.1] fun u L' X' => u = .int .i64 ((rd3 e ds).1 : Int) ∧ ∃ sv', L' = [RdO b sv' (rd3 e ds).2.1] ∧ CutR X' sv' (rd3 e ds).2.2 := rnum_spec (most := 30000) h hl (by omega)
end
theorem bread_spec {X : PMap} {v : Value} {bs : List Nat} (h : BytesR X v bs) (hl : bs.length < 1000000) (hb : ∀ b ∈ bs, b < 256) : Spec Tryd.prog 44 [v] X fun w X' => if endE (rdBook bs).2.1 (rdBook bs).2.2 = 0 then ∃ p, w = .tuple #[p, .int .i64 0] ∧ BkR X' p (rdBook bs).1 else w = .tuple #[.pointer none, .int .i64 6] := by
  have hmx : maxLen = 9223372036854775807 := rfl
  obtain ⟨A, cp, rfl⟩ := h.form
  refine Spec.enter Tryd.func44 rfl Tryd.ntmps44 rfl ?_
  intro w0 hw0
  refine T.seq ?_
  refine T.region ?_
  refine SL.y (op_assign rfl) rfl rfl ?_
  refine SL.y (op_assign (v := .int .i64 ((0 : Nat) : Int)) rfl) rfl rfl ?_
  refine SL.nil ?_
  refine T.seq ?_
  refine T.region ?_
  refine SL.y (op_move rfl) rfl rfl ?_
  -- op
  refine SL.x (op_callO en67 (vs := [_]) rfl (newR_spec h hl hb)) rfl rfl ?_
  rintro _ _ X1 ⟨_, rfl, hX1, br, sv1, rfl, rfl, h1⟩
  refine SL.y (op_assign rfl) rfl rfl ?_
  refine SL.nil ?_
  refine T.seq ?_
  refine T.region ?_
  -- op
  refine SL.x (op_callO en14 (vs := []) rfl (bnewO_spec)) rfl rfl ?_
  rintro _ _ X2 ⟨_, rfl, hX2, bk, rfl, rfl⟩
  refine SL.perm (own' := [RdO br sv1 0] ++ ([⟨bk, [.slice none 0 0], 90, 1⟩] ++ [])) perm_sw ?_
  refine SL.y (op_assign rfl) rfl rfl ?_
  refine SL.nil ?_
  refine T.seq ?_
  refine T.seq ?_
  refine T.region ?_
  refine SL.y (op_move rfl) rfl rfl ?_
  -- op
  refine SL.x (op_callM en68 (vs := [_, _]) rfl (rcount_spec (most := 16128) (h1.mono hX2) hl (by omega)) rfl) rfl rfl ?_
  rintro _ _ X3 ⟨_, rfl, hX3, rfl, sv3, rfl, h3⟩
  have hc := rdU_le (c := 3) (e := 0) (most := 16128) (bs := bs)
  have hcl := rdU_len (c := 3) (e := 0) (most := 16128) (bs := bs)
  have hz : rdBook bs = rdEs (rdU 3 16128 0 bs).1 [] (rdU 3 16128 0 bs).2.1 (rdU 3 16128 0 bs).2.2 := rfl
  generalize (rdU 3 16128 0 bs).1 = n0 at *
  generalize (rdU 3 16128 0 bs).2.1 = e0 at *
  generalize (rdU 3 16128 0 bs).2.2 = dd0 at *
  generalize rdBook bs = z at *
  refine SL.y (op_assign rfl) rfl rfl ?_
  refine SL.nil ?_
  refine T.block ?_
  -- loop live [2, 3, 4, 5, 6]
  refine T.loopW (fun m env own X' => ∃ (l : List En) (e : Int) (ds : List Nat) (sv lv : Value) (G : Own), X3.le X' ∧ z = rdEs m l e ds ∧ CutR X' sv ds ∧ ds.length < 1000000 ∧ l.length + m ≤ 16128 ∧ GrowS 76 3 lv l.length (enC l) G ∧ env = [(4, .pointer (some ⟨br, 0, none⟩)), (5, .pointer (some ⟨bk, 0, none⟩)), (6, .int .i64 (m : Int))] ∧ own = RdO br sv e :: ⟨bk, [lv], 90, 1⟩ :: G) n0 ⟨[], e0, dd0, sv3, _, [], PMap.le_refl _, hz, h3, by omega, by simp; omega, GrowS.nil, rfl, rfl⟩ (by repeat (first | exact Sub.nil | refine Sub.cons rfl ?_)) ?_
  rintro m _ _ X4 ⟨l, e, ds, sv, lv, G, hX4, hz4, h4, hdl, hlm, hG, rfl, rfl⟩
  obtain ⟨As, cs, rfl⟩ := hG.form
  have hend : (m = 0 ∨ e ≠ 0) → z = (l, e, ds) := fun h => by
    rw [hz4]
    rcases h with rfl | h
    · rfl
    · cases m with
      | zero => rfl
      | succ k => rw [rdEs, if_neg h]
  rcases Nat.eq_zero_or_pos m with hm0 | hm0
  · have hzz := hend (.inl hm0)
    subst hm0
    refine T.seq ?_
    refine T.seq ?_
    refine T.region ?_
    refine SL.y (op_move rfl) rfl rfl ?_
    first | refine SL.y (op_gtrT rfl rfl (by omega)) rfl rfl ?_ | refine SL.y (op_gtrF rfl rfl (by omega)) rfl rfl ?_ | refine SL.y (op_gtr rfl rfl) rfl rfl ?_
    refine SL.y (op_move rfl) rfl rfl ?_
    first | refine SL.skip rfl rfl ?_ | refine SL.y (op_move rfl) rfl rfl ?_
    -- op
    refine SL.skip rfl rfl ?_
    first | refine SL.skip rfl rfl ?_ | refine SL.y (op_eqlT rfl rfl (by omega)) rfl rfl ?_ | refine SL.y (op_eqlF rfl rfl (by omega)) rfl rfl ?_ | refine SL.y (op_eql rfl rfl) rfl rfl ?_
    first | refine SL.y (op_pickT rfl rfl) rfl rfl ?_ | refine SL.y (op_pickF rfl rfl) rfl rfl ?_ | refine SL.y (op_pickB rfl rfl rfl) rfl rfl ?_
    refine SL.nil ?_
    refine T.condF rfl ?_
    refine T.exit (T.exitCode (T.exitCut (T.exitBlk ?_)))
    refine T.seq ?_
    refine T.seq ?_
    refine T.region ?_
    refine SL.y (op_move rfl) rfl rfl ?_
    -- to 92: op
    refine SL.x (op_callM en72 (vs := [_]) rfl (rend_spec h4) rfl) rfl rfl ?_
    rintro _ _ X9 ⟨_, rfl, hX9, rfl, rfl⟩
    rw [hzz]
    simp only
    by_cases hend0 : endE e ds = 0
    · skip
      first | refine SL.y (op_neqT rfl rfl (by omega)) rfl rfl ?_ | refine SL.y (op_neqF rfl rfl (by omega)) rfl rfl ?_ | refine SL.y (op_neq rfl rfl) rfl rfl ?_
      refine SL.nil ?_
      refine T.condF rfl ?_
      refine T.skip ?_
      refine T.seq ?_
      refine T.region ?_
      refine SL.y (op_move rfl) rfl rfl ?_
      refine SL.y (op_assign rfl) rfl rfl ?_
      refine SL.y (op_assign (v := .int .i64 ((0 : Nat) : Int)) rfl) rfl rfl ?_
      refine SL.nil ?_
      -- ret
      refine T.less (own' := ⟨bk, [.slice As l.length cs], 90, 1⟩ :: G) (List.sublist_cons_self ..) ?_
      refine T.pubG (own0 := [_]) hG ?_
      intro Xa hXa hSa
      refine T.pub bk (by repeat (first | exact AtO.here | apply AtO.there)) ?_
      intro Xb hXb hBb _
      refine T.ret2 rfl (ResIs.tmp rfl) (ResIs.tmp rfl) ?_
      rw [if_pos hend0]
      exact ⟨_, rfl, bk, _, rfl, hBb, hSa.mono hXb⟩
    · first | refine SL.y (op_neqT rfl rfl (by omega)) rfl rfl ?_ | refine SL.y (op_neqF rfl rfl (by omega)) rfl rfl ?_ | refine SL.y (op_neq rfl rfl) rfl rfl ?_
      refine SL.nil ?_
      refine T.condT rfl ?_
      refine T.seq ?_
      refine T.region ?_
      refine SL.y (op_assign rfl) rfl rfl ?_
      refine SL.y (op_assign (v := .int .i64 ((6 : Nat) : Int)) rfl) rfl rfl ?_
      refine SL.nil ?_
      -- ret
      refine T.ret2 rfl (ResIs.tmp rfl) (ResIs.tmp rfl) ?_
      rw [if_neg hend0]
      rfl
  · refine T.seq ?_
    refine T.seq ?_
    refine T.region ?_
    refine SL.y (op_move rfl) rfl rfl ?_
    first | refine SL.y (op_gtrT rfl rfl (by omega)) rfl rfl ?_ | refine SL.y (op_gtrF rfl rfl (by omega)) rfl rfl ?_ | refine SL.y (op_gtr rfl rfl) rfl rfl ?_
    refine SL.y (op_move rfl) rfl rfl ?_
    first | refine SL.skip rfl rfl ?_ | refine SL.y (op_move rfl) rfl rfl ?_
    -- op
    refine SL.x (op_callM en69 (vs := [_]) rfl (rerr_spec) rfl) rfl rfl ?_
    rintro _ _ X5 ⟨_, rfl, hX5, rfl, rfl⟩
    by_cases he : e = 0
    · subst he
      obtain ⟨q, rfl⟩ : ∃ q, m = q + 1 := ⟨m - 1, by omega⟩
      have a0 := h4.mono hX5
      have hz5 : z = rdEs q (l ++ [rdX 0 ds]) (rdE l 0 ds) (rd3 0 ds).2.2 := by rw [hz4, rdEs, if_pos rfl]
      have l1 := rdU_len (c := 2) (e := 0) (most := 256) (bs := ds)
      have l2 := rdU_len (c := 2) (e := (rd1 0 ds).2.1) (most := 63) (bs := (rd1 0 ds).2.2)
      have l3 := rdU_len (c := 2) (e := (rd2 0 ds).2.1) (most := 30000) (bs := (rd2 0 ds).2.2)
      have m1 := rdU_le (c := 2) (e := 0) (most := 256) (bs := ds)
      have m2 := rdU_le (c := 2) (e := (rd1 0 ds).2.1) (most := 63) (bs := (rd1 0 ds).2.2)
      have m3 := rdU_le (c := 2) (e := (rd2 0 ds).2.1) (most := 30000) (bs := (rd2 0 ds).2.2)
      change (rd1 0 ds).2.2.length ≤ ds.length at l1
      change (rd2 0 ds).2.2.length ≤ (rd1 0 ds).2.2.length at l2
      change (rd3 0 ds).2.2.length ≤ (rd2 0 ds).2.2.length at l3
      change (rd1 0 ds).1 ≤ 256 at m1
      change (rd2 0 ds).1 ≤ 63 at m2
      change (rd3 0 ds).1 ≤ 30000 at m3
      have hX45 := hX4.trans' hX5
      first | refine SL.skip rfl rfl ?_ | refine SL.y (op_eqlT rfl rfl (by omega)) rfl rfl ?_ | refine SL.y (op_eqlF rfl rfl (by omega)) rfl rfl ?_ | refine SL.y (op_eql rfl rfl) rfl rfl ?_
      first | refine SL.y (op_pickT rfl rfl) rfl rfl ?_ | refine SL.y (op_pickF rfl rfl) rfl rfl ?_ | refine SL.y (op_pickB rfl rfl rfl) rfl rfl ?_
      refine SL.nil ?_
      refine T.condT rfl ?_
      refine T.skip ?_
      refine T.seq ?_
      refine T.block ?_
      refine T.seq ?_
      refine T.region ?_
      refine SL.y (op_move rfl) rfl rfl ?_
      -- op
      refine SL.x (op_callM en70 (vs := [_, _]) rfl (rd1_spec a0 hdl) rfl) rfl rfl ?_
      rintro _ _ X6 ⟨_, rfl, hX6, rfl, sv6, rfl, h6⟩
      refine SL.y (op_move rfl) rfl rfl ?_
      -- op
      refine SL.x (op_callM en70 (vs := [_, _]) rfl (rd2_spec h6 (by omega)) rfl) rfl rfl ?_
      rintro _ _ X7 ⟨_, rfl, hX7, rfl, sv7, rfl, h7⟩
      refine SL.y (op_build st76 (qs := [(0, _), (1, _)]) rfl rfl) rfl rfl ?_
      refine SL.x (op_alloc z76) rfl rfl ?_
      rintro _ _ _ ⟨B7, rfl, rfl, rfl⟩
      refine SL.x (op_store ty76 rfl rfl (by repeat (first | exact AtO.here | apply AtO.there)) rfl rfl rfl) rfl rfl ?_
      rintro _ _ _ ⟨rfl, rfl⟩
      refine SL.nil ?_
      refine T.seq ?_
      refine T.region ?_
      refine SL.y (op_move rfl) rfl rfl ?_
      -- op
      refine SL.perm (own' := [RdO br sv7 (rd2 0 ds).2.1] ++ (⟨B7, [.int .i64 ((rd1 0 ds).1 : Int), .int .i64 ((rd2 0 ds).1 : Int), .int .i64 0], 76, 3⟩ :: ⟨bk, [.slice As l.length cs], 90, 1⟩ :: G)) (List.Perm.swap _ _ _) ?_
      refine SL.x (op_callM en70 (vs := [_, _]) rfl (rd3_spec h7 (by omega)) rfl) rfl rfl ?_
      rintro _ _ X8 ⟨_, rfl, hX8, rfl, sv8, rfl, h8⟩
      have hX48 := ((hX45.trans' hX6).trans' hX7).trans' hX8
      have hrE : rdE l 0 ds = if badE l (rdX 0 ds) then (if (rd3 0 ds).2.1 = 0 then 6 else (rd3 0 ds).2.1) else (rd3 0 ds).2.1 := rfl
      have hrX : rdX 0 ds = (((rd1 0 ds).1 : Int), ((rd2 0 ds).1 : Int), ((rd3 0 ds).1 : Int)) := rfl
      generalize rdE l 0 ds = e9 at *
      generalize (rd3 0 ds).2.2 = ds9 at *
      generalize (rd3 0 ds).2.1 = e8 at *
      generalize (rd1 0 ds).1 = xu at *
      generalize (rd2 0 ds).1 = xr at *
      generalize (rd3 0 ds).1 = xt at *
      generalize rdX 0 ds = x at *
      subst hrX
      rcases Nat.eq_zero_or_pos l.length with hl0 | hl0
      · obtain rfl : l = [] := List.eq_nil_of_length_eq_zero hl0
        have hbad : badE [] ((xu : Int), (xr : Int), (xt : Int)) ↔ (xu < 1 ∨ xr < 1) := by
          simp only [badE, List.getLastD_nil]; omega
        refine SL.y (op_fieldAddr fa76_2 rfl) rfl rfl ?_
        refine SL.x (op_store ty3 rfl rfl (by repeat (first | exact AtO.here | apply AtO.there)) rfl rfl rfl) rfl rfl ?_
        rintro _ _ _ ⟨rfl, rfl⟩
        refine SL.nil ?_
        refine T.seq ?_
        refine T.region ?_
        refine SL.y (op_build st76 (qs := []) rfl rfl) rfl rfl ?_
        refine SL.x (op_alloc z76) rfl rfl ?_
        rintro _ _ _ ⟨B8, rfl, rfl, rfl⟩
        refine SL.x (op_store ty76 rfl rfl (by repeat (first | exact AtO.here | apply AtO.there)) rfl rfl rfl) rfl rfl ?_
        rintro _ _ _ ⟨rfl, rfl⟩
        refine SL.nil ?_
        refine T.seq ?_
        refine T.seq ?_
        refine T.region ?_
        refine SL.y (op_move rfl) rfl rfl ?_
        first | refine SL.y (op_nil rfl) rfl rfl ?_ | refine SL.y (op_nilFn rfl) rfl rfl ?_
        refine SL.y (op_fieldAddr fa90_0 rfl) rfl rfl ?_
        first | refine SL.y (op_load ty74 rfl (by repeat (first | exact AtO.here | apply AtO.there)) rfl) rfl rfl ?_ | refine SL.y (op_loadX ty74 rfl (by assumption) rfl) rfl rfl ?_
        refine SL.y (op_lenS Tryd.underlying74 rfl) rfl rfl ?_
        first | refine SL.y (op_gtrT rfl rfl (by omega)) rfl rfl ?_ | refine SL.y (op_gtrF rfl rfl (by omega)) rfl rfl ?_ | refine SL.y (op_gtr rfl rfl) rfl rfl ?_
        refine SL.nil ?_
        refine T.condF rfl ?_
        refine T.skip ?_
        refine T.seq ?_
        refine T.seq ?_
        refine T.region ?_
        refine SL.y (op_fieldAddr fa76_0 rfl) rfl rfl ?_
        first | refine SL.y (op_load ty3 rfl (by repeat (first | exact AtO.here | apply AtO.there)) rfl) rfl rfl ?_ | refine SL.y (op_loadX ty3 rfl (by assumption) rfl) rfl rfl ?_
        -- to 52: op
        by_cases b1 : xu < 1
        · rw [if_pos (hbad.2 (.inl b1))] at hrE
          first | refine SL.y (op_lssT rfl rfl (by omega)) rfl rfl ?_ | refine SL.y (op_lssF rfl rfl (by omega)) rfl rfl ?_ | refine SL.y (op_lss rfl rfl) rfl rfl ?_
          refine SL.y (op_move rfl) rfl rfl ?_
          first | refine SL.skip rfl rfl ?_ | refine SL.y (op_fieldAddr fa76_1 rfl) rfl rfl ?_
          first | refine SL.skip rfl rfl ?_ | refine SL.y (op_load ty3 rfl (by repeat (first | exact AtO.here | apply AtO.there)) rfl) rfl rfl ?_ | refine SL.y (op_loadX ty3 rfl (by assumption) rfl) rfl rfl ?_
          first | refine SL.skip rfl rfl ?_ | refine SL.y (op_lssT rfl rfl (by omega)) rfl rfl ?_ | refine SL.y (op_lssF rfl rfl (by omega)) rfl rfl ?_ | refine SL.y (op_lss rfl rfl) rfl rfl ?_
          first | refine SL.y (op_pickT rfl rfl) rfl rfl ?_ | refine SL.y (op_pickF rfl rfl) rfl rfl ?_ | refine SL.y (op_pickB rfl rfl rfl) rfl rfl ?_
          refine SL.y (op_move rfl) rfl rfl ?_
          first | refine SL.skip rfl rfl ?_ | refine SL.y (op_fieldAddr fa76_0 rfl) rfl rfl ?_
          first | refine SL.skip rfl rfl ?_ | refine SL.y (op_load ty3 rfl (by repeat (first | exact AtO.here | apply AtO.there)) rfl) rfl rfl ?_ | refine SL.y (op_loadX ty3 rfl (by assumption) rfl) rfl rfl ?_
          first | refine SL.skip rfl rfl ?_ | refine SL.y (op_fieldAddr fa76_0 rfl) rfl rfl ?_
          first | refine SL.skip rfl rfl ?_ | refine SL.y (op_load ty3 rfl (by repeat (first | exact AtO.here | apply AtO.there)) rfl) rfl rfl ?_ | refine SL.y (op_loadX ty3 rfl (by assumption) rfl) rfl rfl ?_
          first | refine SL.skip rfl rfl ?_ | refine SL.y (op_lssT rfl rfl (by omega)) rfl rfl ?_ | refine SL.y (op_lssF rfl rfl (by omega)) rfl rfl ?_ | refine SL.y (op_lss rfl rfl) rfl rfl ?_
          first | refine SL.y (op_pickT rfl rfl) rfl rfl ?_ | refine SL.y (op_pickF rfl rfl) rfl rfl ?_ | refine SL.y (op_pickB rfl rfl rfl) rfl rfl ?_
          refine SL.y (op_move rfl) rfl rfl ?_
          first | refine SL.skip rfl rfl ?_ | refine SL.y (op_fieldAddr fa76_0 rfl) rfl rfl ?_
          first | refine SL.skip rfl rfl ?_ | refine SL.y (op_load ty3 rfl (by repeat (first | exact AtO.here | apply AtO.there)) rfl) rfl rfl ?_ | refine SL.y (op_loadX ty3 rfl (by assumption) rfl) rfl rfl ?_
          first | refine SL.skip rfl rfl ?_ | refine SL.y (op_fieldAddr fa76_0 rfl) rfl rfl ?_
          first | refine SL.skip rfl rfl ?_ | refine SL.y (op_load ty3 rfl (by repeat (first | exact AtO.here | apply AtO.there)) rfl) rfl rfl ?_ | refine SL.y (op_loadX ty3 rfl (by assumption) rfl) rfl rfl ?_
          first | refine SL.skip rfl rfl ?_ | refine SL.y (op_eqlT rfl rfl (by omega)) rfl rfl ?_ | refine SL.y (op_eqlF rfl rfl (by omega)) rfl rfl ?_ | refine SL.y (op_eql rfl rfl) rfl rfl ?_
          first | refine SL.skip rfl rfl ?_ | refine SL.y (op_move rfl) rfl rfl ?_
          first | refine SL.skip rfl rfl ?_ | refine SL.y (op_fieldAddr fa76_1 rfl) rfl rfl ?_
          first | refine SL.skip rfl rfl ?_ | refine SL.y (op_load ty3 rfl (by repeat (first | exact AtO.here | apply AtO.there)) rfl) rfl rfl ?_ | refine SL.y (op_loadX ty3 rfl (by assumption) rfl) rfl rfl ?_
          first | refine SL.skip rfl rfl ?_ | refine SL.y (op_fieldAddr fa76_1 rfl) rfl rfl ?_
          first | refine SL.skip rfl rfl ?_ | refine SL.y (op_load ty3 rfl (by repeat (first | exact AtO.here | apply AtO.there)) rfl) rfl rfl ?_ | refine SL.y (op_loadX ty3 rfl (by assumption) rfl) rfl rfl ?_
          first | refine SL.skip rfl rfl ?_ | refine SL.y (op_leqT rfl rfl (by omega)) rfl rfl ?_ | refine SL.y (op_leqF rfl rfl (by omega)) rfl rfl ?_ | refine SL.y (op_leq rfl rfl) rfl rfl ?_
          first | refine SL.skip rfl rfl ?_ | refine SL.y (op_pickT rfl rfl) rfl rfl ?_ | refine SL.y (op_pickF rfl rfl) rfl rfl ?_ | refine SL.y (op_pickB rfl rfl rfl) rfl rfl ?_
          first | refine SL.y (op_pickT rfl rfl) rfl rfl ?_ | refine SL.y (op_pickF rfl rfl) rfl rfl ?_ | refine SL.y (op_pickB rfl rfl rfl) rfl rfl ?_
          refine SL.nil ?_
          refine T.condT rfl ?_
          refine T.region ?_
          refine SL.y (op_move rfl) rfl rfl ?_
          -- op
          refine SL.perm (own' := [RdO br sv8 e8] ++ (⟨B8, [.int .i64 0, .int .i64 0, .int .i64 0], 76, 3⟩ :: ⟨B7, [.int .i64 (xu : Int), .int .i64 (xr : Int), .int .i64 (xt : Int)], 76, 3⟩ :: ⟨bk, [.slice As ([] : List En).length cs], 90, 1⟩ :: G)) perm_b ?_
          refine SL.x (op_callM en71 (vs := [_, _]) rfl (rfail_spec 6) rfl) rfl rfl ?_
          rintro _ _ X9 ⟨_, rfl, hX9, rfl⟩
          refine SL.perm (own' := ⟨B8, [.int .i64 0, .int .i64 0, .int .i64 0], 76, 3⟩ :: ⟨B7, [.int .i64 (xu : Int), .int .i64 (xr : Int), .int .i64 (xt : Int)], 76, 3⟩ :: RdO br sv8 (if e8 = 0 then 6 else e8) :: ⟨bk, [.slice As ([] : List En).length cs], 90, 1⟩ :: G) perm_c ?_
          refine T.dropAt B8 (by repeat (first | exact AtO.here | apply AtO.there)) ?_
          refine SL.nil ?_
          refine T.drawG (own0 := [_, _, _]) (by kernel_rfl) 8 [.t 0, .t 1, .t 2, .t 3, .t 4, .t 5, .r 6, .r 7] (by kernel_rfl) ?_
          refine SD.take rfl panicBody (op_move rfl) rfl rfl ?_
          refine SD.take rfl panicBody (op_move rfl) rfl rfl ?_
          first | refine SD.take rfl panicBody (op_nil rfl) rfl rfl ?_ | refine SD.take rfl panicBody (op_nilFn rfl) rfl rfl ?_
          refine SD.take rfl panicBody (op_fieldAddr fa90_0 rfl) rfl rfl ?_
          first | refine SD.take rfl panicBody (op_load ty74 rfl (by repeat (first | exact AtO.here | apply AtO.there)) rfl) rfl rfl ?_ | refine SD.take rfl panicBody (op_loadX ty74 rfl (by assumption) rfl) rfl rfl ?_
          first | refine SD.take rfl panicBody (op_load ty76 rfl (by repeat (first | exact AtO.here | apply AtO.there)) rfl) rfl rfl ?_ | refine SD.take rfl panicBody (op_loadX ty76 rfl (by assumption) rfl) rfl rfl ?_
          refine SD.run rfl (op_buildSlice Tryd.underlying74 bs76 (qs := [(0, _)]) rfl rfl rfl rfl rfl) rfl rfl ?_
          rintro _ _ _ ⟨B87, rfl, rfl, rfl⟩
          -- op
          refine SD.runK rfl (op_appendG (own0 := [_, _, _]) sl74 rfl hG rfl rfl rfl (by omega) (by omega)) (by rintro _ _ _ ⟨G', rfl, rfl, _⟩; exact ⟨fun p hp => List.mem_append_left _ hp, PMap.le_refl _⟩) rfl rfl ?_
          rintro s' _ _ ⟨G', rfl, rfl, hG'⟩
          refine SD.nil ?_
          show SL _ _ _ _ _ _ _ [_, _, _] _ _ _
          obtain ⟨As', cs', rfl⟩ := hG'.form
          first | refine SL.y (op_nil rfl) rfl rfl ?_ | refine SL.y (op_nilFn rfl) rfl rfl ?_
          refine SL.y (op_fieldAddr fa90_0 rfl) rfl rfl ?_
          refine SL.x (op_store ty74 rfl rfl (by repeat (first | exact AtO.here | apply AtO.there)) rfl rfl rfl) rfl rfl ?_
          rintro _ _ _ ⟨rfl, rfl⟩
          refine SL.nil ?_
          refine T.blk ?_
          refine T.region ?_
          refine SL.y (op_move rfl) rfl rfl ?_
          first | refine SL.y (op_subN (q := 1) rfl rfl (by omega) (by omega)) rfl rfl ?_ | refine SL.y (op_sub rfl rfl (by omega) (by omega)) rfl rfl ?_ | refine SL.y (op_subW rfl rfl) rfl rfl ?_
          refine SL.y (op_assign rfl) rfl rfl ?_
          refine SL.nil ?_
          -- cut
          refine T.drop B7 (by repeat (first | exact AtO.here | apply AtO.there)) ?_
          exact T.backW q (by omega) ⟨[] ++ [((xu : Int), (xr : Int), (xt : Int))], _, ds9, sv8, _, G', hX48.trans' hX9, (by rw [hz5, hrE]), h8.mono hX9, by omega, (by rw [List.length_append]; simp only [List.length_cons, List.length_nil]; omega), (by rw [enC_append, List.length_append]; exact hG'), rfl, rfl⟩ (by repeat (first | exact Sub.nil | refine Sub.cons rfl ?_))
        · by_cases b2 : xr < 1
          · rw [if_pos (hbad.2 (.inr b2))] at hrE
            first | refine SL.y (op_lssT rfl rfl (by omega)) rfl rfl ?_ | refine SL.y (op_lssF rfl rfl (by omega)) rfl rfl ?_ | refine SL.y (op_lss rfl rfl) rfl rfl ?_
            refine SL.y (op_move rfl) rfl rfl ?_
            first | refine SL.skip rfl rfl ?_ | refine SL.y (op_fieldAddr fa76_1 rfl) rfl rfl ?_
            first | refine SL.skip rfl rfl ?_ | refine SL.y (op_load ty3 rfl (by repeat (first | exact AtO.here | apply AtO.there)) rfl) rfl rfl ?_ | refine SL.y (op_loadX ty3 rfl (by assumption) rfl) rfl rfl ?_
            first | refine SL.skip rfl rfl ?_ | refine SL.y (op_lssT rfl rfl (by omega)) rfl rfl ?_ | refine SL.y (op_lssF rfl rfl (by omega)) rfl rfl ?_ | refine SL.y (op_lss rfl rfl) rfl rfl ?_
            first | refine SL.y (op_pickT rfl rfl) rfl rfl ?_ | refine SL.y (op_pickF rfl rfl) rfl rfl ?_ | refine SL.y (op_pickB rfl rfl rfl) rfl rfl ?_
            refine SL.y (op_move rfl) rfl rfl ?_
            first | refine SL.skip rfl rfl ?_ | refine SL.y (op_fieldAddr fa76_0 rfl) rfl rfl ?_
            first | refine SL.skip rfl rfl ?_ | refine SL.y (op_load ty3 rfl (by repeat (first | exact AtO.here | apply AtO.there)) rfl) rfl rfl ?_ | refine SL.y (op_loadX ty3 rfl (by assumption) rfl) rfl rfl ?_
            first | refine SL.skip rfl rfl ?_ | refine SL.y (op_fieldAddr fa76_0 rfl) rfl rfl ?_
            first | refine SL.skip rfl rfl ?_ | refine SL.y (op_load ty3 rfl (by repeat (first | exact AtO.here | apply AtO.there)) rfl) rfl rfl ?_ | refine SL.y (op_loadX ty3 rfl (by assumption) rfl) rfl rfl ?_
            first | refine SL.skip rfl rfl ?_ | refine SL.y (op_lssT rfl rfl (by omega)) rfl rfl ?_ | refine SL.y (op_lssF rfl rfl (by omega)) rfl rfl ?_ | refine SL.y (op_lss rfl rfl) rfl rfl ?_
            first | refine SL.y (op_pickT rfl rfl) rfl rfl ?_ | refine SL.y (op_pickF rfl rfl) rfl rfl ?_ | refine SL.y (op_pickB rfl rfl rfl) rfl rfl ?_
            refine SL.y (op_move rfl) rfl rfl ?_
            first | refine SL.skip rfl rfl ?_ | refine SL.y (op_fieldAddr fa76_0 rfl) rfl rfl ?_
            first | refine SL.skip rfl rfl ?_ | refine SL.y (op_load ty3 rfl (by repeat (first | exact AtO.here | apply AtO.there)) rfl) rfl rfl ?_ | refine SL.y (op_loadX ty3 rfl (by assumption) rfl) rfl rfl ?_
            first | refine SL.skip rfl rfl ?_ | refine SL.y (op_fieldAddr fa76_0 rfl) rfl rfl ?_
            first | refine SL.skip rfl rfl ?_ | refine SL.y (op_load ty3 rfl (by repeat (first | exact AtO.here | apply AtO.there)) rfl) rfl rfl ?_ | refine SL.y (op_loadX ty3 rfl (by assumption) rfl) rfl rfl ?_
            first | refine SL.skip rfl rfl ?_ | refine SL.y (op_eqlT rfl rfl (by omega)) rfl rfl ?_ | refine SL.y (op_eqlF rfl rfl (by omega)) rfl rfl ?_ | refine SL.y (op_eql rfl rfl) rfl rfl ?_
            first | refine SL.skip rfl rfl ?_ | refine SL.y (op_move rfl) rfl rfl ?_
            first | refine SL.skip rfl rfl ?_ | refine SL.y (op_fieldAddr fa76_1 rfl) rfl rfl ?_
            first | refine SL.skip rfl rfl ?_ | refine SL.y (op_load ty3 rfl (by repeat (first | exact AtO.here | apply AtO.there)) rfl) rfl rfl ?_ | refine SL.y (op_loadX ty3 rfl (by assumption) rfl) rfl rfl ?_
            first | refine SL.skip rfl rfl ?_ | refine SL.y (op_fieldAddr fa76_1 rfl) rfl rfl ?_
            first | refine SL.skip rfl rfl ?_ | refine SL.y (op_load ty3 rfl (by repeat (first | exact AtO.here | apply AtO.there)) rfl) rfl rfl ?_ | refine SL.y (op_loadX ty3 rfl (by assumption) rfl) rfl rfl ?_
            first | refine SL.skip rfl rfl ?_ | refine SL.y (op_leqT rfl rfl (by omega)) rfl rfl ?_ | refine SL.y (op_leqF rfl rfl (by omega)) rfl rfl ?_ | refine SL.y (op_leq rfl rfl) rfl rfl ?_
            first | refine SL.skip rfl rfl ?_ | refine SL.y (op_pickT rfl rfl) rfl rfl ?_ | refine SL.y (op_pickF rfl rfl) rfl rfl ?_ | refine SL.y (op_pickB rfl rfl rfl) rfl rfl ?_
            first | refine SL.y (op_pickT rfl rfl) rfl rfl ?_ | refine SL.y (op_pickF rfl rfl) rfl rfl ?_ | refine SL.y (op_pickB rfl rfl rfl) rfl rfl ?_
            refine SL.nil ?_
            refine T.condT rfl ?_
            refine T.region ?_
            refine SL.y (op_move rfl) rfl rfl ?_
            -- op
            refine SL.perm (own' := [RdO br sv8 e8] ++ (⟨B8, [.int .i64 0, .int .i64 0, .int .i64 0], 76, 3⟩ :: ⟨B7, [.int .i64 (xu : Int), .int .i64 (xr : Int), .int .i64 (xt : Int)], 76, 3⟩ :: ⟨bk, [.slice As ([] : List En).length cs], 90, 1⟩ :: G)) perm_b ?_
            refine SL.x (op_callM en71 (vs := [_, _]) rfl (rfail_spec 6) rfl) rfl rfl ?_
            rintro _ _ X9 ⟨_, rfl, hX9, rfl⟩
            refine SL.perm (own' := ⟨B8, [.int .i64 0, .int .i64 0, .int .i64 0], 76, 3⟩ :: ⟨B7, [.int .i64 (xu : Int), .int .i64 (xr : Int), .int .i64 (xt : Int)], 76, 3⟩ :: RdO br sv8 (if e8 = 0 then 6 else e8) :: ⟨bk, [.slice As ([] : List En).length cs], 90, 1⟩ :: G) perm_c ?_
            refine T.dropAt B8 (by repeat (first | exact AtO.here | apply AtO.there)) ?_
            refine SL.nil ?_
            refine T.drawG (own0 := [_, _, _]) (by kernel_rfl) 8 [.t 0, .t 1, .t 2, .t 3, .t 4, .t 5, .r 6, .r 7] (by kernel_rfl) ?_
            refine SD.take rfl panicBody (op_move rfl) rfl rfl ?_
            refine SD.take rfl panicBody (op_move rfl) rfl rfl ?_
            first | refine SD.take rfl panicBody (op_nil rfl) rfl rfl ?_ | refine SD.take rfl panicBody (op_nilFn rfl) rfl rfl ?_
            refine SD.take rfl panicBody (op_fieldAddr fa90_0 rfl) rfl rfl ?_
            first | refine SD.take rfl panicBody (op_load ty74 rfl (by repeat (first | exact AtO.here | apply AtO.there)) rfl) rfl rfl ?_ | refine SD.take rfl panicBody (op_loadX ty74 rfl (by assumption) rfl) rfl rfl ?_
            first | refine SD.take rfl panicBody (op_load ty76 rfl (by repeat (first | exact AtO.here | apply AtO.there)) rfl) rfl rfl ?_ | refine SD.take rfl panicBody (op_loadX ty76 rfl (by assumption) rfl) rfl rfl ?_
            refine SD.run rfl (op_buildSlice Tryd.underlying74 bs76 (qs := [(0, _)]) rfl rfl rfl rfl rfl) rfl rfl ?_
            rintro _ _ _ ⟨B87, rfl, rfl, rfl⟩
            -- op
            refine SD.runK rfl (op_appendG (own0 := [_, _, _]) sl74 rfl hG rfl rfl rfl (by omega) (by omega)) (by rintro _ _ _ ⟨G', rfl, rfl, _⟩; exact ⟨fun p hp => List.mem_append_left _ hp, PMap.le_refl _⟩) rfl rfl ?_
            rintro s' _ _ ⟨G', rfl, rfl, hG'⟩
            refine SD.nil ?_
            show SL _ _ _ _ _ _ _ [_, _, _] _ _ _
            obtain ⟨As', cs', rfl⟩ := hG'.form
            first | refine SL.y (op_nil rfl) rfl rfl ?_ | refine SL.y (op_nilFn rfl) rfl rfl ?_
            refine SL.y (op_fieldAddr fa90_0 rfl) rfl rfl ?_
            refine SL.x (op_store ty74 rfl rfl (by repeat (first | exact AtO.here | apply AtO.there)) rfl rfl rfl) rfl rfl ?_
            rintro _ _ _ ⟨rfl, rfl⟩
            refine SL.nil ?_
            refine T.blk ?_
            refine T.region ?_
            refine SL.y (op_move rfl) rfl rfl ?_
            first | refine SL.y (op_subN (q := 1) rfl rfl (by omega) (by omega)) rfl rfl ?_ | refine SL.y (op_sub rfl rfl (by omega) (by omega)) rfl rfl ?_ | refine SL.y (op_subW rfl rfl) rfl rfl ?_
            refine SL.y (op_assign rfl) rfl rfl ?_
            refine SL.nil ?_
            -- cut
            refine T.drop B7 (by repeat (first | exact AtO.here | apply AtO.there)) ?_
            exact T.backW q (by omega) ⟨[] ++ [((xu : Int), (xr : Int), (xt : Int))], _, ds9, sv8, _, G', hX48.trans' hX9, (by rw [hz5, hrE]), h8.mono hX9, by omega, (by rw [List.length_append]; simp only [List.length_cons, List.length_nil]; omega), (by rw [enC_append, List.length_append]; exact hG'), rfl, rfl⟩ (by repeat (first | exact Sub.nil | refine Sub.cons rfl ?_))
          · rw [if_neg (fun h => by have := hbad.1 h; omega)] at hrE
            first | refine SL.y (op_lssT rfl rfl (by omega)) rfl rfl ?_ | refine SL.y (op_lssF rfl rfl (by omega)) rfl rfl ?_ | refine SL.y (op_lss rfl rfl) rfl rfl ?_
            refine SL.y (op_move rfl) rfl rfl ?_
            first | refine SL.skip rfl rfl ?_ | refine SL.y (op_fieldAddr fa76_1 rfl) rfl rfl ?_
            first | refine SL.skip rfl rfl ?_ | refine SL.y (op_load ty3 rfl (by repeat (first | exact AtO.here | apply AtO.there)) rfl) rfl rfl ?_ | refine SL.y (op_loadX ty3 rfl (by assumption) rfl) rfl rfl ?_
            first | refine SL.skip rfl rfl ?_ | refine SL.y (op_lssT rfl rfl (by omega)) rfl rfl ?_ | refine SL.y (op_lssF rfl rfl (by omega)) rfl rfl ?_ | refine SL.y (op_lss rfl rfl) rfl rfl ?_
            first | refine SL.y (op_pickT rfl rfl) rfl rfl ?_ | refine SL.y (op_pickF rfl rfl) rfl rfl ?_ | refine SL.y (op_pickB rfl rfl rfl) rfl rfl ?_
            refine SL.y (op_move rfl) rfl rfl ?_
            first | refine SL.skip rfl rfl ?_ | refine SL.y (op_fieldAddr fa76_0 rfl) rfl rfl ?_
            first | refine SL.skip rfl rfl ?_ | refine SL.y (op_load ty3 rfl (by repeat (first | exact AtO.here | apply AtO.there)) rfl) rfl rfl ?_ | refine SL.y (op_loadX ty3 rfl (by assumption) rfl) rfl rfl ?_
            first | refine SL.skip rfl rfl ?_ | refine SL.y (op_fieldAddr fa76_0 rfl) rfl rfl ?_
            first | refine SL.skip rfl rfl ?_ | refine SL.y (op_load ty3 rfl (by repeat (first | exact AtO.here | apply AtO.there)) rfl) rfl rfl ?_ | refine SL.y (op_loadX ty3 rfl (by assumption) rfl) rfl rfl ?_
            first | refine SL.skip rfl rfl ?_ | refine SL.y (op_lssT rfl rfl (by omega)) rfl rfl ?_ | refine SL.y (op_lssF rfl rfl (by omega)) rfl rfl ?_ | refine SL.y (op_lss rfl rfl) rfl rfl ?_
            first | refine SL.y (op_pickT rfl rfl) rfl rfl ?_ | refine SL.y (op_pickF rfl rfl) rfl rfl ?_ | refine SL.y (op_pickB rfl rfl rfl) rfl rfl ?_
            refine SL.y (op_move rfl) rfl rfl ?_
            first | refine SL.skip rfl rfl ?_ | refine SL.y (op_fieldAddr fa76_0 rfl) rfl rfl ?_
            first | refine SL.skip rfl rfl ?_ | refine SL.y (op_load ty3 rfl (by repeat (first | exact AtO.here | apply AtO.there)) rfl) rfl rfl ?_ | refine SL.y (op_loadX ty3 rfl (by assumption) rfl) rfl rfl ?_
            first | refine SL.skip rfl rfl ?_ | refine SL.y (op_fieldAddr fa76_0 rfl) rfl rfl ?_
            first | refine SL.skip rfl rfl ?_ | refine SL.y (op_load ty3 rfl (by repeat (first | exact AtO.here | apply AtO.there)) rfl) rfl rfl ?_ | refine SL.y (op_loadX ty3 rfl (by assumption) rfl) rfl rfl ?_
            first | refine SL.skip rfl rfl ?_ | refine SL.y (op_eqlT rfl rfl (by omega)) rfl rfl ?_ | refine SL.y (op_eqlF rfl rfl (by omega)) rfl rfl ?_ | refine SL.y (op_eql rfl rfl) rfl rfl ?_
            first | refine SL.skip rfl rfl ?_ | refine SL.y (op_move rfl) rfl rfl ?_
            first | refine SL.skip rfl rfl ?_ | refine SL.y (op_fieldAddr fa76_1 rfl) rfl rfl ?_
            first | refine SL.skip rfl rfl ?_ | refine SL.y (op_load ty3 rfl (by repeat (first | exact AtO.here | apply AtO.there)) rfl) rfl rfl ?_ | refine SL.y (op_loadX ty3 rfl (by assumption) rfl) rfl rfl ?_
            first | refine SL.skip rfl rfl ?_ | refine SL.y (op_fieldAddr fa76_1 rfl) rfl rfl ?_
            first | refine SL.skip rfl rfl ?_ | refine SL.y (op_load ty3 rfl (by repeat (first | exact AtO.here | apply AtO.there)) rfl) rfl rfl ?_ | refine SL.y (op_loadX ty3 rfl (by assumption) rfl) rfl rfl ?_
            first | refine SL.skip rfl rfl ?_ | refine SL.y (op_leqT rfl rfl (by omega)) rfl rfl ?_ | refine SL.y (op_leqF rfl rfl (by omega)) rfl rfl ?_ | refine SL.y (op_leq rfl rfl) rfl rfl ?_
            first | refine SL.skip rfl rfl ?_ | refine SL.y (op_pickT rfl rfl) rfl rfl ?_ | refine SL.y (op_pickF rfl rfl) rfl rfl ?_ | refine SL.y (op_pickB rfl rfl rfl) rfl rfl ?_
            first | refine SL.y (op_pickT rfl rfl) rfl rfl ?_ | refine SL.y (op_pickF rfl rfl) rfl rfl ?_ | refine SL.y (op_pickB rfl rfl rfl) rfl rfl ?_
            refine SL.nil ?_
            -- cond
            refine T.drop B8 (by repeat (first | exact AtO.here | apply AtO.there)) ?_
            refine T.condF rfl ?_
            refine T.skip ?_
            refine T.drawG (own0 := [_, _, _]) (by kernel_rfl) 8 [.t 0, .t 1, .t 2, .t 3, .t 4, .t 5, .r 6, .r 7] (by kernel_rfl) ?_
            refine SD.take rfl panicBody (op_move rfl) rfl rfl ?_
            refine SD.take rfl panicBody (op_move rfl) rfl rfl ?_
            first | refine SD.take rfl panicBody (op_nil rfl) rfl rfl ?_ | refine SD.take rfl panicBody (op_nilFn rfl) rfl rfl ?_
            refine SD.take rfl panicBody (op_fieldAddr fa90_0 rfl) rfl rfl ?_
            first | refine SD.take rfl panicBody (op_load ty74 rfl (by repeat (first | exact AtO.here | apply AtO.there)) rfl) rfl rfl ?_ | refine SD.take rfl panicBody (op_loadX ty74 rfl (by assumption) rfl) rfl rfl ?_
            first | refine SD.take rfl panicBody (op_load ty76 rfl (by repeat (first | exact AtO.here | apply AtO.there)) rfl) rfl rfl ?_ | refine SD.take rfl panicBody (op_loadX ty76 rfl (by assumption) rfl) rfl rfl ?_
            refine SD.run rfl (op_buildSlice Tryd.underlying74 bs76 (qs := [(0, _)]) rfl rfl rfl rfl rfl) rfl rfl ?_
            rintro _ _ _ ⟨B87, rfl, rfl, rfl⟩
            -- op
            refine SD.runK rfl (op_appendG (own0 := [_, _, _]) sl74 rfl hG rfl rfl rfl (by omega) (by omega)) (by rintro _ _ _ ⟨G', rfl, rfl, _⟩; exact ⟨fun p hp => List.mem_append_left _ hp, PMap.le_refl _⟩) rfl rfl ?_
            rintro s' _ _ ⟨G', rfl, rfl, hG'⟩
            refine SD.nil ?_
            show SL _ _ _ _ _ _ _ [_, _, _] _ _ _
            obtain ⟨As', cs', rfl⟩ := hG'.form
            first | refine SL.y (op_nil rfl) rfl rfl ?_ | refine SL.y (op_nilFn rfl) rfl rfl ?_
            refine SL.y (op_fieldAddr fa90_0 rfl) rfl rfl ?_
            refine SL.x (op_store ty74 rfl rfl (by repeat (first | exact AtO.here | apply AtO.there)) rfl rfl rfl) rfl rfl ?_
            rintro _ _ _ ⟨rfl, rfl⟩
            refine SL.nil ?_
            refine T.blk ?_
            refine T.region ?_
            refine SL.y (op_move rfl) rfl rfl ?_
            first | refine SL.y (op_subN (q := 1) rfl rfl (by omega) (by omega)) rfl rfl ?_ | refine SL.y (op_sub rfl rfl (by omega) (by omega)) rfl rfl ?_ | refine SL.y (op_subW rfl rfl) rfl rfl ?_
            refine SL.y (op_assign rfl) rfl rfl ?_
            refine SL.nil ?_
            -- cut
            refine T.drop B7 (by repeat (first | exact AtO.here | apply AtO.there)) ?_
            exact T.backW q (by omega) ⟨[] ++ [((xu : Int), (xr : Int), (xt : Int))], _, ds9, sv8, _, G', hX48, (by rw [hz5, hrE]), h8, by omega, (by rw [List.length_append]; simp only [List.length_cons, List.length_nil]; omega), (by rw [enC_append, List.length_append]; exact hG'), rfl, rfl⟩ (by repeat (first | exact Sub.nil | refine Sub.cons rfl ?_))
      · obtain ⟨y, hy⟩ : ∃ y, y = l.getLastD (0, 0, 0) := ⟨_, rfl⟩
        have hlast := last_at hl0
        rw [← hy] at hlast
        obtain ⟨g1, g2, g3⟩ := enC_at hlast
        have hbad : badE l ((xu : Int), (xr : Int), (xt : Int)) ↔ (xu < 1 ∨ xr < 1 ∨ (xu : Int) < y.1 ∨ ((xu : Int) = y.1 ∧ (xr : Int) ≤ y.2.1)) := by
          simp only [badE, ← hy]; omega
        have hG0 := hG
        rcases hG with ⟨g0, _⟩ | ⟨bg, cg, ge, rfl, hgc, hgm, hgl⟩
        · omega
        simp only [Value.slice.injEq, true_and] at ge
        obtain ⟨rfl, rfl⟩ := ge
        refine SL.y (op_fieldAddr fa76_2 rfl) rfl rfl ?_
        refine SL.x (op_store ty3 rfl rfl (by repeat (first | exact AtO.here | apply AtO.there)) rfl rfl rfl) rfl rfl ?_
        rintro _ _ _ ⟨rfl, rfl⟩
        refine SL.nil ?_
        refine T.seq ?_
        refine T.region ?_
        refine SL.y (op_build st76 (qs := []) rfl rfl) rfl rfl ?_
        refine SL.x (op_alloc z76) rfl rfl ?_
        rintro _ _ _ ⟨B8, rfl, rfl, rfl⟩
        refine SL.x (op_store ty76 rfl rfl (by repeat (first | exact AtO.here | apply AtO.there)) rfl rfl rfl) rfl rfl ?_
        rintro _ _ _ ⟨rfl, rfl⟩
        refine SL.nil ?_
        refine T.seq ?_
        refine T.seq ?_
        refine T.region ?_
        refine SL.y (op_move rfl) rfl rfl ?_
        first | refine SL.y (op_nil rfl) rfl rfl ?_ | refine SL.y (op_nilFn rfl) rfl rfl ?_
        refine SL.y (op_fieldAddr fa90_0 rfl) rfl rfl ?_
        first | refine SL.y (op_load ty74 rfl (by repeat (first | exact AtO.here | apply AtO.there)) rfl) rfl rfl ?_ | refine SL.y (op_loadX ty74 rfl (by assumption) rfl) rfl rfl ?_
        refine SL.y (op_lenS Tryd.underlying74 rfl) rfl rfl ?_
        first | refine SL.y (op_gtrT rfl rfl (by omega)) rfl rfl ?_ | refine SL.y (op_gtrF rfl rfl (by omega)) rfl rfl ?_ | refine SL.y (op_gtr rfl rfl) rfl rfl ?_
        refine SL.nil ?_
        refine T.condT rfl ?_
        refine T.draw (by kernel_rfl) 12 [.t 0, .t 1, .t 2, .t 3, .t 4, .t 5, .t 6, .t 7, .t 8, .t 9, .t 10, .t 11] (by kernel_rfl) ?_
        refine SD.take rfl panicBody (op_move rfl) rfl rfl ?_
        first | refine SD.take rfl panicBody (op_nil rfl) rfl rfl ?_ | refine SD.take rfl panicBody (op_nilFn rfl) rfl rfl ?_
        refine SD.take rfl panicBody (op_fieldAddr fa90_0 rfl) rfl rfl ?_
        first | refine SD.take rfl panicBody (op_load ty74 rfl (by repeat (first | exact AtO.here | apply AtO.there)) rfl) rfl rfl ?_ | refine SD.take rfl panicBody (op_loadX ty74 rfl (by assumption) rfl) rfl rfl ?_
        refine SD.take rfl panicBody (op_move rfl) rfl rfl ?_
        first | refine SD.take rfl panicBody (op_nil rfl) rfl rfl ?_ | refine SD.take rfl panicBody (op_nilFn rfl) rfl rfl ?_
        refine SD.take rfl panicBody (op_fieldAddr fa90_0 rfl) rfl rfl ?_
        first | refine SD.take rfl panicBody (op_load ty74 rfl (by repeat (first | exact AtO.here | apply AtO.there)) rfl) rfl rfl ?_ | refine SD.take rfl panicBody (op_loadX ty74 rfl (by assumption) rfl) rfl rfl ?_
        refine SD.take rfl panicBody (op_lenS Tryd.underlying74 rfl) rfl rfl ?_
        first | refine SD.take rfl panicBody (op_subN (q := 1) rfl rfl (by omega) (by omega)) rfl rfl ?_ | refine SD.take rfl panicBody (op_sub rfl rfl (by omega) (by omega)) rfl rfl ?_ | refine SD.take rfl panicBody (op_subW rfl rfl) rfl rfl ?_
        first | refine SD.take rfl panicBody (op_indexN Tryd.underlying74 ty76 rfl rfl (by omega)) rfl rfl ?_ | refine SD.take rfl panicBody (op_index Tryd.underlying74 ty76 rfl rfl (by omega) (by omega)) rfl rfl ?_
        -- to 49: op
        refine SD.take rfl panicBody (op_load ty76 rfl (by repeat (first | exact AtO.here | apply AtO.there)) (cread3 g1 g2 g3 (by omega))) rfl rfl ?_
        refine SD.nil ?_
        show SL _ _ _ _ _ _ _ [_] _ _ _
        refine SL.x (op_store ty76 rfl rfl (by repeat (first | exact AtO.here | apply AtO.there)) rfl rfl rfl) rfl rfl ?_
        rintro _ _ _ ⟨rfl, rfl⟩
        refine SL.nil ?_
        refine T.seq ?_
        refine T.seq ?_
        refine T.region ?_
        refine SL.y (op_fieldAddr fa76_0 rfl) rfl rfl ?_
        first | refine SL.y (op_load ty3 rfl (by repeat (first | exact AtO.here | apply AtO.there)) rfl) rfl rfl ?_ | refine SL.y (op_loadX ty3 rfl (by assumption) rfl) rfl rfl ?_
        -- to 52: op
        by_cases b1 : xu < 1
        · rw [if_pos (hbad.2 (.inl b1))] at hrE
          first | refine SL.y (op_lssT rfl rfl (by omega)) rfl rfl ?_ | refine SL.y (op_lssF rfl rfl (by omega)) rfl rfl ?_ | refine SL.y (op_lss rfl rfl) rfl rfl ?_
          refine SL.y (op_move rfl) rfl rfl ?_
          first | refine SL.skip rfl rfl ?_ | refine SL.y (op_fieldAddr fa76_1 rfl) rfl rfl ?_
          first | refine SL.skip rfl rfl ?_ | refine SL.y (op_load ty3 rfl (by repeat (first | exact AtO.here | apply AtO.there)) rfl) rfl rfl ?_ | refine SL.y (op_loadX ty3 rfl (by assumption) rfl) rfl rfl ?_
          first | refine SL.skip rfl rfl ?_ | refine SL.y (op_lssT rfl rfl (by omega)) rfl rfl ?_ | refine SL.y (op_lssF rfl rfl (by omega)) rfl rfl ?_ | refine SL.y (op_lss rfl rfl) rfl rfl ?_
          first | refine SL.y (op_pickT rfl rfl) rfl rfl ?_ | refine SL.y (op_pickF rfl rfl) rfl rfl ?_ | refine SL.y (op_pickB rfl rfl rfl) rfl rfl ?_
          refine SL.y (op_move rfl) rfl rfl ?_
          first | refine SL.skip rfl rfl ?_ | refine SL.y (op_fieldAddr fa76_0 rfl) rfl rfl ?_
          first | refine SL.skip rfl rfl ?_ | refine SL.y (op_load ty3 rfl (by repeat (first | exact AtO.here | apply AtO.there)) rfl) rfl rfl ?_ | refine SL.y (op_loadX ty3 rfl (by assumption) rfl) rfl rfl ?_
          first | refine SL.skip rfl rfl ?_ | refine SL.y (op_fieldAddr fa76_0 rfl) rfl rfl ?_
          first | refine SL.skip rfl rfl ?_ | refine SL.y (op_load ty3 rfl (by repeat (first | exact AtO.here | apply AtO.there)) rfl) rfl rfl ?_ | refine SL.y (op_loadX ty3 rfl (by assumption) rfl) rfl rfl ?_
          first | refine SL.skip rfl rfl ?_ | refine SL.y (op_lssT rfl rfl (by omega)) rfl rfl ?_ | refine SL.y (op_lssF rfl rfl (by omega)) rfl rfl ?_ | refine SL.y (op_lss rfl rfl) rfl rfl ?_
          first | refine SL.y (op_pickT rfl rfl) rfl rfl ?_ | refine SL.y (op_pickF rfl rfl) rfl rfl ?_ | refine SL.y (op_pickB rfl rfl rfl) rfl rfl ?_
          refine SL.y (op_move rfl) rfl rfl ?_
          first | refine SL.skip rfl rfl ?_ | refine SL.y (op_fieldAddr fa76_0 rfl) rfl rfl ?_
          first | refine SL.skip rfl rfl ?_ | refine SL.y (op_load ty3 rfl (by repeat (first | exact AtO.here | apply AtO.there)) rfl) rfl rfl ?_ | refine SL.y (op_loadX ty3 rfl (by assumption) rfl) rfl rfl ?_
          first | refine SL.skip rfl rfl ?_ | refine SL.y (op_fieldAddr fa76_0 rfl) rfl rfl ?_
          first | refine SL.skip rfl rfl ?_ | refine SL.y (op_load ty3 rfl (by repeat (first | exact AtO.here | apply AtO.there)) rfl) rfl rfl ?_ | refine SL.y (op_loadX ty3 rfl (by assumption) rfl) rfl rfl ?_
          first | refine SL.skip rfl rfl ?_ | refine SL.y (op_eqlT rfl rfl (by omega)) rfl rfl ?_ | refine SL.y (op_eqlF rfl rfl (by omega)) rfl rfl ?_ | refine SL.y (op_eql rfl rfl) rfl rfl ?_
          first | refine SL.skip rfl rfl ?_ | refine SL.y (op_move rfl) rfl rfl ?_
          first | refine SL.skip rfl rfl ?_ | refine SL.y (op_fieldAddr fa76_1 rfl) rfl rfl ?_
          first | refine SL.skip rfl rfl ?_ | refine SL.y (op_load ty3 rfl (by repeat (first | exact AtO.here | apply AtO.there)) rfl) rfl rfl ?_ | refine SL.y (op_loadX ty3 rfl (by assumption) rfl) rfl rfl ?_
          first | refine SL.skip rfl rfl ?_ | refine SL.y (op_fieldAddr fa76_1 rfl) rfl rfl ?_
          first | refine SL.skip rfl rfl ?_ | refine SL.y (op_load ty3 rfl (by repeat (first | exact AtO.here | apply AtO.there)) rfl) rfl rfl ?_ | refine SL.y (op_loadX ty3 rfl (by assumption) rfl) rfl rfl ?_
          first | refine SL.skip rfl rfl ?_ | refine SL.y (op_leqT rfl rfl (by omega)) rfl rfl ?_ | refine SL.y (op_leqF rfl rfl (by omega)) rfl rfl ?_ | refine SL.y (op_leq rfl rfl) rfl rfl ?_
          first | refine SL.skip rfl rfl ?_ | refine SL.y (op_pickT rfl rfl) rfl rfl ?_ | refine SL.y (op_pickF rfl rfl) rfl rfl ?_ | refine SL.y (op_pickB rfl rfl rfl) rfl rfl ?_
          first | refine SL.y (op_pickT rfl rfl) rfl rfl ?_ | refine SL.y (op_pickF rfl rfl) rfl rfl ?_ | refine SL.y (op_pickB rfl rfl rfl) rfl rfl ?_
          refine SL.nil ?_
          refine T.condT rfl ?_
          refine T.region ?_
          refine SL.y (op_move rfl) rfl rfl ?_
          -- op
          refine SL.perm (own' := [RdO br sv8 e8] ++ (⟨B8, [.int .i64 y.1, .int .i64 y.2.1, .int .i64 y.2.2], 76, 3⟩ :: ⟨B7, [.int .i64 (xu : Int), .int .i64 (xr : Int), .int .i64 (xt : Int)], 76, 3⟩ :: ⟨bk, [.slice (some ⟨bg, 0, none⟩) l.length cs], 90, 1⟩ :: ([⟨bg, enC l, 76, cs * 3⟩] : Own))) perm_b ?_
          refine SL.x (op_callM en71 (vs := [_, _]) rfl (rfail_spec 6) rfl) rfl rfl ?_
          rintro _ _ X9 ⟨_, rfl, hX9, rfl⟩
          refine SL.perm (own' := ⟨B8, [.int .i64 y.1, .int .i64 y.2.1, .int .i64 y.2.2], 76, 3⟩ :: ⟨B7, [.int .i64 (xu : Int), .int .i64 (xr : Int), .int .i64 (xt : Int)], 76, 3⟩ :: RdO br sv8 (if e8 = 0 then 6 else e8) :: ⟨bk, [.slice (some ⟨bg, 0, none⟩) l.length cs], 90, 1⟩ :: ([⟨bg, enC l, 76, cs * 3⟩] : Own)) perm_c ?_
          refine T.dropAt B8 (by repeat (first | exact AtO.here | apply AtO.there)) ?_
          refine SL.nil ?_
          refine T.drawG (own0 := [_, _, _]) (by kernel_rfl) 8 [.t 0, .t 1, .t 2, .t 3, .t 4, .t 5, .r 6, .r 7] (by kernel_rfl) ?_
          refine SD.take rfl panicBody (op_move rfl) rfl rfl ?_
          refine SD.take rfl panicBody (op_move rfl) rfl rfl ?_
          first | refine SD.take rfl panicBody (op_nil rfl) rfl rfl ?_ | refine SD.take rfl panicBody (op_nilFn rfl) rfl rfl ?_
          refine SD.take rfl panicBody (op_fieldAddr fa90_0 rfl) rfl rfl ?_
          first | refine SD.take rfl panicBody (op_load ty74 rfl (by repeat (first | exact AtO.here | apply AtO.there)) rfl) rfl rfl ?_ | refine SD.take rfl panicBody (op_loadX ty74 rfl (by assumption) rfl) rfl rfl ?_
          first | refine SD.take rfl panicBody (op_load ty76 rfl (by repeat (first | exact AtO.here | apply AtO.there)) rfl) rfl rfl ?_ | refine SD.take rfl panicBody (op_loadX ty76 rfl (by assumption) rfl) rfl rfl ?_
          refine SD.run rfl (op_buildSlice Tryd.underlying74 bs76 (qs := [(0, _)]) rfl rfl rfl rfl rfl) rfl rfl ?_
          rintro _ _ _ ⟨B87, rfl, rfl, rfl⟩
          -- op
          refine SD.runK rfl (op_appendG (own0 := [_, _, _]) sl74 rfl hG0 rfl rfl rfl (by omega) (by omega)) (by rintro _ _ _ ⟨G', rfl, rfl, _⟩; exact ⟨fun p hp => List.mem_append_left _ hp, PMap.le_refl _⟩) rfl rfl ?_
          rintro s' _ _ ⟨G', rfl, rfl, hG'⟩
          refine SD.nil ?_
          show SL _ _ _ _ _ _ _ [_, _, _] _ _ _
          obtain ⟨As', cs', rfl⟩ := hG'.form
          first | refine SL.y (op_nil rfl) rfl rfl ?_ | refine SL.y (op_nilFn rfl) rfl rfl ?_
          refine SL.y (op_fieldAddr fa90_0 rfl) rfl rfl ?_
          refine SL.x (op_store ty74 rfl rfl (by repeat (first | exact AtO.here | apply AtO.there)) rfl rfl rfl) rfl rfl ?_
          rintro _ _ _ ⟨rfl, rfl⟩
          refine SL.nil ?_
          refine T.blk ?_
          refine T.region ?_
          refine SL.y (op_move rfl) rfl rfl ?_
          first | refine SL.y (op_subN (q := 1) rfl rfl (by omega) (by omega)) rfl rfl ?_ | refine SL.y (op_sub rfl rfl (by omega) (by omega)) rfl rfl ?_ | refine SL.y (op_subW rfl rfl) rfl rfl ?_
          refine SL.y (op_assign rfl) rfl rfl ?_
          refine SL.nil ?_
          -- cut
          refine T.drop B7 (by repeat (first | exact AtO.here | apply AtO.there)) ?_
          exact T.backW q (by omega) ⟨l ++ [((xu : Int), (xr : Int), (xt : Int))], _, ds9, sv8, _, G', hX48.trans' hX9, (by rw [hz5, hrE]), h8.mono hX9, by omega, (by rw [List.length_append]; simp only [List.length_cons, List.length_nil]; omega), (by rw [enC_append, List.length_append]; exact hG'), rfl, rfl⟩ (by repeat (first | exact Sub.nil | refine Sub.cons rfl ?_))
        · by_cases b2 : xr < 1
          · rw [if_pos (hbad.2 (.inr (.inl b2)))] at hrE
            first | refine SL.y (op_lssT rfl rfl (by omega)) rfl rfl ?_ | refine SL.y (op_lssF rfl rfl (by omega)) rfl rfl ?_ | refine SL.y (op_lss rfl rfl) rfl rfl ?_
            refine SL.y (op_move rfl) rfl rfl ?_
            first | refine SL.skip rfl rfl ?_ | refine SL.y (op_fieldAddr fa76_1 rfl) rfl rfl ?_
            first | refine SL.skip rfl rfl ?_ | refine SL.y (op_load ty3 rfl (by repeat (first | exact AtO.here | apply AtO.there)) rfl) rfl rfl ?_ | refine SL.y (op_loadX ty3 rfl (by assumption) rfl) rfl rfl ?_
            first | refine SL.skip rfl rfl ?_ | refine SL.y (op_lssT rfl rfl (by omega)) rfl rfl ?_ | refine SL.y (op_lssF rfl rfl (by omega)) rfl rfl ?_ | refine SL.y (op_lss rfl rfl) rfl rfl ?_
            first | refine SL.y (op_pickT rfl rfl) rfl rfl ?_ | refine SL.y (op_pickF rfl rfl) rfl rfl ?_ | refine SL.y (op_pickB rfl rfl rfl) rfl rfl ?_
            refine SL.y (op_move rfl) rfl rfl ?_
            first | refine SL.skip rfl rfl ?_ | refine SL.y (op_fieldAddr fa76_0 rfl) rfl rfl ?_
            first | refine SL.skip rfl rfl ?_ | refine SL.y (op_load ty3 rfl (by repeat (first | exact AtO.here | apply AtO.there)) rfl) rfl rfl ?_ | refine SL.y (op_loadX ty3 rfl (by assumption) rfl) rfl rfl ?_
            first | refine SL.skip rfl rfl ?_ | refine SL.y (op_fieldAddr fa76_0 rfl) rfl rfl ?_
            first | refine SL.skip rfl rfl ?_ | refine SL.y (op_load ty3 rfl (by repeat (first | exact AtO.here | apply AtO.there)) rfl) rfl rfl ?_ | refine SL.y (op_loadX ty3 rfl (by assumption) rfl) rfl rfl ?_
            first | refine SL.skip rfl rfl ?_ | refine SL.y (op_lssT rfl rfl (by omega)) rfl rfl ?_ | refine SL.y (op_lssF rfl rfl (by omega)) rfl rfl ?_ | refine SL.y (op_lss rfl rfl) rfl rfl ?_
            first | refine SL.y (op_pickT rfl rfl) rfl rfl ?_ | refine SL.y (op_pickF rfl rfl) rfl rfl ?_ | refine SL.y (op_pickB rfl rfl rfl) rfl rfl ?_
            refine SL.y (op_move rfl) rfl rfl ?_
            first | refine SL.skip rfl rfl ?_ | refine SL.y (op_fieldAddr fa76_0 rfl) rfl rfl ?_
            first | refine SL.skip rfl rfl ?_ | refine SL.y (op_load ty3 rfl (by repeat (first | exact AtO.here | apply AtO.there)) rfl) rfl rfl ?_ | refine SL.y (op_loadX ty3 rfl (by assumption) rfl) rfl rfl ?_
            first | refine SL.skip rfl rfl ?_ | refine SL.y (op_fieldAddr fa76_0 rfl) rfl rfl ?_
            first | refine SL.skip rfl rfl ?_ | refine SL.y (op_load ty3 rfl (by repeat (first | exact AtO.here | apply AtO.there)) rfl) rfl rfl ?_ | refine SL.y (op_loadX ty3 rfl (by assumption) rfl) rfl rfl ?_
            first | refine SL.skip rfl rfl ?_ | refine SL.y (op_eqlT rfl rfl (by omega)) rfl rfl ?_ | refine SL.y (op_eqlF rfl rfl (by omega)) rfl rfl ?_ | refine SL.y (op_eql rfl rfl) rfl rfl ?_
            first | refine SL.skip rfl rfl ?_ | refine SL.y (op_move rfl) rfl rfl ?_
            first | refine SL.skip rfl rfl ?_ | refine SL.y (op_fieldAddr fa76_1 rfl) rfl rfl ?_
            first | refine SL.skip rfl rfl ?_ | refine SL.y (op_load ty3 rfl (by repeat (first | exact AtO.here | apply AtO.there)) rfl) rfl rfl ?_ | refine SL.y (op_loadX ty3 rfl (by assumption) rfl) rfl rfl ?_
            first | refine SL.skip rfl rfl ?_ | refine SL.y (op_fieldAddr fa76_1 rfl) rfl rfl ?_
            first | refine SL.skip rfl rfl ?_ | refine SL.y (op_load ty3 rfl (by repeat (first | exact AtO.here | apply AtO.there)) rfl) rfl rfl ?_ | refine SL.y (op_loadX ty3 rfl (by assumption) rfl) rfl rfl ?_
            first | refine SL.skip rfl rfl ?_ | refine SL.y (op_leqT rfl rfl (by omega)) rfl rfl ?_ | refine SL.y (op_leqF rfl rfl (by omega)) rfl rfl ?_ | refine SL.y (op_leq rfl rfl) rfl rfl ?_
            first | refine SL.skip rfl rfl ?_ | refine SL.y (op_pickT rfl rfl) rfl rfl ?_ | refine SL.y (op_pickF rfl rfl) rfl rfl ?_ | refine SL.y (op_pickB rfl rfl rfl) rfl rfl ?_
            first | refine SL.y (op_pickT rfl rfl) rfl rfl ?_ | refine SL.y (op_pickF rfl rfl) rfl rfl ?_ | refine SL.y (op_pickB rfl rfl rfl) rfl rfl ?_
            refine SL.nil ?_
            refine T.condT rfl ?_
            refine T.region ?_
            refine SL.y (op_move rfl) rfl rfl ?_
            -- op
            refine SL.perm (own' := [RdO br sv8 e8] ++ (⟨B8, [.int .i64 y.1, .int .i64 y.2.1, .int .i64 y.2.2], 76, 3⟩ :: ⟨B7, [.int .i64 (xu : Int), .int .i64 (xr : Int), .int .i64 (xt : Int)], 76, 3⟩ :: ⟨bk, [.slice (some ⟨bg, 0, none⟩) l.length cs], 90, 1⟩ :: ([⟨bg, enC l, 76, cs * 3⟩] : Own))) perm_b ?_
            refine SL.x (op_callM en71 (vs := [_, _]) rfl (rfail_spec 6) rfl) rfl rfl ?_
            rintro _ _ X9 ⟨_, rfl, hX9, rfl⟩
            refine SL.perm (own' := ⟨B8, [.int .i64 y.1, .int .i64 y.2.1, .int .i64 y.2.2], 76, 3⟩ :: ⟨B7, [.int .i64 (xu : Int), .int .i64 (xr : Int), .int .i64 (xt : Int)], 76, 3⟩ :: RdO br sv8 (if e8 = 0 then 6 else e8) :: ⟨bk, [.slice (some ⟨bg, 0, none⟩) l.length cs], 90, 1⟩ :: ([⟨bg, enC l, 76, cs * 3⟩] : Own)) perm_c ?_
            refine T.dropAt B8 (by repeat (first | exact AtO.here | apply AtO.there)) ?_
            refine SL.nil ?_
            refine T.drawG (own0 := [_, _, _]) (by kernel_rfl) 8 [.t 0, .t 1, .t 2, .t 3, .t 4, .t 5, .r 6, .r 7] (by kernel_rfl) ?_
            refine SD.take rfl panicBody (op_move rfl) rfl rfl ?_
            refine SD.take rfl panicBody (op_move rfl) rfl rfl ?_
            first | refine SD.take rfl panicBody (op_nil rfl) rfl rfl ?_ | refine SD.take rfl panicBody (op_nilFn rfl) rfl rfl ?_
            refine SD.take rfl panicBody (op_fieldAddr fa90_0 rfl) rfl rfl ?_
            first | refine SD.take rfl panicBody (op_load ty74 rfl (by repeat (first | exact AtO.here | apply AtO.there)) rfl) rfl rfl ?_ | refine SD.take rfl panicBody (op_loadX ty74 rfl (by assumption) rfl) rfl rfl ?_
            first | refine SD.take rfl panicBody (op_load ty76 rfl (by repeat (first | exact AtO.here | apply AtO.there)) rfl) rfl rfl ?_ | refine SD.take rfl panicBody (op_loadX ty76 rfl (by assumption) rfl) rfl rfl ?_
            refine SD.run rfl (op_buildSlice Tryd.underlying74 bs76 (qs := [(0, _)]) rfl rfl rfl rfl rfl) rfl rfl ?_
            rintro _ _ _ ⟨B87, rfl, rfl, rfl⟩
            -- op
            refine SD.runK rfl (op_appendG (own0 := [_, _, _]) sl74 rfl hG0 rfl rfl rfl (by omega) (by omega)) (by rintro _ _ _ ⟨G', rfl, rfl, _⟩; exact ⟨fun p hp => List.mem_append_left _ hp, PMap.le_refl _⟩) rfl rfl ?_
            rintro s' _ _ ⟨G', rfl, rfl, hG'⟩
            refine SD.nil ?_
            show SL _ _ _ _ _ _ _ [_, _, _] _ _ _
            obtain ⟨As', cs', rfl⟩ := hG'.form
            first | refine SL.y (op_nil rfl) rfl rfl ?_ | refine SL.y (op_nilFn rfl) rfl rfl ?_
            refine SL.y (op_fieldAddr fa90_0 rfl) rfl rfl ?_
            refine SL.x (op_store ty74 rfl rfl (by repeat (first | exact AtO.here | apply AtO.there)) rfl rfl rfl) rfl rfl ?_
            rintro _ _ _ ⟨rfl, rfl⟩
            refine SL.nil ?_
            refine T.blk ?_
            refine T.region ?_
            refine SL.y (op_move rfl) rfl rfl ?_
            first | refine SL.y (op_subN (q := 1) rfl rfl (by omega) (by omega)) rfl rfl ?_ | refine SL.y (op_sub rfl rfl (by omega) (by omega)) rfl rfl ?_ | refine SL.y (op_subW rfl rfl) rfl rfl ?_
            refine SL.y (op_assign rfl) rfl rfl ?_
            refine SL.nil ?_
            -- cut
            refine T.drop B7 (by repeat (first | exact AtO.here | apply AtO.there)) ?_
            exact T.backW q (by omega) ⟨l ++ [((xu : Int), (xr : Int), (xt : Int))], _, ds9, sv8, _, G', hX48.trans' hX9, (by rw [hz5, hrE]), h8.mono hX9, by omega, (by rw [List.length_append]; simp only [List.length_cons, List.length_nil]; omega), (by rw [enC_append, List.length_append]; exact hG'), rfl, rfl⟩ (by repeat (first | exact Sub.nil | refine Sub.cons rfl ?_))
          · by_cases b3 : (xu : Int) < y.1
            · rw [if_pos (hbad.2 (.inr (.inr (.inl b3))))] at hrE
              first | refine SL.y (op_lssT rfl rfl (by omega)) rfl rfl ?_ | refine SL.y (op_lssF rfl rfl (by omega)) rfl rfl ?_ | refine SL.y (op_lss rfl rfl) rfl rfl ?_
              refine SL.y (op_move rfl) rfl rfl ?_
              first | refine SL.skip rfl rfl ?_ | refine SL.y (op_fieldAddr fa76_1 rfl) rfl rfl ?_
              first | refine SL.skip rfl rfl ?_ | refine SL.y (op_load ty3 rfl (by repeat (first | exact AtO.here | apply AtO.there)) rfl) rfl rfl ?_ | refine SL.y (op_loadX ty3 rfl (by assumption) rfl) rfl rfl ?_
              first | refine SL.skip rfl rfl ?_ | refine SL.y (op_lssT rfl rfl (by omega)) rfl rfl ?_ | refine SL.y (op_lssF rfl rfl (by omega)) rfl rfl ?_ | refine SL.y (op_lss rfl rfl) rfl rfl ?_
              first | refine SL.y (op_pickT rfl rfl) rfl rfl ?_ | refine SL.y (op_pickF rfl rfl) rfl rfl ?_ | refine SL.y (op_pickB rfl rfl rfl) rfl rfl ?_
              refine SL.y (op_move rfl) rfl rfl ?_
              first | refine SL.skip rfl rfl ?_ | refine SL.y (op_fieldAddr fa76_0 rfl) rfl rfl ?_
              first | refine SL.skip rfl rfl ?_ | refine SL.y (op_load ty3 rfl (by repeat (first | exact AtO.here | apply AtO.there)) rfl) rfl rfl ?_ | refine SL.y (op_loadX ty3 rfl (by assumption) rfl) rfl rfl ?_
              first | refine SL.skip rfl rfl ?_ | refine SL.y (op_fieldAddr fa76_0 rfl) rfl rfl ?_
              first | refine SL.skip rfl rfl ?_ | refine SL.y (op_load ty3 rfl (by repeat (first | exact AtO.here | apply AtO.there)) rfl) rfl rfl ?_ | refine SL.y (op_loadX ty3 rfl (by assumption) rfl) rfl rfl ?_
              first | refine SL.skip rfl rfl ?_ | refine SL.y (op_lssT rfl rfl (by omega)) rfl rfl ?_ | refine SL.y (op_lssF rfl rfl (by omega)) rfl rfl ?_ | refine SL.y (op_lss rfl rfl) rfl rfl ?_
              first | refine SL.y (op_pickT rfl rfl) rfl rfl ?_ | refine SL.y (op_pickF rfl rfl) rfl rfl ?_ | refine SL.y (op_pickB rfl rfl rfl) rfl rfl ?_
              refine SL.y (op_move rfl) rfl rfl ?_
              first | refine SL.skip rfl rfl ?_ | refine SL.y (op_fieldAddr fa76_0 rfl) rfl rfl ?_
              first | refine SL.skip rfl rfl ?_ | refine SL.y (op_load ty3 rfl (by repeat (first | exact AtO.here | apply AtO.there)) rfl) rfl rfl ?_ | refine SL.y (op_loadX ty3 rfl (by assumption) rfl) rfl rfl ?_
              first | refine SL.skip rfl rfl ?_ | refine SL.y (op_fieldAddr fa76_0 rfl) rfl rfl ?_
              first | refine SL.skip rfl rfl ?_ | refine SL.y (op_load ty3 rfl (by repeat (first | exact AtO.here | apply AtO.there)) rfl) rfl rfl ?_ | refine SL.y (op_loadX ty3 rfl (by assumption) rfl) rfl rfl ?_
              first | refine SL.skip rfl rfl ?_ | refine SL.y (op_eqlT rfl rfl (by omega)) rfl rfl ?_ | refine SL.y (op_eqlF rfl rfl (by omega)) rfl rfl ?_ | refine SL.y (op_eql rfl rfl) rfl rfl ?_
              first | refine SL.skip rfl rfl ?_ | refine SL.y (op_move rfl) rfl rfl ?_
              first | refine SL.skip rfl rfl ?_ | refine SL.y (op_fieldAddr fa76_1 rfl) rfl rfl ?_
              first | refine SL.skip rfl rfl ?_ | refine SL.y (op_load ty3 rfl (by repeat (first | exact AtO.here | apply AtO.there)) rfl) rfl rfl ?_ | refine SL.y (op_loadX ty3 rfl (by assumption) rfl) rfl rfl ?_
              first | refine SL.skip rfl rfl ?_ | refine SL.y (op_fieldAddr fa76_1 rfl) rfl rfl ?_
              first | refine SL.skip rfl rfl ?_ | refine SL.y (op_load ty3 rfl (by repeat (first | exact AtO.here | apply AtO.there)) rfl) rfl rfl ?_ | refine SL.y (op_loadX ty3 rfl (by assumption) rfl) rfl rfl ?_
              first | refine SL.skip rfl rfl ?_ | refine SL.y (op_leqT rfl rfl (by omega)) rfl rfl ?_ | refine SL.y (op_leqF rfl rfl (by omega)) rfl rfl ?_ | refine SL.y (op_leq rfl rfl) rfl rfl ?_
              first | refine SL.skip rfl rfl ?_ | refine SL.y (op_pickT rfl rfl) rfl rfl ?_ | refine SL.y (op_pickF rfl rfl) rfl rfl ?_ | refine SL.y (op_pickB rfl rfl rfl) rfl rfl ?_
              first | refine SL.y (op_pickT rfl rfl) rfl rfl ?_ | refine SL.y (op_pickF rfl rfl) rfl rfl ?_ | refine SL.y (op_pickB rfl rfl rfl) rfl rfl ?_
              refine SL.nil ?_
              refine T.condT rfl ?_
              refine T.region ?_
              refine SL.y (op_move rfl) rfl rfl ?_
              -- op
              refine SL.perm (own' := [RdO br sv8 e8] ++ (⟨B8, [.int .i64 y.1, .int .i64 y.2.1, .int .i64 y.2.2], 76, 3⟩ :: ⟨B7, [.int .i64 (xu : Int), .int .i64 (xr : Int), .int .i64 (xt : Int)], 76, 3⟩ :: ⟨bk, [.slice (some ⟨bg, 0, none⟩) l.length cs], 90, 1⟩ :: ([⟨bg, enC l, 76, cs * 3⟩] : Own))) perm_b ?_
              refine SL.x (op_callM en71 (vs := [_, _]) rfl (rfail_spec 6) rfl) rfl rfl ?_
              rintro _ _ X9 ⟨_, rfl, hX9, rfl⟩
              refine SL.perm (own' := ⟨B8, [.int .i64 y.1, .int .i64 y.2.1, .int .i64 y.2.2], 76, 3⟩ :: ⟨B7, [.int .i64 (xu : Int), .int .i64 (xr : Int), .int .i64 (xt : Int)], 76, 3⟩ :: RdO br sv8 (if e8 = 0 then 6 else e8) :: ⟨bk, [.slice (some ⟨bg, 0, none⟩) l.length cs], 90, 1⟩ :: ([⟨bg, enC l, 76, cs * 3⟩] : Own)) perm_c ?_
              refine T.dropAt B8 (by repeat (first | exact AtO.here | apply AtO.there)) ?_
              refine SL.nil ?_
              refine T.drawG (own0 := [_, _, _]) (by kernel_rfl) 8 [.t 0, .t 1, .t 2, .t 3, .t 4, .t 5, .r 6, .r 7] (by kernel_rfl) ?_
              refine SD.take rfl panicBody (op_move rfl) rfl rfl ?_
              refine SD.take rfl panicBody (op_move rfl) rfl rfl ?_
              first | refine SD.take rfl panicBody (op_nil rfl) rfl rfl ?_ | refine SD.take rfl panicBody (op_nilFn rfl) rfl rfl ?_
              refine SD.take rfl panicBody (op_fieldAddr fa90_0 rfl) rfl rfl ?_
              first | refine SD.take rfl panicBody (op_load ty74 rfl (by repeat (first | exact AtO.here | apply AtO.there)) rfl) rfl rfl ?_ | refine SD.take rfl panicBody (op_loadX ty74 rfl (by assumption) rfl) rfl rfl ?_
              first | refine SD.take rfl panicBody (op_load ty76 rfl (by repeat (first | exact AtO.here | apply AtO.there)) rfl) rfl rfl ?_ | refine SD.take rfl panicBody (op_loadX ty76 rfl (by assumption) rfl) rfl rfl ?_
              refine SD.run rfl (op_buildSlice Tryd.underlying74 bs76 (qs := [(0, _)]) rfl rfl rfl rfl rfl) rfl rfl ?_
              rintro _ _ _ ⟨B87, rfl, rfl, rfl⟩
              -- op
              refine SD.runK rfl (op_appendG (own0 := [_, _, _]) sl74 rfl hG0 rfl rfl rfl (by omega) (by omega)) (by rintro _ _ _ ⟨G', rfl, rfl, _⟩; exact ⟨fun p hp => List.mem_append_left _ hp, PMap.le_refl _⟩) rfl rfl ?_
              rintro s' _ _ ⟨G', rfl, rfl, hG'⟩
              refine SD.nil ?_
              show SL _ _ _ _ _ _ _ [_, _, _] _ _ _
              obtain ⟨As', cs', rfl⟩ := hG'.form
              first | refine SL.y (op_nil rfl) rfl rfl ?_ | refine SL.y (op_nilFn rfl) rfl rfl ?_
              refine SL.y (op_fieldAddr fa90_0 rfl) rfl rfl ?_
              refine SL.x (op_store ty74 rfl rfl (by repeat (first | exact AtO.here | apply AtO.there)) rfl rfl rfl) rfl rfl ?_
              rintro _ _ _ ⟨rfl, rfl⟩
              refine SL.nil ?_
              refine T.blk ?_
              refine T.region ?_
              refine SL.y (op_move rfl) rfl rfl ?_
              first | refine SL.y (op_subN (q := 1) rfl rfl (by omega) (by omega)) rfl rfl ?_ | refine SL.y (op_sub rfl rfl (by omega) (by omega)) rfl rfl ?_ | refine SL.y (op_subW rfl rfl) rfl rfl ?_
              refine SL.y (op_assign rfl) rfl rfl ?_
              refine SL.nil ?_
              -- cut
              refine T.drop B7 (by repeat (first | exact AtO.here | apply AtO.there)) ?_
              exact T.backW q (by omega) ⟨l ++ [((xu : Int), (xr : Int), (xt : Int))], _, ds9, sv8, _, G', hX48.trans' hX9, (by rw [hz5, hrE]), h8.mono hX9, by omega, (by rw [List.length_append]; simp only [List.length_cons, List.length_nil]; omega), (by rw [enC_append, List.length_append]; exact hG'), rfl, rfl⟩ (by repeat (first | exact Sub.nil | refine Sub.cons rfl ?_))
            · by_cases b4 : (xu : Int) = y.1
              · by_cases b5 : (xr : Int) ≤ y.2.1
                · rw [if_pos (hbad.2 (.inr (.inr (.inr ⟨b4, b5⟩))))] at hrE
                  first | refine SL.y (op_lssT rfl rfl (by omega)) rfl rfl ?_ | refine SL.y (op_lssF rfl rfl (by omega)) rfl rfl ?_ | refine SL.y (op_lss rfl rfl) rfl rfl ?_
                  refine SL.y (op_move rfl) rfl rfl ?_
                  first | refine SL.skip rfl rfl ?_ | refine SL.y (op_fieldAddr fa76_1 rfl) rfl rfl ?_
                  first | refine SL.skip rfl rfl ?_ | refine SL.y (op_load ty3 rfl (by repeat (first | exact AtO.here | apply AtO.there)) rfl) rfl rfl ?_ | refine SL.y (op_loadX ty3 rfl (by assumption) rfl) rfl rfl ?_
                  first | refine SL.skip rfl rfl ?_ | refine SL.y (op_lssT rfl rfl (by omega)) rfl rfl ?_ | refine SL.y (op_lssF rfl rfl (by omega)) rfl rfl ?_ | refine SL.y (op_lss rfl rfl) rfl rfl ?_
                  first | refine SL.y (op_pickT rfl rfl) rfl rfl ?_ | refine SL.y (op_pickF rfl rfl) rfl rfl ?_ | refine SL.y (op_pickB rfl rfl rfl) rfl rfl ?_
                  refine SL.y (op_move rfl) rfl rfl ?_
                  first | refine SL.skip rfl rfl ?_ | refine SL.y (op_fieldAddr fa76_0 rfl) rfl rfl ?_
                  first | refine SL.skip rfl rfl ?_ | refine SL.y (op_load ty3 rfl (by repeat (first | exact AtO.here | apply AtO.there)) rfl) rfl rfl ?_ | refine SL.y (op_loadX ty3 rfl (by assumption) rfl) rfl rfl ?_
                  first | refine SL.skip rfl rfl ?_ | refine SL.y (op_fieldAddr fa76_0 rfl) rfl rfl ?_
                  first | refine SL.skip rfl rfl ?_ | refine SL.y (op_load ty3 rfl (by repeat (first | exact AtO.here | apply AtO.there)) rfl) rfl rfl ?_ | refine SL.y (op_loadX ty3 rfl (by assumption) rfl) rfl rfl ?_
                  first | refine SL.skip rfl rfl ?_ | refine SL.y (op_lssT rfl rfl (by omega)) rfl rfl ?_ | refine SL.y (op_lssF rfl rfl (by omega)) rfl rfl ?_ | refine SL.y (op_lss rfl rfl) rfl rfl ?_
                  first | refine SL.y (op_pickT rfl rfl) rfl rfl ?_ | refine SL.y (op_pickF rfl rfl) rfl rfl ?_ | refine SL.y (op_pickB rfl rfl rfl) rfl rfl ?_
                  refine SL.y (op_move rfl) rfl rfl ?_
                  first | refine SL.skip rfl rfl ?_ | refine SL.y (op_fieldAddr fa76_0 rfl) rfl rfl ?_
                  first | refine SL.skip rfl rfl ?_ | refine SL.y (op_load ty3 rfl (by repeat (first | exact AtO.here | apply AtO.there)) rfl) rfl rfl ?_ | refine SL.y (op_loadX ty3 rfl (by assumption) rfl) rfl rfl ?_
                  first | refine SL.skip rfl rfl ?_ | refine SL.y (op_fieldAddr fa76_0 rfl) rfl rfl ?_
                  first | refine SL.skip rfl rfl ?_ | refine SL.y (op_load ty3 rfl (by repeat (first | exact AtO.here | apply AtO.there)) rfl) rfl rfl ?_ | refine SL.y (op_loadX ty3 rfl (by assumption) rfl) rfl rfl ?_
                  first | refine SL.skip rfl rfl ?_ | refine SL.y (op_eqlT rfl rfl (by omega)) rfl rfl ?_ | refine SL.y (op_eqlF rfl rfl (by omega)) rfl rfl ?_ | refine SL.y (op_eql rfl rfl) rfl rfl ?_
                  first | refine SL.skip rfl rfl ?_ | refine SL.y (op_move rfl) rfl rfl ?_
                  first | refine SL.skip rfl rfl ?_ | refine SL.y (op_fieldAddr fa76_1 rfl) rfl rfl ?_
                  first | refine SL.skip rfl rfl ?_ | refine SL.y (op_load ty3 rfl (by repeat (first | exact AtO.here | apply AtO.there)) rfl) rfl rfl ?_ | refine SL.y (op_loadX ty3 rfl (by assumption) rfl) rfl rfl ?_
                  first | refine SL.skip rfl rfl ?_ | refine SL.y (op_fieldAddr fa76_1 rfl) rfl rfl ?_
                  first | refine SL.skip rfl rfl ?_ | refine SL.y (op_load ty3 rfl (by repeat (first | exact AtO.here | apply AtO.there)) rfl) rfl rfl ?_ | refine SL.y (op_loadX ty3 rfl (by assumption) rfl) rfl rfl ?_
                  first | refine SL.skip rfl rfl ?_ | refine SL.y (op_leqT rfl rfl (by omega)) rfl rfl ?_ | refine SL.y (op_leqF rfl rfl (by omega)) rfl rfl ?_ | refine SL.y (op_leq rfl rfl) rfl rfl ?_
                  first | refine SL.skip rfl rfl ?_ | refine SL.y (op_pickT rfl rfl) rfl rfl ?_ | refine SL.y (op_pickF rfl rfl) rfl rfl ?_ | refine SL.y (op_pickB rfl rfl rfl) rfl rfl ?_
                  first | refine SL.y (op_pickT rfl rfl) rfl rfl ?_ | refine SL.y (op_pickF rfl rfl) rfl rfl ?_ | refine SL.y (op_pickB rfl rfl rfl) rfl rfl ?_
                  refine SL.nil ?_
                  refine T.condT rfl ?_
                  refine T.region ?_
                  refine SL.y (op_move rfl) rfl rfl ?_
                  -- op
                  refine SL.perm (own' := [RdO br sv8 e8] ++ (⟨B8, [.int .i64 y.1, .int .i64 y.2.1, .int .i64 y.2.2], 76, 3⟩ :: ⟨B7, [.int .i64 (xu : Int), .int .i64 (xr : Int), .int .i64 (xt : Int)], 76, 3⟩ :: ⟨bk, [.slice (some ⟨bg, 0, none⟩) l.length cs], 90, 1⟩ :: ([⟨bg, enC l, 76, cs * 3⟩] : Own))) perm_b ?_
                  refine SL.x (op_callM en71 (vs := [_, _]) rfl (rfail_spec 6) rfl) rfl rfl ?_
                  rintro _ _ X9 ⟨_, rfl, hX9, rfl⟩
                  refine SL.perm (own' := ⟨B8, [.int .i64 y.1, .int .i64 y.2.1, .int .i64 y.2.2], 76, 3⟩ :: ⟨B7, [.int .i64 (xu : Int), .int .i64 (xr : Int), .int .i64 (xt : Int)], 76, 3⟩ :: RdO br sv8 (if e8 = 0 then 6 else e8) :: ⟨bk, [.slice (some ⟨bg, 0, none⟩) l.length cs], 90, 1⟩ :: ([⟨bg, enC l, 76, cs * 3⟩] : Own)) perm_c ?_
                  refine T.dropAt B8 (by repeat (first | exact AtO.here | apply AtO.there)) ?_
                  refine SL.nil ?_
                  refine T.drawG (own0 := [_, _, _]) (by kernel_rfl) 8 [.t 0, .t 1, .t 2, .t 3, .t 4, .t 5, .r 6, .r 7] (by kernel_rfl) ?_
                  refine SD.take rfl panicBody (op_move rfl) rfl rfl ?_
                  refine SD.take rfl panicBody (op_move rfl) rfl rfl ?_
                  first | refine SD.take rfl panicBody (op_nil rfl) rfl rfl ?_ | refine SD.take rfl panicBody (op_nilFn rfl) rfl rfl ?_
                  refine SD.take rfl panicBody (op_fieldAddr fa90_0 rfl) rfl rfl ?_
                  first | refine SD.take rfl panicBody (op_load ty74 rfl (by repeat (first | exact AtO.here | apply AtO.there)) rfl) rfl rfl ?_ | refine SD.take rfl panicBody (op_loadX ty74 rfl (by assumption) rfl) rfl rfl ?_
                  first | refine SD.take rfl panicBody (op_load ty76 rfl (by repeat (first | exact AtO.here | apply AtO.there)) rfl) rfl rfl ?_ | refine SD.take rfl panicBody (op_loadX ty76 rfl (by assumption) rfl) rfl rfl ?_
                  refine SD.run rfl (op_buildSlice Tryd.underlying74 bs76 (qs := [(0, _)]) rfl rfl rfl rfl rfl) rfl rfl ?_
                  rintro _ _ _ ⟨B87, rfl, rfl, rfl⟩
                  -- op
                  refine SD.runK rfl (op_appendG (own0 := [_, _, _]) sl74 rfl hG0 rfl rfl rfl (by omega) (by omega)) (by rintro _ _ _ ⟨G', rfl, rfl, _⟩; exact ⟨fun p hp => List.mem_append_left _ hp, PMap.le_refl _⟩) rfl rfl ?_
                  rintro s' _ _ ⟨G', rfl, rfl, hG'⟩
                  refine SD.nil ?_
                  show SL _ _ _ _ _ _ _ [_, _, _] _ _ _
                  obtain ⟨As', cs', rfl⟩ := hG'.form
                  first | refine SL.y (op_nil rfl) rfl rfl ?_ | refine SL.y (op_nilFn rfl) rfl rfl ?_
                  refine SL.y (op_fieldAddr fa90_0 rfl) rfl rfl ?_
                  refine SL.x (op_store ty74 rfl rfl (by repeat (first | exact AtO.here | apply AtO.there)) rfl rfl rfl) rfl rfl ?_
                  rintro _ _ _ ⟨rfl, rfl⟩
                  refine SL.nil ?_
                  refine T.blk ?_
                  refine T.region ?_
                  refine SL.y (op_move rfl) rfl rfl ?_
                  first | refine SL.y (op_subN (q := 1) rfl rfl (by omega) (by omega)) rfl rfl ?_ | refine SL.y (op_sub rfl rfl (by omega) (by omega)) rfl rfl ?_ | refine SL.y (op_subW rfl rfl) rfl rfl ?_
                  refine SL.y (op_assign rfl) rfl rfl ?_
                  refine SL.nil ?_
                  -- cut
                  refine T.drop B7 (by repeat (first | exact AtO.here | apply AtO.there)) ?_
                  exact T.backW q (by omega) ⟨l ++ [((xu : Int), (xr : Int), (xt : Int))], _, ds9, sv8, _, G', hX48.trans' hX9, (by rw [hz5, hrE]), h8.mono hX9, by omega, (by rw [List.length_append]; simp only [List.length_cons, List.length_nil]; omega), (by rw [enC_append, List.length_append]; exact hG'), rfl, rfl⟩ (by repeat (first | exact Sub.nil | refine Sub.cons rfl ?_))
                · rw [if_neg (fun h => by have := hbad.1 h; omega)] at hrE
                  first | refine SL.y (op_lssT rfl rfl (by omega)) rfl rfl ?_ | refine SL.y (op_lssF rfl rfl (by omega)) rfl rfl ?_ | refine SL.y (op_lss rfl rfl) rfl rfl ?_
                  refine SL.y (op_move rfl) rfl rfl ?_
                  first | refine SL.skip rfl rfl ?_ | refine SL.y (op_fieldAddr fa76_1 rfl) rfl rfl ?_
                  first | refine SL.skip rfl rfl ?_ | refine SL.y (op_load ty3 rfl (by repeat (first | exact AtO.here | apply AtO.there)) rfl) rfl rfl ?_ | refine SL.y (op_loadX ty3 rfl (by assumption) rfl) rfl rfl ?_
                  first | refine SL.skip rfl rfl ?_ | refine SL.y (op_lssT rfl rfl (by omega)) rfl rfl ?_ | refine SL.y (op_lssF rfl rfl (by omega)) rfl rfl ?_ | refine SL.y (op_lss rfl rfl) rfl rfl ?_
                  first | refine SL.y (op_pickT rfl rfl) rfl rfl ?_ | refine SL.y (op_pickF rfl rfl) rfl rfl ?_ | refine SL.y (op_pickB rfl rfl rfl) rfl rfl ?_
                  refine SL.y (op_move rfl) rfl rfl ?_
                  first | refine SL.skip rfl rfl ?_ | refine SL.y (op_fieldAddr fa76_0 rfl) rfl rfl ?_
                  first | refine SL.skip rfl rfl ?_ | refine SL.y (op_load ty3 rfl (by repeat (first | exact AtO.here | apply AtO.there)) rfl) rfl rfl ?_ | refine SL.y (op_loadX ty3 rfl (by assumption) rfl) rfl rfl ?_
                  first | refine SL.skip rfl rfl ?_ | refine SL.y (op_fieldAddr fa76_0 rfl) rfl rfl ?_
                  first | refine SL.skip rfl rfl ?_ | refine SL.y (op_load ty3 rfl (by repeat (first | exact AtO.here | apply AtO.there)) rfl) rfl rfl ?_ | refine SL.y (op_loadX ty3 rfl (by assumption) rfl) rfl rfl ?_
                  first | refine SL.skip rfl rfl ?_ | refine SL.y (op_lssT rfl rfl (by omega)) rfl rfl ?_ | refine SL.y (op_lssF rfl rfl (by omega)) rfl rfl ?_ | refine SL.y (op_lss rfl rfl) rfl rfl ?_
                  first | refine SL.y (op_pickT rfl rfl) rfl rfl ?_ | refine SL.y (op_pickF rfl rfl) rfl rfl ?_ | refine SL.y (op_pickB rfl rfl rfl) rfl rfl ?_
                  refine SL.y (op_move rfl) rfl rfl ?_
                  first | refine SL.skip rfl rfl ?_ | refine SL.y (op_fieldAddr fa76_0 rfl) rfl rfl ?_
                  first | refine SL.skip rfl rfl ?_ | refine SL.y (op_load ty3 rfl (by repeat (first | exact AtO.here | apply AtO.there)) rfl) rfl rfl ?_ | refine SL.y (op_loadX ty3 rfl (by assumption) rfl) rfl rfl ?_
                  first | refine SL.skip rfl rfl ?_ | refine SL.y (op_fieldAddr fa76_0 rfl) rfl rfl ?_
                  first | refine SL.skip rfl rfl ?_ | refine SL.y (op_load ty3 rfl (by repeat (first | exact AtO.here | apply AtO.there)) rfl) rfl rfl ?_ | refine SL.y (op_loadX ty3 rfl (by assumption) rfl) rfl rfl ?_
                  first | refine SL.skip rfl rfl ?_ | refine SL.y (op_eqlT rfl rfl (by omega)) rfl rfl ?_ | refine SL.y (op_eqlF rfl rfl (by omega)) rfl rfl ?_ | refine SL.y (op_eql rfl rfl) rfl rfl ?_
                  first | refine SL.skip rfl rfl ?_ | refine SL.y (op_move rfl) rfl rfl ?_
                  first | refine SL.skip rfl rfl ?_ | refine SL.y (op_fieldAddr fa76_1 rfl) rfl rfl ?_
                  first | refine SL.skip rfl rfl ?_ | refine SL.y (op_load ty3 rfl (by repeat (first | exact AtO.here | apply AtO.there)) rfl) rfl rfl ?_ | refine SL.y (op_loadX ty3 rfl (by assumption) rfl) rfl rfl ?_
                  first | refine SL.skip rfl rfl ?_ | refine SL.y (op_fieldAddr fa76_1 rfl) rfl rfl ?_
                  first | refine SL.skip rfl rfl ?_ | refine SL.y (op_load ty3 rfl (by repeat (first | exact AtO.here | apply AtO.there)) rfl) rfl rfl ?_ | refine SL.y (op_loadX ty3 rfl (by assumption) rfl) rfl rfl ?_
                  first | refine SL.skip rfl rfl ?_ | refine SL.y (op_leqT rfl rfl (by omega)) rfl rfl ?_ | refine SL.y (op_leqF rfl rfl (by omega)) rfl rfl ?_ | refine SL.y (op_leq rfl rfl) rfl rfl ?_
                  first | refine SL.skip rfl rfl ?_ | refine SL.y (op_pickT rfl rfl) rfl rfl ?_ | refine SL.y (op_pickF rfl rfl) rfl rfl ?_ | refine SL.y (op_pickB rfl rfl rfl) rfl rfl ?_
                  first | refine SL.y (op_pickT rfl rfl) rfl rfl ?_ | refine SL.y (op_pickF rfl rfl) rfl rfl ?_ | refine SL.y (op_pickB rfl rfl rfl) rfl rfl ?_
                  refine SL.nil ?_
                  -- cond
                  refine T.drop B8 (by repeat (first | exact AtO.here | apply AtO.there)) ?_
                  refine T.condF rfl ?_
                  refine T.skip ?_
                  refine T.drawG (own0 := [_, _, _]) (by kernel_rfl) 8 [.t 0, .t 1, .t 2, .t 3, .t 4, .t 5, .r 6, .r 7] (by kernel_rfl) ?_
                  refine SD.take rfl panicBody (op_move rfl) rfl rfl ?_
                  refine SD.take rfl panicBody (op_move rfl) rfl rfl ?_
                  first | refine SD.take rfl panicBody (op_nil rfl) rfl rfl ?_ | refine SD.take rfl panicBody (op_nilFn rfl) rfl rfl ?_
                  refine SD.take rfl panicBody (op_fieldAddr fa90_0 rfl) rfl rfl ?_
                  first | refine SD.take rfl panicBody (op_load ty74 rfl (by repeat (first | exact AtO.here | apply AtO.there)) rfl) rfl rfl ?_ | refine SD.take rfl panicBody (op_loadX ty74 rfl (by assumption) rfl) rfl rfl ?_
                  first | refine SD.take rfl panicBody (op_load ty76 rfl (by repeat (first | exact AtO.here | apply AtO.there)) rfl) rfl rfl ?_ | refine SD.take rfl panicBody (op_loadX ty76 rfl (by assumption) rfl) rfl rfl ?_
                  refine SD.run rfl (op_buildSlice Tryd.underlying74 bs76 (qs := [(0, _)]) rfl rfl rfl rfl rfl) rfl rfl ?_
                  rintro _ _ _ ⟨B87, rfl, rfl, rfl⟩
                  -- op
                  refine SD.runK rfl (op_appendG (own0 := [_, _, _]) sl74 rfl hG0 rfl rfl rfl (by omega) (by omega)) (by rintro _ _ _ ⟨G', rfl, rfl, _⟩; exact ⟨fun p hp => List.mem_append_left _ hp, PMap.le_refl _⟩) rfl rfl ?_
                  rintro s' _ _ ⟨G', rfl, rfl, hG'⟩
                  refine SD.nil ?_
                  show SL _ _ _ _ _ _ _ [_, _, _] _ _ _
                  obtain ⟨As', cs', rfl⟩ := hG'.form
                  first | refine SL.y (op_nil rfl) rfl rfl ?_ | refine SL.y (op_nilFn rfl) rfl rfl ?_
                  refine SL.y (op_fieldAddr fa90_0 rfl) rfl rfl ?_
                  refine SL.x (op_store ty74 rfl rfl (by repeat (first | exact AtO.here | apply AtO.there)) rfl rfl rfl) rfl rfl ?_
                  rintro _ _ _ ⟨rfl, rfl⟩
                  refine SL.nil ?_
                  refine T.blk ?_
                  refine T.region ?_
                  refine SL.y (op_move rfl) rfl rfl ?_
                  first | refine SL.y (op_subN (q := 1) rfl rfl (by omega) (by omega)) rfl rfl ?_ | refine SL.y (op_sub rfl rfl (by omega) (by omega)) rfl rfl ?_ | refine SL.y (op_subW rfl rfl) rfl rfl ?_
                  refine SL.y (op_assign rfl) rfl rfl ?_
                  refine SL.nil ?_
                  -- cut
                  refine T.drop B7 (by repeat (first | exact AtO.here | apply AtO.there)) ?_
                  exact T.backW q (by omega) ⟨l ++ [((xu : Int), (xr : Int), (xt : Int))], _, ds9, sv8, _, G', hX48, (by rw [hz5, hrE]), h8, by omega, (by rw [List.length_append]; simp only [List.length_cons, List.length_nil]; omega), (by rw [enC_append, List.length_append]; exact hG'), rfl, rfl⟩ (by repeat (first | exact Sub.nil | refine Sub.cons rfl ?_))
              · rw [if_neg (fun h => by have := hbad.1 h; omega)] at hrE
                first | refine SL.y (op_lssT rfl rfl (by omega)) rfl rfl ?_ | refine SL.y (op_lssF rfl rfl (by omega)) rfl rfl ?_ | refine SL.y (op_lss rfl rfl) rfl rfl ?_
                refine SL.y (op_move rfl) rfl rfl ?_
                first | refine SL.skip rfl rfl ?_ | refine SL.y (op_fieldAddr fa76_1 rfl) rfl rfl ?_
                first | refine SL.skip rfl rfl ?_ | refine SL.y (op_load ty3 rfl (by repeat (first | exact AtO.here | apply AtO.there)) rfl) rfl rfl ?_ | refine SL.y (op_loadX ty3 rfl (by assumption) rfl) rfl rfl ?_
                first | refine SL.skip rfl rfl ?_ | refine SL.y (op_lssT rfl rfl (by omega)) rfl rfl ?_ | refine SL.y (op_lssF rfl rfl (by omega)) rfl rfl ?_ | refine SL.y (op_lss rfl rfl) rfl rfl ?_
                first | refine SL.y (op_pickT rfl rfl) rfl rfl ?_ | refine SL.y (op_pickF rfl rfl) rfl rfl ?_ | refine SL.y (op_pickB rfl rfl rfl) rfl rfl ?_
                refine SL.y (op_move rfl) rfl rfl ?_
                first | refine SL.skip rfl rfl ?_ | refine SL.y (op_fieldAddr fa76_0 rfl) rfl rfl ?_
                first | refine SL.skip rfl rfl ?_ | refine SL.y (op_load ty3 rfl (by repeat (first | exact AtO.here | apply AtO.there)) rfl) rfl rfl ?_ | refine SL.y (op_loadX ty3 rfl (by assumption) rfl) rfl rfl ?_
                first | refine SL.skip rfl rfl ?_ | refine SL.y (op_fieldAddr fa76_0 rfl) rfl rfl ?_
                first | refine SL.skip rfl rfl ?_ | refine SL.y (op_load ty3 rfl (by repeat (first | exact AtO.here | apply AtO.there)) rfl) rfl rfl ?_ | refine SL.y (op_loadX ty3 rfl (by assumption) rfl) rfl rfl ?_
                first | refine SL.skip rfl rfl ?_ | refine SL.y (op_lssT rfl rfl (by omega)) rfl rfl ?_ | refine SL.y (op_lssF rfl rfl (by omega)) rfl rfl ?_ | refine SL.y (op_lss rfl rfl) rfl rfl ?_
                first | refine SL.y (op_pickT rfl rfl) rfl rfl ?_ | refine SL.y (op_pickF rfl rfl) rfl rfl ?_ | refine SL.y (op_pickB rfl rfl rfl) rfl rfl ?_
                refine SL.y (op_move rfl) rfl rfl ?_
                first | refine SL.skip rfl rfl ?_ | refine SL.y (op_fieldAddr fa76_0 rfl) rfl rfl ?_
                first | refine SL.skip rfl rfl ?_ | refine SL.y (op_load ty3 rfl (by repeat (first | exact AtO.here | apply AtO.there)) rfl) rfl rfl ?_ | refine SL.y (op_loadX ty3 rfl (by assumption) rfl) rfl rfl ?_
                first | refine SL.skip rfl rfl ?_ | refine SL.y (op_fieldAddr fa76_0 rfl) rfl rfl ?_
                first | refine SL.skip rfl rfl ?_ | refine SL.y (op_load ty3 rfl (by repeat (first | exact AtO.here | apply AtO.there)) rfl) rfl rfl ?_ | refine SL.y (op_loadX ty3 rfl (by assumption) rfl) rfl rfl ?_
                first | refine SL.skip rfl rfl ?_ | refine SL.y (op_eqlT rfl rfl (by omega)) rfl rfl ?_ | refine SL.y (op_eqlF rfl rfl (by omega)) rfl rfl ?_ | refine SL.y (op_eql rfl rfl) rfl rfl ?_
                first | refine SL.skip rfl rfl ?_ | refine SL.y (op_move rfl) rfl rfl ?_
                first | refine SL.skip rfl rfl ?_ | refine SL.y (op_fieldAddr fa76_1 rfl) rfl rfl ?_
                first | refine SL.skip rfl rfl ?_ | refine SL.y (op_load ty3 rfl (by repeat (first | exact AtO.here | apply AtO.there)) rfl) rfl rfl ?_ | refine SL.y (op_loadX ty3 rfl (by assumption) rfl) rfl rfl ?_
                first | refine SL.skip rfl rfl ?_ | refine SL.y (op_fieldAddr fa76_1 rfl) rfl rfl ?_
                first | refine SL.skip rfl rfl ?_ | refine SL.y (op_load ty3 rfl (by repeat (first | exact AtO.here | apply AtO.there)) rfl) rfl rfl ?_ | refine SL.y (op_loadX ty3 rfl (by assumption) rfl) rfl rfl ?_
                first | refine SL.skip rfl rfl ?_ | refine SL.y (op_leqT rfl rfl (by omega)) rfl rfl ?_ | refine SL.y (op_leqF rfl rfl (by omega)) rfl rfl ?_ | refine SL.y (op_leq rfl rfl) rfl rfl ?_
                first | refine SL.skip rfl rfl ?_ | refine SL.y (op_pickT rfl rfl) rfl rfl ?_ | refine SL.y (op_pickF rfl rfl) rfl rfl ?_ | refine SL.y (op_pickB rfl rfl rfl) rfl rfl ?_
                first | refine SL.y (op_pickT rfl rfl) rfl rfl ?_ | refine SL.y (op_pickF rfl rfl) rfl rfl ?_ | refine SL.y (op_pickB rfl rfl rfl) rfl rfl ?_
                refine SL.nil ?_
                -- cond
                refine T.drop B8 (by repeat (first | exact AtO.here | apply AtO.there)) ?_
                refine T.condF rfl ?_
                refine T.skip ?_
                refine T.drawG (own0 := [_, _, _]) (by kernel_rfl) 8 [.t 0, .t 1, .t 2, .t 3, .t 4, .t 5, .r 6, .r 7] (by kernel_rfl) ?_
                refine SD.take rfl panicBody (op_move rfl) rfl rfl ?_
                refine SD.take rfl panicBody (op_move rfl) rfl rfl ?_
                first | refine SD.take rfl panicBody (op_nil rfl) rfl rfl ?_ | refine SD.take rfl panicBody (op_nilFn rfl) rfl rfl ?_
                refine SD.take rfl panicBody (op_fieldAddr fa90_0 rfl) rfl rfl ?_
                first | refine SD.take rfl panicBody (op_load ty74 rfl (by repeat (first | exact AtO.here | apply AtO.there)) rfl) rfl rfl ?_ | refine SD.take rfl panicBody (op_loadX ty74 rfl (by assumption) rfl) rfl rfl ?_
                first | refine SD.take rfl panicBody (op_load ty76 rfl (by repeat (first | exact AtO.here | apply AtO.there)) rfl) rfl rfl ?_ | refine SD.take rfl panicBody (op_loadX ty76 rfl (by assumption) rfl) rfl rfl ?_
                refine SD.run rfl (op_buildSlice Tryd.underlying74 bs76 (qs := [(0, _)]) rfl rfl rfl rfl rfl) rfl rfl ?_
                rintro _ _ _ ⟨B87, rfl, rfl, rfl⟩
                -- op
                refine SD.runK rfl (op_appendG (own0 := [_, _, _]) sl74 rfl hG0 rfl rfl rfl (by omega) (by omega)) (by rintro _ _ _ ⟨G', rfl, rfl, _⟩; exact ⟨fun p hp => List.mem_append_left _ hp, PMap.le_refl _⟩) rfl rfl ?_
                rintro s' _ _ ⟨G', rfl, rfl, hG'⟩
                refine SD.nil ?_
                show SL _ _ _ _ _ _ _ [_, _, _] _ _ _
                obtain ⟨As', cs', rfl⟩ := hG'.form
                first | refine SL.y (op_nil rfl) rfl rfl ?_ | refine SL.y (op_nilFn rfl) rfl rfl ?_
                refine SL.y (op_fieldAddr fa90_0 rfl) rfl rfl ?_
                refine SL.x (op_store ty74 rfl rfl (by repeat (first | exact AtO.here | apply AtO.there)) rfl rfl rfl) rfl rfl ?_
                rintro _ _ _ ⟨rfl, rfl⟩
                refine SL.nil ?_
                refine T.blk ?_
                refine T.region ?_
                refine SL.y (op_move rfl) rfl rfl ?_
                first | refine SL.y (op_subN (q := 1) rfl rfl (by omega) (by omega)) rfl rfl ?_ | refine SL.y (op_sub rfl rfl (by omega) (by omega)) rfl rfl ?_ | refine SL.y (op_subW rfl rfl) rfl rfl ?_
                refine SL.y (op_assign rfl) rfl rfl ?_
                refine SL.nil ?_
                -- cut
                refine T.drop B7 (by repeat (first | exact AtO.here | apply AtO.there)) ?_
                exact T.backW q (by omega) ⟨l ++ [((xu : Int), (xr : Int), (xt : Int))], _, ds9, sv8, _, G', hX48, (by rw [hz5, hrE]), h8, by omega, (by rw [List.length_append]; simp only [List.length_cons, List.length_nil]; omega), (by rw [enC_append, List.length_append]; exact hG'), rfl, rfl⟩ (by repeat (first | exact Sub.nil | refine Sub.cons rfl ?_))
    · have hzz := hend (.inr he)
      first | refine SL.skip rfl rfl ?_ | refine SL.y (op_eqlT rfl rfl (by omega)) rfl rfl ?_ | refine SL.y (op_eqlF rfl rfl (by omega)) rfl rfl ?_ | refine SL.y (op_eql rfl rfl) rfl rfl ?_
      first | refine SL.y (op_pickT rfl rfl) rfl rfl ?_ | refine SL.y (op_pickF rfl rfl) rfl rfl ?_ | refine SL.y (op_pickB rfl rfl rfl) rfl rfl ?_
      refine SL.nil ?_
      refine T.condF rfl ?_
      refine T.exit (T.exitCode (T.exitCut (T.exitBlk ?_)))
      refine T.seq ?_
      refine T.seq ?_
      refine T.region ?_
      refine SL.y (op_move rfl) rfl rfl ?_
      -- to 92: op
      have h4 := h4.mono hX5
      have hX4 := hX4.trans' hX5
      refine SL.x (op_callM en72 (vs := [_]) rfl (rend_spec h4) rfl) rfl rfl ?_
      rintro _ _ X9 ⟨_, rfl, hX9, rfl, rfl⟩
      rw [hzz]
      simp only
      by_cases hend0 : endE e ds = 0
      · skip
        first | refine SL.y (op_neqT rfl rfl (by omega)) rfl rfl ?_ | refine SL.y (op_neqF rfl rfl (by omega)) rfl rfl ?_ | refine SL.y (op_neq rfl rfl) rfl rfl ?_
        refine SL.nil ?_
        refine T.condF rfl ?_
        refine T.skip ?_
        refine T.seq ?_
        refine T.region ?_
        refine SL.y (op_move rfl) rfl rfl ?_
        refine SL.y (op_assign rfl) rfl rfl ?_
        refine SL.y (op_assign (v := .int .i64 ((0 : Nat) : Int)) rfl) rfl rfl ?_
        refine SL.nil ?_
        -- ret
        refine T.less (own' := ⟨bk, [.slice As l.length cs], 90, 1⟩ :: G) (List.sublist_cons_self ..) ?_
        refine T.pubG (own0 := [_]) hG ?_
        intro Xa hXa hSa
        refine T.pub bk (by repeat (first | exact AtO.here | apply AtO.there)) ?_
        intro Xb hXb hBb _
        refine T.ret2 rfl (ResIs.tmp rfl) (ResIs.tmp rfl) ?_
        rw [if_pos hend0]
        exact ⟨_, rfl, bk, _, rfl, hBb, hSa.mono hXb⟩
      · first | refine SL.y (op_neqT rfl rfl (by omega)) rfl rfl ?_ | refine SL.y (op_neqF rfl rfl (by omega)) rfl rfl ?_ | refine SL.y (op_neq rfl rfl) rfl rfl ?_
        refine SL.nil ?_
        refine T.condT rfl ?_
        refine T.seq ?_
        refine T.region ?_
        refine SL.y (op_assign rfl) rfl rfl ?_
        refine SL.y (op_assign (v := .int .i64 ((6 : Nat) : Int)) rfl) rfl rfl ?_
        refine SL.nil ?_
        -- ret
        refine T.ret2 rfl (ResIs.tmp rfl) (ResIs.tmp rfl) ?_
        rw [if_neg hend0]
        rfl
theorem breadG_spec {X : PMap} {v : Value} {bs : List Nat} (h : BytesR X v bs) (hl : bs.length < 1000000) (hb : ∀ b ∈ bs, b < 256) : Spec Tryd.prog 44 [v] X fun w X' => (∃ p, endE (rdBook bs).2.1 (rdBook bs).2.2 = 0 ∧ w = .tuple #[p, .int .i64 0] ∧ BkR X' p (rdBook bs).1) ∨ (endE (rdBook bs).2.1 (rdBook bs).2.2 ≠ 0 ∧ w = .tuple #[.pointer none, .int .i64 6]) :=
  (bread_spec h hl hb).mono fun w X' _ hw => by
    by_cases hc : endE (rdBook bs).2.1 (rdBook bs).2.2 = 0
    · rw [if_pos hc] at hw
      obtain ⟨p, h1, h2⟩ := hw
      exact .inl ⟨p, hc, h1, h2⟩
    · rw [if_neg hc] at hw
      exact .inr ⟨hc, hw⟩
end Go.Proofs.YtkmnlogacfkjmaaDoor
