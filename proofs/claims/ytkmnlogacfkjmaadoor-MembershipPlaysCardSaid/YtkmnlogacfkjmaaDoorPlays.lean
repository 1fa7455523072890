/- MembershipPlays answers true. -/
import Derived.Test.YtkmnlogacfkjmaaDoorAw
import Derived.Test.YtkmnlogacfkjmaaDoorLaw2
import Derived.Test.YtkmnlogacfkjmaaDoorRows2
namespace Go.Proofs.YtkmnlogacfkjmaaDoor
section
set_option maxRecDepth 100000
theorem en12 : Enters Tryd.prog 12 := enters_mk Tryd.func12 (by kernel_rfl) rfl
theorem en25 : Enters Tryd.prog 25 := enters_mk Tryd.func25 (by kernel_rfl) rfl
theorem en29 : Enters Tryd.prog 29 := enters_mk Tryd.func29 (by kernel_rfl) rfl
theorem en30 : Enters Tryd.prog 30 := enters_mk Tryd.func30 (by kernel_rfl) rfl
theorem en32 : Enters Tryd.prog 32 := enters_mk Tryd.func32 (by kernel_rfl) rfl
theorem fa61_0 : FAdr Tryd.prog 61 0 0 := fadr_mk Tryd.underlying61 rfl rfl (by kernel_rfl)
theorem fa61_1 : FAdr Tryd.prog 61 1 1 := fadr_mk Tryd.underlying61 rfl rfl (by kernel_rfl)
theorem fa61_2 : FAdr Tryd.prog 61 2 2 := fadr_mk Tryd.underlying61 rfl rfl (by kernel_rfl)
theorem fa61_3 : FAdr Tryd.prog 61 3 3 := fadr_mk Tryd.underlying61 rfl rfl (by kernel_rfl)
theorem fa61_4 : FAdr Tryd.prog 61 4 4 := fadr_mk Tryd.underlying61 rfl rfl (by kernel_rfl)
theorem ty4 : Ty Tryd.prog 4 false 1 := ⟨⟨_, Tryd.underlying4, rfl⟩, by kernel_rfl⟩
theorem ty59 : Ty Tryd.prog 59 false 1 := ⟨⟨_, Tryd.underlying59, rfl⟩, by kernel_rfl⟩
theorem ty61 : Ty Tryd.prog 61 true 5 := ⟨⟨_, Tryd.underlying61, rfl⟩, by kernel_rfl⟩
theorem z61 : Zero Tryd.prog 61 [.int .u8 0, .int .u8 0, .int .u8 0, .int .i16 0, .bool false] := ⟨zero_of (by kernel_rfl)⟩
end
open Go.RowKit
section
variable {P : Program} {n : NM} {own : Own} {X : PMap} {env : Env} {t t' : TypeId} {x y : Operand} {k : IntKind} {p q : Int}
theorem op_remZ (hx : eev env x = some (.int k p)) (hy : eev env y = some (.int k q)) (hq : q ≠ 0) : OpY P n env own X (.binOp .rem t x y t') (.int k (p.tmod q)) := by
  intro a W oper hop ha _
  simp [execOp, hop, ha.eval hx, ha.eval hy, binOp, eqGuard, Op.intDiv, hq]
end
structure Cal where
  kind : Nat
  user : Nat
  role : Nat
  til : Int
  odd : Bool
def calC (c : Cal) : List Value := [.int .u8 (c.kind : Int), .int .u8 (c.user : Int), .int .u8 (c.role : Int), .int .i16 c.til, .bool c.odd]
theorem calC_len (c : Cal) : (calC c).length = 5 := rfl
def calOk (c : Cal) : Prop := c.kind < 256 ∧ c.user < 256 ∧ c.role < 256 ∧ -32768 ≤ c.til ∧ c.til ≤ 32767
def ofE (c : Cal) : En := if c.odd = true then (2 * (c.user : Int) - 1, (c.role : Int) - 1, 2 * c.til) else (((1 + c.user % 5 : Nat) : Int), ((1 + c.role % 8 : Nat) : Int), (c.til.tmod 20 + 20) % 20)
theorem of_spec12 {X : PMap} {c : Cal} (h : calOk c) : Spec Tryd.prog 30 [.agg #[.int .u8 (c.kind : Int), .int .u8 (c.user : Int), .int .u8 (c.role : Int), .int .i16 c.til, .bool c.odd]] X fun w _ => w = .agg #[.int .i64 (ofE c).1, .int .i64 (ofE c).2.1, .int .i64 (ofE c).2.2] := by
  obtain ⟨h1, h2, h3, h4, h5⟩ := h
  have t1 : c.til.tmod 20 < 20 := Int.tmod_lt_of_pos _ (by omega)
  have t2 : -20 < c.til.tmod 20 := by
    have := Int.lt_tmod_of_pos c.til (b := 20) (by omega)
    omega
  cases ho : c.odd with
  | true =>
    refine Spec.enter Tryd.func30 rfl Tryd.ntmps30 rfl ?_
    intro w0 hw0
    refine T.seq ?_
    refine T.region ?_
    refine SL.x (op_box rfl) rfl rfl ?_
    rintro _ _ _ ⟨B1, rfl, rfl, rfl⟩
    refine SL.x (op_alloc z33) rfl rfl ?_
    rintro _ _ _ ⟨B2, rfl, rfl, rfl⟩
    refine SL.nil ?_
    refine T.seq ?_
    refine T.seq ?_
    refine T.region ?_
    refine SL.y (op_fieldAddr fa61_4 rfl) rfl rfl ?_
    first | refine SL.y (op_load ty4 rfl (by repeat (first | exact AtO.here | apply AtO.there)) rfl) rfl rfl ?_ | refine SL.y (op_loadX ty4 rfl (by assumption) rfl) rfl rfl ?_
    refine SL.nil ?_
    -- cond
    refine T.condT rfl ?_
    refine T.seq ?_
    refine T.region ?_
    refine SL.y (op_fieldAddr fa61_1 rfl) rfl rfl ?_
    first | refine SL.y (op_load ty5 rfl (by repeat (first | exact AtO.here | apply AtO.there)) rfl) rfl rfl ?_ | refine SL.y (op_loadX ty5 rfl (by assumption) rfl) rfl rfl ?_
    first | refine SL.y (op_convI64 Tryd.underlying5 Tryd.underlying3 rfl (by omega) (by omega)) rfl rfl ?_ | refine SL.y (op_convert Tryd.underlying5 Tryd.underlying3 rfl) rfl rfl ?_
    -- to 8: op
    refine SL.y (op_mul rfl rfl (by omega) (by omega)) rfl rfl ?_
    -- to 9: op
    refine SL.y (op_sub rfl rfl (by omega) (by omega)) rfl rfl ?_
    refine SL.y (op_fieldAddr fa61_2 rfl) rfl rfl ?_
    first | refine SL.y (op_load ty5 rfl (by repeat (first | exact AtO.here | apply AtO.there)) rfl) rfl rfl ?_ | refine SL.y (op_loadX ty5 rfl (by assumption) rfl) rfl rfl ?_
    first | refine SL.y (op_convI64 Tryd.underlying5 Tryd.underlying3 rfl (by omega) (by omega)) rfl rfl ?_ | refine SL.y (op_convert Tryd.underlying5 Tryd.underlying3 rfl) rfl rfl ?_
    -- to 13: op
    refine SL.y (op_sub rfl rfl (by omega) (by omega)) rfl rfl ?_
    refine SL.y (op_fieldAddr fa61_3 rfl) rfl rfl ?_
    first | refine SL.y (op_load ty59 rfl (by repeat (first | exact AtO.here | apply AtO.there)) rfl) rfl rfl ?_ | refine SL.y (op_loadX ty59 rfl (by assumption) rfl) rfl rfl ?_
    first | refine SL.y (op_convI64 Tryd.underlying59 Tryd.underlying3 rfl (by omega) (by omega)) rfl rfl ?_ | refine SL.y (op_convert Tryd.underlying59 Tryd.underlying3 rfl) rfl rfl ?_
    -- to 17: op
    refine SL.y (op_mul rfl rfl (by omega) (by omega)) rfl rfl ?_
    refine SL.y (op_build st33 (qs := [(0, _), (1, _), (2, _)]) rfl rfl) rfl rfl ?_
    refine SL.x (op_store ty33 rfl rfl (by repeat (first | exact AtO.here | apply AtO.there)) rfl rfl rfl) rfl rfl ?_
    rintro _ _ _ ⟨rfl, rfl⟩
    refine SL.nil ?_
    -- ret
    refine T.ret1 rfl (ResIs.cell rfl ty33 (by repeat (first | exact AtO.here | apply AtO.there)) rfl) ?_
    rw [ofE, if_pos ho]; rfl
  | false =>
    refine Spec.enter Tryd.func30 rfl Tryd.ntmps30 rfl ?_
    intro w0 hw0
    refine T.seq ?_
    refine T.region ?_
    refine SL.x (op_box rfl) rfl rfl ?_
    rintro _ _ _ ⟨B1, rfl, rfl, rfl⟩
    refine SL.x (op_alloc z33) rfl rfl ?_
    rintro _ _ _ ⟨B2, rfl, rfl, rfl⟩
    refine SL.nil ?_
    refine T.seq ?_
    refine T.seq ?_
    refine T.region ?_
    refine SL.y (op_fieldAddr fa61_4 rfl) rfl rfl ?_
    first | refine SL.y (op_load ty4 rfl (by repeat (first | exact AtO.here | apply AtO.there)) rfl) rfl rfl ?_ | refine SL.y (op_loadX ty4 rfl (by assumption) rfl) rfl rfl ?_
    refine SL.nil ?_
    -- cond
    refine T.condF rfl ?_
    refine T.skip ?_
    refine T.seq ?_
    refine T.region ?_
    refine SL.y (op_fieldAddr fa61_1 rfl) rfl rfl ?_
    first | refine SL.y (op_load ty5 rfl (by repeat (first | exact AtO.here | apply AtO.there)) rfl) rfl rfl ?_ | refine SL.y (op_loadX ty5 rfl (by assumption) rfl) rfl rfl ?_
    -- to 21: op
    refine SL.y (op_remN (q := 5) rfl rfl rfl (by omega)) rfl rfl ?_
    first | refine SL.y (op_convI64 Tryd.underlying5 Tryd.underlying3 rfl (by omega) (by omega)) rfl rfl ?_ | refine SL.y (op_convert Tryd.underlying5 Tryd.underlying3 rfl) rfl rfl ?_
    -- to 23: op
    refine SL.y (op_addN (p := 1) rfl rfl (by omega)) rfl rfl ?_
    refine SL.y (op_fieldAddr fa61_2 rfl) rfl rfl ?_
    first | refine SL.y (op_load ty5 rfl (by repeat (first | exact AtO.here | apply AtO.there)) rfl) rfl rfl ?_ | refine SL.y (op_loadX ty5 rfl (by assumption) rfl) rfl rfl ?_
    -- to 26: op
    refine SL.y (op_remN (q := 8) rfl rfl rfl (by omega)) rfl rfl ?_
    first | refine SL.y (op_convI64 Tryd.underlying5 Tryd.underlying3 rfl (by omega) (by omega)) rfl rfl ?_ | refine SL.y (op_convert Tryd.underlying5 Tryd.underlying3 rfl) rfl rfl ?_
    -- to 28: op
    refine SL.y (op_addN (p := 1) rfl rfl (by omega)) rfl rfl ?_
    refine SL.y (op_fieldAddr fa61_3 rfl) rfl rfl ?_
    first | refine SL.y (op_load ty59 rfl (by repeat (first | exact AtO.here | apply AtO.there)) rfl) rfl rfl ?_ | refine SL.y (op_loadX ty59 rfl (by assumption) rfl) rfl rfl ?_
    first | refine SL.y (op_convI64 Tryd.underlying59 Tryd.underlying3 rfl (by omega) (by omega)) rfl rfl ?_ | refine SL.y (op_convert Tryd.underlying59 Tryd.underlying3 rfl) rfl rfl ?_
    -- to 32: op
    refine SL.y (op_remZ rfl rfl (by omega)) rfl rfl ?_
    -- to 33: op
    refine SL.y (op_add rfl rfl (by omega) (by omega)) rfl rfl ?_
    -- to 34: op
    refine SL.y (op_rem rfl rfl (by omega) (by omega)) rfl rfl ?_
    refine SL.y (op_build st33 (qs := [(0, _), (1, _), (2, _)]) rfl rfl) rfl rfl ?_
    refine SL.x (op_store ty33 rfl rfl (by repeat (first | exact AtO.here | apply AtO.there)) rfl rfl rfl) rfl rfl ?_
    rintro _ _ _ ⟨rfl, rfl⟩
    refine SL.nil ?_
    -- ret
    refine T.ret1 rfl (ResIs.cell rfl ty33 (by repeat (first | exact AtO.here | apply AtO.there)) rfl) ?_
    rw [ofE, if_neg (by rw [ho]; simp)]; rfl
theorem min20 (n : Nat) : min n 20 ≤ n := Nat.min_le_left ..
theorem plays_spec {X : PMap} (hT : Tab X) {s : Value} {l : List Cal} (h : RowR calC X s l) (hl : ∀ c ∈ l, calOk c) : Spec Tryd.prog 7 [s] X fun u _ => u = .bool true := by
  obtain ⟨A, cp, rfl⟩ := h.form
  have hcap : l.length ≤ cp ∧ cp ≤ maxLen ∨ l = [] := by
    rcases Nat.eq_zero_or_pos l.length with h0 | h0
    · exact .inr (List.eq_nil_of_length_eq_zero h0)
    · exact .inl (h.cap h0)
  have hcap2 : min l.length 20 ≤ cp := by
    rcases hcap with h1 | rfl
    · omega
    · simp
  have ht := h.take (sz := 5) (min20 l.length)
  refine Spec.enter Tryd.func7 rfl Tryd.ntmps7 rfl ?_
  intro w0 hw0
  refine T.seq ?_
  refine T.region ?_
  refine SL.y (op_assign rfl) rfl rfl ?_
  refine SL.nil ?_
  refine T.seq ?_
  refine T.seq ?_
  refine T.region ?_
  -- op
  refine SL.x (op_callF en12 (vs := []) rfl (awake12_spec hT)) rfl rfl ?_
  rintro _ _ X1 ⟨rfl, hX1, rfl⟩
  refine SL.y (op_not rfl) rfl rfl ?_
  refine SL.nil ?_
  refine T.condF rfl ?_
  refine T.skip ?_
  refine T.seq ?_
  refine T.region ?_
  -- op
  refine SL.x (op_callF en14 (vs := []) rfl (bnew_spec)) rfl rfl ?_
  rintro p0 _ X2 ⟨rfl, hX2, hp0⟩
  refine SL.x (op_buildSlice Tryd.underlying25 bs33 (qs := []) rfl rfl rfl rfl rfl) rfl rfl ?_
  rintro _ _ _ ⟨B15, rfl, rfl, rfl⟩
  refine SL.y (op_assign rfl) rfl rfl ?_
  refine SL.y (op_assign rfl) rfl rfl ?_
  refine SL.nil ?_
  refine T.seq ?_
  refine T.seq ?_
  refine T.region ?_
  refine SL.y (op_move rfl) rfl rfl ?_
  refine SL.y (op_move rfl) rfl rfl ?_
  refine SL.y (op_lenS Tryd.underlying58 rfl) rfl rfl ?_
  first | refine SL.y (op_minL rfl rfl (by omega)) rfl rfl ?_ | refine SL.y (op_minR rfl rfl (by omega)) rfl rfl ?_ | refine SL.y (op_minN rfl rfl) rfl rfl ?_ | refine SL.y (op_min rfl rfl rfl) rfl rfl ?_
  -- to 20: op
  refine SL.y (op_sliceHi Tryd.underlying58 ty61 rfl rfl hcap2) rfl rfl ?_
  refine SL.y (op_lenS Tryd.underlying58 rfl) rfl rfl ?_
  refine SL.y (op_move (v := .int .i64 ((0 : Nat) : Int)) rfl) rfl rfl ?_
  refine SL.nil ?_
  refine T.block ?_
  -- loop live [2, 3, 4, 20, 21, 22]
  refine T.drop B15 (by repeat (first | exact AtO.here | apply AtO.there)) ?_
  have hl2 : ∀ c ∈ l.take (min l.length 20), calOk c := fun c hc => hl c (List.mem_of_mem_take hc)
  have hn : (l.take (min l.length 20)).length = min l.length 20 := by simp
  have hcl : min l.length 20 ≤ 20 := Nat.min_le_right ..
  generalize l.take (min l.length 20) = cs at *
  generalize min l.length 20 = mn at *
  subst hn
  generalize slA A cp 0 5 = As at *
  have ht2 := (ht.mono hX1).mono hX2
  refine T.loopW (fun m env own X' => ∃ (k : Nat) (p sv : Value) (L : List En), m = cs.length - k ∧ k ≤ cs.length ∧ X2.le X' ∧ WfL L ∧ L.length ≤ k ∧ BkR X' p L ∧ SliceR X' sv L.length (enC L) ∧ env = [(3, p), (4, sv), (20, .slice As cs.length cp), (21, .int .i64 (cs.length : Int)), (22, .int .i64 (k : Int))] ∧ own = []) cs.length ⟨0, _, _, [], by simp, by omega, PMap.le_refl _, wf_nil, by simp, hp0, .inl ⟨rfl, rfl, _, _, rfl⟩, rfl, rfl⟩ (by repeat (first | exact Sub.nil | refine Sub.cons rfl ?_)) ?_
  rintro m _ _ X3 ⟨k, p, sv, L, rfl, hk, hX3, hw, hkL, hp, hs, rfl, rfl⟩
  obtain ⟨Av, cv, rfl⟩ := SliceR.form hs
  rcases Nat.lt_or_ge k cs.length with hkl | hkl
  · obtain ⟨c, hc⟩ : ∃ c, cs[k]? = some c := ⟨_, List.getElem?_eq_getElem hkl⟩
    have hco := hl2 c (List.mem_of_getElem? hc)
    obtain ⟨b2, pre, rfl, hB⟩ := (ht2.mono hX3).blk (by omega)
    obtain ⟨bp, svp, rfl, hbp, hsp⟩ := hp
    have hP : BkR X3 (.pointer (some ⟨bp, 0, none⟩)) L := ⟨bp, svp, rfl, hbp, hsp⟩
    have hck := hco.1
    refine T.seq ?_
    refine T.region ?_
    first | refine SL.y (op_lssT rfl rfl (by omega)) rfl rfl ?_ | refine SL.y (op_lssF rfl rfl (by omega)) rfl rfl ?_ | refine SL.y (op_lss rfl rfl) rfl rfl ?_
    refine SL.nil ?_
    refine T.seq ?_
    refine T.condT rfl ?_
    refine T.skip ?_
    refine T.seq ?_
    refine T.block ?_
    refine T.seq ?_
    refine T.region ?_
    first | refine SL.y (op_indexN Tryd.underlying58 ty61 rfl rfl (by omega)) rfl rfl ?_ | refine SL.y (op_index Tryd.underlying58 ty61 rfl rfl (by omega) (by omega)) rfl rfl ?_
    -- to 25: op
    refine SL.y (op_loadX ty61 rfl hB (row_read calC_len hc (by omega))) rfl rfl ?_
    refine SL.x (op_alloc z61) rfl rfl ?_
    rintro _ _ _ ⟨B6, rfl, rfl, rfl⟩
    refine SL.x (op_store ty61 rfl rfl (by repeat (first | exact AtO.here | apply AtO.there)) rfl rfl rfl) rfl rfl ?_
    rintro _ _ _ ⟨rfl, rfl⟩
    refine SL.nil ?_
    refine T.seq ?_
    refine T.region ?_
    first | refine SL.y (op_load ty61 rfl (by repeat (first | exact AtO.here | apply AtO.there)) rfl) rfl rfl ?_ | refine SL.y (op_loadX ty61 rfl (by assumption) rfl) rfl rfl ?_
    -- op
    refine SL.x (op_callF en30 (vs := [_]) rfl (of_spec12 hco)) rfl rfl ?_
    rintro _ _ X4 ⟨rfl, hX4, rfl⟩
    generalize ofE c = y at *
    refine SL.x (op_alloc z33) rfl rfl ?_
    rintro _ _ _ ⟨B7, rfl, rfl, rfl⟩
    refine SL.x (op_store ty33 rfl rfl (by repeat (first | exact AtO.here | apply AtO.there)) rfl rfl rfl) rfl rfl ?_
    rintro _ _ _ ⟨rfl, rfl⟩
    refine SL.nil ?_
    refine T.seq ?_
    refine T.region ?_
    refine SL.y (op_assign rfl) rfl rfl ?_
    refine SL.nil ?_
    refine T.seq ?_
    refine T.region ?_
    refine SL.y (op_assign (v := .int .i64 ((0 : Nat) : Int)) rfl) rfl rfl ?_
    refine SL.nil ?_
    refine T.seq ?_
    refine T.region ?_
    refine SL.y (op_assign rfl) rfl rfl ?_
    refine SL.nil ?_
    refine T.seq ?_
    refine T.region ?_
    refine SL.y (op_assign (v := .int .i64 ((0 : Nat) : Int)) rfl) rfl rfl ?_
    refine SL.nil ?_
    refine T.seq ?_
    refine T.seq ?_
    refine T.region ?_
    refine SL.y (op_fieldAddr fa61_0 rfl) rfl rfl ?_
    first | refine SL.y (op_load ty5 rfl (by repeat (first | exact AtO.here | apply AtO.there)) rfl) rfl rfl ?_ | refine SL.y (op_loadX ty5 rfl (by assumption) rfl) rfl rfl ?_
    -- to 30: op
    refine SL.y (op_remN (q := 6) rfl rfl rfl (by omega)) rfl rfl ?_
    have hq6 : c.kind % 6 < 6 := Nat.mod_lt _ (by omega)
    generalize c.kind % 6 = q at *
    by_cases h3 : q = 3
    · skip
      refine SL.nil ?_
      refine T.block ?_
      refine T.seq ?_
      refine T.seq ?_
      refine T.region ?_
      first | refine SL.y (op_eqlT rfl rfl (by omega)) rfl rfl ?_ | refine SL.y (op_eqlF rfl rfl (by omega)) rfl rfl ?_ | refine SL.y (op_eql rfl rfl) rfl rfl ?_
      refine SL.y (op_assign rfl) rfl rfl ?_
      refine SL.nil ?_
      refine T.condT rfl ?_
      refine T.skip ?_
      refine T.condT rfl ?_
      refine T.seq ?_
      refine T.region ?_
      refine SL.y (op_move rfl) rfl rfl ?_
      refine SL.y (op_fieldAddr fa33_0 rfl) rfl rfl ?_
      first | refine SL.y (op_load ty3 rfl (by repeat (first | exact AtO.here | apply AtO.there)) rfl) rfl rfl ?_ | refine SL.y (op_loadX ty3 rfl (by assumption) rfl) rfl rfl ?_
      refine SL.y (op_fieldAddr fa33_1 rfl) rfl rfl ?_
      first | refine SL.y (op_load ty3 rfl (by repeat (first | exact AtO.here | apply AtO.there)) rfl) rfl rfl ?_ | refine SL.y (op_loadX ty3 rfl (by assumption) rfl) rfl rfl ?_
      -- op
      refine SL.x (op_callF en25 (vs := [_, _, _]) rfl (revoke_spec (hP.mono hX4) hw (by omega) (u := y.1) (r := y.2.1))) rfl rfl ?_
      rintro w5 _ X5 ⟨rfl, hX5, hw5⟩
      have hw5' := hw5
      cases hh : hasE L y.1 y.2.1 with
      | true =>
        rw [if_pos hh, del_eq hw hh] at hw5
        obtain ⟨p5, rfl, hp5⟩ := hw5
        have hwr := rev_wf hw y.1 y.2.1
        have hlr := rev_len hw hh
        refine SL.y (op_move rfl) rfl rfl ?_
        refine SL.y (op_extract rfl rfl) rfl rfl ?_
        refine SL.y (op_extract rfl rfl) rfl rfl ?_
        refine SL.y (op_assign rfl) rfl rfl ?_
        refine SL.y (op_assign rfl) rfl rfl ?_
        refine SL.nil ?_
        refine T.region ?_
        refine SL.y (op_move rfl) rfl rfl ?_
        refine SL.y (op_fieldAddr fa33_0 rfl) rfl rfl ?_
        first | refine SL.y (op_load ty3 rfl (by repeat (first | exact AtO.here | apply AtO.there)) rfl) rfl rfl ?_ | refine SL.y (op_loadX ty3 rfl (by assumption) rfl) rfl rfl ?_
        refine SL.y (op_fieldAddr fa33_1 rfl) rfl rfl ?_
        first | refine SL.y (op_load ty3 rfl (by repeat (first | exact AtO.here | apply AtO.there)) rfl) rfl rfl ?_ | refine SL.y (op_loadX ty3 rfl (by assumption) rfl) rfl rfl ?_
        -- op
        refine SL.x (op_callF en31 (vs := [_, _, _]) rfl (rrevoke_spec ((hs.mono hX4).mono hX5) (by omega) (u := y.1) (r := y.2.1))) rfl rfl ?_
        rintro w6 _ X6 ⟨rfl, hX6, hw6⟩
        rw [if_neg (by omega)] at hw6
        obtain ⟨s6, rfl, hs6⟩ := hw6
        obtain ⟨A6, c6, rfl⟩ := SliceR.form hs6
        have hp6 := hp5.mono hX6
        obtain ⟨bn, svn, rfl, hbn, hsn⟩ := hp6
        have hP6 : BkR X6 (.pointer (some ⟨bn, 0, none⟩)) (revE L y.1 y.2.1) := ⟨bn, svn, rfl, hbn, hsn⟩
        refine SL.y (op_move rfl) rfl rfl ?_
        refine SL.y (op_extract rfl rfl) rfl rfl ?_
        refine SL.y (op_extract rfl rfl) rfl rfl ?_
        refine SL.y (op_assign rfl) rfl rfl ?_
        refine SL.y (op_assign rfl) rfl rfl ?_
        refine SL.nil ?_
        refine T.blk ?_
        refine T.seq ?_
        refine T.seq ?_
        refine T.region ?_
        refine SL.y (op_move rfl) rfl rfl ?_
        refine SL.y (op_move rfl) rfl rfl ?_
        first | refine SL.y (op_neqT rfl rfl (by omega)) rfl rfl ?_ | refine SL.y (op_neqF rfl rfl (by omega)) rfl rfl ?_ | refine SL.y (op_neq rfl rfl) rfl rfl ?_
        refine SL.y (op_move rfl) rfl rfl ?_
        first | refine SL.skip rfl rfl ?_ | refine SL.y (op_move rfl) rfl rfl ?_
        first | refine SL.skip rfl rfl ?_ | refine SL.y (op_move rfl) rfl rfl ?_
        -- op
        refine SL.x (op_callF en29 (vs := [_, _]) rfl (is_spec (hP.mono ((hX4.trans' hX5).trans' hX6)) (hs.mono ((hX4.trans' hX5).trans' hX6)) (by omega))) rfl rfl ?_
        rintro _ _ X7 ⟨rfl, hX7, rfl⟩
        rw [decide_eq_true rfl]
        first | refine SL.skip rfl rfl ?_ | refine SL.y (op_not rfl) rfl rfl ?_
        first | refine SL.y (op_pickT rfl rfl) rfl rfl ?_ | refine SL.y (op_pickF rfl rfl) rfl rfl ?_ | refine SL.y (op_pickB rfl rfl rfl) rfl rfl ?_
        refine SL.y (op_move rfl) rfl rfl ?_
        first | refine SL.skip rfl rfl ?_ | refine SL.y (op_move rfl) rfl rfl ?_
        first | refine SL.skip rfl rfl ?_ | refine SL.y (op_neqT rfl rfl (by omega)) rfl rfl ?_ | refine SL.y (op_neqF rfl rfl (by omega)) rfl rfl ?_ | refine SL.y (op_neq rfl rfl) rfl rfl ?_
        first | refine SL.skip rfl rfl ?_ | refine SL.y (op_move rfl) rfl rfl ?_
        first | refine SL.skip rfl rfl ?_ | refine SL.y (op_move rfl) rfl rfl ?_
        first | refine SL.skip rfl rfl ?_ | refine SL.y (op_neqNil Tryd.underlying24 rfl rfl) rfl rfl ?_
        first | refine SL.skip rfl rfl ?_ | refine SL.y (op_pickT rfl rfl) rfl rfl ?_ | refine SL.y (op_pickF rfl rfl) rfl rfl ?_ | refine SL.y (op_pickB rfl rfl rfl) rfl rfl ?_
        first | refine SL.y (op_pickT rfl rfl) rfl rfl ?_ | refine SL.y (op_pickF rfl rfl) rfl rfl ?_ | refine SL.y (op_pickB rfl rfl rfl) rfl rfl ?_
        refine SL.nil ?_
        refine T.condF rfl ?_
        refine T.skip ?_
        refine T.seq ?_
        refine T.seq ?_
        refine T.region ?_
        refine SL.y (op_move rfl) rfl rfl ?_
        first | refine SL.y (op_eqlT rfl rfl (by omega)) rfl rfl ?_ | refine SL.y (op_eqlF rfl rfl (by omega)) rfl rfl ?_ | refine SL.y (op_eql rfl rfl) rfl rfl ?_
        refine SL.nil ?_
        refine T.condT rfl ?_
        refine T.region ?_
        refine SL.y (op_move rfl) rfl rfl ?_
        refine SL.y (op_move rfl) rfl rfl ?_
        refine SL.y (op_assign rfl) rfl rfl ?_
        refine SL.y (op_assign rfl) rfl rfl ?_
        refine SL.nil ?_
        refine T.seq ?_
        refine T.region ?_
        refine SL.y (op_move rfl) rfl rfl ?_
        refine SL.y (op_move rfl) rfl rfl ?_
        -- op
        refine SL.x (op_callF en29 (vs := [_, _]) rfl (is_spec (hP6.mono hX7) (hs6.mono hX7) (by omega))) rfl rfl ?_
        rintro _ _ X8 ⟨rfl, hX8, rfl⟩
        rw [decide_eq_true rfl]
        refine SL.y (op_not rfl) rfl rfl ?_
        refine SL.nil ?_
        refine T.condF rfl ?_
        refine T.skip ?_
        refine T.blk ?_
        refine T.region ?_
        first | refine SL.y (op_addN (q := 1) rfl rfl (by omega)) rfl rfl ?_ | refine SL.y (op_add rfl rfl (by omega) (by omega)) rfl rfl ?_ | refine SL.y (op_addW rfl rfl) rfl rfl ?_
        refine SL.y (op_move rfl) rfl rfl ?_
        refine SL.nil ?_
        -- cut
        refine T.drop B6 (by repeat (first | exact AtO.here | apply AtO.there)) ?_
        refine T.drop B7 (by repeat (first | exact AtO.here | apply AtO.there)) ?_
        exact T.backW (cs.length - (k + 1)) (by omega) ⟨k + 1, _, _, _, rfl, by omega, ((hX3.trans' ((hX4.trans' hX5).trans' hX6)).trans' hX7).trans' hX8, hwr, by omega, (hP6.mono hX7).mono hX8, (hs6.mono hX7).mono hX8, rfl, rfl⟩ (by repeat (first | exact Sub.nil | refine Sub.cons rfl ?_))
      | false =>
        rw [if_neg (by rw [hh]; simp)] at hw5
        subst hw5
        have hlr := (rev_len_eq hw).2 hh
        refine SL.y (op_move rfl) rfl rfl ?_
        refine SL.y (op_extract rfl rfl) rfl rfl ?_
        refine SL.y (op_extract rfl rfl) rfl rfl ?_
        refine SL.y (op_assign rfl) rfl rfl ?_
        refine SL.y (op_assign rfl) rfl rfl ?_
        refine SL.nil ?_
        refine T.region ?_
        refine SL.y (op_move rfl) rfl rfl ?_
        refine SL.y (op_fieldAddr fa33_0 rfl) rfl rfl ?_
        first | refine SL.y (op_load ty3 rfl (by repeat (first | exact AtO.here | apply AtO.there)) rfl) rfl rfl ?_ | refine SL.y (op_loadX ty3 rfl (by assumption) rfl) rfl rfl ?_
        refine SL.y (op_fieldAddr fa33_1 rfl) rfl rfl ?_
        first | refine SL.y (op_load ty3 rfl (by repeat (first | exact AtO.here | apply AtO.there)) rfl) rfl rfl ?_ | refine SL.y (op_loadX ty3 rfl (by assumption) rfl) rfl rfl ?_
        -- op
        refine SL.x (op_callF en31 (vs := [_, _, _]) rfl (rrevoke_spec ((hs.mono hX4).mono hX5) (by omega) (u := y.1) (r := y.2.1))) rfl rfl ?_
        rintro w6 _ X6 ⟨rfl, hX6, hw6⟩
        rw [if_pos hlr] at hw6
        subst hw6
        refine SL.y (op_move rfl) rfl rfl ?_
        refine SL.y (op_extract rfl rfl) rfl rfl ?_
        refine SL.y (op_extract rfl rfl) rfl rfl ?_
        refine SL.y (op_assign rfl) rfl rfl ?_
        refine SL.y (op_assign rfl) rfl rfl ?_
        refine SL.nil ?_
        refine T.blk ?_
        refine T.seq ?_
        refine T.seq ?_
        refine T.region ?_
        refine SL.y (op_move rfl) rfl rfl ?_
        refine SL.y (op_move rfl) rfl rfl ?_
        first | refine SL.y (op_neqT rfl rfl (by omega)) rfl rfl ?_ | refine SL.y (op_neqF rfl rfl (by omega)) rfl rfl ?_ | refine SL.y (op_neq rfl rfl) rfl rfl ?_
        refine SL.y (op_move rfl) rfl rfl ?_
        first | refine SL.skip rfl rfl ?_ | refine SL.y (op_move rfl) rfl rfl ?_
        first | refine SL.skip rfl rfl ?_ | refine SL.y (op_move rfl) rfl rfl ?_
        -- op
        refine SL.x (op_callF en29 (vs := [_, _]) rfl (is_spec (hP.mono ((hX4.trans' hX5).trans' hX6)) (hs.mono ((hX4.trans' hX5).trans' hX6)) (by omega))) rfl rfl ?_
        rintro _ _ X7 ⟨rfl, hX7, rfl⟩
        rw [decide_eq_true rfl]
        first | refine SL.skip rfl rfl ?_ | refine SL.y (op_not rfl) rfl rfl ?_
        first | refine SL.y (op_pickT rfl rfl) rfl rfl ?_ | refine SL.y (op_pickF rfl rfl) rfl rfl ?_ | refine SL.y (op_pickB rfl rfl rfl) rfl rfl ?_
        refine SL.y (op_move rfl) rfl rfl ?_
        first | refine SL.skip rfl rfl ?_ | refine SL.y (op_move rfl) rfl rfl ?_
        first | refine SL.skip rfl rfl ?_ | refine SL.y (op_neqT rfl rfl (by omega)) rfl rfl ?_ | refine SL.y (op_neqF rfl rfl (by omega)) rfl rfl ?_ | refine SL.y (op_neq rfl rfl) rfl rfl ?_
        first | refine SL.skip rfl rfl ?_ | refine SL.y (op_move rfl) rfl rfl ?_
        first | refine SL.skip rfl rfl ?_ | refine SL.y (op_move rfl) rfl rfl ?_
        first | refine SL.skip rfl rfl ?_ | refine SL.y (op_neqNil Tryd.underlying24 rfl rfl) rfl rfl ?_
        first | refine SL.skip rfl rfl ?_ | refine SL.y (op_pickT rfl rfl) rfl rfl ?_ | refine SL.y (op_pickF rfl rfl) rfl rfl ?_ | refine SL.y (op_pickB rfl rfl rfl) rfl rfl ?_
        first | refine SL.y (op_pickT rfl rfl) rfl rfl ?_ | refine SL.y (op_pickF rfl rfl) rfl rfl ?_ | refine SL.y (op_pickB rfl rfl rfl) rfl rfl ?_
        refine SL.nil ?_
        refine T.condF rfl ?_
        refine T.skip ?_
        refine T.seq ?_
        refine T.seq ?_
        refine T.region ?_
        refine SL.y (op_move rfl) rfl rfl ?_
        first | refine SL.y (op_eqlT rfl rfl (by omega)) rfl rfl ?_ | refine SL.y (op_eqlF rfl rfl (by omega)) rfl rfl ?_ | refine SL.y (op_eql rfl rfl) rfl rfl ?_
        refine SL.nil ?_
        refine T.condF rfl ?_
        refine T.skip ?_
        refine T.seq ?_
        refine T.region ?_
        refine SL.y (op_move rfl) rfl rfl ?_
        refine SL.y (op_move rfl) rfl rfl ?_
        -- op
        refine SL.x (op_callF en29 (vs := [_, _]) rfl (is_spec ((hP.mono ((hX4.trans' hX5).trans' hX6)).mono hX7) ((hs.mono ((hX4.trans' hX5).trans' hX6)).mono hX7) (by omega))) rfl rfl ?_
        rintro _ _ X8 ⟨rfl, hX8, rfl⟩
        rw [decide_eq_true rfl]
        refine SL.y (op_not rfl) rfl rfl ?_
        refine SL.nil ?_
        refine T.condF rfl ?_
        refine T.skip ?_
        refine T.blk ?_
        refine T.region ?_
        first | refine SL.y (op_addN (q := 1) rfl rfl (by omega)) rfl rfl ?_ | refine SL.y (op_add rfl rfl (by omega) (by omega)) rfl rfl ?_ | refine SL.y (op_addW rfl rfl) rfl rfl ?_
        refine SL.y (op_move rfl) rfl rfl ?_
        refine SL.nil ?_
        -- cut
        refine T.drop B6 (by repeat (first | exact AtO.here | apply AtO.there)) ?_
        refine T.drop B7 (by repeat (first | exact AtO.here | apply AtO.there)) ?_
        exact T.backW (cs.length - (k + 1)) (by omega) ⟨k + 1, _, _, L, rfl, by omega, ((hX3.trans' ((hX4.trans' hX5).trans' hX6)).trans' hX7).trans' hX8, hw, by omega, ((hP.mono ((hX4.trans' hX5).trans' hX6)).mono hX7).mono hX8, ((hs.mono ((hX4.trans' hX5).trans' hX6)).mono hX7).mono hX8, rfl, rfl⟩ (by repeat (first | exact Sub.nil | refine Sub.cons rfl ?_))
    · by_cases h4 : q = 4
      · skip
        refine SL.nil ?_
        refine T.block ?_
        refine T.seq ?_
        refine T.seq ?_
        refine T.region ?_
        first | refine SL.y (op_eqlT rfl rfl (by omega)) rfl rfl ?_ | refine SL.y (op_eqlF rfl rfl (by omega)) rfl rfl ?_ | refine SL.y (op_eql rfl rfl) rfl rfl ?_
        refine SL.y (op_assign rfl) rfl rfl ?_
        refine SL.nil ?_
        refine T.condF rfl ?_
        refine T.region ?_
        first | refine SL.y (op_eqlT rfl rfl (by omega)) rfl rfl ?_ | refine SL.y (op_eqlF rfl rfl (by omega)) rfl rfl ?_ | refine SL.y (op_eql rfl rfl) rfl rfl ?_
        refine SL.y (op_assign rfl) rfl rfl ?_
        refine SL.nil ?_
        refine T.condT rfl ?_
        refine T.seq ?_
        refine T.region ?_
        refine SL.y (op_move rfl) rfl rfl ?_
        refine SL.y (op_fieldAddr fa33_0 rfl) rfl rfl ?_
        first | refine SL.y (op_load ty3 rfl (by repeat (first | exact AtO.here | apply AtO.there)) rfl) rfl rfl ?_ | refine SL.y (op_loadX ty3 rfl (by assumption) rfl) rfl rfl ?_
        refine SL.y (op_fieldAddr fa33_1 rfl) rfl rfl ?_
        first | refine SL.y (op_load ty3 rfl (by repeat (first | exact AtO.here | apply AtO.there)) rfl) rfl rfl ?_ | refine SL.y (op_loadX ty3 rfl (by assumption) rfl) rfl rfl ?_
        -- op
        refine SL.x (op_callF en25 (vs := [_, _, _]) rfl (revoke_spec (hP.mono hX4) hw (by omega) (u := y.1) (r := y.2.1))) rfl rfl ?_
        rintro w5 _ X5 ⟨rfl, hX5, hw5⟩
        have hw5' := hw5
        cases hh : hasE L y.1 y.2.1 with
        | true =>
          rw [if_pos hh, del_eq hw hh] at hw5
          obtain ⟨p5, rfl, hp5⟩ := hw5
          have hwr := rev_wf hw y.1 y.2.1
          have hlr := rev_len hw hh
          refine SL.y (op_move rfl) rfl rfl ?_
          refine SL.y (op_extract rfl rfl) rfl rfl ?_
          refine SL.y (op_extract rfl rfl) rfl rfl ?_
          refine SL.y (op_assign rfl) rfl rfl ?_
          refine SL.y (op_assign rfl) rfl rfl ?_
          refine SL.nil ?_
          refine T.region ?_
          refine SL.y (op_move rfl) rfl rfl ?_
          refine SL.y (op_fieldAddr fa33_0 rfl) rfl rfl ?_
          first | refine SL.y (op_load ty3 rfl (by repeat (first | exact AtO.here | apply AtO.there)) rfl) rfl rfl ?_ | refine SL.y (op_loadX ty3 rfl (by assumption) rfl) rfl rfl ?_
          refine SL.y (op_fieldAddr fa33_1 rfl) rfl rfl ?_
          first | refine SL.y (op_load ty3 rfl (by repeat (first | exact AtO.here | apply AtO.there)) rfl) rfl rfl ?_ | refine SL.y (op_loadX ty3 rfl (by assumption) rfl) rfl rfl ?_
          -- op
          refine SL.x (op_callF en31 (vs := [_, _, _]) rfl (rrevoke_spec ((hs.mono hX4).mono hX5) (by omega) (u := y.1) (r := y.2.1))) rfl rfl ?_
          rintro w6 _ X6 ⟨rfl, hX6, hw6⟩
          rw [if_neg (by omega)] at hw6
          obtain ⟨s6, rfl, hs6⟩ := hw6
          obtain ⟨A6, c6, rfl⟩ := SliceR.form hs6
          have hp6 := hp5.mono hX6
          obtain ⟨bn, svn, rfl, hbn, hsn⟩ := hp6
          have hP6 : BkR X6 (.pointer (some ⟨bn, 0, none⟩)) (revE L y.1 y.2.1) := ⟨bn, svn, rfl, hbn, hsn⟩
          refine SL.y (op_move rfl) rfl rfl ?_
          refine SL.y (op_extract rfl rfl) rfl rfl ?_
          refine SL.y (op_extract rfl rfl) rfl rfl ?_
          refine SL.y (op_assign rfl) rfl rfl ?_
          refine SL.y (op_assign rfl) rfl rfl ?_
          refine SL.nil ?_
          refine T.blk ?_
          refine T.seq ?_
          refine T.seq ?_
          refine T.region ?_
          refine SL.y (op_move rfl) rfl rfl ?_
          refine SL.y (op_move rfl) rfl rfl ?_
          first | refine SL.y (op_neqT rfl rfl (by omega)) rfl rfl ?_ | refine SL.y (op_neqF rfl rfl (by omega)) rfl rfl ?_ | refine SL.y (op_neq rfl rfl) rfl rfl ?_
          refine SL.y (op_move rfl) rfl rfl ?_
          first | refine SL.skip rfl rfl ?_ | refine SL.y (op_move rfl) rfl rfl ?_
          first | refine SL.skip rfl rfl ?_ | refine SL.y (op_move rfl) rfl rfl ?_
          -- op
          refine SL.x (op_callF en29 (vs := [_, _]) rfl (is_spec (hP.mono ((hX4.trans' hX5).trans' hX6)) (hs.mono ((hX4.trans' hX5).trans' hX6)) (by omega))) rfl rfl ?_
          rintro _ _ X7 ⟨rfl, hX7, rfl⟩
          rw [decide_eq_true rfl]
          first | refine SL.skip rfl rfl ?_ | refine SL.y (op_not rfl) rfl rfl ?_
          first | refine SL.y (op_pickT rfl rfl) rfl rfl ?_ | refine SL.y (op_pickF rfl rfl) rfl rfl ?_ | refine SL.y (op_pickB rfl rfl rfl) rfl rfl ?_
          refine SL.y (op_move rfl) rfl rfl ?_
          first | refine SL.skip rfl rfl ?_ | refine SL.y (op_move rfl) rfl rfl ?_
          first | refine SL.skip rfl rfl ?_ | refine SL.y (op_neqT rfl rfl (by omega)) rfl rfl ?_ | refine SL.y (op_neqF rfl rfl (by omega)) rfl rfl ?_ | refine SL.y (op_neq rfl rfl) rfl rfl ?_
          first | refine SL.skip rfl rfl ?_ | refine SL.y (op_move rfl) rfl rfl ?_
          first | refine SL.skip rfl rfl ?_ | refine SL.y (op_move rfl) rfl rfl ?_
          first | refine SL.skip rfl rfl ?_ | refine SL.y (op_neqNil Tryd.underlying24 rfl rfl) rfl rfl ?_
          first | refine SL.skip rfl rfl ?_ | refine SL.y (op_pickT rfl rfl) rfl rfl ?_ | refine SL.y (op_pickF rfl rfl) rfl rfl ?_ | refine SL.y (op_pickB rfl rfl rfl) rfl rfl ?_
          first | refine SL.y (op_pickT rfl rfl) rfl rfl ?_ | refine SL.y (op_pickF rfl rfl) rfl rfl ?_ | refine SL.y (op_pickB rfl rfl rfl) rfl rfl ?_
          refine SL.nil ?_
          refine T.condF rfl ?_
          refine T.skip ?_
          refine T.seq ?_
          refine T.seq ?_
          refine T.region ?_
          refine SL.y (op_move rfl) rfl rfl ?_
          first | refine SL.y (op_eqlT rfl rfl (by omega)) rfl rfl ?_ | refine SL.y (op_eqlF rfl rfl (by omega)) rfl rfl ?_ | refine SL.y (op_eql rfl rfl) rfl rfl ?_
          refine SL.nil ?_
          refine T.condT rfl ?_
          refine T.region ?_
          refine SL.y (op_move rfl) rfl rfl ?_
          refine SL.y (op_move rfl) rfl rfl ?_
          refine SL.y (op_assign rfl) rfl rfl ?_
          refine SL.y (op_assign rfl) rfl rfl ?_
          refine SL.nil ?_
          refine T.seq ?_
          refine T.region ?_
          refine SL.y (op_move rfl) rfl rfl ?_
          refine SL.y (op_move rfl) rfl rfl ?_
          -- op
          refine SL.x (op_callF en29 (vs := [_, _]) rfl (is_spec (hP6.mono hX7) (hs6.mono hX7) (by omega))) rfl rfl ?_
          rintro _ _ X8 ⟨rfl, hX8, rfl⟩
          rw [decide_eq_true rfl]
          refine SL.y (op_not rfl) rfl rfl ?_
          refine SL.nil ?_
          refine T.condF rfl ?_
          refine T.skip ?_
          refine T.blk ?_
          refine T.region ?_
          first | refine SL.y (op_addN (q := 1) rfl rfl (by omega)) rfl rfl ?_ | refine SL.y (op_add rfl rfl (by omega) (by omega)) rfl rfl ?_ | refine SL.y (op_addW rfl rfl) rfl rfl ?_
          refine SL.y (op_move rfl) rfl rfl ?_
          refine SL.nil ?_
          -- cut
          refine T.drop B6 (by repeat (first | exact AtO.here | apply AtO.there)) ?_
          refine T.drop B7 (by repeat (first | exact AtO.here | apply AtO.there)) ?_
          exact T.backW (cs.length - (k + 1)) (by omega) ⟨k + 1, _, _, _, rfl, by omega, ((hX3.trans' ((hX4.trans' hX5).trans' hX6)).trans' hX7).trans' hX8, hwr, by omega, (hP6.mono hX7).mono hX8, (hs6.mono hX7).mono hX8, rfl, rfl⟩ (by repeat (first | exact Sub.nil | refine Sub.cons rfl ?_))
        | false =>
          rw [if_neg (by rw [hh]; simp)] at hw5
          subst hw5
          have hlr := (rev_len_eq hw).2 hh
          refine SL.y (op_move rfl) rfl rfl ?_
          refine SL.y (op_extract rfl rfl) rfl rfl ?_
          refine SL.y (op_extract rfl rfl) rfl rfl ?_
          refine SL.y (op_assign rfl) rfl rfl ?_
          refine SL.y (op_assign rfl) rfl rfl ?_
          refine SL.nil ?_
          refine T.region ?_
          refine SL.y (op_move rfl) rfl rfl ?_
          refine SL.y (op_fieldAddr fa33_0 rfl) rfl rfl ?_
          first | refine SL.y (op_load ty3 rfl (by repeat (first | exact AtO.here | apply AtO.there)) rfl) rfl rfl ?_ | refine SL.y (op_loadX ty3 rfl (by assumption) rfl) rfl rfl ?_
          refine SL.y (op_fieldAddr fa33_1 rfl) rfl rfl ?_
          first | refine SL.y (op_load ty3 rfl (by repeat (first | exact AtO.here | apply AtO.there)) rfl) rfl rfl ?_ | refine SL.y (op_loadX ty3 rfl (by assumption) rfl) rfl rfl ?_
          -- op
          refine SL.x (op_callF en31 (vs := [_, _, _]) rfl (rrevoke_spec ((hs.mono hX4).mono hX5) (by omega) (u := y.1) (r := y.2.1))) rfl rfl ?_
          rintro w6 _ X6 ⟨rfl, hX6, hw6⟩
          rw [if_pos hlr] at hw6
          subst hw6
          refine SL.y (op_move rfl) rfl rfl ?_
          refine SL.y (op_extract rfl rfl) rfl rfl ?_
          refine SL.y (op_extract rfl rfl) rfl rfl ?_
          refine SL.y (op_assign rfl) rfl rfl ?_
          refine SL.y (op_assign rfl) rfl rfl ?_
          refine SL.nil ?_
          refine T.blk ?_
          refine T.seq ?_
          refine T.seq ?_
          refine T.region ?_
          refine SL.y (op_move rfl) rfl rfl ?_
          refine SL.y (op_move rfl) rfl rfl ?_
          first | refine SL.y (op_neqT rfl rfl (by omega)) rfl rfl ?_ | refine SL.y (op_neqF rfl rfl (by omega)) rfl rfl ?_ | refine SL.y (op_neq rfl rfl) rfl rfl ?_
          refine SL.y (op_move rfl) rfl rfl ?_
          first | refine SL.skip rfl rfl ?_ | refine SL.y (op_move rfl) rfl rfl ?_
          first | refine SL.skip rfl rfl ?_ | refine SL.y (op_move rfl) rfl rfl ?_
          -- op
          refine SL.x (op_callF en29 (vs := [_, _]) rfl (is_spec (hP.mono ((hX4.trans' hX5).trans' hX6)) (hs.mono ((hX4.trans' hX5).trans' hX6)) (by omega))) rfl rfl ?_
          rintro _ _ X7 ⟨rfl, hX7, rfl⟩
          rw [decide_eq_true rfl]
          first | refine SL.skip rfl rfl ?_ | refine SL.y (op_not rfl) rfl rfl ?_
          first | refine SL.y (op_pickT rfl rfl) rfl rfl ?_ | refine SL.y (op_pickF rfl rfl) rfl rfl ?_ | refine SL.y (op_pickB rfl rfl rfl) rfl rfl ?_
          refine SL.y (op_move rfl) rfl rfl ?_
          first | refine SL.skip rfl rfl ?_ | refine SL.y (op_move rfl) rfl rfl ?_
          first | refine SL.skip rfl rfl ?_ | refine SL.y (op_neqT rfl rfl (by omega)) rfl rfl ?_ | refine SL.y (op_neqF rfl rfl (by omega)) rfl rfl ?_ | refine SL.y (op_neq rfl rfl) rfl rfl ?_
          first | refine SL.skip rfl rfl ?_ | refine SL.y (op_move rfl) rfl rfl ?_
          first | refine SL.skip rfl rfl ?_ | refine SL.y (op_move rfl) rfl rfl ?_
          first | refine SL.skip rfl rfl ?_ | refine SL.y (op_neqNil Tryd.underlying24 rfl rfl) rfl rfl ?_
          first | refine SL.skip rfl rfl ?_ | refine SL.y (op_pickT rfl rfl) rfl rfl ?_ | refine SL.y (op_pickF rfl rfl) rfl rfl ?_ | refine SL.y (op_pickB rfl rfl rfl) rfl rfl ?_
          first | refine SL.y (op_pickT rfl rfl) rfl rfl ?_ | refine SL.y (op_pickF rfl rfl) rfl rfl ?_ | refine SL.y (op_pickB rfl rfl rfl) rfl rfl ?_
          refine SL.nil ?_
          refine T.condF rfl ?_
          refine T.skip ?_
          refine T.seq ?_
          refine T.seq ?_
          refine T.region ?_
          refine SL.y (op_move rfl) rfl rfl ?_
          first | refine SL.y (op_eqlT rfl rfl (by omega)) rfl rfl ?_ | refine SL.y (op_eqlF rfl rfl (by omega)) rfl rfl ?_ | refine SL.y (op_eql rfl rfl) rfl rfl ?_
          refine SL.nil ?_
          refine T.condF rfl ?_
          refine T.skip ?_
          refine T.seq ?_
          refine T.region ?_
          refine SL.y (op_move rfl) rfl rfl ?_
          refine SL.y (op_move rfl) rfl rfl ?_
          -- op
          refine SL.x (op_callF en29 (vs := [_, _]) rfl (is_spec ((hP.mono ((hX4.trans' hX5).trans' hX6)).mono hX7) ((hs.mono ((hX4.trans' hX5).trans' hX6)).mono hX7) (by omega))) rfl rfl ?_
          rintro _ _ X8 ⟨rfl, hX8, rfl⟩
          rw [decide_eq_true rfl]
          refine SL.y (op_not rfl) rfl rfl ?_
          refine SL.nil ?_
          refine T.condF rfl ?_
          refine T.skip ?_
          refine T.blk ?_
          refine T.region ?_
          first | refine SL.y (op_addN (q := 1) rfl rfl (by omega)) rfl rfl ?_ | refine SL.y (op_add rfl rfl (by omega) (by omega)) rfl rfl ?_ | refine SL.y (op_addW rfl rfl) rfl rfl ?_
          refine SL.y (op_move rfl) rfl rfl ?_
          refine SL.nil ?_
          -- cut
          refine T.drop B6 (by repeat (first | exact AtO.here | apply AtO.there)) ?_
          refine T.drop B7 (by repeat (first | exact AtO.here | apply AtO.there)) ?_
          exact T.backW (cs.length - (k + 1)) (by omega) ⟨k + 1, _, _, L, rfl, by omega, ((hX3.trans' ((hX4.trans' hX5).trans' hX6)).trans' hX7).trans' hX8, hw, by omega, ((hP.mono ((hX4.trans' hX5).trans' hX6)).mono hX7).mono hX8, ((hs.mono ((hX4.trans' hX5).trans' hX6)).mono hX7).mono hX8, rfl, rfl⟩ (by repeat (first | exact Sub.nil | refine Sub.cons rfl ?_))
      · by_cases h5 : q = 5
        · skip
          refine SL.nil ?_
          refine T.block ?_
          refine T.seq ?_
          refine T.seq ?_
          refine T.region ?_
          first | refine SL.y (op_eqlT rfl rfl (by omega)) rfl rfl ?_ | refine SL.y (op_eqlF rfl rfl (by omega)) rfl rfl ?_ | refine SL.y (op_eql rfl rfl) rfl rfl ?_
          refine SL.y (op_assign rfl) rfl rfl ?_
          refine SL.nil ?_
          refine T.condF rfl ?_
          refine T.region ?_
          first | refine SL.y (op_eqlT rfl rfl (by omega)) rfl rfl ?_ | refine SL.y (op_eqlF rfl rfl (by omega)) rfl rfl ?_ | refine SL.y (op_eql rfl rfl) rfl rfl ?_
          refine SL.y (op_assign rfl) rfl rfl ?_
          refine SL.nil ?_
          refine T.condF rfl ?_
          refine T.seq ?_
          refine T.region ?_
          first | refine SL.y (op_eqlT rfl rfl (by omega)) rfl rfl ?_ | refine SL.y (op_eqlF rfl rfl (by omega)) rfl rfl ?_ | refine SL.y (op_eql rfl rfl) rfl rfl ?_
          refine SL.y (op_assign rfl) rfl rfl ?_
          refine SL.nil ?_
          refine T.condT rfl ?_
          refine T.draw (by kernel_rfl) 10 [.t 0, .t 1, .t 2, .t 4, .t 5, .t 6, .r 3, .r 7, .t 8, .t 9] (by kernel_rfl) ?_
          refine SD.take rfl panicBody (op_move rfl) rfl rfl ?_
          refine SD.take rfl panicBody (op_fieldAddr fa33_2 rfl) rfl rfl ?_
          first | refine SD.take rfl panicBody (op_load ty3 rfl (by repeat (first | exact AtO.here | apply AtO.there)) rfl) rfl rfl ?_ | refine SD.take rfl panicBody (op_loadX ty3 rfl (by assumption) rfl) rfl rfl ?_
          refine SD.take rfl panicBody (op_move rfl) rfl rfl ?_
          refine SD.take rfl panicBody (op_fieldAddr fa33_2 rfl) rfl rfl ?_
          first | refine SD.take rfl panicBody (op_load ty3 rfl (by repeat (first | exact AtO.here | apply AtO.there)) rfl) rfl rfl ?_ | refine SD.take rfl panicBody (op_loadX ty3 rfl (by assumption) rfl) rfl rfl ?_
          -- op
          refine SD.run rfl (op_callF en27 (vs := [_, _]) rfl (expire_spec (hP.mono hX4) (by omega) (d := y.2.2))) rfl rfl ?_
          rintro p5 _ X5 ⟨rfl, hX5, hp5⟩
          -- op
          refine SD.run rfl (op_callF en32 (vs := [_, _]) rfl (rexpire_spec ((hs.mono hX4).mono hX5) (by omega) (d := y.2.2))) rfl rfl ?_
          rintro s6 _ X6 ⟨rfl, hX6, hs6⟩
          obtain ⟨A6, c6, rfl⟩ := SliceR.form hs6
          have hwr := exp_wf hw y.2.2
          have hlr := exp_le L y.2.2
          have hp6 := hp5.mono hX6
          obtain ⟨bn, svn, rfl, hbn, hsn⟩ := hp6
          have hP6 : BkR X6 (.pointer (some ⟨bn, 0, none⟩)) (expE L y.2.2) := ⟨bn, svn, rfl, hbn, hsn⟩
          refine SD.take rfl panicBody (op_assign rfl) rfl rfl ?_
          refine SD.take rfl panicBody (op_assign rfl) rfl rfl ?_
          refine SD.nil ?_
          show SL _ _ _ _ _ _ _ [] _ _ _
          refine SL.nil ?_
          refine T.blk ?_
          refine T.seq ?_
          refine T.seq ?_
          refine T.region ?_
          refine SL.y (op_move rfl) rfl rfl ?_
          refine SL.y (op_move rfl) rfl rfl ?_
          first | refine SL.y (op_neqT rfl rfl (by omega)) rfl rfl ?_ | refine SL.y (op_neqF rfl rfl (by omega)) rfl rfl ?_ | refine SL.y (op_neq rfl rfl) rfl rfl ?_
          refine SL.y (op_move rfl) rfl rfl ?_
          first | refine SL.skip rfl rfl ?_ | refine SL.y (op_move rfl) rfl rfl ?_
          first | refine SL.skip rfl rfl ?_ | refine SL.y (op_move rfl) rfl rfl ?_
          -- op
          refine SL.x (op_callF en29 (vs := [_, _]) rfl (is_spec (hP.mono ((hX4.trans' hX5).trans' hX6)) (hs.mono ((hX4.trans' hX5).trans' hX6)) (by omega))) rfl rfl ?_
          rintro _ _ X7 ⟨rfl, hX7, rfl⟩
          rw [decide_eq_true rfl]
          first | refine SL.skip rfl rfl ?_ | refine SL.y (op_not rfl) rfl rfl ?_
          first | refine SL.y (op_pickT rfl rfl) rfl rfl ?_ | refine SL.y (op_pickF rfl rfl) rfl rfl ?_ | refine SL.y (op_pickB rfl rfl rfl) rfl rfl ?_
          refine SL.y (op_move rfl) rfl rfl ?_
          first | refine SL.skip rfl rfl ?_ | refine SL.y (op_move rfl) rfl rfl ?_
          first | refine SL.skip rfl rfl ?_ | refine SL.y (op_neqT rfl rfl (by omega)) rfl rfl ?_ | refine SL.y (op_neqF rfl rfl (by omega)) rfl rfl ?_ | refine SL.y (op_neq rfl rfl) rfl rfl ?_
          first | refine SL.skip rfl rfl ?_ | refine SL.y (op_move rfl) rfl rfl ?_
          first | refine SL.skip rfl rfl ?_ | refine SL.y (op_move rfl) rfl rfl ?_
          first | refine SL.skip rfl rfl ?_ | refine SL.y (op_neqNil Tryd.underlying24 rfl rfl) rfl rfl ?_
          first | refine SL.skip rfl rfl ?_ | refine SL.y (op_pickT rfl rfl) rfl rfl ?_ | refine SL.y (op_pickF rfl rfl) rfl rfl ?_ | refine SL.y (op_pickB rfl rfl rfl) rfl rfl ?_
          first | refine SL.y (op_pickT rfl rfl) rfl rfl ?_ | refine SL.y (op_pickF rfl rfl) rfl rfl ?_ | refine SL.y (op_pickB rfl rfl rfl) rfl rfl ?_
          refine SL.nil ?_
          refine T.condF rfl ?_
          refine T.skip ?_
          refine T.seq ?_
          refine T.seq ?_
          refine T.region ?_
          refine SL.y (op_move rfl) rfl rfl ?_
          first | refine SL.y (op_eqlT rfl rfl (by omega)) rfl rfl ?_ | refine SL.y (op_eqlF rfl rfl (by omega)) rfl rfl ?_ | refine SL.y (op_eql rfl rfl) rfl rfl ?_
          refine SL.nil ?_
          refine T.condT rfl ?_
          refine T.region ?_
          refine SL.y (op_move rfl) rfl rfl ?_
          refine SL.y (op_move rfl) rfl rfl ?_
          refine SL.y (op_assign rfl) rfl rfl ?_
          refine SL.y (op_assign rfl) rfl rfl ?_
          refine SL.nil ?_
          refine T.seq ?_
          refine T.region ?_
          refine SL.y (op_move rfl) rfl rfl ?_
          refine SL.y (op_move rfl) rfl rfl ?_
          -- op
          refine SL.x (op_callF en29 (vs := [_, _]) rfl (is_spec (hP6.mono hX7) (hs6.mono hX7) (by omega))) rfl rfl ?_
          rintro _ _ X8 ⟨rfl, hX8, rfl⟩
          rw [decide_eq_true rfl]
          refine SL.y (op_not rfl) rfl rfl ?_
          refine SL.nil ?_
          refine T.condF rfl ?_
          refine T.skip ?_
          refine T.blk ?_
          refine T.region ?_
          first | refine SL.y (op_addN (q := 1) rfl rfl (by omega)) rfl rfl ?_ | refine SL.y (op_add rfl rfl (by omega) (by omega)) rfl rfl ?_ | refine SL.y (op_addW rfl rfl) rfl rfl ?_
          refine SL.y (op_move rfl) rfl rfl ?_
          refine SL.nil ?_
          -- cut
          refine T.drop B6 (by repeat (first | exact AtO.here | apply AtO.there)) ?_
          refine T.drop B7 (by repeat (first | exact AtO.here | apply AtO.there)) ?_
          exact T.backW (cs.length - (k + 1)) (by omega) ⟨k + 1, _, _, _, rfl, by omega, ((hX3.trans' ((hX4.trans' hX5).trans' hX6)).trans' hX7).trans' hX8, hwr, by omega, (hP6.mono hX7).mono hX8, (hs6.mono hX7).mono hX8, rfl, rfl⟩ (by repeat (first | exact Sub.nil | refine Sub.cons rfl ?_))
        · refine SL.nil ?_
          refine T.block ?_
          refine T.seq ?_
          refine T.seq ?_
          refine T.region ?_
          first | refine SL.y (op_eqlT rfl rfl (by omega)) rfl rfl ?_ | refine SL.y (op_eqlF rfl rfl (by omega)) rfl rfl ?_ | refine SL.y (op_eql rfl rfl) rfl rfl ?_
          refine SL.y (op_assign rfl) rfl rfl ?_
          refine SL.nil ?_
          refine T.condF rfl ?_
          refine T.region ?_
          first | refine SL.y (op_eqlT rfl rfl (by omega)) rfl rfl ?_ | refine SL.y (op_eqlF rfl rfl (by omega)) rfl rfl ?_ | refine SL.y (op_eql rfl rfl) rfl rfl ?_
          refine SL.y (op_assign rfl) rfl rfl ?_
          refine SL.nil ?_
          refine T.condF rfl ?_
          refine T.seq ?_
          refine T.region ?_
          first | refine SL.y (op_eqlT rfl rfl (by omega)) rfl rfl ?_ | refine SL.y (op_eqlF rfl rfl (by omega)) rfl rfl ?_ | refine SL.y (op_eql rfl rfl) rfl rfl ?_
          refine SL.y (op_assign rfl) rfl rfl ?_
          refine SL.nil ?_
          refine T.condF rfl ?_
          refine T.seq ?_
          refine T.region ?_
          refine SL.y (op_move rfl) rfl rfl ?_
          refine SL.y (op_fieldAddr fa33_0 rfl) rfl rfl ?_
          first | refine SL.y (op_load ty3 rfl (by repeat (first | exact AtO.here | apply AtO.there)) rfl) rfl rfl ?_ | refine SL.y (op_loadX ty3 rfl (by assumption) rfl) rfl rfl ?_
          refine SL.y (op_fieldAddr fa33_1 rfl) rfl rfl ?_
          first | refine SL.y (op_load ty3 rfl (by repeat (first | exact AtO.here | apply AtO.there)) rfl) rfl rfl ?_ | refine SL.y (op_loadX ty3 rfl (by assumption) rfl) rfl rfl ?_
          refine SL.y (op_fieldAddr fa33_2 rfl) rfl rfl ?_
          first | refine SL.y (op_load ty3 rfl (by repeat (first | exact AtO.here | apply AtO.there)) rfl) rfl rfl ?_ | refine SL.y (op_loadX ty3 rfl (by assumption) rfl) rfl rfl ?_
          -- op
          refine SL.x (op_callF en15 (vs := [_, _, _, _]) rfl (assign_spec (hP.mono hX4) hw (by omega) (u := y.1) (r := y.2.1) (t := y.2.2))) rfl rfl ?_
          rintro w5 _ X5 ⟨rfl, hX5, hw5⟩
          by_cases he : asgErr y.1 y.2.1 y.2.2 = 0
          · rw [if_pos he] at hw5
            obtain ⟨p5, rfl, hp5⟩ := hw5
            have hwr := asg_wf hw he
            have hlr : (asgP L y.1 y.2.1 y.2.2).length ≤ L.length + 1 := by rw [asg_len hw]; split <;> omega
            have hae := asg_eq hw (u := y.1) (r := y.2.1) (t := y.2.2)
            refine SL.y (op_move rfl) rfl rfl ?_
            refine SL.y (op_extract rfl rfl) rfl rfl ?_
            refine SL.y (op_extract rfl rfl) rfl rfl ?_
            refine SL.y (op_assign rfl) rfl rfl ?_
            refine SL.y (op_assign rfl) rfl rfl ?_
            refine SL.nil ?_
            refine T.region ?_
            refine SL.y (op_move rfl) rfl rfl ?_
            first | refine SL.y (op_load ty33 rfl (by repeat (first | exact AtO.here | apply AtO.there)) rfl) rfl rfl ?_ | refine SL.y (op_loadX ty33 rfl (by assumption) rfl) rfl rfl ?_
            -- op
            refine SL.x (op_callF en33 (vs := [_, _]) rfl (rassign_spec ((hs.mono hX4).mono hX5) (by omega) (x := y))) rfl rfl ?_
            rintro w6 _ X6 ⟨rfl, hX6, hw6⟩
            rw [if_pos he] at hw6
            obtain ⟨s6, rfl, hs6⟩ := hw6
            rw [show insE y (revE L y.1 y.2.1) = asgP L y.1 y.2.1 y.2.2 from hae.symm] at hs6
            obtain ⟨A6, c6, rfl⟩ := SliceR.form hs6
            have hp6 := hp5.mono hX6
            obtain ⟨bn, svn, rfl, hbn, hsn⟩ := hp6
            have hP6 : BkR X6 (.pointer (some ⟨bn, 0, none⟩)) (asgP L y.1 y.2.1 y.2.2) := ⟨bn, svn, rfl, hbn, hsn⟩
            refine SL.y (op_move rfl) rfl rfl ?_
            refine SL.y (op_extract rfl rfl) rfl rfl ?_
            refine SL.y (op_extract rfl rfl) rfl rfl ?_
            refine SL.y (op_assign rfl) rfl rfl ?_
            refine SL.y (op_assign rfl) rfl rfl ?_
            refine SL.nil ?_
            refine T.blk ?_
            refine T.seq ?_
            refine T.seq ?_
            refine T.region ?_
            refine SL.y (op_move rfl) rfl rfl ?_
            refine SL.y (op_move rfl) rfl rfl ?_
            first | refine SL.y (op_neqT rfl rfl (by omega)) rfl rfl ?_ | refine SL.y (op_neqF rfl rfl (by omega)) rfl rfl ?_ | refine SL.y (op_neq rfl rfl) rfl rfl ?_
            refine SL.y (op_move rfl) rfl rfl ?_
            first | refine SL.skip rfl rfl ?_ | refine SL.y (op_move rfl) rfl rfl ?_
            first | refine SL.skip rfl rfl ?_ | refine SL.y (op_move rfl) rfl rfl ?_
            -- op
            refine SL.x (op_callF en29 (vs := [_, _]) rfl (is_spec (hP.mono ((hX4.trans' hX5).trans' hX6)) (hs.mono ((hX4.trans' hX5).trans' hX6)) (by omega))) rfl rfl ?_
            rintro _ _ X7 ⟨rfl, hX7, rfl⟩
            rw [decide_eq_true rfl]
            first | refine SL.skip rfl rfl ?_ | refine SL.y (op_not rfl) rfl rfl ?_
            first | refine SL.y (op_pickT rfl rfl) rfl rfl ?_ | refine SL.y (op_pickF rfl rfl) rfl rfl ?_ | refine SL.y (op_pickB rfl rfl rfl) rfl rfl ?_
            refine SL.y (op_move rfl) rfl rfl ?_
            first | refine SL.skip rfl rfl ?_ | refine SL.y (op_move rfl) rfl rfl ?_
            first | refine SL.skip rfl rfl ?_ | refine SL.y (op_neqT rfl rfl (by omega)) rfl rfl ?_ | refine SL.y (op_neqF rfl rfl (by omega)) rfl rfl ?_ | refine SL.y (op_neq rfl rfl) rfl rfl ?_
            first | refine SL.skip rfl rfl ?_ | refine SL.y (op_move rfl) rfl rfl ?_
            first | refine SL.skip rfl rfl ?_ | refine SL.y (op_move rfl) rfl rfl ?_
            first | refine SL.skip rfl rfl ?_ | refine SL.y (op_neqNil Tryd.underlying24 rfl rfl) rfl rfl ?_
            first | refine SL.skip rfl rfl ?_ | refine SL.y (op_pickT rfl rfl) rfl rfl ?_ | refine SL.y (op_pickF rfl rfl) rfl rfl ?_ | refine SL.y (op_pickB rfl rfl rfl) rfl rfl ?_
            first | refine SL.y (op_pickT rfl rfl) rfl rfl ?_ | refine SL.y (op_pickF rfl rfl) rfl rfl ?_ | refine SL.y (op_pickB rfl rfl rfl) rfl rfl ?_
            refine SL.nil ?_
            refine T.condF rfl ?_
            refine T.skip ?_
            refine T.seq ?_
            refine T.seq ?_
            refine T.region ?_
            refine SL.y (op_move rfl) rfl rfl ?_
            first | refine SL.y (op_eqlT rfl rfl (by omega)) rfl rfl ?_ | refine SL.y (op_eqlF rfl rfl (by omega)) rfl rfl ?_ | refine SL.y (op_eql rfl rfl) rfl rfl ?_
            refine SL.nil ?_
            refine T.condT rfl ?_
            refine T.region ?_
            refine SL.y (op_move rfl) rfl rfl ?_
            refine SL.y (op_move rfl) rfl rfl ?_
            refine SL.y (op_assign rfl) rfl rfl ?_
            refine SL.y (op_assign rfl) rfl rfl ?_
            refine SL.nil ?_
            refine T.seq ?_
            refine T.region ?_
            refine SL.y (op_move rfl) rfl rfl ?_
            refine SL.y (op_move rfl) rfl rfl ?_
            -- op
            refine SL.x (op_callF en29 (vs := [_, _]) rfl (is_spec (hP6.mono hX7) (hs6.mono hX7) (by omega))) rfl rfl ?_
            rintro _ _ X8 ⟨rfl, hX8, rfl⟩
            rw [decide_eq_true rfl]
            refine SL.y (op_not rfl) rfl rfl ?_
            refine SL.nil ?_
            refine T.condF rfl ?_
            refine T.skip ?_
            refine T.blk ?_
            refine T.region ?_
            first | refine SL.y (op_addN (q := 1) rfl rfl (by omega)) rfl rfl ?_ | refine SL.y (op_add rfl rfl (by omega) (by omega)) rfl rfl ?_ | refine SL.y (op_addW rfl rfl) rfl rfl ?_
            refine SL.y (op_move rfl) rfl rfl ?_
            refine SL.nil ?_
            -- cut
            refine T.drop B6 (by repeat (first | exact AtO.here | apply AtO.there)) ?_
            refine T.drop B7 (by repeat (first | exact AtO.here | apply AtO.there)) ?_
            exact T.backW (cs.length - (k + 1)) (by omega) ⟨k + 1, _, _, _, rfl, by omega, ((hX3.trans' ((hX4.trans' hX5).trans' hX6)).trans' hX7).trans' hX8, hwr, by omega, (hP6.mono hX7).mono hX8, (hs6.mono hX7).mono hX8, rfl, rfl⟩ (by repeat (first | exact Sub.nil | refine Sub.cons rfl ?_))
          · rw [if_neg he] at hw5
            subst hw5
            refine SL.y (op_move rfl) rfl rfl ?_
            refine SL.y (op_extract rfl rfl) rfl rfl ?_
            refine SL.y (op_extract rfl rfl) rfl rfl ?_
            refine SL.y (op_assign rfl) rfl rfl ?_
            refine SL.y (op_assign rfl) rfl rfl ?_
            refine SL.nil ?_
            refine T.region ?_
            refine SL.y (op_move rfl) rfl rfl ?_
            first | refine SL.y (op_load ty33 rfl (by repeat (first | exact AtO.here | apply AtO.there)) rfl) rfl rfl ?_ | refine SL.y (op_loadX ty33 rfl (by assumption) rfl) rfl rfl ?_
            -- op
            refine SL.x (op_callF en33 (vs := [_, _]) rfl (rassign_spec ((hs.mono hX4).mono hX5) (by omega) (x := y))) rfl rfl ?_
            rintro w6 _ X6 ⟨rfl, hX6, hw6⟩
            rw [if_neg he] at hw6
            subst hw6
            generalize asgErr y.1 y.2.1 y.2.2 = er at *
            refine SL.y (op_move rfl) rfl rfl ?_
            refine SL.y (op_extract rfl rfl) rfl rfl ?_
            refine SL.y (op_extract rfl rfl) rfl rfl ?_
            refine SL.y (op_assign rfl) rfl rfl ?_
            refine SL.y (op_assign rfl) rfl rfl ?_
            refine SL.nil ?_
            refine T.blk ?_
            refine T.seq ?_
            refine T.seq ?_
            refine T.region ?_
            refine SL.y (op_move rfl) rfl rfl ?_
            refine SL.y (op_move rfl) rfl rfl ?_
            first | refine SL.y (op_neqT rfl rfl (by omega)) rfl rfl ?_ | refine SL.y (op_neqF rfl rfl (by omega)) rfl rfl ?_ | refine SL.y (op_neq rfl rfl) rfl rfl ?_
            refine SL.y (op_move rfl) rfl rfl ?_
            first | refine SL.skip rfl rfl ?_ | refine SL.y (op_move rfl) rfl rfl ?_
            first | refine SL.skip rfl rfl ?_ | refine SL.y (op_move rfl) rfl rfl ?_
            -- op
            refine SL.x (op_callF en29 (vs := [_, _]) rfl (is_spec (hP.mono ((hX4.trans' hX5).trans' hX6)) (hs.mono ((hX4.trans' hX5).trans' hX6)) (by omega))) rfl rfl ?_
            rintro _ _ X7 ⟨rfl, hX7, rfl⟩
            rw [decide_eq_true rfl]
            first | refine SL.skip rfl rfl ?_ | refine SL.y (op_not rfl) rfl rfl ?_
            first | refine SL.y (op_pickT rfl rfl) rfl rfl ?_ | refine SL.y (op_pickF rfl rfl) rfl rfl ?_ | refine SL.y (op_pickB rfl rfl rfl) rfl rfl ?_
            refine SL.y (op_move rfl) rfl rfl ?_
            first | refine SL.skip rfl rfl ?_ | refine SL.y (op_move rfl) rfl rfl ?_
            first | refine SL.skip rfl rfl ?_ | refine SL.y (op_neqT rfl rfl (by omega)) rfl rfl ?_ | refine SL.y (op_neqF rfl rfl (by omega)) rfl rfl ?_ | refine SL.y (op_neq rfl rfl) rfl rfl ?_
            first | refine SL.skip rfl rfl ?_ | refine SL.y (op_move rfl) rfl rfl ?_
            first | refine SL.skip rfl rfl ?_ | refine SL.y (op_move rfl) rfl rfl ?_
            first | refine SL.skip rfl rfl ?_ | refine SL.y (op_neqNil Tryd.underlying24 rfl rfl) rfl rfl ?_
            first | refine SL.skip rfl rfl ?_ | refine SL.y (op_pickT rfl rfl) rfl rfl ?_ | refine SL.y (op_pickF rfl rfl) rfl rfl ?_ | refine SL.y (op_pickB rfl rfl rfl) rfl rfl ?_
            first | refine SL.y (op_pickT rfl rfl) rfl rfl ?_ | refine SL.y (op_pickF rfl rfl) rfl rfl ?_ | refine SL.y (op_pickB rfl rfl rfl) rfl rfl ?_
            refine SL.nil ?_
            refine T.condF rfl ?_
            refine T.skip ?_
            refine T.seq ?_
            refine T.seq ?_
            refine T.region ?_
            refine SL.y (op_move rfl) rfl rfl ?_
            first | refine SL.y (op_eqlT rfl rfl (by omega)) rfl rfl ?_ | refine SL.y (op_eqlF rfl rfl (by omega)) rfl rfl ?_ | refine SL.y (op_eql rfl rfl) rfl rfl ?_
            refine SL.nil ?_
            refine T.condF rfl ?_
            refine T.skip ?_
            refine T.seq ?_
            refine T.region ?_
            refine SL.y (op_move rfl) rfl rfl ?_
            refine SL.y (op_move rfl) rfl rfl ?_
            -- op
            refine SL.x (op_callF en29 (vs := [_, _]) rfl (is_spec ((hP.mono ((hX4.trans' hX5).trans' hX6)).mono hX7) ((hs.mono ((hX4.trans' hX5).trans' hX6)).mono hX7) (by omega))) rfl rfl ?_
            rintro _ _ X8 ⟨rfl, hX8, rfl⟩
            rw [decide_eq_true rfl]
            refine SL.y (op_not rfl) rfl rfl ?_
            refine SL.nil ?_
            refine T.condF rfl ?_
            refine T.skip ?_
            refine T.blk ?_
            refine T.region ?_
            first | refine SL.y (op_addN (q := 1) rfl rfl (by omega)) rfl rfl ?_ | refine SL.y (op_add rfl rfl (by omega) (by omega)) rfl rfl ?_ | refine SL.y (op_addW rfl rfl) rfl rfl ?_
            refine SL.y (op_move rfl) rfl rfl ?_
            refine SL.nil ?_
            -- cut
            refine T.drop B6 (by repeat (first | exact AtO.here | apply AtO.there)) ?_
            refine T.drop B7 (by repeat (first | exact AtO.here | apply AtO.there)) ?_
            exact T.backW (cs.length - (k + 1)) (by omega) ⟨k + 1, _, _, L, rfl, by omega, ((hX3.trans' ((hX4.trans' hX5).trans' hX6)).trans' hX7).trans' hX8, hw, by omega, ((hP.mono ((hX4.trans' hX5).trans' hX6)).mono hX7).mono hX8, ((hs.mono ((hX4.trans' hX5).trans' hX6)).mono hX7).mono hX8, rfl, rfl⟩ (by repeat (first | exact Sub.nil | refine Sub.cons rfl ?_))
  · obtain rfl : k = cs.length := by omega
    refine T.seq ?_
    refine T.region ?_
    first | refine SL.y (op_lssT rfl rfl (by omega)) rfl rfl ?_ | refine SL.y (op_lssF rfl rfl (by omega)) rfl rfl ?_ | refine SL.y (op_lss rfl rfl) rfl rfl ?_
    refine SL.nil ?_
    refine T.seq ?_
    refine T.condF rfl ?_
    refine T.exit (T.exitCode (T.exitCut (T.exitBlk ?_)))
    refine T.seq ?_
    refine T.region ?_
    refine SL.y (op_assign rfl) rfl rfl ?_
    refine SL.nil ?_
    -- ret
    refine T.ret1 rfl (ResIs.tmp rfl) ?_
    rfl
end Go.Proofs.YtkmnlogacfkjmaaDoor
