/- What the law's proof rests on: the engine, a small separation logic over the kit's walk, and contracts of the functions that the law reaches. Part 5. -/
import Derived.Test.YtnabbnhefjfegaaGreatDoorPart1
import Derived.Test.YtnabbnhefjfegaaGreatDoorPart2
import Derived.Test.YtnabbnhefjfegaaGreatDoorPart3
import Derived.Test.YtnabbnhefjfegaaGreatDoorPart4
namespace Go.Proofs.YtnabbnhefjfegaaGreatDoor
open Go.RowKit
section
variable {P : Program} {n : NM} {own : Own} {X : PMap} {env : Env}
theorem op_sliceData0 {x : Operand} {ts : Array TypeId} {l c : Nat} (hx : eev env x = some (.slice none l c)) : OpY P n env own X (.call { callee := .builtin .unsafeSliceData, args := #[x], argTypes := ts }) (.pointer none) := by
  intro a W oper hop ha _
  have hr : (Builtin.unsafeSliceData_ ts oper.type #[.slice none l c]).run P W = .ok (.pointer none) W := rfl
  simp only [execOp, hop, resolve, invoke, builtin, Sem.run_bind, Sem.run_pure, Result.andThen_ok, List.map_toArray, List.map_cons, List.map_nil, ha.eval hx, hr]
theorem op_unsafeStr0 {x y : Operand} {pt it : TypeId} (hx : eev env x = some (.pointer none)) (hy : eev env y = some (.int .i64 0)) : OpY P n env own X (.call { callee := .builtin .unsafeString, args := #[x, y], argTypes := #[pt, it] }) (.string ⟨#[]⟩) := by
  intro a W oper hop ha _
  have hr : (Builtin.unsafeString_ #[pt, it] oper.type #[.pointer none, .int .i64 0]).run P W = .ok (.string ⟨#[]⟩) W := rfl
  simp only [execOp, hop, resolve, invoke, builtin, Sem.run_bind, Sem.run_pure, Result.andThen_ok, List.map_toArray, List.map_cons, List.map_nil, ha.eval hx, ha.eval hy, hr]
end
theorem bstring0_spec {X : PMap} {b : Nat} {p : Value} : SpecM Tryz.prog 80 [.pointer (some ⟨b, 0, none⟩)] X [BldO b p (.slice none 0 0)] fun u L' _ => u = .string ⟨#[]⟩ ∧ L' = [BldO b p (.slice none 0 0)] := by
  refine SpecM.enter Tryz.func80 rfl Tryz.ntmps80 rfl ?_
  intro w0 X0 own0
  refine T.perm (own' := BldO b p (.slice none 0 0) :: own0) (List.Perm.refl _) ?_
  refine T.seq <| T.region <| SL.as rfl <| SL.nil <| T.seq <| T.draw (by kernel_rfl) 12 [.t 0, .t 1, .t 2, .t 3, .t 4, .t 5, .t 6, .t 7, .t 8, .t 9, .r 10, .t 11] (by kernel_rfl) ?_
  refine SD.take rfl panicBody (op_move rfl) rfl rfl ?_
  refine SD.take rfl panicBody (op_nil rfl) rfl rfl ?_
  refine SD.take rfl panicBody (op_fieldAddr fa137_1 rfl) rfl rfl ?_
  refine SD.take rfl panicBody (op_load ty64 rfl (by repeat constructor) rfl) rfl rfl ?_
  refine SD.take rfl panicBody (op_sliceData0 rfl) rfl rfl ?_
  refine SD.take rfl panicBody (op_move rfl) rfl rfl ?_
  refine SD.take rfl panicBody (op_nil rfl) rfl rfl ?_
  refine SD.take rfl panicBody (op_fieldAddr fa137_1 rfl) rfl rfl ?_
  refine SD.take rfl panicBody (op_load ty64 rfl (by repeat constructor) rfl) rfl rfl ?_
  refine SD.take rfl panicBody (op_lenS Tryz.underlying64 rfl) rfl rfl ?_
  refine SD.run rfl (opx_of (fun u => u = .string ⟨#[]⟩) (op_unsafeStr0 rfl rfl) rfl rfl) rfl rfl ?_
  rintro _ _ _ ⟨rfl, rfl, rfl⟩
  refine SD.take rfl panicBody (op_assign rfl) rfl rfl ?_
  refine SD.nil ?_
  show SL _ _ _ _ _ _ _ [] _ _ _
  refine SL.nil <| T.retM1 [BldO b p (.slice none 0 0)] rfl (ResIs.tmp rfl) (List.Perm.refl _) ?_
  exact ⟨PMap.le_refl _, rfl, rfl⟩
theorem lines0_spec {X : PMap} {A : Option Addr} {c : Nat} : Spec Tryz.prog 37 [.slice A 0 c] X fun u _ => u = .string ⟨#[]⟩ := by
  refine Spec.enter Tryz.func37 rfl Tryz.ntmps37 rfl ?_
  intro w0 hw0
  refine T.seq <| T.region <| SL.as rfl <| SL.nil <| T.seq <| T.region <| SL.w (op_alloc z137) ?_
  rintro _ _ _ ⟨B3, rfl, rfl, rfl⟩
  refine SL.nil <| T.seq <| T.seq <| T.region <| SL.mv rfl <| SL.v (op_lenS Tryz.underlying24 rfl) <| SL.v (op_move (v := .int .i64 ((0 : Nat) : Int)) rfl) <| SL.nil <| T.block <| T.unrollStart 1 ?_
  refine T.unroll ?_
  refine T.seq <| T.region <| SL.v (op_lssF rfl rfl (by omega)) ?_
  refine SL.nil <| T.seq <| T.condF rfl ?_
  refine T.exit (T.exitCode (T.exitMore (T.exitBlk ?_)))
  refine T.seq <| T.region <| SL.w (op_callM en80 (vs := [_]) rfl (bstring0_spec) rfl) ?_
  rintro _ _ X5 ⟨_, rfl, hX5, rfl, rfl⟩
  refine SL.as rfl <| SL.nil <| T.ret1 rfl (ResIs.tmp rfl) ?_
  rfl
theorem check0_spec {X : PMap} {A : Option Addr} {c : Nat} : Spec Tryz.prog 16 [.slice A 0 c] X fun u _ => u = .int .i64 0 := by
  refine Spec.enter Tryz.func16 rfl Tryz.ntmps16 rfl ?_
  intro w0 hw0
  refine T.seq <| T.region <| SL.v (op_assign (v := .int .i64 ((0 : Nat) : Int)) rfl) <| SL.nil <| T.seq <| T.seq <| T.region <| SL.mv rfl <| SL.v (op_lenS Tryz.underlying24 rfl) <| SL.v (op_gtrF rfl rfl (by omega)) ?_
  refine SL.nil <| T.condF rfl <| T.skip <| T.seq <| T.seq <| T.region <| SL.mv rfl <| SL.v (op_lenS Tryz.underlying24 rfl) <| SL.v (op_move (v := .int .i64 ((0 : Nat) : Int)) rfl) <| SL.nil <| T.block <| T.unrollStart 1 ?_
  refine T.unroll ?_
  refine T.seq <| T.region <| SL.v (op_lssF rfl rfl (by omega)) ?_
  refine SL.nil <| T.seq <| T.condF rfl ?_
  refine T.exit (T.exitCode (T.exitMore (T.exitBlk ?_)))
  refine T.seq <| T.seq <| T.region <| SL.mv rfl <| SL.w (op_callF en37 (vs := [_]) rfl (lines0_spec)) ?_
  rintro _ _ X5 ⟨rfl, hX5, rfl⟩
  have k0 : (⟨#[]⟩ : ByteArray).size = 0 := rfl
  refine SL.v (op_lenStr Tryz.underlying9 rfl) <| SL.v (op_gtrF rfl rfl (by omega)) ?_
  refine SL.nil <| T.condF rfl <| T.skip <| T.seq <| T.region <| SL.v (op_assign (v := .int .i64 ((0 : Nat) : Int)) rfl) <| SL.nil <| T.ret1 rfl (ResIs.tmp rfl) ?_
  rfl
theorem ConsR.form {X : PMap} {v : Value} {cs : List Con} (h : ConsR X v cs) : ∃ A cp, v = .slice A cs.length cp := by
  obtain ⟨rows, hr, hrl, _⟩ := h
  obtain ⟨A, cp, rfl⟩ := hr.form
  exact ⟨A, cp, by rw [hrl]⟩
theorem checkA_spec {X : PMap} (hP : Pow10 X) {v : Value} {cs : List Con} (h : ConsR X v cs) (hl : cs.length ≤ 40) (hw : wtC cs < 15000000) (hww : ∀ c ∈ cs, wtE c.ex < 900000) : Spec Tryz.prog 16 [v] X fun u _ => u = .int .i64 (chkAll cs) := by
  rcases Nat.eq_zero_or_pos cs.length with h0 | h0
  · obtain rfl := List.eq_nil_of_length_eq_zero h0
    obtain ⟨A, cp, rfl⟩ := h.form
    refine check0_spec.mono fun u _ _ hu => ?_
    rw [hu]; simp [chkAll, chkCs, linesL]
  · exact check_spec (itoa_ok hP) h hl h0 hw hww fun c _ hc => num_of c.ex (chkE_node hc)
end Go.Proofs.YtnabbnhefjfegaaGreatDoor
namespace Go.Proofs.YtnabbnhefjfegaaGreatDoor
section
set_option maxRecDepth 100000
theorem bs82 : ∃ i z, Tryz.prog.info? 82 = some i ∧ i.size = 7 ∧ i.zero = some z ∧ z.cells = ([.bool false, .int .u8 0, .string ⟨#[]⟩, .int .u8 0, .int .i64 0, .slice none 0 0, .slice none 0 0] : List Value).toArray := bs_of (by kernel_rfl)
theorem en44 : Enters Tryz.prog 44 := enters_mk Tryz.func44 (by kernel_rfl) rfl
theorem sl24 : SlT Tryz.prog 24 82 7 88 := ⟨Tryz.underlying24, sl_of (by kernel_rfl) (by decide)⟩
end
open Go.RowKit
/-- Constraints of tokens, up to the end. -/
noncomputable def consP (ex : ParP) : Nat → List Con → List Tk → Except (Nat × Int) (List Con)
  | 0, cs, _ => .ok cs
  | k + 1, cs, l => if hdK l = 0 then .ok cs else match conP ex l with
    | .error x => .error x
    | .ok y => consP ex k (cs ++ [y.1]) y.2
def runC {α : Type} (p : List Tk → Except (Nat × Int) α) : RSt → Except (Nat × Int) α
  | .ok l => p l
  | .error x => .error x
/-- The constraints of a source, or the error with its offset. -/
noncomputable def parseM (s : ByteArray) : Except (Nat × Int) (List Con) := match begM s with
  | .error x => .error x
  | .ok ts => match consP (exprP (ts.length + 1)) (ts.length + 1) [] ts with
    | .error x => .error x
    | .ok cs => if chkAll cs = 0 then .ok cs else .error (0, chkAll cs)
theorem conP_wt {ex : ParP} (hx : Wt ex) {l l' : List Tk} {c : Con} (h : conP ex l = .ok (c, l')) : wtE c.ex + 14 * l'.length ≤ 14 * l.length := by
  have hK2 : ∀ {en : Bool} {k : Nat} {l l' : List Tk} {c : Con}, conK2 ex en k l = .ok (c, l') → wtE c.ex + 14 * l'.length ≤ 14 * l.length := fun h => by
    obtain ⟨s, l1, h1, h⟩ := bind_ok h
    obtain ⟨_, l2, h2, h⟩ := bind_ok h
    obtain ⟨x, l3, h3, h⟩ := bind_ok h
    obtain ⟨_, l4, h4, h⟩ := bind_ok h
    simp only [Except.ok.injEq, Prod.mk.injEq] at h
    obtain ⟨rfl, rfl⟩ := h
    have a1 := nameT_wt h1
    have a2 := expT_wt h2
    have a3 := hx _ _ _ h3
    have a4 := expT_wt h4
    show wtE x + _ ≤ _
    omega
  have hK1 : ∀ {en : Bool} {l l' : List Tk} {c : Con}, conK1 ex en l = .ok (c, l') → wtE c.ex + 14 * l'.length ≤ 14 * l.length := fun h => by
    rw [conK1] at h
    split at h
    · rename_i hk
      have := hK2 h
      have := isT_len hk
      omega
    · split at h
      · rename_i hk
        have := hK2 h
        have := isT_len hk
        omega
      · obtain ⟨_, l1, h1, h⟩ := bind_ok h
        have := hK2 h
        have := expT_wt h1
        omega
  rw [conP] at h
  split at h
  · rename_i hk
    have := hK1 h
    have := isT_len hk
    omega
  · obtain ⟨_, l1, h1, h⟩ := bind_ok h
    have := hK1 h
    have := expT_wt h1
    omega
theorem checkB_spec {X : PMap} (hP : Pow10 X) {v : Value} {cs : List Con} (h : ConsR X v cs) (hw : wtC cs < 15000000) (hww : ∀ c ∈ cs, wtE c.ex < 900000) : Spec Tryz.prog 16 [v] X fun u _ => u = .int .i64 (chkAll cs) := by
  by_cases h32 : 32 < cs.length
  · obtain ⟨A, cp, rfl⟩ := h.form
    refine Spec.enter Tryz.func16 rfl Tryz.ntmps16 rfl ?_
    intro w0 hw0
    refine T.seq <| T.region <| SL.v (op_assign (v := .int .i64 ((0 : Nat) : Int)) rfl) <| SL.nil <| T.seq <| T.seq <| T.region <| SL.mv rfl <| SL.v (op_lenS Tryz.underlying24 rfl) <| SL.v (op_gtrT rfl rfl (by omega)) ?_
    refine SL.nil <| T.condT rfl <| T.seq <| T.region <| SL.v (op_assign (v := .int .i64 ((3 : Nat) : Int)) rfl) <| SL.nil <| T.ret1 rfl (ResIs.tmp rfl) ?_
    rw [chkAll, if_pos h32]
    rfl
  · exact checkA_spec hP h (by omega) hw hww
theorem consP_stop {ex : ParP} {k : Nat} {cs : List Con} {l : List Tk} (h : hdK l = 0) : consP ex (k + 1) cs l = .ok cs := by rw [consP, if_pos h]
theorem consP_step {ex : ParP} {k : Nat} {cs : List Con} {l : List Tk} {sb : RSt} {c : Con} (h : hdK l ≠ 0) (hO : Out (runM (conP ex) (.ok l)) sb c) : runC (consP ex (k + 1) cs) (.ok l) = runC (consP ex k (cs ++ [c])) sb := by
  show consP ex (k + 1) cs l = _
  rw [consP, if_neg h]
  simp only [runM] at hO
  cases he : conP ex l with
  | error x => rw [he] at hO; simp only [Out] at hO; subst hO; rfl
  | ok y => rw [he] at hO; obtain ⟨rfl, rfl⟩ := hO; rfl
theorem parseM_run {s : ByteArray} {ts : List Tk} (hb : begM s = .ok ts) : parseM s = match runC (consP (exprP (ts.length + 1)) (ts.length + 1) []) (.ok ts) with
    | .error x => .error x
    | .ok cs => if chkAll cs = 0 then .ok cs else .error (0, chkAll cs) := by
  rw [parseM, hb]; rfl
theorem parse_spec {X : PMap} (hP10 : Pow10 X) {s : ByteArray} (hs : s.size < 1000000000) : Spec Tryz.prog 18 [.string s] X fun u X' => match parseM s with
    | .error x => u = .tuple #[.slice none 0 0, .int .i64 (x.1 : Int), .int .i64 x.2]
    | .ok cs => ∃ v, u = .tuple #[v, .int .i64 0, .int .i64 0] ∧ ConsR X' v cs := by
  have hmx : maxLen = 9223372036854775807 := rfl
  cases hb : begM s with
  | error x =>
    have hm : parseM s = .error x := by rw [parseM, hb]
    have hx2 := begM_err hb
    obtain ⟨o, c⟩ := x
    simp only at hx2
    refine Spec.enter Tryz.func18 rfl Tryz.ntmps18 rfl ?_
    intro w0 hw0
    refine T.seq <| T.region <| SL.as rfl <| SL.v (op_assign (v := .int .i64 ((0 : Nat) : Int)) rfl) <| SL.v (op_assign (v := .int .i64 ((0 : Nat) : Int)) rfl) <| SL.nil <| T.seq <| T.region <| SL.mv rfl <| SL.w (op_callO en42 (vs := [_]) rfl (begin_spec hs)) ?_
    rintro u1 _ X1 ⟨own1, rfl, hX1, hu1⟩
    rw [hb] at hu1
    obtain ⟨rfl, rfl⟩ := hu1
    refine SL.mv rfl <| SL.v (op_extract rfl rfl) <| SL.v (op_extract rfl rfl) <| SL.v (op_extract rfl rfl) <| SL.as rfl <| SL.as rfl <| SL.as rfl <| SL.nil <| T.seq <| T.seq <| T.region <| SL.mv rfl <| SL.v (op_neqT rfl rfl (by omega)) ?_
    refine SL.nil <| T.condT rfl <| T.seq <| T.region <| SL.mv rfl <| SL.mv rfl <| SL.as rfl <| SL.as rfl <| SL.as rfl <| SL.nil <| T.ret3 rfl rfl rfl rfl ?_
    rw [hm]
    rfl
  | ok ts =>
    have hrun := parseM_run hb
    refine Spec.enter Tryz.func18 rfl Tryz.ntmps18 rfl ?_
    intro w0 hw0
    refine T.seq <| T.region <| SL.as rfl <| SL.v (op_assign (v := .int .i64 ((0 : Nat) : Int)) rfl) <| SL.v (op_assign (v := .int .i64 ((0 : Nat) : Int)) rfl) <| SL.nil <| T.seq <| T.region <| SL.mv rfl <| SL.w (op_callO en42 (vs := [_]) rfl (begin_spec hs)) ?_
    rintro u1 _ X1 ⟨own1, rfl, hX1, hu1⟩
    rw [hb] at hu1
    obtain ⟨pb, rb, v, rfl, rfl, hP, hT, h0, hl8⟩ := hu1
    refine SL.mv rfl <| SL.v (op_extract rfl rfl) <| SL.v (op_extract rfl rfl) <| SL.v (op_extract rfl rfl) <| SL.as rfl <| SL.as rfl <| SL.as rfl <| SL.nil <| T.seq <| T.seq <| T.region <| SL.mv rfl <| SL.v (op_neqF rfl rfl (by omega)) ?_
    refine SL.nil <| T.condF rfl <| T.skip <| T.seq <| T.region <| SL.as rfl <| SL.nil <| T.seq <| T.block <| T.loopW (fun m env own X' => ∃ (cs : List Con) (rows : List Row7) (vs : Value) (G : Own) (i off : Nat) (e : Int) (sa : RSt) (k : Nat), m = lenS sa ∧ X1.le X' ∧ RdS ts sa i off e ∧ (∀ l, sa = .ok l → l.length < ts.length + 1) ∧ lenS sa < k ∧ cs.length + lenS sa ≤ ts.length ∧ runC (consP (exprP (ts.length + 1)) (ts.length + 1) []) (.ok ts) = runC (consP (exprP (ts.length + 1)) k cs) sa ∧ (∀ l, sa = .ok l → wtC cs + 14 * l.length ≤ 14 * ts.length) ∧ rows.length = cs.length ∧ (∀ (i : Nat) (c : Con) (r : Row7), cs[i]? = some c → rows[i]? = some r → ConR X' c r) ∧ GrowS 82 7 vs rows.length (rows.map rc7).flatten G ∧ env = [(5, .pointer (some ⟨pb, 0, none⟩)), (8, vs)] ∧ own = RdO rb v i off e :: G) (lenS (.ok ts)) ⟨[], [], _, [], 0, 0, 0, .ok ts, ts.length + 1, rfl, PMap.le_refl _, RdS.zero h0, fun l h => (by cases h; exact Nat.lt_succ_self _), Nat.lt_succ_self _, by simp [lenS], rfl, fun l h => (by cases h; simp [wtC]), rfl, fun i c r h => (by cases h), GrowS.nil, rfl, rfl⟩ (by repeat (first | exact Sub.nil | refine Sub.cons rfl ?_)) ?_
    rintro m _ _ X2 ⟨cs, rows, vs, G, i2, off2, e2, sa, k, rfl, hX2, hS2, hf2, hk2, hn2, heq, hwt, hrl, hrows, hG, rfl, rfl⟩
    have hP := hP.mono hX2
    have hT := hT.mono hX2
    obtain ⟨t, ht⟩ := hS2.tok
    obtain ⟨Av, cv, rfl⟩ := hG.form
    refine T.seq <| T.seq <| T.region <| SL.mv rfl <| SL.w (op_callLend en43 (vs := [_]) rfl ((fun X1 h1 h2 => (done_spec (hP.mono h1) (hT.row.mono h1) hT.len (h2 (RdO rb v i2 off2 e2) (by simp)) ht : Spec _ _ _ _ fun u _ => u = .bool (decide (e2 ≠ 0 ∨ t.kind = 0)))))) ?_
    rintro _ _ _ ⟨rfl, rfl, rfl⟩
    by_cases hd : e2 ≠ 0 ∨ t.kind = 0
    case neg =>
      obtain ⟨l, rfl⟩ : ∃ l, sa = .ok l := by
        obtain ⟨_, h2⟩ := hS2
        cases sa with
        | error y => obtain ⟨_, h3, h4⟩ := h2; exact absurd (.inl (by rw [h3]; exact h4)) hd
        | ok l => exact ⟨l, rfl⟩
      have hll : l = t :: ts.drop (i2 + 1) := by rw [hS2.2.2.2]; exact drop_tok ht
      have hhd : hdK l ≠ 0 := by rw [hll]; exact fun h => hd (.inr h)
      have hpos : 0 < lenS (.ok l) := by rw [hll]; exact Nat.succ_pos _
      obtain ⟨k, rfl⟩ : ∃ q, k = q + 1 := ⟨k - 1, by omega⟩
      rw [decide_eq_false hd]
      refine SL.v (op_not rfl) <| SL.nil <| T.condT rfl <| T.skip <| T.block <| T.region <| SL.mv rfl <| SL.mv rfl <| SL.w (op_callJ en44 rfl (vs := [_]) rfl (con_spec (f := ts.length) hT hP hS2 hf2) (by repeat constructor)) ?_
      rintro _ _ X3 ⟨_, rfl, hX3, i3, off3, e3, sb, rfl, hS3, c, r, rfl, hc, hO, hdec⟩
      obtain ⟨o9, n9, a9, b9, l9, c9, m9, d9, rfl⟩ := hc.form
      have hdec := hdec hpos
      have hstep := consP_step (k := k) (cs := cs) hhd hO
      have hwt2 : ∀ l', sb = .ok l' → wtC (cs ++ [c]) + 14 * l'.length ≤ 14 * ts.length := fun l' h => by
        subst h
        simp only [runM] at hO
        cases he : conP (exprP (ts.length + 1)) l with
        | error y => rw [he] at hO; cases hO
        | ok y =>
          rw [he] at hO
          obtain ⟨rfl, h2⟩ := hO
          have h3 := Except.ok.inj h2
          subst h3
          have a1 := conP_wt (exprP_wt _) he
          have a2 := hwt l rfl
          simp only [wtC, List.map_append, List.map_cons, List.map_nil, List.sum_append, List.sum_cons, List.sum_nil] at a2 ⊢
          omega
      refine SL.w (op_buildSlice Tryz.underlying24 bs82 (qs := [(0, _)]) rfl rfl rfl rfl rfl) ?_
      rintro _ _ _ ⟨B28, rfl, rfl, rfl⟩
      refine SL.w (op_appendG (own0 := [_]) sl24 rfl hG rfl rfl rfl (by omega) (by omega)) ?_
      rintro vn _ _ ⟨G2, rfl, rfl, hG2⟩
      have hG2 : GrowS 82 7 vn (rows ++ [(c.enf, c.kind, c.name, Value.int .u8 (o9 : Int), Value.int .i64 n9, Value.slice a9 l9 c9, Value.slice b9 m9 d9)]).length ((rows ++ [(c.enf, c.kind, c.name, Value.int .u8 (o9 : Int), Value.int .i64 n9, Value.slice a9 l9 c9, Value.slice b9 m9 d9)]).map rc7).flatten G2 := by rw [List.length_append, List.map_append, List.flatten_append]; exact hG2
      refine SL.as rfl <| SL.nil <| T.blk ?_
      exact T.backW (lenS sb) (by omega) ⟨cs ++ [c], _, vn, G2, i3, off3, e3, sb, k, rfl, hX2.trans' hX3, hS3, fun l' h => (by subst h; have : l'.length < l.length := hdec; have := hf2 l rfl; omega), by omega, by rw [List.length_append]; simp; omega, by rw [heq, hstep], hwt2, by rw [List.length_append, List.length_append, hrl]; rfl, rows_snoc hrl (fun i c r a b => (hrows i c r a b).mono hX3) hc, hG2, rfl, rfl⟩ (by repeat (first | exact Sub.nil | refine Sub.cons rfl ?_))
    rw [decide_eq_true hd]
    refine SL.v (op_not rfl) <| SL.nil <| T.condF rfl ?_
    refine T.exit (T.exitCode (T.exitCut (T.exitBlk ?_)))
    refine T.seq <| T.seq <| T.region <| SL.mv rfl <| SL.v (op_nil rfl) <| SL.v (op_fieldAddr fa98_0 rfl) <| SL.v (op_loadX ty96 rfl (by assumption) rfl) ?_
    refine SL.w (op_callLend en45 (vs := [_]) rfl ((fun X1 h1 h2 => (err_spec (h2 (RdO rb v i2 off2 e2) (by simp)) : Spec _ _ _ _ fun u _ => u = .tuple #[.int .i64 (off2 : Int), .int .i64 e2])))) ?_
    rintro _ _ _ ⟨rfl, rfl, rfl⟩
    rw [heq] at hrun
    cases sa with
    | error y =>
      obtain ⟨_, rfl, rfl, hy⟩ := hS2
      obtain ⟨o, c⟩ := y
      simp only at hy
      refine SL.mv rfl <| SL.v (op_extract rfl rfl) <| SL.v (op_extract rfl rfl) <| SL.as rfl <| SL.as rfl <| SL.nil <| T.seq <| T.region <| SL.mv rfl <| SL.v (op_neqT rfl rfl (by omega)) ?_
      refine SL.nil <| T.condT rfl <| T.seq <| T.region <| SL.mv rfl <| SL.mv rfl <| SL.as rfl <| SL.as rfl <| SL.as rfl <| SL.nil <| T.ret3 rfl rfl rfl rfl ?_
      rw [hrun]
      rfl
    | ok l =>
      obtain ⟨_, rfl, rfl, hl⟩ := hS2
      have hhd : hdK l = 0 := by
        rw [hl, drop_tok ht]
        rcases hd with hd | hd
        · exact absurd rfl hd
        · exact hd
      obtain ⟨k, rfl⟩ : ∃ q, k = q + 1 := ⟨k - 1, by omega⟩
      have hrun : parseM s = if chkAll cs = 0 then .ok cs else .error (0, chkAll cs) := by
        rw [hrun]
        simp only [runC, consP_stop hhd]
      have hw0 := hwt l rfl
      refine SL.mv rfl <| SL.v (op_extract rfl rfl) <| SL.v (op_extract rfl rfl) <| SL.as rfl <| SL.as rfl <| SL.nil <| T.seq <| T.region <| SL.mv rfl <| SL.v (op_neqF rfl rfl (by omega)) ?_
      refine SL.nil <| T.condF rfl <| T.skip <| T.seq <| T.pubG (own0 := [_]) hG ?_
      intro X9 hX9 hS9
      have hC : ConsR X9 (.slice Av rows.length cv) cs := ⟨rows, RowR.ofG hG hS9, hrl, fun i c r a b => (hrows i c r a b).mono hX9⟩
      refine T.seq <| T.region <| SL.mv rfl <| SL.w (op_callF en16 (vs := [_]) rfl (checkB_spec (((hP10.mono hX1).mono hX2).mono hX9) hC (by omega) (fun c hc => by have := wtC_mem hc; omega))) ?_
      rintro _ _ Y1 ⟨rfl, hY1, rfl⟩
      by_cases hz : chkAll cs = 0
      · skip
        refine SL.as rfl <| SL.nil <| T.seq <| T.region <| SL.mv rfl <| SL.v (op_neqF rfl rfl (by omega)) ?_
        refine SL.nil <| T.condF rfl <| T.skip <| T.seq <| T.region <| SL.mv rfl <| SL.as rfl <| SL.v (op_assign (v := .int .i64 ((0 : Nat) : Int)) rfl) <| SL.v (op_assign (v := .int .i64 ((0 : Nat) : Int)) rfl) <| SL.nil <| T.ret3 rfl rfl rfl rfl ?_
        rw [hrun, if_pos hz]
        exact ⟨_, rfl, hC.mono hY1⟩
      · refine SL.as rfl <| SL.nil <| T.seq <| T.region <| SL.mv rfl <| SL.v (op_neqT rfl rfl (by omega)) ?_
        refine SL.nil <| T.condT rfl <| T.seq <| T.region <| SL.mv rfl <| SL.as rfl <| SL.v (op_assign (v := .int .i64 ((0 : Nat) : Int)) rfl) <| SL.as rfl <| SL.nil <| T.ret3 rfl rfl rfl rfl ?_
        rw [hrun, if_neg hz]
end Go.Proofs.YtnabbnhefjfegaaGreatDoor
namespace Go.Proofs.YtnabbnhefjfegaaGreatDoor
open Go.RowKit
theorem name_key {s : ByteArray} (h : validS s) {w : ByteArray} (hw : w ∈ keyws) : s ≠ w := fun e => h.2.2.1 (e ▸ hw)
theorem kNot : wNot ∈ keyws := by simp [keyws]
theorem kTrue : wTrue ∈ keyws := by simp [keyws]
theorem kFalse : wFalse ∈ keyws := by simp [keyws]
theorem kCount : wCount ∈ keyws := by simp [keyws]
theorem kMembers : wMembers ∈ keyws := by simp [keyws]
theorem nameT_ok {s : ByteArray} {o : Nat} {l : List Tk} (h : validS s) : nameT (wT s o :: l) = .ok (s, l) := by
  show (if (1 : Nat) ≠ 1 ∨ s ∈ keyws then _ else if ¬validS s then _ else _) = _
  rw [if_neg (fun hh => hh.elim (fun h1 => h1 rfl) h.2.2.1), if_neg (fun hh => hh h)]; rfl
theorem expT_ok {w : ByteArray} {o : Nat} {l : List Tk} : expT w (sT w o :: l) = .ok ((), l) := by rw [expT, isT_s, if_pos rfl]; rfl
theorem namesG_ok {rest : List Tk} (hr : isT wComma rest = false) : ∀ (l ns : List ByteArray) (o k : Nat), (∀ s ∈ l, validS s) → (commasK l o ++ rest).length ≤ k → namesG k ns (commasK l o ++ rest) = .ok (ns ++ l, rest)
  | [], ns, o, k, _, _ => by
    rw [commasK, List.nil_append, List.append_nil]
    cases k with
    | zero => rfl
    | succ k => rw [namesG, hr]; rfl
  | s :: l, ns, o, k, hv, hk => by
    rw [commasK] at hk ⊢
    simp only [List.cons_append, List.length_cons] at hk
    obtain ⟨k, rfl⟩ : ∃ q, k = q + 1 := ⟨k - 1, by omega⟩
    simp only [List.cons_append]
    rw [namesG, isT_s, if_pos rfl, List.tail_cons, nameT_ok (hv s (by simp)), bindR_ok, namesG_ok hr l (ns ++ [s]) _ k (fun x hx => hv x (by simp [hx])) (by omega)]
    simp
theorem namesP_ok {ns : List ByteArray} {o o' o'' : Nat} {rest : List Tk} (h1 : 0 < ns.length) (hv : ∀ s ∈ ns, validS s) {several : Bool} (hs : several = true ∨ ns.length = 1) : namesP several (sT wLp o :: (namesK ns o' ++ sT wRp o'' :: rest)) = .ok (ns, rest) := by
  match ns, h1, hs with
  | s :: l, _, hs =>
    rw [namesK, namesP, expT_ok, bindR_ok, List.cons_append, nameT_ok (hv s (by simp)), bindR_ok]
    have hr : isT wComma (sT wRp o'' :: rest) = false := isT_sne (by decide)
    rcases hs with rfl | hs
    · rw [if_pos rfl, namesG_ok hr l [s] _ _ (fun x hx => hv x (by simp [hx])) (Nat.le_refl _), bindR_ok, expT_ok, bindR_ok]; rfl
    · have hl : l = [] := List.eq_nil_of_length_eq_zero (by simpa using hs)
      subst hl
      have : ∀ k, namesG k [s] (commasK [] (o' + s.size) ++ sT wRp o'' :: rest) = .ok ([s], sT wRp o'' :: rest) := fun k => by
        rw [commasK, List.nil_append]
        cases k with
        | zero => rfl
        | succ k => rw [namesG, hr]; rfl
      rw [this, bindR_ok, expT_ok, bindR_ok]
/-- What a tree's tokens do at every level, with and without parentheses. -/
def Good (e : Ex) : Prop := ∀ f, depE e + 1 ≤ f → ∀ k o, 1 ≤ k → k ≤ 7 → Ck (primP (exprP f)) k (oprK e k o) e ∧ (5 ≤ k → hdN (oprK e k o))
theorem strN_pos (op : Nat) : 1 ≤ strN op ∧ strN op ≤ 7 := by
  unfold strN
  split
  · omega
  · split
    · omega
    · split
      · omega
      · split
        · omega
        · split
          · omega
          · split <;> omega
/-- Without parentheses: from the level of the operator down. -/
theorem good_bare {e : Ex} (h : ∀ f, depE e ≤ f → ∀ o, Ck (primP (exprP f)) (strN e.op) (toksE e o) e ∧ (5 ≤ strN e.op → hdN (toksE e o))) : Good e := by
  obtain ⟨hp1, hp7⟩ := strN_pos e.op
  have bare : ∀ f, depE e ≤ f → ∀ k o, 1 ≤ k → k ≤ strN e.op → Ck (primP (exprP f)) k (toksE e o) e := fun f hf k o h1 h2 => Ck.down (h f hf o).1 hp7 (h f hf o).2 k h1 h2
  intro f hf k o h1 h7
  unfold oprK parK
  split
  · have hn : hdN (sT wLp o :: (toksE e (o + 1) ++ [sT wRp (o + 1 + (textE e).size)])) := fun rest => isT_sne (by decide)
    obtain ⟨f, rfl⟩ : ∃ q, f = q + 1 := ⟨f - 1, by omega⟩
    have h7' : Ck (primP (exprP (f + 1))) 7 (sT wLp o :: (toksE e (o + 1) ++ [sT wRp (o + 1 + (textE e).size)])) e := by
      intro rest
      have hb : C1 (primP (exprP f)) (toksE e (o + 1)) e := bare f (by omega) 1 (o + 1) (by omega) hp1
      have hb := hb (sT wRp (o + 1 + (textE e).size) :: rest) _ ⟨fun _ => isT_sne (by decide), fun _ => isT_sne (by decide), fun _ => isT_sne (by decide), fun _ c hc => isT_sne (by revert c; decide), fun _ => isT_sne (by decide)⟩ (Nat.lt_succ_self _)
      rw [List.cons_append, List.append_assoc, List.singleton_append, primP, if_neg (by show ¬(3 : Nat) = 2; omega), isT_sne (by decide), isT_sne (by decide), isT_sne (by decide), isT_sne (by decide), isT_s]
      simp only [Bool.false_eq_true, if_false, if_true]
      rw [exprP_succ, hb, bindR_ok, expT_ok, bindR_ok]
    exact ⟨Ck.down h7' (by omega) (fun _ => hn) k h1 h7, fun _ => hn⟩
  · rename_i hlt
    exact ⟨bare f (by omega) k o h1 (by omega), fun h5 => (h f (by omega) o).2 (by omega)⟩
theorem hdN_append {t u : List Tk} (h : hdN t) : hdN (t ++ u) := fun rest => by rw [List.append_assoc]; exact h _
/-- EVERY ACCEPTED TREE. -/
theorem good_all : ∀ (n : Nat) (e : Ex), sizE e ≤ n → nodeE e = 0 → Good e := by
  intro n
  induction n with
  | zero => intro e h; cases e; rw [sizE] at h; omega
  | succ n ih =>
    intro e hsz hnode
    cases e with
    | mk op v ns al =>
    obtain ⟨hown, hargs⟩ := node_ok hnode
    obtain ⟨o1, o2, o3, o4, o5, o6, o7, o8, o9⟩ := own_ok hown
    rw [sizE] at hsz
    refine good_bare fun f hf o => ?_
    simp only [Ex.op]
    rw [depE] at hf
    by_cases c7 : op < 7
    · have hs7 : strN op = 7 := by unfold strN; rw [if_neg (by omega), if_neg (by omega), if_neg (by omega), if_neg (by omega), if_neg (by omega), if_neg (by omega)]
      have hal : al = [] := List.eq_nil_of_length_eq_zero (by rw [o3, argN, if_pos c7])
      subst hal
      rw [hs7]
      show C7 _ _ _ ∧ _
      by_cases c1 : op = 1
      · subst c1
        obtain ⟨q, rfl⟩ := Int.eq_ofNat_of_zero_le o8
        have hns : ns = [] := List.eq_nil_of_length_eq_zero (by simpa [namN] using o5)
        subst hns
        have e1 : toksE (.mk 1 (q : Int) [] []) o = [⟨2, decB q, q, o⟩] := by rw [toksE, if_pos rfl]; rfl
        rw [e1]
        exact ⟨fun rest => by rw [List.singleton_append, primP, if_pos rfl], fun _ rest => isT_kind2 rfl⟩
      have hv0 := o4 c1
      subst hv0
      by_cases c2 : op = 2
      · subst c2
        have hns : ns = [] := List.eq_nil_of_length_eq_zero (by simpa [namN] using o5)
        subst hns
        have e1 : toksE (.mk 2 0 [] []) o = [wT wTrue o] := by rw [toksE, if_neg (by omega), if_pos rfl]
        rw [e1]
        exact ⟨fun rest => by rw [List.singleton_append, primP, if_neg (by show ¬(1 : Nat) = 2; omega), isT_w, if_pos rfl], fun _ rest => isT_wne (by decide)⟩
      by_cases c3 : op = 3
      · subst c3
        have hns : ns = [] := List.eq_nil_of_length_eq_zero (by simpa [namN] using o5)
        subst hns
        have e1 : toksE (.mk 3 0 [] []) o = [wT wFalse o] := by rw [toksE, if_neg (by omega), if_neg (by omega), if_pos rfl]
        rw [e1]
        exact ⟨fun rest => by rw [List.singleton_append, primP, if_neg (by show ¬(1 : Nat) = 2; omega), isT_wne (by decide), isT_w, if_neg (by simp), if_pos rfl], fun _ rest => isT_wne (by decide)⟩
      by_cases c4 : op = 4
      · subst c4
        obtain ⟨s, rfl⟩ : ∃ s, ns = [s] := by
          have hl1 : ns.length = 1 := by simpa [namN] using o5
          match ns, hl1 with
          | [s], _ => exact ⟨s, rfl⟩
        have hv := o6 s (by simp)
        have e1 : toksE (.mk 4 0 [s] []) o = [wT s o] := by rw [toksE, if_neg (by omega), if_neg (by omega), if_neg (by omega), if_pos rfl]; rfl
        rw [e1]
        refine ⟨fun rest => ?_, fun _ rest => isT_ne (name_key hv kNot)⟩
        have n1 : isT wTrue (wT s o :: rest) = false := isT_ne (name_key hv kTrue)
        have n2 : isT wFalse (wT s o :: rest) = false := isT_ne (name_key hv kFalse)
        have n3 : isT wCount (wT s o :: rest) = false := isT_ne (name_key hv kCount)
        have n4 : isT wMembers (wT s o :: rest) = false := isT_ne (name_key hv kMembers)
        have n5 : isT wLp (wT s o :: rest) = false := isT_ne (fun h => by
          have h6 := hv.2.2.2 0 40 (Nat.le_refl _) (by rw [show s = wLp from h]; rfl)
          exact absurd h6.1 (by decide))
        rw [List.singleton_append, primP, if_neg (by show ¬(1 : Nat) = 2; omega), n1, n2, n3, n4, n5]
        simp only [Bool.false_eq_true, if_false]
        rw [nameT_ok hv, bindR_ok]
      by_cases c5 : op = 5
      · subst c5
        have hl1 : 1 ≤ ns.length ∧ ns.length ≤ 8 := by simpa [namN] using o5
        have e1 : toksE (.mk 5 0 ns []) o = wT wCount o :: sT wLp (o + 5) :: (namesK ns (o + 6) ++ [sT wRp (o + 6 + (joinB ns).size)]) := by rw [toksE, if_neg (by omega), if_neg (by omega), if_neg (by omega), if_neg (by omega), if_pos rfl]
        rw [e1]
        refine ⟨fun rest => ?_, fun _ rest => isT_wne (by decide)⟩
        simp only [List.cons_append, List.append_assoc, List.nil_append]
        rw [primP, if_neg (by show ¬(1 : Nat) = 2; omega), isT_wne (by decide), isT_wne (by decide), isT_w]
        simp only [Bool.false_eq_true, if_false, if_true]
        rw [namesP_ok hl1.1 o6 (.inl rfl), bindR_ok]
      · have c6 : op = 6 := by omega
        subst c6
        obtain ⟨s, rfl⟩ : ∃ s, ns = [s] := by
          have hl1 : ns.length = 1 := by simpa [namN] using o5
          match ns, hl1 with
          | [s], _ => exact ⟨s, rfl⟩
        have e1 : toksE (.mk 6 0 [s] []) o = wT wMembers o :: sT wLp (o + 7) :: (namesK [s] (o + 8) ++ [sT wRp (o + 8 + s.size)]) := by rw [toksE, if_neg (by omega), if_neg (by omega), if_neg (by omega), if_neg (by omega), if_neg (by omega), if_pos rfl]; rfl
        rw [e1]
        refine ⟨fun rest => ?_, fun _ rest => isT_wne (by decide)⟩
        simp only [List.cons_append, List.append_assoc, List.nil_append]
        rw [primP, if_neg (by show ¬(1 : Nat) = 2; omega), isT_wne (by decide), isT_wne (by decide), isT_wne (by decide), isT_w]
        simp only [Bool.false_eq_true, if_false, if_true]
        rw [namesP_ok (by simp) o6 (.inr rfl), bindR_ok]
    have hv0 := o4 (by omega)
    subst hv0
    have hns : ns = [] := List.eq_nil_of_length_eq_zero (by
      unfold namN at o5
      rw [if_neg (by omega), if_neg (by omega)] at o5; exact o5)
    subst hns
    by_cases d7 : op = 7
    · subst d7
      obtain ⟨a, rfl⟩ : ∃ a, al = [a] := by
        have hl1 : al.length = 1 := by rw [o3]; rfl
        match al, hl1 with
        | [a], _ => exact ⟨a, rfl⟩
      have ga := ih a (by rw [sizL, sizL] at hsz; omega) (nodeL_zero hargs a (by simp))
      have hd : depE a + 1 ≤ f := by rw [depL, depL] at hf; omega
      have e1 : toksE (.mk 7 0 [] [a]) o = wT wNot o :: oprK a 4 (o + 4) := by
        rw [toksE, if_neg (by omega), if_neg (by omega), if_neg (by omega), if_neg (by omega), if_neg (by omega), if_neg (by omega), toksL, toksL]; rfl
      rw [e1]
      have h4 : C4 (primP (exprP f)) (oprK a 4 (o + 4)) a := (ga f hd 4 (o + 4) (by omega) (by omega)).1
      exact ⟨b_not h4, fun h => absurd h (by decide)⟩
    obtain ⟨a, b, rfl⟩ : ∃ a b, al = [a, b] := by
      have hl1 : al.length = 2 := by rw [o3, argN, if_neg c7, if_neg d7]
      match al, hl1 with
      | [a, b], _ => exact ⟨a, b, rfl⟩
    have ga := ih a (by rw [sizL, sizL, sizL] at hsz; omega) (nodeL_zero hargs a (by simp))
    have gb := ih b (by rw [sizL, sizL, sizL] at hsz; omega) (nodeL_zero hargs b (by simp))
    have hda : depE a + 1 ≤ f := by rw [depL, depL, depL] at hf; omega
    have hdb : depE b + 1 ≤ f := by rw [depL, depL, depL] at hf; omega
    have e1 : toksE (.mk op 0 [] [a, b]) o = oprK a (lefN op) o ++ opK op (o + (parB (strN a.op) (textE a) (lefN op)).size + 1) :: oprK b (rigN op) (o + (parB (strN a.op) (textE a) (lefN op)).size + (wordB op).size) := by
      rw [toksE, if_neg (by omega), if_neg (by omega), if_neg (by omega), if_neg (by omega), if_neg (by omega), if_neg (by omega), toksL, toksL, toksL]; rfl
    rw [e1]
    generalize o + (parB (strN a.op) (textE a) (lefN op)).size + 1 = p1
    generalize o + (parB (strN a.op) (textE a) (lefN op)).size + (wordB op).size = p2
    have ha := fun k h1 h7 => (ga f hda k o h1 h7).1
    have hb := fun k h1 h7 => (gb f hdb k p2 h1 h7).1
    by_cases e8 : op = 8
    · subst e8
      exact ⟨b_and (ha 3 (by omega) (by omega)) (hb 4 (by omega) (by omega)), fun h => absurd h (by decide)⟩
    by_cases e9 : op = 9
    · subst e9
      exact ⟨b_or (ha 2 (by omega) (by omega)) (hb 3 (by omega) (by omega)), fun h => absurd h (by decide)⟩
    by_cases e10 : op = 10
    · subst e10
      exact ⟨b_arr (ha 2 (by omega) (by omega)) (hb 1 (by omega) (by omega)), fun h => absurd h (by decide)⟩
    by_cases e16 : op = 16
    · subst e16
      exact ⟨b_add (ha 6 (by omega) (by omega)) (hb 7 (by omega) (by omega)), fun _ => hdN_append ((ga f hda 6 o (by omega) (by omega)).2 (by omega))⟩
    have h5 : strN op = 5 := by unfold strN; rw [if_neg (by omega), if_neg (by omega), if_neg (by omega), if_neg (by omega), if_pos (by omega)]
    have hl6 : lefN op = 6 := by rw [lefN, if_neg e10, if_pos h5, h5]
    have hr6 : rigN op = 6 := by rw [rigN, if_neg e10, h5]
    rw [h5, hl6, hr6]
    exact ⟨b_cmp (by omega) (by omega) (ha 6 (by omega) (by omega)) (hb 6 (by omega) (by omega)), fun _ => hdN_append ((ga f hda 6 o (by omega) (by omega)).2 (by omega))⟩
/-- The tokens of a whole text. -/
theorem parse_back {e : Ex} (h : nodeE e = 0) {f o : Nat} (hf : depE e + 1 < f) {rest : List Tk} (hs : Stop 1 rest) : exprP f (toksE e o ++ rest) = .ok (e, rest) := by
  obtain ⟨f, rfl⟩ : ∃ q, f = q + 1 := ⟨f - 1, by omega⟩
  have hg : C1 (primP (exprP f)) (oprK e 1 o) e := (good_all _ e (Nat.le_refl _) h f (by omega) 1 o (by omega) (by omega)).1
  have e1 : oprK e 1 o = toksE e o := by rw [oprK, parK, if_neg (by have := (strN_pos e.op).1; omega)]
  rw [e1] at hg
  rw [exprP_succ]
  exact hg rest _ hs (Nat.lt_succ_self _)
end Go.Proofs.YtnabbnhefjfegaaGreatDoor
namespace Go.Proofs.YtnabbnhefjfegaaGreatDoor
open Go.RowKit
/-- A text whose tokens are those of an expression at level k. -/
def RenP (k : Nat) (t : List UInt8) (e : Ex) : Prop := ∃ ts : Nat → List Tk, LxW t ts ∧ ∀ o f, (ts o).length + 1 ≤ f → Ck (primP (exprP f)) k (ts o) e ∧ (5 ≤ k → hdN (ts o))
theorem oprK_len (a : Ex) (k o : Nat) (h : ∀ o, depE a ≤ (toksE a o).length) : depE a ≤ (oprK a k o).length := by
  unfold oprK parK
  split
  · rw [List.length_cons, List.length_append]; have := h (o + 1); omega
  · exact h o
theorem toks_len : ∀ (n : Nat) (e : Ex), sizE e ≤ n → nodeE e = 0 → ∀ o, depE e ≤ (toksE e o).length := by
  intro n
  induction n with
  | zero => intro e h; cases e; rw [sizE] at h; omega
  | succ n ih =>
    intro e hsz hnode o
    cases e with
    | mk op v ns al =>
    obtain ⟨hown, hargs⟩ := node_ok hnode
    obtain ⟨o1, o2, o3, o4, o5, o6, o7, o8, o9⟩ := own_ok hown
    rw [sizE] at hsz
    by_cases c7 : op < 7
    · have hal : al = [] := List.eq_nil_of_length_eq_zero (by rw [o3, argN, if_pos c7])
      subst hal
      have hd : depE (.mk op v ns []) = 1 := by rw [depE, depL]
      rw [hd, toksE]
      by_cases c1 : op = 1
      · rw [if_pos c1]; exact Nat.le_refl _
      rw [if_neg c1]
      by_cases c2 : op = 2
      · rw [if_pos c2]; exact Nat.le_refl _
      rw [if_neg c2]
      by_cases c3 : op = 3
      · rw [if_pos c3]; exact Nat.le_refl _
      rw [if_neg c3]
      by_cases c4 : op = 4
      · rw [if_pos c4]; exact Nat.le_refl _
      rw [if_neg c4]
      by_cases c5 : op = 5
      · rw [if_pos c5]; exact Nat.succ_le_succ (Nat.zero_le _)
      rw [if_neg c5, if_pos (by omega)]; exact Nat.succ_le_succ (Nat.zero_le _)
    by_cases d7 : op = 7
    · subst d7
      obtain ⟨a, rfl⟩ : ∃ a, al = [a] := by
        have hl1 : al.length = 1 := by rw [o3]; rfl
        match al, hl1 with
        | [a], _ => exact ⟨a, rfl⟩
      have ga := oprK_len a 4 (o + 4) (ih a (by rw [sizL, sizL] at hsz; omega) (nodeL_zero hargs a (by simp)))
      have e1 : toksE (.mk 7 v ns [a]) o = wT wNot o :: oprK a 4 (o + 4) := by
        rw [toksE, if_neg (by omega), if_neg (by omega), if_neg (by omega), if_neg (by omega), if_neg (by omega), if_neg (by omega), toksL, toksL]; rfl
      rw [depE, depL, depL, e1, List.length_cons]
      omega
    obtain ⟨a, b, rfl⟩ : ∃ a b, al = [a, b] := by
      have hl1 : al.length = 2 := by rw [o3, argN, if_neg c7, if_neg d7]
      match al, hl1 with
      | [a, b], _ => exact ⟨a, b, rfl⟩
    have ga := oprK_len a (lefN op) o (ih a (by rw [sizL, sizL, sizL] at hsz; omega) (nodeL_zero hargs a (by simp)))
    have gb := oprK_len b (rigN op) (o + (parB (strN a.op) (textE a) (lefN op)).size + (wordB op).size) (ih b (by rw [sizL, sizL, sizL] at hsz; omega) (nodeL_zero hargs b (by simp)))
    have e1 : toksE (.mk op v ns [a, b]) o = oprK a (lefN op) o ++ opK op (o + (parB (strN a.op) (textE a) (lefN op)).size + 1) :: oprK b (rigN op) (o + (parB (strN a.op) (textE a) (lefN op)).size + (wordB op).size) := by
      rw [toksE, if_neg (by omega), if_neg (by omega), if_neg (by omega), if_neg (by omega), if_neg (by omega), if_neg (by omega), toksL, toksL, toksL]; rfl
    rw [depE, depL, depL, depL, e1, List.length_append, List.length_cons]
    omega
theorem RenP.down {k : Nat} {t : List UInt8} {e : Ex} (h : RenP k t e) (hk : k ≤ 7) (j : Nat) (h1 : 1 ≤ j) (h2 : j ≤ k) : RenP j t e := by
  obtain ⟨ts, hl, hc⟩ := h
  exact ⟨ts, hl, fun o f hf => ⟨Ck.down (hc o f hf).1 hk (hc o f hf).2 j h1 h2, fun h5 => (hc o f hf).2 (by omega)⟩⟩
/-- Two operands in parentheses, or of one token, with an operator between them. -/
theorem RenP.two {op : Nat} {t t' : List UInt8} {e e' : Ex} (h1 : 8 ≤ op) (h2 : op ≤ 16) (h : RenP 7 t e) (h' : RenP 7 t' e') : RenP (strN op) (t ++ bl (wordB op) ++ t') (two op e e') := by
  have g : ∀ k, 1 ≤ k → k ≤ 7 → RenP k t e := fun k h1 h2 => h.down (Nat.le_refl _) k h1 h2
  obtain ⟨ts, hl, hc⟩ := h
  obtain ⟨ts', hl', hc'⟩ := h'
  have hlx : LxW (t ++ bl (wordB op) ++ t') (fun o => ts o ++ opK op (o + t.length + 1) :: ts' (o + (t ++ bl (wordB op)).length)) := by
    refine LxW.of (LxS.appW (hl.appS (lx_op h1 h2) (op_ndel h1 h2)) hl') rfl fun o => ?_
    simp
  refine ⟨_, hlx, fun o f hf => ?_⟩
  rw [List.length_append, List.length_cons] at hf
  have ca := hc o f (by omega)
  have cb := hc' (o + (t ++ bl (wordB op)).length) f (by omega)
  generalize ts o = u at ca ⊢
  generalize ts' (o + (t ++ bl (wordB op)).length) = u' at cb ⊢
  generalize o + t.length + 1 = p1
  have ha : ∀ k, 1 ≤ k → k ≤ 7 → Ck (primP (exprP f)) k u e := fun k h1 h2 => Ck.down ca.1 (Nat.le_refl _) ca.2 k h1 h2
  have hb : ∀ k, 1 ≤ k → k ≤ 7 → Ck (primP (exprP f)) k u' e' := fun k h1 h2 => Ck.down cb.1 (Nat.le_refl _) cb.2 k h1 h2
  have hn : hdN u := ca.2 (by omega)
  by_cases e8 : op = 8
  · subst e8
    exact ⟨b_and (ha 3 (by omega) (by omega)) (hb 4 (by omega) (by omega)), fun h => absurd h (by decide)⟩
  by_cases e9 : op = 9
  · subst e9
    exact ⟨b_or (ha 2 (by omega) (by omega)) (hb 3 (by omega) (by omega)), fun h => absurd h (by decide)⟩
  by_cases e10 : op = 10
  · subst e10
    exact ⟨b_arr (ha 2 (by omega) (by omega)) (hb 1 (by omega) (by omega)), fun h => absurd h (by decide)⟩
  by_cases e16 : op = 16
  · subst e16
    exact ⟨b_add (ha 6 (by omega) (by omega)) (hb 7 (by omega) (by omega)), fun _ => hdN_append hn⟩
  have h5 : strN op = 5 := by unfold strN; rw [if_neg (by omega), if_neg (by omega), if_neg (by omega), if_neg (by omega), if_pos (by omega)]
  rw [h5]
  exact ⟨b_cmp (by omega) (by omega) (ha 6 (by omega) (by omega)) (hb 6 (by omega) (by omega)), fun _ => hdN_append hn⟩
end Go.Proofs.YtnabbnhefjfegaaGreatDoor
namespace Go.Proofs.YtnabbnhefjfegaaGreatDoor
open Go.RowKit
end Go.Proofs.YtnabbnhefjfegaaGreatDoor
namespace Go.Proofs.YtnabbnhefjfegaaGreatDoor
open Go.RowKit
end Go.Proofs.YtnabbnhefjfegaaGreatDoor
namespace Go.Proofs.YtnabbnhefjfegaaGreatDoor
open Go.RowKit
def modeW (c : Con) : ByteArray := if c.enf then wEnforce else wDeclare
def kindW (k : Nat) : ByteArray := if k = 1 then wStatic else if k = 2 then wDynamic else wUsers
/-- A line without its semicolon. -/
def line0 (c : Con) : List UInt8 := bl (modeB c) ++ bl (kindB c.kind) ++ bl c.name ++ [58] ++ [32] ++ bl (textE c.ex)
def tok0 (c : Con) (o : Nat) : List Tk := [wT (modeW c) o] ++ [wT (kindW c.kind) (o + (bl (modeB c)).length)] ++ [wT c.name (o + (bl (modeB c) ++ bl (kindB c.kind)).length)] ++ [sT wColon (o + (bl (modeB c) ++ bl (kindB c.kind) ++ bl c.name).length)] ++ toksE c.ex (o + (bl (modeB c) ++ bl (kindB c.kind) ++ bl c.name ++ [58] ++ [32]).length)
/-- A constraint whose line is read back. -/
def conOk (c : Con) : Prop := 1 ≤ c.kind ∧ c.kind ≤ 3 ∧ validS c.name ∧ nodeE c.ex = 0
theorem lx_mode (c : Con) : LxS (bl (modeB c)) (fun o => [wT (modeW c) o]) := by
  have h1 : LxW (bl wEnforce) (fun o => [wT wEnforce o]) := lx_word rfl (by decide) (by decide)
  have h2 : LxW (bl wDeclare) (fun o => [wT wDeclare o]) := lx_word rfl (by decide) (by decide)
  unfold modeB modeW
  split
  · exact (h1.appS lx_blank fun r => by simp [ndel]; decide).of rfl fun o => by simp
  · exact (h2.appS lx_blank fun r => by simp [ndel]; decide).of rfl fun o => by simp
theorem lx_kind {k : Nat} (h1 : 1 ≤ k) (h3 : k ≤ 3) : LxS (bl (kindB k)) (fun o => [wT (kindW k) o]) := by
  have g1 : LxW (bl wStatic) (fun o => [wT wStatic o]) := lx_word rfl (by decide) (by decide)
  have g2 : LxW (bl wDynamic) (fun o => [wT wDynamic o]) := lx_word rfl (by decide) (by decide)
  have g3 : LxW (bl wUsers) (fun o => [wT wUsers o]) := lx_word rfl (by decide) (by decide)
  match k, h1, h3 with
  | 1, _, _ => exact (g1.appS lx_blank fun r => by simp [ndel]; decide).of rfl fun o => by simp [kindW]
  | 2, _, _ => exact (g2.appS lx_blank fun r => by simp [ndel]; decide).of rfl fun o => by simp [kindW]
  | 3, _, _ => exact (g3.appS lx_blank fun r => by simp [ndel]; decide).of rfl fun o => by simp [kindW]
theorem lx_colon : LxS [58] (fun o => [sT wColon o]) := lx_sym rfl (by decide) (by decide) fun _ => rfl
theorem lx_semi : LxS [59] (fun o => [sT wSemi o]) := lx_sym rfl (by decide) (by decide) fun _ => rfl
theorem lx_line0 {c : Con} (h : conOk c) : LxW (line0 c) (tok0 c) := by
  obtain ⟨h1, h3, hn, he⟩ := h
  refine (LxS.appW (((LxW.appS (LxS.appW ((lx_mode c).app (lx_kind h1 h3)) (lx_name hn)) lx_colon (fun r => by simp [ndel]; decide)).app lx_blank)) (lx_text _ c.ex (Nat.le_refl _) he)).of rfl fun o => ?_
  simp [tok0]
theorem stop_kind {k : Nat} {t : Tk} {l : List Tk} (h : t.kind = 0) : Stop k (t :: l) := by
  have : ∀ w, isT w (t :: l) = false := fun w => by simp [isT, h]
  exact ⟨fun _ => this _, fun _ => this _, fun _ => this _, fun _ _ _ => this _, fun _ => this _⟩
theorem stop_semi {k o : Nat} {l : List Tk} : Stop k (sT wSemi o :: l) := ⟨fun _ => isT_sne (by decide), fun _ => isT_sne (by decide), fun _ => isT_sne (by decide), fun _ c hc => isT_sne (by revert c; decide), fun _ => isT_sne (by decide)⟩
theorem con_mid {c : Con} (h : conOk c) {F o : Nat} (hF : depE c.ex + 1 < F) {rest : List Tk} (hs : Stop 1 rest) : conP (exprP F) (tok0 c o ++ rest) = bindR (expT wSemi rest) fun _ l => .ok (c, l) := by
  obtain ⟨h1, h3, hn, he⟩ := h
  have hk2 : ∀ en k o1 o2 o3, conK2 (exprP F) en k (wT c.name o1 :: sT wColon o2 :: (toksE c.ex o3 ++ rest)) = bindR (expT wSemi rest) fun _ l => .ok (⟨en, k, c.name, c.ex⟩, l) := fun en k o1 o2 o3 => by
    rw [conK2, nameT_ok hn, bindR_ok, expT_ok, bindR_ok, parse_back he hF hs, bindR_ok]
  have hk1 : ∀ en o0 o1 o2 o3, conK1 (exprP F) en (wT (kindW c.kind) o0 :: wT c.name o1 :: sT wColon o2 :: (toksE c.ex o3 ++ rest)) = bindR (expT wSemi rest) fun _ l => .ok (⟨en, c.kind, c.name, c.ex⟩, l) := fun en o0 o1 o2 o3 => by
    generalize hq : c.kind = q at h1 h3 ⊢
    match q, h1, h3 with
    | 1, _, _ => rw [show kindW 1 = wStatic from rfl, conK1, isT_w, if_pos rfl, List.tail_cons, hk2]
    | 2, _, _ => rw [show kindW 2 = wDynamic from rfl, conK1, isT_wne (by decide), if_neg (by simp), isT_w, if_pos rfl, List.tail_cons, hk2]
    | 3, _, _ =>
      have hx : ∀ l, expT wUsers (wT wUsers o0 :: l) = .ok ((), l) := fun l => by rw [expT, isT_w, if_pos rfl]; rfl
      rw [show kindW 3 = wUsers from rfl, conK1, isT_wne (by decide), if_neg (by simp), isT_wne (by decide), if_neg (by simp), hx, bindR_ok, hk2]
  obtain ⟨en, k, nm, ex⟩ := c
  simp only [tok0, List.append_assoc, List.cons_append, List.nil_append]
  cases en with
  | true =>
    rw [show modeW ⟨true, k, nm, ex⟩ = wEnforce from rfl, conP, isT_w, if_pos rfl, List.tail_cons]
    exact hk1 _ _ _ _ _
  | false =>
    have hx : ∀ o l, expT wDeclare (wT wDeclare o :: l) = .ok ((), l) := fun o l => by rw [expT, isT_w, if_pos rfl]; rfl
    rw [show modeW ⟨false, k, nm, ex⟩ = wDeclare from rfl, conP, isT_wne (by decide), if_neg (by simp), hx, bindR_ok]
    exact hk1 _ _ _ _ _
/-- A text whose tokens are those of constraints. -/
def SrcP (t : List UInt8) (cs : List Con) : Prop := ∃ ts : Nat → List Tk, LxS t ts ∧ ∀ o, cs.length ≤ (ts o).length ∧ (∀ c ∈ cs, depE c.ex < (ts o).length) ∧ ∀ F, (∀ c ∈ cs, depE c.ex + 1 < F) → ∀ k pre rest, consP (exprP F) (k + cs.length) pre (ts o ++ rest) = consP (exprP F) k (pre ++ cs) rest
theorem SrcP.nil : SrcP [] [] := ⟨fun _ => [], fun N r _ => by rw [List.nil_append, appR_nil], fun o => ⟨Nat.le_refl _, fun c h => (by cases h), fun F _ k pre rest => by rw [List.append_nil]; rfl⟩⟩
theorem SrcP.app {t t' : List UInt8} {cs cs' : List Con} (h : SrcP t cs) (h' : SrcP t' cs') : SrcP (t ++ t') (cs ++ cs') := by
  obtain ⟨ts, hl, hc⟩ := h
  obtain ⟨ts', hl', hc'⟩ := h'
  refine ⟨_, hl.app hl', fun o => ?_⟩
  obtain ⟨a1, a2, a3⟩ := hc o
  obtain ⟨b1, b2, b3⟩ := hc' (o + t.length)
  refine ⟨by simp only [List.length_append]; omega, fun c hm => ?_, fun F hF k pre rest => ?_⟩
  · rw [List.length_append]
    rcases List.mem_append.1 hm with hm | hm
    · have := a2 c hm; omega
    · have := b2 c hm; omega
  · rw [List.length_append, List.append_assoc, show k + (cs.length + cs'.length) = (k + cs'.length) + cs.length by omega, a3 F (fun c hm => hF c (List.mem_append_left _ hm)), b3 F (fun c hm => hF c (List.mem_append_right _ hm)), List.append_assoc]
theorem tok0_hd {c : Con} {o : Nat} {l : List Tk} : hdK (tok0 c o ++ l) = 1 := by simp [tok0, hdK, wT]
theorem tok0_len {c : Con} (h : conOk c) (o : Nat) : depE c.ex + 4 ≤ (tok0 c o).length := by
  have := toks_len _ c.ex (Nat.le_refl _) h.2.2.2 (o + (bl (modeB c) ++ bl (kindB c.kind) ++ bl c.name ++ [58] ++ [32]).length)
  simp only [tok0, List.length_append, List.length_cons, List.length_nil] at this ⊢
  omega
theorem SrcP.line {c : Con} (h : conOk c) : SrcP (line0 c ++ [59]) [c] := by
  refine ⟨_, (lx_line0 h).appS lx_semi (fun r => by simp [ndel]; decide), fun o => ⟨?_, fun d hd => ?_, fun F hF k pre rest => ?_⟩⟩
  · simp
  · rw [List.mem_singleton.1 hd, List.length_append]
    have := tok0_len h o
    omega
  · rw [List.append_assoc, List.singleton_append, List.length_singleton, consP, if_neg (by rw [tok0_hd]; decide), con_mid h (hF c (by simp)) stop_semi, expT_ok, bindR_ok]
/-- The last semicolon lacks. -/
theorem SrcP.open {s : ByteArray} {t : List UInt8} {cs : List Con} {c : Con} (h : SrcP t cs) (hc : conOk c) (e : bl s = t ++ line0 c) (hs : s.size ≤ 8000) : parseM s = .error (s.size, 8) := by
  obtain ⟨ts, hl, hd⟩ := h
  have hx := LxS.appW hl (lx_line0 hc)
  rw [← e] at hx
  have h1 := hx s.size [] trivial (by rw [List.append_nil, bl_size]; exact Nat.le_refl _)
  rw [List.append_nil, scan_end, bl_size, Nat.sub_self] at h1
  simp only [Nat.zero_add] at h1
  have hb : begM s = .ok ((ts 0 ++ tok0 c t.length) ++ [⟨0, ⟨#[]⟩, 0, s.size⟩]) := by rw [begM, if_neg (by omega), h1]; rfl
  obtain ⟨a1, a2, a3⟩ := hd 0
  have hln := tok0_len hc t.length
  have h2 : consP (exprP (((ts 0 ++ tok0 c t.length) ++ [(⟨0, ⟨#[]⟩, 0, s.size⟩ : Tk)]).length + 1)) (((ts 0 ++ tok0 c t.length) ++ [(⟨0, ⟨#[]⟩, 0, s.size⟩ : Tk)]).length + 1) [] ((ts 0 ++ tok0 c t.length) ++ [⟨0, ⟨#[]⟩, 0, s.size⟩]) = .error (s.size, 8) := by
    obtain ⟨k, hk⟩ : ∃ k, ((ts 0 ++ tok0 c t.length) ++ [(⟨0, ⟨#[]⟩, 0, s.size⟩ : Tk)]).length + 1 = (k + 1) + cs.length := ⟨(ts 0).length + (tok0 c t.length).length + 1 - cs.length, by simp only [List.length_append, List.length_cons, List.length_nil]; omega⟩
    rw [hk, List.append_assoc, a3 _ (fun d hm => by have := a2 d hm; simp only [List.length_append, List.length_cons, List.length_nil] at hk; omega), consP, if_neg (by rw [tok0_hd]; decide), con_mid hc (by simp only [List.length_append, List.length_cons, List.length_nil] at hk; omega) (stop_kind rfl)]
    rfl
  rw [parseM, hb]
  simp only [h2]
/-- A semicolon too many. -/
theorem SrcP.more {s : ByteArray} {t : List UInt8} {cs : List Con} (h : SrcP t cs) (e : bl s = t ++ [59]) (hs : s.size ≤ 8000) : parseM s = .error (t.length, 8) := by
  obtain ⟨ts, hl, hd⟩ := h
  have hx := LxS.app hl lx_semi
  rw [← e] at hx
  have h1 := hx s.size [] (by rw [List.append_nil, bl_size]; exact Nat.le_refl _)
  rw [List.append_nil, scan_end, bl_size, Nat.sub_self] at h1
  simp only [Nat.zero_add] at h1
  have hb : begM s = .ok ((ts 0 ++ [sT wSemi t.length]) ++ [⟨0, ⟨#[]⟩, 0, s.size⟩]) := by rw [begM, if_neg (by omega), h1]; rfl
  obtain ⟨a1, a2, a3⟩ := hd 0
  have h2 : consP (exprP (((ts 0 ++ [sT wSemi t.length]) ++ [(⟨0, ⟨#[]⟩, 0, s.size⟩ : Tk)]).length + 1)) (((ts 0 ++ [sT wSemi t.length]) ++ [(⟨0, ⟨#[]⟩, 0, s.size⟩ : Tk)]).length + 1) [] ((ts 0 ++ [sT wSemi t.length]) ++ [⟨0, ⟨#[]⟩, 0, s.size⟩]) = .error (t.length, 8) := by
    obtain ⟨k, hk⟩ : ∃ k, ((ts 0 ++ [sT wSemi t.length]) ++ [(⟨0, ⟨#[]⟩, 0, s.size⟩ : Tk)]).length + 1 = (k + 1) + cs.length := ⟨(ts 0).length + 1 + 1 - cs.length, by simp only [List.length_append, List.length_cons, List.length_nil]; omega⟩
    rw [hk, List.append_assoc, a3 _ (fun d hm => by have := a2 d hm; simp only [List.length_append, List.length_cons, List.length_nil] at hk; omega), consP, if_neg (by simp [hdK, sT])]
    rfl
  rw [parseM, hb]
  simp only [h2]
end Go.Proofs.YtnabbnhefjfegaaGreatDoor
namespace Go.Proofs.YtnabbnhefjfegaaGreatDoor
section
set_option maxRecDepth 100000
theorem en140 : Enters Tryz.prog 140 := enters_mk Tryz.func140 (by kernel_rfl) rfl
end
open Go.RowKit
theorem rblank_spec {X : PMap} (b : UInt8) : Spec Tryz.prog 140 [.int .u8 (b.toNat : Int)] X fun u _ => u = .bool (blkB b) := by
  by_cases hb : blkB b = true
  · have hb4 : b.toNat = 32 ∨ b.toNat = 9 ∨ b.toNat = 10 ∨ b.toNat = 13 := by simpa [blkB] using hb
    rw [hb]
    rcases hb4 with h | h | h | h
    · refine Spec.enter Tryz.func140 rfl Tryz.ntmps140 rfl ?_
      intro w0 hw0
      refine T.seq <| T.region <| SL.as rfl <| SL.nil <| T.seq <| T.region <| SL.mv rfl <| SL.v (op_eqlT rfl rfl (by omega)) ?_
      refine SL.mv rfl <| SL.skip rfl rfl ?_
      refine SL.skip rfl rfl ?_
      refine SL.v (op_pickT rfl rfl) <| SL.mv rfl <| SL.skip rfl rfl ?_
      refine SL.skip rfl rfl ?_
      refine SL.v (op_pickT rfl rfl) <| SL.mv rfl <| SL.skip rfl rfl ?_
      refine SL.skip rfl rfl ?_
      refine SL.v (op_pickT rfl rfl) <| SL.as rfl <| SL.nil <| T.ret1 rfl (ResIs.tmp rfl) ?_
      rfl
    · refine Spec.enter Tryz.func140 rfl Tryz.ntmps140 rfl ?_
      intro w0 hw0
      refine T.seq <| T.region <| SL.as rfl <| SL.nil <| T.seq <| T.region <| SL.mv rfl <| SL.v (op_eqlF rfl rfl (by omega)) ?_
      refine SL.mv rfl <| SL.mv rfl <| SL.v (op_eqlT rfl rfl (by omega)) ?_
      refine SL.v (op_pickF rfl rfl) <| SL.mv rfl <| SL.skip rfl rfl ?_
      refine SL.skip rfl rfl ?_
      refine SL.v (op_pickT rfl rfl) <| SL.mv rfl <| SL.skip rfl rfl ?_
      refine SL.skip rfl rfl ?_
      refine SL.v (op_pickT rfl rfl) <| SL.as rfl <| SL.nil <| T.ret1 rfl (ResIs.tmp rfl) ?_
      rfl
    · refine Spec.enter Tryz.func140 rfl Tryz.ntmps140 rfl ?_
      intro w0 hw0
      refine T.seq <| T.region <| SL.as rfl <| SL.nil <| T.seq <| T.region <| SL.mv rfl <| SL.v (op_eqlF rfl rfl (by omega)) ?_
      refine SL.mv rfl <| SL.mv rfl <| SL.v (op_eqlF rfl rfl (by omega)) ?_
      refine SL.v (op_pickF rfl rfl) <| SL.mv rfl <| SL.mv rfl <| SL.v (op_eqlT rfl rfl (by omega)) ?_
      refine SL.v (op_pickF rfl rfl) <| SL.mv rfl <| SL.skip rfl rfl ?_
      refine SL.skip rfl rfl ?_
      refine SL.v (op_pickT rfl rfl) <| SL.as rfl <| SL.nil <| T.ret1 rfl (ResIs.tmp rfl) ?_
      rfl
    · refine Spec.enter Tryz.func140 rfl Tryz.ntmps140 rfl ?_
      intro w0 hw0
      refine T.seq <| T.region <| SL.as rfl <| SL.nil <| T.seq <| T.region <| SL.mv rfl <| SL.v (op_eqlF rfl rfl (by omega)) ?_
      refine SL.mv rfl <| SL.mv rfl <| SL.v (op_eqlF rfl rfl (by omega)) ?_
      refine SL.v (op_pickF rfl rfl) <| SL.mv rfl <| SL.mv rfl <| SL.v (op_eqlF rfl rfl (by omega)) ?_
      refine SL.v (op_pickF rfl rfl) <| SL.mv rfl <| SL.mv rfl <| SL.v (op_eqlT rfl rfl (by omega)) ?_
      refine SL.v (op_pickF rfl rfl) <| SL.as rfl <| SL.nil <| T.ret1 rfl (ResIs.tmp rfl) ?_
      rfl
  · have hb4 : b.toNat ≠ 32 ∧ b.toNat ≠ 9 ∧ b.toNat ≠ 10 ∧ b.toNat ≠ 13 := by simpa [blkB] using hb
    obtain ⟨g1, g2, g3, g4⟩ := hb4
    rw [show blkB b = false by simpa using hb]
    refine Spec.enter Tryz.func140 rfl Tryz.ntmps140 rfl ?_
    intro w0 hw0
    refine T.seq <| T.region <| SL.as rfl <| SL.nil <| T.seq <| T.region <| SL.mv rfl <| SL.v (op_eqlF rfl rfl (by omega)) ?_
    refine SL.mv rfl <| SL.mv rfl <| SL.v (op_eqlF rfl rfl (by omega)) ?_
    refine SL.v (op_pickF rfl rfl) <| SL.mv rfl <| SL.mv rfl <| SL.v (op_eqlF rfl rfl (by omega)) ?_
    refine SL.v (op_pickF rfl rfl) <| SL.mv rfl <| SL.mv rfl <| SL.v (op_eqlF rfl rfl (by omega)) ?_
    refine SL.v (op_pickF rfl rfl) <| SL.as rfl <| SL.nil <| T.ret1 rfl (ResIs.tmp rfl) ?_
    rfl
theorem rskip_spec {X : PMap} {s : ByteArray} {i : Nat} (hi : i ≤ s.size) (hs : s.size < 1000000000) : Spec Tryz.prog 97 [.string s, .int .i64 (i : Int)] X fun u _ => u = .int .i64 (skp s i : Int) := by
  refine Spec.enter Tryz.func97 rfl Tryz.ntmps97 rfl ?_
  intro w0 hw0
  refine T.seq <| T.region <| SL.v (op_assign (v := .int .i64 ((0 : Nat) : Int)) rfl) <| SL.nil <| T.seq <| T.block <| T.loopW (fun m env own X' => ∃ q : Nat, m = s.size - q ∧ q ≤ s.size ∧ X.le X' ∧ skp s i = skp s q ∧ env = [(0, .string s), (1, .int .i64 (q : Int))] ∧ own = []) (s.size - i) ⟨i, rfl, hi, PMap.le_refl _, rfl, rfl, rfl⟩ (by repeat (first | exact Sub.nil | refine Sub.cons rfl ?_)) ?_
  rintro m _ _ X1 ⟨q, rfl, hq, hX1, hw, rfl, rfl⟩
  rcases Nat.lt_or_ge q s.size with hql | hql
  · obtain ⟨b, hb⟩ := get_some hql
    by_cases h35 : b.toNat = 35
    · have hnn : nnl b = true := by simp [nnl, h35]
      have hlt : q + 1 ≤ whl s nnl q := by rw [whl_go hb hnn]; exact whl_ge
      have hle : whl s nnl q ≤ s.size := whl_le hq
      refine T.seq <| T.seq <| T.region <| SL.mv rfl <| SL.mv rfl <| SL.v (op_lenStr Tryz.underlying9 rfl) <| SL.v (op_lssT rfl rfl (by omega)) ?_
      refine SL.nil <| T.condT rfl <| T.skip <| T.block <| T.seq <| T.region <| SL.mv rfl <| SL.mv rfl <| SL.v (op_idxStr Tryz.underlying9 rfl rfl rfl (by assumption)) ?_
      refine SL.v (op_eqlT rfl rfl (by omega)) ?_
      refine SL.nil <| T.condT rfl <| T.block <| T.loopW (fun m env own X' => ∃ q' : Nat, m = s.size - q' ∧ q' ≤ s.size ∧ X1 = X' ∧ whl s nnl q = whl s nnl q' ∧ env = [(0, .string s), (1, .int .i64 (q' : Int))] ∧ own = []) (s.size - q) ⟨q, rfl, hq, rfl, rfl, rfl, rfl⟩ (by repeat (first | exact Sub.nil | refine Sub.cons rfl ?_)) ?_
      rintro m _ _ X2 ⟨q', rfl, hq', rfl, hw', rfl, rfl⟩
      rcases Nat.lt_or_ge q' s.size with hql' | hql'
      · obtain ⟨c, hc⟩ := get_some hql'
        by_cases h10 : c.toNat = 10
        · have hcn : nnl c = false := by simp [nnl, h10]
          rw [whl_stop hc hcn] at hw'
          refine T.seq <| T.seq <| T.region <| SL.mv rfl <| SL.mv rfl <| SL.v (op_lenStr Tryz.underlying9 rfl) <| SL.v (op_lssT rfl rfl (by omega)) ?_
          refine SL.mv rfl <| SL.mv rfl <| SL.mv rfl <| SL.v (op_idxStr Tryz.underlying9 rfl rfl rfl (by assumption)) ?_
          refine SL.v (op_neqF rfl rfl (by omega)) ?_
          refine SL.v (op_pickT rfl rfl) <| SL.nil <| T.condF rfl ?_
          refine T.exit (T.exitCode (T.exitCut (T.exitBlk ?_)))
          refine T.blk ?_
          exact T.backW (s.size - q') (by omega) ⟨q', rfl, hq', hX1, by rw [hw, skp_hash hb h35, hw'], rfl, rfl⟩ (by repeat (first | exact Sub.nil | refine Sub.cons rfl ?_))
        · have hcn : nnl c = true := by simp [nnl, h10]
          rw [whl_go hc hcn] at hw'
          refine T.seq <| T.seq <| T.region <| SL.mv rfl <| SL.mv rfl <| SL.v (op_lenStr Tryz.underlying9 rfl) <| SL.v (op_lssT rfl rfl (by omega)) ?_
          refine SL.mv rfl <| SL.mv rfl <| SL.mv rfl <| SL.v (op_idxStr Tryz.underlying9 rfl rfl rfl (by assumption)) ?_
          refine SL.v (op_neqT rfl rfl (by omega)) ?_
          refine SL.v (op_pickT rfl rfl) <| SL.nil <| T.condT rfl <| T.skip <| T.block <| T.region <| SL.mv rfl <| SL.v (op_addN (q := 1) rfl rfl (by omega)) ?_
          refine SL.as rfl <| SL.nil <| T.blk ?_
          exact T.backW (s.size - (q' + 1)) (by omega) ⟨q' + 1, rfl, by omega, rfl, hw', rfl, rfl⟩ (by repeat (first | exact Sub.nil | refine Sub.cons rfl ?_))
      · rw [whl_end hql'] at hw'
        refine T.seq <| T.seq <| T.region <| SL.mv rfl <| SL.mv rfl <| SL.v (op_lenStr Tryz.underlying9 rfl) <| SL.v (op_lssF rfl rfl (by omega)) ?_
        refine SL.mv rfl <| SL.skip rfl rfl ?_
        refine SL.skip rfl rfl ?_
        refine SL.skip rfl rfl ?_
        refine SL.skip rfl rfl ?_
        refine SL.v (op_pickF rfl rfl) <| SL.nil <| T.condF rfl ?_
        refine T.exit (T.exitCode (T.exitCut (T.exitBlk ?_)))
        refine T.blk ?_
        exact T.backW (s.size - q') (by omega) ⟨q', rfl, hq', hX1, by rw [hw, skp_hash hb h35, hw'], rfl, rfl⟩ (by repeat (first | exact Sub.nil | refine Sub.cons rfl ?_))
    · skip
      refine T.seq <| T.seq <| T.region <| SL.mv rfl <| SL.mv rfl <| SL.v (op_lenStr Tryz.underlying9 rfl) <| SL.v (op_lssT rfl rfl (by omega)) ?_
      refine SL.nil <| T.condT rfl <| T.skip <| T.block <| T.seq <| T.region <| SL.mv rfl <| SL.mv rfl <| SL.v (op_idxStr Tryz.underlying9 rfl rfl rfl (by assumption)) ?_
      refine SL.v (op_eqlF rfl rfl (by omega)) ?_
      refine SL.nil <| T.condF rfl <| T.seq <| T.region <| SL.mv rfl <| SL.mv rfl <| SL.v (op_idxStr Tryz.underlying9 rfl rfl rfl (by assumption)) ?_
      refine SL.w (op_callF en140 (vs := [_]) rfl (rblank_spec b)) ?_
      rintro _ _ X2 ⟨rfl, hX2, rfl⟩
      cases hbl : blkB b with
      | true =>
        refine SL.nil <| T.condT rfl <| T.region <| SL.mv rfl <| SL.v (op_addN (q := 1) rfl rfl (by omega)) ?_
        refine SL.as rfl <| SL.nil <| T.blk ?_
        exact T.backW (s.size - (q + 1)) (by omega) ⟨q + 1, rfl, by omega, hX1.trans' hX2, by rw [hw, skp_blank hb hbl], rfl, rfl⟩ (by repeat (first | exact Sub.nil | refine Sub.cons rfl ?_))
      | false =>
        refine SL.nil <| T.condF rfl <| T.seq <| T.region <| SL.mv rfl <| SL.as rfl <| SL.nil <| T.ret1 rfl (ResIs.tmp rfl) ?_
        rw [hw, skp_stop hq hb hbl h35]
  · refine T.seq <| T.seq <| T.region <| SL.mv rfl <| SL.mv rfl <| SL.v (op_lenStr Tryz.underlying9 rfl) <| SL.v (op_lssF rfl rfl (by omega)) ?_
    refine SL.nil <| T.condF rfl ?_
    refine T.exit (T.exitCode (T.exitCut (T.exitBlk ?_)))
    refine T.seq <| T.region <| SL.mv rfl <| SL.as rfl <| SL.nil <| T.ret1 rfl (ResIs.tmp rfl) ?_
    rw [hw, skp_end hql]
    obtain rfl : q = s.size := by omega
    rfl
theorem pre_at {s x : ByteArray} {i : Nat} (_h : i + x.size ≤ s.size) : (bl x).isPrefixOf ((bl s).drop i) = true ↔ s.extract i (i + x.size) = x := by
  rw [List.isPrefixOf_iff_prefix, List.prefix_iff_eq_take]
  have e : bl (s.extract i (i + x.size)) = ((bl s).drop i).take (bl x).length := by rw [ext_bl, Nat.add_sub_cancel_left, bl_size]
  rw [← e]
  exact ⟨fun h => (bl_inj h).symm, fun h => by rw [h]⟩
theorem pre_no {s x : ByteArray} {i : Nat} (h0 : i ≤ s.size) (h : ¬i + x.size ≤ s.size) : (bl x).isPrefixOf ((bl s).drop i) = false := by
  cases hq : (bl x).isPrefixOf ((bl s).drop i) with
  | false => rfl
  | true =>
    have := (List.isPrefixOf_iff_prefix.1 hq).length_le
    rw [List.length_drop, bl_size, bl_size] at this; omega
theorem syms_size : ∀ x ∈ syms13, x.size ≤ 2 := by decide
theorem rsymbol_spec {X : PMap} {s : ByteArray} {i : Nat} (hi : i ≤ s.size) (hs : s.size < 1000000000) : Spec Tryz.prog 101 [.string s, .int .i64 (i : Int)] X fun u _ => u = match symF s i with | some x => .int .i64 ((i + x.length : Nat) : Int) | none => .int .i64 0 := by
  refine Spec.enter Tryz.func101 rfl Tryz.ntmps101 rfl ?_
  intro w0 hw0
  refine T.seq <| T.region <| SL.v (op_assign (v := .int .i64 ((0 : Nat) : Int)) rfl) <| SL.nil <| T.seq <| T.seq <| T.region <| SL.w (op_buildSlice Tryz.underlying37 bs9 (qs := [(0, _), (1, _), (2, _), (3, _), (4, _), (5, _), (6, _), (7, _), (8, _), (9, _), (10, _), (11, _), (12, _)]) rfl rfl rfl rfl rfl) ?_
  rintro _ _ _ ⟨B7, rfl, rfl, rfl⟩
  refine SL.v (op_lenS Tryz.underlying37 rfl) <| SL.v (op_move (v := .int .i64 ((0 : Nat) : Int)) rfl) <| SL.nil <| T.block <| T.pub B7 (by repeat constructor) ?_
  intro X1 hX1 hB8 _
  have hbA : Blk X1 B7 ([] ++ (syms13.map strC).flatten) := hB8
  refine T.loopW (fun m env own X' => ∃ q : Nat, m = syms13.length - q ∧ q ≤ syms13.length ∧ X1.le X' ∧ ((symsL.take q).find? fun x => x.isPrefixOf ((bl s).drop i)) = none ∧ env = [(0, .string s), (1, .int .i64 (i : Int)), (7, .slice (some ⟨B7, 0, none⟩) syms13.length 13), (8, .int .i64 (syms13.length : Int)), (9, .int .i64 (q : Int))] ∧ own = []) syms13.length ⟨0, rfl, by omega, PMap.le_refl _, rfl, rfl, rfl⟩ (by repeat (first | exact Sub.nil | refine Sub.cons rfl ?_)) ?_
  rintro m _ _ X2 ⟨q, rfl, hq, hX2, hf, rfl, rfl⟩
  have h13 : syms13.length = 13 := rfl
  rcases Nat.lt_or_ge q syms13.length with hql | hql
  · obtain ⟨x, hx⟩ : ∃ x, syms13[q]? = some x := ⟨_, List.getElem?_eq_getElem hql⟩
    obtain ⟨hstep1, hstep2⟩ := find_step hf (syms_at hx)
    have hxs := syms_size x (List.mem_of_getElem? hx)
    refine T.seq <| T.region <| SL.v (op_lssT rfl rfl (by omega)) ?_
    refine SL.nil <| T.seq <| T.condT rfl <| T.skip <| T.seq <| T.block <| T.seq <| T.region <| SL.v (op_indexN Tryz.underlying37 ty9 rfl rfl (by omega)) ?_
    refine SL.v (op_loadX ty9 rfl (hbA.mono hX2) (str_read hx (by simp))) ?_
    by_cases hle : i + x.size ≤ s.size
    · skip
      refine SL.as rfl <| SL.nil <| T.seq <| T.region <| SL.mv rfl <| SL.mv rfl <| SL.v (op_lenStr Tryz.underlying9 rfl) <| SL.v (op_addN rfl rfl (by omega)) ?_
      refine SL.mv rfl <| SL.v (op_lenStr Tryz.underlying9 rfl) <| SL.v (op_leqT rfl rfl (by omega)) ?_
      refine SL.mv rfl <| SL.mv rfl <| SL.mv rfl <| SL.mv rfl <| SL.mv rfl <| SL.v (op_lenStr Tryz.underlying9 rfl) <| SL.v (op_addN rfl rfl (by omega)) ?_
      refine SL.v (op_sliceStr Tryz.underlying9 rfl rfl rfl (Nat.le_add_right _ _) hle) <| SL.mv rfl <| SL.v (op_eqlStrD (s := s.extract i (i + x.size)) (s' := x) rfl rfl) ?_
      by_cases hp : s.extract i (i + x.size) = x
      · have hp' := (pre_at hle).2 hp
        rw [decide_eq_true hp]
        refine SL.v (op_pickT rfl rfl) <| SL.nil <| T.condT rfl <| T.seq <| T.region <| SL.mv rfl <| SL.mv rfl <| SL.v (op_lenStr Tryz.underlying9 rfl) <| SL.v (op_addN rfl rfl (by omega)) ?_
        refine SL.as rfl <| SL.nil <| T.ret1 rfl (ResIs.tmp rfl) ?_
        rw [symF, hstep1 hp']
        simp only [bl_size]
      · have hp' : (bl x).isPrefixOf ((bl s).drop i) = false := by
          cases hq : (bl x).isPrefixOf ((bl s).drop i) with
          | false => rfl
          | true => exact absurd ((pre_at hle).1 hq) hp
        rw [decide_eq_false hp]
        refine SL.v (op_pickT rfl rfl) <| SL.nil <| T.condF rfl <| T.skip <| T.blk <| T.region <| SL.v (op_addN (q := 1) rfl rfl (by omega)) ?_
        refine SL.mv rfl <| SL.nil ?_
        exact T.backW (syms13.length - (q + 1)) (by omega) ⟨q + 1, rfl, by omega, hX2, hstep2 hp', rfl, rfl⟩ (by repeat (first | exact Sub.nil | refine Sub.cons rfl ?_))
    · refine SL.as rfl <| SL.nil <| T.seq <| T.region <| SL.mv rfl <| SL.mv rfl <| SL.v (op_lenStr Tryz.underlying9 rfl) <| SL.v (op_addN rfl rfl (by omega)) ?_
      refine SL.mv rfl <| SL.v (op_lenStr Tryz.underlying9 rfl) <| SL.v (op_leqF rfl rfl (by omega)) ?_
      refine SL.mv rfl <| SL.skip rfl rfl ?_
      refine SL.skip rfl rfl ?_
      refine SL.skip rfl rfl ?_
      refine SL.skip rfl rfl ?_
      refine SL.skip rfl rfl ?_
      refine SL.skip rfl rfl ?_
      refine SL.skip rfl rfl ?_
      refine SL.skip rfl rfl ?_
      refine SL.skip rfl rfl ?_
      refine SL.v (op_pickF rfl rfl) <| SL.nil <| T.condF rfl <| T.skip <| T.blk <| T.region <| SL.v (op_addN (q := 1) rfl rfl (by omega)) ?_
      refine SL.mv rfl <| SL.nil ?_
      exact T.backW (syms13.length - (q + 1)) (by omega) ⟨q + 1, rfl, by omega, hX2, hstep2 (pre_no hi hle), rfl, rfl⟩ (by repeat (first | exact Sub.nil | refine Sub.cons rfl ?_))
  · refine T.seq <| T.region <| SL.v (op_lssF rfl rfl (by omega)) ?_
    refine SL.nil <| T.seq <| T.condF rfl ?_
    refine T.exit (T.exitCode (T.exitCut (T.exitBlk ?_)))
    refine T.seq <| T.region <| SL.v (op_assign (v := .int .i64 ((0 : Nat) : Int)) rfl) <| SL.nil <| T.ret1 rfl (ResIs.tmp rfl) ?_
    rw [List.take_of_length_le (by simpa [syms13] using hql)] at hf
    rw [symF, hf]
    rfl
end Go.Proofs.YtnabbnhefjfegaaGreatDoor
namespace Go.Proofs.YtnabbnhefjfegaaGreatDoor
section
set_option maxRecDepth 100000
theorem en98 : Enters Tryz.prog 98 := enters_mk Tryz.func98 (by kernel_rfl) rfl
theorem en99 : Enters Tryz.prog 99 := enters_mk Tryz.func99 (by kernel_rfl) rfl
end
open Go.RowKit
theorem rnumber_spec {X : PMap} {s : ByteArray} {i : Nat} {b0 : UInt8} (hb0 : s[i]? = some b0) (hd0 : digB b0 = true) (hi : i < s.size) (hs : s.size < 1000000000) : Spec Tryz.prog 100 [.string s, .int .i64 (i : Int)] X fun u _ => u = match numT ((bl s).drop i) with | some d => .int .i64 ((i + d.length : Nat) : Int) | none => .int .i64 0 := by
  have hle : whl s digB i ≤ s.size := whl_le (by omega)
  have hge : i + 1 ≤ whl s digB i := by rw [whl_go hb0 hd0]; exact whl_ge
  have hlen := whl_len (s := s) (f := digB) (i := i)
  have hdr := whl_drop (s := s) (f := digB) (i := i)
  have hhd := head_at hb0
  generalize he : whl s digB i = e at *
  generalize hd : ((bl s).drop i).takeWhile digB = d at *
  have hnum : ∀ x, numT ((bl s).drop i) = x ↔ (if 6 < d.length ∨ (1 < d.length ∧ some b0 = some 48) ∨ glued ((bl s).drop e) = true then none else some d) = x := fun x => by
    rw [numT, hd, hhd, hdr]
  refine Spec.enter Tryz.func100 rfl Tryz.ntmps100 rfl ?_
  intro w0 hw0
  refine T.seq <| T.region <| SL.v (op_assign (v := .int .i64 ((0 : Nat) : Int)) rfl) <| SL.nil <| T.seq <| T.region <| SL.mv rfl <| SL.as rfl <| SL.nil <| T.seq <| T.meet (fun _ env own X' => X.le X' ∧ env = [(0, .string s), (1, .int .i64 (i : Int)), (5, .int .i64 (e : Int))] ∧ own = []) ?_ ?_
  · skip
    refine T.block <| T.loopW (fun m env own X' => ∃ q : Nat, m = s.size - q ∧ q ≤ s.size ∧ X.le X' ∧ e = whl s digB q ∧ env = [(0, .string s), (1, .int .i64 (i : Int)), (5, .int .i64 (q : Int))] ∧ own = []) (s.size - i) ⟨i, rfl, by omega, PMap.le_refl _, he.symm, rfl, rfl⟩ (by repeat (first | exact Sub.nil | refine Sub.cons rfl ?_)) ?_
    rintro m _ _ X1 ⟨q, rfl, hq, hX1, hw, rfl, rfl⟩
    rcases Nat.lt_or_ge q s.size with hql | hql
    · obtain ⟨b, hb⟩ := get_some hql
      refine T.seq <| T.seq <| T.region <| SL.mv rfl <| SL.mv rfl <| SL.v (op_lenStr Tryz.underlying9 rfl) <| SL.v (op_lssT rfl rfl (by omega)) ?_
      refine SL.mv rfl <| SL.mv rfl <| SL.mv rfl <| SL.v (op_idxStr Tryz.underlying9 rfl rfl rfl (by assumption)) ?_
      refine SL.w (op_callF en99 (vs := [_]) rfl (rdigit_spec b)) ?_
      rintro _ _ X2 ⟨rfl, hX2, rfl⟩
      cases hdb : digB b with
      | true =>
        rw [whl_go hb hdb] at hw
        refine SL.v (op_pickT rfl rfl) <| SL.nil <| T.condT rfl <| T.skip <| T.block <| T.region <| SL.mv rfl <| SL.v (op_addN (q := 1) rfl rfl (by omega)) ?_
        refine SL.as rfl <| SL.nil <| T.blk ?_
        exact T.backW (s.size - (q + 1)) (by omega) ⟨q + 1, rfl, by omega, hX1.trans' hX2, hw, rfl, rfl⟩ (by repeat (first | exact Sub.nil | refine Sub.cons rfl ?_))
      | false =>
        rw [whl_stop hb hdb] at hw
        subst hw
        refine SL.v (op_pickT rfl rfl) <| SL.nil <| T.condF rfl ?_
        refine T.exit (T.exitCode (T.exitCut (T.exitBlk ?_)))
        exact T.backW 0 (by omega) ⟨hX1.trans' hX2, rfl, rfl⟩ (by repeat (first | exact Sub.nil | refine Sub.cons rfl ?_))
    · rw [whl_end hql] at hw
      subst hw
      refine T.seq <| T.seq <| T.region <| SL.mv rfl <| SL.mv rfl <| SL.v (op_lenStr Tryz.underlying9 rfl) <| SL.v (op_lssF rfl rfl (by omega)) ?_
      refine SL.mv rfl <| SL.skip rfl rfl ?_
      refine SL.skip rfl rfl ?_
      refine SL.skip rfl rfl ?_
      refine SL.skip rfl rfl ?_
      refine SL.v (op_pickF rfl rfl) <| SL.nil <| T.condF rfl ?_
      refine T.exit (T.exitCode (T.exitCut (T.exitBlk ?_)))
      exact T.backW 0 (by omega) ⟨hX1, rfl, rfl⟩ (by repeat (first | exact Sub.nil | refine Sub.cons rfl ?_))
  rintro _ _ _ X3 ⟨hX3, rfl, rfl⟩
  refine T.seq <| T.meet (fun _ env own X' => (∀ (hg : glued ((bl s).drop e) = false), numT ((bl s).drop i) = some d) ∧ X3.le X' ∧ env = [(0, .string s), (1, .int .i64 (i : Int)), (5, .int .i64 (e : Int))] ∧ own = []) ?_ ?_
  · by_cases h1 : 6 < e - i
    · have hn : numT ((bl s).drop i) = none := (hnum _).2 (if_pos (.inl (by omega)))
      refine T.seq <| T.region <| SL.mv rfl <| SL.mv rfl <| SL.v (op_subN rfl rfl (by omega) (by omega)) ?_
      refine SL.v (op_gtrT rfl rfl (by omega)) ?_
      refine SL.mv rfl <| SL.skip rfl rfl ?_
      refine SL.skip rfl rfl ?_
      refine SL.skip rfl rfl ?_
      refine SL.skip rfl rfl ?_
      refine SL.skip rfl rfl ?_
      refine SL.skip rfl rfl ?_
      refine SL.skip rfl rfl ?_
      refine SL.skip rfl rfl ?_
      refine SL.skip rfl rfl ?_
      refine SL.skip rfl rfl ?_
      refine SL.v (op_pickT rfl rfl) <| SL.nil <| T.condT rfl <| T.seq <| T.region <| SL.v (op_assign (v := .int .i64 ((0 : Nat) : Int)) rfl) <| SL.nil <| T.ret1 rfl (ResIs.tmp rfl) ?_
      rw [hn]
      rfl
    have hno : ¬(1 < e - i ∧ b0.toNat = 48) → ∀ (hg : glued ((bl s).drop e) = false), numT ((bl s).drop i) = some d := fun h12 hg => (hnum _).2 (if_neg (by
      rintro (h | ⟨h, h48⟩ | h)
      · omega
      · exact h12 ⟨by omega, by rw [Option.some.inj h48]; rfl⟩
      · rw [hg] at h; cases h))
    by_cases h2 : 1 < e - i
    · by_cases h3 : b0.toNat = 48
      · have hb48 : b0 = 48 := UInt8.toNat_inj.1 h3
        have hn : numT ((bl s).drop i) = none := (hnum _).2 (if_pos (.inr (.inl ⟨by omega, by rw [hb48]⟩)))
        refine T.seq <| T.region <| SL.mv rfl <| SL.mv rfl <| SL.v (op_subN rfl rfl (by omega) (by omega)) ?_
        refine SL.v (op_gtrF rfl rfl (by omega)) ?_
        refine SL.mv rfl <| SL.mv rfl <| SL.mv rfl <| SL.v (op_subN rfl rfl (by omega) (by omega)) ?_
        refine SL.v (op_gtrT rfl rfl (by omega)) ?_
        refine SL.mv rfl <| SL.mv rfl <| SL.mv rfl <| SL.v (op_idxStr Tryz.underlying9 rfl rfl rfl (by assumption)) ?_
        refine SL.v (op_eqlT rfl rfl (by omega)) ?_
        refine SL.v (op_pickT rfl rfl) <| SL.v (op_pickF rfl rfl) <| SL.nil <| T.condT rfl <| T.seq <| T.region <| SL.v (op_assign (v := .int .i64 ((0 : Nat) : Int)) rfl) <| SL.nil <| T.ret1 rfl (ResIs.tmp rfl) ?_
        rw [hn]
        rfl
      · skip
        refine T.seq <| T.region <| SL.mv rfl <| SL.mv rfl <| SL.v (op_subN rfl rfl (by omega) (by omega)) ?_
        refine SL.v (op_gtrF rfl rfl (by omega)) ?_
        refine SL.mv rfl <| SL.mv rfl <| SL.mv rfl <| SL.v (op_subN rfl rfl (by omega) (by omega)) ?_
        refine SL.v (op_gtrT rfl rfl (by omega)) ?_
        refine SL.mv rfl <| SL.mv rfl <| SL.mv rfl <| SL.v (op_idxStr Tryz.underlying9 rfl rfl rfl (by assumption)) ?_
        refine SL.v (op_eqlF rfl rfl (by omega)) ?_
        refine SL.v (op_pickT rfl rfl) <| SL.v (op_pickF rfl rfl) <| SL.nil <| T.condF rfl <| T.skip ?_
        exact T.backW 0 (by omega) ⟨hno (fun h => h3 h.2), PMap.le_refl _, rfl, rfl⟩ (by repeat (first | exact Sub.nil | refine Sub.cons rfl ?_))
    · refine T.seq <| T.region <| SL.mv rfl <| SL.mv rfl <| SL.v (op_subN rfl rfl (by omega) (by omega)) ?_
      refine SL.v (op_gtrF rfl rfl (by omega)) ?_
      refine SL.mv rfl <| SL.mv rfl <| SL.mv rfl <| SL.v (op_subN rfl rfl (by omega) (by omega)) ?_
      refine SL.v (op_gtrF rfl rfl (by omega)) ?_
      refine SL.mv rfl <| SL.skip rfl rfl ?_
      refine SL.skip rfl rfl ?_
      refine SL.skip rfl rfl ?_
      refine SL.skip rfl rfl ?_
      refine SL.v (op_pickF rfl rfl) <| SL.v (op_pickF rfl rfl) <| SL.nil <| T.condF rfl <| T.skip ?_
      exact T.backW 0 (by omega) ⟨hno (fun h => h2 h.1), PMap.le_refl _, rfl, rfl⟩ (by repeat (first | exact Sub.nil | refine Sub.cons rfl ?_))
  rintro _ _ _ X4 ⟨hno, hX4, rfl, rfl⟩
  have hed : ((i + d.length : Nat) : Int) = (e : Int) := by omega
  rcases Nat.lt_or_ge e s.size with hel | hel
  · obtain ⟨b, hb⟩ := get_some hel
    have hgl := glued_at hb
    refine T.seq <| T.seq <| T.region <| SL.mv rfl <| SL.mv rfl <| SL.v (op_lenStr Tryz.underlying9 rfl) <| SL.v (op_lssT rfl rfl (by omega)) ?_
    refine SL.mv rfl <| SL.mv rfl <| SL.mv rfl <| SL.v (op_idxStr Tryz.underlying9 rfl rfl rfl (by assumption)) ?_
    refine SL.w (op_callF en98 (vs := [_]) rfl (rletter_spec b)) ?_
    rintro _ _ X5 ⟨rfl, hX5, rfl⟩
    cases hlb : letB b with
    | true =>
      have hn : numT ((bl s).drop i) = none := (hnum _).2 (if_pos (.inr (.inr (by rw [hgl, hlb]; rfl))))
      refine SL.mv rfl <| SL.skip rfl rfl ?_
      refine SL.skip rfl rfl ?_
      refine SL.skip rfl rfl ?_
      refine SL.skip rfl rfl ?_
      refine SL.v (op_pickT rfl rfl) <| SL.v (op_pickT rfl rfl) <| SL.nil <| T.condT rfl <| T.seq <| T.region <| SL.v (op_assign (v := .int .i64 ((0 : Nat) : Int)) rfl) <| SL.nil <| T.ret1 rfl (ResIs.tmp rfl) ?_
      rw [hn]
      rfl
    | false =>
      by_cases h95 : b.toNat = 95
      · have hn : numT ((bl s).drop i) = none := (hnum _).2 (if_pos (.inr (.inr (by rw [hgl, h95]; simp))))
        refine SL.mv rfl <| SL.mv rfl <| SL.mv rfl <| SL.v (op_idxStr Tryz.underlying9 rfl rfl rfl (by assumption)) ?_
        refine SL.v (op_eqlT rfl rfl (by omega)) ?_
        refine SL.v (op_pickF rfl rfl) <| SL.v (op_pickT rfl rfl) <| SL.nil <| T.condT rfl <| T.seq <| T.region <| SL.v (op_assign (v := .int .i64 ((0 : Nat) : Int)) rfl) <| SL.nil <| T.ret1 rfl (ResIs.tmp rfl) ?_
        rw [hn]
        rfl
      · refine SL.mv rfl <| SL.mv rfl <| SL.mv rfl <| SL.v (op_idxStr Tryz.underlying9 rfl rfl rfl (by assumption)) ?_
        refine SL.v (op_eqlF rfl rfl (by omega)) ?_
        refine SL.v (op_pickF rfl rfl) <| SL.v (op_pickT rfl rfl) <| SL.nil <| T.condF rfl <| T.skip <| T.seq <| T.region <| SL.mv rfl <| SL.as rfl <| SL.nil <| T.ret1 rfl (ResIs.tmp rfl) ?_
        rw [hno (by rw [hgl, hlb]; simp [h95])]
        simp only [hed]
  · have hgl := glued_end hel
    refine T.seq <| T.seq <| T.region <| SL.mv rfl <| SL.mv rfl <| SL.v (op_lenStr Tryz.underlying9 rfl) <| SL.v (op_lssF rfl rfl (by omega)) ?_
    refine SL.mv rfl <| SL.skip rfl rfl ?_
    refine SL.skip rfl rfl ?_
    refine SL.skip rfl rfl ?_
    refine SL.skip rfl rfl ?_
    refine SL.skip rfl rfl ?_
    refine SL.skip rfl rfl ?_
    refine SL.skip rfl rfl ?_
    refine SL.skip rfl rfl ?_
    refine SL.skip rfl rfl ?_
    refine SL.skip rfl rfl ?_
    refine SL.v (op_pickF rfl rfl) <| SL.nil <| T.condF rfl <| T.skip <| T.seq <| T.region <| SL.mv rfl <| SL.as rfl <| SL.nil <| T.ret1 rfl (ResIs.tmp rfl) ?_
    rw [hno hgl]
    simp only [hed]
end Go.Proofs.YtnabbnhefjfegaaGreatDoor
namespace Go.Proofs.YtnabbnhefjfegaaGreatDoor
section
set_option maxRecDepth 100000
theorem bs110 : ∃ i z, Tryz.prog.info? 110 = some i ∧ i.size = 4 ∧ i.zero = some z ∧ z.cells = ([.int .i64 0, .string ⟨#[]⟩, .int .i64 0, .int .i64 0] : List Value).toArray := bs_of (by kernel_rfl)
theorem en100 : Enters Tryz.prog 100 := enters_mk Tryz.func100 (by kernel_rfl) rfl
theorem en101 : Enters Tryz.prog 101 := enters_mk Tryz.func101 (by kernel_rfl) rfl
theorem en97 : Enters Tryz.prog 97 := enters_mk Tryz.func97 (by kernel_rfl) rfl
theorem fa110_0 : FAdr Tryz.prog 110 0 0 := fadr_mk Tryz.underlying110 rfl rfl (by kernel_rfl)
theorem fa110_1 : FAdr Tryz.prog 110 1 1 := fadr_mk Tryz.underlying110 rfl rfl (by kernel_rfl)
theorem fa110_2 : FAdr Tryz.prog 110 2 2 := fadr_mk Tryz.underlying110 rfl rfl (by kernel_rfl)
theorem sl102 : SlT Tryz.prog 102 110 4 40 := ⟨Tryz.underlying102, sl_of (by kernel_rfl) (by decide)⟩
theorem z110 : Zero Tryz.prog 110 [.int .i64 0, .string ⟨#[]⟩, .int .i64 0, .int .i64 0] := ⟨zero_of (by kernel_rfl)⟩
theorem st110 : StT Tryz.prog 110 [(0, 1), (1, 1), (2, 1), (3, 1)] [.int .i64 0, .string ⟨#[]⟩, .int .i64 0, .int .i64 0] := ⟨⟨_, Tryz.underlying110, fun _ => by kernel_rfl, z110⟩⟩
theorem ty110 : Ty Tryz.prog 110 true 4 := ⟨⟨_, Tryz.underlying110, rfl⟩, by kernel_rfl⟩
end
open Go.RowKit
def rcTi (t : Tk) : List Value := [.int .i64 (t.kind : Int), .string t.text, .int .i64 (t.num : Int), .int .i64 (t.off : Int)]
theorem rcTi_len (t : Tk) : (rcTi t).length = 4 := rfl
abbrev TkI (b : Nat) (k : Nat) (t : ByteArray) (n p : Nat) : Ow := ⟨b, [.int .i64 (k : Int), .string t, .int .i64 (n : Int), .int .i64 (p : Int)], 110, 4⟩
/-- The kind and the end of the token at this place. -/
def EndAt (s : ByteArray) (p k e : Nat) : Prop := match tok1 ((bl s).drop p) with
  | some (k', t, _) => k = k' ∧ e = p + t.length
  | none => e = 0
theorem rscan_spec {X : PMap} {s : ByteArray} (hs : s.size < 1000000000) : Spec Tryz.prog 48 [.string s] X fun u X' => if 8000 < s.size then u = .tuple #[.slice none 0 0, .int .i64 0, .int .i64 3] else match scanL s.size (bl s) with
    | .ok ts => ∃ v, u = .tuple #[v, .int .i64 0, .int .i64 0] ∧ RowR rcTi X' v ts
    | .error o => u = .tuple #[.slice none 0 0, .int .i64 (o : Int), .int .i64 8] := by
  by_cases h8 : 8000 < s.size
  · refine Spec.enter Tryz.func48 rfl Tryz.ntmps48 rfl ?_
    intro w0 hw0
    refine T.seq <| T.region <| SL.as rfl <| SL.v (op_assign (v := .int .i64 ((0 : Nat) : Int)) rfl) <| SL.v (op_assign (v := .int .i64 ((0 : Nat) : Int)) rfl) <| SL.nil <| T.seq <| T.seq <| T.region <| SL.mv rfl <| SL.v (op_lenStr Tryz.underlying9 rfl) <| SL.v (op_gtrT rfl rfl (by omega)) ?_
    refine SL.nil <| T.condT rfl <| T.seq <| T.region <| SL.as rfl <| SL.v (op_assign (v := .int .i64 ((0 : Nat) : Int)) rfl) <| SL.v (op_assign (v := .int .i64 ((3 : Nat) : Int)) rfl) <| SL.nil <| T.ret3 rfl rfl rfl rfl ?_
    rw [if_pos h8]
    rfl
  simp only [if_neg h8]
  have hmx : maxLen = 9223372036854775807 := rfl
  refine Spec.enter Tryz.func48 rfl Tryz.ntmps48 rfl ?_
  intro w0 hw0
  refine T.seq <| T.region <| SL.as rfl <| SL.v (op_assign (v := .int .i64 ((0 : Nat) : Int)) rfl) <| SL.v (op_assign (v := .int .i64 ((0 : Nat) : Int)) rfl) <| SL.nil <| T.seq <| T.seq <| T.region <| SL.mv rfl <| SL.v (op_lenStr Tryz.underlying9 rfl) <| SL.v (op_gtrF rfl rfl (by omega)) ?_
  refine SL.nil <| T.condF rfl <| T.skip <| T.seq <| T.region <| SL.as rfl <| SL.nil <| T.seq <| T.region <| SL.mv rfl <| SL.w (op_callF en97 (vs := [_, _]) rfl (rskip_spec (i := 0) (Nat.zero_le _) hs)) ?_
  rintro _ _ X0 ⟨rfl, hX0, rfl⟩
  refine SL.as rfl <| SL.nil <| T.seq <| T.block <| T.loopW (fun m env own X' => ∃ (p : Nat) (ts : List Tk) (v : Value), m = s.size - p ∧ p ≤ s.size ∧ ts.length ≤ p ∧ X.le X' ∧ skipL false ((bl s).drop p) = (bl s).drop p ∧ scanL s.size (bl s) = appR ts (scanL s.size ((bl s).drop p)) ∧ GrowS 110 4 v ts.length (ts.map rcTi).flatten own ∧ env = [(0, .string s), (5, v), (6, .int .i64 (p : Int))]) (s.size - skp s 0) ⟨skp s 0, [], _, rfl, skp_le, Nat.zero_le _, hX0, skp_skip, by rw [appR_nil, ← scan_skp]; rfl, GrowS.nil, rfl⟩ (by repeat (first | exact Sub.nil | refine Sub.cons rfl ?_)) ?_
  rintro m _ G X1 ⟨p, ts, v, rfl, hp, htl, hX1, hsk, hsc, hG, rfl⟩
  rcases Nat.lt_or_ge p s.size with hpl | hpl
  · obtain ⟨b, hb⟩ := get_some hpl
    have ht1 := tok1_at hb
    obtain ⟨A, c, rfl⟩ := hG.form
    refine T.seq <| T.seq <| T.region <| SL.mv rfl <| SL.mv rfl <| SL.v (op_lenStr Tryz.underlying9 rfl) <| SL.v (op_lssT rfl rfl (by omega)) ?_
    refine SL.nil <| T.condT rfl <| T.skip <| T.block <| T.seq <| T.region <| SL.mv rfl <| SL.v (op_build st110 (qs := [(3, _)]) rfl rfl) <| SL.w (op_alloc z110) ?_
    rintro _ _ _ ⟨B7, rfl, rfl, rfl⟩
    refine SL.w (op_store ty110 rfl rfl (by repeat constructor) rfl rfl rfl) ?_
    rintro _ _ _ ⟨rfl, rfl⟩
    refine SL.nil <| T.seq <| T.region <| SL.v (op_assign (v := .int .i64 ((0 : Nat) : Int)) rfl) <| SL.nil <| T.seq <| T.meet (fun _ env own X' => ∃ (k e : Nat), EndAt s p k e ∧ X1.le X' ∧ env = [(0, .string s), (5, .slice A ts.length c), (6, .int .i64 (p : Int)), (7, .pointer (some ⟨B7, 0, none⟩)), (8, .int .i64 (e : Int))] ∧ own = TkI B7 k ⟨#[]⟩ 0 p :: G) ?_ ?_
    · skip
      refine T.block <| T.seq <| T.region <| SL.mv rfl <| SL.mv rfl <| SL.v (op_idxStr Tryz.underlying9 rfl rfl rfl (by assumption)) ?_
      refine SL.w (op_callF en98 (vs := [_]) rfl (rletter_spec b)) ?_
      rintro _ _ X2 ⟨rfl, hX2, rfl⟩
      cases hlb : letB b with
      | true =>
        have hle : whl s innB p ≤ s.size := whl_le (Nat.le_of_lt hpl)
        refine SL.as rfl <| SL.nil <| T.condT rfl <| T.seq <| T.region <| SL.v (op_fieldAddr fa110_0 rfl) <| SL.w (op_store ty3 rfl rfl (by repeat constructor) rfl rfl rfl) ?_
        rintro _ _ _ ⟨rfl, rfl⟩
        refine SL.nil <| T.seq <| T.region <| SL.mv rfl <| SL.as rfl <| SL.nil <| T.block <| T.loopW (fun m env own X' => ∃ q : Nat, m = s.size - q ∧ q ≤ s.size ∧ X1.le X' ∧ whl s innB p = whl s innB q ∧ env = [(0, .string s), (5, .slice A ts.length c), (6, .int .i64 (p : Int)), (7, .pointer (some ⟨B7, 0, none⟩)), (8, .int .i64 (q : Int))] ∧ own = TkI B7 1 ⟨#[]⟩ 0 p :: G) (s.size - p) ⟨p, rfl, hp, hX2, rfl, rfl, rfl⟩ (by repeat (first | exact Sub.nil | refine Sub.cons rfl ?_)) ?_
        rintro m _ _ X3 ⟨q, rfl, hq, hX3, hw, rfl, rfl⟩
        have hJ : whl s innB p = q → EndAt s p 1 q := fun h => by
          rw [EndAt, ht1, hlb, if_pos rfl]
          exact ⟨rfl, by rw [← h, whl]⟩
        rcases Nat.lt_or_ge q s.size with hql | hql
        · obtain ⟨d, hd⟩ := get_some hql
          have hor := innB_or d
          refine T.seq <| T.seq <| T.region <| SL.mv rfl <| SL.mv rfl <| SL.v (op_lenStr Tryz.underlying9 rfl) <| SL.v (op_lssT rfl rfl (by omega)) ?_
          refine SL.mv rfl <| SL.mv rfl <| SL.mv rfl <| SL.v (op_idxStr Tryz.underlying9 rfl rfl rfl (by assumption)) ?_
          refine SL.w (op_callF en98 (vs := [_]) rfl (rletter_spec d)) ?_
          rintro _ _ X4 ⟨rfl, hX4, rfl⟩
          cases hld : letB d with
          | true =>
            rw [hld] at hor
            refine SL.mv rfl <| SL.skip rfl rfl ?_
            refine SL.skip rfl rfl ?_
            refine SL.skip rfl rfl ?_
            refine SL.skip rfl rfl ?_
            refine SL.v (op_pickT rfl rfl) <| SL.mv rfl <| SL.skip rfl rfl ?_
            refine SL.skip rfl rfl ?_
            refine SL.skip rfl rfl ?_
            refine SL.skip rfl rfl ?_
            refine SL.v (op_pickT rfl rfl) <| SL.v (op_pickT rfl rfl) <| SL.nil <| T.condT rfl <| T.skip <| T.block <| T.region <| SL.mv rfl <| SL.v (op_addN (q := 1) rfl rfl (by omega)) ?_
            refine SL.as rfl <| SL.nil <| T.blk ?_
            exact T.backW (s.size - (q + 1)) (by omega) ⟨q + 1, rfl, by omega, hX3.trans' hX4, by rw [hw, whl_go hd hor], rfl, rfl⟩ (by repeat (first | exact Sub.nil | refine Sub.cons rfl ?_))
          | false =>
            refine SL.mv rfl <| SL.mv rfl <| SL.mv rfl <| SL.v (op_idxStr Tryz.underlying9 rfl rfl rfl (by assumption)) ?_
            refine SL.w (op_callF en99 (vs := [_]) rfl (rdigit_spec d)) ?_
            rintro _ _ X5 ⟨rfl, hX5, rfl⟩
            cases hdd : digB d with
            | true =>
              rw [hld, hdd] at hor
              refine SL.v (op_pickF rfl rfl) <| SL.mv rfl <| SL.skip rfl rfl ?_
              refine SL.skip rfl rfl ?_
              refine SL.skip rfl rfl ?_
              refine SL.skip rfl rfl ?_
              refine SL.v (op_pickT rfl rfl) <| SL.v (op_pickT rfl rfl) <| SL.nil <| T.condT rfl <| T.skip <| T.block <| T.region <| SL.mv rfl <| SL.v (op_addN (q := 1) rfl rfl (by omega)) ?_
              refine SL.as rfl <| SL.nil <| T.blk ?_
              exact T.backW (s.size - (q + 1)) (by omega) ⟨q + 1, rfl, by omega, (hX3.trans' hX4).trans' hX5, by rw [hw, whl_go hd hor], rfl, rfl⟩ (by repeat (first | exact Sub.nil | refine Sub.cons rfl ?_))
            | false =>
              rw [hld, hdd] at hor
              by_cases h95 : d.toNat = 95
              · rw [decide_eq_true h95] at hor
                refine SL.v (op_pickF rfl rfl) <| SL.mv rfl <| SL.mv rfl <| SL.mv rfl <| SL.v (op_idxStr Tryz.underlying9 rfl rfl rfl (by assumption)) ?_
                refine SL.v (op_eqlT rfl rfl (by omega)) ?_
                refine SL.v (op_pickF rfl rfl) <| SL.v (op_pickT rfl rfl) <| SL.nil <| T.condT rfl <| T.skip <| T.block <| T.region <| SL.mv rfl <| SL.v (op_addN (q := 1) rfl rfl (by omega)) ?_
                refine SL.as rfl <| SL.nil <| T.blk ?_
                exact T.backW (s.size - (q + 1)) (by omega) ⟨q + 1, rfl, by omega, (hX3.trans' hX4).trans' hX5, by rw [hw, whl_go hd hor], rfl, rfl⟩ (by repeat (first | exact Sub.nil | refine Sub.cons rfl ?_))
              · rw [decide_eq_false h95] at hor
                refine SL.v (op_pickF rfl rfl) <| SL.mv rfl <| SL.mv rfl <| SL.mv rfl <| SL.v (op_idxStr Tryz.underlying9 rfl rfl rfl (by assumption)) ?_
                refine SL.v (op_eqlF rfl rfl (by omega)) ?_
                refine SL.v (op_pickF rfl rfl) <| SL.v (op_pickT rfl rfl) <| SL.nil <| T.condF rfl ?_
                refine T.exit (T.exitCode (T.exitCut (T.exitBlk ?_)))
                refine T.blk ?_
                exact T.backW 0 (by omega) ⟨1, q, hJ (by rw [hw, whl_stop hd hor]), (hX3.trans' hX4).trans' hX5, rfl, rfl⟩ (by repeat (first | exact Sub.nil | refine Sub.cons rfl ?_))
        · refine T.seq <| T.seq <| T.region <| SL.mv rfl <| SL.mv rfl <| SL.v (op_lenStr Tryz.underlying9 rfl) <| SL.v (op_lssF rfl rfl (by omega)) ?_
          refine SL.mv rfl <| SL.skip rfl rfl ?_
          refine SL.skip rfl rfl ?_
          refine SL.skip rfl rfl ?_
          refine SL.skip rfl rfl ?_
          refine SL.skip rfl rfl ?_
          refine SL.skip rfl rfl ?_
          refine SL.skip rfl rfl ?_
          refine SL.skip rfl rfl ?_
          refine SL.skip rfl rfl ?_
          refine SL.skip rfl rfl ?_
          refine SL.skip rfl rfl ?_
          refine SL.skip rfl rfl ?_
          refine SL.skip rfl rfl ?_
          refine SL.skip rfl rfl ?_
          refine SL.skip rfl rfl ?_
          refine SL.skip rfl rfl ?_
          refine SL.v (op_pickF rfl rfl) <| SL.nil <| T.condF rfl ?_
          refine T.exit (T.exitCode (T.exitCut (T.exitBlk ?_)))
          refine T.blk ?_
          exact T.backW 0 (by omega) ⟨1, q, hJ (by rw [hw, whl_end hql]), hX3, rfl, rfl⟩ (by repeat (first | exact Sub.nil | refine Sub.cons rfl ?_))
      | false =>
        rw [hlb, if_neg (by decide)] at ht1
        refine SL.as rfl <| SL.nil <| T.condF rfl <| T.seq <| T.region <| SL.mv rfl <| SL.mv rfl <| SL.v (op_idxStr Tryz.underlying9 rfl rfl rfl (by assumption)) ?_
        refine SL.w (op_callF en99 (vs := [_]) rfl (rdigit_spec b)) ?_
        rintro _ _ X3 ⟨rfl, hX3, rfl⟩
        cases hdb : digB b with
        | true =>
          rw [hdb, if_pos rfl] at ht1
          refine SL.as rfl <| SL.nil <| T.condT rfl <| T.seq <| T.region <| SL.v (op_fieldAddr fa110_0 rfl) <| SL.w (op_store ty3 rfl rfl (by repeat constructor) rfl rfl rfl) ?_
          rintro _ _ _ ⟨rfl, rfl⟩
          refine SL.nil <| T.region <| SL.mv rfl <| SL.mv rfl <| SL.w (op_callF en100 (vs := [_, _]) rfl (rnumber_spec hb hdb hpl hs)) ?_
          rintro _ _ X4 ⟨rfl, hX4, rfl⟩
          cases hn : numT ((bl s).drop p) with
          | none =>
            refine SL.as rfl <| SL.nil <| T.blk ?_
            exact T.backW 0 (by omega) ⟨2, 0, by rw [EndAt, ht1, hn]; exact rfl, (hX2.trans' hX3).trans' hX4, rfl, rfl⟩ (by repeat (first | exact Sub.nil | refine Sub.cons rfl ?_))
          | some d =>
            refine SL.as rfl <| SL.nil <| T.blk ?_
            exact T.backW 0 (by omega) ⟨2, p + d.length, by rw [EndAt, ht1, hn]; exact ⟨rfl, rfl⟩, (hX2.trans' hX3).trans' hX4, rfl, rfl⟩ (by repeat (first | exact Sub.nil | refine Sub.cons rfl ?_))
        | false =>
          rw [hdb, if_neg (by decide)] at ht1
          refine SL.as rfl <| SL.nil <| T.condF rfl <| T.seq <| T.region <| SL.v (op_fieldAddr fa110_0 rfl) <| SL.w (op_store ty3 rfl rfl (by repeat constructor) rfl rfl rfl) ?_
          rintro _ _ _ ⟨rfl, rfl⟩
          refine SL.nil <| T.region <| SL.mv rfl <| SL.mv rfl <| SL.w (op_callF en101 (vs := [_, _]) rfl (rsymbol_spec hp hs)) ?_
          rintro _ _ X4 ⟨rfl, hX4, rfl⟩
          cases hn : symF s p with
          | none =>
            refine SL.as rfl <| SL.nil <| T.blk ?_
            exact T.backW 0 (by omega) ⟨3, 0, by rw [EndAt, ht1, hn]; exact rfl, (hX2.trans' hX3).trans' hX4, rfl, rfl⟩ (by repeat (first | exact Sub.nil | refine Sub.cons rfl ?_))
          | some x =>
            refine SL.as rfl <| SL.nil <| T.blk ?_
            exact T.backW 0 (by omega) ⟨3, p + x.length, by rw [EndAt, ht1, hn]; exact ⟨rfl, rfl⟩, (hX2.trans' hX3).trans' hX4, rfl, rfl⟩ (by repeat (first | exact Sub.nil | refine Sub.cons rfl ?_))
    rintro _ _ _ X5 ⟨k, e, hTA, hX5, rfl, rfl⟩
    have hsa := scan_at hpl hsk
    unfold EndAt at hTA
    cases ht : tok1 ((bl s).drop p) with
    | none =>
      rw [ht] at hTA hsa
      simp only at hsa hTA
      subst hTA
      refine T.seq <| T.seq <| T.region <| SL.mv rfl <| SL.v (op_eqlT rfl rfl (by omega)) ?_
      refine SL.nil <| T.condT rfl <| T.seq <| T.region <| SL.mv rfl <| SL.as rfl <| SL.as rfl <| SL.v (op_assign (v := .int .i64 ((8 : Nat) : Int)) rfl) <| SL.nil <| T.ret3 rfl rfl rfl rfl ?_
      rw [hsc, hsa]
      rfl
    | some x =>
      obtain ⟨k', t, n⟩ := x
      rw [ht] at hTA hsa
      obtain ⟨rfl, rfl⟩ := hTA
      simp only at hsa
      have htp := tok1_pos ht
      have htle := tok1_len ht
      obtain ⟨htx, hn2, hn0, hk1, hk3⟩ := tok1_pre ht
      rw [List.length_drop, bl_size] at htle
      have hgs : p + t.length ≤ skp s (p + t.length) := skp_ge (by omega)
      have hls : skp s (p + t.length) ≤ s.size := skp_le
      have htxt : s.extract p (p + t.length) = ⟨t.toArray⟩ := bl_inj (by rw [ext_bl, Nat.add_sub_cancel_left, htx])
      refine T.seq <| T.seq <| T.region <| SL.mv rfl <| SL.v (op_eqlF rfl rfl (by omega)) ?_
      refine SL.nil <| T.condF rfl <| T.skip <| T.seq <| T.region <| SL.mv rfl <| SL.mv rfl <| SL.mv rfl <| SL.v (op_sliceStr Tryz.underlying9 rfl rfl rfl (Nat.le_add_right _ _) (by omega)) ?_
      rw [htxt]
      refine SL.v (op_fieldAddr fa110_1 rfl) <| SL.w (op_store ty9 rfl rfl (by repeat constructor) rfl rfl rfl) ?_
      rintro _ _ _ ⟨rfl, rfl⟩
      refine SL.nil <| T.seq <| T.meet (fun _ env own X' => X5.le X' ∧ env = [(0, .string s), (5, .slice A ts.length c), (6, .int .i64 (p : Int)), (7, .pointer (some ⟨B7, 0, none⟩)), (8, .int .i64 ((p + t.length : Nat) : Int))] ∧ own = TkI B7 k ⟨t.toArray⟩ n p :: G) ?_ ?_
      · skip
        refine T.seq <| T.region <| SL.mv rfl <| SL.as rfl <| SL.nil <| T.block <| T.loopW (fun m env own X' => ∃ (j : Nat), m = t.length - j ∧ j ≤ t.length ∧ (k ≠ 2 → j = 0) ∧ X5.le X' ∧ env = [(0, .string s), (5, .slice A ts.length c), (6, .int .i64 (p : Int)), (7, .pointer (some ⟨B7, 0, none⟩)), (8, .int .i64 ((p + t.length : Nat) : Int)), (9, .int .i64 ((p + j : Nat) : Int))] ∧ own = TkI B7 k ⟨t.toArray⟩ (valL (t.take j)) p :: G) t.length ⟨0, rfl, Nat.zero_le _, fun _ => rfl, PMap.le_refl _, rfl, rfl⟩ (by repeat (first | exact Sub.nil | refine Sub.cons rfl ?_)) ?_
        rintro m _ _ X6 ⟨j, rfl, hj, hj0, hX6, rfl, rfl⟩
        by_cases hk : k = 2
        · subst hk
          obtain ⟨hnv, ht6, hdig⟩ := hn2 rfl
          have hvq := valL_lt j (t.take j) (by rw [List.length_take]; omega) fun b hb => hdig b (List.mem_of_mem_take hb)
          have hv6 : valL (t.take j) < 1000000 := Nat.lt_of_lt_of_le hvq (Nat.le_trans (Nat.pow_le_pow_right (by decide) (show j ≤ 6 by omega)) (by decide))
          rcases Nat.lt_or_ge j t.length with hjl | hjl
          · obtain ⟨d, hd⟩ : ∃ d, t[j]? = some d := ⟨_, List.getElem?_eq_getElem hjl⟩
            have hcd := digB_ge.1 (hdig d (List.mem_of_getElem? hd))
            have hsd : s[p + j]? = some d := by
              rw [← bl_get, ← List.getElem?_drop, ← hd]
              conv => rhs; rw [← htx]
              rw [List.getElem?_take, if_pos hjl]
            have hval : valL (t.take (j + 1)) = 10 * valL (t.take j) + (d.toNat - 48) := by rw [List.take_add_one, hd]; exact valL_snoc _ _
            refine T.seq <| T.seq <| T.region <| SL.v (op_fieldAddr fa110_0 rfl) <| SL.v (op_load ty3 rfl (by repeat constructor) rfl) ?_
            refine SL.v (op_eqlT rfl rfl (by omega)) ?_
            refine SL.mv rfl <| SL.mv rfl <| SL.mv rfl <| SL.v (op_lssT rfl rfl (by omega)) ?_
            refine SL.v (op_pickT rfl rfl) <| SL.nil <| T.condT rfl <| T.skip <| T.seq <| T.block <| T.draw (by kernel_rfl) 10 [.t 0, .t 1, .t 2, .t 3, .t 4, .t 5, .t 6, .t 7, .t 8, .t 9] (by kernel_rfl) ?_
            refine SD.take rfl panicBody (op_fieldAddr fa110_2 rfl) rfl rfl ?_
            refine SD.take rfl panicBody (op_load ty3 rfl (by repeat constructor) rfl) rfl rfl ?_
            refine SD.take rfl panicBody (op_mulN (p := 10) (q := valL (t.take j)) rfl rfl (by omega)) rfl rfl ?_
            refine SD.take rfl panicBody (op_move rfl) rfl rfl ?_
            refine SD.take rfl panicBody (op_move rfl) rfl rfl ?_
            refine SD.take rfl panicBody (op_idxStr Tryz.underlying9 rfl rfl rfl (by assumption)) rfl rfl ?_
            refine SD.take rfl panicBody (op_sub8 (p := d.toNat) (q := 48) rfl rfl (by omega) (by omega)) rfl rfl ?_
            refine SD.take rfl panicBody (op_convI64 Tryz.underlying5 Tryz.underlying3 rfl (by omega) (by omega)) rfl rfl ?_
            refine SD.take rfl panicBody (op_addN (p := 10 * valL (t.take j)) (q := d.toNat - 48) rfl rfl (by omega)) rfl rfl ?_
            rw [← hval]
            refine SD.take rfl panicBody (op_fieldAddr fa110_2 rfl) rfl rfl ?_
            refine SD.nil ?_
            show SL _ _ _ _ _ _ _ [_] _ _ _
            refine SL.w (op_store ty3 rfl rfl (by repeat constructor) rfl rfl rfl) ?_
            rintro _ _ _ ⟨rfl, rfl⟩
            refine SL.nil <| T.blk <| T.region <| SL.mv rfl <| SL.v (op_addN (q := 1) rfl rfl (by omega)) ?_
            refine SL.as rfl <| SL.nil ?_
            exact T.backW (t.length - (j + 1)) (by omega) ⟨j + 1, rfl, by omega, fun h => absurd rfl h, hX6, rfl, rfl⟩ (by repeat (first | exact Sub.nil | refine Sub.cons rfl ?_))
          · obtain rfl : j = t.length := by omega
            rw [List.take_length, ← hnv]
            refine T.seq <| T.seq <| T.region <| SL.v (op_fieldAddr fa110_0 rfl) <| SL.v (op_load ty3 rfl (by repeat constructor) rfl) ?_
            refine SL.v (op_eqlT rfl rfl (by omega)) ?_
            refine SL.mv rfl <| SL.mv rfl <| SL.mv rfl <| SL.v (op_lssF rfl rfl (by omega)) ?_
            refine SL.v (op_pickT rfl rfl) <| SL.nil <| T.condF rfl ?_
            refine T.exit (T.exitCode (T.exitCut (T.exitBlk ?_)))
            exact T.backW 0 (by omega) ⟨hX6, rfl, rfl⟩ (by repeat (first | exact Sub.nil | refine Sub.cons rfl ?_))
        · obtain rfl := hj0 hk
          have hn0 := hn0 hk
          subst hn0
          refine T.seq <| T.seq <| T.region <| SL.v (op_fieldAddr fa110_0 rfl) <| SL.v (op_load ty3 rfl (by repeat constructor) rfl) ?_
          refine SL.v (op_eqlF rfl rfl (by omega)) ?_
          refine SL.mv rfl <| SL.skip rfl rfl ?_
          refine SL.skip rfl rfl ?_
          refine SL.skip rfl rfl ?_
          refine SL.v (op_pickF rfl rfl) <| SL.nil <| T.condF rfl ?_
          refine T.exit (T.exitCode (T.exitCut (T.exitBlk ?_)))
          exact T.backW 0 (by omega) ⟨hX6, rfl, rfl⟩ (by repeat (first | exact Sub.nil | refine Sub.cons rfl ?_))
      rintro _ _ _ X7 ⟨hX7, rfl, rfl⟩
      refine T.seq <| T.region <| SL.mv rfl <| SL.v (op_load ty110 rfl (by repeat constructor) rfl) ?_
      refine SL.w (op_buildSlice Tryz.underlying102 bs110 (qs := [(0, _)]) rfl rfl rfl rfl rfl) ?_
      rintro _ _ _ ⟨B96, rfl, rfl, rfl⟩
      refine SL.w (op_appendG (own0 := [_]) sl102 rfl hG rfl rfl rfl (by omega) (by omega)) ?_
      rintro v2 _ _ ⟨G2, rfl, rfl, hG2⟩
      have hG2 : GrowS 110 4 v2 (ts ++ [(⟨k, ⟨t.toArray⟩, n, p⟩ : Tk)]).length ((ts ++ [(⟨k, ⟨t.toArray⟩, n, p⟩ : Tk)]).map rcTi).flatten G2 := by
        rw [List.length_append, List.map_append, List.flatten_append]; exact hG2
      refine SL.as rfl <| SL.nil <| T.region <| SL.mv rfl <| SL.mv rfl <| SL.w (op_callF en97 (vs := [_, _]) rfl (rskip_spec (i := p + t.length) (by omega) hs)) ?_
      rintro _ _ X8 ⟨rfl, hX8, rfl⟩
      refine SL.as rfl <| SL.nil <| T.blk <| T.drop B7 (by repeat constructor) ?_
      exact T.backW (s.size - skp s (p + t.length)) (by omega) ⟨skp s (p + t.length), ts ++ [(⟨k, ⟨t.toArray⟩, n, p⟩ : Tk)], v2, rfl, hls, by rw [List.length_append]; simp; omega, ((hX1.trans' hX5).trans' hX7).trans' hX8, skp_skip, by rw [hsc, hsa, appR_one, appR_app], hG2, rfl⟩ (by repeat (first | exact Sub.nil | refine Sub.cons rfl ?_))
  · obtain rfl : p = s.size := by omega
    rw [scan_none (Nat.le_refl _)] at hsc
    obtain ⟨A, c, rfl⟩ := hG.form
    refine T.seq <| T.seq <| T.region <| SL.mv rfl <| SL.mv rfl <| SL.v (op_lenStr Tryz.underlying9 rfl) <| SL.v (op_lssF rfl rfl (by omega)) ?_
    refine SL.nil <| T.condF rfl ?_
    refine T.exit (T.exitCode (T.exitCut (T.exitBlk ?_)))
    refine T.seq <| T.region <| SL.mv rfl <| SL.mv rfl <| SL.v (op_lenStr Tryz.underlying9 rfl) <| SL.v (op_build st110 (qs := [(3, _)]) rfl rfl) <| SL.w (op_buildSlice Tryz.underlying102 bs110 (qs := [(0, _)]) rfl rfl rfl rfl rfl) ?_
    rintro _ _ _ ⟨B105, rfl, rfl, rfl⟩
    refine SL.w (op_appendG (own0 := []) sl102 rfl hG rfl rfl rfl (by omega) (by omega)) ?_
    rintro v2 G2 _ ⟨_, rfl, rfl, hG2⟩
    have hG2 : GrowS 110 4 v2 (ts ++ [(⟨0, ⟨#[]⟩, 0, s.size⟩ : Tk)]).length ((ts ++ [(⟨0, ⟨#[]⟩, 0, s.size⟩ : Tk)]).map rcTi).flatten G2 := by
      rw [List.length_append, List.map_append, List.flatten_append]; exact hG2
    refine SL.as rfl <| SL.v (op_assign (v := .int .i64 ((0 : Nat) : Int)) rfl) <| SL.v (op_assign (v := .int .i64 ((0 : Nat) : Int)) rfl) <| SL.nil <| T.pubG (own0 := []) hG2 ?_
    intro X9 hX9 hS9
    refine T.ret3 rfl rfl rfl rfl ?_
    rw [hsc]
    exact ⟨_, rfl, RowR.ofG hG2 hS9⟩
end Go.Proofs.YtnabbnhefjfegaaGreatDoor
namespace Go.Proofs.YtnabbnhefjfegaaGreatDoor
section
set_option maxRecDepth 100000
theorem en50 : Enters Tryz.prog 50 := enters_mk Tryz.func50 (by kernel_rfl) rfl
theorem fa107_0 : FAdr Tryz.prog 107 0 0 := fadr_mk Tryz.underlying107 rfl rfl (by kernel_rfl)
theorem fa107_1 : FAdr Tryz.prog 107 1 1 := fadr_mk Tryz.underlying107 rfl rfl (by kernel_rfl)
theorem fa107_3 : FAdr Tryz.prog 107 3 3 := fadr_mk Tryz.underlying107 rfl rfl (by kernel_rfl)
theorem fa110_3 : FAdr Tryz.prog 110 3 3 := fadr_mk Tryz.underlying110 rfl rfl (by kernel_rfl)
theorem ty102 : Ty Tryz.prog 102 false 1 := ⟨⟨_, Tryz.underlying102, rfl⟩, by kernel_rfl⟩
end
open Go.RowKit
abbrev RdI (b : Nat) (v : Value) (i off : Nat) (e : Int) : Ow := ⟨b, rdC v i off e, 107, 4⟩
structure TksI (X : PMap) (v : Value) (ts : List Tk) : Prop where
  row : RowR rcTi X v ts
  len : ts.length < 1000000
  fin : ∀ t, ts[ts.length - 1]? = some t → t.kind = 0
  num : ∀ t ∈ ts, t.kind = 2 → t.num ≤ 999999
theorem TksI.mono {X X' : PMap} {v : Value} {ts : List Tk} (h : TksI X v ts) (hX : X.le X') : TksI X' v ts := ⟨h.row.mono hX, h.len, h.fin, h.num⟩
section
variable {X : PMap} {v : Value} {ts : List Tk} {rb i off : Nat} {e : Int} {t : Tk}
theorem rpeek_spec (hR : RowR rcTi X v ts) (hl : ts.length < 1000000) (hB : Blk X rb (rdC v i off e)) (ht : ts[i]? = some t) : Spec Tryz.prog 50 [.pointer (some ⟨rb, 0, none⟩)] X fun u _ => u = .agg (rcTi (pk e t)).toArray := by
  obtain ⟨A, c, rfl⟩ := hR.form
  obtain ⟨hi, _⟩ := List.getElem?_eq_some_iff.1 ht
  obtain ⟨bA, pre, rfl, hbA⟩ := hR.blk (by omega)
  by_cases h : e = 0
  · refine Spec.enter Tryz.func50 rfl Tryz.ntmps50 rfl ?_
    intro w0 hw0
    refine T.seq <| T.region <| SL.w (op_alloc z110) ?_
    rintro _ _ _ ⟨B2, rfl, rfl, rfl⟩
    refine SL.nil <| T.seq <| T.seq <| T.draw (by kernel_rfl) 17 [.t 0, .t 1, .t 2, .t 3, .t 4, .t 5, .t 6, .t 7, .t 8, .t 9, .t 10, .t 11, .t 12, .t 13, .t 14, .t 15, .t 16] (by kernel_rfl) ?_
    refine SD.take rfl panicBody (op_move rfl) rfl rfl ?_
    refine SD.take rfl panicBody (op_nil rfl) rfl rfl ?_
    refine SD.take rfl panicBody (op_fieldAddr fa107_3 rfl) rfl rfl ?_
    refine SD.take rfl panicBody (op_loadX ty3 rfl (by assumption) rfl) rfl rfl ?_
    refine SD.take rfl panicBody (op_neqF rfl rfl (by omega)) rfl rfl ?_
    refine SD.take rfl panicBody (op_move rfl) rfl rfl ?_
    refine SD.take rfl panicBody (op_move rfl) rfl rfl ?_
    refine SD.take rfl panicBody (op_nil rfl) rfl rfl ?_
    refine SD.take rfl panicBody (op_fieldAddr fa107_1 rfl) rfl rfl ?_
    refine SD.take rfl panicBody (op_loadX ty3 rfl (by assumption) rfl) rfl rfl ?_
    refine SD.take rfl panicBody (op_move rfl) rfl rfl ?_
    refine SD.take rfl panicBody (op_nil rfl) rfl rfl ?_
    refine SD.take rfl panicBody (op_fieldAddr fa107_0 rfl) rfl rfl ?_
    refine SD.take rfl panicBody (op_loadX ty102 rfl (by assumption) rfl) rfl rfl ?_
    refine SD.take rfl panicBody (op_lenS Tryz.underlying102 rfl) rfl rfl ?_
    refine SD.take rfl panicBody (op_geqF rfl rfl (by omega)) rfl rfl ?_
    refine SD.take rfl panicBody (op_pickF rfl rfl) rfl rfl ?_
    refine SD.nil ?_
    show SL _ _ _ _ _ _ _ [] _ _ _
    refine SL.nil <| T.condF rfl <| T.skip <| T.seq <| T.draw (by kernel_rfl) 10 [.t 0, .t 1, .t 2, .t 3, .t 4, .t 5, .t 6, .t 7, .t 8, .t 9] (by kernel_rfl) ?_
    refine SD.take rfl panicBody (op_move rfl) rfl rfl ?_
    refine SD.take rfl panicBody (op_nil rfl) rfl rfl ?_
    refine SD.take rfl panicBody (op_fieldAddr fa107_0 rfl) rfl rfl ?_
    refine SD.take rfl panicBody (op_loadX ty102 rfl (by assumption) rfl) rfl rfl ?_
    refine SD.take rfl panicBody (op_move rfl) rfl rfl ?_
    refine SD.take rfl panicBody (op_nil rfl) rfl rfl ?_
    refine SD.take rfl panicBody (op_fieldAddr fa107_1 rfl) rfl rfl ?_
    refine SD.take rfl panicBody (op_loadX ty3 rfl (by assumption) rfl) rfl rfl ?_
    refine SD.take rfl panicBody (op_indexN Tryz.underlying102 ty110 rfl rfl (by omega)) rfl rfl ?_
    refine SD.take rfl panicBody (op_loadX ty110 rfl hbA (row_read rcTi_len ht (by omega))) rfl rfl ?_
    refine SD.nil ?_
    show SL _ _ _ _ _ _ _ [_] _ _ _
    refine SL.w (op_store ty110 rfl rfl (by repeat constructor) rfl rfl rfl) ?_
    rintro _ _ _ ⟨rfl, rfl⟩
    refine SL.nil <| T.ret1 rfl (ResIs.cell rfl ty110 (by repeat constructor) rfl) ?_
    rw [pk, if_pos h]
    rfl
  · refine Spec.enter Tryz.func50 rfl Tryz.ntmps50 rfl ?_
    intro w0 hw0
    refine T.seq <| T.region <| SL.w (op_alloc z110) ?_
    rintro _ _ _ ⟨B2, rfl, rfl, rfl⟩
    refine SL.nil <| T.seq <| T.seq <| T.draw (by kernel_rfl) 17 [.t 0, .t 1, .t 2, .t 3, .t 4, .t 5, .t 6, .t 7, .t 8, .t 9, .t 10, .t 11, .t 12, .t 13, .t 14, .t 15, .t 16] (by kernel_rfl) ?_
    refine SD.take rfl panicBody (op_move rfl) rfl rfl ?_
    refine SD.take rfl panicBody (op_nil rfl) rfl rfl ?_
    refine SD.take rfl panicBody (op_fieldAddr fa107_3 rfl) rfl rfl ?_
    refine SD.take rfl panicBody (op_loadX ty3 rfl (by assumption) rfl) rfl rfl ?_
    refine SD.take rfl panicBody (op_neqT rfl rfl (by omega)) rfl rfl ?_
    refine SD.take rfl panicBody (op_move rfl) rfl rfl ?_
    refine SD.skip rfl panicBody rfl rfl ?_
    refine SD.skip rfl panicBody rfl rfl ?_
    refine SD.skip rfl panicBody rfl rfl ?_
    refine SD.skip rfl panicBody rfl rfl ?_
    refine SD.skip rfl panicBody rfl rfl ?_
    refine SD.skip rfl panicBody rfl rfl ?_
    refine SD.skip rfl panicBody rfl rfl ?_
    refine SD.skip rfl panicBody rfl rfl ?_
    refine SD.skip rfl panicBody rfl rfl ?_
    refine SD.skip rfl panicBody rfl rfl ?_
    refine SD.take rfl panicBody (op_pickT rfl rfl) rfl rfl ?_
    refine SD.nil ?_
    show SL _ _ _ _ _ _ _ [] _ _ _
    refine SL.nil <| T.condT rfl <| T.seq <| T.region <| SL.v (op_build st110 (qs := []) rfl rfl) <| SL.w (op_store ty110 rfl rfl (by repeat constructor) rfl rfl rfl) ?_
    rintro _ _ _ ⟨rfl, rfl⟩
    refine SL.nil <| T.ret1 rfl (ResIs.cell rfl ty110 (by repeat constructor) rfl) ?_
    rw [pk, if_neg h]
    rfl
theorem roffset_spec (hR : RowR rcTi X v ts) (hl : ts.length < 1000000) (hB : Blk X rb (rdC v i off e)) (ht : ts[i]? = some t) : Spec Tryz.prog 105 [.pointer (some ⟨rb, 0, none⟩)] X fun u _ => u = .int .i64 (t.off : Int) := by
  obtain ⟨A, c, rfl⟩ := hR.form
  obtain ⟨hi, _⟩ := List.getElem?_eq_some_iff.1 ht
  obtain ⟨bA, pre, rfl, hbA⟩ := hR.blk (by omega)
  refine Spec.enter Tryz.func105 rfl Tryz.ntmps105 rfl ?_
  intro w0 hw0
  refine T.seq <| T.region <| SL.v (op_assign (v := .int .i64 ((0 : Nat) : Int)) rfl) <| SL.nil <| T.seq <| T.seq <| T.draw (by kernel_rfl) 10 [.t 0, .t 1, .t 2, .t 3, .t 4, .t 5, .t 6, .t 7, .t 8, .t 9] (by kernel_rfl) ?_
  refine SD.take rfl panicBody (op_move rfl) rfl rfl ?_
  refine SD.take rfl panicBody (op_nil rfl) rfl rfl ?_
  refine SD.take rfl panicBody (op_fieldAddr fa107_1 rfl) rfl rfl ?_
  refine SD.take rfl panicBody (op_loadX ty3 rfl (by assumption) rfl) rfl rfl ?_
  refine SD.take rfl panicBody (op_move rfl) rfl rfl ?_
  refine SD.take rfl panicBody (op_nil rfl) rfl rfl ?_
  refine SD.take rfl panicBody (op_fieldAddr fa107_0 rfl) rfl rfl ?_
  refine SD.take rfl panicBody (op_loadX ty102 rfl (by assumption) rfl) rfl rfl ?_
  refine SD.take rfl panicBody (op_lenS Tryz.underlying102 rfl) rfl rfl ?_
  refine SD.take rfl panicBody (op_lssT rfl rfl (by omega)) rfl rfl ?_
  refine SD.nil ?_
  show SL _ _ _ _ _ _ _ [] _ _ _
  refine SL.nil <| T.condT rfl <| T.seq <| T.draw (by kernel_rfl) 12 [.t 0, .t 1, .t 2, .t 3, .t 4, .t 5, .t 6, .t 7, .t 8, .t 9, .t 10, .t 11] (by kernel_rfl) ?_
  refine SD.take rfl panicBody (op_move rfl) rfl rfl ?_
  refine SD.take rfl panicBody (op_nil rfl) rfl rfl ?_
  refine SD.take rfl panicBody (op_fieldAddr fa107_0 rfl) rfl rfl ?_
  refine SD.take rfl panicBody (op_loadX ty102 rfl (by assumption) rfl) rfl rfl ?_
  refine SD.take rfl panicBody (op_move rfl) rfl rfl ?_
  refine SD.take rfl panicBody (op_nil rfl) rfl rfl ?_
  refine SD.take rfl panicBody (op_fieldAddr fa107_1 rfl) rfl rfl ?_
  refine SD.take rfl panicBody (op_loadX ty3 rfl (by assumption) rfl) rfl rfl ?_
  refine SD.take rfl panicBody (op_indexN Tryz.underlying102 ty110 rfl rfl (by omega)) rfl rfl ?_
  refine SD.take rfl panicBody (op_fieldAddr fa110_3 rfl) rfl rfl ?_
  refine SD.take rfl panicBody (op_loadX (v := .int .i64 (t.off : Int)) ty3 rfl hbA (row_cell (sz := 4) (j := 3) rcTi_len ht rfl (by omega))) rfl rfl ?_
  refine SD.take rfl panicBody (op_assign rfl) rfl rfl ?_
  refine SD.nil ?_
  show SL _ _ _ _ _ _ _ [] _ _ _
  refine SL.nil <| T.ret1 rfl (ResIs.tmp rfl) ?_
  rfl
theorem ris_spec (hR : RowR rcTi X v ts) (hl : ts.length < 1000000) (hB : Blk X rb (rdC v i off e)) (ht : ts[i]? = some t) {w : ByteArray} : Spec Tryz.prog 142 [.pointer (some ⟨rb, 0, none⟩), .string w] X fun u _ => u = .bool (isK w (pk e t)) := by
  by_cases h : e = 0
  case neg =>
    refine Spec.enter Tryz.func142 rfl Tryz.ntmps142 rfl ?_
    intro w0 hw0
    refine T.seq <| T.region <| SL.as rfl <| SL.nil <| T.seq <| T.region <| SL.mv rfl <| SL.w (op_callF en50 (vs := [_]) rfl (rpeek_spec hR hl hB ht)) ?_
    rintro _ _ X1 ⟨rfl, hX1, rfl⟩
    have hB := hB.mono hX1
    rw [pk, if_neg h]
    refine SL.w (op_alloc z110) ?_
    rintro _ _ _ ⟨B5, rfl, rfl, rfl⟩
    refine SL.w (op_store ty110 rfl rfl (by repeat constructor) rfl rfl rfl) ?_
    rintro _ _ _ ⟨rfl, rfl⟩
    refine SL.nil <| T.seq <| T.region <| SL.mv rfl <| SL.v (op_nil rfl) <| SL.v (op_fieldAddr fa107_3 rfl) <| SL.v (op_loadX ty3 rfl (by assumption) rfl) ?_
    refine SL.v (op_eqlF rfl rfl (by omega)) ?_
    refine SL.mv rfl <| SL.skip rfl rfl ?_
    refine SL.skip rfl rfl ?_
    refine SL.skip rfl rfl ?_
    refine SL.skip rfl rfl ?_
    refine SL.skip rfl rfl ?_
    refine SL.skip rfl rfl ?_
    refine SL.skip rfl rfl ?_
    refine SL.skip rfl rfl ?_
    refine SL.v (op_pickF rfl rfl) <| SL.mv rfl <| SL.skip rfl rfl ?_
    refine SL.skip rfl rfl ?_
    refine SL.skip rfl rfl ?_
    refine SL.skip rfl rfl ?_
    refine SL.v (op_pickF rfl rfl) <| SL.as rfl <| SL.nil <| T.ret1 rfl (ResIs.tmp rfl) ?_
    rfl
  refine Spec.enter Tryz.func142 rfl Tryz.ntmps142 rfl ?_
  intro w0 hw0
  refine T.seq <| T.region <| SL.as rfl <| SL.nil <| T.seq <| T.region <| SL.mv rfl <| SL.w (op_callF en50 (vs := [_]) rfl (rpeek_spec hR hl hB ht)) ?_
  rintro _ _ X1 ⟨rfl, hX1, rfl⟩
  have hB := hB.mono hX1
  generalize pk e t = t
  obtain ⟨k, x, n, o⟩ := t
  rw [show (rcTi ⟨k, x, n, o⟩).toArray = #[.int .i64 (k : Int), .string x, .int .i64 (n : Int), .int .i64 (o : Int)] from rfl]
  by_cases h1 : k = 1
  · subst h1
    refine SL.w (op_alloc z110) ?_
    rintro _ _ _ ⟨B5, rfl, rfl, rfl⟩
    refine SL.w (op_store ty110 rfl rfl (by repeat constructor) rfl rfl rfl) ?_
    rintro _ _ _ ⟨rfl, rfl⟩
    refine SL.nil <| T.seq <| T.region <| SL.mv rfl <| SL.v (op_nil rfl) <| SL.v (op_fieldAddr fa107_3 rfl) <| SL.v (op_loadX ty3 rfl (by assumption) rfl) ?_
    refine SL.v (op_eqlT rfl rfl (by omega)) ?_
    refine SL.mv rfl <| SL.v (op_fieldAddr fa110_0 rfl) <| SL.v (op_load ty3 rfl (by repeat constructor) rfl) ?_
    refine SL.v (op_eqlT rfl rfl (by omega)) ?_
    refine SL.mv rfl <| SL.skip rfl rfl ?_
    refine SL.skip rfl rfl ?_
    refine SL.skip rfl rfl ?_
    refine SL.v (op_pickT rfl rfl) <| SL.v (op_pickT rfl rfl) <| SL.mv rfl <| SL.v (op_fieldAddr fa110_1 rfl) <| SL.v (op_load ty9 rfl (by repeat constructor) rfl) ?_
    refine SL.mv rfl <| SL.v (op_eqlStrD (s := x) (s' := w) rfl rfl) <| SL.v (op_pickT rfl rfl) <| SL.as rfl <| SL.nil <| T.ret1 rfl (ResIs.tmp rfl) ?_
    simp [isK]
  by_cases h3 : k = 3
  · subst h3
    refine SL.w (op_alloc z110) ?_
    rintro _ _ _ ⟨B5, rfl, rfl, rfl⟩
    refine SL.w (op_store ty110 rfl rfl (by repeat constructor) rfl rfl rfl) ?_
    rintro _ _ _ ⟨rfl, rfl⟩
    refine SL.nil <| T.seq <| T.region <| SL.mv rfl <| SL.v (op_nil rfl) <| SL.v (op_fieldAddr fa107_3 rfl) <| SL.v (op_loadX ty3 rfl (by assumption) rfl) ?_
    refine SL.v (op_eqlT rfl rfl (by omega)) ?_
    refine SL.mv rfl <| SL.v (op_fieldAddr fa110_0 rfl) <| SL.v (op_load ty3 rfl (by repeat constructor) rfl) ?_
    refine SL.v (op_eqlF rfl rfl (by omega)) ?_
    refine SL.mv rfl <| SL.v (op_fieldAddr fa110_0 rfl) <| SL.v (op_load ty3 rfl (by repeat constructor) rfl) ?_
    refine SL.v (op_eqlT rfl rfl (by omega)) ?_
    refine SL.v (op_pickF rfl rfl) <| SL.v (op_pickT rfl rfl) <| SL.mv rfl <| SL.v (op_fieldAddr fa110_1 rfl) <| SL.v (op_load ty9 rfl (by repeat constructor) rfl) ?_
    refine SL.mv rfl <| SL.v (op_eqlStrD (s := x) (s' := w) rfl rfl) <| SL.v (op_pickT rfl rfl) <| SL.as rfl <| SL.nil <| T.ret1 rfl (ResIs.tmp rfl) ?_
    simp [isK]
  refine SL.w (op_alloc z110) ?_
  rintro _ _ _ ⟨B5, rfl, rfl, rfl⟩
  refine SL.w (op_store ty110 rfl rfl (by repeat constructor) rfl rfl rfl) ?_
  rintro _ _ _ ⟨rfl, rfl⟩
  refine SL.nil <| T.seq <| T.region <| SL.mv rfl <| SL.v (op_nil rfl) <| SL.v (op_fieldAddr fa107_3 rfl) <| SL.v (op_loadX ty3 rfl (by assumption) rfl) ?_
  refine SL.v (op_eqlT rfl rfl (by omega)) ?_
  refine SL.mv rfl <| SL.v (op_fieldAddr fa110_0 rfl) <| SL.v (op_load ty3 rfl (by repeat constructor) rfl) ?_
  refine SL.v (op_eqlF rfl rfl (by omega)) ?_
  refine SL.mv rfl <| SL.v (op_fieldAddr fa110_0 rfl) <| SL.v (op_load ty3 rfl (by repeat constructor) rfl) ?_
  refine SL.v (op_eqlF rfl rfl (by omega)) ?_
  refine SL.v (op_pickF rfl rfl) <| SL.v (op_pickT rfl rfl) <| SL.mv rfl <| SL.skip rfl rfl ?_
  refine SL.skip rfl rfl ?_
  refine SL.skip rfl rfl ?_
  refine SL.skip rfl rfl ?_
  refine SL.v (op_pickF rfl rfl) <| SL.as rfl <| SL.nil <| T.ret1 rfl (ResIs.tmp rfl) ?_
  simp [isK, h1, h3]
end
end Go.Proofs.YtnabbnhefjfegaaGreatDoor
namespace Go.Proofs.YtnabbnhefjfegaaGreatDoor
section
set_option maxRecDepth 100000
theorem en105 : Enters Tryz.prog 105 := enters_mk Tryz.func105 (by kernel_rfl) rfl
theorem en142 : Enters Tryz.prog 142 := enters_mk Tryz.func142 (by kernel_rfl) rfl
theorem en143 : Enters Tryz.prog 143 := enters_mk Tryz.func143 (by kernel_rfl) rfl
theorem fa107_2 : FAdr Tryz.prog 107 2 2 := fadr_mk Tryz.underlying107 rfl rfl (by kernel_rfl)
end
open Go.RowKit
def SpecI (P : Program) (f : FuncId) (vs : List Value) (X : PMap) (ts : List Tk) (rb : Nat) (v : Value) (i off : Nat) (e : Int) (Ψ : Value → RSt → PMap → Prop) : Prop :=
  SpecM P f vs X [RdI rb v i off e] fun u L' X' => ∃ x', L' = [x'] ∧ ∃ (i' off' : Nat) (e' : Int) (st' : RSt), x' = RdI rb v i' off' e' ∧ RdS ts st' i' off' e' ∧ Ψ u st' X'
section
variable {X : PMap} {v : Value} {ts : List Tk} {rb i off : Nat} {e : Int} {t : Tk} {st : RSt}
theorem rnextM_spec (hR : RowR rcTi X v ts) (hl : ts.length < 1000000) (ht : ts[i]? = some t) : SpecM Tryz.prog 143 [.pointer (some ⟨rb, 0, none⟩)] X [RdI rb v i off e] fun u L' _ => u = .agg (rcTi (pk e t)).toArray ∧ L' = [RdI rb v (if (pk e t).kind ≠ 0 then i + 1 else i) off e] := by
  obtain ⟨hi, _⟩ := List.getElem?_eq_some_iff.1 ht
  obtain ⟨A, c, rfl⟩ := hR.form
  have hk0 : e ≠ 0 → (pk e t).kind = 0 := fun h => by rw [pk, if_neg h]; rfl
  refine SpecM.enter Tryz.func143 rfl Tryz.ntmps143 rfl ?_
  intro w0 X0 own0
  refine T.seq <| T.region <| SL.w (op_alloc z110) ?_
  rintro _ _ _ ⟨B2, rfl, rfl, rfl⟩
  refine SL.nil <| T.seq <| T.region <| SL.mv rfl <| SL.w (op_callLend en50 (vs := [_]) rfl ((fun X1 h1 h2 => (rpeek_spec (hR.mono h1) hl (h2 (RdI rb _ i off e) (by simp)) ht : Spec _ _ _ _ fun u _ => u = .agg (rcTi (pk e t)).toArray)))) ?_
  rintro _ _ _ ⟨rfl, rfl, rfl⟩
  generalize pk e t = q at *
  obtain ⟨k, x, n, o⟩ := q
  rw [show (rcTi ⟨k, x, n, o⟩).toArray = #[.int .i64 (k : Int), .string x, .int .i64 (n : Int), .int .i64 (o : Int)] from rfl]
  simp only at hk0
  by_cases he : e = 0
  · by_cases hk : k = 0
    · skip
      refine SL.w (op_alloc z110) ?_
      rintro _ _ _ ⟨B3, rfl, rfl, rfl⟩
      refine SL.w (op_store ty110 rfl rfl (by repeat constructor) rfl rfl rfl) ?_
      rintro _ _ _ ⟨rfl, rfl⟩
      refine SL.nil <| T.seq <| T.seq <| T.draw (by kernel_rfl) 22 [.t 0, .t 1, .t 2, .t 3, .t 4, .t 5, .t 6, .t 7, .t 8, .t 9, .t 10, .t 11, .t 12, .t 13, .t 14, .t 15, .t 16, .t 17, .t 18, .t 19, .t 20, .t 21] (by kernel_rfl) ?_
      refine SD.take rfl panicBody (op_move rfl) rfl rfl ?_
      refine SD.take rfl panicBody (op_nil rfl) rfl rfl ?_
      refine SD.take rfl panicBody (op_fieldAddr fa107_3 rfl) rfl rfl ?_
      refine SD.take rfl panicBody (op_load ty3 rfl (by repeat constructor) rfl) rfl rfl ?_
      refine SD.take rfl panicBody (op_eqlT rfl rfl (by omega)) rfl rfl ?_
      refine SD.take rfl panicBody (op_move rfl) rfl rfl ?_
      refine SD.take rfl panicBody (op_move rfl) rfl rfl ?_
      refine SD.take rfl panicBody (op_nil rfl) rfl rfl ?_
      refine SD.take rfl panicBody (op_fieldAddr fa107_1 rfl) rfl rfl ?_
      refine SD.take rfl panicBody (op_load ty3 rfl (by repeat constructor) rfl) rfl rfl ?_
      refine SD.take rfl panicBody (op_move rfl) rfl rfl ?_
      refine SD.take rfl panicBody (op_nil rfl) rfl rfl ?_
      refine SD.take rfl panicBody (op_fieldAddr fa107_0 rfl) rfl rfl ?_
      refine SD.take rfl panicBody (op_load ty102 rfl (by repeat constructor) rfl) rfl rfl ?_
      refine SD.take rfl panicBody (op_lenS Tryz.underlying102 rfl) rfl rfl ?_
      refine SD.take rfl panicBody (op_lssT rfl rfl (by omega)) rfl rfl ?_
      refine SD.take rfl panicBody (op_pickT rfl rfl) rfl rfl ?_
      refine SD.take rfl panicBody (op_move rfl) rfl rfl ?_
      refine SD.take rfl panicBody (op_fieldAddr fa110_0 rfl) rfl rfl ?_
      refine SD.take rfl panicBody (op_load ty3 rfl (by repeat constructor) rfl) rfl rfl ?_
      refine SD.take rfl panicBody (op_neqF rfl rfl (by omega)) rfl rfl ?_
      refine SD.take rfl panicBody (op_pickT rfl rfl) rfl rfl ?_
      refine SD.nil ?_
      show SL _ _ _ _ _ _ _ [] _ _ _
      refine SL.nil <| T.condF rfl <| T.skip <| T.seq <| T.region <| SL.v (op_load ty110 rfl (by repeat constructor) rfl) ?_
      refine SL.w (op_store ty110 rfl rfl (by repeat constructor) rfl rfl rfl) ?_
      rintro _ _ _ ⟨rfl, rfl⟩
      refine SL.nil <| T.drop B3 (by repeat constructor) ?_
      refine T.retM1S [_] _ rfl (ResIs.cell rfl ty110 (by repeat constructor) rfl) (List.sublist_cons_self _ _) (List.Perm.refl _) ?_
      exact ⟨PMap.le_refl _, rfl, by rw [if_neg (fun h => h hk)]⟩
    · skip
      refine SL.w (op_alloc z110) ?_
      rintro _ _ _ ⟨B3, rfl, rfl, rfl⟩
      refine SL.w (op_store ty110 rfl rfl (by repeat constructor) rfl rfl rfl) ?_
      rintro _ _ _ ⟨rfl, rfl⟩
      refine SL.nil <| T.seq <| T.seq <| T.draw (by kernel_rfl) 22 [.t 0, .t 1, .t 2, .t 3, .t 4, .t 5, .t 6, .t 7, .t 8, .t 9, .t 10, .t 11, .t 12, .t 13, .t 14, .t 15, .t 16, .t 17, .t 18, .t 19, .t 20, .t 21] (by kernel_rfl) ?_
      refine SD.take rfl panicBody (op_move rfl) rfl rfl ?_
      refine SD.take rfl panicBody (op_nil rfl) rfl rfl ?_
      refine SD.take rfl panicBody (op_fieldAddr fa107_3 rfl) rfl rfl ?_
      refine SD.take rfl panicBody (op_load ty3 rfl (by repeat constructor) rfl) rfl rfl ?_
      refine SD.take rfl panicBody (op_eqlT rfl rfl (by omega)) rfl rfl ?_
      refine SD.take rfl panicBody (op_move rfl) rfl rfl ?_
      refine SD.take rfl panicBody (op_move rfl) rfl rfl ?_
      refine SD.take rfl panicBody (op_nil rfl) rfl rfl ?_
      refine SD.take rfl panicBody (op_fieldAddr fa107_1 rfl) rfl rfl ?_
      refine SD.take rfl panicBody (op_load ty3 rfl (by repeat constructor) rfl) rfl rfl ?_
      refine SD.take rfl panicBody (op_move rfl) rfl rfl ?_
      refine SD.take rfl panicBody (op_nil rfl) rfl rfl ?_
      refine SD.take rfl panicBody (op_fieldAddr fa107_0 rfl) rfl rfl ?_
      refine SD.take rfl panicBody (op_load ty102 rfl (by repeat constructor) rfl) rfl rfl ?_
      refine SD.take rfl panicBody (op_lenS Tryz.underlying102 rfl) rfl rfl ?_
      refine SD.take rfl panicBody (op_lssT rfl rfl (by omega)) rfl rfl ?_
      refine SD.take rfl panicBody (op_pickT rfl rfl) rfl rfl ?_
      refine SD.take rfl panicBody (op_move rfl) rfl rfl ?_
      refine SD.take rfl panicBody (op_fieldAddr fa110_0 rfl) rfl rfl ?_
      refine SD.take rfl panicBody (op_load ty3 rfl (by repeat constructor) rfl) rfl rfl ?_
      refine SD.take rfl panicBody (op_neqT rfl rfl (by omega)) rfl rfl ?_
      refine SD.take rfl panicBody (op_pickT rfl rfl) rfl rfl ?_
      refine SD.nil ?_
      show SL _ _ _ _ _ _ _ [] _ _ _
      refine SL.nil <| T.condT rfl <| T.region <| SL.mv rfl <| SL.v (op_nil rfl) <| SL.v (op_fieldAddr fa107_1 rfl) <| SL.v (op_load ty3 rfl (by repeat constructor) rfl) ?_
      refine SL.v (op_addN (q := 1) rfl rfl (by omega)) ?_
      refine SL.v (op_nil rfl) <| SL.v (op_fieldAddr fa107_1 rfl) <| SL.w (op_store ty3 rfl rfl (by repeat constructor) rfl rfl rfl) ?_
      rintro _ _ _ ⟨rfl, rfl⟩
      refine SL.nil <| T.seq <| T.region <| SL.v (op_load ty110 rfl (by repeat constructor) rfl) ?_
      refine SL.w (op_store ty110 rfl rfl (by repeat constructor) rfl rfl rfl) ?_
      rintro _ _ _ ⟨rfl, rfl⟩
      refine SL.nil <| T.drop B3 (by repeat constructor) ?_
      refine T.retM1S [_] _ rfl (ResIs.cell rfl ty110 (by repeat constructor) rfl) (List.sublist_cons_self _ _) (List.Perm.refl _) ?_
      exact ⟨PMap.le_refl _, rfl, by rw [if_pos hk]; rfl⟩
  · have hk := hk0 he
    refine SL.w (op_alloc z110) ?_
    rintro _ _ _ ⟨B3, rfl, rfl, rfl⟩
    refine SL.w (op_store ty110 rfl rfl (by repeat constructor) rfl rfl rfl) ?_
    rintro _ _ _ ⟨rfl, rfl⟩
    refine SL.nil <| T.seq <| T.seq <| T.draw (by kernel_rfl) 22 [.t 0, .t 1, .t 2, .t 3, .t 4, .t 5, .t 6, .t 7, .t 8, .t 9, .t 10, .t 11, .t 12, .t 13, .t 14, .t 15, .t 16, .t 17, .t 18, .t 19, .t 20, .t 21] (by kernel_rfl) ?_
    refine SD.take rfl panicBody (op_move rfl) rfl rfl ?_
    refine SD.take rfl panicBody (op_nil rfl) rfl rfl ?_
    refine SD.take rfl panicBody (op_fieldAddr fa107_3 rfl) rfl rfl ?_
    refine SD.take rfl panicBody (op_load ty3 rfl (by repeat constructor) rfl) rfl rfl ?_
    refine SD.take rfl panicBody (op_eqlF rfl rfl (by omega)) rfl rfl ?_
    refine SD.take rfl panicBody (op_move rfl) rfl rfl ?_
    refine SD.skip rfl panicBody rfl rfl ?_
    refine SD.skip rfl panicBody rfl rfl ?_
    refine SD.skip rfl panicBody rfl rfl ?_
    refine SD.skip rfl panicBody rfl rfl ?_
    refine SD.skip rfl panicBody rfl rfl ?_
    refine SD.skip rfl panicBody rfl rfl ?_
    refine SD.skip rfl panicBody rfl rfl ?_
    refine SD.skip rfl panicBody rfl rfl ?_
    refine SD.skip rfl panicBody rfl rfl ?_
    refine SD.skip rfl panicBody rfl rfl ?_
    refine SD.take rfl panicBody (op_pickF rfl rfl) rfl rfl ?_
    refine SD.take rfl panicBody (op_move rfl) rfl rfl ?_
    refine SD.skip rfl panicBody rfl rfl ?_
    refine SD.skip rfl panicBody rfl rfl ?_
    refine SD.skip rfl panicBody rfl rfl ?_
    refine SD.take rfl panicBody (op_pickF rfl rfl) rfl rfl ?_
    refine SD.nil ?_
    show SL _ _ _ _ _ _ _ [] _ _ _
    refine SL.nil <| T.condF rfl <| T.skip <| T.seq <| T.region <| SL.v (op_load ty110 rfl (by repeat constructor) rfl) ?_
    refine SL.w (op_store ty110 rfl rfl (by repeat constructor) rfl rfl rfl) ?_
    rintro _ _ _ ⟨rfl, rfl⟩
    refine SL.nil <| T.drop B3 (by repeat constructor) ?_
    refine T.retM1S [_] _ rfl (ResIs.cell rfl ty110 (by repeat constructor) rfl) (List.sublist_cons_self _ _) (List.Perm.refl _) ?_
    exact ⟨PMap.le_refl _, rfl, by rw [if_neg (fun h => h hk)]⟩
theorem rfail_spec (hR : RowR rcTi X v ts) (hl : ts.length < 1000000) (ht : ts[i]? = some t) {c : Int} (hc : c ≠ 0) : SpecM Tryz.prog 51 [.pointer (some ⟨rb, 0, none⟩), .int .i64 c] X [RdI rb v i off e] fun _ L' _ => L' = [if e = 0 then RdI rb v i t.off c else RdI rb v i off e] := by
  by_cases h : e = 0
  · rw [if_pos h]
    refine SpecM.enter Tryz.func51 rfl Tryz.ntmps51 rfl ?_
    intro w0 X0 own0
    refine T.seq <| T.region <| SL.mv rfl <| SL.v (op_nil rfl) <| SL.v (op_fieldAddr fa107_3 rfl) <| SL.v (op_load ty3 rfl (by repeat constructor) rfl) ?_
    refine SL.v (op_eqlT rfl rfl (by omega)) ?_
    refine SL.mv rfl <| SL.mv rfl <| SL.v (op_neqT rfl rfl (by omega)) ?_
    refine SL.v (op_pickT rfl rfl) <| SL.nil <| T.condT rfl <| T.seq <| T.region <| SL.mv rfl <| SL.mv rfl <| SL.w (op_callLend en105 (vs := [_]) rfl ((fun X1 h1 h2 => (roffset_spec (hR.mono h1) hl (h2 (RdI rb v i off e) (by simp)) ht : Spec _ _ _ _ fun u _ => u = .int .i64 (t.off : Int))))) ?_
    rintro _ _ _ ⟨rfl, rfl, rfl⟩
    refine SL.v (op_nil rfl) <| SL.v (op_fieldAddr fa107_2 rfl) <| SL.w (op_store ty3 rfl rfl (by repeat constructor) rfl rfl rfl) ?_
    rintro _ _ _ ⟨rfl, rfl⟩
    refine SL.nil <| T.region <| SL.mv rfl <| SL.mv rfl <| SL.v (op_nil rfl) <| SL.v (op_fieldAddr fa107_3 rfl) <| SL.w (op_store ty3 rfl rfl (by repeat constructor) rfl rfl rfl) ?_
    rintro _ _ _ ⟨rfl, rfl⟩
    refine SL.nil <| T.doneM0 [RdI rb v i t.off c] rfl (List.Perm.refl _) ?_
    exact ⟨PMap.le_refl _, rfl⟩
  · rw [if_neg h]
    refine SpecM.enter Tryz.func51 rfl Tryz.ntmps51 rfl ?_
    intro w0 X0 own0
    refine T.seq <| T.region <| SL.mv rfl <| SL.v (op_nil rfl) <| SL.v (op_fieldAddr fa107_3 rfl) <| SL.v (op_load ty3 rfl (by repeat constructor) rfl) ?_
    refine SL.v (op_eqlF rfl rfl (by omega)) ?_
    refine SL.mv rfl <| SL.skip rfl rfl ?_
    refine SL.skip rfl rfl ?_
    refine SL.v (op_pickF rfl rfl) <| SL.nil <| T.condF rfl <| T.skip <| T.doneM0 [RdI rb v i off e] rfl (List.Perm.refl _) ?_
    exact ⟨PMap.le_refl _, rfl⟩
theorem rfailR_spec (hT : TksI X v ts) (hS : RdS ts st i off e) {c : Int} (hc : c ≠ 0) : SpecI Tryz.prog 51 [.pointer (some ⟨rb, 0, none⟩), .int .i64 c] X ts rb v i off e fun _ st' _ => st' = failM c st := by
  obtain ⟨t, ht⟩ := hS.tok
  obtain ⟨i', off', e', h1, h2⟩ := hS.fail (rb := rb) (v := v) ht hc
  have h3 : (if e = 0 then RdI rb v i t.off c else RdI rb v i off e) = RdI rb v i' off' e' := by
    by_cases he : e = 0
    · rw [if_pos he] at h1 ⊢; cases h1; rfl
    · rw [if_neg he] at h1 ⊢; cases h1; rfl
  exact (rfail_spec hT.row hT.len ht hc).mono fun u L' X' _ hL => ⟨_, hL, i', off', e', _, h3, h2, rfl⟩
theorem racc_spec (hT : TksI X v ts) (hS : RdS ts st i off e) {w : ByteArray} : SpecI Tryz.prog 103 [.pointer (some ⟨rb, 0, none⟩), .string w] X ts rb v i off e fun u st' _ => u = .bool (accM w st).1 ∧ st' = (accM w st).2 := by
  obtain ⟨t, ht⟩ := hS.tok
  obtain ⟨h1, h2, _⟩ := hS.acc hT.fin ht w
  refine SpecM.enter Tryz.func103 rfl Tryz.ntmps103 rfl ?_
  intro w0 X0 own0
  refine T.seq <| T.region <| SL.as rfl <| SL.nil <| T.seq <| T.region <| SL.mv rfl <| SL.mv rfl <| SL.w (op_callLend en142 (vs := [_, _]) rfl ((fun X1 h1 h2 => (ris_spec (w := w) (hT.row.mono h1) hT.len (h2 (RdI rb v i off e) (by simp)) ht : Spec _ _ _ _ fun u _ => u = .bool (isK w (pk e t)))))) ?_
  rintro _ _ _ ⟨rfl, rfl, rfl⟩
  cases hk : isK w (pk e t) with
  | true =>
    rw [hk] at h1 h2
    have hn := rnextM_spec (rb := rb) (off := off) (e := e) hT.row hT.len ht
    rw [if_pos (isK_kind hk)] at hn
    refine SL.as rfl <| SL.nil <| T.seq <| T.seq <| T.region <| SL.mv rfl <| SL.nil <| T.condT rfl <| T.region <| SL.mv rfl <| SL.w (op_callM en143 (vs := [_]) rfl (hn) rfl) ?_
    rintro _ _ X1 ⟨_, rfl, hX1, rfl, rfl⟩
    refine SL.nil <| T.seq <| T.region <| SL.mv rfl <| SL.as rfl <| SL.nil <| T.retM1 [RdI rb v (i + 1) off e] rfl (ResIs.tmp rfl) (List.Perm.refl _) ?_
    exact ⟨hX1, _, rfl, i + 1, off, e, _, rfl, h2, by rw [h1], rfl⟩
  | false =>
    rw [hk] at h1 h2
    refine SL.as rfl <| SL.nil <| T.seq <| T.seq <| T.region <| SL.mv rfl <| SL.nil <| T.condF rfl <| T.skip <| T.seq <| T.region <| SL.mv rfl <| SL.as rfl <| SL.nil <| T.retM1 [RdI rb v i off e] rfl (ResIs.tmp rfl) (List.Perm.refl _) ?_
    exact ⟨PMap.le_refl _, _, rfl, i, off, e, _, rfl, h2, by rw [h1], rfl⟩
end
end Go.Proofs.YtnabbnhefjfegaaGreatDoor
namespace Go.Proofs.YtnabbnhefjfegaaGreatDoor
section
set_option maxRecDepth 100000
theorem en103 : Enters Tryz.prog 103 := enters_mk Tryz.func103 (by kernel_rfl) rfl
theorem en150 : Enters Tryz.prog 150 := enters_mk Tryz.func150 (by kernel_rfl) rfl
theorem en51 : Enters Tryz.prog 51 := enters_mk Tryz.func51 (by kernel_rfl) rfl
theorem fv110_1 : FVal Tryz.prog 110 1 1 false 1 := ⟨⟨_, _, Tryz.underlying110, rfl, rfl, ty9⟩⟩
end
open Go.RowKit
section
variable {X : PMap} {v : Value} {ts : List Tk} {rb i off : Nat} {e : Int} {st : RSt}
theorem rexp_spec (hT : TksI X v ts) (hS : RdS ts st i off e) {w : ByteArray} : SpecI Tryz.prog 122 [.pointer (some ⟨rb, 0, none⟩), .string w] X ts rb v i off e fun _ st' _ => st' = expM w st := by
  obtain ⟨t, ht⟩ := hS.tok
  obtain ⟨h1, h2, _⟩ := hS.acc hT.fin ht w
  refine SpecM.enter Tryz.func122 rfl Tryz.ntmps122 rfl ?_
  intro w0 X0 own0
  refine T.seq <| T.region <| SL.mv rfl <| SL.mv rfl <| SL.w (op_callJ en103 rfl (vs := [_, _]) rfl (racc_spec hT hS) (by repeat constructor)) ?_
  rintro _ _ X1 ⟨_, rfl, hX1, i1, off1, e1, _, rfl, hS1, rfl, rfl⟩
  cases ha : (accM w st).1 with
  | true =>
    refine SL.v (op_not rfl) <| SL.nil <| T.condF rfl <| T.skip <| T.doneM0 [RdI rb v i1 off1 e1] rfl (List.Perm.refl _) ?_
    refine ⟨hX1, _, rfl, i1, off1, e1, _, rfl, hS1, ?_⟩
    cases st with
    | error x => cases ha
    | ok l =>
      cases hk : isT w l with
      | true => simp only [accM, expM, hk]; rfl
      | false => simp only [accM, hk] at ha; cases ha
  | false =>
    have hst : (accM w st).2 = st ∧ expM w st = failM 8 st := by
      cases st with
      | error x => exact ⟨rfl, rfl⟩
      | ok l =>
        cases hk : isT w l with
        | true => simp only [accM, hk] at ha; cases ha
        | false => simp only [accM, expM, hk]; exact ⟨rfl, rfl⟩
    rw [hst.1] at hS1
    refine SL.v (op_not rfl) <| SL.nil <| T.condT rfl <| T.region <| SL.mv rfl <| SL.w (op_callJ en51 rfl (vs := [_, _]) rfl (rfailR_spec (hT.mono hX1) hS1 (by decide)) (by repeat constructor)) ?_
    rintro _ _ X2 ⟨_, rfl, hX2, i2, off2, e2, _, rfl, hS2, rfl⟩
    refine SL.nil <| T.doneM0 [RdI rb v i2 off2 e2] rfl (List.Perm.refl _) ?_
    exact ⟨hX1.trans' hX2, _, rfl, i2, off2, e2, _, rfl, hS2, hst.2.symm⟩
theorem keyword_spec {s : ByteArray} : Spec Tryz.prog 150 [.string s] X fun u _ => u = .bool (decide (s ∈ keyws)) := by
  refine Spec.enter Tryz.func150 rfl Tryz.ntmps150 rfl ?_
  intro w0 hw0
  refine T.seq <| T.region <| SL.as rfl <| SL.nil <| T.seq <| T.seq <| T.region <| SL.w (op_callF en151 (vs := []) rfl (rkeyws_spec)) ?_
  rintro kv _ X1 ⟨rfl, hX1, hkv⟩
  have hkl : keyws.length = 20 := rfl
  obtain ⟨Ak, ck, rfl⟩ := hkv.form
  obtain ⟨bA, pre, rfl, hbA⟩ := hkv.blk (by omega)
  refine SL.v (op_lenS Tryz.underlying37 rfl) <| SL.v (op_move (v := .int .i64 ((0 : Nat) : Int)) rfl) <| SL.nil <| T.block <| T.loopW (fun m env own X' => ∃ q : Nat, m = keyws.length - q ∧ q ≤ keyws.length ∧ X1.le X' ∧ s ∉ keyws.take q ∧ env = [(0, .string s), (5, .slice (some ⟨bA, pre.length, none⟩) keyws.length ck), (6, .int .i64 (keyws.length : Int)), (7, .int .i64 (q : Int))] ∧ own = []) keyws.length ⟨0, rfl, by omega, PMap.le_refl _, by simp, rfl, rfl⟩ (by repeat (first | exact Sub.nil | refine Sub.cons rfl ?_)) ?_
  rintro m _ _ X2 ⟨q, rfl, hq, hX2, hn, rfl, rfl⟩
  rcases Nat.lt_or_ge q keyws.length with hql | hql
  · obtain ⟨x, hx⟩ : ∃ x, keyws[q]? = some x := ⟨_, List.getElem?_eq_getElem hql⟩
    have hta : keyws.take (q + 1) = keyws.take q ++ [x] := by rw [List.take_add_one, hx]; rfl
    refine T.seq <| T.region <| SL.v (op_lssT rfl rfl (by omega)) ?_
    refine SL.nil <| T.seq <| T.condT rfl <| T.skip <| T.seq <| T.block <| T.seq <| T.region <| SL.v (op_indexN Tryz.underlying37 ty9 rfl rfl (by omega)) ?_
    refine SL.v (op_loadX ty9 rfl (hbA.mono hX2) (str_read hx (by omega))) ?_
    refine SL.as rfl <| SL.nil <| T.seq <| T.region <| SL.mv rfl <| SL.mv rfl <| SL.v (op_eqlStrD (s := s) (s' := x) rfl rfl) ?_
    by_cases hsx : s = x
    · rw [decide_eq_true hsx]
      refine SL.nil <| T.condT rfl <| T.seq <| T.region <| SL.as rfl <| SL.nil <| T.ret1 rfl (ResIs.tmp rfl) ?_
      rw [decide_eq_true (by rw [hsx]; exact List.mem_of_getElem? hx)]
    · rw [decide_eq_false hsx]
      refine SL.nil <| T.condF rfl <| T.skip <| T.blk <| T.region <| SL.v (op_addN (q := 1) rfl rfl (by omega)) ?_
      refine SL.mv rfl <| SL.nil ?_
      exact T.backW (keyws.length - (q + 1)) (by omega) ⟨q + 1, rfl, by omega, hX2, by rw [hta]; simp [hn, hsx], rfl, rfl⟩ (by repeat (first | exact Sub.nil | refine Sub.cons rfl ?_))
  · rw [List.take_of_length_le hql] at hn
    refine T.seq <| T.region <| SL.v (op_lssF rfl rfl (by omega)) ?_
    refine SL.nil <| T.seq <| T.condF rfl ?_
    refine T.exit (T.exitCode (T.exitCut (T.exitBlk ?_)))
    refine T.seq <| T.region <| SL.as rfl <| SL.nil <| T.ret1 rfl (ResIs.tmp rfl) ?_
    rw [decide_eq_false hn]
theorem rnam_spec (hT : TksI X v ts) (hS : RdS ts st i off e) : SpecI Tryz.prog 123 [.pointer (some ⟨rb, 0, none⟩)] X ts rb v i off e fun u st' _ => u = .string (namM st).1 ∧ st' = (namM st).2 := by
  obtain ⟨t, ht⟩ := hS.tok
  refine SpecM.enter Tryz.func123 rfl Tryz.ntmps123 rfl ?_
  intro w0 X0 own0
  refine T.seq <| T.region <| SL.as rfl <| SL.nil <| T.seq <| T.region <| SL.mv rfl <| SL.w (op_callLend en50 (vs := [_]) rfl ((fun X1 h1 h2 => (rpeek_spec (hT.row.mono h1) hT.len (h2 (RdI rb v i off e) (by simp)) ht : Spec _ _ _ _ fun u _ => u = .agg (rcTi (pk e t)).toArray)))) ?_
  rintro _ _ _ ⟨rfl, rfl, rfl⟩
  generalize hpt : pk e t = q
  obtain ⟨k, x, n, o⟩ := q
  rw [show (rcTi ⟨k, x, n, o⟩).toArray = #[.int .i64 (k : Int), .string x, .int .i64 (n : Int), .int .i64 (o : Int)] from rfl]
  by_cases he : e = 0
  case neg =>
    obtain ⟨y, rfl⟩ : ∃ y, st = .error y := by
      obtain ⟨_, h2⟩ := hS
      cases st with
      | error y => exact ⟨y, rfl⟩
      | ok l => exact absurd h2.2.1 he
    refine SL.w (op_alloc z110) ?_
    rintro _ _ _ ⟨B3, rfl, rfl, rfl⟩
    refine SL.w (op_store ty110 rfl rfl (by repeat constructor) rfl rfl rfl) ?_
    rintro _ _ _ ⟨rfl, rfl⟩
    refine SL.nil <| T.seq <| T.seq <| T.region <| SL.mv rfl <| SL.v (op_nil rfl) <| SL.v (op_fieldAddr fa107_3 rfl) <| SL.v (op_load ty3 rfl (by repeat constructor) rfl) ?_
    refine SL.v (op_neqT rfl rfl (by omega)) ?_
    refine SL.nil <| T.condT rfl <| T.seq <| T.region <| SL.as rfl <| SL.nil <| T.drop B3 (by repeat constructor) ?_
    refine T.retM1 [RdI rb v i off e] rfl (ResIs.tmp rfl) (List.Perm.refl _) ?_
    exact ⟨PMap.le_refl _, _, rfl, i, off, e, _, rfl, hS, rfl, rfl⟩
  obtain ⟨l, rfl⟩ : ∃ l, st = .ok l := by
    obtain ⟨_, h2⟩ := hS
    cases st with
    | error x => obtain ⟨_, h3, h4⟩ := h2; exact absurd (h3.symm.trans he) h4
    | ok l => exact ⟨l, rfl⟩
  have hpt' : t = ⟨k, x, n, o⟩ := by rw [pk, if_pos he] at hpt; exact hpt
  have hl : l = ⟨k, x, n, o⟩ :: ts.drop (i + 1) := by
    rw [hS.2.2.2, drop_tok ht, hpt']
  by_cases hk : k = 1
  case neg =>
    have hm : namM (.ok l) = (⟨#[]⟩, failM 8 (.ok l)) := by
      subst hl
      simp only [namM, failM, nameT]
      rw [if_pos (.inl hk)]
      rfl
    refine SL.w (op_alloc z110) ?_
    rintro _ _ _ ⟨B3, rfl, rfl, rfl⟩
    refine SL.w (op_store ty110 rfl rfl (by repeat constructor) rfl rfl rfl) ?_
    rintro _ _ _ ⟨rfl, rfl⟩
    refine SL.nil <| T.seq <| T.seq <| T.region <| SL.mv rfl <| SL.v (op_nil rfl) <| SL.v (op_fieldAddr fa107_3 rfl) <| SL.v (op_load ty3 rfl (by repeat constructor) rfl) ?_
    refine SL.v (op_neqF rfl rfl (by omega)) ?_
    refine SL.nil <| T.condF rfl <| T.skip <| T.seq <| T.seq <| T.region <| SL.v (op_fieldAddr fa110_0 rfl) <| SL.v (op_load ty3 rfl (by repeat constructor) rfl) ?_
    refine SL.v (op_neqT rfl rfl (by omega)) ?_
    refine SL.mv rfl <| SL.skip rfl rfl ?_
    refine SL.skip rfl rfl ?_
    refine SL.skip rfl rfl ?_
    refine SL.v (op_pickT rfl rfl) <| SL.nil <| T.condT rfl <| T.seq <| T.region <| SL.mv rfl <| SL.w (op_callJ en51 rfl (vs := [_, _]) rfl (rfailR_spec hT hS (by decide)) (by repeat constructor)) ?_
    rintro _ _ X2 ⟨_, rfl, hX2, i2, off2, e2, _, rfl, hS2, rfl⟩
    refine SL.nil <| T.seq <| T.region <| SL.as rfl <| SL.nil <| T.drop B3 (by repeat constructor) ?_
    refine T.retM1 [RdI rb v i2 off2 e2] rfl (ResIs.tmp rfl) (List.Perm.refl _) ?_
    exact ⟨hX2, _, rfl, i2, off2, e2, _, rfl, hS2, by rw [hm], by rw [hm]⟩
  subst hk
  have hlt : i + 1 < ts.length := next_lt hT.fin ht (by rw [hpt']; exact fun h => by cases h)
  refine SL.w (op_alloc z110) ?_
  rintro _ _ _ ⟨B3, rfl, rfl, rfl⟩
  refine SL.w (op_store ty110 rfl rfl (by repeat constructor) rfl rfl rfl) ?_
  rintro _ _ _ ⟨rfl, rfl⟩
  refine SL.nil <| T.seq <| T.seq <| T.region <| SL.mv rfl <| SL.v (op_nil rfl) <| SL.v (op_fieldAddr fa107_3 rfl) <| SL.v (op_load ty3 rfl (by repeat constructor) rfl) ?_
  refine SL.v (op_neqF rfl rfl (by omega)) ?_
  refine SL.nil <| T.condF rfl <| T.skip <| T.seq <| T.seq <| T.region <| SL.v (op_fieldAddr fa110_0 rfl) <| SL.v (op_load ty3 rfl (by repeat constructor) rfl) ?_
  refine SL.v (op_neqF rfl rfl (by omega)) ?_
  refine SL.mv rfl <| SL.v (op_fieldAddr fa110_1 rfl) <| SL.v (op_load ty9 rfl (by repeat constructor) rfl) ?_
  refine SL.w (op_callF en150 (vs := [_]) rfl (keyword_spec)) ?_
  rintro _ _ X1 ⟨rfl, hX1, rfl⟩
  have hT := hT.mono hX1
  by_cases h3 : x ∈ keyws
  · have hm : namM (.ok l) = (⟨#[]⟩, failM 8 (.ok l)) := by
      subst hl
      simp only [namM, failM, nameT]
      rw [if_pos (.inr h3)]
      rfl
    rw [decide_eq_true h3]
    refine SL.v (op_pickF rfl rfl) <| SL.nil <| T.condT rfl <| T.seq <| T.region <| SL.mv rfl <| SL.w (op_callJ en51 rfl (vs := [_, _]) rfl (rfailR_spec hT hS (by decide)) (by repeat constructor)) ?_
    rintro _ _ X3 ⟨_, rfl, hX3, i2, off2, e2, _, rfl, hS2, rfl⟩
    refine SL.nil <| T.seq <| T.region <| SL.as rfl <| SL.nil <| T.drop B3 (by repeat constructor) ?_
    refine T.retM1 [RdI rb v i2 off2 e2] rfl (ResIs.tmp rfl) (List.Perm.refl _) ?_
    exact ⟨hX1.trans' hX3, _, rfl, i2, off2, e2, _, rfl, hS2, by rw [hm], by rw [hm]⟩
  rw [decide_eq_false h3]
  refine SL.v (op_pickF rfl rfl) <| SL.nil <| T.condF rfl <| T.skip <| T.seq <| T.seq <| T.region <| SL.v (op_fieldAddr fa110_1 rfl) <| SL.v (op_load ty9 rfl (by repeat constructor) rfl) ?_
  refine SL.w (op_callF en124 (vs := [_]) rfl (rvalid_spec)) ?_
  rintro _ _ X3 ⟨rfl, hX3, rfl⟩
  have hT := hT.mono hX3
  by_cases h4 : validS x
  case neg =>
    have hm : namM (.ok l) = (⟨#[]⟩, failM 9 (.ok l)) := by
      subst hl
      simp only [namM, failM, nameT]
      rw [if_neg (fun h => h.elim (fun h => h rfl) h3), if_pos h4]
      rfl
    rw [decide_eq_false h4]
    refine SL.v (op_not rfl) <| SL.nil <| T.condT rfl <| T.seq <| T.region <| SL.mv rfl <| SL.w (op_callJ en51 rfl (vs := [_, _]) rfl (rfailR_spec hT hS (by decide)) (by repeat constructor)) ?_
    rintro _ _ X4 ⟨_, rfl, hX4, i2, off2, e2, _, rfl, hS2, rfl⟩
    refine SL.nil <| T.seq <| T.region <| SL.as rfl <| SL.nil <| T.drop B3 (by repeat constructor) ?_
    refine T.retM1 [RdI rb v i2 off2 e2] rfl (ResIs.tmp rfl) (List.Perm.refl _) ?_
    exact ⟨(hX1.trans' hX3).trans' hX4, _, rfl, i2, off2, e2, _, rfl, hS2, by rw [hm], by rw [hm]⟩
  have hm : namM (.ok l) = (x, .ok (ts.drop (i + 1))) := by
    subst hl
    simp only [namM, nameT]
    rw [if_neg (fun h => h.elim (fun h => h rfl) h3), if_neg (fun h => h h4)]
  have hn := rnextM_spec (rb := rb) (off := off) (e := e) hT.row hT.len ht
  rw [hpt, if_pos (fun h => by cases h)] at hn
  rw [decide_eq_true h4]
  refine SL.v (op_not rfl) <| SL.nil <| T.condF rfl <| T.skip <| T.seq <| T.region <| SL.mv rfl <| T.dropAt B3 (by repeat constructor) ?_
  refine SL.w (op_callM en143 (vs := [_]) rfl (hn) rfl) ?_
  rintro _ _ X5 ⟨_, rfl, hX5, rfl, rfl⟩
  refine SL.v (op_field1 fv110_1 rfl rfl) <| SL.as rfl <| SL.nil <| T.retM1 [RdI rb v (i + 1) off e] rfl (ResIs.tmp rfl) (List.Perm.refl _) ?_
  exact ⟨(hX1.trans' hX3).trans' hX5, _, rfl, i + 1, off, e, .ok (ts.drop (i + 1)), rfl, ⟨hlt, hS.2.1, hS.2.2.1, rfl⟩, by rw [hm]; rfl, by rw [hm]⟩
end
end Go.Proofs.YtnabbnhefjfegaaGreatDoor
namespace Go.Proofs.YtnabbnhefjfegaaGreatDoor
section
set_option maxRecDepth 100000
theorem fv110_2 : FVal Tryz.prog 110 2 2 false 1 := ⟨⟨_, _, Tryz.underlying110, rfl, rfl, ty3⟩⟩
end
open Go.RowKit
section
variable {X : PMap} {v : Value} {ts : List Tk} {rb i off : Nat} {e : Int}
theorem rnum_spec {l : List Tk} (hT : TksI X v ts) (hS : RdS ts (.ok l) i off e) {t : Tk} {r : List Tk} (hl : l = t :: r) (hk : t.kind = 2) : SpecI Tryz.prog 199 [.pointer (some ⟨rb, 0, none⟩), .int .i64 0, .int .i64 999999] X ts rb v i off e fun u st' _ => u = .int .i64 (t.num : Int) ∧ st' = .ok r := by
  obtain ⟨t', ht⟩ := hS.tok
  obtain ⟨h1, rfl, rfl, h4⟩ := hS
  obtain ⟨rfl, rfl⟩ : t' = t ∧ ts.drop (i + 1) = r := by
    rw [hl, drop_tok ht] at h4
    cases h4; exact ⟨rfl, rfl⟩
  have hlt := next_lt hT.fin ht (by rw [hk]; decide)
  have hn := hT.num t' (List.mem_of_getElem? ht) hk
  have hnx := rnextM_spec (rb := rb) (off := 0) (e := 0) hT.row hT.len ht
  rw [pk, if_pos rfl, if_pos (by rw [hk]; decide)] at hnx
  refine SpecM.enter Tryz.func199 rfl Tryz.ntmps199 rfl ?_
  intro w0 X0 own0
  refine T.seq <| T.region <| SL.v (op_assign (v := .int .i64 ((0 : Nat) : Int)) rfl) <| SL.nil <| T.seq <| T.region <| SL.mv rfl <| SL.w (op_callLend en50 (vs := [_]) rfl ((fun X1 h1 h2 => (rpeek_spec (hT.row.mono h1) hT.len (h2 (RdI rb v i 0 0) (by simp)) ht : Spec _ _ _ _ fun u _ => u = .agg (rcTi (pk 0 t')).toArray)))) ?_
  rintro _ _ _ ⟨rfl, rfl, rfl⟩
  rw [pk, if_pos rfl, show (rcTi t').toArray = #[.int .i64 (t'.kind : Int), .string t'.text, .int .i64 (t'.num : Int), .int .i64 (t'.off : Int)] from rfl]
  refine SL.w (op_alloc z110) ?_
  rintro _ _ _ ⟨B7, rfl, rfl, rfl⟩
  refine SL.w (op_store ty110 rfl rfl (by repeat constructor) rfl rfl rfl) ?_
  rintro _ _ _ ⟨rfl, rfl⟩
  refine SL.nil <| T.seq <| T.seq <| T.region <| SL.mv rfl <| SL.v (op_nil rfl) <| SL.v (op_fieldAddr fa107_3 rfl) <| SL.v (op_load ty3 rfl (by repeat constructor) rfl) ?_
  refine SL.v (op_neqF rfl rfl (by omega)) ?_
  refine SL.nil <| T.condF rfl <| T.skip <| T.seq <| T.seq <| T.region <| SL.v (op_fieldAddr fa110_0 rfl) <| SL.v (op_load ty3 rfl (by repeat constructor) rfl) ?_
  refine SL.v (op_neqF rfl rfl (by omega)) ?_
  refine SL.nil <| T.condF rfl <| T.skip <| T.seq <| T.seq <| T.region <| SL.v (op_fieldAddr fa110_2 rfl) <| SL.v (op_load ty3 rfl (by repeat constructor) rfl) ?_
  refine SL.mv rfl <| SL.v (op_lssF rfl rfl (by omega)) ?_
  refine SL.mv rfl <| SL.v (op_fieldAddr fa110_2 rfl) <| SL.v (op_load ty3 rfl (by repeat constructor) rfl) ?_
  refine SL.mv rfl <| SL.v (op_gtrF rfl rfl (by omega)) ?_
  refine SL.v (op_pickF rfl rfl) <| SL.nil <| T.condF rfl <| T.skip <| T.seq <| T.region <| SL.mv rfl <| T.dropAt B7 (by repeat constructor) ?_
  refine SL.w (op_callM en143 (vs := [_]) rfl (hnx) rfl) ?_
  rintro _ _ X5 ⟨_, rfl, hX5, rfl, rfl⟩
  refine SL.v (op_field1 fv110_2 rfl rfl) <| SL.as rfl <| SL.nil <| T.retM1 [RdI rb v (i + 1) 0 0] rfl (ResIs.tmp rfl) (List.Perm.refl _) ?_
  exact ⟨hX5, _, rfl, i + 1, 0, 0, .ok (ts.drop (i + 1)), rfl, ⟨hlt, rfl, rfl, rfl⟩, rfl, rfl⟩
end
end Go.Proofs.YtnabbnhefjfegaaGreatDoor
namespace Go.Proofs.YtnabbnhefjfegaaGreatDoor
section
set_option maxRecDepth 100000
theorem en104 : Enters Tryz.prog 104 := enters_mk Tryz.func104 (by kernel_rfl) rfl
theorem en141 : Enters Tryz.prog 141 := enters_mk Tryz.func141 (by kernel_rfl) rfl
theorem en155 : Enters Tryz.prog 155 := enters_mk Tryz.func155 (by kernel_rfl) rfl
theorem en193 : Enters Tryz.prog 193 := enters_mk Tryz.func193 (by kernel_rfl) rfl
end
open Go.RowKit
theorem rtwo_spec {X : PMap} {op : Nat} {a b : Ex} {r r' : Row4} (ha : ExR .i64 X a r) (hb : ExR .i64 X b r') : Spec Tryz.prog 104 [.int .i64 (op : Int), .agg #[r.1, r.2.1, r.2.2.1, r.2.2.2], .agg #[r'.1, r'.2.1, r'.2.2.1, r'.2.2.2]] X fun u X' => ∃ r2 : Row4, u = .agg #[r2.1, r2.2.1, r2.2.2.1, r2.2.2.2] ∧ ExR .i64 X' (two op a b) r2 := by
  refine Spec.enter Tryz.func104 rfl Tryz.ntmps104 rfl ?_
  intro w0 hw0
  refine T.seq <| T.region <| SL.w (op_box rfl) ?_
  rintro _ _ _ ⟨B4, rfl, rfl, rfl⟩
  refine SL.w (op_box rfl) ?_
  rintro _ _ _ ⟨B5, rfl, rfl, rfl⟩
  refine SL.w (op_alloc z45) ?_
  rintro _ _ _ ⟨B6, rfl, rfl, rfl⟩
  refine SL.nil <| T.seq <| T.region <| SL.mv rfl <| SL.v (op_load ty45 rfl (by repeat constructor) rfl) ?_
  refine SL.v (op_load ty45 rfl (by repeat constructor) rfl) ?_
  refine SL.w (op_buildSlice Tryz.underlying43 bs45 (qs := [(0, _), (1, _)]) rfl rfl rfl rfl rfl) ?_
  rintro _ _ _ ⟨B10, rfl, rfl, rfl⟩
  refine SL.v (op_build st45 (qs := [(0, _), (3, _)]) rfl rfl) <| SL.w (op_store ty45 rfl rfl (by repeat constructor) rfl rfl rfl) ?_
  rintro _ _ _ ⟨rfl, rfl⟩
  refine SL.nil <| T.pub B10 (by repeat constructor) ?_
  intro X1 hX1 hB10 _
  refine T.ret1 rfl (ResIs.cell rfl ty45 (by repeat constructor) rfl) ?_
  exact ⟨(_, _, _, _), rfl, .mk (.inl ⟨rfl, _, _, rfl⟩) (rows := [r, r']) (.inr ⟨by simp, B10, 2, [], rfl, hB10, by simp, by decide⟩) rfl fun i x y hx hy => by
    match i with
    | 0 => cases hx; cases hy; exact ha.mono hX1
    | 1 => cases hx; cases hy; exact hb.mono hX1
    | i + 2 => cases hx⟩
/-- A function of the specification's parser reads as p does. -/
def SpecQ (P : Program) (g : FuncId) (p : ParP) (f : Nat) : Prop :=
  ∀ {X : PMap} {v : Value} {ts : List Tk} {rb i off : Nat} {e : Int} {st : RSt}, TksI X v ts → RdS ts st i off e → (∀ l, st = .ok l → l.length < f) →
    SpecI P g [.pointer (some ⟨rb, 0, none⟩)] X ts rb v i off e fun u st' X' => ∃ (ex : Ex) (r : Row4), u = .agg #[r.1, r.2.1, r.2.2.1, r.2.2.2] ∧ ExR .i64 X' ex r ∧ Out (runM p st) st' ex ∧ Sh st st'
abbrev I0 (b : Nat) : Ow := ⟨b, [.int .i64 0, .int .i64 0, .slice none 0 0, .slice none 0 0], 45, 4⟩
abbrev IOw (b : Nat) (r : Row4) : Ow := ⟨b, [r.1, r.2.1, r.2.2.1, r.2.2.2], 45, 4⟩
theorem rsum_spec {f : Nat} {p : ParP} (hg : SpecQ Tryz.prog 193 p f) : SpecQ Tryz.prog 181 (leftP wPlus 16 p) f := by
  intro X v ts rb i off e st hT hS hf
  refine SpecM.enter Tryz.func181 rfl Tryz.ntmps181 rfl ?_
  intro w0 X0 own0
  refine T.seq <| T.region <| SL.w (op_alloc z45) ?_
  rintro _ _ _ ⟨B2, rfl, rfl, rfl⟩
  refine SL.nil <| T.seq <| T.region <| SL.mv rfl <| SL.w (op_callJ en193 rfl (vs := [_]) rfl (hg hT hS hf) (by repeat constructor)) ?_
  rintro _ _ X1 ⟨_, rfl, hX1, i1, off1, e1, sa, rfl, hS1, x0, q0, rfl, hx0, hO0, hsh0⟩
  obtain ⟨o0, n0, a0, b0, l0, c0, m0, d0, rfl⟩ := hx0.form
  refine SL.w (op_alloc z45) ?_
  rintro _ _ _ ⟨B3, rfl, rfl, rfl⟩
  refine SL.w (op_store ty45 rfl rfl (by repeat constructor) rfl rfl rfl) ?_
  rintro _ _ _ ⟨rfl, rfl⟩
  refine SL.nil <| T.seq <| T.block <| T.loopW (fun m env own X' => ∃ (x : Ex) (r : Row4) (i off : Nat) (e : Int) (sa : RSt) (k : Nat), m = lenS sa ∧ X1.le X' ∧ RdS ts sa i off e ∧ Sh st sa ∧ ExR .i64 X' x r ∧ lenS sa ≤ k ∧ runM (leftP wPlus 16 p) st = runM (fun l => leftG wPlus 16 p k x l) sa ∧ env = [(0, .pointer (some ⟨rb, 0, none⟩)), (2, .pointer (some ⟨B2, 0, none⟩)), (3, .pointer (some ⟨B3, 0, none⟩))] ∧ own = IOw B3 r :: I0 B2 :: RdI rb v i off e :: own0) (lenS sa) ⟨x0, (_, _, _, _), i1, off1, e1, sa, lenS sa, rfl, PMap.le_refl _, hS1, hsh0, hx0, Nat.le_refl _, leftP_start hO0, rfl, rfl⟩ (by repeat (first | exact Sub.nil | refine Sub.cons rfl ?_)) ?_
  rintro m _ _ X2 ⟨x, q, i2, off2, e2, sb, k, rfl, hX2, hS2, hsh2, hx, hk, heq, rfl, rfl⟩
  obtain ⟨o1, n1, a1, b1, l1, c1, m1, d1, rfl⟩ := hx.form
  have hT := (hT.mono hX1).mono hX2
  refine T.seq <| T.seq <| T.region <| SL.mv rfl <| SL.w (op_callJ en103 rfl (vs := [_, _]) rfl (racc_spec hT hS2) (by repeat constructor)) ?_
  rintro _ _ X3 ⟨_, rfl, hX3, i3, off3, e3, _, rfl, hS3, rfl, rfl⟩
  have hT := hT.mono hX3
  cases ha : (accM wPlus sb).1 with
  | true =>
    have hdec := accM_dec ha
    obtain ⟨k, rfl⟩ : ∃ q, k = q + 1 := ⟨k - 1, by omega⟩
    have hsh3 := hsh2.trans (accM_sh (w := wPlus))
    refine SL.nil <| T.condT rfl <| T.skip <| T.block <| T.drawG (own0 := [_, _]) (by kernel_rfl) 4 [.t 0, .t 1, .r 2, .r 3] (by kernel_rfl) ?_
    refine SD.take rfl panicBody (op_load ty45 rfl (by repeat constructor) rfl) rfl rfl ?_
    refine SD.take rfl panicBody (op_move rfl) rfl rfl ?_
    refine SD.runK rfl (op_callJ en193 rfl (vs := [_]) rfl (hg hT hS3 (hsh3.lt hf)) (.there (.there .here))) (by rintro _ _ _ ⟨_, rfl, hX4, _⟩; exact ⟨keep2, hX4⟩) rfl rfl ?_
    rintro _ _ X4 ⟨_, rfl, hX4, i4, off4, e4, sc, rfl, hS4, y, q4, rfl, hy, hO4, hsh4⟩
    obtain ⟨o4, n4, a4, b4, l4, c4, m4, d4, rfl⟩ := hy.form
    have hc := rtwo_spec (op := 16) ((hx.mono hX3).mono hX4) hy
    try simp only at hc
    refine SD.run rfl (op_callF en104 (vs := [_, _, _]) rfl (hc)) rfl rfl ?_
    rintro _ _ X5 ⟨rfl, hX5, q5, rfl, hq5⟩
    refine SD.nil ?_
    show SL _ _ _ _ _ _ _ [_] _ _ _
    obtain ⟨o5, n5, a5, b5, l5, c5, m5, d5, rfl⟩ := hq5.form
    have hd4 : lenS sc ≤ lenS (accM wPlus sb).2 := hsh4.len
    refine SL.w (op_store ty45 rfl rfl (by repeat constructor) rfl rfl rfl) ?_
    rintro _ _ _ ⟨rfl, rfl⟩
    refine SL.nil <| T.blk ?_
    exact T.backW (lenS sc) (by omega) ⟨two 16 x y, (_, _, _, _), i4, off4, e4, sc, k, rfl, ((hX2.trans' hX3).trans' hX4).trans' hX5, hS4, hsh3.trans hsh4, hq5, by omega, by rw [heq]; exact leftG_more ha hO4, rfl, rfl⟩ (by repeat (first | exact Sub.nil | refine Sub.cons rfl ?_))
  | false =>
    rw [accM_same ha] at hS3
    refine SL.nil <| T.condF rfl ?_
    refine T.exit (T.exitCode (T.exitCut (T.exitBlk ?_)))
    refine T.seq <| T.region <| SL.v (op_load ty45 rfl (by repeat constructor) rfl) ?_
    refine SL.w (op_store ty45 rfl rfl (by repeat constructor) rfl rfl rfl) ?_
    rintro _ _ _ ⟨rfl, rfl⟩
    refine SL.nil <| T.drop B3 (by repeat constructor) ?_
    refine T.retM1S [_] _ rfl (ResIs.cell rfl ty45 (by repeat constructor) rfl) (List.sublist_cons_self _ _) (List.Perm.refl _) ?_
    exact ⟨(hX1.trans' hX2).trans' hX3, _, rfl, i3, off3, e3, sb, rfl, hS3, x, (_, _, _, _), rfl, hx.mono hX3, by rw [heq]; exact leftG_halt ha, hsh2⟩
theorem rconj_spec {f : Nat} {p : ParP} (hg : SpecQ Tryz.prog 155 p f) : SpecQ Tryz.prog 141 (leftP wAnd 8 p) f := by
  intro X v ts rb i off e st hT hS hf
  refine SpecM.enter Tryz.func141 rfl Tryz.ntmps141 rfl ?_
  intro w0 X0 own0
  refine T.seq <| T.region <| SL.w (op_alloc z45) ?_
  rintro _ _ _ ⟨B2, rfl, rfl, rfl⟩
  refine SL.nil <| T.seq <| T.region <| SL.mv rfl <| SL.w (op_callJ en155 rfl (vs := [_]) rfl (hg hT hS hf) (by repeat constructor)) ?_
  rintro _ _ X1 ⟨_, rfl, hX1, i1, off1, e1, sa, rfl, hS1, x0, q0, rfl, hx0, hO0, hsh0⟩
  obtain ⟨o0, n0, a0, b0, l0, c0, m0, d0, rfl⟩ := hx0.form
  refine SL.w (op_alloc z45) ?_
  rintro _ _ _ ⟨B3, rfl, rfl, rfl⟩
  refine SL.w (op_store ty45 rfl rfl (by repeat constructor) rfl rfl rfl) ?_
  rintro _ _ _ ⟨rfl, rfl⟩
  refine SL.nil <| T.seq <| T.block <| T.loopW (fun m env own X' => ∃ (x : Ex) (r : Row4) (i off : Nat) (e : Int) (sa : RSt) (k : Nat), m = lenS sa ∧ X1.le X' ∧ RdS ts sa i off e ∧ Sh st sa ∧ ExR .i64 X' x r ∧ lenS sa ≤ k ∧ runM (leftP wAnd 8 p) st = runM (fun l => leftG wAnd 8 p k x l) sa ∧ env = [(0, .pointer (some ⟨rb, 0, none⟩)), (2, .pointer (some ⟨B2, 0, none⟩)), (3, .pointer (some ⟨B3, 0, none⟩))] ∧ own = IOw B3 r :: I0 B2 :: RdI rb v i off e :: own0) (lenS sa) ⟨x0, (_, _, _, _), i1, off1, e1, sa, lenS sa, rfl, PMap.le_refl _, hS1, hsh0, hx0, Nat.le_refl _, leftP_start hO0, rfl, rfl⟩ (by repeat (first | exact Sub.nil | refine Sub.cons rfl ?_)) ?_
  rintro m _ _ X2 ⟨x, q, i2, off2, e2, sb, k, rfl, hX2, hS2, hsh2, hx, hk, heq, rfl, rfl⟩
  obtain ⟨o1, n1, a1, b1, l1, c1, m1, d1, rfl⟩ := hx.form
  have hT := (hT.mono hX1).mono hX2
  refine T.seq <| T.seq <| T.region <| SL.mv rfl <| SL.w (op_callJ en103 rfl (vs := [_, _]) rfl (racc_spec hT hS2) (by repeat constructor)) ?_
  rintro _ _ X3 ⟨_, rfl, hX3, i3, off3, e3, _, rfl, hS3, rfl, rfl⟩
  have hT := hT.mono hX3
  cases ha : (accM wAnd sb).1 with
  | true =>
    have hdec := accM_dec ha
    obtain ⟨k, rfl⟩ : ∃ q, k = q + 1 := ⟨k - 1, by omega⟩
    have hsh3 := hsh2.trans (accM_sh (w := wAnd))
    refine SL.nil <| T.condT rfl <| T.skip <| T.block <| T.drawG (own0 := [_, _]) (by kernel_rfl) 4 [.t 0, .t 1, .r 2, .r 3] (by kernel_rfl) ?_
    refine SD.take rfl panicBody (op_load ty45 rfl (by repeat constructor) rfl) rfl rfl ?_
    refine SD.take rfl panicBody (op_move rfl) rfl rfl ?_
    refine SD.runK rfl (op_callJ en155 rfl (vs := [_]) rfl (hg hT hS3 (hsh3.lt hf)) (.there (.there .here))) (by rintro _ _ _ ⟨_, rfl, hX4, _⟩; exact ⟨keep2, hX4⟩) rfl rfl ?_
    rintro _ _ X4 ⟨_, rfl, hX4, i4, off4, e4, sc, rfl, hS4, y, q4, rfl, hy, hO4, hsh4⟩
    obtain ⟨o4, n4, a4, b4, l4, c4, m4, d4, rfl⟩ := hy.form
    have hc := rtwo_spec (op := 8) ((hx.mono hX3).mono hX4) hy
    try simp only at hc
    refine SD.run rfl (op_callF en104 (vs := [_, _, _]) rfl (hc)) rfl rfl ?_
    rintro _ _ X5 ⟨rfl, hX5, q5, rfl, hq5⟩
    refine SD.nil ?_
    show SL _ _ _ _ _ _ _ [_] _ _ _
    obtain ⟨o5, n5, a5, b5, l5, c5, m5, d5, rfl⟩ := hq5.form
    have hd4 : lenS sc ≤ lenS (accM wAnd sb).2 := hsh4.len
    refine SL.w (op_store ty45 rfl rfl (by repeat constructor) rfl rfl rfl) ?_
    rintro _ _ _ ⟨rfl, rfl⟩
    refine SL.nil <| T.blk ?_
    exact T.backW (lenS sc) (by omega) ⟨two 8 x y, (_, _, _, _), i4, off4, e4, sc, k, rfl, ((hX2.trans' hX3).trans' hX4).trans' hX5, hS4, hsh3.trans hsh4, hq5, by omega, by rw [heq]; exact leftG_more ha hO4, rfl, rfl⟩ (by repeat (first | exact Sub.nil | refine Sub.cons rfl ?_))
  | false =>
    rw [accM_same ha] at hS3
    refine SL.nil <| T.condF rfl ?_
    refine T.exit (T.exitCode (T.exitCut (T.exitBlk ?_)))
    refine T.seq <| T.region <| SL.v (op_load ty45 rfl (by repeat constructor) rfl) ?_
    refine SL.w (op_store ty45 rfl rfl (by repeat constructor) rfl rfl rfl) ?_
    rintro _ _ _ ⟨rfl, rfl⟩
    refine SL.nil <| T.drop B3 (by repeat constructor) ?_
    refine T.retM1S [_] _ rfl (ResIs.cell rfl ty45 (by repeat constructor) rfl) (List.sublist_cons_self _ _) (List.Perm.refl _) ?_
    exact ⟨(hX1.trans' hX2).trans' hX3, _, rfl, i3, off3, e3, sb, rfl, hS3, x, (_, _, _, _), rfl, hx.mono hX3, by rw [heq]; exact leftG_halt ha, hsh2⟩
theorem rdisj_spec {f : Nat} {p : ParP} (hg : SpecQ Tryz.prog 141 p f) : SpecQ Tryz.prog 102 (leftP wOr 9 p) f := by
  intro X v ts rb i off e st hT hS hf
  refine SpecM.enter Tryz.func102 rfl Tryz.ntmps102 rfl ?_
  intro w0 X0 own0
  refine T.seq <| T.region <| SL.w (op_alloc z45) ?_
  rintro _ _ _ ⟨B2, rfl, rfl, rfl⟩
  refine SL.nil <| T.seq <| T.region <| SL.mv rfl <| SL.w (op_callJ en141 rfl (vs := [_]) rfl (hg hT hS hf) (by repeat constructor)) ?_
  rintro _ _ X1 ⟨_, rfl, hX1, i1, off1, e1, sa, rfl, hS1, x0, q0, rfl, hx0, hO0, hsh0⟩
  obtain ⟨o0, n0, a0, b0, l0, c0, m0, d0, rfl⟩ := hx0.form
  refine SL.w (op_alloc z45) ?_
  rintro _ _ _ ⟨B3, rfl, rfl, rfl⟩
  refine SL.w (op_store ty45 rfl rfl (by repeat constructor) rfl rfl rfl) ?_
  rintro _ _ _ ⟨rfl, rfl⟩
  refine SL.nil <| T.seq <| T.block <| T.loopW (fun m env own X' => ∃ (x : Ex) (r : Row4) (i off : Nat) (e : Int) (sa : RSt) (k : Nat), m = lenS sa ∧ X1.le X' ∧ RdS ts sa i off e ∧ Sh st sa ∧ ExR .i64 X' x r ∧ lenS sa ≤ k ∧ runM (leftP wOr 9 p) st = runM (fun l => leftG wOr 9 p k x l) sa ∧ env = [(0, .pointer (some ⟨rb, 0, none⟩)), (2, .pointer (some ⟨B2, 0, none⟩)), (3, .pointer (some ⟨B3, 0, none⟩))] ∧ own = IOw B3 r :: I0 B2 :: RdI rb v i off e :: own0) (lenS sa) ⟨x0, (_, _, _, _), i1, off1, e1, sa, lenS sa, rfl, PMap.le_refl _, hS1, hsh0, hx0, Nat.le_refl _, leftP_start hO0, rfl, rfl⟩ (by repeat (first | exact Sub.nil | refine Sub.cons rfl ?_)) ?_
  rintro m _ _ X2 ⟨x, q, i2, off2, e2, sb, k, rfl, hX2, hS2, hsh2, hx, hk, heq, rfl, rfl⟩
  obtain ⟨o1, n1, a1, b1, l1, c1, m1, d1, rfl⟩ := hx.form
  have hT := (hT.mono hX1).mono hX2
  refine T.seq <| T.seq <| T.region <| SL.mv rfl <| SL.w (op_callJ en103 rfl (vs := [_, _]) rfl (racc_spec hT hS2) (by repeat constructor)) ?_
  rintro _ _ X3 ⟨_, rfl, hX3, i3, off3, e3, _, rfl, hS3, rfl, rfl⟩
  have hT := hT.mono hX3
  cases ha : (accM wOr sb).1 with
  | true =>
    have hdec := accM_dec ha
    obtain ⟨k, rfl⟩ : ∃ q, k = q + 1 := ⟨k - 1, by omega⟩
    have hsh3 := hsh2.trans (accM_sh (w := wOr))
    refine SL.nil <| T.condT rfl <| T.skip <| T.block <| T.drawG (own0 := [_, _]) (by kernel_rfl) 4 [.t 0, .t 1, .r 2, .r 3] (by kernel_rfl) ?_
    refine SD.take rfl panicBody (op_load ty45 rfl (by repeat constructor) rfl) rfl rfl ?_
    refine SD.take rfl panicBody (op_move rfl) rfl rfl ?_
    refine SD.runK rfl (op_callJ en141 rfl (vs := [_]) rfl (hg hT hS3 (hsh3.lt hf)) (.there (.there .here))) (by rintro _ _ _ ⟨_, rfl, hX4, _⟩; exact ⟨keep2, hX4⟩) rfl rfl ?_
    rintro _ _ X4 ⟨_, rfl, hX4, i4, off4, e4, sc, rfl, hS4, y, q4, rfl, hy, hO4, hsh4⟩
    obtain ⟨o4, n4, a4, b4, l4, c4, m4, d4, rfl⟩ := hy.form
    have hc := rtwo_spec (op := 9) ((hx.mono hX3).mono hX4) hy
    try simp only at hc
    refine SD.run rfl (op_callF en104 (vs := [_, _, _]) rfl (hc)) rfl rfl ?_
    rintro _ _ X5 ⟨rfl, hX5, q5, rfl, hq5⟩
    refine SD.nil ?_
    show SL _ _ _ _ _ _ _ [_] _ _ _
    obtain ⟨o5, n5, a5, b5, l5, c5, m5, d5, rfl⟩ := hq5.form
    have hd4 : lenS sc ≤ lenS (accM wOr sb).2 := hsh4.len
    refine SL.w (op_store ty45 rfl rfl (by repeat constructor) rfl rfl rfl) ?_
    rintro _ _ _ ⟨rfl, rfl⟩
    refine SL.nil <| T.blk ?_
    exact T.backW (lenS sc) (by omega) ⟨two 9 x y, (_, _, _, _), i4, off4, e4, sc, k, rfl, ((hX2.trans' hX3).trans' hX4).trans' hX5, hS4, hsh3.trans hsh4, hq5, by omega, by rw [heq]; exact leftG_more ha hO4, rfl, rfl⟩ (by repeat (first | exact Sub.nil | refine Sub.cons rfl ?_))
  | false =>
    rw [accM_same ha] at hS3
    refine SL.nil <| T.condF rfl ?_
    refine T.exit (T.exitCode (T.exitCut (T.exitBlk ?_)))
    refine T.seq <| T.region <| SL.v (op_load ty45 rfl (by repeat constructor) rfl) ?_
    refine SL.w (op_store ty45 rfl rfl (by repeat constructor) rfl rfl rfl) ?_
    rintro _ _ _ ⟨rfl, rfl⟩
    refine SL.nil <| T.drop B3 (by repeat constructor) ?_
    refine T.retM1S [_] _ rfl (ResIs.cell rfl ty45 (by repeat constructor) rfl) (List.sublist_cons_self _ _) (List.Perm.refl _) ?_
    exact ⟨(hX1.trans' hX2).trans' hX3, _, rfl, i3, off3, e3, sb, rfl, hS3, x, (_, _, _, _), rfl, hx.mono hX3, by rw [heq]; exact leftG_halt ha, hsh2⟩
end Go.Proofs.YtnabbnhefjfegaaGreatDoor
namespace Go.Proofs.YtnabbnhefjfegaaGreatDoor
section
set_option maxRecDepth 100000
theorem en181 : Enters Tryz.prog 181 := enters_mk Tryz.func181 (by kernel_rfl) rfl
end
open Go.RowKit
def cmpW : List ByteArray := cmps.map (·.1)
theorem cmpW_at {q : Nat} {w : ByteArray} (h : cmpW[q]? = some w) : cmps[q]? = some (w, 11 + q) := by
  match q with
  | 0 => cases h; rfl
  | 1 => cases h; rfl
  | 2 => cases h; rfl
  | 3 => cases h; rfl
  | 4 => cases h; rfl
  | q + 5 => simp [cmpW, cmps] at h
theorem rcomparison_spec {f : Nat} {p : ParP} (hp : SpecQ Tryz.prog 193 p f) : SpecQ Tryz.prog 163 (cmpP p) f := by
  intro X v ts rb i off e st hT hS hf
  have h5 : cmpW.length = 5 := rfl
  refine SpecM.enter Tryz.func163 rfl Tryz.ntmps163 rfl ?_
  intro w0 X0 own0
  refine T.seq <| T.region <| SL.w (op_alloc z45) ?_
  rintro _ _ _ ⟨B2, rfl, rfl, rfl⟩
  refine SL.nil <| T.seq <| T.region <| SL.mv rfl <| SL.w (op_callJ en181 rfl (vs := [_]) rfl (rsum_spec hp hT hS hf) (by repeat constructor)) ?_
  rintro _ _ X1 ⟨_, rfl, hX1, i1, off1, e1, sa, rfl, hS1, x, q, rfl, hx, hO, hsh⟩
  obtain ⟨o9, n9, a9, b9, l9, c9, m9, d9, rfl⟩ := hx.form
  have hT := hT.mono hX1
  have hrun := cmpP_run hO
  refine SL.w (op_alloc z45) ?_
  rintro _ _ _ ⟨B3, rfl, rfl, rfl⟩
  refine SL.w (op_store ty45 rfl rfl (by repeat constructor) rfl rfl rfl) ?_
  rintro _ _ _ ⟨rfl, rfl⟩
  refine SL.nil <| T.seq <| T.seq <| T.region <| SL.w (op_buildSlice Tryz.underlying37 bs9 (qs := [(0, _), (1, _), (2, _), (3, _), (4, _)]) rfl rfl rfl rfl rfl) ?_
  rintro _ _ _ ⟨B8, rfl, rfl, rfl⟩
  refine SL.v (op_lenS Tryz.underlying37 rfl) <| SL.v (op_move (v := .int .i64 ((0 : Nat) : Int)) rfl) <| SL.nil <| T.block <| T.pub B8 (by repeat constructor) ?_
  intro X2 hX2 hB8 _
  have hbA : Blk X2 B8 ([] ++ (cmpW.map strC).flatten) := hB8
  refine T.loopW (fun m env own X' => ∃ (q : Nat) (i off : Nat) (e : Int), m = cmpW.length - q ∧ q ≤ cmpW.length ∧ X2.le X' ∧ RdS ts sa i off e ∧ (∀ d ∈ cmps.take q, (accM d.1 sa).1 = false) ∧ env = [(0, .pointer (some ⟨rb, 0, none⟩)), (2, .pointer (some ⟨B2, 0, none⟩)), (3, .pointer (some ⟨B3, 0, none⟩)), (8, .slice (some ⟨B8, 0, none⟩) cmpW.length 5), (9, .int .i64 (cmpW.length : Int)), (10, .int .i64 (q : Int))] ∧ own = IOw B3 (.int .i64 (o9 : Int), .int .i64 n9, .slice a9 l9 c9, .slice b9 m9 d9) :: I0 B2 :: RdI rb v i off e :: own0) cmpW.length ⟨0, i1, off1, e1, rfl, by omega, PMap.le_refl _, hS1, fun d h => by simp at h, rfl, rfl⟩ (by repeat (first | exact Sub.nil | refine Sub.cons rfl ?_)) ?_
  rintro m _ _ X3 ⟨q, i3, off3, e3, rfl, hq, hX3, hS3, hno, rfl, rfl⟩
  have hT := (hT.mono hX2).mono hX3
  rcases Nat.lt_or_ge q cmpW.length with hql | hql
  · obtain ⟨w, hw⟩ : ∃ w, cmpW[q]? = some w := ⟨_, List.getElem?_eq_getElem hql⟩
    have hcw := cmpW_at hw
    refine T.seq <| T.region <| SL.v (op_lssT rfl rfl (by omega)) ?_
    refine SL.nil <| T.seq <| T.condT rfl <| T.skip <| T.seq <| T.block <| T.seq <| T.region <| SL.mv rfl <| SL.v (op_indexN Tryz.underlying37 ty9 rfl rfl (by omega)) ?_
    refine SL.v (op_loadX ty9 rfl (hbA.mono hX3) (str_read hw (by simp))) ?_
    refine SL.as rfl <| SL.as rfl <| SL.nil <| T.seq <| T.region <| SL.mv rfl <| SL.mv rfl <| SL.w (op_callJ en103 rfl (vs := [_, _]) rfl (racc_spec hT hS3) (by repeat constructor)) ?_
    rintro _ _ X4 ⟨_, rfl, hX4, i4, off4, e4, _, rfl, hS4, rfl, rfl⟩
    have hT := hT.mono hX4
    cases ha : (accM w sa).1 with
    | true =>
      have hsplit : cmps = cmps.take q ++ (w, 11 + q) :: cmps.drop (q + 1) := by
        obtain ⟨g1, g2⟩ := List.getElem?_eq_some_iff.1 hcw
        rw [← g2, ← List.drop_eq_getElem_cons g1, List.take_append_drop]
      have ho := oprM_hit hsplit hno ha
      rw [ho] at hrun
      simp only at hrun
      have hsh2 := hsh.trans (accM_sh (w := w))
      refine SL.nil <| T.condT rfl <| T.seq <| T.drawG (own0 := [_, _]) (by kernel_rfl) 6 [.t 0, .t 1, .t 2, .t 3, .r 4, .r 5] (by kernel_rfl) ?_
      refine SD.take rfl panicBody (op_move rfl) rfl rfl ?_
      refine SD.take rfl panicBody (op_addN (p := 11) (q := q) rfl rfl (by omega)) rfl rfl ?_
      refine SD.take rfl panicBody (op_load ty45 rfl (by repeat constructor) rfl) rfl rfl ?_
      refine SD.take rfl panicBody (op_move rfl) rfl rfl ?_
      refine SD.runK rfl (op_callJ en181 rfl (vs := [_]) rfl (rsum_spec hp hT hS4 (hsh2.lt hf)) (.there (.there .here))) (by rintro _ _ _ ⟨_, rfl, hX5, _⟩; exact ⟨keep2, hX5⟩) rfl rfl ?_
      rintro _ _ X5 ⟨_, rfl, hX5, i5, off5, e5, sc, rfl, hS5, y, q5, rfl, hy, hO5, hsh5⟩
      obtain ⟨o4, n4, a4, b4, l4, c4, m4, d4, rfl⟩ := hy.form
      have hO5 : Out (runM (sumP p) (accM w sa).2) sc y := hO5
      have hc := rtwo_spec (op := 11 + q) ((((hx.mono hX2).mono hX3).mono hX4).mono hX5) hy
      try simp only at hc
      refine SD.run rfl (op_callF en104 (vs := [_, _, _]) rfl (hc)) rfl rfl ?_
      rintro _ _ X6 ⟨rfl, hX6, q6, rfl, hq6⟩
      refine SD.nil ?_
      show SL _ _ _ _ _ _ _ [_] _ _ _
      obtain ⟨o5, n5, a5, b5, l5, c5, m5, d5, rfl⟩ := hq6.form
      refine SL.w (op_store ty45 rfl rfl (by repeat constructor) rfl rfl rfl) ?_
      rintro _ _ _ ⟨rfl, rfl⟩
      refine SL.nil <| T.retM1S [_] _ rfl (ResIs.cell rfl ty45 (by repeat constructor) rfl) (.cons _ (.cons _ (.refl _))) (List.Perm.refl _) ?_
      exact ⟨((((hX1.trans' hX2).trans' hX3).trans' hX4).trans' hX5).trans' hX6, _, rfl, i5, off5, e5, sc, rfl, hS5, two (11 + q) x y, (_, _, _, _), rfl, hq6, by rw [hrun, runM_par hO5]; exact out_ok rfl, hsh2.trans hsh5⟩
    | false =>
      rw [accM_same ha] at hS4
      have hta : cmps.take (q + 1) = cmps.take q ++ [(w, 11 + q)] := by rw [List.take_add_one, hcw]; rfl
      have hno2 : ∀ d ∈ cmps.take (q + 1), (accM d.1 sa).1 = false := fun d hd => by
        rw [hta] at hd
        rcases List.mem_append.1 hd with h | h
        · exact hno d h
        · rw [List.mem_singleton.1 h]; exact ha
      refine SL.nil <| T.condF rfl <| T.skip <| T.blk <| T.region <| SL.v (op_addN (q := 1) rfl rfl (by omega)) ?_
      refine SL.mv rfl <| SL.nil ?_
      exact T.backW (cmpW.length - (q + 1)) (by omega) ⟨q + 1, i4, off4, e4, rfl, by omega, hX3.trans' hX4, hS4, hno2, rfl, rfl⟩ (by repeat (first | exact Sub.nil | refine Sub.cons rfl ?_))
  · have ho := oprM_miss (st := sa) (fun d hd => hno d (by rw [List.take_of_length_le (by simpa [cmpW] using hql)]; exact hd))
    rw [ho] at hrun
    refine T.seq <| T.region <| SL.v (op_lssF rfl rfl (by omega)) ?_
    refine SL.nil <| T.seq <| T.condF rfl ?_
    refine T.exit (T.exitCode (T.exitCut (T.exitBlk ?_)))
    refine T.seq <| T.region <| SL.v (op_load ty45 rfl (by repeat constructor) rfl) ?_
    refine SL.w (op_store ty45 rfl rfl (by repeat constructor) rfl rfl rfl) ?_
    rintro _ _ _ ⟨rfl, rfl⟩
    refine SL.nil <| T.drop B3 (by repeat constructor) ?_
    refine T.retM1S [_] _ rfl (ResIs.cell rfl ty45 (by repeat constructor) rfl) (List.sublist_cons_self _ _) (List.Perm.refl _) ?_
    exact ⟨(hX1.trans' hX2).trans' hX3, _, rfl, i3, off3, e3, sa, rfl, hS3, x, (_, _, _, _), rfl, (hx.mono hX2).mono hX3, by rw [hrun]; exact out_ok rfl, hsh⟩
end Go.Proofs.YtnabbnhefjfegaaGreatDoor
namespace Go.Proofs.YtnabbnhefjfegaaGreatDoor
section
set_option maxRecDepth 100000
theorem en163 : Enters Tryz.prog 163 := enters_mk Tryz.func163 (by kernel_rfl) rfl
end
open Go.RowKit
theorem neg_run {p : ParP} {k : Nat} {st : RSt} : runM (fun l => negP p (k + 1) l) st = if (accM wNot st).1 then runM (fun l => bindR (negP p k l) fun x l' => .ok (Ex.mk 7 0 [] [x], l')) (accM wNot st).2 else runM (cmpP p) (accM wNot st).2 := by
  rw [← runM_acc (q1 := fun l => bindR (negP p k l) fun x l' => .ok (Ex.mk 7 0 [] [x], l')) (q2 := cmpP p)]
  rfl
theorem notI {X : PMap} {x : Ex} {r : Row4} {b : Nat} (h : ExR .i64 X x r) (hb : Blk X b [r.1, r.2.1, r.2.2.1, r.2.2.2]) : ExR .i64 X (.mk 7 0 [] [x]) (.int .i64 7, .int .i64 0, .slice none 0 0, .slice (some ⟨b, 0, none⟩) 1 1) :=
  .mk (.inl ⟨rfl, _, _, rfl⟩) (rows := [r]) (.inr ⟨by simp, b, 1, [], rfl, hb, by simp, by decide⟩) rfl fun i a q ha hq => by
    match i with
    | 0 => cases ha; cases hq; exact h
    | i + 1 => cases ha
theorem rneg_all {f : Nat} {p : ParP} (hp : SpecQ Tryz.prog 193 p f) : ∀ (k : Nat) {X : PMap} {v : Value} {ts : List Tk} {rb i off : Nat} {e : Int} {st : RSt}, lenS st < k → TksI X v ts → RdS ts st i off e → (∀ l, st = .ok l → l.length < f) →
    SpecI Tryz.prog 155 [.pointer (some ⟨rb, 0, none⟩)] X ts rb v i off e fun u st' X' => ∃ (ex : Ex) (r : Row4), u = .agg #[r.1, r.2.1, r.2.2.1, r.2.2.2] ∧ ExR .i64 X' ex r ∧ Out (runM (fun l => negP p k l) st) st' ex ∧ Sh st st' := by
  intro k
  induction k with
  | zero => intro X v ts rb i off e st h; exact absurd h (Nat.not_lt_zero _)
  | succ k ih =>
    intro X v ts rb i off e st hk hT hS hf
    have hrun := neg_run (p := p) (k := k) (st := st)
    have hsh1 := accM_sh (st := st) (w := wNot)
    refine SpecM.enter Tryz.func155 rfl Tryz.ntmps155 rfl ?_
    intro w0 X0 own0
    refine T.seq <| T.region <| SL.w (op_alloc z45) ?_
    rintro _ _ _ ⟨B2, rfl, rfl, rfl⟩
    refine SL.nil <| T.seq <| T.seq <| T.region <| SL.mv rfl <| SL.w (op_callJ en103 rfl (vs := [_, _]) rfl (racc_spec hT hS) (by repeat constructor)) ?_
    rintro _ _ X1 ⟨_, rfl, hX1, i1, off1, e1, _, rfl, hS1, rfl, rfl⟩
    have hT := hT.mono hX1
    cases ha : (accM wNot st).1 with
    | true =>
      rw [ha, if_pos rfl] at hrun
      have hdec := accM_dec ha
      refine SL.nil <| T.condT rfl <| T.seq <| T.region <| SL.mv rfl <| SL.w (op_callJ en155 rfl (vs := [_]) rfl (ih (Nat.lt_of_lt_of_le hdec (Nat.le_of_lt_succ hk)) hT hS1 (hsh1.lt hf)) (by repeat constructor)) ?_
      rintro _ _ X2 ⟨_, rfl, hX2, i2, off2, e2, sb, rfl, hS2, x, q, rfl, hx, hO, hsh2⟩
      obtain ⟨o9, n9, a9, b9, l9, c9, m9, d9, rfl⟩ := hx.form
      have hO : Out (runM (fun l => negP p k l) (accM wNot st).2) sb x := hO
      refine SL.w (op_buildSlice Tryz.underlying43 bs45 (qs := [(0, _)]) rfl rfl rfl rfl rfl) ?_
      rintro _ _ _ ⟨B7, rfl, rfl, rfl⟩
      refine SL.v (op_build st45 (qs := [(0, _), (3, _)]) rfl rfl) <| SL.w (op_store ty45 rfl rfl (by repeat constructor) rfl rfl rfl) ?_
      rintro _ _ _ ⟨rfl, rfl⟩
      refine SL.nil <| T.pub B7 (by repeat constructor) ?_
      intro X3 hX3 hB7 _
      refine T.retM1S [_] _ rfl (ResIs.cell rfl ty45 (by repeat constructor) rfl) (List.sublist_cons_self _ _) (List.Perm.refl _) ?_
      exact ⟨(hX1.trans' hX2).trans' hX3, _, rfl, i2, off2, e2, sb, rfl, hS2, .mk 7 0 [] [x], (_, _, _, _), rfl, notI (hx.mono hX3) hB7, by rw [hrun, runM_par hO]; exact out_ok rfl, hsh1.trans hsh2⟩
    | false =>
      rw [ha, if_neg (by decide), accM_same ha] at hrun
      rw [accM_same ha] at hS1
      refine SL.nil <| T.condF rfl <| T.skip <| T.seq <| T.region <| SL.mv rfl <| SL.w (op_callJ en163 rfl (vs := [_]) rfl (rcomparison_spec hp hT hS1 hf) (by repeat constructor)) ?_
      rintro _ _ X2 ⟨_, rfl, hX2, i2, off2, e2, sb, rfl, hS2, x, q, rfl, hx, hO, hsh2⟩
      obtain ⟨o9, n9, a9, b9, l9, c9, m9, d9, rfl⟩ := hx.form
      refine SL.w (op_store ty45 rfl rfl (by repeat constructor) rfl rfl rfl) ?_
      rintro _ _ _ ⟨rfl, rfl⟩
      refine SL.nil <| T.retM1S [_] _ rfl (ResIs.cell rfl ty45 (by repeat constructor) rfl) (List.sublist_cons_self _ _) (List.Perm.refl _) ?_
      exact ⟨hX1.trans' hX2, _, rfl, i2, off2, e2, sb, rfl, hS2, x, (_, _, _, _), rfl, hx, by rw [hrun]; exact hO, hsh2⟩
theorem rnegation_spec {f : Nat} {p : ParP} (hp : SpecQ Tryz.prog 193 p f) : SpecQ Tryz.prog 155 (negA p) f := by
  intro X v ts rb i off e st hT hS hf
  have h := rneg_all hp (lenS st + 1) (rb := rb) (Nat.lt_succ_self _) hT hS hf
  have e1 : runM (negA p) st = runM (fun l => negP p (lenS st + 1) l) st := by cases st <;> rfl
  rw [e1]
  exact h
end Go.Proofs.YtnabbnhefjfegaaGreatDoor
namespace Go.Proofs.YtnabbnhefjfegaaGreatDoor
section
set_option maxRecDepth 100000
theorem en102 : Enters Tryz.prog 102 := enters_mk Tryz.func102 (by kernel_rfl) rfl
theorem en49 : Enters Tryz.prog 49 := enters_mk Tryz.func49 (by kernel_rfl) rfl
end
open Go.RowKit
theorem tail_run {p : ParP} {k : Nat} {x : Ex} {st : RSt} : runM (tailI p k x) st = if (accM wArrow st).1 then runM (fun l => bindR (implP p k l) fun y l' => .ok (two 10 x y, l')) (accM wArrow st).2 else runM (fun l => .ok (x, l)) (accM wArrow st).2 := by
  rw [← runM_acc (q1 := fun l => bindR (implP p k l) fun y l' => .ok (two 10 x y, l')) (q2 := fun l => .ok (x, l))]
  rfl
theorem rimpl_all {f : Nat} {p : ParP} (hp : SpecQ Tryz.prog 193 p f) : ∀ (k : Nat) {X : PMap} {v : Value} {ts : List Tk} {rb i off : Nat} {e : Int} {st : RSt}, lenS st < k → TksI X v ts → RdS ts st i off e → (∀ l, st = .ok l → l.length < f) →
    SpecI Tryz.prog 49 [.pointer (some ⟨rb, 0, none⟩)] X ts rb v i off e fun u st' X' => ∃ (ex : Ex) (r : Row4), u = .agg #[r.1, r.2.1, r.2.2.1, r.2.2.2] ∧ ExR .i64 X' ex r ∧ Out (runM (fun l => implP p k l) st) st' ex ∧ Sh st st' := by
  intro k
  induction k with
  | zero => intro X v ts rb i off e st h; exact absurd h (Nat.not_lt_zero _)
  | succ k ih =>
    intro X v ts rb i off e st hk hT hS hf
    refine SpecM.enter Tryz.func49 rfl Tryz.ntmps49 rfl ?_
    intro w0 X0 own0
    refine T.seq <| T.region <| SL.w (op_alloc z45) ?_
    rintro _ _ _ ⟨B2, rfl, rfl, rfl⟩
    refine SL.nil <| T.seq <| T.region <| SL.mv rfl <| SL.w (op_callJ en102 rfl (vs := [_]) rfl (rdisj_spec (rconj_spec (rnegation_spec hp)) hT hS hf) (by repeat constructor)) ?_
    rintro _ _ X1 ⟨_, rfl, hX1, i1, off1, e1, sa, rfl, hS1, x, q, rfl, hx, hO, hsh⟩
    obtain ⟨o9, n9, a9, b9, l9, c9, m9, d9, rfl⟩ := hx.form
    have hO : Out (runM (disjP p) st) sa x := hO
    have hT := hT.mono hX1
    have hrun : runM (fun l => implP p (k + 1) l) st = runM (tailI p k x) sa := runM_par (p := disjP p) (q := fun x l' => tailI p k x l') hO
    rw [tail_run] at hrun
    have hle := hsh.len
    have hsh1 := hsh.trans (accM_sh (w := wArrow))
    refine SL.w (op_alloc z45) ?_
    rintro _ _ _ ⟨B3, rfl, rfl, rfl⟩
    refine SL.w (op_store ty45 rfl rfl (by repeat constructor) rfl rfl rfl) ?_
    rintro _ _ _ ⟨rfl, rfl⟩
    refine SL.nil <| T.seq <| T.seq <| T.region <| SL.mv rfl <| SL.w (op_callJ en103 rfl (vs := [_, _]) rfl (racc_spec hT hS1) (by repeat constructor)) ?_
    rintro _ _ X2 ⟨_, rfl, hX2, i2, off2, e2, _, rfl, hS2, rfl, rfl⟩
    have hT := hT.mono hX2
    cases ha : (accM wArrow sa).1 with
    | true =>
      rw [ha, if_pos rfl] at hrun
      have hdec := accM_dec ha
      have hlt : lenS (accM wArrow sa).2 < k := Nat.lt_of_lt_of_le hdec (Nat.le_trans hle (Nat.le_of_lt_succ hk))
      refine SL.nil <| T.condT rfl <| T.seq <| T.drawG (own0 := [_, _]) (by kernel_rfl) 4 [.t 0, .t 1, .r 2, .r 3] (by kernel_rfl) ?_
      refine SD.take rfl panicBody (op_load ty45 rfl (by repeat constructor) rfl) rfl rfl ?_
      refine SD.take rfl panicBody (op_move rfl) rfl rfl ?_
      refine SD.runK rfl (op_callJ en49 rfl (vs := [_]) rfl (ih hlt hT hS2 (hsh1.lt hf)) (.there (.there .here))) (by rintro _ _ _ ⟨_, rfl, hX5, _⟩; exact ⟨keep2, hX5⟩) rfl rfl ?_
      rintro _ _ X5 ⟨_, rfl, hX5, i5, off5, e5, sc, rfl, hS5, y, q5, rfl, hy, hO5, hsh5⟩
      obtain ⟨o4, n4, a4, b4, l4, c4, m4, d4, rfl⟩ := hy.form
      have hO5 : Out (runM (fun l => implP p k l) (accM wArrow sa).2) sc y := hO5
      have hc := rtwo_spec (op := 10) ((hx.mono hX2).mono hX5) hy
      try simp only at hc
      refine SD.run rfl (op_callF en104 (vs := [_, _, _]) rfl (hc)) rfl rfl ?_
      rintro _ _ X6 ⟨rfl, hX6, q6, rfl, hq6⟩
      refine SD.nil ?_
      show SL _ _ _ _ _ _ _ [_] _ _ _
      obtain ⟨o5, n5, a5, b5, l5, c5, m5, d5, rfl⟩ := hq6.form
      refine SL.w (op_store ty45 rfl rfl (by repeat constructor) rfl rfl rfl) ?_
      rintro _ _ _ ⟨rfl, rfl⟩
      refine SL.nil <| T.retM1S [_] _ rfl (ResIs.cell rfl ty45 (by repeat constructor) rfl) (.cons _ (.cons _ (.refl _))) (List.Perm.refl _) ?_
      exact ⟨((hX1.trans' hX2).trans' hX5).trans' hX6, _, rfl, i5, off5, e5, sc, rfl, hS5, two 10 x y, (_, _, _, _), rfl, hq6, by rw [hrun, runM_par hO5]; exact out_ok rfl, hsh1.trans hsh5⟩
    | false =>
      rw [ha, if_neg (by decide)] at hrun
      refine SL.nil <| T.condF rfl <| T.skip <| T.seq <| T.region <| SL.v (op_load ty45 rfl (by repeat constructor) rfl) ?_
      refine SL.w (op_store ty45 rfl rfl (by repeat constructor) rfl rfl rfl) ?_
      rintro _ _ _ ⟨rfl, rfl⟩
      refine SL.nil <| T.drop B3 (by repeat constructor) ?_
      refine T.retM1S [_] _ rfl (ResIs.cell rfl ty45 (by repeat constructor) rfl) (List.sublist_cons_self _ _) (List.Perm.refl _) ?_
      exact ⟨hX1.trans' hX2, _, rfl, i2, off2, e2, _, rfl, hS2, x, (_, _, _, _), rfl, hx.mono hX2, by rw [hrun]; exact out_ok rfl, hsh1⟩
theorem rexpression_spec {f : Nat} {p : ParP} (hp : SpecQ Tryz.prog 193 p f) : SpecQ Tryz.prog 49 (implA p) f := by
  intro X v ts rb i off e st hT hS hf
  have h := rimpl_all hp (lenS st + 1) (rb := rb) (Nat.lt_succ_self _) hT hS hf
  have e1 : runM (implA p) st = runM (fun l => implP p (lenS st + 1) l) st := by cases st <;> rfl
  rw [e1]
  exact h
end Go.Proofs.YtnabbnhefjfegaaGreatDoor
namespace Go.Proofs.YtnabbnhefjfegaaGreatDoor
section
set_option maxRecDepth 100000
theorem en122 : Enters Tryz.prog 122 := enters_mk Tryz.func122 (by kernel_rfl) rfl
theorem en123 : Enters Tryz.prog 123 := enters_mk Tryz.func123 (by kernel_rfl) rfl
theorem en199 : Enters Tryz.prog 199 := enters_mk Tryz.func199 (by kernel_rfl) rfl
end
open Go.RowKit
def SpecQo (P : Program) (g : FuncId) (p : ParP) (f : Nat) : Prop :=
  ∀ {X : PMap} {v : Value} {ts : List Tk} {rb i off : Nat} {e : Int} {l : List Tk}, TksI X v ts → RdS ts (.ok l) i off e → l.length < f →
    SpecI P g [.pointer (some ⟨rb, 0, none⟩)] X ts rb v i off e fun u st' X' => ∃ (ex : Ex) (r : Row4), u = .agg #[r.1, r.2.1, r.2.2.1, r.2.2.2] ∧ ExR .i64 X' ex r ∧ Out (runM p (.ok l)) st' ex ∧ Sh (.ok l) st'
abbrev CtO (b : Nat) (vs : Value) : Ow := ⟨b, [.int .i64 5, .int .i64 0, vs, .slice none 0 0], 45, 4⟩
theorem zeroI {X : PMap} {op : Nat} {n : Int} : ExR .i64 X (.mk op n [] []) (.int .i64 (op : Int), .int .i64 n, .slice none 0 0, .slice none 0 0) := .mk (.inl ⟨rfl, _, _, rfl⟩) (.inl ⟨rfl, _, _, rfl⟩) (rows := []) (al := []) rfl (fun i a r h => absurd h (by simp))
theorem rprimary_spec {f : Nat} {ex : ParP} (hex : SpecQo Tryz.prog 49 ex f) : SpecQ Tryz.prog 193 (primP ex) (f + 1) := by
  intro X v ts rb i off e st hT hS hf
  have hmx : maxLen = 9223372036854775807 := rfl
  obtain ⟨t, ht⟩ := hS.tok
  have hdt := drop_tok ht
  refine SpecM.enter Tryz.func193 rfl Tryz.ntmps193 rfl ?_
  intro w0 X0 own0
  refine T.seq <| T.region <| SL.w (op_alloc z45) ?_
  rintro _ _ _ ⟨B2, rfl, rfl, rfl⟩
  refine SL.nil <| T.seq <| T.region <| SL.mv rfl <| SL.w (op_callLend en50 (vs := [_]) rfl ((fun X1 h1 h2 => (rpeek_spec (hT.row.mono h1) hT.len (h2 (RdI rb v i off e) (by simp)) ht : Spec _ _ _ _ fun u _ => u = .agg (rcTi (pk e t)).toArray)))) ?_
  rintro _ _ _ ⟨rfl, rfl, rfl⟩
  by_cases he0 : e = 0
  case neg =>
    obtain ⟨y, rfl⟩ : ∃ y, st = .error y := by
      obtain ⟨_, h2⟩ := hS
      cases st with
      | error y => exact ⟨y, rfl⟩
      | ok l => exact absurd h2.2.1 he0
    rw [pk, if_neg he0, show (rcTi endT).toArray = #[.int .i64 0, .string ⟨#[]⟩, .int .i64 0, .int .i64 0] from rfl]
    refine SL.w (op_alloc z110) ?_
    rintro _ _ _ ⟨B3, rfl, rfl, rfl⟩
    refine SL.w (op_store ty110 rfl rfl (by repeat constructor) rfl rfl rfl) ?_
    rintro _ _ _ ⟨rfl, rfl⟩
    refine SL.nil <| T.seq <| T.block <| T.seq <| T.region <| SL.v (op_fieldAddr fa110_0 rfl) <| SL.v (op_load ty3 rfl (by repeat constructor) rfl) ?_
    refine SL.v (op_eqlF rfl rfl (by omega)) ?_
    refine SL.as rfl <| SL.nil <| T.condF rfl <| T.seq <| T.region <| SL.mv rfl <| T.dropAt B3 (by repeat constructor) ?_
    refine SL.w (op_callJ en103 rfl (vs := [_, _]) rfl (racc_spec hT hS) (by repeat constructor)) ?_
    rintro _ _ X1 ⟨_, rfl, hX1, i1, off1, e1, _, rfl, hS1, rfl, rfl⟩
    have hT := hT.mono hX1
    refine SL.as rfl <| SL.nil <| T.condF rfl <| T.seq <| T.region <| SL.mv rfl <| SL.w (op_callJ en103 rfl (vs := [_, _]) rfl (racc_spec hT hS1) (by repeat constructor)) ?_
    rintro _ _ X2 ⟨_, rfl, hX2, i2, off2, e2, _, rfl, hS2, rfl, rfl⟩
    have hT := hT.mono hX2
    refine SL.as rfl <| SL.nil <| T.condF rfl <| T.seq <| T.region <| SL.mv rfl <| SL.w (op_callJ en103 rfl (vs := [_, _]) rfl (racc_spec hT hS2) (by repeat constructor)) ?_
    rintro _ _ X3 ⟨_, rfl, hX3, i3, off3, e3, _, rfl, hS3, rfl, rfl⟩
    have hT := hT.mono hX3
    refine SL.as rfl <| SL.nil <| T.condF rfl <| T.seq <| T.region <| SL.mv rfl <| SL.w (op_callJ en103 rfl (vs := [_, _]) rfl (racc_spec hT hS3) (by repeat constructor)) ?_
    rintro _ _ X4 ⟨_, rfl, hX4, i4, off4, e4, _, rfl, hS4, rfl, rfl⟩
    have hT := hT.mono hX4
    refine SL.as rfl <| SL.nil <| T.condF rfl <| T.seq <| T.region <| SL.mv rfl <| SL.w (op_callJ en103 rfl (vs := [_, _]) rfl (racc_spec hT hS4) (by repeat constructor)) ?_
    rintro _ _ X5 ⟨_, rfl, hX5, i5, off5, e5, _, rfl, hS5, rfl, rfl⟩
    have hT := hT.mono hX5
    refine SL.as rfl <| SL.nil <| T.condF rfl <| T.skip <| T.blk <| T.seq <| T.region <| SL.mv rfl <| SL.w (op_callJ en123 rfl (vs := [_]) rfl (rnam_spec hT hS5) (by repeat constructor)) ?_
    rintro _ _ Y1 ⟨_, rfl, hY1, j1, off9, e9, _, rfl, hS9, rfl, rfl⟩
    refine SL.w (op_buildSlice Tryz.underlying37 bs9 (qs := [(0, _)]) rfl rfl rfl rfl rfl) ?_
    rintro _ _ _ ⟨B71, rfl, rfl, rfl⟩
    refine SL.v (op_build st45 (qs := [(0, _), (2, _)]) rfl rfl) <| SL.w (op_store ty45 rfl rfl (by repeat constructor) rfl rfl rfl) ?_
    rintro _ _ _ ⟨rfl, rfl⟩
    refine SL.nil <| T.perm (List.Perm.swap _ _ _) ?_
    refine T.pub B71 (by repeat constructor) ?_
    intro Y2 hY2 hB71 _
    refine T.retM1S [_] _ rfl (ResIs.cell rfl ty45 (by repeat constructor) rfl) (List.sublist_cons_self _ _) (List.Perm.refl _) ?_
    exact ⟨((((((hX1.trans' hX2).trans' hX3).trans' hX4).trans' hX5).trans' hY1).trans' hY2), _, rfl, j1, off9, e9, _, rfl, hS9, _, (_, _, _, _), rfl, .mk (ns := [⟨#[]⟩]) (.inr ⟨by simp, B71, 1, [], rfl, hB71, by simp, by decide⟩) (.inl ⟨rfl, _, _, rfl⟩) (rows := []) (al := []) rfl (fun i a r h => absurd h (by simp)), rfl, Sh.refl _⟩
  obtain ⟨l, rfl⟩ : ∃ l, st = .ok l := by
    obtain ⟨_, h2⟩ := hS
    cases st with
    | error x => exact absurd (h2.2.1.symm.trans he0) h2.2.2
    | ok l => exact ⟨l, rfl⟩
  rw [pk, if_pos he0, show (rcTi t).toArray = #[.int .i64 (t.kind : Int), .string t.text, .int .i64 (t.num : Int), .int .i64 (t.off : Int)] from rfl]
  have hl : l = t :: ts.drop (i + 1) := by rw [hS.2.2.2]; exact hdt
  generalize hrr : ts.drop (i + 1) = r at *
  subst hl
  have hfr : r.length < f := by have := hf _ rfl; rw [List.length_cons] at this; omega
  have htl : ∀ w, isT w (t :: r) = true → accM w (.ok (t :: r)) = (true, .ok r) := fun w h => accM_t h
  have htf : ∀ w, isT w (t :: r) = false → accM w (.ok (t :: r)) = (false, .ok (t :: r)) := fun w h => accM_f h
  have hshr : Sh (.ok (t :: r)) (.ok r) := tail_sh (l := t :: r)
  by_cases hk2 : t.kind = 2
  · skip
    refine SL.w (op_alloc z110) ?_
    rintro _ _ _ ⟨B3, rfl, rfl, rfl⟩
    refine SL.w (op_store ty110 rfl rfl (by repeat constructor) rfl rfl rfl) ?_
    rintro _ _ _ ⟨rfl, rfl⟩
    refine SL.nil <| T.seq <| T.block <| T.seq <| T.region <| SL.v (op_fieldAddr fa110_0 rfl) <| SL.v (op_load ty3 rfl (by repeat constructor) rfl) ?_
    refine SL.v (op_eqlT rfl rfl (by omega)) ?_
    refine SL.as rfl <| SL.nil <| T.condT rfl <| T.seq <| T.region <| SL.mv rfl <| SL.w (op_callJ en199 rfl (vs := [_, _, _]) rfl (rnum_spec hT hS rfl hk2) (by repeat constructor)) ?_
    rintro _ _ X1 ⟨_, rfl, hX1, i1, off1, e1, _, rfl, hS1, rfl, rfl⟩
    refine SL.v (op_build st45 (qs := [(0, _), (1, _)]) rfl rfl) <| SL.w (op_store ty45 rfl rfl (by repeat constructor) rfl rfl rfl) ?_
    rintro _ _ _ ⟨rfl, rfl⟩
    refine SL.nil <| T.retM1S [_] _ rfl (ResIs.cell rfl ty45 (by repeat constructor) rfl) (.cons _ (.cons _ (.refl _))) (List.Perm.refl _) ?_
    exact ⟨hX1, _, rfl, i1, off1, e1, _, rfl, hS1, _, (_, _, _, _), rfl, zeroI (op := 1), by rw [runM, primP_eq, if_pos hk2]; exact ⟨rfl, rfl⟩, hshr⟩
  have hpe := primP_eq (ex := ex) (t := t) (r := r)
  rw [if_neg hk2] at hpe
  refine SL.w (op_alloc z110) ?_
  rintro _ _ _ ⟨B3, rfl, rfl, rfl⟩
  refine SL.w (op_store ty110 rfl rfl (by repeat constructor) rfl rfl rfl) ?_
  rintro _ _ _ ⟨rfl, rfl⟩
  refine SL.nil <| T.seq <| T.block <| T.seq <| T.region <| SL.v (op_fieldAddr fa110_0 rfl) <| SL.v (op_load ty3 rfl (by repeat constructor) rfl) ?_
  refine SL.v (op_eqlF rfl rfl (by omega)) ?_
  refine SL.as rfl <| SL.nil <| T.condF rfl <| T.seq <| T.region <| SL.mv rfl <| T.dropAt B3 (by repeat constructor) ?_
  refine SL.w (op_callJ en103 rfl (vs := [_, _]) rfl (racc_spec hT hS) (by repeat constructor)) ?_
  rintro _ _ X1 ⟨_, rfl, hX1, i1, off1, e1, _, rfl, hS1, rfl, rfl⟩
  have hT := hT.mono hX1
  by_cases h1 : isT wTrue (t :: r) = true
  · rw [htl wTrue h1] at hS1 ⊢
    rw [if_pos h1] at hpe
    refine SL.as rfl <| SL.nil <| T.condT rfl <| T.seq <| T.region <| SL.v (op_build st45 (qs := [(0, _)]) rfl rfl) <| SL.w (op_store ty45 rfl rfl (by repeat constructor) rfl rfl rfl) ?_
    rintro _ _ _ ⟨rfl, rfl⟩
    refine SL.nil <| T.retM1S [_] _ rfl (ResIs.cell rfl ty45 (by repeat constructor) rfl) (List.sublist_cons_self _ _) (List.Perm.refl _) ?_
    exact ⟨hX1, _, rfl, i1, off1, e1, _, rfl, hS1, _, (_, _, _, _), rfl, zeroI (op := 2), by rw [runM, hpe]; exact ⟨rfl, rfl⟩, hshr⟩
  have h1 : isT wTrue (t :: r) = false := by simpa using h1
  rw [htf wTrue h1] at hS1 ⊢
  rw [if_neg (by rw [h1]; decide)] at hpe
  refine SL.as rfl <| SL.nil <| T.condF rfl <| T.seq <| T.region <| SL.mv rfl <| SL.w (op_callJ en103 rfl (vs := [_, _]) rfl (racc_spec hT hS1) (by repeat constructor)) ?_
  rintro _ _ X2 ⟨_, rfl, hX2, i2, off2, e2, _, rfl, hS2, rfl, rfl⟩
  have hT := hT.mono hX2
  by_cases h2 : isT wFalse (t :: r) = true
  · rw [htl wFalse h2] at hS2 ⊢
    rw [if_pos h2] at hpe
    refine SL.as rfl <| SL.nil <| T.condT rfl <| T.seq <| T.region <| SL.v (op_build st45 (qs := [(0, _)]) rfl rfl) <| SL.w (op_store ty45 rfl rfl (by repeat constructor) rfl rfl rfl) ?_
    rintro _ _ _ ⟨rfl, rfl⟩
    refine SL.nil <| T.retM1S [_] _ rfl (ResIs.cell rfl ty45 (by repeat constructor) rfl) (List.sublist_cons_self _ _) (List.Perm.refl _) ?_
    exact ⟨(hX1.trans' hX2), _, rfl, i2, off2, e2, _, rfl, hS2, _, (_, _, _, _), rfl, zeroI (op := 3), by rw [runM, hpe]; exact ⟨rfl, rfl⟩, hshr⟩
  have h2 : isT wFalse (t :: r) = false := by simpa using h2
  rw [htf wFalse h2] at hS2 ⊢
  rw [if_neg (by rw [h2]; decide)] at hpe
  refine SL.as rfl <| SL.nil <| T.condF rfl <| T.seq <| T.region <| SL.mv rfl <| SL.w (op_callJ en103 rfl (vs := [_, _]) rfl (racc_spec hT hS2) (by repeat constructor)) ?_
  rintro _ _ X3 ⟨_, rfl, hX3, i3, off3, e3, _, rfl, hS3, rfl, rfl⟩
  have hT := hT.mono hX3
  by_cases h3 : isT wCount (t :: r) = true
  · rw [htl wCount h3] at hS3 ⊢
    rw [if_pos h3] at hpe
    have h0 := namesQ_start (op := 5) (several := true) (st := .ok r)
    have hsh0 := (expM_sh (w := wLp) (st := .ok r)).trans namM_sh
    have hlen := hT.len
    refine SL.as rfl <| SL.nil <| T.condT rfl <| T.seq <| T.region <| SL.v (op_build st45 (qs := [(0, _)]) rfl rfl) <| SL.w (op_alloc z45) ?_
    rintro _ _ _ ⟨B4, rfl, rfl, rfl⟩
    refine SL.w (op_store ty45 rfl rfl (by repeat constructor) rfl rfl rfl) ?_
    rintro _ _ _ ⟨rfl, rfl⟩
    refine SL.nil <| T.seq <| T.region <| SL.mv rfl <| SL.w (op_callJ en122 rfl (vs := [_, _]) rfl (rexp_spec hT hS3) (by repeat constructor)) ?_
    rintro _ _ Y1 ⟨_, rfl, hY1, j1, of1, er1, _, rfl, hZ1, rfl⟩
    have hT := hT.mono hY1
    refine SL.nil <| T.seq <| T.drawG (own0 := [_, _]) (by kernel_rfl) 5 [.t 0, .t 1, .t 2, .r 3, .r 4] (by kernel_rfl) ?_
    refine SD.take rfl panicBody (op_fieldAddr fa45_2 rfl) rfl rfl ?_
    refine SD.take rfl panicBody (op_load ty37 rfl (by repeat constructor) rfl) rfl rfl ?_
    refine SD.take rfl panicBody (op_move rfl) rfl rfl ?_
    refine SD.runK rfl (op_callJ en123 rfl (vs := [_]) rfl (rnam_spec hT hZ1) (.there (.there .here))) (by rintro _ _ _ ⟨_, rfl, hX5, _⟩; exact ⟨keep2, hX5⟩) rfl rfl ?_
    rintro _ _ Y2 ⟨_, rfl, hY2, j2, of2, er2, sw, rfl, hZ2, rfl, hsw⟩
    have hT := hT.mono hY2
    have hl2 := hZ2.lenS
    rw [← hsw] at h0 hsh0
    generalize (namM (expM wLp (.ok r))).1 = s0 at *
    refine SD.run rfl (op_buildSlice Tryz.underlying37 bs9 (qs := [(0, _)]) rfl rfl rfl rfl rfl) rfl rfl ?_
    rintro _ _ _ ⟨B34, rfl, rfl, rfl⟩
    refine SD.nil ?_
    show SL _ _ _ _ _ _ _ [_, _, _] _ _ _
    refine SL.w (op_appendNil (m := 1) (news := [.string s0]) sl37 rfl rfl (Src.ofOwn0 AtO.here rfl) (by omega) (fun y hy => by rw [List.mem_singleton.1 hy]; rfl) (by omega) (by omega)) ?_
    rintro _ _ _ ⟨b7, cap7, rfl, rfl, rfl, hc7, hm7⟩
    refine SL.v (op_fieldAddr fa45_2 rfl) <| SL.w (op_store ty37 rfl rfl (by repeat constructor) rfl rfl rfl) ?_
    rintro _ _ _ ⟨rfl, rfl⟩
    refine SL.nil <| T.seq <| T.block <| T.drop B34 (by repeat constructor) ?_
    have hG0 : GrowS 9 1 (.slice (some ⟨b7, 0, none⟩) 1 cap7) [s0].length (strsC [s0]) [⟨b7, [.string s0], 9, cap7 * 1⟩] := .inr ⟨b7, cap7, rfl, rfl, hc7, hm7, rfl⟩
    refine T.perm (own' := CtO B4 (.slice (some ⟨b7, 0, none⟩) 1 cap7) :: I0 B2 :: RdI rb v j2 of2 er2 :: (own0 ++ [(⟨b7, [.string s0], 9, cap7 * 1⟩ : Ow)])) (show ((⟨b7, [.string s0], 9, cap7 * 1⟩ : Ow) :: CtO B4 (.slice (some ⟨b7, 0, none⟩) 1 cap7) :: I0 B2 :: RdI rb v j2 of2 er2 :: own0).Perm _ from (List.perm_append_singleton (⟨b7, [.string s0], 9, cap7 * 1⟩ : Ow) (CtO B4 (.slice (some ⟨b7, 0, none⟩) 1 cap7) :: I0 B2 :: RdI rb v j2 of2 er2 :: own0)).symm) ?_
    refine T.loopW (fun m env own X' => ∃ (ns : List ByteArray) (vs : Value) (G : Own) (i off : Nat) (e : Int) (sa : RSt) (k : Nat), m = lenS sa ∧ Y2.le X' ∧ RdS ts sa i off e ∧ Sh (.ok r) sa ∧ ns.length + lenS sa ≤ 2000000 ∧ lenS sa ≤ k ∧ runM (namesQ 5 true) (.ok r) = runM (fun l => bindR (namesG k ns l) (rpQ 5)) sa ∧ GrowS 9 1 vs ns.length (strsC ns) G ∧ env = [(0, .pointer (some ⟨rb, 0, none⟩)), (2, .pointer (some ⟨B2, 0, none⟩)), (4, .pointer (some ⟨B4, 0, none⟩))] ∧ own = CtO B4 vs :: I0 B2 :: RdI rb v i off e :: (own0 ++ G)) (lenS sw) ⟨[s0], _, _, j2, of2, er2, sw, _, rfl, PMap.le_refl _, hZ2, hsh0, by simp; omega, Nat.le_refl _, h0, hG0, rfl, rfl⟩ (by repeat (first | exact Sub.nil | refine Sub.cons rfl ?_)) ?_
    rintro m _ _ Z1 ⟨ns, vs, G, i6, off6, e6, sb, k, rfl, hZZ, hS6, hsh6, hns, hkk, heq, hG, rfl, rfl⟩
    have hT := hT.mono hZZ
    obtain ⟨Av, cv, rfl⟩ := hG.form
    refine T.seq <| T.seq <| T.region <| SL.mv rfl <| SL.w (op_callJ en103 rfl (vs := [_, _]) rfl (racc_spec hT hS6) (by repeat constructor)) ?_
    rintro _ _ Z2 ⟨_, rfl, hZZ2, i7, off7, e7, _, rfl, hS7, rfl, rfl⟩
    have hT := hT.mono hZZ2
    have hsh7 := hsh6.trans (accM_sh (w := wComma))
    cases ha : (accM wComma sb).1 with
    | true =>
      have hdec := accM_dec ha
      obtain ⟨k, rfl⟩ : ∃ q, k = q + 1 := ⟨k - 1, by omega⟩
      rw [namesG_step ha] at heq
      have hd2 := (namM_sh (st := (accM wComma sb).2)).len
      have hsh8 := hsh7.trans namM_sh
      refine SL.nil <| T.condT rfl <| T.skip <| T.block <| T.drawG (own0 := [_, _]) (by kernel_rfl) 5 [.t 0, .t 1, .t 2, .r 3, .r 4] (by kernel_rfl) ?_
      refine SD.take rfl panicBody (op_fieldAddr fa45_2 rfl) rfl rfl ?_
      refine SD.take rfl panicBody (op_load ty37 rfl (by repeat constructor) rfl) rfl rfl ?_
      refine SD.take rfl panicBody (op_move rfl) rfl rfl ?_
      refine SD.runK rfl (op_callJ en123 rfl (vs := [_]) rfl (rnam_spec hT hS7) (.there (.there .here))) (by rintro _ _ _ ⟨_, rfl, hX5, _⟩; exact ⟨keep2, hX5⟩) rfl rfl ?_
      rintro _ _ Z3 ⟨_, rfl, hZ3, i8, off8, e8, sc, rfl, hS8, rfl, hsc⟩
      have hscl : lenS sc ≤ lenS (accM wComma sb).2 := by rw [hsc]; exact hd2
      have hsh8 : Sh (.ok r) sc := by rw [hsc]; exact hsh8
      have heq : runM (namesQ 5 true) (.ok r) = runM (fun l => bindR (namesG k (ns ++ [(namM (accM wComma sb).2).1]) l) (rpQ 5)) sc := by rw [hsc]; exact heq
      generalize (namM (accM wComma sb).2).1 = s8 at *
      refine SD.run rfl (op_buildSlice Tryz.underlying37 bs9 (qs := [(0, _)]) rfl rfl rfl rfl rfl) rfl rfl ?_
      rintro _ _ _ ⟨B43, rfl, rfl, rfl⟩
      refine SD.nil ?_
      show SL _ _ _ _ _ _ _ [_, _, _] _ _ _
      refine SL.w (op_appendG (own0 := _ :: _ :: _ :: own0) sl37 rfl hG rfl rfl rfl (by omega) (by omega)) ?_
      rintro vn _ _ ⟨G2, rfl, rfl, hG2⟩
      have hG2 : GrowS 9 1 vn (ns ++ [s8]).length (strsC (ns ++ [s8])) G2 := by rw [List.length_append, strsC_app]; exact hG2
      obtain ⟨An, cn, rfl⟩ := hG2.form
      refine SL.v (op_fieldAddr fa45_2 rfl) <| SL.w (op_store ty37 rfl rfl (by repeat constructor) rfl rfl rfl) ?_
      rintro _ _ _ ⟨rfl, rfl⟩
      refine SL.nil <| T.blk ?_
      exact T.backW (lenS sc) (by omega) ⟨ns ++ [s8], _, G2, i8, off8, e8, sc, k, rfl, (hZZ.trans' hZZ2).trans' hZ3, hS8, hsh8, by rw [List.length_append]; simp; omega, by omega, heq, hG2, rfl, rfl⟩ (by repeat (first | exact Sub.nil | refine Sub.cons rfl ?_))
    | false =>
      rw [accM_same ha] at hS7 hsh7
      refine SL.nil <| T.condF rfl ?_
      refine T.exit (T.exitCode (T.exitCut (T.exitBlk ?_)))
      refine T.seq <| T.region <| SL.mv rfl <| SL.w (op_callJ en122 rfl (vs := [_, _]) rfl (rexp_spec hT hS7) (by repeat constructor)) ?_
      rintro _ _ Z3 ⟨_, rfl, hZ3, i8, off8, e8, _, rfl, hS8, rfl⟩
      refine SL.nil <| T.seq <| T.region <| SL.v (op_load ty45 rfl (by repeat constructor) rfl) ?_
      refine SL.w (op_store ty45 rfl rfl (by repeat constructor) rfl rfl rfl) ?_
      rintro _ _ _ ⟨rfl, rfl⟩
      refine SL.nil <| T.pubG (own0 := _ :: _ :: _ :: own0) hG ?_
      intro X9 hX9 hS9
      refine T.drop B4 AtO.here ?_
      refine T.retM1S [_] _ rfl (ResIs.cell rfl ty45 (by repeat constructor) rfl) (List.sublist_cons_self _ _) (List.Perm.refl _) ?_
      refine ⟨((((((hX1.trans' hX2).trans' hX3).trans' hY1).trans' hY2).trans' hZZ).trans' hZZ2).trans' (hZ3.trans' hX9), _, rfl, i8, off8, e8, _, rfl, hS8, _, (_, _, _, _), rfl, .mk (RowR.ofG (rc := strC) (by rw [strsC_flat]; exact hG) (by rw [strsC_flat]; exact hS9)) (.inl ⟨rfl, _, _, rfl⟩) (rows := []) (al := []) rfl (fun i a r h => absurd h (by simp)), ?_, (hshr.trans hsh7).trans expM_sh⟩
      rw [runM, hpe, show namesQ 5 true r = runM (namesQ 5 true) (.ok r) from rfl, heq, namesG_stop (.inl ha)]
      show Out (runM (fun l => bindR (expT wRp l) fun _ l4 => Except.ok (Ex.mk 5 0 ns [], l4)) _) _ _
      rw [runM_exp]
      exact out_ok rfl
  have h3 : isT wCount (t :: r) = false := by simpa using h3
  rw [htf wCount h3] at hS3 ⊢
  rw [if_neg (by rw [h3]; decide)] at hpe
  refine SL.as rfl <| SL.nil <| T.condF rfl <| T.seq <| T.region <| SL.mv rfl <| SL.w (op_callJ en103 rfl (vs := [_, _]) rfl (racc_spec hT hS3) (by repeat constructor)) ?_
  rintro _ _ X4 ⟨_, rfl, hX4, i4, off4, e4, _, rfl, hS4, rfl, rfl⟩
  have hT := hT.mono hX4
  by_cases h4 : isT wMembers (t :: r) = true
  · rw [htl wMembers h4] at hS4 ⊢
    rw [if_pos h4] at hpe
    have h0 := namesQ_start (op := 6) (several := false) (st := .ok r)
    have hshn := ((expM_sh (w := wLp) (st := .ok r)).trans namM_sh).trans (expM_sh (w := wRp))
    rw [if_neg (by decide), namesG_stop (.inr rfl)] at h0
    refine SL.as rfl <| SL.nil <| T.condT rfl <| T.seq <| T.region <| SL.mv rfl <| SL.w (op_callJ en122 rfl (vs := [_, _]) rfl (rexp_spec hT hS4) (by repeat constructor)) ?_
    rintro _ _ Y1 ⟨_, rfl, hY1, j1, of1, er1, _, rfl, hZ1, rfl⟩
    have hT := hT.mono hY1
    refine SL.nil <| T.seq <| T.region <| SL.mv rfl <| SL.w (op_callJ en123 rfl (vs := [_]) rfl (rnam_spec hT hZ1) (by repeat constructor)) ?_
    rintro _ _ Y2 ⟨_, rfl, hY2, j2, of2, er2, _, rfl, hZ2, rfl, rfl⟩
    have hT := hT.mono hY2
    refine SL.w (op_buildSlice Tryz.underlying37 bs9 (qs := [(0, _)]) rfl rfl rfl rfl rfl) ?_
    rintro _ _ _ ⟨B56, rfl, rfl, rfl⟩
    refine SL.v (op_build st45 (qs := [(0, _), (2, _)]) rfl rfl) <| SL.w (op_alloc z45) ?_
    rintro _ _ _ ⟨B5, rfl, rfl, rfl⟩
    refine SL.w (op_store ty45 rfl rfl (by repeat constructor) rfl rfl rfl) ?_
    rintro _ _ _ ⟨rfl, rfl⟩
    refine SL.nil <| T.seq <| T.region <| SL.mv rfl <| SL.w (op_callJ en122 rfl (vs := [_, _]) rfl (rexp_spec hT hZ2) (by repeat constructor)) ?_
    rintro _ _ Y3 ⟨_, rfl, hY3, j3, of3, er3, _, rfl, hZ3, rfl⟩
    refine SL.nil <| T.seq <| T.region <| SL.v (op_load ty45 rfl (by repeat constructor) rfl) ?_
    refine SL.w (op_store ty45 rfl rfl (by repeat constructor) rfl rfl rfl) ?_
    rintro _ _ _ ⟨rfl, rfl⟩
    refine SL.nil <| T.drop B5 (by repeat constructor) ?_
    refine T.pub B56 (by repeat constructor) ?_
    intro Y4 hY4 hB56 _
    refine T.retM1S [_] _ rfl (ResIs.cell rfl ty45 (by repeat constructor) rfl) (List.sublist_cons_self _ _) (List.Perm.refl _) ?_
    refine ⟨(((((((PMap.le_refl X).trans' hX1).trans' hX2).trans' hX3).trans' hX4).trans' hY1).trans' hY2).trans' (hY3.trans' hY4), _, rfl, j3, of3, er3, _, rfl, hZ3, _, (_, _, _, _), rfl, .mk (ns := [(namM (expM wLp (.ok r))).1]) (.inr ⟨by simp, B56, 1, [], rfl, hB56, by simp, by decide⟩) (.inl ⟨rfl, _, _, rfl⟩) (rows := []) (al := []) rfl (fun i a r h => absurd h (by simp)), ?_, hshr.trans hshn⟩
    rw [runM, hpe, show namesQ 6 false r = runM (namesQ 6 false) (.ok r) from rfl, h0]
    show Out (runM (fun l => bindR (expT wRp l) fun _ l4 => Except.ok (Ex.mk 6 0 [(namM (expM wLp (.ok r))).1] [], l4)) _) _ _
    rw [runM_exp]
    exact out_ok rfl
  have h4 : isT wMembers (t :: r) = false := by simpa using h4
  rw [htf wMembers h4] at hS4 ⊢
  rw [if_neg (by rw [h4]; decide)] at hpe
  refine SL.as rfl <| SL.nil <| T.condF rfl <| T.seq <| T.region <| SL.mv rfl <| SL.w (op_callJ en103 rfl (vs := [_, _]) rfl (racc_spec hT hS4) (by repeat constructor)) ?_
  rintro _ _ X5 ⟨_, rfl, hX5, i5, off5, e5, _, rfl, hS5, rfl, rfl⟩
  have hT := hT.mono hX5
  by_cases h5 : isT wLp (t :: r) = true
  · rw [htl wLp h5] at hS5 ⊢
    rw [if_pos h5] at hpe
    refine SL.as rfl <| SL.nil <| T.condT rfl <| T.seq <| T.region <| SL.mv rfl <| SL.w (op_callJ en49 rfl (vs := [_]) rfl (hex hT hS5 hfr) (by repeat constructor)) ?_
    rintro _ _ Y1 ⟨_, rfl, hY1, j1, off9, e9, sa, rfl, hS9, x9, r9, rfl, hx9, hO9, hsh9⟩
    obtain ⟨o9, n9, a9, b9, l9, c9, m9, d9, rfl⟩ := hx9.form
    have hT := hT.mono hY1
    refine SL.w (op_alloc z45) ?_
    rintro _ _ _ ⟨B6, rfl, rfl, rfl⟩
    refine SL.w (op_store ty45 rfl rfl (by repeat constructor) rfl rfl rfl) ?_
    rintro _ _ _ ⟨rfl, rfl⟩
    refine SL.nil <| T.seq <| T.region <| SL.mv rfl <| SL.w (op_callJ en122 rfl (vs := [_, _]) rfl (rexp_spec hT hS9) (by repeat constructor)) ?_
    rintro _ _ Y2 ⟨_, rfl, hY2, j2, off8, e8, _, rfl, hS8, rfl⟩
    refine SL.nil <| T.seq <| T.region <| SL.v (op_load ty45 rfl (by repeat constructor) rfl) ?_
    refine SL.w (op_store ty45 rfl rfl (by repeat constructor) rfl rfl rfl) ?_
    rintro _ _ _ ⟨rfl, rfl⟩
    refine SL.nil <| T.drop B6 (by repeat constructor) ?_
    refine T.retM1S [_] _ rfl (ResIs.cell rfl ty45 (by repeat constructor) rfl) (List.sublist_cons_self _ _) (List.Perm.refl _) ?_
    refine ⟨(((((hX1.trans' hX2).trans' hX3).trans' hX4).trans' hX5).trans' hY1).trans' hY2, _, rfl, j2, off8, e8, _, rfl, hS8, x9, (_, _, _, _), rfl, hx9.mono hY2, ?_, (hshr.trans hsh9).trans expM_sh⟩
    rw [runM, hpe]
    show Out (runM (fun l => bindR (ex l) fun x l' => bindR (expT wRp l') fun _ l'' => Except.ok (x, l'')) (Except.ok r)) _ _
    rw [runM_par hO9, runM_exp]
    exact out_ok rfl
  have h5 : isT wLp (t :: r) = false := by simpa using h5
  rw [htf wLp h5] at hS5 ⊢
  rw [if_neg (by rw [h5]; decide)] at hpe
  refine SL.as rfl <| SL.nil <| T.condF rfl <| T.skip <| T.blk <| T.seq <| T.region <| SL.mv rfl <| SL.w (op_callJ en123 rfl (vs := [_]) rfl (rnam_spec hT hS5) (by repeat constructor)) ?_
  rintro _ _ Y1 ⟨_, rfl, hY1, j1, off9, e9, _, rfl, hS9, rfl, rfl⟩
  refine SL.w (op_buildSlice Tryz.underlying37 bs9 (qs := [(0, _)]) rfl rfl rfl rfl rfl) ?_
  rintro _ _ _ ⟨B71, rfl, rfl, rfl⟩
  refine SL.v (op_build st45 (qs := [(0, _), (2, _)]) rfl rfl) <| SL.w (op_store ty45 rfl rfl (by repeat constructor) rfl rfl rfl) ?_
  rintro _ _ _ ⟨rfl, rfl⟩
  refine SL.nil <| T.perm (List.Perm.swap _ _ _) ?_
  refine T.pub B71 (by repeat constructor) ?_
  intro Y2 hY2 hB73 _
  refine T.retM1S [_] _ rfl (ResIs.cell rfl ty45 (by repeat constructor) rfl) (List.sublist_cons_self _ _) (List.Perm.refl _) ?_
  refine ⟨(((((hX1.trans' hX2).trans' hX3).trans' hX4).trans' hX5).trans' hY1).trans' hY2, _, rfl, j1, off9, e9, _, rfl, hS9, _, (_, _, _, _), rfl, .mk (ns := [(namM (.ok (t :: r))).1]) (.inr ⟨by simp, B71, 1, [], rfl, hB73, by simp, by decide⟩) (.inl ⟨rfl, _, _, rfl⟩) (rows := []) (al := []) rfl (fun i a r h => absurd h (by simp)), ?_, namM_sh⟩
  rw [runM, hpe]
  show Out (runM (fun l => bindR (nameT l) fun s l' => Except.ok (Ex.mk 4 0 [s] [], l')) (Except.ok (t :: r))) _ _
  rw [runM_nam]
  exact out_ok rfl
end Go.Proofs.YtnabbnhefjfegaaGreatDoor
namespace Go.Proofs.YtnabbnhefjfegaaGreatDoor
open Go.RowKit
theorem rexpr_all : ∀ f : Nat, SpecQ Tryz.prog 49 (exprP (f + 1)) (f + 1)
  | 0 => rexpression_spec (rprimary_spec (f := 0) fun {_ _ _ _ _ _ _ _} _ _ h => absurd h (Nat.not_lt_zero _))
  | f + 1 => rexpression_spec (rprimary_spec fun {_ _ _ _ _ _ _ _} hT hS hf => rexpr_all f hT hS fun l hl => by cases hl; exact hf)
end Go.Proofs.YtnabbnhefjfegaaGreatDoor
namespace Go.Proofs.YtnabbnhefjfegaaGreatDoor
open Go.RowKit
abbrev r1 : Row4 := (.int .i64 0, .int .i64 0, .slice none 0 0, .slice none 0 0)
end Go.Proofs.YtnabbnhefjfegaaGreatDoor
namespace Go.Proofs.YtnabbnhefjfegaaGreatDoor
section
set_option maxRecDepth 100000
theorem en48 : Enters Tryz.prog 48 := enters_mk Tryz.func48 (by kernel_rfl) rfl
theorem fv110_0 : FVal Tryz.prog 110 0 0 false 1 := ⟨⟨_, _, Tryz.underlying110, rfl, rfl, ty3⟩⟩
theorem z107 : Zero Tryz.prog 107 [.slice none 0 0, .int .i64 0, .int .i64 0, .int .i64 0] := ⟨zero_of (by kernel_rfl)⟩
theorem st107 : StT Tryz.prog 107 [(0, 1), (1, 1), (2, 1), (3, 1)] [.slice none 0 0, .int .i64 0, .int .i64 0, .int .i64 0] := ⟨⟨_, Tryz.underlying107, fun _ => by kernel_rfl, z107⟩⟩
end
open Go.RowKit
theorem scanG_num (N : Nat) : ∀ (f : Nat) (l : List UInt8) (ts : List Tk), scanG N f l = .ok ts → ∀ t ∈ ts, t.kind = 2 → t.num ≤ 999999
  | 0, l, ts, h => by cases h
  | f + 1, l, ts, h => by
    rw [scanG] at h
    cases hk : skipL false l with
    | nil =>
      rw [hk] at h
      simp only [Except.ok.injEq] at h
      intro t ht h2
      rw [← h] at ht
      rw [List.mem_singleton.1 ht] at h2
      cases h2
    | cons b r =>
      rw [hk] at h
      simp only at h
      cases ht : tok1 (b :: r) with
      | none => rw [ht] at h; cases h
      | some x =>
        obtain ⟨k, t, n⟩ := x
        rw [ht] at h
        simp only at h
        cases hr : scanG N f ((b :: r).drop t.length) with
        | error o => rw [hr] at h; cases h
        | ok us =>
          rw [hr] at h
          simp only [consR, Except.ok.injEq] at h
          intro u hu h2
          rw [← h] at hu
          rcases List.mem_cons.1 hu with rfl | hu
          · obtain ⟨_, hn2, _⟩ := tok1_pre ht
            obtain ⟨rfl, h6, hd⟩ := hn2 h2
            have := valL_lt t.length t rfl hd
            have h10 : 10 ^ t.length ≤ 10 ^ 6 := Nat.pow_le_pow_right (by decide) h6
            show valL t ≤ 999999
            omega
          · exact scanG_num N f _ us hr u hu h2
theorem begM_ok {s : ByteArray} {ts : List Tk} (h : begM s = .ok ts) : s.size ≤ 8000 ∧ scanL s.size (bl s) = .ok ts := by
  rw [begM] at h
  split at h
  · cases h
  · rename_i h8
    split at h
    · rename_i us hsc
      simp only [Except.ok.injEq] at h
      exact ⟨by omega, by rw [hsc, h]⟩
    · cases h
theorem tksI_of {X : PMap} {v : Value} {s : ByteArray} {ts : List Tk} (h : begM s = .ok ts) (hR : RowR rcTi X v ts) : TksI X v ts ∧ 0 < ts.length ∧ ts.length ≤ 8001 := by
  obtain ⟨h8, hsc⟩ := begM_ok h
  obtain ⟨ts0, rfl, hl0, hk0⟩ := scanL_fin hsc
  rw [bl_size] at hl0
  have hll : (ts0 ++ [(⟨0, ⟨#[]⟩, 0, s.size⟩ : Tk)]).length = ts0.length + 1 := by simp
  exact ⟨⟨hR, by omega, fun t ht => by
    rw [hll, Nat.add_sub_cancel, List.getElem?_append_right (Nat.le_refl _), Nat.sub_self] at ht
    cases ht; rfl, scanG_num _ _ _ _ hsc⟩, by omega, by omega⟩
theorem rexpr17_spec {X : PMap} {s : ByteArray} (hs : s.size < 1000000000) : Spec Tryz.prog 21 [.string s] X fun u X' => match exprM s with
    | .error x => u = .tuple #[.agg #[.int .i64 0, .int .i64 0, .slice none 0 0, .slice none 0 0], .int .i64 (x.1 : Int), .int .i64 x.2]
    | .ok e => ∃ r : Row4, u = .tuple #[.agg #[r.1, r.2.1, r.2.2.1, r.2.2.2], .int .i64 0, .int .i64 0] ∧ ExR .i64 X' e r := by
  cases hb : begM s with
  | error x =>
    have hm : exprM s = .error x := by rw [exprM, hb]
    have hb0 := hb
    rw [begM] at hb
    by_cases h8 : 8000 < s.size
    · rw [if_pos h8] at hb
      simp only [Except.error.injEq] at hb
      subst hb
      refine Spec.enter Tryz.func21 rfl Tryz.ntmps21 rfl ?_
      intro w0 hw0
      refine T.seq <| T.region <| SL.w (op_alloc z45) ?_
      rintro _ _ _ ⟨B2, rfl, rfl, rfl⟩
      refine SL.v (op_assign (v := .int .i64 ((0 : Nat) : Int)) rfl) <| SL.v (op_assign (v := .int .i64 ((0 : Nat) : Int)) rfl) <| SL.nil <| T.seq <| T.region <| SL.mv rfl <| SL.w (op_callF en48 (vs := [_]) rfl (rscan_spec hs)) ?_
      rintro u1 _ X1 ⟨rfl, hX1, hu1⟩
      rw [if_pos h8] at hu1
      subst hu1
      refine SL.mv rfl <| SL.v (op_extract rfl rfl) <| SL.v (op_extract rfl rfl) <| SL.v (op_extract rfl rfl) <| SL.as rfl <| SL.as rfl <| SL.as rfl <| SL.nil <| T.seq <| T.seq <| T.region <| SL.mv rfl <| SL.v (op_neqT rfl rfl (by omega)) ?_
      refine SL.nil <| T.condT rfl <| T.seq <| T.region <| SL.v (op_build st45 (qs := []) rfl rfl) <| SL.mv rfl <| SL.mv rfl <| SL.w (op_store ty45 rfl rfl (by repeat constructor) rfl rfl rfl) ?_
      rintro _ _ _ ⟨rfl, rfl⟩
      refine SL.as rfl <| SL.as rfl <| SL.nil <| T.ret3C rfl (ResIs.cell rfl ty45 (by repeat constructor) rfl) (ResIs.tmp rfl) (ResIs.tmp rfl) ?_
      rw [hm]
      rfl
    · rw [if_neg h8] at hb
      cases hsc : scanL s.size (bl s) with
      | ok ts => rw [hsc] at hb; cases hb
      | error o =>
        rw [hsc] at hb
        simp only [Except.error.injEq] at hb
        subst hb
        refine Spec.enter Tryz.func21 rfl Tryz.ntmps21 rfl ?_
        intro w0 hw0
        refine T.seq <| T.region <| SL.w (op_alloc z45) ?_
        rintro _ _ _ ⟨B2, rfl, rfl, rfl⟩
        refine SL.v (op_assign (v := .int .i64 ((0 : Nat) : Int)) rfl) <| SL.v (op_assign (v := .int .i64 ((0 : Nat) : Int)) rfl) <| SL.nil <| T.seq <| T.region <| SL.mv rfl <| SL.w (op_callF en48 (vs := [_]) rfl (rscan_spec hs)) ?_
        rintro u1 _ X1 ⟨rfl, hX1, hu1⟩
        rw [if_neg h8, hsc] at hu1
        simp only at hu1
        subst hu1
        refine SL.mv rfl <| SL.v (op_extract rfl rfl) <| SL.v (op_extract rfl rfl) <| SL.v (op_extract rfl rfl) <| SL.as rfl <| SL.as rfl <| SL.as rfl <| SL.nil <| T.seq <| T.seq <| T.region <| SL.mv rfl <| SL.v (op_neqT rfl rfl (by omega)) ?_
        refine SL.nil <| T.condT rfl <| T.seq <| T.region <| SL.v (op_build st45 (qs := []) rfl rfl) <| SL.mv rfl <| SL.mv rfl <| SL.w (op_store ty45 rfl rfl (by repeat constructor) rfl rfl rfl) ?_
        rintro _ _ _ ⟨rfl, rfl⟩
        refine SL.as rfl <| SL.as rfl <| SL.nil <| T.ret3C rfl (ResIs.cell rfl ty45 (by repeat constructor) rfl) (ResIs.tmp rfl) (ResIs.tmp rfl) ?_
        rw [hm]
        rfl
  | ok ts =>
    obtain ⟨h8, hsc⟩ := begM_ok hb
    refine Spec.enter Tryz.func21 rfl Tryz.ntmps21 rfl ?_
    intro w0 hw0
    refine T.seq <| T.region <| SL.w (op_alloc z45) ?_
    rintro _ _ _ ⟨B2, rfl, rfl, rfl⟩
    refine SL.v (op_assign (v := .int .i64 ((0 : Nat) : Int)) rfl) <| SL.v (op_assign (v := .int .i64 ((0 : Nat) : Int)) rfl) <| SL.nil <| T.seq <| T.region <| SL.mv rfl <| SL.w (op_callF en48 (vs := [_]) rfl (rscan_spec hs)) ?_
    rintro u1 _ X1 ⟨rfl, hX1, hu1⟩
    rw [if_neg (by omega), hsc] at hu1
    simp only at hu1
    obtain ⟨v, rfl, hR⟩ := hu1
    obtain ⟨hT, h0, hl8⟩ := tksI_of hb hR
    obtain ⟨A, cp, rfl⟩ := hR.form
    refine SL.mv rfl <| SL.v (op_extract rfl rfl) <| SL.v (op_extract rfl rfl) <| SL.v (op_extract rfl rfl) <| SL.as rfl <| SL.as rfl <| SL.as rfl <| SL.nil <| T.seq <| T.seq <| T.region <| SL.mv rfl <| SL.v (op_neqF rfl rfl (by omega)) ?_
    refine SL.nil <| T.condF rfl <| T.skip <| T.seq <| T.region <| SL.mv rfl <| SL.v (op_build st107 (qs := [(0, _)]) rfl rfl) <| SL.w (op_box rfl) ?_
    rintro _ _ _ ⟨B24, rfl, rfl, rfl⟩
    refine SL.as rfl <| SL.nil <| T.seq <| T.region <| SL.mv rfl <| SL.w (op_callJ en49 rfl (vs := [_]) rfl (rexpr_all ts.length hT (RdS.zero h0) (fun l h => by cases h; exact Nat.lt_succ_self _)) (by repeat constructor)) ?_
    rintro _ _ X2 ⟨_, rfl, hX2, i2, off2, e2, sa, rfl, hS2, x, q, rfl, hx, hO, hsh⟩
    obtain ⟨o9, n9, a9, b9, l9, c9, m9, d9, rfl⟩ := hx.form
    have hT := hT.mono hX2
    obtain ⟨t, ht⟩ := hS2.tok
    have hrun := exprM_run hb hO
    refine SL.w (op_alloc z45) ?_
    rintro _ _ _ ⟨B9, rfl, rfl, rfl⟩
    refine SL.w (op_store ty45 rfl rfl (by repeat constructor) rfl rfl rfl) ?_
    rintro _ _ _ ⟨rfl, rfl⟩
    refine SL.nil <| T.seq <| T.meet (fun _ env own X' => ∃ (i off : Nat) (e : Int), X2.le X' ∧ RdS ts (endM sa) i off e ∧ env = [(2, .pointer (some ⟨B2, 0, none⟩)), (8, .pointer (some ⟨B24, 0, none⟩)), (9, .pointer (some ⟨B9, 0, none⟩))] ∧ own = IOw B9 (.int .i64 (o9 : Int), .int .i64 n9, .slice a9 l9 c9, .slice b9 m9 d9) :: RdI B24 (.slice A ts.length cp) i off e :: [I0 B2]) ?_ ?_
    · by_cases he2 : e2 = 0
      · obtain ⟨l, rfl⟩ : ∃ l, sa = .ok l := by
          obtain ⟨_, h2⟩ := hS2
          cases sa with
          | error y => exact absurd (h2.2.1.symm.trans he2) h2.2.2
          | ok l => exact ⟨l, rfl⟩
        have hll : l = t :: ts.drop (i2 + 1) := by rw [hS2.2.2.2]; exact drop_tok ht
        refine T.seq <| T.region <| SL.mv rfl <| SL.v (op_nil rfl) <| SL.v (op_fieldAddr fa107_3 rfl) <| SL.v (op_load ty3 rfl (by repeat constructor) rfl) ?_
        refine SL.v (op_eqlT rfl rfl (by omega)) ?_
        refine SL.mv rfl <| SL.mv rfl <| SL.w (op_callLend en50 (vs := [_]) rfl ((fun X1 h1 h2 => (rpeek_spec (hT.row.mono h1) hT.len (h2 (RdI B24 _ i2 off2 e2) (by simp)) ht : Spec _ _ _ _ fun u _ => u = .agg (rcTi (pk e2 t)).toArray)))) ?_
        rintro _ _ _ ⟨rfl, rfl, rfl⟩
        rw [pk, if_pos he2, show (rcTi t).toArray = #[.int .i64 (t.kind : Int), .string t.text, .int .i64 (t.num : Int), .int .i64 (t.off : Int)] from rfl]
        by_cases hk : t.kind = 0
        · have he : endM (.ok l) = .ok l := by rw [endM, hll]; exact if_pos hk
          refine SL.v (op_field1 fv110_0 rfl rfl) <| SL.v (op_neqF rfl rfl (by omega)) ?_
          refine SL.v (op_pickT rfl rfl) <| SL.nil <| T.condF rfl <| T.skip ?_
          exact T.backW 0 (by omega) ⟨i2, off2, e2, PMap.le_refl _, by rw [he]; exact hS2, rfl, rfl⟩ (by repeat (first | exact Sub.nil | refine Sub.cons rfl ?_))
        · have he : endM (.ok l) = failM 8 (.ok l) := by rw [endM, hll]; exact if_neg hk
          refine SL.v (op_field1 fv110_0 rfl rfl) <| SL.v (op_neqT rfl rfl (by omega)) ?_
          refine SL.v (op_pickT rfl rfl) <| SL.nil <| T.condT rfl <| T.region <| SL.mv rfl <| SL.w (op_callJ en51 rfl (vs := [_, _]) rfl (rfailR_spec hT hS2 (by decide)) (by repeat constructor)) ?_
          rintro _ _ X3 ⟨_, rfl, hX3, i3, off3, e3, _, rfl, hS3, rfl⟩
          refine SL.nil ?_
          exact T.backW 0 (by omega) ⟨i3, off3, e3, hX3, by rw [he]; exact hS3, rfl, rfl⟩ (by repeat (first | exact Sub.nil | refine Sub.cons rfl ?_))
      · have he : endM sa = sa := by
          obtain ⟨_, h2⟩ := hS2
          cases sa with
          | error y => rfl
          | ok l => exact absurd h2.2.1 he2
        refine T.seq <| T.region <| SL.mv rfl <| SL.v (op_nil rfl) <| SL.v (op_fieldAddr fa107_3 rfl) <| SL.v (op_load ty3 rfl (by repeat constructor) rfl) ?_
        refine SL.v (op_eqlF rfl rfl (by omega)) ?_
        refine SL.mv rfl <| SL.skip rfl rfl ?_
        refine SL.skip rfl rfl ?_
        refine SL.skip rfl rfl ?_
        refine SL.skip rfl rfl ?_
        refine SL.v (op_pickF rfl rfl) <| SL.nil <| T.condF rfl <| T.skip ?_
        exact T.backW 0 (by omega) ⟨i2, off2, e2, PMap.le_refl _, by rw [he]; exact hS2, rfl, rfl⟩ (by repeat (first | exact Sub.nil | refine Sub.cons rfl ?_))
    rintro _ _ _ X4 ⟨i4, off4, e4, hX4, hS4, rfl, rfl⟩
    cases hen : endM sa with
    | error y =>
      rw [hen] at hS4 hrun
      obtain ⟨_, rfl, rfl, hy⟩ := hS4
      obtain ⟨o, c⟩ := y
      simp only at hy
      refine T.seq <| T.seq <| T.region <| SL.mv rfl <| SL.v (op_nil rfl) <| SL.v (op_fieldAddr fa107_3 rfl) <| SL.v (op_load ty3 rfl (by repeat constructor) rfl) ?_
      refine SL.v (op_neqT rfl rfl (by omega)) ?_
      refine SL.nil <| T.condT rfl <| T.seq <| T.drawG (own0 := [_, _]) (by kernel_rfl) 11 [.t 0, .t 1, .t 2, .t 3, .t 4, .t 5, .t 6, .t 7, .t 8, .r 9, .t 10] (by kernel_rfl) ?_
      refine SD.take rfl panicBody (op_build st45 (qs := []) rfl rfl) rfl rfl ?_
      refine SD.take rfl panicBody (op_move rfl) rfl rfl ?_
      refine SD.take rfl panicBody (op_nil rfl) rfl rfl ?_
      refine SD.take rfl panicBody (op_fieldAddr fa107_2 rfl) rfl rfl ?_
      refine SD.take rfl panicBody (op_load ty3 rfl (by repeat constructor) rfl) rfl rfl ?_
      refine SD.take rfl panicBody (op_move rfl) rfl rfl ?_
      refine SD.take rfl panicBody (op_nil rfl) rfl rfl ?_
      refine SD.take rfl panicBody (op_fieldAddr fa107_3 rfl) rfl rfl ?_
      refine SD.take rfl panicBody (op_load ty3 rfl (by repeat constructor) rfl) rfl rfl ?_
      refine SD.runK rfl (op_store ty45 rfl rfl (.there (.there .here)) rfl rfl rfl) (by rintro _ _ _ ⟨rfl, rfl⟩; exact ⟨keep2, PMap.le_refl _⟩) rfl rfl ?_
      rintro _ _ _ ⟨rfl, rfl⟩
      refine SD.take rfl panicBody (op_assign rfl) rfl rfl ?_
      refine SD.nil ?_
      show SL _ _ _ _ _ _ _ [_] _ _ _
      refine SL.as rfl <| SL.nil <| T.ret3C rfl (ResIs.cell rfl ty45 (by repeat constructor) rfl) (ResIs.tmp rfl) (ResIs.tmp rfl) ?_
      rw [hrun]
      rfl
    | ok l =>
      rw [hen] at hS4 hrun
      obtain ⟨_, rfl, rfl, _⟩ := hS4
      have hwx : wtE x < 100000000 := by
        simp only [runM] at hO
        cases he : exprP (ts.length + 1) ts with
        | error y => rw [he] at hO; simp only [Out] at hO; subst hO; cases hen
        | ok y =>
          rw [he] at hO
          obtain ⟨rfl, rfl⟩ := hO
          have := exprP_wt _ _ _ _ he
          omega
      have hc := rchk_spec hwx (hx.mono hX4)
      try simp only at hc
      refine T.seq <| T.seq <| T.region <| SL.mv rfl <| SL.v (op_nil rfl) <| SL.v (op_fieldAddr fa107_3 rfl) <| SL.v (op_load ty3 rfl (by repeat constructor) rfl) ?_
      refine SL.v (op_neqF rfl rfl (by omega)) ?_
      refine SL.nil <| T.condF rfl <| T.skip <| T.seq <| T.seq <| T.region <| SL.v (op_load ty45 rfl (by repeat constructor) rfl) ?_
      refine SL.w (op_callF en28 (vs := [_]) rfl (hc)) ?_
      rintro _ _ X5 ⟨rfl, hX5, rfl⟩
      by_cases hcz : chkE x = 0
      · skip
        refine SL.as rfl <| SL.nil <| T.seq <| T.region <| SL.mv rfl <| SL.v (op_neqF rfl rfl (by omega)) ?_
        refine SL.nil <| T.condF rfl <| T.skip <| T.seq <| T.region <| SL.v (op_load ty45 rfl (by repeat constructor) rfl) ?_
        refine SL.w (op_store ty45 rfl rfl (by repeat constructor) rfl rfl rfl) ?_
        rintro _ _ _ ⟨rfl, rfl⟩
        refine SL.v (op_assign (v := .int .i64 ((0 : Nat) : Int)) rfl) <| SL.v (op_assign (v := .int .i64 ((0 : Nat) : Int)) rfl) <| SL.nil <| T.ret3C rfl (ResIs.cell rfl ty45 (by repeat constructor) rfl) (ResIs.tmp rfl) (ResIs.tmp rfl) ?_
        rw [hrun, if_pos hcz]
        exact ⟨(_, _, _, _), rfl, (hx.mono hX4).mono hX5⟩
      · refine SL.as rfl <| SL.nil <| T.seq <| T.region <| SL.mv rfl <| SL.v (op_neqT rfl rfl (by omega)) ?_
        refine SL.nil <| T.condT rfl <| T.seq <| T.region <| SL.v (op_build st45 (qs := []) rfl rfl) <| SL.mv rfl <| SL.w (op_store ty45 rfl rfl (by repeat constructor) rfl rfl rfl) ?_
        rintro _ _ _ ⟨rfl, rfl⟩
        refine SL.v (op_assign (v := .int .i64 ((0 : Nat) : Int)) rfl) <| SL.as rfl <| SL.nil <| T.ret3C rfl (ResIs.cell rfl ty45 (by repeat constructor) rfl) (ResIs.tmp rfl) (ResIs.tmp rfl) ?_
        rw [hrun, if_neg hcz]
        rfl
end Go.Proofs.YtnabbnhefjfegaaGreatDoor
namespace Go.Proofs.YtnabbnhefjfegaaGreatDoor
open Go.RowKit
def errN {α : Type} (r : Res α) : Prop := ∀ x, r = .error x → x.2 ≠ 0
theorem bindR_N {α β : Type} {x : Res α} {f : α → List Tk → Res β} (h : errN x) (hf : ∀ a l, errN (f a l)) : errN (bindR x f) := by
  cases x with
  | error e => intro y hy; cases hy; exact h e rfl
  | ok y => exact hf y.1 y.2
theorem if_N {α : Type} {c : Prop} [Decidable c] {x y : Res α} (h1 : errN x) (h2 : errN y) : errN (if c then x else y) := by
  split
  · exact h1
  · exact h2
theorem ok_N {α : Type} {a : α × List Tk} : errN (.ok a) := fun x h => by cases h
theorem err_N {α : Type} {o : Nat} {c : Int} (h : c ≠ 0) : errN (.error (o, c) : Res α) := fun x hx => by cases hx; exact h
theorem nameT_N : ∀ l, errN (nameT l)
  | [] => err_N (by decide)
  | t :: l => if_N (err_N (by decide)) (if_N (err_N (by decide)) ok_N)
theorem expT_N {w : ByteArray} (l : List Tk) : errN (expT w l) := if_N ok_N (err_N (by decide))
theorem leftG_N {w : ByteArray} {op : Nat} {p : ParP} (hp : ∀ l, errN (p l)) : ∀ (k : Nat) (x : Ex) (l : List Tk), errN (leftG w op p k x l)
  | 0, x, l => ok_N
  | k + 1, x, l => if_N (bindR_N (hp _) fun y l' => leftG_N hp k _ l') ok_N
theorem leftP_N {w : ByteArray} {op : Nat} {p : ParP} (hp : ∀ l, errN (p l)) (l : List Tk) : errN (leftP w op p l) := bindR_N (hp l) fun x l' => leftG_N hp _ _ _
theorem cmpP_N {p : ParP} (hp : ∀ l, errN (p l)) (l : List Tk) : errN (cmpP p l) := by
  rw [cmpP_eq]
  refine bindR_N (leftP_N hp l) fun x l' => ?_
  cases cmps.find? fun c => isT c.1 l' with
  | none => exact ok_N
  | some c => exact bindR_N (leftP_N hp _) fun y l'' => ok_N
theorem negP_N {p : ParP} (hp : ∀ l, errN (p l)) : ∀ k l, errN (negP p k l)
  | 0, _ => err_N (by decide)
  | k + 1, l => if_N (bindR_N (negP_N hp k _) fun x l' => ok_N) (cmpP_N hp l)
theorem implP_N {p : ParP} (hp : ∀ l, errN (p l)) : ∀ k l, errN (implP p k l)
  | 0, _ => err_N (by decide)
  | k + 1, l => bindR_N (leftP_N (leftP_N fun l => negP_N hp _ l) l) fun x l' => if_N (bindR_N (implP_N hp k _) fun y l'' => ok_N) ok_N
theorem namesG_N : ∀ (k : Nat) (ns : List ByteArray) (l : List Tk), errN (namesG k ns l)
  | 0, ns, _ => ok_N
  | k + 1, ns, l => if_N (bindR_N (nameT_N _) fun s l' => namesG_N k _ l') ok_N
theorem namesP_N {several : Bool} (l : List Tk) : errN (namesP several l) :=
  bindR_N (expT_N l) fun _ l1 => bindR_N (nameT_N l1) fun s l2 => bindR_N (namesG_N _ _ l2) fun ns l3 => bindR_N (expT_N l3) fun _ l4 => ok_N
theorem primP_N {ex : ParP} (hx : ∀ l, errN (ex l)) : ∀ l, errN (primP ex l)
  | [] => err_N (by decide)
  | t :: l => if_N ok_N (if_N ok_N (if_N ok_N (if_N (bindR_N (namesP_N l) fun _ _ => ok_N) (if_N (bindR_N (namesP_N l) fun _ _ => ok_N) (if_N (bindR_N (hx l) fun x l' => bindR_N (expT_N l') fun _ _ => ok_N) (bindR_N (nameT_N _) fun _ _ => ok_N))))))
theorem exprP_N : ∀ f l, errN (exprP f l)
  | 0, _ => err_N (by decide)
  | f + 1, l => implP_N (primP_N (exprP_N f)) _ l
end Go.Proofs.YtnabbnhefjfegaaGreatDoor
namespace Go.Proofs.YtnabbnhefjfegaaGreatDoor
open Go.RowKit
mutual
theorem ops_of : ∀ e : Ex, nodeE e = 0 → opsE e
  | .mk op n ns al, h => by
    obtain ⟨h1, h2⟩ := node_ok h
    obtain ⟨_, o2, _⟩ := own_ok h1
    exact (show op < 256 ∧ opsL al from ⟨by omega, ops_ofL al h2⟩)
theorem ops_ofL : ∀ l : List Ex, nodeL l = 0 → opsL l
  | [], _ => trivial
  | a :: l, h => by
    have h1 : nodeE a = 0 := nodeL_zero h a (by simp)
    rw [nodeL, if_neg (fun h => h h1)] at h
    exact (show opsE a ∧ opsL l from ⟨ops_of a h1, ops_ofL l h⟩)
end
theorem begM_len {s : ByteArray} {ts : List Tk} (h : begM s = .ok ts) : ts.length ≤ 8001 := by
  obtain ⟨h8, hsc⟩ := begM_ok h
  obtain ⟨ts0, rfl, hl0, _⟩ := scanL_fin hsc
  rw [bl_size] at hl0
  rw [List.length_append, List.length_singleton]; omega
theorem exprM_ok {s : ByteArray} {e : Ex} (h : exprM s = .ok e) : chkE e = 0 ∧ nodeE e = 0 ∧ wtE e < 200000 := by
  rw [exprM] at h
  cases hb : begM s with
  | error x => rw [hb] at h; cases h
  | ok ts =>
    rw [hb] at h
    simp only at h
    cases he : exprP (ts.length + 1) ts with
    | error x => rw [he] at h; cases h
    | ok y =>
      rw [he] at h
      simp only at h
      cases hen : endM (.ok y.2) with
      | error x => rw [hen] at h; cases h
      | ok l =>
        rw [hen] at h
        simp only at h
        split at h
        · rename_i hc
          simp only [Except.ok.injEq] at h
          subst h
          have h1 := exprP_wt _ _ _ _ he
          have h2 := begM_len hb
          exact ⟨hc, chkE_node hc, by omega⟩
        · cases h
theorem exprM_err {s : ByteArray} {x : Nat × Int} (h : exprM s = .error x) : x.2 ≠ 0 := by
  rw [exprM] at h
  cases hb : begM s with
  | error y => rw [hb] at h; simp only [Except.error.injEq] at h; subst h; exact begM_err hb
  | ok ts =>
    rw [hb] at h
    simp only at h
    cases he : exprP (ts.length + 1) ts with
    | error y => rw [he] at h; simp only [Except.error.injEq] at h; subst h; exact exprP_N _ _ _ he
    | ok y =>
      rw [he] at h
      simp only at h
      cases hen : endM (.ok y.2) with
      | error z =>
        rw [hen] at h
        simp only [Except.error.injEq] at h
        subst h
        rw [endM] at hen
        split at hen
        · cases hen
        · cases hen; exact (by decide : (8 : Int) ≠ 0)
      | ok l =>
        rw [hen] at h
        simp only at h
        split at h
        · cases h
        · rename_i hc
          simp only [Except.error.injEq] at h
          subst h
          exact hc
end Go.Proofs.YtnabbnhefjfegaaGreatDoor
namespace Go.Proofs.YtnabbnhefjfegaaGreatDoor
open Go.RowKit
theorem expr17_ok {X : PMap} {s : ByteArray} {e : Ex} (h : exprM s = .ok e) (hs : s.size < 1000000000) : Spec Tryz.prog 20 [.string s] X fun u X' => ∃ r : Row4, u = .tuple #[.agg #[r.1, r.2.1, r.2.2.1, r.2.2.2], .int .i64 0, .int .i64 0] ∧ ExR .u8 X' e r := by
  have := expr17_spec (X := X) hs
  simp only [h] at this
  exact this
theorem expr17_err {X : PMap} {s : ByteArray} {x : Nat × Int} (h : exprM s = .error x) (hs : s.size < 1000000000) : Spec Tryz.prog 20 [.string s] X fun u _ => u = .tuple #[.agg #[.int .u8 0, .int .i64 0, .slice none 0 0, .slice none 0 0], .int .i64 (x.1 : Int), .int .i64 x.2] := by
  have := expr17_spec (X := X) hs
  simp only [h] at this
  exact this
def aw1 : List (ByteArray × ByteArray) := [(⟨#[97, 32, 111, 114, 32, 98, 32, 97, 110, 100, 32, 110, 111, 116, 32, 99, 32, 45, 62, 32, 100]⟩, ⟨#[97, 32, 111, 114, 32, 98, 32, 97, 110, 100, 32, 110, 111, 116, 32, 99, 32, 45, 62, 32, 100]⟩), (⟨#[110, 111, 116, 40, 99, 111, 117, 110, 116, 40, 97, 44, 98, 41, 60, 61, 49, 41]⟩, ⟨#[110, 111, 116, 32, 99, 111, 117, 110, 116, 40, 97, 44, 32, 98, 41, 32, 60, 61, 32, 49]⟩), (⟨#[40, 40, 49, 41, 43, 50, 41, 43, 40, 51, 41, 60, 55]⟩, ⟨#[49, 32, 43, 32, 50, 32, 43, 32, 51, 32, 60, 32, 55]⟩)]
def aw2 : List (ByteArray × Nat × Int) := [(⟨#[97, 32, 60, 32, 98, 32, 60, 32, 99]⟩, 6, 8), (⟨#[97, 32, 97, 110, 100]⟩, 5, 8), (⟨#[97, 32, 97, 110, 100, 32, 111, 114]⟩, 6, 8), (⟨#[99, 111, 117, 110, 116, 40, 41]⟩, 6, 8), (⟨#[97, 32, 97, 110, 100, 32, 116, 104, 105, 114, 116, 101, 101, 110, 95, 108, 111, 110, 103]⟩, 6, 9), (⟨#[99, 111, 117, 110, 116, 40, 97, 44, 32, 97, 41, 32, 61, 61, 32, 49]⟩, 0, 5)]
def rcA (x : ByteArray × ByteArray) : List Value := [.string x.1, .string x.2]
theorem rcA_len (x : ByteArray × ByteArray) : (rcA x).length = 2 := rfl
def rcB (x : ByteArray × Nat × Int) : List Value := [.string x.1, .int .i64 (x.2.1 : Int), .int .i64 x.2.2]
theorem rcB_len (x : ByteArray × Nat × Int) : (rcB x).length = 3 := rfl
theorem mem3 {α : Type} {a b c : α} {P : α → Prop} (h1 : P a) (h2 : P b) (h3 : P c) : ∀ x ∈ [a, b, c], P x := fun x hx => by
  simp only [List.mem_cons, List.not_mem_nil, or_false] at hx
  rcases hx with rfl | rfl | rfl
  · exact h1
  · exact h2
  · exact h3
def ex1 : Ex := .mk 10 0 [] [.mk 9 0 [] [.mk 4 0 [⟨#[97]⟩] [], .mk 8 0 [] [.mk 4 0 [⟨#[98]⟩] [], .mk 7 0 [] [.mk 4 0 [⟨#[99]⟩] []]]], .mk 4 0 [⟨#[100]⟩] []]
def ex2 : Ex := .mk 7 0 [] [.mk 11 0 [] [.mk 5 0 [⟨#[97]⟩, ⟨#[98]⟩] [], .mk 1 1 [] []]]
def ex3 : Ex := .mk 12 0 [] [.mk 16 0 [] [.mk 16 0 [] [.mk 1 1 [] [], .mk 1 2 [] []], .mk 1 3 [] []], .mk 1 7 [] []]
theorem aw1_1 : exprM ⟨#[97, 32, 111, 114, 32, 98, 32, 97, 110, 100, 32, 110, 111, 116, 32, 99, 32, 45, 62, 32, 100]⟩ = .ok ex1 := by kernel_rfl
theorem aw1c_1 : chkE ex1 = 0 := by kernel_rfl
theorem aw1t_1 : textE ex1 = ⟨#[97, 32, 111, 114, 32, 98, 32, 97, 110, 100, 32, 110, 111, 116, 32, 99, 32, 45, 62, 32, 100]⟩ := by kernel_rfl
theorem aw1w_1 : wtE ex1 < 900000 := of_decide_eq_true (by kernel_rfl)
theorem aw1_2 : exprM ⟨#[110, 111, 116, 40, 99, 111, 117, 110, 116, 40, 97, 44, 98, 41, 60, 61, 49, 41]⟩ = .ok ex2 := by kernel_rfl
theorem aw1c_2 : chkE ex2 = 0 := by kernel_rfl
theorem aw1t_2 : textE ex2 = ⟨#[110, 111, 116, 32, 99, 111, 117, 110, 116, 40, 97, 44, 32, 98, 41, 32, 60, 61, 32, 49]⟩ := by kernel_rfl
theorem aw1w_2 : wtE ex2 < 900000 := of_decide_eq_true (by kernel_rfl)
theorem aw1_3 : exprM ⟨#[40, 40, 49, 41, 43, 50, 41, 43, 40, 51, 41, 60, 55]⟩ = .ok ex3 := by kernel_rfl
theorem aw1c_3 : chkE ex3 = 0 := by kernel_rfl
theorem aw1t_3 : textE ex3 = ⟨#[49, 32, 43, 32, 50, 32, 43, 32, 51, 32, 60, 32, 55]⟩ := by kernel_rfl
theorem aw1w_3 : wtE ex3 < 900000 := of_decide_eq_true (by kernel_rfl)
theorem aw2_1 : exprM ⟨#[97, 32, 60, 32, 98, 32, 60, 32, 99]⟩ = .error (6, 8) := by kernel_rfl
theorem aw2_2 : exprM ⟨#[97, 32, 97, 110, 100]⟩ = .error (5, 8) := by kernel_rfl
theorem aw2_3 : exprM ⟨#[97, 32, 97, 110, 100, 32, 111, 114]⟩ = .error (6, 8) := by kernel_rfl
theorem aw2_4 : exprM ⟨#[99, 111, 117, 110, 116, 40, 41]⟩ = .error (6, 8) := by kernel_rfl
theorem aw2_5 : exprM ⟨#[97, 32, 97, 110, 100, 32, 116, 104, 105, 114, 116, 101, 101, 110, 95, 108, 111, 110, 103]⟩ = .error (6, 9) := by kernel_rfl
theorem aw2_6 : exprM ⟨#[99, 111, 117, 110, 116, 40, 97, 44, 32, 97, 41, 32, 61, 61, 32, 49]⟩ = .error (0, 5) := by kernel_rfl
theorem aw1_ok : ∀ x ∈ aw1, x.1.size < 1000000000 ∧ ∃ e, exprM x.1 = .ok e ∧ chkE e = 0 ∧ textE e = x.2 ∧ wtE e < 900000 :=
  mem3 ⟨of_decide_eq_true (by kernel_rfl), _, aw1_1, aw1c_1, aw1t_1, aw1w_1⟩ ⟨of_decide_eq_true (by kernel_rfl), _, aw1_2, aw1c_2, aw1t_2, aw1w_2⟩ ⟨of_decide_eq_true (by kernel_rfl), _, aw1_3, aw1c_3, aw1t_3, aw1w_3⟩
theorem aw2_ok : ∀ x ∈ aw2, x.1.size < 1000000000 ∧ exprM x.1 = .error (x.2.1, x.2.2) := fun x hx => by
  simp only [aw2, List.mem_cons, List.not_mem_nil, or_false] at hx
  rcases hx with rfl | rfl | rfl | rfl | rfl | rfl
  · exact ⟨of_decide_eq_true (by kernel_rfl), aw2_1⟩
  · exact ⟨of_decide_eq_true (by kernel_rfl), aw2_2⟩
  · exact ⟨of_decide_eq_true (by kernel_rfl), aw2_3⟩
  · exact ⟨of_decide_eq_true (by kernel_rfl), aw2_4⟩
  · exact ⟨of_decide_eq_true (by kernel_rfl), aw2_5⟩
  · exact ⟨of_decide_eq_true (by kernel_rfl), aw2_6⟩
def awS : ByteArray := ⟨#[101, 110, 102, 111, 114, 99, 101, 32, 115, 116, 97, 116, 105, 99, 32, 115, 111, 100, 58, 32, 99, 111, 117, 110, 116, 40, 97, 44, 32, 98, 41, 32, 60, 61, 32, 49, 59, 32, 35, 32, 116, 119, 111, 10, 100, 101, 99, 108, 97, 114, 101, 32, 117, 115, 101, 114, 115, 32, 117, 58, 109, 101, 109, 98, 101, 114, 115, 40, 97, 41, 62, 48, 59]⟩
def awC : List Con := [⟨true, 1, ⟨#[115, 111, 100]⟩, .mk 11 0 [] [.mk 5 0 [⟨#[97]⟩, ⟨#[98]⟩] [], .mk 1 1 [] []]⟩, ⟨false, 3, ⟨#[117]⟩, .mk 14 0 [] [.mk 6 0 [⟨#[97]⟩] [], .mk 1 0 [] []]⟩]
theorem aw3 : parseM awS = .ok awC := by kernel_rfl
end Go.Proofs.YtnabbnhefjfegaaGreatDoor
namespace Go.Proofs.YtnabbnhefjfegaaGreatDoor
section
set_option maxRecDepth 100000
theorem bs76 : ∃ i z, Tryz.prog.info? 76 = some i ∧ i.size = 2 ∧ i.zero = some z ∧ z.cells = ([.string ⟨#[]⟩, .string ⟨#[]⟩] : List Value).toArray := bs_of (by kernel_rfl)
theorem bs78 : ∃ i z, Tryz.prog.info? 78 = some i ∧ i.size = 3 ∧ i.zero = some z ∧ z.cells = ([.string ⟨#[]⟩, .int .i64 0, .int .i64 0] : List Value).toArray := bs_of (by kernel_rfl)
theorem en18 : Enters Tryz.prog 18 := enters_mk Tryz.func18 (by kernel_rfl) rfl
theorem en20 : Enters Tryz.prog 20 := enters_mk Tryz.func20 (by kernel_rfl) rfl
theorem en27 : Enters Tryz.prog 27 := enters_mk Tryz.func27 (by kernel_rfl) rfl
theorem fa76_0 : FAdr Tryz.prog 76 0 0 := fadr_mk Tryz.underlying76 rfl rfl (by kernel_rfl)
theorem fa76_1 : FAdr Tryz.prog 76 1 1 := fadr_mk Tryz.underlying76 rfl rfl (by kernel_rfl)
theorem fa78_0 : FAdr Tryz.prog 78 0 0 := fadr_mk Tryz.underlying78 rfl rfl (by kernel_rfl)
theorem fa78_1 : FAdr Tryz.prog 78 1 1 := fadr_mk Tryz.underlying78 rfl rfl (by kernel_rfl)
theorem fa78_2 : FAdr Tryz.prog 78 2 2 := fadr_mk Tryz.underlying78 rfl rfl (by kernel_rfl)
theorem z76 : Zero Tryz.prog 76 [.string ⟨#[]⟩, .string ⟨#[]⟩] := ⟨zero_of (by kernel_rfl)⟩
theorem st76 : StT Tryz.prog 76 [(0, 1), (1, 1)] [.string ⟨#[]⟩, .string ⟨#[]⟩] := ⟨⟨_, Tryz.underlying76, fun _ => by kernel_rfl, z76⟩⟩
theorem z78 : Zero Tryz.prog 78 [.string ⟨#[]⟩, .int .i64 0, .int .i64 0] := ⟨zero_of (by kernel_rfl)⟩
theorem st78 : StT Tryz.prog 78 [(0, 1), (1, 1), (2, 1)] [.string ⟨#[]⟩, .int .i64 0, .int .i64 0] := ⟨⟨_, Tryz.underlying78, fun _ => by kernel_rfl, z78⟩⟩
theorem ty76 : Ty Tryz.prog 76 true 2 := ⟨⟨_, Tryz.underlying76, rfl⟩, by kernel_rfl⟩
theorem ty78 : Ty Tryz.prog 78 true 3 := ⟨⟨_, Tryz.underlying78, rfl⟩, by kernel_rfl⟩
end
open Go.RowKit
theorem short_spec {X : PMap} {s : ByteArray} : Spec Tryz.prog 19 [.string s] X fun u _ => u = .string (s.extract 0 (min s.size 2000)) := by
  refine Spec.enter Tryz.func19 rfl Tryz.ntmps19 rfl ?_
  intro w0 hw0
  refine T.seq <| T.region <| SL.as rfl <| SL.nil <| T.seq <| T.region <| SL.mv rfl <| SL.mv rfl <| SL.v (op_lenStr Tryz.underlying9 rfl) <| SL.v (op_minN (p := s.size) (q := 2000) rfl rfl) <| SL.v (op_sliceStrHi Tryz.underlying9 rfl rfl (by omega)) ?_
  refine SL.as rfl <| SL.nil <| T.ret1 rfl (ResIs.tmp rfl) ?_
  rfl
theorem short_size (s : ByteArray) : (s.extract 0 (min s.size 2000)).size ≤ 2000 := by
  rw [ByteArray.size_extract]; omega
theorem zero_spec {X : PMap} : Spec Tryz.prog 22 [.agg #[.int .u8 0, .int .i64 0, .slice none 0 0, .slice none 0 0]] X fun u _ => u = .bool true := by
  refine Spec.enter Tryz.func22 rfl Tryz.ntmps22 rfl ?_
  intro w0 hw0
  refine T.seq <| T.region <| SL.w (op_box rfl) ?_
  rintro _ _ _ ⟨B1, rfl, rfl, rfl⟩
  refine SL.as rfl <| SL.nil <| T.seq <| T.region <| SL.v (op_fieldAddr fa40_0 rfl) <| SL.v (op_load ty36 rfl (by repeat constructor) rfl) ?_
  refine SL.v (op_eqlT rfl rfl (by omega)) ?_
  refine SL.mv rfl <| SL.v (op_fieldAddr fa40_1 rfl) <| SL.v (op_load ty3 rfl (by repeat constructor) rfl) ?_
  refine SL.v (op_eqlT rfl rfl (by omega)) ?_
  refine SL.v (op_pickT rfl rfl) <| SL.mv rfl <| SL.v (op_fieldAddr fa40_2 rfl) <| SL.v (op_load ty37 rfl (by repeat constructor) rfl) ?_
  refine SL.v (op_lenS Tryz.underlying37 rfl) <| SL.v (op_fieldAddr fa40_3 rfl) <| SL.v (op_load ty38 rfl (by repeat constructor) rfl) ?_
  refine SL.v (op_lenS Tryz.underlying38 rfl) <| SL.v (op_addN rfl rfl (by omega)) ?_
  refine SL.v (op_eqlT rfl rfl (by omega)) ?_
  refine SL.v (op_pickT rfl rfl) <| SL.as rfl <| SL.nil <| T.ret1 rfl (ResIs.tmp rfl) ?_
  rfl
theorem parse_ok {X : PMap} (hP : Pow10 X) {s : ByteArray} {cs : List Con} (h : parseM s = .ok cs) (hs : s.size < 1000000000) : Spec Tryz.prog 18 [.string s] X fun u X' => ∃ v, u = .tuple #[v, .int .i64 0, .int .i64 0] ∧ ConsR X' v cs := by
  have := parse_spec (X := X) hP hs
  simp only [h] at this
  exact this
theorem awake17_spec {X : PMap} (hP : Pow10 X) : Spec Tryz.prog 12 [] X fun u _ => u = .bool true := by
  refine Spec.enter Tryz.func12 rfl Tryz.ntmps12 rfl ?_
  intro w0 hw0
  refine T.seq <| T.region <| SL.as rfl <| SL.nil <| T.seq <| T.seq <| T.region <| SL.v (op_build st76 (qs := [(0, _), (1, _)]) rfl rfl) <| SL.v (op_build st76 (qs := [(0, _), (1, _)]) rfl rfl) <| SL.v (op_build st76 (qs := [(0, _), (1, _)]) rfl rfl) <| SL.w (op_buildSlice Tryz.underlying77 bs76 (qs := [(0, _), (1, _), (2, _)]) rfl rfl rfl rfl rfl) ?_
  rintro _ _ _ ⟨B17, rfl, rfl, rfl⟩
  refine SL.v (op_lenS Tryz.underlying77 rfl) <| SL.v (op_move (v := .int .i64 ((0 : Nat) : Int)) rfl) <| SL.nil <| T.block <| T.pub B17 (by repeat constructor) ?_
  intro X1 hX1 hB17 _
  refine T.loopW (fun m env own X' => ∃ i : Nat, m = 3 - i ∧ i ≤ 3 ∧ X1.le X' ∧ env = [(17, .slice (some ⟨B17, 0, none⟩) 3 3), (18, .int .i64 ((3 : Nat) : Int)), (19, .int .i64 (i : Int))] ∧ own = []) 3 ⟨0, by omega, by omega, PMap.le_refl _, rfl, rfl⟩ (by repeat (first | exact Sub.nil | refine Sub.cons rfl ?_)) ?_
  rintro m _ _ X2 ⟨i, rfl, hi, hX2, rfl, rfl⟩
  have hP2 := (hP.mono hX1).mono hX2
  rcases Nat.lt_or_ge i 3 with hil | hil
  · obtain ⟨x, hx⟩ : ∃ x, aw1[i]? = some x := ⟨_, List.getElem?_eq_getElem hil⟩
    obtain ⟨hsz, e, he, hc, ht, hw⟩ := aw1_ok x (List.mem_of_getElem? hx)
    refine T.seq <| T.region <| SL.v (op_lssT rfl rfl (by omega)) ?_
    refine SL.nil <| T.seq <| T.condT rfl <| T.skip <| T.seq <| T.block <| T.seq <| T.region <| SL.v (op_indexN Tryz.underlying77 ty76 rfl rfl (by omega)) ?_
    refine SL.v (op_loadX ty76 rfl (hB17.mono hX2) (row_read (pre := []) rcA_len (rs := aw1) hx (by show _ = 0 + _; omega))) ?_
    refine SL.w (op_alloc z76) ?_
    rintro _ _ _ ⟨B2, rfl, rfl, rfl⟩
    refine SL.w (op_store ty76 rfl rfl (by repeat constructor) rfl rfl rfl) ?_
    rintro _ _ _ ⟨rfl, rfl⟩
    refine SL.nil <| T.seq <| T.region <| SL.v (op_fieldAddr fa76_0 rfl) <| SL.v (op_load ty9 rfl (by repeat constructor) rfl) ?_
    refine SL.w (op_callF en20 (vs := [_]) rfl (expr17_ok he hsz)) ?_
    rintro _ _ X3 ⟨rfl, hX3, r, rfl, hr⟩
    obtain ⟨o, n, A, B, l, c1, l', c', rfl⟩ := hr.form
    refine SL.mv rfl <| SL.v (op_extract rfl rfl) <| SL.v (op_extract rfl rfl) <| SL.v (op_extract rfl rfl) <| SL.w (op_alloc z40) ?_
    rintro _ _ _ ⟨B3, rfl, rfl, rfl⟩
    refine SL.w (op_store ty40 rfl rfl (by repeat constructor) rfl rfl rfl) ?_
    rintro _ _ _ ⟨rfl, rfl⟩
    refine SL.as rfl <| SL.as rfl <| SL.nil <| T.seq <| T.draw (by kernel_rfl) 13 [.t 0, .t 1, .t 2, .t 3, .t 4, .t 5, .t 6, .t 7, .t 9, .t 10, .r 8, .t 11, .t 12] (by kernel_rfl) ?_
    refine SD.take rfl panicBody (op_move rfl) rfl rfl ?_
    refine SD.take rfl panicBody (op_neqF rfl rfl (by omega)) rfl rfl ?_
    refine SD.take rfl panicBody (op_move rfl) rfl rfl ?_
    refine SD.take rfl panicBody (op_move rfl) rfl rfl ?_
    refine SD.take rfl panicBody (op_neqF rfl rfl (by omega)) rfl rfl ?_
    refine SD.take rfl panicBody (op_pickF rfl rfl) rfl rfl ?_
    refine SD.take rfl panicBody (op_move rfl) rfl rfl ?_
    refine SD.take rfl panicBody (op_load ty40 rfl (by repeat constructor) rfl) rfl rfl ?_
    refine SD.take rfl panicBody (op_fieldAddr fa76_1 rfl) rfl rfl ?_
    refine SD.take rfl panicBody (op_load ty9 rfl (by repeat constructor) rfl) rfl rfl ?_
    have hcall := printA_spec (hP2.mono hX3) hw hr
    try simp only at hcall
    refine SD.run rfl (op_callF en27 (vs := [_]) rfl (hcall)) rfl rfl ?_
    rintro _ _ X4 ⟨rfl, hX4, rfl⟩
    rw [if_pos hc, ht]
    refine SD.take rfl panicBody (op_neqStrD (s := x.2) (s' := x.2) rfl rfl) rfl rfl ?_
    rw [decide_eq_true rfl, Bool.not_true]
    refine SD.take rfl panicBody (op_pickF rfl rfl) rfl rfl ?_
    refine SD.nil ?_
    show SL _ _ _ _ _ _ _ [] _ _ _
    refine SL.nil <| T.condF rfl <| T.skip <| T.blk <| T.region <| SL.v (op_addN (q := 1) rfl rfl (by omega)) ?_
    refine SL.mv rfl <| SL.nil <| T.drop B2 (by repeat constructor) ?_
    refine T.drop B3 (by repeat constructor) ?_
    exact T.backW (3 - (i + 1)) (by omega) ⟨i + 1, rfl, by omega, (hX2.trans' hX3).trans' hX4, rfl, rfl⟩ (by repeat (first | exact Sub.nil | refine Sub.cons rfl ?_))
  · obtain rfl : i = 3 := by omega
    refine T.seq <| T.region <| SL.v (op_lssF rfl rfl (by omega)) ?_
    refine SL.nil <| T.seq <| T.condF rfl ?_
    refine T.exit (T.exitCode (T.exitCut (T.exitBlk ?_)))
    refine T.seq <| T.seq <| T.region <| SL.v (op_build st78 (qs := [(0, _), (1, _), (2, _)]) rfl rfl) <| SL.v (op_build st78 (qs := [(0, _), (1, _), (2, _)]) rfl rfl) <| SL.v (op_build st78 (qs := [(0, _), (1, _), (2, _)]) rfl rfl) <| SL.v (op_build st78 (qs := [(0, _), (1, _), (2, _)]) rfl rfl) <| SL.v (op_build st78 (qs := [(0, _), (1, _), (2, _)]) rfl rfl) <| SL.v (op_build st78 (qs := [(0, _), (1, _), (2, _)]) rfl rfl) <| SL.w (op_buildSlice Tryz.underlying79 bs78 (qs := [(0, _), (1, _), (2, _), (3, _), (4, _), (5, _)]) rfl rfl rfl rfl rfl) ?_
    rintro _ _ _ ⟨B50, rfl, rfl, rfl⟩
    refine SL.v (op_lenS Tryz.underlying79 rfl) <| SL.v (op_move (v := .int .i64 ((0 : Nat) : Int)) rfl) <| SL.nil <| T.block <| T.pub B50 (by repeat constructor) ?_
    intro X3 hX3 hB50 _
    refine T.loopW (fun m env own X' => ∃ i : Nat, m = 6 - i ∧ i ≤ 6 ∧ X3.le X' ∧ env = [(50, .slice (some ⟨B50, 0, none⟩) 6 6), (51, .int .i64 ((6 : Nat) : Int)), (52, .int .i64 (i : Int))] ∧ own = []) 6 ⟨0, by omega, by omega, PMap.le_refl _, rfl, rfl⟩ (by repeat (first | exact Sub.nil | refine Sub.cons rfl ?_)) ?_
    rintro m _ _ X4 ⟨i, rfl, hi, hX4, rfl, rfl⟩
    have hP4 := (hP2.mono hX3).mono hX4
    rcases Nat.lt_or_ge i 6 with hil | hil
    · obtain ⟨x, hx⟩ : ∃ x, aw2[i]? = some x := ⟨_, List.getElem?_eq_getElem hil⟩
      obtain ⟨hsz, he⟩ := aw2_ok x (List.mem_of_getElem? hx)
      refine T.seq <| T.region <| SL.v (op_lssT rfl rfl (by omega)) ?_
      refine SL.nil <| T.seq <| T.condT rfl <| T.skip <| T.seq <| T.block <| T.seq <| T.region <| SL.v (op_indexN Tryz.underlying79 ty78 rfl rfl (by omega)) ?_
      refine SL.v (op_loadX ty78 rfl (hB50.mono hX4) (row_read (pre := []) rcB_len (rs := aw2) hx (by show _ = 0 + _; omega))) ?_
      refine SL.w (op_alloc z78) ?_
      rintro _ _ _ ⟨B7, rfl, rfl, rfl⟩
      refine SL.w (op_store ty78 rfl rfl (by repeat constructor) rfl rfl rfl) ?_
      rintro _ _ _ ⟨rfl, rfl⟩
      refine SL.nil <| T.seq <| T.region <| SL.v (op_fieldAddr fa78_0 rfl) <| SL.v (op_load ty9 rfl (by repeat constructor) rfl) ?_
      refine SL.w (op_callF en20 (vs := [_]) rfl (expr17_err he hsz)) ?_
      rintro _ _ X5 ⟨rfl, hX5, rfl⟩
      refine SL.mv rfl <| SL.v (op_extract rfl rfl) <| SL.v (op_extract rfl rfl) <| SL.v (op_extract rfl rfl) <| SL.w (op_alloc z40) ?_
      rintro _ _ _ ⟨B8, rfl, rfl, rfl⟩
      refine SL.w (op_store ty40 rfl rfl (by repeat constructor) rfl rfl rfl) ?_
      rintro _ _ _ ⟨rfl, rfl⟩
      refine SL.as rfl <| SL.as rfl <| SL.nil <| T.seq <| T.region <| SL.mv rfl <| SL.v (op_fieldAddr fa78_1 rfl) <| SL.v (op_load ty3 rfl (by repeat constructor) rfl) ?_
      refine SL.v (op_neqF rfl rfl (by omega)) ?_
      refine SL.mv rfl <| SL.mv rfl <| SL.v (op_fieldAddr fa78_2 rfl) <| SL.v (op_load ty29 rfl (by repeat constructor) rfl) ?_
      refine SL.v (op_neqF rfl rfl (by omega)) ?_
      refine SL.v (op_pickF rfl rfl) <| SL.nil <| T.condF rfl <| T.skip <| T.blk <| T.region <| SL.v (op_addN (q := 1) rfl rfl (by omega)) ?_
      refine SL.mv rfl <| SL.nil <| T.drop B7 (by repeat constructor) ?_
      refine T.drop B8 (by repeat constructor) ?_
      exact T.backW (6 - (i + 1)) (by omega) ⟨i + 1, rfl, by omega, hX4.trans' hX5, rfl, rfl⟩ (by repeat (first | exact Sub.nil | refine Sub.cons rfl ?_))
    · obtain rfl : i = 6 := by omega
      refine T.seq <| T.region <| SL.v (op_lssF rfl rfl (by omega)) ?_
      refine SL.nil <| T.seq <| T.condF rfl ?_
      refine T.exit (T.exitCode (T.exitCut (T.exitBlk ?_)))
      refine T.seq <| T.region <| SL.w (op_callF en18 (vs := [_]) rfl (parse_ok hP4 aw3 (of_decide_eq_true (by kernel_rfl)))) ?_
      rintro _ _ X5 ⟨rfl, hX5, v, rfl, hv⟩
      obtain ⟨rows, hR, hl, hrow⟩ := hv
      obtain ⟨r0, hr0⟩ : ∃ r, rows[0]? = some r := ⟨_, List.getElem?_eq_getElem (by rw [hl]; decide)⟩
      obtain ⟨r1, hr1⟩ : ∃ r, rows[1]? = some r := ⟨_, List.getElem?_eq_getElem (by rw [hl]; decide)⟩
      have h0 := hrow 0 _ _ rfl hr0
      have h1 := hrow 1 _ _ rfl hr1
      have hl2 : rows.length = 2 := hl
      obtain ⟨A9, c9, rfl⟩ := hR.form
      obtain ⟨b, pre, rfl, hB⟩ := hR.blk (by rw [hl2]; decide)
      obtain ⟨e0, k0, s0, a0⟩ := r0
      obtain ⟨e1, k1, s1, a1⟩ := r1
      obtain ⟨rfl, rfl, rfl, _⟩ := h0
      obtain ⟨rfl, rfl, rfl, _⟩ := h1
      simp only [hl2]
      refine SL.mv rfl <| SL.v (op_extract rfl rfl) <| SL.v (op_extract rfl rfl) <| SL.v (op_extract rfl rfl) <| SL.as rfl <| SL.as rfl <| SL.as rfl <| SL.nil <| T.seq <| T.region <| SL.mv rfl <| SL.v (op_eqlT rfl rfl (by omega)) ?_
      refine SL.mv rfl <| SL.mv rfl <| SL.v (op_lenS Tryz.underlying24 rfl) <| SL.v (op_eqlT rfl rfl (by omega)) ?_
      refine SL.v (op_pickT rfl rfl) <| SL.mv rfl <| SL.mv rfl <| SL.v (op_index Tryz.underlying24 ty82 rfl rfl (by omega) (by omega)) ?_
      refine SL.v (op_fieldAddr fa82_0 rfl) <| SL.v (op_loadX (v := .bool true) ty4 rfl hB (row_cell (sz := 7) (j := 0) rc7_len hr0 rfl (by omega))) ?_
      refine SL.v (op_pickT rfl rfl) <| SL.mv rfl <| SL.mv rfl <| SL.v (op_index Tryz.underlying24 ty82 rfl rfl (by omega) (by omega)) ?_
      refine SL.v (op_fieldAddr fa82_2 rfl) <| SL.v (op_loadX (v := .string ⟨#[115, 111, 100]⟩) ty9 rfl hB (row_cell (sz := 7) (j := 2) rc7_len hr0 rfl (by omega))) ?_
      refine SL.v (op_eqlStrD (s := ⟨#[115, 111, 100]⟩) (s' := ⟨#[115, 111, 100]⟩) rfl rfl) ?_
      rw [decide_eq_true rfl]
      refine SL.v (op_pickT rfl rfl) <| SL.mv rfl <| SL.mv rfl <| SL.v (op_index Tryz.underlying24 ty82 rfl rfl (by omega) (by omega)) ?_
      refine SL.v (op_fieldAddr fa82_1 rfl) <| SL.v (op_loadX (v := .int .u8 3) ty80 rfl hB (row_cell (sz := 7) (j := 1) rc7_len hr1 rfl (by omega))) ?_
      refine SL.v (op_eqlT rfl rfl (by omega)) ?_
      refine SL.v (op_pickT rfl rfl) <| SL.mv rfl <| SL.mv rfl <| SL.v (op_index Tryz.underlying24 ty82 rfl rfl (by omega) (by omega)) ?_
      refine SL.v (op_fieldAddr fa82_0 rfl) <| SL.v (op_loadX (v := .bool false) ty4 rfl hB (row_cell (sz := 7) (j := 0) rc7_len hr1 rfl (by omega))) ?_
      refine SL.v (op_not rfl) <| SL.v (op_pickT rfl rfl) <| SL.as rfl <| SL.nil <| T.ret1 rfl (ResIs.tmp rfl) ?_
      rfl
end Go.Proofs.YtnabbnhefjfegaaGreatDoor
namespace Go.Proofs.YtnabbnhefjfegaaGreatDoor
open Go.RowKit
end Go.Proofs.YtnabbnhefjfegaaGreatDoor
namespace Go.Proofs.YtnabbnhefjfegaaGreatDoor
section
set_option maxRecDepth 100000
theorem en23 : Enters Tryz.prog 23 := enters_mk Tryz.func23 (by kernel_rfl) rfl
theorem en52 : Enters Tryz.prog 52 := enters_mk Tryz.func52 (by kernel_rfl) rfl
theorem en53 : Enters Tryz.prog 53 := enters_mk Tryz.func53 (by kernel_rfl) rfl
end
open Go.RowKit
noncomputable instance decEx : DecidableEq Ex := fun _ _ => Classical.propDecidable _
noncomputable instance decCon : DecidableEq Con := fun _ _ => Classical.propDecidable _
theorem ex_eq {op op' : Nat} {n n' : Int} {ns ns' : List ByteArray} {al al' : List Ex} : Ex.mk op n ns al = Ex.mk op' n' ns' al' ↔ op = op' ∧ n = n' ∧ ns = ns' ∧ al = al' := by simp
theorem take_eq {α : Type} {l l' : List α} {i : Nat} {a b : α} (ha : l[i]? = some a) (hb : l'[i]? = some b) (h : l.take i = l'.take i) : (l.take (i + 1) = l'.take (i + 1)) ↔ a = b := by
  rw [take_snoc ha, take_snoc hb, h]
  simp
theorem ne_at {α : Type} {l l' : List α} {i : Nat} {a b : α} (ha : l[i]? = some a) (hb : l'[i]? = some b) (h : a ≠ b) : l ≠ l' := fun e => by
  subst e; rw [ha] at hb; cases hb; exact h rfl
theorem eqStrs_spec {X : PMap} {v v' : Value} {l l' : List ByteArray} (h : RowR strC X v l) (h' : RowR strC X v' l') (hl : l.length < 1000000000) : Spec Tryz.prog 52 [v, v'] X fun u _ => u = .bool (decide (l = l')) := by
  obtain ⟨A, cp, rfl⟩ := h.form
  obtain ⟨A', cp', rfl⟩ := h'.form
  by_cases hlen : l.length = l'.length
  case neg =>
    refine Spec.enter Tryz.func52 rfl Tryz.ntmps52 rfl ?_
    intro w0 hw0
    refine T.seq <| T.region <| SL.as rfl <| SL.nil <| T.seq <| T.seq <| T.region <| SL.mv rfl <| SL.v (op_lenS Tryz.underlying37 rfl) <| SL.mv rfl <| SL.v (op_lenS Tryz.underlying37 rfl) <| SL.v (op_neqT rfl rfl (by omega)) ?_
    refine SL.nil <| T.condT rfl <| T.seq <| T.region <| SL.as rfl <| SL.nil <| T.ret1 rfl (ResIs.tmp rfl) ?_
    rw [decide_eq_false fun e => hlen (by rw [e])]
  refine Spec.enter Tryz.func52 rfl Tryz.ntmps52 rfl ?_
  intro w0 hw0
  refine T.seq <| T.region <| SL.as rfl <| SL.nil <| T.seq <| T.seq <| T.region <| SL.mv rfl <| SL.v (op_lenS Tryz.underlying37 rfl) <| SL.mv rfl <| SL.v (op_lenS Tryz.underlying37 rfl) <| SL.v (op_neqF rfl rfl (by omega)) ?_
  refine SL.nil <| T.condF rfl <| T.skip <| T.seq <| T.seq <| T.region <| SL.mv rfl <| SL.v (op_lenS Tryz.underlying37 rfl) <| SL.v (op_move (v := .int .i64 ((0 : Nat) : Int)) rfl) <| SL.nil <| T.block <| T.loopW (fun m env own X' => ∃ i : Nat, m = l.length - i ∧ i ≤ l.length ∧ X.le X' ∧ l.take i = l'.take i ∧ env = [(0, .slice A l.length cp), (1, .slice A' l'.length cp'), (12, .int .i64 (l.length : Int)), (13, .int .i64 (i : Int))] ∧ own = []) l.length ⟨0, by simp, by omega, PMap.le_refl _, by simp, rfl, rfl⟩ (by repeat (first | exact Sub.nil | refine Sub.cons rfl ?_)) ?_
  rintro m _ _ X1 ⟨i, rfl, hi, hX1, heq, rfl, rfl⟩
  rcases Nat.lt_or_ge i l.length with hil | hil
  · obtain ⟨x, hx⟩ : ∃ x, l[i]? = some x := ⟨_, List.getElem?_eq_getElem hil⟩
    obtain ⟨y, hy⟩ : ∃ y, l'[i]? = some y := ⟨_, List.getElem?_eq_getElem (by omega)⟩
    obtain ⟨b, pre, rfl, hB⟩ := h.blk (by omega)
    obtain ⟨b', pre', rfl, hB'⟩ := h'.blk (by omega)
    refine T.seq <| T.region <| SL.v (op_lssT rfl rfl (by omega)) ?_
    refine SL.nil <| T.seq <| T.condT rfl <| T.skip <| T.seq <| T.block <| T.seq <| T.region <| SL.mv rfl <| SL.as rfl <| SL.nil <| T.seq <| T.draw (by kernel_rfl) 9 [.t 0, .t 1, .t 2, .t 3, .t 4, .t 5, .t 6, .t 7, .t 8] (by kernel_rfl) ?_
    refine SD.take rfl panicBody (op_move rfl) rfl rfl ?_
    refine SD.take rfl panicBody (op_move rfl) rfl rfl ?_
    refine SD.take rfl panicBody (op_indexN Tryz.underlying37 ty9 rfl rfl (by omega)) rfl rfl ?_
    refine SD.take rfl panicBody (op_loadX ty9 rfl (hB.mono hX1) (str_read hx (by omega))) rfl rfl ?_
    refine SD.take rfl panicBody (op_move rfl) rfl rfl ?_
    refine SD.take rfl panicBody (op_move rfl) rfl rfl ?_
    refine SD.take rfl panicBody (op_indexN Tryz.underlying37 ty9 rfl rfl (by omega)) rfl rfl ?_
    refine SD.take rfl panicBody (op_loadX ty9 rfl (hB'.mono hX1) (str_read hy (by omega))) rfl rfl ?_
    refine SD.take rfl panicBody (op_neqStrD rfl rfl) rfl rfl ?_
    refine SD.nil ?_
    show SL _ _ _ _ _ _ _ [] _ _ _
    refine SL.nil ?_
    by_cases hxy : x = y
    · rw [decide_eq_true hxy]
      refine T.condF rfl <| T.skip <| T.blk <| T.region <| SL.v (op_addN (q := 1) rfl rfl (by omega)) ?_
      refine SL.mv rfl <| SL.nil ?_
      exact T.backW (l.length - (i + 1)) (by omega) ⟨i + 1, rfl, by omega, hX1, (take_eq hx hy heq).2 hxy, rfl, rfl⟩ (by repeat (first | exact Sub.nil | refine Sub.cons rfl ?_))
    · rw [decide_eq_false hxy]
      refine T.condT rfl <| T.seq <| T.region <| SL.as rfl <| SL.nil <| T.ret1 rfl (ResIs.tmp rfl) ?_
      rw [decide_eq_false (ne_at hx hy hxy)]
  · obtain rfl : i = l.length := by omega
    rw [List.take_length, hlen, List.take_length] at heq
    refine T.seq <| T.region <| SL.v (op_lssF rfl rfl (by omega)) ?_
    refine SL.nil <| T.seq <| T.condF rfl ?_
    refine T.exit (T.exitCode (T.exitCut (T.exitBlk ?_)))
    refine T.seq <| T.region <| SL.as rfl <| SL.nil <| T.ret1 rfl (ResIs.tmp rfl) ?_
    rw [decide_eq_true heq]
theorem eqFn_spec {X : PMap} {va vb : Value} {al bl : List Ex} {rows rows' : List Row4} (ha : RowR rc4 X va rows) (hb : RowR rc4 X vb rows') (hla : rows.length = al.length) (hlb : rows'.length = bl.length) (hl : al.length < 1000000000)
    (hra : ∀ (i : Nat) (a : Ex) (r : Row4), al[i]? = some a → rows[i]? = some r → ExR .u8 X a r) (hrb : ∀ (i : Nat) (a : Ex) (r : Row4), bl[i]? = some a → rows'[i]? = some r → ExR .u8 X a r)
    (hf : ∀ {X' : PMap} {a b : Ex} {r r' : Row4}, a ∈ al → ExR .u8 X' a r → ExR .u8 X' b r' → Spec Tryz.prog 23 [.agg #[r.1, r.2.1, r.2.2.1, r.2.2.2], .agg #[r'.1, r'.2.1, r'.2.2.1, r'.2.2.2]] X' fun u _ => u = .bool (decide (a = b))) :
    Spec Tryz.prog 53 [va, vb, .func (.func 23) #[] #[]] X fun u _ => u = .bool (decide (al = bl)) := by
  obtain ⟨A, cp, rfl⟩ := ha.form
  obtain ⟨A', cp', rfl⟩ := hb.form
  by_cases hlen : al.length = bl.length
  case neg =>
    refine Spec.enter Tryz.func53 rfl Tryz.ntmps53 rfl ?_
    intro w0 hw0
    refine T.seq <| T.region <| SL.as rfl <| SL.nil <| T.seq <| T.seq <| T.region <| SL.mv rfl <| SL.v (op_lenS Tryz.underlying38 rfl) <| SL.mv rfl <| SL.v (op_lenS Tryz.underlying38 rfl) <| SL.v (op_neqT rfl rfl (by omega)) ?_
    refine SL.nil <| T.condT rfl <| T.seq <| T.region <| SL.as rfl <| SL.nil <| T.ret1 rfl (ResIs.tmp rfl) ?_
    rw [decide_eq_false fun e => hlen (by rw [e])]
  refine Spec.enter Tryz.func53 rfl Tryz.ntmps53 rfl ?_
  intro w0 hw0
  refine T.seq <| T.region <| SL.as rfl <| SL.nil <| T.seq <| T.seq <| T.region <| SL.mv rfl <| SL.v (op_lenS Tryz.underlying38 rfl) <| SL.mv rfl <| SL.v (op_lenS Tryz.underlying38 rfl) <| SL.v (op_neqF rfl rfl (by omega)) ?_
  refine SL.nil <| T.condF rfl <| T.skip <| T.seq <| T.seq <| T.region <| SL.mv rfl <| SL.v (op_lenS Tryz.underlying38 rfl) <| SL.v (op_move (v := .int .i64 ((0 : Nat) : Int)) rfl) <| SL.nil <| T.block <| T.loopW (fun m env own X' => ∃ i : Nat, m = rows.length - i ∧ i ≤ rows.length ∧ X.le X' ∧ al.take i = bl.take i ∧ env = [(1, .slice A' rows'.length cp'), (2, .func (.func 23) #[] #[]), (15, .slice A rows.length cp), (16, .int .i64 (rows.length : Int)), (17, .int .i64 (i : Int))] ∧ own = []) rows.length ⟨0, by simp, by omega, PMap.le_refl _, by simp, rfl, rfl⟩ (by repeat (first | exact Sub.nil | refine Sub.cons rfl ?_)) ?_
  rintro m _ _ X1 ⟨i, rfl, hi, hX1, heq, rfl, rfl⟩
  rcases Nat.lt_or_ge i rows.length with hil | hil
  · obtain ⟨r, hr⟩ : ∃ r, rows[i]? = some r := ⟨_, List.getElem?_eq_getElem hil⟩
    obtain ⟨r', hr'⟩ : ∃ r, rows'[i]? = some r := ⟨_, List.getElem?_eq_getElem (by omega)⟩
    obtain ⟨x, hx⟩ : ∃ x, al[i]? = some x := ⟨_, List.getElem?_eq_getElem (by omega)⟩
    obtain ⟨y, hy⟩ : ∃ y, bl[i]? = some y := ⟨_, List.getElem?_eq_getElem (by omega)⟩
    have h1 := (hra i x r hx hr).mono hX1
    have h2 := (hrb i y r' hy hr').mono hX1
    obtain ⟨b, pre, rfl, hB⟩ := ha.blk (by omega)
    obtain ⟨b', pre', rfl, hB'⟩ := hb.blk (by omega)
    have hcall := hf (List.mem_of_getElem? hx) h1 h2
    obtain ⟨_, _, _, _, _, _, _, _, rfl⟩ := h1.form
    obtain ⟨_, _, _, _, _, _, _, _, rfl⟩ := h2.form
    try simp only at hcall
    refine T.seq <| T.region <| SL.v (op_lssT rfl rfl (by omega)) ?_
    refine SL.nil <| T.seq <| T.condT rfl <| T.skip <| T.seq <| T.block <| T.seq <| T.region <| SL.mv rfl <| SL.v (op_indexN Tryz.underlying38 ty40 rfl rfl (by omega)) ?_
    refine SL.v (op_loadX ty40 rfl (hB.mono hX1) (row_read rc4_len hr (by omega))) ?_
    refine SL.w (op_alloc z40) ?_
    rintro _ _ _ ⟨B8, rfl, rfl, rfl⟩
    refine SL.as rfl <| SL.w (op_store ty40 rfl rfl (by repeat constructor) rfl rfl rfl) ?_
    rintro _ _ _ ⟨rfl, rfl⟩
    refine SL.nil <| T.seq <| T.region <| SL.mv rfl <| SL.mv rfl <| SL.v (op_indexN Tryz.underlying38 ty40 rfl rfl (by omega)) ?_
    refine SL.v (op_loadX ty40 rfl (hB'.mono hX1) (row_read rc4_len hr' (by omega))) ?_
    refine SL.w (op_alloc z40) ?_
    rintro _ _ _ ⟨B9, rfl, rfl, rfl⟩
    refine SL.w (op_store ty40 rfl rfl (by repeat constructor) rfl rfl rfl) ?_
    rintro _ _ _ ⟨rfl, rfl⟩
    refine SL.nil <| T.seq <| T.region <| SL.mv rfl <| SL.v (op_load ty40 rfl (by repeat constructor) rfl) ?_
    refine SL.v (op_load ty40 rfl (by repeat constructor) rfl) ?_
    refine SL.w (op_call en23 rfl (vs := [_, _]) rfl hcall) ?_
    rintro _ _ X2 ⟨rfl, hX2, rfl⟩
    refine SL.v (op_not rfl) <| SL.nil ?_
    by_cases hxy : x = y
    · rw [decide_eq_true hxy]
      refine T.condF rfl <| T.skip <| T.blk <| T.region <| SL.v (op_addN (q := 1) rfl rfl (by omega)) ?_
      refine SL.mv rfl <| SL.nil <| T.drop B8 (by repeat constructor) ?_
      refine T.drop B9 (by repeat constructor) ?_
      exact T.backW (rows.length - (i + 1)) (by omega) ⟨i + 1, rfl, by omega, hX1.trans' hX2, (take_eq hx hy heq).2 hxy, rfl, rfl⟩ (by repeat (first | exact Sub.nil | refine Sub.cons rfl ?_))
    · rw [decide_eq_false hxy]
      refine T.condT rfl <| T.seq <| T.region <| SL.as rfl <| SL.nil <| T.ret1 rfl (ResIs.tmp rfl) ?_
      rw [decide_eq_false (ne_at hx hy hxy)]
  · obtain rfl : i = rows.length := by omega
    rw [List.take_of_length_le (by omega), List.take_of_length_le (by omega)] at heq
    refine T.seq <| T.region <| SL.v (op_lssF rfl rfl (by omega)) ?_
    refine SL.nil <| T.seq <| T.condF rfl ?_
    refine T.exit (T.exitCode (T.exitCut (T.exitBlk ?_)))
    refine T.seq <| T.region <| SL.as rfl <| SL.nil <| T.ret1 rfl (ResIs.tmp rfl) ?_
    rw [decide_eq_true heq]
theorem eqE_spec (N : Nat) : ∀ {X : PMap} {a b : Ex} {r r' : Row4}, wtE a ≤ N → N < 100000000 → ExR .u8 X a r → ExR .u8 X b r' → Spec Tryz.prog 23 [.agg #[r.1, r.2.1, r.2.2.1, r.2.2.2], .agg #[r'.1, r'.2.1, r'.2.2.1, r'.2.2.2]] X fun u _ => u = .bool (decide (a = b)) := by
  induction N with
  | zero => intro X a b r r' h; cases a; rw [wtE] at h; omega
  | succ N ih =>
    intro X a b r r' hN hB h h'
    cases h with
    | @mk op n ns al vn va rows hn ha hl hr =>
    cases h' with
    | @mk op' n' ns' al' vn' va' rows' hn' ha' hl' hr' =>
    obtain ⟨Aa, ca, rfl⟩ := ha.form
    obtain ⟨An, cn, rfl⟩ := hn.form
    obtain ⟨Aa', ca', rfl⟩ := ha'.form
    obtain ⟨An', cn', rfl⟩ := hn'.form
    have hlen := wtL_len al
    have hnl := wtS_len ns
    rw [wtE] at hN
    by_cases h1 : op = op'
    case neg =>
      refine Spec.enter Tryz.func23 rfl Tryz.ntmps23 rfl ?_
      intro w0 hw0
      refine T.seq <| T.region <| SL.w (op_box rfl) ?_
      rintro _ _ _ ⟨B2, rfl, rfl, rfl⟩
      refine SL.w (op_box rfl) ?_
      rintro _ _ _ ⟨B3, rfl, rfl, rfl⟩
      refine SL.as rfl <| SL.nil <| T.seq <| T.region <| SL.v (op_fieldAddr fa40_0 rfl) <| SL.v (op_load ty36 rfl (by repeat constructor) rfl) ?_
      refine SL.v (op_fieldAddr fa40_0 rfl) <| SL.v (op_load ty36 rfl (by repeat constructor) rfl) ?_
      refine SL.v (op_eqlF rfl rfl (by omega)) ?_
      refine SL.mv rfl <| SL.skip rfl rfl ?_
      refine SL.skip rfl rfl ?_
      refine SL.skip rfl rfl ?_
      refine SL.skip rfl rfl ?_
      refine SL.skip rfl rfl ?_
      refine SL.v (op_pickF rfl rfl) <| SL.mv rfl <| SL.skip rfl rfl ?_
      refine SL.skip rfl rfl ?_
      refine SL.skip rfl rfl ?_
      refine SL.skip rfl rfl ?_
      refine SL.skip rfl rfl ?_
      refine SL.v (op_pickF rfl rfl) <| SL.mv rfl <| SL.skip rfl rfl ?_
      refine SL.skip rfl rfl ?_
      refine SL.skip rfl rfl ?_
      refine SL.skip rfl rfl ?_
      refine SL.skip rfl rfl ?_
      refine SL.v (op_pickF rfl rfl) <| SL.as rfl <| SL.nil <| T.ret1 rfl (ResIs.tmp rfl) ?_
      rw [decide_eq_false fun e => h1 (ex_eq.1 e).1]
    by_cases h2 : n = n'
    case neg =>
      refine Spec.enter Tryz.func23 rfl Tryz.ntmps23 rfl ?_
      intro w0 hw0
      refine T.seq <| T.region <| SL.w (op_box rfl) ?_
      rintro _ _ _ ⟨B2, rfl, rfl, rfl⟩
      refine SL.w (op_box rfl) ?_
      rintro _ _ _ ⟨B3, rfl, rfl, rfl⟩
      refine SL.as rfl <| SL.nil <| T.seq <| T.region <| SL.v (op_fieldAddr fa40_0 rfl) <| SL.v (op_load ty36 rfl (by repeat constructor) rfl) ?_
      refine SL.v (op_fieldAddr fa40_0 rfl) <| SL.v (op_load ty36 rfl (by repeat constructor) rfl) ?_
      refine SL.v (op_eqlT rfl rfl (by omega)) ?_
      refine SL.mv rfl <| SL.v (op_fieldAddr fa40_1 rfl) <| SL.v (op_load ty3 rfl (by repeat constructor) rfl) ?_
      refine SL.v (op_fieldAddr fa40_1 rfl) <| SL.v (op_load ty3 rfl (by repeat constructor) rfl) ?_
      refine SL.v (op_eqlF rfl rfl (by omega)) ?_
      refine SL.v (op_pickT rfl rfl) <| SL.mv rfl <| SL.skip rfl rfl ?_
      refine SL.skip rfl rfl ?_
      refine SL.skip rfl rfl ?_
      refine SL.skip rfl rfl ?_
      refine SL.skip rfl rfl ?_
      refine SL.v (op_pickF rfl rfl) <| SL.mv rfl <| SL.skip rfl rfl ?_
      refine SL.skip rfl rfl ?_
      refine SL.skip rfl rfl ?_
      refine SL.skip rfl rfl ?_
      refine SL.skip rfl rfl ?_
      refine SL.v (op_pickF rfl rfl) <| SL.as rfl <| SL.nil <| T.ret1 rfl (ResIs.tmp rfl) ?_
      rw [decide_eq_false fun e => h2 (ex_eq.1 e).2.1]
    by_cases h3 : ns = ns'
    case neg =>
      refine Spec.enter Tryz.func23 rfl Tryz.ntmps23 rfl ?_
      intro w0 hw0
      refine T.seq <| T.region <| SL.w (op_box rfl) ?_
      rintro _ _ _ ⟨B2, rfl, rfl, rfl⟩
      refine SL.w (op_box rfl) ?_
      rintro _ _ _ ⟨B3, rfl, rfl, rfl⟩
      refine SL.as rfl <| SL.nil <| T.seq <| T.region <| SL.v (op_fieldAddr fa40_0 rfl) <| SL.v (op_load ty36 rfl (by repeat constructor) rfl) ?_
      refine SL.v (op_fieldAddr fa40_0 rfl) <| SL.v (op_load ty36 rfl (by repeat constructor) rfl) ?_
      refine SL.v (op_eqlT rfl rfl (by omega)) ?_
      refine SL.mv rfl <| SL.v (op_fieldAddr fa40_1 rfl) <| SL.v (op_load ty3 rfl (by repeat constructor) rfl) ?_
      refine SL.v (op_fieldAddr fa40_1 rfl) <| SL.v (op_load ty3 rfl (by repeat constructor) rfl) ?_
      refine SL.v (op_eqlT rfl rfl (by omega)) ?_
      refine SL.v (op_pickT rfl rfl) <| SL.mv rfl <| SL.v (op_fieldAddr fa40_2 rfl) <| SL.v (op_load ty37 rfl (by repeat constructor) rfl) ?_
      refine SL.v (op_fieldAddr fa40_2 rfl) <| SL.v (op_load ty37 rfl (by repeat constructor) rfl) ?_
      refine SL.w (op_callF en52 (vs := [_, _]) rfl (eqStrs_spec hn hn' (by omega))) ?_
      rintro _ _ X1 ⟨rfl, hX1, rfl⟩
      rw [decide_eq_false h3]
      refine SL.v (op_pickT rfl rfl) <| SL.mv rfl <| SL.skip rfl rfl ?_
      refine SL.skip rfl rfl ?_
      refine SL.skip rfl rfl ?_
      refine SL.skip rfl rfl ?_
      refine SL.skip rfl rfl ?_
      refine SL.v (op_pickF rfl rfl) <| SL.as rfl <| SL.nil <| T.ret1 rfl (ResIs.tmp rfl) ?_
      rw [decide_eq_false fun e => h3 (ex_eq.1 e).2.2.1]
    refine Spec.enter Tryz.func23 rfl Tryz.ntmps23 rfl ?_
    intro w0 hw0
    refine T.seq <| T.region <| SL.w (op_box rfl) ?_
    rintro _ _ _ ⟨B2, rfl, rfl, rfl⟩
    refine SL.w (op_box rfl) ?_
    rintro _ _ _ ⟨B3, rfl, rfl, rfl⟩
    refine SL.as rfl <| SL.nil <| T.seq <| T.region <| SL.v (op_fieldAddr fa40_0 rfl) <| SL.v (op_load ty36 rfl (by repeat constructor) rfl) ?_
    refine SL.v (op_fieldAddr fa40_0 rfl) <| SL.v (op_load ty36 rfl (by repeat constructor) rfl) ?_
    refine SL.v (op_eqlT rfl rfl (by omega)) ?_
    refine SL.mv rfl <| SL.v (op_fieldAddr fa40_1 rfl) <| SL.v (op_load ty3 rfl (by repeat constructor) rfl) ?_
    refine SL.v (op_fieldAddr fa40_1 rfl) <| SL.v (op_load ty3 rfl (by repeat constructor) rfl) ?_
    refine SL.v (op_eqlT rfl rfl (by omega)) ?_
    refine SL.v (op_pickT rfl rfl) <| SL.mv rfl <| SL.v (op_fieldAddr fa40_2 rfl) <| SL.v (op_load ty37 rfl (by repeat constructor) rfl) ?_
    refine SL.v (op_fieldAddr fa40_2 rfl) <| SL.v (op_load ty37 rfl (by repeat constructor) rfl) ?_
    refine SL.w (op_callF en52 (vs := [_, _]) rfl (eqStrs_spec hn hn' (by omega))) ?_
    rintro _ _ X1 ⟨rfl, hX1, rfl⟩
    rw [decide_eq_true h3]
    refine SL.v (op_pickT rfl rfl) <| SL.mv rfl <| SL.v (op_fieldAddr fa40_3 rfl) <| SL.v (op_load ty38 rfl (by repeat constructor) rfl) ?_
    refine SL.v (op_fieldAddr fa40_3 rfl) <| SL.v (op_load ty38 rfl (by repeat constructor) rfl) ?_
    refine SL.w (op_callF en53 (vs := [_, _, _]) rfl (eqFn_spec (ha.mono hX1) (ha'.mono hX1) hl hl' (by omega) (fun i a r x y => (hr i a r x y).mono hX1) (fun i a r x y => (hr' i a r x y).mono hX1) (fun hm h1 h2 => ih (by have := wtL_mem hm; omega) (by omega) h1 h2))) ?_
    rintro _ _ X2 ⟨rfl, hX2, rfl⟩
    refine SL.v (op_pickT rfl rfl) <| SL.as rfl <| SL.nil <| T.ret1 rfl (ResIs.tmp rfl) ?_
    congr 1
    exact decide_eq_decide.2 (by rw [ex_eq]; simp [h1, h2, h3])
end Go.Proofs.YtnabbnhefjfegaaGreatDoor
namespace Go.Proofs.YtnabbnhefjfegaaGreatDoor
section
set_option maxRecDepth 100000
theorem en12 : Enters Tryz.prog 12 := enters_mk Tryz.func12 (by kernel_rfl) rfl
theorem en19 : Enters Tryz.prog 19 := enters_mk Tryz.func19 (by kernel_rfl) rfl
theorem en21 : Enters Tryz.prog 21 := enters_mk Tryz.func21 (by kernel_rfl) rfl
theorem en22 : Enters Tryz.prog 22 := enters_mk Tryz.func22 (by kernel_rfl) rfl
end
open Go.RowKit
theorem rexpr17_ok {X : PMap} {s : ByteArray} {e : Ex} (h : exprM s = .ok e) (hs : s.size < 1000000000) : Spec Tryz.prog 21 [.string s] X fun u X' => ∃ r : Row4, u = .tuple #[.agg #[r.1, r.2.1, r.2.2.1, r.2.2.2], .int .i64 0, .int .i64 0] ∧ ExR .i64 X' e r := by
  have := rexpr17_spec (X := X) hs
  simp only [h] at this
  exact this
theorem rexpr17_err {X : PMap} {s : ByteArray} {x : Nat × Int} (h : exprM s = .error x) (hs : s.size < 1000000000) : Spec Tryz.prog 21 [.string s] X fun u _ => u = .tuple #[.agg #[.int .i64 0, .int .i64 0, .slice none 0 0, .slice none 0 0], .int .i64 (x.1 : Int), .int .i64 x.2] := by
  have := rexpr17_spec (X := X) hs
  simp only [h] at this
  exact this
theorem pExprs_spec {X : PMap} (hP : Pow10 X) {s : ByteArray} : Spec Tryz.prog 4 [.string s] X fun u _ => u = .bool true := by
  have hs := short_size s
  refine Spec.enter Tryz.func4 rfl Tryz.ntmps4 rfl ?_
  intro w0 hw0
  refine T.seq <| T.region <| SL.as rfl <| SL.nil <| T.seq <| T.seq <| T.region <| SL.w (op_callF en12 (vs := []) rfl (awake17_spec hP)) ?_
  rintro _ _ X0 ⟨rfl, hX0, rfl⟩
  refine SL.v (op_not rfl) <| SL.nil <| T.condF rfl <| T.skip <| T.seq <| T.region <| SL.mv rfl <| SL.w (op_callF en19 (vs := [_]) rfl (short_spec)) ?_
  rintro _ _ X1 ⟨rfl, hX1, rfl⟩
  generalize s.extract 0 (min s.size 2000) = t at hs ⊢
  cases hm : exprM t with
  | error x =>
    have hx := exprM_err hm
    obtain ⟨o, c⟩ := x
    simp only at hx
    refine SL.as rfl <| SL.nil <| T.seq <| T.region <| SL.mv rfl <| SL.w (op_callF en20 (vs := [_]) rfl (expr17_err hm (by omega))) ?_
    rintro _ _ X2 ⟨rfl, hX2, rfl⟩
    refine SL.mv rfl <| SL.v (op_extract rfl rfl) <| SL.v (op_extract rfl rfl) <| SL.v (op_extract rfl rfl) <| SL.w (op_alloc z40) ?_
    rintro _ _ _ ⟨B3, rfl, rfl, rfl⟩
    refine SL.w (op_store ty40 rfl rfl (by repeat constructor) rfl rfl rfl) ?_
    rintro _ _ _ ⟨rfl, rfl⟩
    refine SL.as rfl <| SL.as rfl <| SL.nil <| T.seq <| T.region <| SL.mv rfl <| SL.w (op_callF en21 (vs := [_]) rfl (rexpr17_err hm (by omega))) ?_
    rintro _ _ X3 ⟨rfl, hX3, rfl⟩
    refine SL.mv rfl <| SL.v (op_extract rfl rfl) <| SL.v (op_extract rfl rfl) <| SL.v (op_extract rfl rfl) <| SL.w (op_alloc z45) ?_
    rintro _ _ _ ⟨B6, rfl, rfl, rfl⟩
    refine SL.w (op_store ty45 rfl rfl (by repeat constructor) rfl rfl rfl) ?_
    rintro _ _ _ ⟨rfl, rfl⟩
    refine SL.as rfl <| SL.as rfl <| SL.nil <| T.seq <| T.seq <| T.region <| SL.mv rfl <| SL.mv rfl <| SL.v (op_neqF rfl rfl (by omega)) ?_
    refine SL.mv rfl <| SL.mv rfl <| SL.mv rfl <| SL.v (op_neqF rfl rfl (by omega)) ?_
    refine SL.v (op_pickF rfl rfl) <| SL.nil <| T.condF rfl <| T.skip <| T.seq <| T.seq <| T.region <| SL.mv rfl <| SL.v (op_neqT rfl rfl (by omega)) ?_
    refine SL.nil <| T.condT rfl <| T.seq <| T.region <| SL.v (op_load ty40 rfl (by repeat constructor) rfl) ?_
    refine SL.w (op_callF en22 (vs := [_]) rfl (zero_spec)) ?_
    rintro _ _ X4 ⟨rfl, hX4, rfl⟩
    refine SL.as rfl <| SL.nil <| T.ret1 rfl (ResIs.tmp rfl) ?_
    rfl
  | ok e =>
    obtain ⟨hc, hn, hw⟩ := exprM_ok hm
    refine SL.as rfl <| SL.nil <| T.seq <| T.region <| SL.mv rfl <| SL.w (op_callF en20 (vs := [_]) rfl (expr17_ok hm (by omega))) ?_
    rintro _ _ X2 ⟨rfl, hX2, r, rfl, hr⟩
    obtain ⟨o1, n1, a1, b1, l1, c1, l2, c2, rfl⟩ := hr.form
    refine SL.mv rfl <| SL.v (op_extract rfl rfl) <| SL.v (op_extract rfl rfl) <| SL.v (op_extract rfl rfl) <| SL.w (op_alloc z40) ?_
    rintro _ _ _ ⟨B3, rfl, rfl, rfl⟩
    refine SL.w (op_store ty40 rfl rfl (by repeat constructor) rfl rfl rfl) ?_
    rintro _ _ _ ⟨rfl, rfl⟩
    refine SL.as rfl <| SL.as rfl <| SL.nil <| T.seq <| T.region <| SL.mv rfl <| SL.w (op_callF en21 (vs := [_]) rfl (rexpr17_ok hm (by omega))) ?_
    rintro _ _ X3 ⟨rfl, hX3, r', rfl, hr'⟩
    obtain ⟨o3, n3, a3, b3, l3, c3, l4, c4, rfl⟩ := hr'.form
    refine SL.mv rfl <| SL.v (op_extract rfl rfl) <| SL.v (op_extract rfl rfl) <| SL.v (op_extract rfl rfl) <| SL.w (op_alloc z45) ?_
    rintro _ _ _ ⟨B6, rfl, rfl, rfl⟩
    refine SL.w (op_store ty45 rfl rfl (by repeat constructor) rfl rfl rfl) ?_
    rintro _ _ _ ⟨rfl, rfl⟩
    refine SL.as rfl <| SL.as rfl <| SL.nil <| T.seq <| T.seq <| T.region <| SL.mv rfl <| SL.mv rfl <| SL.v (op_neqF rfl rfl (by omega)) ?_
    refine SL.mv rfl <| SL.mv rfl <| SL.mv rfl <| SL.v (op_neqF rfl rfl (by omega)) ?_
    refine SL.v (op_pickF rfl rfl) <| SL.nil <| T.condF rfl <| T.skip <| T.seq <| T.seq <| T.region <| SL.mv rfl <| SL.v (op_neqF rfl rfl (by omega)) ?_
    refine SL.nil <| T.condF rfl <| T.skip <| T.seq <| T.draw (by kernel_rfl) 10 [.t 0, .t 1, .r 2, .r 3, .t 4, .t 5, .r 6, .t 7, .t 8, .t 9] (by kernel_rfl) ?_
    refine SD.take rfl panicBody (op_load ty40 rfl (by repeat constructor) rfl) rfl rfl ?_
    refine SD.take rfl panicBody (op_load ty45 rfl (by repeat constructor) rfl) rfl rfl ?_
    have hc1 := expr_spec 200000 (by omega) (by omega) (ops_of e hn) hr'
    try simp only at hc1
    refine SD.run rfl (op_callF en24 (vs := [_]) rfl (hc1)) rfl rfl ?_
    rintro _ _ X4 ⟨rfl, hX4, r5, rfl, hr5⟩
    obtain ⟨o5, n5, a5, b5, l5, c5, l6, c6, rfl⟩ := hr5.form
    have hc2 := eqE_spec 200000 (by omega) (by omega) ((hr.mono hX3).mono hX4) hr5
    try simp only at hc2
    refine SD.run rfl (op_callF en23 (vs := [_, _]) rfl (hc2)) rfl rfl ?_
    rintro _ _ X5 ⟨rfl, hX5, rfl⟩
    simp only [decide_true]
    refine SD.take rfl panicBody (op_move rfl) rfl rfl ?_
    refine SD.take rfl panicBody (op_load ty40 rfl (by repeat constructor) rfl) rfl rfl ?_
    have hc3 := chk_spec (by omega) (((hr.mono hX3).mono hX4).mono hX5)
    try simp only at hc3
    refine SD.run rfl (op_callF en25 (vs := [_]) rfl (hc3)) rfl rfl ?_
    rintro _ _ X6 ⟨rfl, hX6, rfl⟩
    rw [hc]
    refine SD.take rfl panicBody (op_eqlT rfl rfl (by omega)) rfl rfl ?_
    refine SD.take rfl panicBody (op_pickT rfl rfl) rfl rfl ?_
    refine SD.take rfl panicBody (op_assign rfl) rfl rfl ?_
    refine SD.nil ?_
    show SL _ _ _ _ _ _ _ [] _ _ _
    refine SL.nil <| T.ret1 rfl (ResIs.tmp rfl) ?_
    rfl
end Go.Proofs.YtnabbnhefjfegaaGreatDoor
namespace Go.Proofs.YtnabbnhefjfegaaGreatDoor
open Go.RowKit
theorem gPow : Tryz.prog.globalNamed "internal/strconv.uint64pow10" = some 1 := by kernel_rfl
theorem gPowT : (Tryz.prog.globals[1]?).map (·.type) = some 211 := by kernel_rfl
theorem cells20 : Tryz.prog.cellsOf 211 = 20 := by kernel_rfl
theorem cellsU64 : Tryz.prog.cellsOf 171 = 1 := by kernel_rfl
theorem pow_of {W : World} {x y : String × DataW Unit} (h : laidMet Tryz.prog [x, y, ("internal/strconv.uint64pow10", Rows.laid_internal_strconv_uint64pow10)] W) : Pow10 (heapX W) := by
  have ht : Lib.TabIs Tryz.prog W "internal/strconv.uint64pow10" .u64 Lib.pow10Tab := Lib.tabIs_of_head gPow gPowT Tryz.underlying211 Tryz.underlying171 cellsU64 cells20 h.tail.tail
  intro w hw
  unfold Lib.TabIs World.var? at ht ⊢
  rw [gPow] at ht ⊢
  simp only [Option.bind_some] at ht ⊢
  cases hg : W.heap[1]? with
  | none => rw [hg] at ht; cases ht
  | some o =>
    rw [hg] at ht
    rw [hw 1 o hg]
    exact ht
end Go.Proofs.YtnabbnhefjfegaaGreatDoor
