/- THE ENGINE: contracts of functions that write to blocks of their caller. No program is named here. -/
import Derived.Test.YtoheffglppbcbaaDoorSlice
import Derived.Lib.Builder
import Derived.Lib.UnsafeStr
import Derived.Laws.Externs
namespace Go.Proofs.YtoheffglppbcbaaDoor
open Go.RowKit
/-- What a call leaves that was lent blocks. -/
def FinM (w0 : Base) (X0 : PMap) (own0 : Own) (Φ : Value → Own → PMap → Prop) (e : Ending) (w' : World) : Prop :=
  ∃ v L' X', e = .returned v ∧ Sat w0 X0 (L' ++ own0) X' w' ∧ Φ v L' X'
def SpecM (P : Program) (f : FuncId) (args : List Value) (X : PMap) (L : Own) (Φ : Value → Own → PMap → Prop) : Prop :=
  ∀ (w0 : Base) (X0 : PMap) (own0 : Own) (W : World), Sat w0 X0 (L ++ own0) X W → Calls P f args.toArray W (FinM w0 X0 own0 fun v L' X' => X.le X' ∧ Φ v L' X')
theorem Calls.enterM {P : Program} {f : FuncId} {fn : Func} {c : Code} {args : List Value} {R : Ending → World → Prop} {w0 : Base} {X0 X : PMap} {own : Own} {W : World} (hf : P.funcs[f]? = some fn) (hb : fn.body = some c) {n : Nat} (hn : fn.ntmps = n) (hl : Nat.ble args.length n = true) (hs : Sat w0 X0 own X W)
    (h : T none P ⟨n, []⟩ w0 X0 (bodyQ P fn R) [.code c] none (argEnv 0 args) own X) : Calls P f args.toArray W R := by
  have hl' : args.length ≤ n := Nat.le_of_ble_eq_true hl
  refine (fr_calls (ro := none) (m := DEP)).1 (callsIn_of_wp_marks (F := FR none) hf hb trivial ?_)
  have := h { tmps := args.toArray ++ Array.replicate (fn.ntmps - args.toArray.size) undef, defers := [] } W ⟨rfl, by simp; omega, fun t v ht => ?_⟩ hs
  · refine Code.wpIn_mono (fun e a w h => bodyQ_post _ _ _ ?_) (runL_code_iff.1 this)
    cases e <;> exact h
  · obtain ⟨_, h2⟩ := eget_argEnv _ _ _ _ ht
    simp only [Nat.sub_zero] at h2
    have hlt : t < args.length := by
      rcases Nat.lt_or_ge t args.length with h1 | h1
      · exact h1
      · rw [List.getElem?_eq_none h1] at h2; cases h2
    rw [List.getElem?_eq_getElem hlt] at h2
    simp only [Option.some.injEq] at h2
    subst h2
    have : t < args.length + (n - args.length) := by omega
    simp [Array.getD, hn, this, hlt]
theorem SpecM.enter {P : Program} {f : FuncId} {fn : Func} {c : Code} {args : List Value} {X : PMap} {L : Own} {Φ : Value → Own → PMap → Prop} (hf : P.funcs[f]? = some fn) (hb : fn.body = some c) {n : Nat} (hn : fn.ntmps = n) (hl : Nat.ble args.length n = true)
    (h : ∀ w0 X0 own0, T none P ⟨n, []⟩ w0 X0 (bodyQ P fn (FinM w0 X0 own0 fun v L' X' => X.le X' ∧ Φ v L' X')) [.code c] none (argEnv 0 args) (L ++ own0) X) : SpecM P f args X L Φ :=
  fun w0 X0 own0 _ hs => Calls.enterM hf hb hn hl hs (h w0 X0 own0)
section
variable {ro : Option Nat} {P : Program} {n : NM} {w0 : Base} {X0 X : PMap} {own : Own} {env : Env}
theorem op_callM {f : FuncId} {xs : Array Operand} {ts : Array TypeId} {vs : List Value} {L own0 : Own} {Φ : Value → Own → PMap → Prop} (he : Enters P f) (hx : xs.toList.map (eev env) = vs.map some)
    (h : SpecM P f vs X L Φ) (hown : own = L ++ own0) : OpX P n w0 X0 env own X (.call { callee := .value (.func f), args := xs, argTypes := ts }) false fun v own' X' => ∃ L', own' = L' ++ own0 ∧ X.le X' ∧ Φ v L' X' := by
  subst hown
  intro a W oper K Q ro hop ha hs hK
  have all : ∀ (xs : List Operand) (vs : List Value), xs.map (eev env) = vs.map some → xs.map a.eval = vs := by
    intro xs
    induction xs with
    | nil => intro vs h; cases vs <;> simp_all
    | cons x xs ih =>
      intro vs h
      cases vs with
      | nil => simp at h
      | cons v vs =>
        simp only [List.map_cons, List.cons.injEq] at h
        simp [ha.eval h.1, ih vs h.2]
  have h1 : xs.map a.eval = vs.toArray := by apply Array.toList_inj.1; simp [all _ _ hx]
  have hex : (execOp a.eval oper).run P W = .ok (.enter f vs.toArray) W := by
    have hc : a.eval (.func f) = .func (.func f) #[] #[] := ha.eval rfl
    simp only [execOp, hop, resolve, hc, h1, Deferred.ofValue, invoke, Sem.run_bind, Sem.run_pure, Result.andThen_ok]
    simpa using he vs.toArray W
  refine wp_enters (noDefer_spec (by rw [hop]; rfl)) hex ((h w0 X0 own0 W hs).mono fun e w' hfin => ?_)
  obtain ⟨v, L', X', rfl, hc, hX, hΦ⟩ := hfin
  exact ⟨v, rfl, hK v _ X' w' ⟨L', rfl, hX, hΦ⟩ hc (fun h => by cases h)⟩
variable {fn : Func} {Φ : Value → Own → PMap → Prop}
theorem T.retM {v : Value} {k : List It} {s : Nat} {own0 L' : Own} (hr : ∀ a W, EOk ⟨s, []⟩ env a → Stab own X W → (results fn a.tmps).run P W = .ok v W) (hp : own.Perm (L' ++ own0)) (hΦ : Φ v L' X) : T ro P ⟨s, []⟩ w0 X0 (bodyQ P fn (FinM w0 X0 own0 Φ)) (.code .ret :: k) none env own X :=
  fun a W ha hs => runL_ret (by
    show LeavesInM (FR none) DEP P fn a.tmps _ a.defers .returning W
    rw [ha.defers]
    exact ⟨v, hr a W ha hs.stab, v, L', X, rfl, hs.perm hp, hΦ⟩)
theorem T.doneM {v : Value} {s : Nat} {own0 L' : Own} (hr : ∀ a W, EOk ⟨s, []⟩ env a → Stab own X W → (results fn a.tmps).run P W = .ok v W) (hp : own.Perm (L' ++ own0)) (hΦ : Φ v L' X) : T ro P ⟨s, []⟩ w0 X0 (bodyQ P fn (FinM w0 X0 own0 Φ)) [] none env own X :=
  fun a W ha hs => (by
    show LeavesInM (FR none) DEP P fn a.tmps _ a.defers .returning W
    rw [ha.defers]
    exact ⟨v, hr a W ha hs.stab, v, L', X, rfl, hs.perm hp, hΦ⟩)
theorem T.doneM0 {s : Nat} {own0 : Own} (L' : Own) (hr : fn.results = #[]) (hp : own.Perm (L' ++ own0)) (hΦ : Φ (.tuple #[]) L' X) : T ro P ⟨s, []⟩ w0 X0 (bodyQ P fn (FinM w0 X0 own0 Φ)) [] none env own X := T.doneM (fun _ _ _ _ => run_results0 hr) hp hΦ
theorem T.retM1 {k : List It} {s : Nat} {own0 : Own} (L' : Own) {r : ResultVar} {v : Value} (hr : fn.results = #[r]) (h : ResIs P env own r v) (hp : own.Perm (L' ++ own0)) (hΦ : Φ v L' X) : T ro P ⟨s, []⟩ w0 X0 (bodyQ P fn (FinM w0 X0 own0 Φ)) (.code .ret :: k) none env own X := T.retM (fun _ _ ha hs => run_results1 hr h ha hs) hp hΦ
theorem T.retM2 {k : List It} {s : Nat} {own0 : Own} (L' : Own) {r r' : ResultVar} {v v' : Value} (hr : fn.results = #[r, r']) (h : ResIs P env own r v) (h' : ResIs P env own r' v') (hp : own.Perm (L' ++ own0)) (hΦ : Φ (.tuple #[v, v']) L' X) : T ro P ⟨s, []⟩ w0 X0 (bodyQ P fn (FinM w0 X0 own0 Φ)) (.code .ret :: k) none env own X := T.retM (fun _ _ ha hs => run_results2 hr h h' ha hs) hp hΦ

theorem permA {a : Ow} {G O : Own} : ([a] ++ (G ++ O)).Perm ((a :: O) ++ G) := List.Perm.cons a (show (G ++ O).Perm (O ++ G) from List.perm_append_comm)
theorem permL {x a : Ow} {G O : Own} : (x :: ([a] ++ (G ++ O))).Perm (x :: ((a :: O) ++ G)) := List.Perm.cons x permA
theorem permC {a g : Ow} {O : Own} : ((a :: [g]) ++ O).Perm ((a :: O) ++ [g]) := List.Perm.cons a (show ([g] ++ O).Perm (O ++ [g]) from List.perm_append_comm)
theorem permD {a : Ow} {G O : Own} : ((a :: O) ++ G).Perm ((a :: G) ++ O) := List.Perm.cons a (show (O ++ G).Perm (G ++ O) from List.perm_append_comm)
theorem infoStr_of {e : TypeId} (h : (P.info? e).map (fun i => (i.size, i.bytes, i.zero)) = some (1, 1, some (.int .u8 0))) : ∃ i, P.info? e = some i ∧ i.zero = some (.int .u8 0) ∧ i.size = 1 ∧ i.bytes = 1 := by
  obtain ⟨i, h1, h2⟩ := Option.map_eq_some_iff.1 h
  simp only [Prod.mk.injEq] at h2
  exact ⟨i, h1, h2.2.2, h2.1, h2.2.1⟩
theorem Ow.In.shape {p : Ow} {W : World} (h : p.In W) : W.shape? p.b = some (p.ty, p.sz) := by
  obtain ⟨r, h, hz⟩ := h
  simp [World.shape?, h, hz]
/-- A pointer to a block of the call's own, as unsafe.Pointer. -/
theorem op_toUns {src dst t ty : TypeId} {x : Operand} {b sz j : Nat} {cs : List Value} (hs : P.underlying src = some (.pointer t)) (hd : P.underlying dst = some .unsafePointer) {size : Nat} (ht : (P.info? t).map (·.size) = some (size + 1)) (hx : eev env x = some (.pointer (some ⟨b, 0, none⟩)))
    (ho : AtO own b cs ty sz j) (h0 : 0 < sz) : OpY P n env own X (.convert src dst x) (.pointer (some ⟨b, 0, none⟩)) := by
  intro a W oper hop ha hst
  obtain ⟨i, hi, hz⟩ := Option.map_eq_some_iff.1 ht
  have := Lib.run_to_unsafe (P := P) W ⟨b, 0, none⟩ hs hd hi (by omega) ((hst.own _ ho.mem).shape) h0
  simp [execOp, hop, ha.eval hx, this]
theorem op_fromUns {src dst u ty : TypeId} {x : Operand} {b sz j : Nat} {cs : List Value} (hs : P.underlying src = some .unsafePointer) (hd : P.underlying dst = some (.pointer u)) {size : Nat} (hu : (P.info? u).map (·.size) = some size) (hx : eev env x = some (.pointer (some ⟨b, 0, none⟩)))
    (ho : AtO own b cs ty sz j) (hl : liesAt P P.depth ty (sz / P.cellsOf ty) 0 u 1 = true) : OpY P n env own X (.convert src dst x) (.pointer (some ⟨b, 0, none⟩)) := by
  intro a W oper hop ha hst
  obtain ⟨i, hi, hz⟩ := Option.map_eq_some_iff.1 hu
  have := Lib.run_from_unsafe (P := P) W ⟨b, 0, none⟩ hs hd hi ((hst.own _ ho.mem).shape) hl
  simp [execOp, hop, ha.eval hx, this]
/-- abi.NoEscape: the pointer as it is. -/
theorem op_noEsc {f : FuncId} {gn : Func} {x : Operand} {ts : Array TypeId} {v : Value} (hf : P.funcs[f]? = some gn) (h1 : (gn.name == "runtime.NumGoroutine") = false) (h2 : gn.body.isNone = true) (h3 : Extern.findNext gn = none) (h4 : Extern.find gn = some Extern.AbiNoEscape.same) (hx : eev env x = some v) :
    OpY P n env own X (.call { callee := .value (.func f), args := #[x], argTypes := ts }) v := by
  intro a W oper hop ha _
  have hc : a.eval (.func f) = .func (.func f) #[] #[] := ha.eval rfl
  have hr := run_callFunc_extern hf h1 h2 h3 h4 #[v] W
  rw [Lib.run_noEscape] at hr
  simp only [execOp, hop, resolve, hc, Deferred.ofValue, invoke, Sem.run_bind, Sem.run_pure, Result.andThen_ok]
  simpa [ha.eval hx] using hr
theorem op_neqSame {tp te : TypeId} {x y : Operand} {t' : TypeId} {A : Addr} {size : Nat} (hp : P.underlying tp = some (.pointer te)) (hte : (P.info? te).map (·.size) = some size) (hx : eev env x = some (.pointer (some A))) (hy : eev env y = some (.pointer (some A))) :
    OpY P n env own X (.binOp .neq tp x y t') (.bool false) := by
  intro a W oper hop ha _
  obtain ⟨i, hi, _⟩ := Option.map_eq_some_iff.1 hte
  have := Lib.run_neq_ptr_same (P := P) W A hp hi
  have h0 : ∀ (e : BinOp) (u v : Operand), eqGuard e tp u v (.pointer (some A)) (.pointer (some A)) = pure () := fun e u v => by cases e <;> rfl
  simp only [execOp, hop, ha.eval hx, ha.eval hy, h0, Sem.run_bind, Sem.run_pure, Result.andThen_ok, this]
theorem op_sliceData {x : Operand} {ts : Array TypeId} {b l c : Nat} (hx : eev env x = some (.slice (some ⟨b, 0, none⟩) l c)) (hc : c ≠ 0) : OpY P n env own X (.call { callee := .builtin .unsafeSliceData, args := #[x], argTypes := ts }) (.pointer (some ⟨b, 0, none⟩)) := by
  intro a W oper hop ha _
  have hr := Lib.run_unsafeSliceData_row (P := P) W ts oper.type ⟨b, 0, none⟩ l c hc
  simp only [execOp, hop, resolve, invoke, builtin, Sem.run_bind, Sem.run_pure, Result.andThen_ok, List.map_toArray, List.map_cons, List.map_nil, ha.eval hx, hr]
theorem freeze_far {W : World} {p : Addr} {m k : Nat} (h : k ≠ p.block) : (W.freeze p m).heap[k]? = W.heap[k]? := by
  unfold World.freeze
  split
  · rfl
  · simp [Array.getElem?_modify, Ne.symm h]
theorem SatC.freeze {w0 : World} {W : World} {b sz m : Nat} {cs : List Value} {ty : TypeId} (h : SatC w0 X0 (own ++ [⟨b, cs, ty, sz⟩]) X W) : SatC w0 X0 own X (W.freeze ⟨b, 0, none⟩ m) := by
  have hm : (⟨b, cs, ty, sz⟩ : Ow) ∈ own ++ [⟨b, cs, ty, sz⟩] := by simp
  have hne : ∀ q ∈ own, q.b ≠ b := fun q hq => (List.pairwise_append.1 h.nodup).2.2 q hq ⟨b, cs, ty, sz⟩ (by simp)
  refine ⟨Lib.below_freeze h.below (h.new _ hm) m, h.old, ⟨fun q hq => ?_, fun k o hk => ?_⟩, fun q hq => h.new q (List.mem_append_left _ hq), fun q hq => h.apart q (List.mem_append_left _ hq), (List.pairwise_append.1 h.nodup).1⟩
  · obtain ⟨r, h1, h2⟩ := h.stab.own q (List.mem_append_left _ hq)
    exact ⟨r, (freeze_far (hne q hq)).trans h1, h2⟩
  · have hkb : k ≠ b := fun e => by subst e; have := h.apart _ hm; simp only at this; rw [this] at hk; cases hk
    exact (freeze_far hkb).trans (h.stab.pers k o hk)
theorem Sat.freeze {W : World} {b sz m : Nat} {cs : List Value} {ty : TypeId} (h : Sat w0 X0 (own ++ [⟨b, cs, ty, sz⟩]) X W) : Sat w0 X0 own X (W.freeze ⟨b, 0, none⟩ m) :=
  ⟨h.toSatC.freeze, fun p hp => by
    obtain ⟨g1, g2, g3, g4⟩ := h.res p hp
    have hb : b ≠ p.1 := g3 ⟨b, cs, ty, sz⟩ (by simp)
    exact ⟨(freeze_far (Ne.symm hb)).trans g1, g2, fun q hq => g3 q (List.mem_append_left _ hq), g4⟩⟩
/-- unsafe.String over what has grown: the bytes; the row is given up. -/
theorem op_unsafeStr {x y : Operand} {pt it e : TypeId} {b cap : Nat} {l : List UInt8} (hp : P.underlying pt = some (.pointer e)) (hc : P.cellsOf e = 1) (hx : eev env x = some (.pointer (some ⟨b, 0, none⟩))) (hy : eev env y = some (.int .i64 (l.length : Int))) (h0 : l ≠ []) (hl : l.length ≤ cap) (hm : cap ≤ maxLen) :
    OpX P n w0 X0 env (own ++ [⟨b, Lib.byteCells l, e, cap * 1⟩]) X (.call { callee := .builtin .unsafeString, args := #[x, y], argTypes := #[pt, it] }) false fun v own' X' => v = .string ⟨l.toArray⟩ ∧ own' = own ∧ X = X' := by
  intro a W oper K Q ro hop ha hs hK
  have hin := hs.stab.own ⟨b, Lib.byteCells l, e, cap * 1⟩ (by simp)
  have hcell : ∀ j x, l[j]? = some x → W.cell? ((⟨b, 0, none⟩ : Addr).add j) = some (.int .u8 x.toNat) := fun j x hj => by
    rw [Addr.add_mid, Nat.zero_add]
    exact hin.cell (by simp [Lib.byteCells, hj])
  have hmx : maxLen = 9223372036854775807 := rfl
  have hr := Lib.run_unsafeString_row (P := P) W pt it oper.type e hp hc b (cap * 1) hin.shape l h0 (by omega) (by omega) hcell
  have hex : (execOp a.eval oper).run P W = .ok (.value (.string ⟨l.toArray⟩)) (W.freeze ⟨b, 0, none⟩ l.length) := by
    simp only [execOp, hop, resolve, invoke, builtin, Sem.run_bind, Sem.run_pure, Result.andThen_ok, List.map_toArray, List.map_cons, List.map_nil, ha.eval hx, ha.eval hy, hr]
  exact wp_value (noDefer_spec (by rw [hop]; rfl)) hex (hK _ _ X _ ⟨rfl, rfl, rfl⟩ hs.freeze (fun h => by cases h))
/-- append of a string onto what has grown. -/
theorem op_appendStr {t u e : TypeId} {s x : Operand} {b cap len : Nat} {cs : List Value} {str : ByteArray} (ht : P.underlying t = some (.slice e)) (hu : P.underlying u = some .string) (hi : ∃ i, P.info? e = some i ∧ i.zero = some (.int .u8 0) ∧ i.size = 1 ∧ i.bytes = 1) (hs : eev env s = some (.slice (some ⟨b, 0, none⟩) len cap)) (hx : eev env x = some (.string str))
    (hl : len ≤ cap) (hm : cap ≤ maxLen) (hcl : cs.length = len * 1) (hby : len + str.size ≤ 140737488355328) :
    OpX P n w0 X0 env (own ++ [⟨b, cs, e, cap * 1⟩]) X (.call { callee := .builtin .append, args := #[s, x], argTypes := #[t, u] }) false fun v own' X' => ∃ G', own' = own ++ G' ∧ X = X' ∧ GrowS e 1 v (len + str.size) (cs ++ Lib.strCells str) G' ∧ ∃ b' cap', v = .slice (some ⟨b', 0, none⟩) (len + str.size) cap' := by
  intro a W oper K Q ro hop ha hsat hK
  obtain ⟨i, i1, i2, i3, i4⟩ := hi
  have hj : (own ++ [(⟨b, cs, e, cap * 1⟩ : Ow)])[own.length]? = some ⟨b, cs, e, cap * 1⟩ := by simp
  have hin := hsat.stab.own ⟨b, cs, e, cap * 1⟩ (by simp)
  have hb0 := hsat.new ⟨b, cs, e, cap * 1⟩ (by simp)
  obtain ⟨r, hr, hz⟩ := hin
  simp only at hr hz hb0
  have hmx : maxLen = 9223372036854775807 := rfl
  have hrow : W.ownsRow w0.heap.size e 1 (.slice (some ⟨b, 0, none⟩) len cap) len cs :=
    ⟨hcl, .inr ⟨b, cap, (cs ++ r).toArray, rfl, hb0, hr, hl, hm, by simp; omega, by simp [hcl]⟩⟩
  obtain ⟨v', W', r1, r2, r3, r4⟩ := Lib.run_append_own_string (P := P) W w0.heap.size t u oper.type e i ht hu i1 i2 i3 i4 _ len cs hrow str (by omega) hby hsat.below.size
  have hat : v'.ownBlock = some b ∨ v'.ownBlock = some W.heap.size := by
    by_cases hroom : len + str.size ≤ cap
    · have := Lib.run_append_room_string (P := P) W t u oper.type e i ht hu i1 i3 b len cap (cs ++ r).toArray hr str hroom (by simp; omega)
      rw [this] at r1
      injection r1 with r1 _
      left; rw [← r1]; rfl
    · have holds : ∀ j u, cs[j]? = some u → W.cell? ((⟨b, 0, none⟩ : Addr).add j) = some u := hrow.cells (g := b) rfl
      have := Lib.run_append_grow_string (P := P) W t u oper.type e i (.int .u8 0) ht hu i1 i2 ⟨b, 0, none⟩ len cap cs (by rw [i3]; exact hcl) holds str (by omega) (by omega) (by rw [i4]; exact growslice_fits (by omega) (by omega))
      rw [this] at r1
      injection r1 with r1 _
      right; rw [← r1]; rfl
  have hex : (execOp a.eval oper).run P W = .ok (.value v') W' := by
    simp only [execOp, hop, resolve, invoke, builtin, Sem.run_bind, Sem.run_pure, Result.andThen_ok, List.map_toArray, List.map_cons, List.map_nil, ha.eval hs, ha.eval hx, r1]
  refine wp_value (noDefer_spec (by rw [hop]; rfl)) hex ?_
  rcases r2.2 with ⟨rfl, h0⟩ | ⟨g', cap', cur, rfl, hg0, hcur, hn, hmx', hsz', htk⟩
  · rcases hat with h | h <;> simp [Value.ownBlock] at h
  · have hgg : g' = b ∨ g' = W.heap.size := by simpa [Value.ownBlock] using hat
    have hin' : Ow.In ⟨g', cs ++ Lib.strCells str, e, cap' * 1⟩ W' := by
      refine ⟨cur.toList.drop ((len + str.size) * 1), ?_, ?_⟩
      · rw [← htk, List.take_append_drop]; exact hcur
      · have hl' := r2.1
        simp only at hl' ⊢
        rw [hl', List.length_drop, Array.length_toList, hsz']; omega
    have hreg := hsat.regrow hj r3 hgg hin'
    have e1 : (own ++ [(⟨b, cs, e, cap * 1⟩ : Ow)]).set own.length ⟨g', cs ++ Lib.strCells str, e, cap' * 1⟩ = own ++ [⟨g', cs ++ Lib.strCells str, e, cap' * 1⟩] := by simp
    rw [e1] at hreg
    exact hK _ _ X W' ⟨_, rfl, rfl, .inr ⟨g', cap', rfl, rfl, hn, hmx', r2.1⟩, g', cap', rfl⟩ hreg (fun h => by cases h)
end
end Go.Proofs.YtoheffglppbcbaaDoor
