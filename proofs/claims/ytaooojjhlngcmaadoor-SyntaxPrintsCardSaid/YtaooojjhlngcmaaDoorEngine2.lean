/- THE ENGINE: ranges over functions: the loop's side and the iterator's side. No program is named here. -/
import Derived.Lib.Builder
import Derived.Lib.UnsafeStr
import Derived.Laws.Externs
import Derived.Test.YtaooojjhlngcmaaDoorEngine
namespace Go.Proofs.YtaooojjhlngcmaaDoor
open Go.RowKit

theorem fr_room (ro : Option Nat) (m : Nat) : (FR ro).room m := by simp [Fence.room]
theorem wpIn_dep {ro : Option Nat} {m m' : Nat} {P : Program} {c : Code} {Q : Exit → Act → World → Prop} {a : Act} {w : World} (h : c.wpIn (FR ro) m P Q a w) : c.wpIn (FR ro) m' P Q a w :=
  fun b k cs h1 h2 _ => h b k cs h1 h2 (fr_room _ _)
theorem callsIn_dep {ro : Option Nat} {m m' : Nat} {P : Program} {f : FuncId} {args : Array Value} {w : World} {R : Ending → World → Prop} (h : CallsIn (FR ro) m P f args w R) : CallsIn (FR ro) m' P f args w R := fr_calls.2 (fr_calls.1 h)
theorem roundIn_dep {ro : Option Nat} {m m' : Nat} {P : Program} {l : Nat} {f : FuncId} {tmps : Array Value} {assign body : Code} {w : World} {R : Ending → World → Prop} (h : RoundIn (FR ro) m P l f tmps assign body w R) : RoundIn (FR ro) m' P l f tmps assign body w R :=
  ⟨h.1, fun c cs _ => h.2 c cs (fr_room _ _)⟩

/-- The function g hands the values xs to the loop's body, one after the other, and comes back. -/
def Seq (P : Program) (g : Nat) (lb : List Value) (xs : List Value) (X : PMap) : Prop :=
  ∀ (l : Nat) (J : Nat → World → Prop) (W : World), (∀ i A B, J i A → Below A.heap.size A B → J i B) → (∀ i A, J i A → PIn X A) →
    (∀ i x A, J i A → xs[i]? = some x → YieldAt (FR none) DEP P l #[x] A fun e B => e = .returned (.bool true) ∧ J (i + 1) B) →
    J 0 W → Calls P g (.func (.yield l) #[] #[] :: lb).toArray W fun e B => (∃ v, e = .returned v) ∧ J xs.length B

theorem Sat.hold {w : World} {res : List (Nat × Obj)} {X0 X : PMap} {own : Own} {W : World} (h : Sat ⟨w, res⟩ X0 own X W) (o : Obj) : Sat ⟨w, (W.heap.size, o) :: res⟩ X0 own X (W.alloc o) := by
  have hg := Grow.alloc W o
  refine ⟨⟨h.below.alloc h.below.size o, h.old, h.stab.grow hg, h.new, h.apart, h.nodup⟩, fun p hp => ?_⟩
  rcases List.mem_cons.1 hp with rfl | hp
  · exact ⟨heap_alloc_new W o, h.stab.pers.fresh, fun q hq => Nat.ne_of_lt (h.stab.own q hq).lt, h.below.size⟩
  · obtain ⟨h1, h2, h3, h4⟩ := h.res p hp
    exact ⟨(hg.same _ (get_lt h1)).trans h1, h2, h3, h4⟩
theorem Sat.putRes {w : World} {res : List (Nat × Obj)} {X0 X : PMap} {own : Own} {W : World} {l : Nat} {o : Obj} (h : Sat ⟨w, (l, o) :: res⟩ X0 own X W) (hl : ∀ p ∈ res, p.1 ≠ l) (o' : Obj) : Sat ⟨w, (l, o') :: res⟩ X0 own X (W.putObj l o') := by
  obtain ⟨g1, g2, g3, g4⟩ := h.res (l, o) (by simp)
  have hgb : W.grownBy (W.putObj l o') (some l) := grownBy_putObj' W l o'
  refine ⟨⟨h.below.grown hgb h.below.size (fun k e => by cases e; exact g4), h.old, ⟨fun q hq => ?_, fun k ob hk => ?_⟩, h.new, h.apart, h.nodup⟩, fun p hp => ?_⟩
  · obtain ⟨r, hr, hz⟩ := h.stab.own q hq
    exact ⟨r, (World.putObj_heap_other (g3 q hq)).trans hr, hz⟩
  · refine (World.putObj_heap_other (fun e => ?_)).trans (h.stab.pers k ob hk)
    subst e
    simp only at g2
    rw [g2] at hk; cases hk
  · rcases List.mem_cons.1 hp with rfl | hp
    · exact ⟨World.putObj_heap_same (get_lt g1), g2, g3, g4⟩
    · obtain ⟨h1, h2, h3, h4⟩ := h.res p (by simp [hp])
      exact ⟨(World.putObj_heap_other (hl p hp)).trans h1, h2, h3, h4⟩
theorem Sat.drop {w : World} {res : List (Nat × Obj)} {X0 X : PMap} {own : Own} {W : World} {p : Nat × Obj} (h : Sat ⟨w, p :: res⟩ X0 own X W) : Sat ⟨w, res⟩ X0 own X W := ⟨⟨h.below, h.old, h.stab, h.new, h.apart, h.nodup⟩, fun q hq => h.res q (by simp [hq])⟩

section
variable {P : Program} {n : NM} {w : World} {res : List (Nat × Obj)} {X0 X : PMap} {own : Own} {env : Env} {Q : Exit → Act → World → Prop}
/-- Where a round ends. -/
def RQ (w : World) (res : List (Nat × Obj)) (X0 : PMap) (I : Nat → Own → PMap → Prop) (i : Nat) : Exit → Act → World → Prop
  | .normal, _, W => ∃ own X, I i own X ∧ Sat ⟨w, res⟩ X0 own X W
  | _, _, _ => False
theorem T.roundEnd {ro : Option Nat} {I : Nat → Own → PMap → Prop} {i : Nat} (h : I i own X) : T ro P n ⟨w, res⟩ X0 (RQ w res X0 I i) [] none env own X := fun _ _ _ hs => ⟨own, X, h, hs⟩

theorem panicRound {ro : Option Nat} {k : List It} {I : Nat → Own → PMap → Prop} {i : Nat} {d : Option Tmp} {v : Value} : ∀ c a w', contQ ro P (RQ w res X0 I i) k (.panic c) (a.put d v) w' → contQ ro P (RQ w res X0 I i) k (.panic c) a w' := fun _ _ _ h => h.elim
theorem T.rangeFunc {g : Operand} {p d : Tmp} {id : Nat} {ty : TypeId} {pos : String} {af : Array Edge} {body : Code} {k : List It} {gf : Nat} {lb : List Value} {xs : List Value}
    (hg : eev env g = some (.func (.func gf) #[] lb.toArray)) (hE : Enters P gf) (hp : Nat.blt p n.size = true) (hd : Nat.blt d n.size = true) (hseq : Seq P gf lb xs X)
    (I : Nat → Own → PMap → Prop) (h0 : I 0 own X) (hX : ∀ i own' X', I i own' X' → X.le X')
    (round : ∀ i x own' X' l r D, xs[i]? = some x → I i own' X' → T (some l) P ⟨n.size, []⟩ ⟨w, (l, r) :: (D, MarkObj) :: res⟩ X0 (RQ w ((l, r) :: (D, MarkObj) :: res) X0 I (i + 1)) [.code body] none ((d, x) :: (p, x) :: env) own' X')
    (rest : ∀ D own' X', I xs.length own' X' → T none P ⟨n.size, markOf D :: n.marks⟩ ⟨w, (D, MarkObj) :: res⟩ X0 Q k none env own' X') :
    T none P n ⟨w, res⟩ X0 Q (.code (.rangeFunc g #[p] (.region id #[⟨some d, .assign (.tmp p), ty, pos, af, none⟩] false) body) :: k) none env own X := by
  intro a W ha hs
  refine runL_code (Go.wpIn_rangeFunc ?_)
  intro fn hfn
  obtain ⟨asg, hasg⟩ : ∃ c, c = Code.region id #[⟨some d, .assign (.tmp p), ty, pos, af, none⟩] false := ⟨_, rfl⟩
  rw [← hasg]
  obtain ⟨rec, hrec⟩ : ∃ rec : LoopState → Loop, rec = fun st => { state := st, pending := none, fn, tmps := a.tmps, params := #[p], assign := asg, body, defers := W.heap.size } := ⟨_, rfl⟩
  have hs1 := (hs.hold MarkObj).hold (.loop (rec .ready))
  have hsz : (W.alloc MarkObj).heap.size = W.heap.size + 1 := by simp
  rw [hsz] at hs1
  have hfar : ∀ q ∈ ((W.heap.size, MarkObj) :: res), q.1 ≠ W.heap.size + 1 := fun q hq => by
    rcases List.mem_cons.1 hq with rfl | hq
    · simp
    · have := get_lt (hs.res q hq).1
      omega
  have hev : a.eval g = .func (.func gf) #[] lb.toArray := ha.eval hg
  refine ⟨W.heap.size + 1, [markOf W.heap.size], (W.alloc MarkObj).alloc (.loop (rec .ready)), { target := .fn (.func gf) lb.toArray, args := #[.func (.yield (W.heap.size + 1)) #[] #[]] }, (W.alloc MarkObj).alloc (.loop (rec .ready)), gf,
    (Value.func (.yield (W.heap.size + 1)) #[] #[] :: lb).toArray, (W.alloc MarkObj).alloc (.loop (rec .ready)), ?_, ?_, fun _ _ => trivial, ?_, (fun h => by cases h), ?_⟩
  · rw [hrec]; exact run_enterLoop_outer _ _ _ _ _
  · simp only [resolve, hev]
    simp [go_sem]
  · have := hE (Value.func (.yield (W.heap.size + 1)) #[] #[] :: lb).toArray ((W.alloc MarkObj).alloc (.loop (rec .ready)))
    simp [invoke, go_sem, this]
  · refine fr_calls.2 ((hseq (W.heap.size + 1) (fun i A => ∃ own' X', I i own' X' ∧ Sat ⟨w, (W.heap.size + 1, .loop (rec .ready)) :: (W.heap.size, MarkObj) :: res⟩ X0 own' X' A) _ ?_ ?_ ?_ ⟨own, X, h0, hs1⟩).mono ?_)
    · rintro i A B ⟨own', X', hI, hA⟩ hb
      exact ⟨own', X', hI, hA.call hb ((Grow.of_below hb).pin hA.stab.pers) fun _ _ => rfl⟩
    · rintro i A ⟨own', X', hI, hA⟩ k o hk
      exact hA.stab.pers k o (hX i own' X' hI k o hk)
    · rintro i x A ⟨own', X', hI, hA⟩ hx
      have hl := (hA.res (W.heap.size + 1, .loop (rec .ready)) (by simp)).1
      have hy := run_yield (P := P) (args := #[x]) hl (by rw [hrec]; rfl)
      refine ⟨_, _, _, _, hy, roundIn_of_wpIn trivial ?_⟩
      have hps : (rec .ready).params = #[p] := by rw [hrec]
      have htm : (rec .ready).tmps = a.tmps := by rw [hrec]
      have has : (rec .ready).assign = asg := by rw [hrec]
      have hbd : (rec .ready).body = body := by rw [hrec]
      rw [hps, htm, has, hbd]
      have hz : ∀ F : Array Value → Tmp × Value → Array Value, (#[p].zip #[x]).foldl F a.tmps = F a.tmps (p, x) := fun F => by simp
      rw [hz]
      have he : EOk ⟨n.size, []⟩ ((p, x) :: env) { tmps := a.tmps.setIfInBounds p x, defers := [] } := by
        have h1 : EOk ⟨n.size, []⟩ env { tmps := a.tmps, defers := [] } := ⟨rfl, ha.size, ha.get⟩
        exact h1.put hp x
      have hAs : T (some (W.heap.size + 1)) P ⟨n.size, []⟩ ⟨w, (W.heap.size + 1, .loop (rec .ready)) :: (W.heap.size, MarkObj) :: res⟩ X0 (fun e a W2 => match e with
          | .normal => EOk ⟨n.size, []⟩ ((d, x) :: (p, x) :: env) a ∧ Sat ⟨w, (W.heap.size + 1, .loop (rec .ready)) :: (W.heap.size, MarkObj) :: res⟩ X0 own' X' W2
          | _ => False) [.code asg] none ((p, x) :: env) own' X' := by
        rw [hasg]
        refine T.region (ops := [_]) (SL.y (op_assign (v := x) ?_) rfl ?_ ?_)
        · simp [eev, eget]
        · simp [dok, noDefer]; exact Nat.le_of_ble_eq_true hd
        · exact fun a W2 ha hs => ⟨ha, hs⟩
      have hw := runL_code_iff.1 (hAs _ A he hA)
      refine wpIn_dep (m := DEP) (Code.wpIn_mono (fun e a2 W2 h => ?_) hw)
      cases e with
      | normal =>
        obtain ⟨ha2, hs2⟩ := h
        have hl2 := (hs2.res (W.heap.size + 1, .loop (rec .ready)) (by simp)).1
        refine ⟨_, run_beginRound hl2 (by rw [hrec]), ?_⟩
        have hs3 := hs2.putRes hfar (.loop { rec .ready with state := .busy })
        have hb := runL_code_iff.1 (round i x own' X' _ _ _ hx hI a2 _ ha2 hs3)
        refine wpIn_dep (m := DEP) (Code.wpIn_mono (fun e a4 W4 h => ?_) hb)
        cases e with
        | normal =>
          obtain ⟨own4, X4, hI4, hs4⟩ := h
          have hl4 := (hs4.res (W.heap.size + 1, .loop { rec .ready with state := .busy }) (by simp)).1
          refine ⟨_, _, run_endRound none hl4, rfl, own4, X4, hI4, ?_⟩
          have := hs4.putRes hfar (.loop (rec .ready))
          have e2 : ({ { rec .ready with state := .busy } with state := (if (none : Option Code).isNone then .ready else .done), pending := none } : Loop) = rec .ready := by rw [hrec]; rfl
          rw [e2]
          exact this
        | _ => exact h.elim
      | _ => exact h.elim
    · rintro e B ⟨⟨v, rfl⟩, own', X', hI, hB⟩
      have hl := (hB.res (W.heap.size + 1, .loop (rec .ready)) (by simp)).1
      have e3 : ({ rec .ready with state := .exhausted } : Loop) = rec .exhausted := by rw [hrec]
      have e4 : (rec .ready).pending = none := by rw [hrec]
      refine ⟨none, B.putObj (W.heap.size + 1) (.loop (rec .exhausted)), ?_, ?_⟩
      · have := run_endLoop (P := P) hl (by rw [hrec]; simp)
        rw [e3, e4] at this
        exact this
      have hs5 := (hB.putRes hfar (.loop (rec .exhausted))).drop
      have hr := rest W.heap.size own' X' hI { a with defers := [markOf W.heap.size] ++ a.defers } _ ⟨by simp [ha.defers], ha.size, ha.get⟩ hs5
      exact hr

/-! ## the iterator's side -/
theorem SL.yield {ops : Array Oper} {l' : List Oper} {d : Option Tmp} {c y : Operand} {ts : Array TypeId} {ty : TypeId} {pos : String} {af : Array Edge} {gd : Option (Nat × Bool)} {l : Nat} {x : Value} {J J' : World → Prop}
    (hc : eev env c = some (.func (.yield l) #[] #[])) (hx : eev env y = some x) (hg : gwant ops env gd = some true) (hd : dok n d = true)
    (hJ : ∀ W, Below w.heap.size w W → J W) (hY : ∀ A, J A → YieldAt (FR none) DEP P l #[x] A fun e B => e = .returned (.bool true) ∧ J' B) (hP : ∀ B, J' B → PIn X B)
    (h' : ∀ w1, J' w1 → PIn X w1 → SL none P n ⟨w1, []⟩ X ops Q l' (eput env d (.bool true)) [] X) :
    SL none P n ⟨w, []⟩ X0 ops Q (⟨d, .call { callee := .value c, args := #[y], argTypes := ts }, ty, pos, af, gd⟩ :: l') env [] X := by
  intro a W ha hs
  unfold wpListIn
  rw [if_pos (gwant_spec ha hg)]
  refine ⟨fun _ _ => trivial, ?_⟩
  rw [Oper.semAt_eq _ _ _ (fun _ => by simp)]
  obtain ⟨fn, tmps, assign, body, hy, hr⟩ := hY W (hJ W hs.below)
  have hex : (execOp a.eval ⟨d, .call { callee := .value c, args := #[y], argTypes := ts }, ty, pos, af, gd⟩).run P W = .ok (.round l fn tmps assign body) W := by
    simp only [execOp, resolve, ha.eval hc, Deferred.ofValue, invoke, Sem.run_bind, Sem.run_pure, Result.andThen_ok, List.map_toArray, List.map_cons, List.map_nil, ha.eval hx]
    simp [go_sem, hy]
  rw [hex, Oper.uponIn_round]
  refine ⟨fun h => (by cases h), roundIn_dep (m := DEP) (hr.mono fun e B h => ?_)⟩
  obtain ⟨rfl, hJ'⟩ := h
  exact h' B hJ' (hP B hJ') _ _ (ha.eput hd _) (Sat.start B (hP B hJ'))
/-- A loop of an iterator: each round begins in a world of its own. -/
def FamB := Nat → Env → World → Prop
def backToB (n : NM) (X : PMap) (I : FamB) (m : Nat) : It := .cut fun a W => ∃ m', m' < m ∧ ∃ env w1, I m' env w1 ∧ EOk n env a ∧ Sat ⟨w1, []⟩ X [] X W
theorem T.loopB {c : Code} {k : List It} (I : FamB) (m : Nat) {env' : Env} (h0 : I m env' w) (hw : Sub env env')
    (hX : X = X0) (round : ∀ m env w1, I m env w1 → T none P n ⟨w1, []⟩ X Q (.code c :: backToB n X I m :: k) none env [] X) : T none P n ⟨w, []⟩ X0 Q (.code (.loop c) :: k) none env [] X := by
  subst hX
  intro a W ha hs
  refine runL_code (loop_ghost (fun m a W => ∃ env w1, I m env w1 ∧ EOk n env a ∧ Sat ⟨w1, []⟩ X [] X W) ?_ m a W ⟨env', w, h0, ha.weaken hw.get, hs⟩)
  rintro m a W ⟨env, w1, hI, ha, hs⟩
  refine Code.wpIn_mono (fun e a w h => ?_) (runL_code_iff.1 (round m env w1 hI a W ha hs))
  cases e with
  | normal => exact h
  | exit id => exact h
  | _ => exact h
theorem T.backB {I : FamB} {m : Nat} {k : List It} (m' : Nat) (hm : m' < m) {env' : Env} (hI : I m' env' w) (hw : Sub env env') : T none P n ⟨w, []⟩ X Q (backToB n X I m :: k) none env [] X :=
  fun _ _ ha hs => ⟨m', hm, env', w, hI, ha.weaken hw.get, hs⟩
end
end Go.Proofs.YtaooojjhlngcmaaDoor
/- THE ENGINE: contracts of functions that hand over blocks of their own. No program is named here. -/
namespace Go.Proofs.YtaooojjhlngcmaaDoor
open Go.RowKit

/-- What a call leaves that hands over blocks. -/
def FinO (w0 : World) (X0 : PMap) (Φ : Value → Own → PMap → Prop) (e : Ending) (w' : World) : Prop :=
  ∃ v own X', e = .returned v ∧ SatC w0 X0 own X' w' ∧ Φ v own X'
def SpecO (P : Program) (f : FuncId) (args : List Value) (X0 : PMap) (Φ : Value → Own → PMap → Prop) : Prop := ∀ w, PIn X0 w → Calls P f args.toArray w (FinO w X0 Φ)
theorem SpecO.enter {P : Program} {f : FuncId} {fn : Func} {c : Code} {args : List Value} {X0 : PMap} {Φ : Value → Own → PMap → Prop} (hf : P.funcs[f]? = some fn) (hb : fn.body = some c) {n : Nat} (hn : fn.ntmps = n) (hl : Nat.ble args.length n = true)
    (h : ∀ w, PIn X0 w → T none P ⟨n, []⟩ ⟨w, []⟩ X0 (bodyQ P fn (FinO w X0 Φ)) [.code c] none (argEnv 0 args) [] X0) : SpecO P f args X0 Φ := fun w hw => Calls.enter hf hb hn hl hw (h w hw)
theorem Sat.callO {w0 : Base} {X0 : PMap} {own own1 : Own} {X X' : PMap} {W W' : World} (h : Sat w0 X0 own X W) (h1 : SatC W X own1 X' W') : Sat w0 X0 (own1 ++ own) X' W' := by
  have hg := Grow.of_below h1.below
  refine ⟨⟨h.below.trans (h1.below.mono h.below.size), fun k hk => (h1.old k (Nat.lt_of_lt_of_le hk h.below.size)).trans (h.old k hk), ⟨fun p hp => ?_, h1.stab.pers⟩, fun p hp => ?_, fun p hp => ?_, ?_⟩, fun p hp => ?_⟩
  · rcases List.mem_append.1 hp with hp | hp
    · exact h1.stab.own p hp
    · exact hg.ow (h.stab.own p hp)
  · rcases List.mem_append.1 hp with hp | hp
    · exact Nat.le_trans h.below.size (h1.new p hp)
    · exact h.new p hp
  · rcases List.mem_append.1 hp with hp | hp
    · exact h1.apart p hp
    · exact (h1.old _ (h.stab.own p hp).lt).trans (h.apart p hp)
  · refine List.pairwise_append.2 ⟨h1.nodup, h.nodup, fun a ha b hb => ?_⟩
    have := h1.new a ha
    have := (h.stab.own b hb).lt
    omega
  · obtain ⟨g1, g2, g3, g4⟩ := h.res p hp
    refine ⟨(hg.same _ (get_lt g1)).trans g1, (h1.old _ (get_lt g1)).trans g2, fun q hq => ?_, g4⟩
    rcases List.mem_append.1 hq with hq | hq
    · have := h1.new q hq
      have := get_lt g1
      omega
    · exact g3 q hq

section
variable {ro : Option Nat} {P : Program} {n : NM} {w0 : Base} {X0 X : PMap} {own : Own} {env : Env}
theorem op_callO {f : FuncId} {xs : Array Operand} {ts : Array TypeId} {vs : List Value} {Φ : Value → Own → PMap → Prop} (he : Enters P f) (hx : xs.toList.map (eev env) = vs.map some)
    (h : SpecO P f vs X Φ) : OpX P n w0 X0 env own X (.call { callee := .value (.func f), args := xs, argTypes := ts }) true fun v own' X' => ∃ own1, own' = own1 ++ own ∧ X.le X' ∧ Φ v own1 X' := by
  intro a W oper K Q ro hop ha hs hK
  have all : ∀ (xs : List Operand) (vs : List Value), xs.map (eev env) = vs.map some → xs.map a.eval = vs := by
    intro xs
    induction xs with
    | nil => intro vs h; cases vs <;> simp_all
    | cons x xs ih =>
      intro vs h
      cases vs with
      | nil => simp at h
      | cons v vs =>
        simp only [List.map_cons, List.cons.injEq] at h
        simp [ha.eval h.1, ih vs h.2]
  have h1 : xs.map a.eval = vs.toArray := by apply Array.toList_inj.1; simp [all _ _ hx]
  have hex : (execOp a.eval oper).run P W = .ok (.enter f vs.toArray) W := by
    have hc : a.eval (.func f) = .func (.func f) #[] #[] := ha.eval rfl
    simp only [execOp, hop, resolve, hc, h1, Deferred.ofValue, invoke, Sem.run_bind, Sem.run_pure, Result.andThen_ok]
    simpa using he vs.toArray W
  refine wp_enters (noDefer_spec (by rw [hop]; rfl)) hex ((h W hs.stab.pers).mono fun e w' hfin => ?_)
  obtain ⟨v, own1, X', rfl, hc, hΦ⟩ := hfin
  refine ⟨v, rfl, ?_⟩
  exact hK v _ X' w' ⟨own1, rfl, fun q o hq => (hc.old q (hs.stab.pers.lt hq)).trans hq, hΦ⟩ (hs.callO hc) fun _ => Grow.of_below hc.below
variable {fn : Func} {Φ : Value → Own → PMap → Prop}
theorem T.retO {w : World} {v : Value} {k : List It} {s : Nat} (hr : ∀ a W, EOk ⟨s, []⟩ env a → Stab own X W → (results fn a.tmps).run P W = .ok v W) (hΦ : Φ v own X) : T ro P ⟨s, []⟩ ⟨w, []⟩ X0 (bodyQ P fn (FinO w X0 Φ)) (.code .ret :: k) none env own X :=
  fun a W ha hs => runL_ret (by
    show LeavesInM (FR none) DEP P fn a.tmps _ a.defers .returning W
    rw [ha.defers]
    exact ⟨v, hr a W ha hs.stab, v, own, X, rfl, hs.toSatC, hΦ⟩)
theorem T.retO1 {w : World} {k : List It} {s : Nat} {r : ResultVar} {v : Value} (hr : fn.results = #[r]) (h : ResIs P env own r v) (hΦ : Φ v own X) : T ro P ⟨s, []⟩ ⟨w, []⟩ X0 (bodyQ P fn (FinO w X0 Φ)) (.code .ret :: k) none env own X := T.retO (fun _ _ ha hs => run_results1 hr h ha hs) hΦ
theorem T.retO2 {w : World} {k : List It} {s : Nat} {r r' : ResultVar} {v v' : Value} (hr : fn.results = #[r, r']) (h : ResIs P env own r v) (h' : ResIs P env own r' v') (hΦ : Φ (.tuple #[v, v']) own X) : T ro P ⟨s, []⟩ ⟨w, []⟩ X0 (bodyQ P fn (FinO w X0 Φ)) (.code .ret :: k) none env own X := T.retO (fun _ _ ha hs => run_results2 hr h h' ha hs) hΦ

theorem T.retOS1 {w : World} {k : List It} {s : Nat} {r : ResultVar} {v : Value} {own' : Own} (hr : fn.results = #[r]) (h : ResIs P env own r v) (hsub : own'.Sublist own) (hΦ : Φ v own' X) : T ro P ⟨s, []⟩ ⟨w, []⟩ X0 (bodyQ P fn (FinO w X0 Φ)) (.code .ret :: k) none env own X :=
  fun a W ha hs => runL_ret (by
    show LeavesInM (FR none) DEP P fn a.tmps _ a.defers .returning W
    rw [ha.defers]
    exact ⟨v, run_results1 hr h ha hs.stab, v, own', X, rfl, (hs.sub hsub).toSatC, hΦ⟩)
theorem T.perm {Q : Exit → Act → World → Prop} {k : List It} {e : Option Nat} {own' : Own} (hp : own.Perm own') (h : T ro P n w0 X0 Q k e env own' X) : T ro P n w0 X0 Q k e env own X := fun a W ha hs => h a W ha (hs.perm hp)
theorem SL.perm {ops : Array Oper} {Q : Exit → Act → World → Prop} {l : List Oper} {own' : Own} (hp : own.Perm own') (h : SL ro P n w0 X0 ops Q l env own' X) : SL ro P n w0 X0 ops Q l env own X := fun a W ha hs => h a W ha (hs.perm hp)
theorem perm3 {a b c : Ow} {R G : Own} : (a :: b :: c :: (R ++ G)).Perm (b :: c :: ((R ++ [a]) ++ G)) := by
  have p1 : (a :: (R ++ G)).Perm ((R ++ [a]) ++ G) := by simpa using (List.perm_middle (a := a) (l₁ := R) (l₂ := G)).symm
  exact ((List.Perm.swap b a _).trans (List.Perm.cons b (List.Perm.swap c a _))).trans ((p1.cons c).cons b)
theorem AtO.of_get : ∀ {l : Own} {j b sz : Nat} {cs : List Value} {ty : TypeId}, l[j]? = some ⟨b, cs, ty, sz⟩ → AtO l b cs ty sz j
  | [], _, _, _, _, _, h => by simp at h
  | o :: l, 0, _, _, _, _, h => by
    simp at h
    subst h
    exact AtO.here
  | o :: l, j + 1, _, _, _, _, h => AtO.there (AtO.of_get (by simpa using h))
theorem Sat.pubList {own0 : Own} {W : World} : ∀ (R : Own) (X : PMap), Sat w0 X0 (R ++ own0) X W → ∃ X', X.le X' ∧ (∀ p ∈ R, Blk X' p.b p.cs) ∧ Sat w0 X0 own0 X' W
  | [], X, h => ⟨X, PMap.le_refl X, (fun p hp => by cases hp), h⟩
  | ⟨b, cs, ty, sz⟩ :: R, X, h => by
    obtain ⟨X1, h1, h2, _, h4⟩ := h.pub (AtO.here (l := R ++ own0))
    obtain ⟨X2, g1, g2, g3⟩ := Sat.pubList R X1 h4
    refine ⟨X2, PMap.le_trans h1 g1, fun p hp => ?_, g3⟩
    rcases List.mem_cons.1 hp with rfl | hp
    · exact h2.mono g1
    · exact g2 p hp
theorem T.pubList {Q : Exit → Act → World → Prop} {k : List It} {e : Option Nat} {R own0 : Own} (h : ∀ X', X.le X' → (∀ p ∈ R, Blk X' p.b p.cs) → T ro P n w0 X0 Q k e env own0 X') : T ro P n w0 X0 Q k e env (R ++ own0) X := by
  intro a W ha hs
  obtain ⟨X', h1, h2, h3⟩ := Sat.pubList R X hs
  exact h X' h1 h2 a W ha h3
/-- make([]T, l, c) of whatever size an element has. -/
theorem op_makeR {t e : TypeId} {x y : Operand} {bytes l c size : Nat} {kl kc : IntKind} {zs : List Value} (ht : P.underlying t = some (.slice e)) (he : ∃ i z, P.info? e = some i ∧ i.size = size ∧ i.bytes = bytes ∧ i.zero = some z ∧ z.cells = zs.toArray) (hzs : zs.length = size)
    (hx : eev env x = some (.int kl (l : Int))) (hy : eev env y = some (.int kc (c : Int))) (hlc : l ≤ c) (hb : bytes * c ≤ 140737488355328) (hc : c ≤ 9223372036854775807) :
    OpX P n w0 X0 env own X (.makeSlice t x y) true fun v own' X' => ∃ b, v = .slice (some ⟨b, 0, none⟩) l c ∧ own' = ⟨b, (List.replicate l zs).flatten, e, c * size⟩ :: own ∧ X = X' := by
  intro a W oper K Q ro hop ha hs hK
  obtain ⟨i, z, h1, h2, h3, h4, h5⟩ := he
  have hbi : (i.bytes : Int) * (c : Int) ≤ 281474976710656 := by
    have : ((i.bytes * c : Nat) : Int) ≤ 281474976710656 := by rw [h3]; omega
    rwa [Int.natCast_mul] at this
  have hr := run_make (P := P) W t e i z ht h1 h4 kl kc (l : Int) (c : Int) (by omega) (by omega) hbi (by omega)
  have hmc : madeCells zs.toArray (c * size) = (List.replicate c zs).flatten.toArray := by
    have := rep_cells zs c
    rw [hzs] at this
    rw [← this]
    apply Array.toList_inj.1
    simp [madeCells, hzs]
  simp only [Int.toNat_natCast, h2, h5, hmc] at hr
  refine wp_value (v := .slice (some ⟨W.heap.size, 0, none⟩) l c) (W' := W.alloc (.cells (List.replicate c zs).flatten.toArray e)) (noDefer_spec (by rw [hop]; rfl)) ?_ (hK _ (⟨W.heap.size, (List.replicate l zs).flatten, e, c * size⟩ :: own) X _ ⟨_, rfl, rfl, rfl⟩ ?_ fun _ => Grow.alloc W _)
  · simp [execOp, hop, ha.eval hx, ha.eval hy, hr]
  · have h1 := hs.alloc (List.replicate c zs).flatten e
    have e1 : (List.replicate c zs).flatten = (List.replicate l zs).flatten ++ (List.replicate (c - l) zs).flatten := by
      rw [← List.flatten_append, List.replicate_append_replicate]; congr 2; omega
    have e2 : (List.replicate c zs).flatten.length = c * size := by simp [hzs]
    rw [e2] at h1
    rw [show (⟨W.heap.size, (List.replicate c zs).flatten, e, c * size⟩ : Ow) = ⟨W.heap.size, (List.replicate l zs).flatten ++ (List.replicate (c - l) zs).flatten, e, c * size⟩ by rw [← e1]] at h1
    exact h1.forget
theorem mr_of {e : TypeId} {size bytes : Nat} {zs : List Value} (h : (P.info? e).map (fun i => (i.size, i.bytes, i.zero.map fun z => z.cells)) = some (size, bytes, some zs.toArray)) : ∃ i z, P.info? e = some i ∧ i.size = size ∧ i.bytes = bytes ∧ i.zero = some z ∧ z.cells = zs.toArray := by
  cases hi : P.info? e with
  | none => simp [hi] at h
  | some i =>
    cases hz : i.zero with
    | none => simp [hi, hz] at h
    | some z =>
      simp only [hi, Option.map_some, hz, Option.some.injEq, Prod.mk.injEq] at h
      exact ⟨i, z, rfl, h.1, h.2.1, hz, h.2.2⟩
end
end Go.Proofs.YtaooojjhlngcmaaDoor
/- THE ENGINE: slices of slices, nil or not, that are read by append. No program is named here. -/
namespace Go.Proofs.YtaooojjhlngcmaaDoor
open Go.RowKit
section
variable {P : Program} {n : NM} {w0 : Base} {X0 X : PMap} {own : Own} {env : Env}
/-- The start of a slice of a slice. -/
def slA (A : Option Addr) (cap l size : Nat) : Option Addr := if cap = l then A else A.map (·.add (l * size))
theorem op_sliceA {t e : TypeId} {x : Operand} {lo hi : Option Operand} {A : Option Addr} {len cap size l h : Nat} {row : Bool} (ht : P.underlying t = some (.slice e)) (he : Ty P e row size) (hx : eev env x = some (.slice A len cap))
    (hl : ∀ q, lo = some q → ∃ k, eev env q = some (.int k (l : Int))) (hl0 : lo = none → l = 0) (hh : ∀ q, hi = some q → ∃ k, eev env q = some (.int k (h : Int))) (hh0 : hi = none → h = len) (h1 : l ≤ h) (h2 : h ≤ cap) :
    OpY P n env own X (.slice t x lo hi none) (.slice (slA A cap l size) (h - l) (cap - l)) := by
  intro a W oper hop ha _
  have hinf := he.info
  have hinf' : ∃ inf, P.info? e = some inf ∧ inf.size = size := by
    cases hq : P.info? e with
    | none => simp [hq] at hinf
    | some inf => exact ⟨inf, rfl, by simpa [hq] using hinf⟩
  obtain ⟨inf, hq, hsz⟩ := hinf'
  have hsl : ∀ (lo' hi' : Option Value), (∀ v, lo' = some v → ∃ k, v = .int k (l : Int)) → (lo' = none → l = 0) → (∀ v, hi' = some v → ∃ k, v = .int k (h : Int)) → (hi' = none → h = len) →
      (Instr.sliceAt t (.slice A len cap) lo' hi' none).run P W = .ok (.slice (slA A cap l size) (h - l) (cap - l)) W := by
    intro lo' hi' a1 a2 a3 a4
    have hb2 : (Instr.sliceBounds true len cap lo' hi' none).run P W = .ok (l, h, cap) W := by
      cases lo' with
      | none =>
        have := a2 rfl
        subst this
        cases hi' with
        | none => have := a4 rfl; subst this; simp [Instr.sliceBounds]
        | some v => obtain ⟨k, rfl⟩ := a3 v rfl; simp [Instr.sliceBounds, Instr.sliceBound, asIntOf, h2]
      | some u =>
        obtain ⟨k', rfl⟩ := a1 u rfl
        cases hi' with
        | none => have := a4 rfl; subst this; simp [Instr.sliceBounds, Instr.sliceBound, asIntOf, h1]
        | some v => obtain ⟨k, rfl⟩ := a3 v rfl; simp [Instr.sliceBounds, Instr.sliceBound, asIntOf, h2, h1]
    simp only [Instr.sliceAt, Sem.run_bind, run_underlying ht, Result.andThen_ok, Instr.slice, hb2, sizeOf, typeInfo, slA]
    by_cases hc : cap = l <;> simp [hc, hq, hsz]
  have := hsl (lo.map a.eval) (hi.map a.eval) (fun v hv => by
      cases lo with
      | none => simp at hv
      | some q => obtain ⟨k, hk⟩ := hl q rfl; simp only [Option.map_some, Option.some.injEq] at hv; exact ⟨k, by rw [← hv, ha.eval hk]⟩)
    (fun hv => hl0 (by cases lo <;> simp_all)) (fun v hv => by
      cases hi with
      | none => simp at hv
      | some q => obtain ⟨k, hk⟩ := hh q rfl; simp only [Option.map_some, Option.some.injEq] at hv; exact ⟨k, by rw [← hv, ha.eval hk]⟩)
    (fun hv => hh0 (by cases hi <;> simp_all))
  simp [execOp, hop, ha.eval hx, this]
theorem op_sliceLo {t e : TypeId} {x y : Operand} {A : Option Addr} {len cap size l : Nat} {row : Bool} {kk : IntKind} (ht : P.underlying t = some (.slice e)) (he : Ty P e row size) (hx : eev env x = some (.slice A len cap))
    (hy : eev env y = some (.int kk (l : Int))) (h1 : l ≤ len) (h2 : len ≤ cap) : OpY P n env own X (.slice t x (some y) none none) (.slice (slA A cap l size) (len - l) (cap - l)) :=
  op_sliceA ht he hx (fun q h => by cases h; exact ⟨kk, hy⟩) (fun h => by cases h) (fun _ h => by cases h) (fun _ => rfl) h1 h2
theorem op_sliceHi {t e : TypeId} {x y : Operand} {A : Option Addr} {len cap size l : Nat} {row : Bool} {kk : IntKind} (ht : P.underlying t = some (.slice e)) (he : Ty P e row size) (hx : eev env x = some (.slice A len cap))
    (hy : eev env y = some (.int kk (l : Int))) (h2 : l ≤ cap) : OpY P n env own X (.slice t x none (some y) none) (.slice (slA A cap 0 size) l cap) := by
  have := op_sliceA (n := n) (own := own) (X := X) (lo := none) (hi := some y) (l := 0) ht he hx (fun _ h => by cases h) (fun _ => rfl) (fun q h => by cases h; exact ⟨kk, hy⟩) (fun h => by cases h) (Nat.zero_le _) h2
  simpa using this
/-- The part of a slice from l on, read. -/
theorem Src.lo {s : Value} {len size l cap : Nat} {A : Option Addr} {cs : List Value} (h : SliceR X s len cs) (hs : s = .slice A len cap) (hc : cs.length = len * size) (h1 : l ≤ len) (h2 : len ≤ cap) : Src own X (.slice (slA A cap l size) (len - l) (cap - l)) (len - l) size (cs.drop (l * size)) := by
  subst hs
  rcases h with ⟨rfl, rfl, _⟩ | ⟨h0, b, c, hv, hb⟩
  · obtain rfl : l = 0 := by omega
    simpa using Src.nil
  · simp only [Value.slice.injEq, true_and] at hv
    obtain ⟨rfl, rfl⟩ := hv
    unfold slA
    by_cases he : cap = l
    · rw [if_pos he]
      have e : len = l := by omega
      rw [e, Nat.sub_self, List.drop_eq_nil_of_le (by rw [hc, e]; exact Nat.le_refl _)]
      exact Src.nil
    · rw [if_neg he]
      have hm : l * size + (len - l) * size = len * size := by rw [← Nat.add_mul]; congr 1; omega
      have := Src.ofExt (own := own) (m := len - l) (c := cap - l) (size := size) (o := l * size) hb (by omega)
      have e2 : (cs.drop (l * size)).take ((len - l) * size) = cs.drop (l * size) := List.take_of_length_le (by simp; omega)
      rw [e2] at this
      show Src own X (.slice (some (Addr.add ⟨b, 0, none⟩ (l * size))) _ _) _ _ _
      rw [Addr.add_mid, Nat.zero_add]
      exact this
/-- The first l elements of a slice, read. -/
theorem Src.hi {s : Value} {len size l cap : Nat} {A : Option Addr} {cs : List Value} (h : SliceR X s len cs) (hs : s = .slice A len cap) (hc : cs.length = len * size) (h1 : l ≤ len) : Src own X (.slice (slA A cap 0 size) l cap) l size (cs.take (l * size)) := by
  subst hs
  have hA : slA A cap 0 size = if cap = 0 then A else A.map (·.add 0) := by simp [slA]
  rcases h with ⟨rfl, rfl, _⟩ | ⟨h0, b, c, hv, hb⟩
  · obtain rfl : l = 0 := by omega
    simpa using Src.nil
  · simp only [Value.slice.injEq, true_and] at hv
    obtain ⟨rfl, rfl⟩ := hv
    have hle : l * size ≤ len * size := Nat.mul_le_mul_right _ h1
    have := Src.ofExt (own := own) (m := l) (c := cap) (size := size) (o := 0) hb (by omega)
    rw [hA]
    split <;> simpa [Addr.add] using this
end
end Go.Proofs.YtaooojjhlngcmaaDoor
/- THE ENGINE: contracts of functions that write to blocks of their caller. No program is named here. -/
namespace Go.Proofs.YtaooojjhlngcmaaDoor
open Go.RowKit
/-- What a call leaves that was lent blocks. -/
def FinM (w0 : Base) (X0 : PMap) (own0 : Own) (Φ : Value → Own → PMap → Prop) (e : Ending) (w' : World) : Prop :=
  ∃ v L' X', e = .returned v ∧ Sat w0 X0 (L' ++ own0) X' w' ∧ Φ v L' X'
def SpecM (P : Program) (f : FuncId) (args : List Value) (X : PMap) (L : Own) (Φ : Value → Own → PMap → Prop) : Prop :=
  ∀ (w0 : Base) (X0 : PMap) (own0 : Own) (W : World), Sat w0 X0 (L ++ own0) X W → Calls P f args.toArray W (FinM w0 X0 own0 fun v L' X' => X.le X' ∧ Φ v L' X')
theorem Calls.enterM {P : Program} {f : FuncId} {fn : Func} {c : Code} {args : List Value} {R : Ending → World → Prop} {w0 : Base} {X0 X : PMap} {own : Own} {W : World} (hf : P.funcs[f]? = some fn) (hb : fn.body = some c) {n : Nat} (hn : fn.ntmps = n) (hl : Nat.ble args.length n = true) (hs : Sat w0 X0 own X W)
    (h : T none P ⟨n, []⟩ w0 X0 (bodyQ P fn R) [.code c] none (argEnv 0 args) own X) : Calls P f args.toArray W R := by
  have hl' : args.length ≤ n := Nat.le_of_ble_eq_true hl
  refine (fr_calls (ro := none) (m := DEP)).1 (callsIn_of_wp_marks (F := FR none) hf hb trivial ?_)
  have := h { tmps := args.toArray ++ Array.replicate (fn.ntmps - args.toArray.size) undef, defers := [] } W ⟨rfl, by simp; omega, fun t v ht => ?_⟩ hs
  · refine Code.wpIn_mono (fun e a w h => bodyQ_post _ _ _ ?_) (runL_code_iff.1 this)
    cases e <;> exact h
  · obtain ⟨_, h2⟩ := eget_argEnv _ _ _ _ ht
    simp only [Nat.sub_zero] at h2
    have hlt : t < args.length := by
      rcases Nat.lt_or_ge t args.length with h1 | h1
      · exact h1
      · rw [List.getElem?_eq_none h1] at h2; cases h2
    rw [List.getElem?_eq_getElem hlt] at h2
    simp only [Option.some.injEq] at h2
    subst h2
    have : t < args.length + (n - args.length) := by omega
    simp [Array.getD, hn, this, hlt]
theorem SpecM.enter {P : Program} {f : FuncId} {fn : Func} {c : Code} {args : List Value} {X : PMap} {L : Own} {Φ : Value → Own → PMap → Prop} (hf : P.funcs[f]? = some fn) (hb : fn.body = some c) {n : Nat} (hn : fn.ntmps = n) (hl : Nat.ble args.length n = true)
    (h : ∀ w0 X0 own0, T none P ⟨n, []⟩ w0 X0 (bodyQ P fn (FinM w0 X0 own0 fun v L' X' => X.le X' ∧ Φ v L' X')) [.code c] none (argEnv 0 args) (L ++ own0) X) : SpecM P f args X L Φ :=
  fun w0 X0 own0 _ hs => Calls.enterM hf hb hn hl hs (h w0 X0 own0)
section
variable {ro : Option Nat} {P : Program} {n : NM} {w0 : Base} {X0 X : PMap} {own : Own} {env : Env}
theorem op_callM {f : FuncId} {xs : Array Operand} {ts : Array TypeId} {vs : List Value} {L own0 : Own} {Φ : Value → Own → PMap → Prop} (he : Enters P f) (hx : xs.toList.map (eev env) = vs.map some)
    (h : SpecM P f vs X L Φ) (hown : own = L ++ own0) : OpX P n w0 X0 env own X (.call { callee := .value (.func f), args := xs, argTypes := ts }) false fun v own' X' => ∃ L', own' = L' ++ own0 ∧ X.le X' ∧ Φ v L' X' := by
  subst hown
  intro a W oper K Q ro hop ha hs hK
  have all : ∀ (xs : List Operand) (vs : List Value), xs.map (eev env) = vs.map some → xs.map a.eval = vs := by
    intro xs
    induction xs with
    | nil => intro vs h; cases vs <;> simp_all
    | cons x xs ih =>
      intro vs h
      cases vs with
      | nil => simp at h
      | cons v vs =>
        simp only [List.map_cons, List.cons.injEq] at h
        simp [ha.eval h.1, ih vs h.2]
  have h1 : xs.map a.eval = vs.toArray := by apply Array.toList_inj.1; simp [all _ _ hx]
  have hex : (execOp a.eval oper).run P W = .ok (.enter f vs.toArray) W := by
    have hc : a.eval (.func f) = .func (.func f) #[] #[] := ha.eval rfl
    simp only [execOp, hop, resolve, hc, h1, Deferred.ofValue, invoke, Sem.run_bind, Sem.run_pure, Result.andThen_ok]
    simpa using he vs.toArray W
  refine wp_enters (noDefer_spec (by rw [hop]; rfl)) hex ((h w0 X0 own0 W hs).mono fun e w' hfin => ?_)
  obtain ⟨v, L', X', rfl, hc, hX, hΦ⟩ := hfin
  exact ⟨v, rfl, hK v _ X' w' ⟨L', rfl, hX, hΦ⟩ hc (fun h => by cases h)⟩
variable {fn : Func} {Φ : Value → Own → PMap → Prop}
theorem T.retM {v : Value} {k : List It} {s : Nat} {own0 L' : Own} (hr : ∀ a W, EOk ⟨s, []⟩ env a → Stab own X W → (results fn a.tmps).run P W = .ok v W) (hp : own.Perm (L' ++ own0)) (hΦ : Φ v L' X) : T ro P ⟨s, []⟩ w0 X0 (bodyQ P fn (FinM w0 X0 own0 Φ)) (.code .ret :: k) none env own X :=
  fun a W ha hs => runL_ret (by
    show LeavesInM (FR none) DEP P fn a.tmps _ a.defers .returning W
    rw [ha.defers]
    exact ⟨v, hr a W ha hs.stab, v, L', X, rfl, hs.perm hp, hΦ⟩)
theorem T.doneM {v : Value} {s : Nat} {own0 L' : Own} (hr : ∀ a W, EOk ⟨s, []⟩ env a → Stab own X W → (results fn a.tmps).run P W = .ok v W) (hp : own.Perm (L' ++ own0)) (hΦ : Φ v L' X) : T ro P ⟨s, []⟩ w0 X0 (bodyQ P fn (FinM w0 X0 own0 Φ)) [] none env own X :=
  fun a W ha hs => (by
    show LeavesInM (FR none) DEP P fn a.tmps _ a.defers .returning W
    rw [ha.defers]
    exact ⟨v, hr a W ha hs.stab, v, L', X, rfl, hs.perm hp, hΦ⟩)
theorem T.doneM0 {s : Nat} {own0 : Own} (L' : Own) (hr : fn.results = #[]) (hp : own.Perm (L' ++ own0)) (hΦ : Φ (.tuple #[]) L' X) : T ro P ⟨s, []⟩ w0 X0 (bodyQ P fn (FinM w0 X0 own0 Φ)) [] none env own X := T.doneM (fun _ _ _ _ => run_results0 hr) hp hΦ
theorem T.retM1 {k : List It} {s : Nat} {own0 : Own} (L' : Own) {r : ResultVar} {v : Value} (hr : fn.results = #[r]) (h : ResIs P env own r v) (hp : own.Perm (L' ++ own0)) (hΦ : Φ v L' X) : T ro P ⟨s, []⟩ w0 X0 (bodyQ P fn (FinM w0 X0 own0 Φ)) (.code .ret :: k) none env own X := T.retM (fun _ _ ha hs => run_results1 hr h ha hs) hp hΦ
theorem T.retM2 {k : List It} {s : Nat} {own0 : Own} (L' : Own) {r r' : ResultVar} {v v' : Value} (hr : fn.results = #[r, r']) (h : ResIs P env own r v) (h' : ResIs P env own r' v') (hp : own.Perm (L' ++ own0)) (hΦ : Φ (.tuple #[v, v']) L' X) : T ro P ⟨s, []⟩ w0 X0 (bodyQ P fn (FinM w0 X0 own0 Φ)) (.code .ret :: k) none env own X := T.retM (fun _ _ ha hs => run_results2 hr h h' ha hs) hp hΦ

theorem permA {a : Ow} {G O : Own} : ([a] ++ (G ++ O)).Perm ((a :: O) ++ G) := List.Perm.cons a (show (G ++ O).Perm (O ++ G) from List.perm_append_comm)
theorem permL {x a : Ow} {G O : Own} : (x :: ([a] ++ (G ++ O))).Perm (x :: ((a :: O) ++ G)) := List.Perm.cons x permA
theorem permC {a g : Ow} {O : Own} : ((a :: [g]) ++ O).Perm ((a :: O) ++ [g]) := List.Perm.cons a (show ([g] ++ O).Perm (O ++ [g]) from List.perm_append_comm)
theorem permD {a : Ow} {G O : Own} : ((a :: O) ++ G).Perm ((a :: G) ++ O) := List.Perm.cons a (show (O ++ G).Perm (G ++ O) from List.perm_append_comm)
theorem infoStr_of {e : TypeId} (h : (P.info? e).map (fun i => (i.size, i.bytes, i.zero)) = some (1, 1, some (.int .u8 0))) : ∃ i, P.info? e = some i ∧ i.zero = some (.int .u8 0) ∧ i.size = 1 ∧ i.bytes = 1 := by
  obtain ⟨i, h1, h2⟩ := Option.map_eq_some_iff.1 h
  simp only [Prod.mk.injEq] at h2
  exact ⟨i, h1, h2.2.2, h2.1, h2.2.1⟩
theorem Ow.In.shape {p : Ow} {W : World} (h : p.In W) : W.shape? p.b = some (p.ty, p.sz) := by
  obtain ⟨r, h, hz⟩ := h
  simp [World.shape?, h, hz]
/-- A pointer to a block of the call's own, as unsafe.Pointer. -/
theorem op_toUns {src dst t ty : TypeId} {x : Operand} {b sz j : Nat} {cs : List Value} (hs : P.underlying src = some (.pointer t)) (hd : P.underlying dst = some .unsafePointer) {size : Nat} (ht : (P.info? t).map (·.size) = some (size + 1)) (hx : eev env x = some (.pointer (some ⟨b, 0, none⟩)))
    (ho : AtO own b cs ty sz j) (h0 : 0 < sz) : OpY P n env own X (.convert src dst x) (.pointer (some ⟨b, 0, none⟩)) := by
  intro a W oper hop ha hst
  obtain ⟨i, hi, hz⟩ := Option.map_eq_some_iff.1 ht
  have := Lib.run_to_unsafe (P := P) W ⟨b, 0, none⟩ hs hd hi (by omega) ((hst.own _ ho.mem).shape) h0
  simp [execOp, hop, ha.eval hx, this]
theorem op_fromUns {src dst u ty : TypeId} {x : Operand} {b sz j : Nat} {cs : List Value} (hs : P.underlying src = some .unsafePointer) (hd : P.underlying dst = some (.pointer u)) {size : Nat} (hu : (P.info? u).map (·.size) = some size) (hx : eev env x = some (.pointer (some ⟨b, 0, none⟩)))
    (ho : AtO own b cs ty sz j) (hl : liesAt P P.depth ty (sz / P.cellsOf ty) 0 u 1 = true) : OpY P n env own X (.convert src dst x) (.pointer (some ⟨b, 0, none⟩)) := by
  intro a W oper hop ha hst
  obtain ⟨i, hi, hz⟩ := Option.map_eq_some_iff.1 hu
  have := Lib.run_from_unsafe (P := P) W ⟨b, 0, none⟩ hs hd hi ((hst.own _ ho.mem).shape) hl
  simp [execOp, hop, ha.eval hx, this]
/-- abi.NoEscape: the pointer as it is. -/
theorem op_noEsc {f : FuncId} {gn : Func} {x : Operand} {ts : Array TypeId} {v : Value} (hf : P.funcs[f]? = some gn) (h1 : (gn.name == "runtime.NumGoroutine") = false) (h2 : gn.body.isNone = true) (h3 : Extern.findNext gn = none) (h4 : Extern.find gn = some Extern.AbiNoEscape.same) (hx : eev env x = some v) :
    OpY P n env own X (.call { callee := .value (.func f), args := #[x], argTypes := ts }) v := by
  intro a W oper hop ha _
  have hc : a.eval (.func f) = .func (.func f) #[] #[] := ha.eval rfl
  have hr := run_callFunc_extern hf h1 h2 h3 h4 #[v] W
  rw [Lib.run_noEscape] at hr
  simp only [execOp, hop, resolve, hc, Deferred.ofValue, invoke, Sem.run_bind, Sem.run_pure, Result.andThen_ok]
  simpa [ha.eval hx] using hr
theorem op_neqSame {tp te : TypeId} {x y : Operand} {t' : TypeId} {A : Addr} {size : Nat} (hp : P.underlying tp = some (.pointer te)) (hte : (P.info? te).map (·.size) = some size) (hx : eev env x = some (.pointer (some A))) (hy : eev env y = some (.pointer (some A))) :
    OpY P n env own X (.binOp .neq tp x y t') (.bool false) := by
  intro a W oper hop ha _
  obtain ⟨i, hi, _⟩ := Option.map_eq_some_iff.1 hte
  have := Lib.run_neq_ptr_same (P := P) W A hp hi
  have h0 : ∀ (e : BinOp) (u v : Operand), eqGuard e tp u v (.pointer (some A)) (.pointer (some A)) = pure () := fun e u v => by cases e <;> rfl
  simp only [execOp, hop, ha.eval hx, ha.eval hy, h0, Sem.run_bind, Sem.run_pure, Result.andThen_ok, this]
theorem op_sliceData {x : Operand} {ts : Array TypeId} {b l c : Nat} (hx : eev env x = some (.slice (some ⟨b, 0, none⟩) l c)) (hc : c ≠ 0) : OpY P n env own X (.call { callee := .builtin .unsafeSliceData, args := #[x], argTypes := ts }) (.pointer (some ⟨b, 0, none⟩)) := by
  intro a W oper hop ha _
  have hr := Lib.run_unsafeSliceData_row (P := P) W ts oper.type ⟨b, 0, none⟩ l c hc
  simp only [execOp, hop, resolve, invoke, builtin, Sem.run_bind, Sem.run_pure, Result.andThen_ok, List.map_toArray, List.map_cons, List.map_nil, ha.eval hx, hr]
theorem freeze_far {W : World} {p : Addr} {m k : Nat} (h : k ≠ p.block) : (W.freeze p m).heap[k]? = W.heap[k]? := by
  unfold World.freeze
  split
  · rfl
  · simp [Array.getElem?_modify, Ne.symm h]
theorem SatC.freeze {w0 : World} {W : World} {b sz m : Nat} {cs : List Value} {ty : TypeId} (h : SatC w0 X0 (own ++ [⟨b, cs, ty, sz⟩]) X W) : SatC w0 X0 own X (W.freeze ⟨b, 0, none⟩ m) := by
  have hm : (⟨b, cs, ty, sz⟩ : Ow) ∈ own ++ [⟨b, cs, ty, sz⟩] := by simp
  have hne : ∀ q ∈ own, q.b ≠ b := fun q hq => (List.pairwise_append.1 h.nodup).2.2 q hq ⟨b, cs, ty, sz⟩ (by simp)
  refine ⟨Lib.below_freeze h.below (h.new _ hm) m, h.old, ⟨fun q hq => ?_, fun k o hk => ?_⟩, fun q hq => h.new q (List.mem_append_left _ hq), fun q hq => h.apart q (List.mem_append_left _ hq), (List.pairwise_append.1 h.nodup).1⟩
  · obtain ⟨r, h1, h2⟩ := h.stab.own q (List.mem_append_left _ hq)
    exact ⟨r, (freeze_far (hne q hq)).trans h1, h2⟩
  · have hkb : k ≠ b := fun e => by subst e; have := h.apart _ hm; simp only at this; rw [this] at hk; cases hk
    exact (freeze_far hkb).trans (h.stab.pers k o hk)
theorem Sat.freeze {W : World} {b sz m : Nat} {cs : List Value} {ty : TypeId} (h : Sat w0 X0 (own ++ [⟨b, cs, ty, sz⟩]) X W) : Sat w0 X0 own X (W.freeze ⟨b, 0, none⟩ m) :=
  ⟨h.toSatC.freeze, fun p hp => by
    obtain ⟨g1, g2, g3, g4⟩ := h.res p hp
    have hb : b ≠ p.1 := g3 ⟨b, cs, ty, sz⟩ (by simp)
    exact ⟨(freeze_far (Ne.symm hb)).trans g1, g2, fun q hq => g3 q (List.mem_append_left _ hq), g4⟩⟩
/-- unsafe.String over what has grown: the bytes; the row is given up. -/
theorem op_unsafeStr {x y : Operand} {pt it e : TypeId} {b cap : Nat} {l : List UInt8} (hp : P.underlying pt = some (.pointer e)) (hc : P.cellsOf e = 1) (hx : eev env x = some (.pointer (some ⟨b, 0, none⟩))) (hy : eev env y = some (.int .i64 (l.length : Int))) (h0 : l ≠ []) (hl : l.length ≤ cap) (hm : cap ≤ maxLen) :
    OpX P n w0 X0 env (own ++ [⟨b, Lib.byteCells l, e, cap * 1⟩]) X (.call { callee := .builtin .unsafeString, args := #[x, y], argTypes := #[pt, it] }) false fun v own' X' => v = .string ⟨l.toArray⟩ ∧ own' = own ∧ X = X' := by
  intro a W oper K Q ro hop ha hs hK
  have hin := hs.stab.own ⟨b, Lib.byteCells l, e, cap * 1⟩ (by simp)
  have hcell : ∀ j x, l[j]? = some x → W.cell? ((⟨b, 0, none⟩ : Addr).add j) = some (.int .u8 x.toNat) := fun j x hj => by
    rw [Addr.add_mid, Nat.zero_add]
    exact hin.cell (by simp [Lib.byteCells, hj])
  have hmx : maxLen = 9223372036854775807 := rfl
  have hr := Lib.run_unsafeString_row (P := P) W pt it oper.type e hp hc b (cap * 1) hin.shape l h0 (by omega) (by omega) hcell
  have hex : (execOp a.eval oper).run P W = .ok (.value (.string ⟨l.toArray⟩)) (W.freeze ⟨b, 0, none⟩ l.length) := by
    simp only [execOp, hop, resolve, invoke, builtin, Sem.run_bind, Sem.run_pure, Result.andThen_ok, List.map_toArray, List.map_cons, List.map_nil, ha.eval hx, ha.eval hy, hr]
  exact wp_value (noDefer_spec (by rw [hop]; rfl)) hex (hK _ _ X _ ⟨rfl, rfl, rfl⟩ hs.freeze (fun h => by cases h))
/-- append of a string onto what has grown. -/
theorem op_appendStr {t u e : TypeId} {s x : Operand} {b cap len : Nat} {cs : List Value} {str : ByteArray} (ht : P.underlying t = some (.slice e)) (hu : P.underlying u = some .string) (hi : ∃ i, P.info? e = some i ∧ i.zero = some (.int .u8 0) ∧ i.size = 1 ∧ i.bytes = 1) (hs : eev env s = some (.slice (some ⟨b, 0, none⟩) len cap)) (hx : eev env x = some (.string str))
    (hl : len ≤ cap) (hm : cap ≤ maxLen) (hcl : cs.length = len * 1) (hby : len + str.size ≤ 140737488355328) :
    OpX P n w0 X0 env (own ++ [⟨b, cs, e, cap * 1⟩]) X (.call { callee := .builtin .append, args := #[s, x], argTypes := #[t, u] }) false fun v own' X' => ∃ G', own' = own ++ G' ∧ X = X' ∧ GrowS e 1 v (len + str.size) (cs ++ Lib.strCells str) G' ∧ ∃ b' cap', v = .slice (some ⟨b', 0, none⟩) (len + str.size) cap' := by
  intro a W oper K Q ro hop ha hsat hK
  obtain ⟨i, i1, i2, i3, i4⟩ := hi
  have hj : (own ++ [(⟨b, cs, e, cap * 1⟩ : Ow)])[own.length]? = some ⟨b, cs, e, cap * 1⟩ := by simp
  have hin := hsat.stab.own ⟨b, cs, e, cap * 1⟩ (by simp)
  have hb0 := hsat.new ⟨b, cs, e, cap * 1⟩ (by simp)
  obtain ⟨r, hr, hz⟩ := hin
  simp only at hr hz hb0
  have hmx : maxLen = 9223372036854775807 := rfl
  have hrow : W.ownsRow w0.heap.size e 1 (.slice (some ⟨b, 0, none⟩) len cap) len cs :=
    ⟨hcl, .inr ⟨b, cap, (cs ++ r).toArray, rfl, hb0, hr, hl, hm, by simp; omega, by simp [hcl]⟩⟩
  obtain ⟨v', W', r1, r2, r3, r4⟩ := Lib.run_append_own_string (P := P) W w0.heap.size t u oper.type e i ht hu i1 i2 i3 i4 _ len cs hrow str (by omega) hby hsat.below.size
  have hat : v'.ownBlock = some b ∨ v'.ownBlock = some W.heap.size := by
    by_cases hroom : len + str.size ≤ cap
    · have := Lib.run_append_room_string (P := P) W t u oper.type e i ht hu i1 i3 b len cap (cs ++ r).toArray hr str hroom (by simp; omega)
      rw [this] at r1
      injection r1 with r1 _
      left; rw [← r1]; rfl
    · have holds : ∀ j u, cs[j]? = some u → W.cell? ((⟨b, 0, none⟩ : Addr).add j) = some u := hrow.cells (g := b) rfl
      have := Lib.run_append_grow_string (P := P) W t u oper.type e i (.int .u8 0) ht hu i1 i2 ⟨b, 0, none⟩ len cap cs (by rw [i3]; exact hcl) holds str (by omega) (by omega) (by rw [i4]; exact growslice_fits (by omega) (by omega))
      rw [this] at r1
      injection r1 with r1 _
      right; rw [← r1]; rfl
  have hex : (execOp a.eval oper).run P W = .ok (.value v') W' := by
    simp only [execOp, hop, resolve, invoke, builtin, Sem.run_bind, Sem.run_pure, Result.andThen_ok, List.map_toArray, List.map_cons, List.map_nil, ha.eval hs, ha.eval hx, r1]
  refine wp_value (noDefer_spec (by rw [hop]; rfl)) hex ?_
  rcases r2.2 with ⟨rfl, h0⟩ | ⟨g', cap', cur, rfl, hg0, hcur, hn, hmx', hsz', htk⟩
  · rcases hat with h | h <;> simp [Value.ownBlock] at h
  · have hgg : g' = b ∨ g' = W.heap.size := by simpa [Value.ownBlock] using hat
    have hin' : Ow.In ⟨g', cs ++ Lib.strCells str, e, cap' * 1⟩ W' := by
      refine ⟨cur.toList.drop ((len + str.size) * 1), ?_, ?_⟩
      · rw [← htk, List.take_append_drop]; exact hcur
      · have hl' := r2.1
        simp only at hl' ⊢
        rw [hl', List.length_drop, Array.length_toList, hsz']; omega
    have hreg := hsat.regrow hj r3 hgg hin'
    have e1 : (own ++ [(⟨b, cs, e, cap * 1⟩ : Ow)]).set own.length ⟨g', cs ++ Lib.strCells str, e, cap' * 1⟩ = own ++ [⟨g', cs ++ Lib.strCells str, e, cap' * 1⟩] := by simp
    rw [e1] at hreg
    exact hK _ _ X W' ⟨_, rfl, rfl, .inr ⟨g', cap', rfl, rfl, hn, hmx', r2.1⟩, g', cap', rfl⟩ hreg (fun h => by cases h)
end
end Go.Proofs.YtaooojjhlngcmaaDoor
