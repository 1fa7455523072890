/- THE ENGINE: ranges over functions: the loop's side and the iterator's side. No program is named here. -/
import Derived.Test.YtoheffglppbcbaaDoorHelp2
namespace Go.Proofs.YtoheffglppbcbaaDoor
open Go.RowKit

theorem fr_room (ro : Option Nat) (m : Nat) : (FR ro).room m := by simp [Fence.room]
theorem wpIn_dep {ro : Option Nat} {m m' : Nat} {P : Program} {c : Code} {Q : Exit → Act → World → Prop} {a : Act} {w : World} (h : c.wpIn (FR ro) m P Q a w) : c.wpIn (FR ro) m' P Q a w :=
  fun b k cs h1 h2 _ => h b k cs h1 h2 (fr_room _ _)
theorem callsIn_dep {ro : Option Nat} {m m' : Nat} {P : Program} {f : FuncId} {args : Array Value} {w : World} {R : Ending → World → Prop} (h : CallsIn (FR ro) m P f args w R) : CallsIn (FR ro) m' P f args w R := fr_calls.2 (fr_calls.1 h)
theorem roundIn_dep {ro : Option Nat} {m m' : Nat} {P : Program} {l : Nat} {f : FuncId} {tmps : Array Value} {assign body : Code} {w : World} {R : Ending → World → Prop} (h : RoundIn (FR ro) m P l f tmps assign body w R) : RoundIn (FR ro) m' P l f tmps assign body w R :=
  ⟨h.1, fun c cs _ => h.2 c cs (fr_room _ _)⟩

/-- The function g hands the values xs to the loop's body, one after the other, and comes back. -/
def Seq (P : Program) (g : Nat) (lb : List Value) (xs : List Value) (X : PMap) : Prop :=
  ∀ (l : Nat) (J : Nat → World → Prop) (W : World), (∀ i A B, J i A → Below A.heap.size A B → J i B) → (∀ i A, J i A → PIn X A) →
    (∀ i x A, J i A → xs[i]? = some x → YieldAt (FR none) DEP P l #[x] A fun e B => e = .returned (.bool true) ∧ J (i + 1) B) →
    J 0 W → Calls P g (.func (.yield l) #[] #[] :: lb).toArray W fun e B => (∃ v, e = .returned v) ∧ J xs.length B

theorem Sat.hold {w : World} {res : List (Nat × Obj)} {X0 X : PMap} {own : Own} {W : World} (h : Sat ⟨w, res⟩ X0 own X W) (o : Obj) : Sat ⟨w, (W.heap.size, o) :: res⟩ X0 own X (W.alloc o) := by
  have hg := Grow.alloc W o
  refine ⟨⟨h.below.alloc h.below.size o, h.old, h.stab.grow hg, h.new, h.apart, h.nodup⟩, fun p hp => ?_⟩
  rcases List.mem_cons.1 hp with rfl | hp
  · exact ⟨heap_alloc_new W o, h.stab.pers.fresh, fun q hq => Nat.ne_of_lt (h.stab.own q hq).lt, h.below.size⟩
  · obtain ⟨h1, h2, h3, h4⟩ := h.res p hp
    exact ⟨(hg.same _ (get_lt h1)).trans h1, h2, h3, h4⟩
theorem Sat.putRes {w : World} {res : List (Nat × Obj)} {X0 X : PMap} {own : Own} {W : World} {l : Nat} {o : Obj} (h : Sat ⟨w, (l, o) :: res⟩ X0 own X W) (hl : ∀ p ∈ res, p.1 ≠ l) (o' : Obj) : Sat ⟨w, (l, o') :: res⟩ X0 own X (W.putObj l o') := by
  obtain ⟨g1, g2, g3, g4⟩ := h.res (l, o) (by simp)
  have hgb : W.grownBy (W.putObj l o') (some l) := grownBy_putObj' W l o'
  refine ⟨⟨h.below.grown hgb h.below.size (fun k e => by cases e; exact g4), h.old, ⟨fun q hq => ?_, fun k ob hk => ?_⟩, h.new, h.apart, h.nodup⟩, fun p hp => ?_⟩
  · obtain ⟨r, hr, hz⟩ := h.stab.own q hq
    exact ⟨r, (World.putObj_heap_other (g3 q hq)).trans hr, hz⟩
  · refine (World.putObj_heap_other (fun e => ?_)).trans (h.stab.pers k ob hk)
    subst e
    simp only at g2
    rw [g2] at hk; cases hk
  · rcases List.mem_cons.1 hp with rfl | hp
    · exact ⟨World.putObj_heap_same (get_lt g1), g2, g3, g4⟩
    · obtain ⟨h1, h2, h3, h4⟩ := h.res p (by simp [hp])
      exact ⟨(World.putObj_heap_other (hl p hp)).trans h1, h2, h3, h4⟩
theorem Sat.drop {w : World} {res : List (Nat × Obj)} {X0 X : PMap} {own : Own} {W : World} {p : Nat × Obj} (h : Sat ⟨w, p :: res⟩ X0 own X W) : Sat ⟨w, res⟩ X0 own X W := ⟨⟨h.below, h.old, h.stab, h.new, h.apart, h.nodup⟩, fun q hq => h.res q (by simp [hq])⟩

section
variable {P : Program} {n : NM} {w : World} {res : List (Nat × Obj)} {X0 X : PMap} {own : Own} {env : Env} {Q : Exit → Act → World → Prop}
/-- Where a round ends. -/
def RQ (w : World) (res : List (Nat × Obj)) (X0 : PMap) (I : Nat → Own → PMap → Prop) (i : Nat) : Exit → Act → World → Prop
  | .normal, _, W => ∃ own X, I i own X ∧ Sat ⟨w, res⟩ X0 own X W
  | _, _, _ => False
theorem T.roundEnd {ro : Option Nat} {I : Nat → Own → PMap → Prop} {i : Nat} (h : I i own X) : T ro P n ⟨w, res⟩ X0 (RQ w res X0 I i) [] none env own X := fun _ _ _ hs => ⟨own, X, h, hs⟩

theorem panicRound {ro : Option Nat} {k : List It} {I : Nat → Own → PMap → Prop} {i : Nat} {d : Option Tmp} {v : Value} : ∀ c a w', contQ ro P (RQ w res X0 I i) k (.panic c) (a.put d v) w' → contQ ro P (RQ w res X0 I i) k (.panic c) a w' := fun _ _ _ h => h.elim
theorem T.rangeFunc {g : Operand} {p d : Tmp} {id : Nat} {ty : TypeId} {pos : String} {af : Array Edge} {body : Code} {k : List It} {gf : Nat} {lb : List Value} {xs : List Value}
    (hg : eev env g = some (.func (.func gf) #[] lb.toArray)) (hE : Enters P gf) (hp : Nat.blt p n.size = true) (hd : Nat.blt d n.size = true) (hseq : Seq P gf lb xs X)
    (I : Nat → Own → PMap → Prop) (h0 : I 0 own X) (hX : ∀ i own' X', I i own' X' → X.le X')
    (round : ∀ i x own' X' l r D, xs[i]? = some x → I i own' X' → T (some l) P ⟨n.size, []⟩ ⟨w, (l, r) :: (D, MarkObj) :: res⟩ X0 (RQ w ((l, r) :: (D, MarkObj) :: res) X0 I (i + 1)) [.code body] none ((d, x) :: (p, x) :: env) own' X')
    (rest : ∀ D own' X', I xs.length own' X' → T none P ⟨n.size, markOf D :: n.marks⟩ ⟨w, (D, MarkObj) :: res⟩ X0 Q k none env own' X') :
    T none P n ⟨w, res⟩ X0 Q (.code (.rangeFunc g #[p] (.region id #[⟨some d, .assign (.tmp p), ty, pos, af, none⟩] false) body) :: k) none env own X := by
  intro a W ha hs
  refine runL_code (Go.wpIn_rangeFunc ?_)
  intro fn hfn
  obtain ⟨asg, hasg⟩ : ∃ c, c = Code.region id #[⟨some d, .assign (.tmp p), ty, pos, af, none⟩] false := ⟨_, rfl⟩
  rw [← hasg]
  obtain ⟨rec, hrec⟩ : ∃ rec : LoopState → Loop, rec = fun st => { state := st, pending := none, fn, tmps := a.tmps, params := #[p], assign := asg, body, defers := W.heap.size } := ⟨_, rfl⟩
  have hs1 := (hs.hold MarkObj).hold (.loop (rec .ready))
  have hsz : (W.alloc MarkObj).heap.size = W.heap.size + 1 := by simp
  rw [hsz] at hs1
  have hfar : ∀ q ∈ ((W.heap.size, MarkObj) :: res), q.1 ≠ W.heap.size + 1 := fun q hq => by
    rcases List.mem_cons.1 hq with rfl | hq
    · simp
    · have := get_lt (hs.res q hq).1
      omega
  have hev : a.eval g = .func (.func gf) #[] lb.toArray := ha.eval hg
  refine ⟨W.heap.size + 1, [markOf W.heap.size], (W.alloc MarkObj).alloc (.loop (rec .ready)), { target := .fn (.func gf) lb.toArray, args := #[.func (.yield (W.heap.size + 1)) #[] #[]] }, (W.alloc MarkObj).alloc (.loop (rec .ready)), gf,
    (Value.func (.yield (W.heap.size + 1)) #[] #[] :: lb).toArray, (W.alloc MarkObj).alloc (.loop (rec .ready)), ?_, ?_, fun _ _ => trivial, ?_, (fun h => by cases h), ?_⟩
  · rw [hrec]; exact run_enterLoop_outer _ _ _ _ _
  · simp only [resolve, hev]
    simp [go_sem]
  · have := hE (Value.func (.yield (W.heap.size + 1)) #[] #[] :: lb).toArray ((W.alloc MarkObj).alloc (.loop (rec .ready)))
    simp [invoke, go_sem, this]
  · refine fr_calls.2 ((hseq (W.heap.size + 1) (fun i A => ∃ own' X', I i own' X' ∧ Sat ⟨w, (W.heap.size + 1, .loop (rec .ready)) :: (W.heap.size, MarkObj) :: res⟩ X0 own' X' A) _ ?_ ?_ ?_ ⟨own, X, h0, hs1⟩).mono ?_)
    · rintro i A B ⟨own', X', hI, hA⟩ hb
      exact ⟨own', X', hI, hA.call hb ((Grow.of_below hb).pin hA.stab.pers) fun _ _ => rfl⟩
    · rintro i A ⟨own', X', hI, hA⟩ k o hk
      exact hA.stab.pers k o (hX i own' X' hI k o hk)
    · rintro i x A ⟨own', X', hI, hA⟩ hx
      have hl := (hA.res (W.heap.size + 1, .loop (rec .ready)) (by simp)).1
      have hy := run_yield (P := P) (args := #[x]) hl (by rw [hrec]; rfl)
      refine ⟨_, _, _, _, hy, roundIn_of_wpIn trivial ?_⟩
      have hps : (rec .ready).params = #[p] := by rw [hrec]
      have htm : (rec .ready).tmps = a.tmps := by rw [hrec]
      have has : (rec .ready).assign = asg := by rw [hrec]
      have hbd : (rec .ready).body = body := by rw [hrec]
      rw [hps, htm, has, hbd]
      have hz : ∀ F : Array Value → Tmp × Value → Array Value, (#[p].zip #[x]).foldl F a.tmps = F a.tmps (p, x) := fun F => by simp
      rw [hz]
      have he : EOk ⟨n.size, []⟩ ((p, x) :: env) { tmps := a.tmps.setIfInBounds p x, defers := [] } := by
        have h1 : EOk ⟨n.size, []⟩ env { tmps := a.tmps, defers := [] } := ⟨rfl, ha.size, ha.get⟩
        exact h1.put hp x
      have hAs : T (some (W.heap.size + 1)) P ⟨n.size, []⟩ ⟨w, (W.heap.size + 1, .loop (rec .ready)) :: (W.heap.size, MarkObj) :: res⟩ X0 (fun e a W2 => match e with
          | .normal => EOk ⟨n.size, []⟩ ((d, x) :: (p, x) :: env) a ∧ Sat ⟨w, (W.heap.size + 1, .loop (rec .ready)) :: (W.heap.size, MarkObj) :: res⟩ X0 own' X' W2
          | _ => False) [.code asg] none ((p, x) :: env) own' X' := by
        rw [hasg]
        refine T.region (ops := [_]) (SL.y (op_assign (v := x) ?_) rfl ?_ ?_)
        · simp [eev, eget]
        · simp [dok, noDefer]; exact Nat.le_of_ble_eq_true hd
        · exact fun a W2 ha hs => ⟨ha, hs⟩
      have hw := runL_code_iff.1 (hAs _ A he hA)
      refine wpIn_dep (m := DEP) (Code.wpIn_mono (fun e a2 W2 h => ?_) hw)
      cases e with
      | normal =>
        obtain ⟨ha2, hs2⟩ := h
        have hl2 := (hs2.res (W.heap.size + 1, .loop (rec .ready)) (by simp)).1
        refine ⟨_, run_beginRound hl2 (by rw [hrec]), ?_⟩
        have hs3 := hs2.putRes hfar (.loop { rec .ready with state := .busy })
        have hb := runL_code_iff.1 (round i x own' X' _ _ _ hx hI a2 _ ha2 hs3)
        refine wpIn_dep (m := DEP) (Code.wpIn_mono (fun e a4 W4 h => ?_) hb)
        cases e with
        | normal =>
          obtain ⟨own4, X4, hI4, hs4⟩ := h
          have hl4 := (hs4.res (W.heap.size + 1, .loop { rec .ready with state := .busy }) (by simp)).1
          refine ⟨_, _, run_endRound none hl4, rfl, own4, X4, hI4, ?_⟩
          have := hs4.putRes hfar (.loop (rec .ready))
          have e2 : ({ { rec .ready with state := .busy } with state := (if (none : Option Code).isNone then .ready else .done), pending := none } : Loop) = rec .ready := by rw [hrec]; rfl
          rw [e2]
          exact this
        | _ => exact h.elim
      | _ => exact h.elim
    · rintro e B ⟨⟨v, rfl⟩, own', X', hI, hB⟩
      have hl := (hB.res (W.heap.size + 1, .loop (rec .ready)) (by simp)).1
      have e3 : ({ rec .ready with state := .exhausted } : Loop) = rec .exhausted := by rw [hrec]
      have e4 : (rec .ready).pending = none := by rw [hrec]
      refine ⟨none, B.putObj (W.heap.size + 1) (.loop (rec .exhausted)), ?_, ?_⟩
      · have := run_endLoop (P := P) hl (by rw [hrec]; simp)
        rw [e3, e4] at this
        exact this
      have hs5 := (hB.putRes hfar (.loop (rec .exhausted))).drop
      have hr := rest W.heap.size own' X' hI { a with defers := [markOf W.heap.size] ++ a.defers } _ ⟨by simp [ha.defers], ha.size, ha.get⟩ hs5
      exact hr

/-! ## the iterator's side -/
theorem SL.yield {ops : Array Oper} {l' : List Oper} {d : Option Tmp} {c y : Operand} {ts : Array TypeId} {ty : TypeId} {pos : String} {af : Array Edge} {gd : Option (Nat × Bool)} {l : Nat} {x : Value} {J J' : World → Prop}
    (hc : eev env c = some (.func (.yield l) #[] #[])) (hx : eev env y = some x) (hg : gwant ops env gd = some true) (hd : dok n d = true)
    (hJ : ∀ W, Below w.heap.size w W → J W) (hY : ∀ A, J A → YieldAt (FR none) DEP P l #[x] A fun e B => e = .returned (.bool true) ∧ J' B) (hP : ∀ B, J' B → PIn X B)
    (h' : ∀ w1, J' w1 → PIn X w1 → SL none P n ⟨w1, []⟩ X ops Q l' (eput env d (.bool true)) [] X) :
    SL none P n ⟨w, []⟩ X0 ops Q (⟨d, .call { callee := .value c, args := #[y], argTypes := ts }, ty, pos, af, gd⟩ :: l') env [] X := by
  intro a W ha hs
  unfold wpListIn
  rw [if_pos (gwant_spec ha hg)]
  refine ⟨fun _ _ => trivial, ?_⟩
  rw [Oper.semAt_eq _ _ _ (fun _ => by simp)]
  obtain ⟨fn, tmps, assign, body, hy, hr⟩ := hY W (hJ W hs.below)
  have hex : (execOp a.eval ⟨d, .call { callee := .value c, args := #[y], argTypes := ts }, ty, pos, af, gd⟩).run P W = .ok (.round l fn tmps assign body) W := by
    simp only [execOp, resolve, ha.eval hc, Deferred.ofValue, invoke, Sem.run_bind, Sem.run_pure, Result.andThen_ok, List.map_toArray, List.map_cons, List.map_nil, ha.eval hx]
    simp [go_sem, hy]
  rw [hex, Oper.uponIn_round]
  refine ⟨fun h => (by cases h), roundIn_dep (m := DEP) (hr.mono fun e B h => ?_)⟩
  obtain ⟨rfl, hJ'⟩ := h
  exact h' B hJ' (hP B hJ') _ _ (ha.eput hd _) (Sat.start B (hP B hJ'))
/-- A loop of an iterator: each round begins in a world of its own. -/
def FamB := Nat → Env → World → Prop
def backToB (n : NM) (X : PMap) (I : FamB) (m : Nat) : It := .cut fun a W => ∃ m', m' < m ∧ ∃ env w1, I m' env w1 ∧ EOk n env a ∧ Sat ⟨w1, []⟩ X [] X W
theorem T.loopB {c : Code} {k : List It} (I : FamB) (m : Nat) {env' : Env} (h0 : I m env' w) (hw : Sub env env')
    (hX : X = X0) (round : ∀ m env w1, I m env w1 → T none P n ⟨w1, []⟩ X Q (.code c :: backToB n X I m :: k) none env [] X) : T none P n ⟨w, []⟩ X0 Q (.code (.loop c) :: k) none env [] X := by
  subst hX
  intro a W ha hs
  refine runL_code (loop_ghost (fun m a W => ∃ env w1, I m env w1 ∧ EOk n env a ∧ Sat ⟨w1, []⟩ X [] X W) ?_ m a W ⟨env', w, h0, ha.weaken hw.get, hs⟩)
  rintro m a W ⟨env, w1, hI, ha, hs⟩
  refine Code.wpIn_mono (fun e a w h => ?_) (runL_code_iff.1 (round m env w1 hI a W ha hs))
  cases e with
  | normal => exact h
  | exit id => exact h
  | _ => exact h
theorem T.backB {I : FamB} {m : Nat} {k : List It} (m' : Nat) (hm : m' < m) {env' : Env} (hI : I m' env' w) (hw : Sub env env') : T none P n ⟨w, []⟩ X Q (backToB n X I m :: k) none env [] X :=
  fun _ _ ha hs => ⟨m', hm, env', w, hI, ha.weaken hw.get, hs⟩
end
end Go.Proofs.YtoheffglppbcbaaDoor
