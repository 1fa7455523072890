/- THE ENGINE, third part: a body's code as a list of things to do; contracts. No program is named here. -/
import Derived.Test.YtoheffglppbcbaaDoorOps
import Derived.RangeFuncLeaves
import Derived.RangeFuncFrom
namespace Go.Proofs.YtoheffglppbcbaaDoor
open Go.RowKit

inductive It where
  | code (c : Code)
  | blk (id : Nat)
  | cut (K : Act → World → Prop)
  | more (c : Code) (n : Nat)

section
variable {ro : Option Nat} {P : Program} {Q : Exit → Act → World → Prop}

/-- What is left to do leads to Q. some id: a block with that number is being left. -/
def runL (ro : Option Nat) (P : Program) (Q : Exit → Act → World → Prop) : List It → Option Nat → Act → World → Prop
  | [], none => Q .normal
  | [], some id => Q (.exit id)
  | .cut K :: _, none => K
  | .cut _ :: k, some id => runL ro P Q k (some id)
  | .blk _ :: k, none => runL ro P Q k none
  | .blk i :: k, some id => bif Nat.beq id i then runL ro P Q k none else runL ro P Q k (some id)
  | .code _ :: k, some id => runL ro P Q k (some id)
  | .more _ _ :: k, some id => runL ro P Q k (some id)
  | .more c n :: k, none => Code.roundsIn (FR ro) DEP P c (fun e => match e with
      | .normal => runL ro P Q k none
      | .exit id => runL ro P Q k (some id)
      | e => Q e) n
  | .code c :: k, none => fun a w => c.wpIn (FR ro) DEP P (fun e => match e with
      | .normal => runL ro P Q k none
      | .exit id => runL ro P Q k (some id)
      | e => Q e) a w

/-- The exits of what is left. -/
def contQ (ro : Option Nat) (P : Program) (Q : Exit → Act → World → Prop) (k : List It) : Exit → Act → World → Prop
  | .normal => runL ro P Q k none
  | .exit id => runL ro P Q k (some id)
  | e => Q e
theorem runL_code {c : Code} {k : List It} {a : Act} {w : World} (h : c.wpIn (FR ro) DEP P (contQ ro P Q k) a w) : runL ro P Q (.code c :: k) none a w := by
  unfold runL
  exact Code.wpIn_mono (fun e a w h => by cases e <;> exact h) h
theorem runL_code_iff {c : Code} {k : List It} {a : Act} {w : World} : runL ro P Q (.code c :: k) none a w ↔ c.wpIn (FR ro) DEP P (contQ ro P Q k) a w :=
  ⟨fun h => by unfold runL at h; exact Code.wpIn_mono (fun e a w h => by cases e <;> exact h) h, runL_code⟩

theorem runL_seq {x y : Code} {k : List It} {a : Act} {w : World} (h : runL ro P Q (.code x :: .code y :: k) none a w) : runL ro P Q (.code (.seq x y) :: k) none a w := by
  refine runL_code (wpIn_seq ?_)
  refine Code.wpIn_mono (fun e a w h => ?_) (runL_code_iff.1 h)
  cases e with
  | normal => exact runL_code_iff.1 h
  | exit id => exact h
  | _ => exact h
theorem runL_skip {k : List It} {a : Act} {w : World} (h : runL ro P Q k none a w) : runL ro P Q (.code .skip :: k) none a w := runL_code (wpIn_skip h)
theorem runL_block {id : Nat} {c : Code} {k : List It} {a : Act} {w : World} (h : runL ro P Q (.code c :: .blk id :: k) none a w) : runL ro P Q (.code (.block id c) :: k) none a w := by
  refine runL_code (wpIn_block ?_)
  refine Code.wpIn_mono (fun e a w h => ?_) (runL_code_iff.1 h)
  cases e with
  | exit id' =>
    simp only [contQ, runL] at h
    simp only [Exit.inBlock]
    by_cases e : id' = id
    · subst e; rw [if_pos rfl]; simpa [contQ] using h
    · have : Nat.beq id' id = false := by
        cases hb : Nat.beq id' id with
        | false => rfl
        | true => exact absurd (Nat.eq_of_beq_eq_true hb) e
      rw [if_neg e]; simpa [this, contQ] using h
  | normal => exact h
  | _ => exact h
theorem runL_exit {id : Nat} {k : List It} {a : Act} {w : World} (h : runL ro P Q k (some id) a w) : runL ro P Q (.code (.exit id) :: k) none a w := runL_code (wpIn_exit h)
theorem runL_ret {k : List It} {a : Act} {w : World} (h : Q .ret a w) : runL ro P Q (.code .ret :: k) none a w := runL_code (wpIn_ret h)
theorem runL_cond {c : Operand} {x y : Code} {k : List It} {a : Act} {w : World} {b : Bool} (hc : a.eval c = .bool b) (h : runL ro P Q (.code (bif b then x else y) :: k) none a w) : runL ro P Q (.code (.cond c x y) :: k) none a w := by
  refine runL_code (wpIn_cond hc ?_)
  have := runL_code_iff.1 h
  cases b <;> exact this

/-- A loop, by a ghost number that every round lowers. -/
theorem loop_ghost {c : Code} (I : Nat → Act → World → Prop) (round : ∀ m a w, I m a w → c.wpIn (FR ro) DEP P (Exit.then (fun a' w' => ∃ m', m' < m ∧ I m' a' w') Q) a w) :
    ∀ m a w, I m a w → (Code.loop c).wpIn (FR ro) DEP P Q a w := by
  have key : ∀ m a w, I m a w → ∀ k, m < k → Code.roundsIn (FR ro) DEP P c Q k a w := by
    intro m
    induction m using Nat.strongRecOn with
    | _ m ih =>
      intro a w h k hk
      obtain ⟨k', rfl⟩ : ∃ k', k = k' + 1 := ⟨k - 1, by omega⟩
      rw [roundsIn_succ]
      refine Code.wpIn_mono (fun e a' w' h' => ?_) (round m a w h)
      cases e with
      | normal => obtain ⟨m', hlt, hI⟩ := h'; exact ih m' hlt a' w' hI k' (by omega)
      | _ => exact h'
  intro m a w h
  exact wpIn_loop_rounds (m + 1) (key m a w h _ (Nat.lt_succ_self m))
end

section
variable {ro : Option Nat} {P : Program} {n : NM} {w0 : Base} {X0 X : PMap} {own : Own} {env : Env} {Q : Exit → Act → World → Prop}

def T (ro : Option Nat) (P : Program) (n : NM) (w0 : Base) (X0 : PMap) (Q : Exit → Act → World → Prop) (todo : List It) (e : Option Nat) (env : Env) (own : Own) (X : PMap) : Prop :=
  ∀ a W, EOk n env a → Sat w0 X0 own X W → runL ro P Q todo e a W

theorem T.seq {x y : Code} {k : List It} (h : T ro P n w0 X0 Q (.code x :: .code y :: k) none env own X) : T ro P n w0 X0 Q (.code (.seq x y) :: k) none env own X := fun a W ha hs => runL_seq (h a W ha hs)
theorem T.skip {k : List It} (h : T ro P n w0 X0 Q k none env own X) : T ro P n w0 X0 Q (.code .skip :: k) none env own X := fun a W ha hs => runL_skip (h a W ha hs)
theorem T.block {id : Nat} {c : Code} {k : List It} (h : T ro P n w0 X0 Q (.code c :: .blk id :: k) none env own X) : T ro P n w0 X0 Q (.code (.block id c) :: k) none env own X := fun a W ha hs => runL_block (h a W ha hs)
theorem T.blk {id : Nat} {k : List It} (h : T ro P n w0 X0 Q k none env own X) : T ro P n w0 X0 Q (.blk id :: k) none env own X := h
theorem T.exit {id : Nat} {k : List It} (h : T ro P n w0 X0 Q k (some id) env own X) : T ro P n w0 X0 Q (.code (.exit id) :: k) none env own X := fun a W ha hs => runL_exit (h a W ha hs)
theorem T.exitCode {id : Nat} {c : Code} {k : List It} (h : T ro P n w0 X0 Q k (some id) env own X) : T ro P n w0 X0 Q (.code c :: k) (some id) env own X := h
theorem T.exitCut {id : Nat} {K : Act → World → Prop} {k : List It} (h : T ro P n w0 X0 Q k (some id) env own X) : T ro P n w0 X0 Q (.cut K :: k) (some id) env own X := h
theorem T.exitBlk {id : Nat} {k : List It} (h : T ro P n w0 X0 Q k none env own X) : T ro P n w0 X0 Q (.blk id :: k) (some id) env own X := fun a W ha hs => by
  have : Nat.beq id id = true := Nat.beq_refl id
  simpa [runL, this] using h a W ha hs
theorem T.exitOther {i id : Nat} {k : List It} (hne : Nat.beq id i = false) (h : T ro P n w0 X0 Q k (some id) env own X) : T ro P n w0 X0 Q (.blk i :: k) (some id) env own X := fun a W ha hs => by
  simpa [runL, hne] using h a W ha hs
theorem T.cond {c : Operand} {x y : Code} {k : List It} {b : Bool} (hc : eev env c = some (.bool b)) (h : T ro P n w0 X0 Q (.code (bif b then x else y) :: k) none env own X) : T ro P n w0 X0 Q (.code (.cond c x y) :: k) none env own X :=
  fun a W ha hs => runL_cond (ha.eval hc) (h a W ha hs)
theorem T.condT {c : Operand} {x y : Code} {k : List It} (hc : eev env c = some (.bool true)) (h : T ro P n w0 X0 Q (.code x :: k) none env own X) : T ro P n w0 X0 Q (.code (.cond c x y) :: k) none env own X := T.cond hc h
theorem T.condF {c : Operand} {x y : Code} {k : List It} (hc : eev env c = some (.bool false)) (h : T ro P n w0 X0 Q (.code y :: k) none env own X) : T ro P n w0 X0 Q (.code (.cond c x y) :: k) none env own X := T.cond hc h
theorem T.condB {c : Operand} {x y : Code} {k : List It} {b : Bool} (hc : eev env c = some (.bool b)) (ht : b = true → T ro P n w0 X0 Q (.code x :: k) none env own X) (hf : b = false → T ro P n w0 X0 Q (.code y :: k) none env own X) :
    T ro P n w0 X0 Q (.code (.cond c x y) :: k) none env own X := by
  cases b
  · exact T.condF hc (hf rfl)
  · exact T.condT hc (ht rfl)
theorem T.region {id : Nat} {ops : List Oper} {k : List It} (h : SL ro P n w0 X0 ops.toArray (contQ ro P Q k) ops env own X) : T ro P n w0 X0 Q (.code (.region id ops.toArray false) :: k) none env own X :=
  fun a W ha hs => runL_code (wpIn_region_lit (h a W ha hs))
theorem T.draw {id : Nat} {ops : Array Oper} {k : List It} (hm : P.follows .mixedOrders = true) (nh : Nat) (pl : List (Nat × Bool)) (hok : drawOk ops nh pl = true)
    (h : SD ro P n w0 X0 ops (contQ ro P Q k) nh own X pl env own X) : T ro P n w0 X0 Q (.code (.region id ops true) :: k) none env own X :=
  fun _ _ ha hs => runL_code (SD.start hm pl hok ha hs (fun _ h => h) h)
theorem T.drawG {id : Nat} {ops : Array Oper} {k : List It} {own0 G : Own} (hm : P.follows .mixedOrders = true) (nh : Nat) (pl : List (Nat × Bool)) (hok : drawOk ops nh pl = true)
    (h : SD ro P n w0 X0 ops (contQ ro P Q k) nh own0 X pl env (own0 ++ G) X) : T ro P n w0 X0 Q (.code (.region id ops true) :: k) none env (own0 ++ G) X :=
  fun _ _ ha hs => runL_code (SD.start hm pl hok ha hs (fun _ h => List.mem_append_left _ h) h)
/-- The end of a region: on with the rest. -/
theorem SL.nil {ops : Array Oper} {k : List It} (h : T ro P n w0 X0 Q k none env own X) : SL ro P n w0 X0 ops (contQ ro P Q k) [] env own X := h
theorem T.weaken {k : List It} {e : Option Nat} {env' : Env} (hw : ∀ t v, eget env' t = some v → eget env t = some v) (h : T ro P n w0 X0 Q k e env' own X) : T ro P n w0 X0 Q k e env own X := fun a W ha hs => h a W (ha.weaken hw) hs

theorem T.exitMore {id m : Nat} {c : Code} {k : List It} (h : T ro P n w0 X0 Q k (some id) env own X) : T ro P n w0 X0 Q (.more c m :: k) (some id) env own X := h
/-- A loop of at most m rounds, round by round. -/
theorem T.unrollStart {c : Code} {k : List It} (m : Nat) (h : T ro P n w0 X0 Q (.more c m :: k) none env own X) : T ro P n w0 X0 Q (.code (.loop c) :: k) none env own X := fun a W ha hs => by
  refine runL_code (wpIn_loop_rounds m ?_)
  have := h a W ha hs
  unfold runL at this
  have e : (fun e => match e with
      | .normal => runL ro P Q k none
      | .exit id => runL ro P Q k (some id)
      | e => Q e) = contQ ro P Q k := by funext e; cases e <;> rfl
  rwa [e] at this
theorem T.unroll {c : Code} {k : List It} {m : Nat} (h : T ro P n w0 X0 Q (.code c :: .more c m :: k) none env own X) : T ro P n w0 X0 Q (.more c (m + 1) :: k) none env own X := fun a W ha hs => by
  have := runL_code_iff.1 (h a W ha hs)
  unfold runL
  rw [roundsIn_succ]
  refine Code.wpIn_mono (fun e a w h => ?_) this
  cases e with
  | normal => simp only [contQ, runL] at h; exact h
  | exit id => exact h
  | _ => exact h
/-- A family of states: where a loop's rounds begin. -/
def Fam := Nat → Env → Own → PMap → Prop
def Fam.at (n : NM) (w0 : Base) (X0 : PMap) (I : Fam) (m : Nat) (a : Act) (W : World) : Prop := ∃ env own X, I m env own X ∧ EOk n env a ∧ Sat w0 X0 own X W
/-- Where the walk comes back to the head of a loop. -/
def backTo (n : NM) (w0 : Base) (X0 : PMap) (I : Fam) (m : Nat) : It := .cut fun a W => ∃ m', m' < m ∧ Fam.at n w0 X0 I m' a W
theorem T.loop {c : Code} {k : List It} (I : Fam) (m : Nat) (h0 : I m env own X)
    (round : ∀ m env own X, I m env own X → T ro P n w0 X0 Q (.code c :: backTo n w0 X0 I m :: k) none env own X) : T ro P n w0 X0 Q (.code (.loop c) :: k) none env own X := by
  intro a W ha hs
  refine runL_code (loop_ghost (Fam.at n w0 X0 I) ?_ m a W ⟨env, own, X, h0, ha, hs⟩)
  rintro m a W ⟨env, own, X, hI, ha, hs⟩
  refine Code.wpIn_mono (fun e a w h => ?_) (runL_code_iff.1 (round m env own X hI a W ha hs))
  cases e with
  | normal => exact h
  | exit id => exact h
  | _ => exact h
theorem T.back {I : Fam} {m : Nat} {k : List It} (m' : Nat) (hm : m' < m) {env' : Env} (hI : I m' env' own X) (hw : ∀ t v, eget env' t = some v → eget env t = some v) : T ro P n w0 X0 Q (backTo n w0 X0 I m :: k) none env own X :=
  fun _ _ ha hs => ⟨m', hm, env', own, X, hI, ha.weaken hw, hs⟩
end

/-! ## contracts -/
/-- What a call leaves: a value of which Φ holds over a map that grew by blocks that are new; nothing that was there has changed. -/
def Fin (w0 : World) (X0 : PMap) (Φ : Value → PMap → Prop) (e : Ending) (w' : World) : Prop :=
  ∃ v X', e = .returned v ∧ Below w0.heap.size w0 w' ∧ PIn X' w' ∧ (∀ k, k < w0.heap.size → X' k = X0 k) ∧ Φ v X'
def Spec (P : Program) (f : FuncId) (args : List Value) (X0 : PMap) (Φ : Value → PMap → Prop) : Prop := ∀ w, PIn X0 w → Calls P f args.toArray w (Fin w X0 Φ)
theorem Spec.mono {P : Program} {f : FuncId} {args : List Value} {X0 : PMap} {Φ Ψ : Value → PMap → Prop} (h : Spec P f args X0 Φ) (hm : ∀ v X, X0.le X → Φ v X → Ψ v X) : Spec P f args X0 Ψ := fun w hw =>
  (h w hw).mono fun _ _ ⟨v, X', he, hb, hp, hk, hΦ⟩ => ⟨v, X', he, hb, hp, hk, hm v X' (fun k _ hx => (hk k (hw.lt hx)).trans hx) hΦ⟩

/-- What a body must achieve: it comes back; the marks are taken. -/
def bodyQ (P : Program) (fn : Func) (R : Ending → World → Prop) : Exit → Act → World → Prop
  | .normal, a, w | .ret, a, w => LeavesInM (FR none) DEP P fn a.tmps R a.defers .returning w
  | _, _, _ => False
theorem bodyQ_post {P : Program} {fn : Func} {R : Ending → World → Prop} : ∀ e a w, bodyQ P fn R e a w → bodyPostM (FR none) DEP P fn R e a w := by
  intro e a w h
  cases e <;> first | exact h | exact h.elim
def markOf (D : Nat) : Deferred := { target := .collected D, args := #[] }
def MarkObj : Obj := .deferred (some [])
def takes : List Nat → World → World
  | [], W => W
  | D :: Ds, W => takes Ds (W.putObj D (.deferred none))
theorem leaves_marks {P : Program} {fn : Func} {tmps : Array Value} {R : Ending → World → Prop} : ∀ (Ds : List Nat) (W : World), Ds.Nodup → (∀ D ∈ Ds, W.heap[D]? = some MarkObj) → (∃ v, (results fn tmps).run P (takes Ds W) = .ok v (takes Ds W) ∧ R (.returned v) (takes Ds W)) →
    LeavesInM (FR none) DEP P fn tmps R (Ds.map markOf) .returning W
  | [], W, _, _, h => h
  | D :: Ds, W, hn, hD, h => by
    have hn' := List.nodup_cons.1 hn
    refine ⟨by simp, .inl ⟨D, W.putObj D (.deferred none), rfl, run_takeDeferred (hD D (by simp)), leaves_marks Ds _ hn'.2 (fun E hE => ?_) h⟩⟩
    have hne : D ≠ E := fun e => hn'.1 (e ▸ hE)
    exact (World.putObj_heap_other (Ne.symm hne)).trans (hD E (by simp [hE]))
theorem takes_far : ∀ (Ds : List Nat) (W : World) (k : Nat), k ∉ Ds → (takes Ds W).heap[k]? = W.heap[k]?
  | [], _, _, _ => rfl
  | D :: Ds, W, k, h => by
    simp only [List.mem_cons, not_or] at h
    rw [takes, takes_far Ds _ k h.2]
    exact World.putObj_heap_other h.1
theorem takes_below {B : Nat} : ∀ (Ds : List Nat) (A W : World), Below B A W → B ≤ W.heap.size → (∀ D ∈ Ds, B ≤ D) → Below B A (takes Ds W)
  | [], _, _, h, _, _ => h
  | D :: Ds, A, W, h, hB, hD => takes_below Ds A _ (h.grown (grownBy_putObj' W D _) hB (fun k e => by cases e; exact hD D (by simp))) (by simpa [World.putObj] using hB) fun E hE => hD E (by simp [hE])
/-- The marks that wait are those of the blocks that are held fast. -/
def Marks (n : NM) (w0 : Base) : Prop := ∃ Ds : List Nat, n.marks = Ds.map markOf ∧ w0.res = Ds.map (fun D => (D, MarkObj)) ∧ Ds.Nodup

def argEnv : Nat → List Value → Env
  | _, [] => []
  | i, v :: vs => (i, v) :: argEnv (i + 1) vs
theorem eget_argEnv : ∀ (vs : List Value) (i t : Nat) (v : Value), eget (argEnv i vs) t = some v → i ≤ t ∧ vs[t - i]? = some v
  | [], _, _, _, h => by simp [argEnv, eget] at h
  | u :: vs, i, t, v, h => by
    simp only [argEnv, eget] at h
    cases hb : Nat.beq i t with
    | true =>
      have : i = t := Nat.eq_of_beq_eq_true hb
      subst this
      rw [hb] at h
      simpa using h
    | false =>
      rw [hb] at h
      have hne : i ≠ t := Nat.ne_of_beq_eq_false hb
      obtain ⟨h1, h2⟩ := eget_argEnv vs (i + 1) t v h
      refine ⟨by omega, ?_⟩
      rw [show t - i = (t - (i + 1)) + 1 by omega]
      simpa using h2

/-- THE BEGINNING OF A FUNCTION. -/
theorem Calls.enter {P : Program} {f : FuncId} {fn : Func} {c : Code} {args : List Value} {X0 : PMap} {R : Ending → World → Prop} {w : World} (hf : P.funcs[f]? = some fn) (hb : fn.body = some c) {n : Nat} (hn : fn.ntmps = n) (hl : Nat.ble args.length n = true) (hw : PIn X0 w)
    (h : T none P ⟨n, []⟩ ⟨w, []⟩ X0 (bodyQ P fn R) [.code c] none (argEnv 0 args) [] X0) : Calls P f args.toArray w R := by
  have hl' : args.length ≤ n := Nat.le_of_ble_eq_true hl
  refine (fr_calls (ro := none) (m := DEP)).1 (callsIn_of_wp_marks (F := FR none) hf hb trivial ?_)
  have := h { tmps := args.toArray ++ Array.replicate (fn.ntmps - args.toArray.size) undef, defers := [] } w ⟨rfl, by simp; omega, fun t v ht => ?_⟩ (Sat.start w hw)
  · refine Code.wpIn_mono (fun e a w h => bodyQ_post _ _ _ ?_) (runL_code_iff.1 this)
    cases e <;> exact h
  · obtain ⟨_, h2⟩ := eget_argEnv _ _ _ _ ht
    simp only [Nat.sub_zero] at h2
    have hlt : t < args.length := by
      rcases Nat.lt_or_ge t args.length with h1 | h1
      · exact h1
      · rw [List.getElem?_eq_none h1] at h2; cases h2
    rw [List.getElem?_eq_getElem hlt] at h2
    simp only [Option.some.injEq] at h2
    subst h2
    have : t < args.length + (n - args.length) := by omega
    simp [Array.getD, hn, this, hlt]
theorem Spec.enter {P : Program} {f : FuncId} {fn : Func} {c : Code} {args : List Value} {X0 : PMap} {Φ : Value → PMap → Prop} (hf : P.funcs[f]? = some fn) (hb : fn.body = some c) {n : Nat} (hn : fn.ntmps = n) (hl : Nat.ble args.length n = true)
    (h : ∀ w, PIn X0 w → T none P ⟨n, []⟩ ⟨w, []⟩ X0 (bodyQ P fn (Fin w X0 Φ)) [.code c] none (argEnv 0 args) [] X0) : Spec P f args X0 Φ := fun w hw => Calls.enter hf hb hn hl hw (h w hw)

/-! ## the end of a function; a block is made public -/
section
variable {ro : Option Nat} {P : Program} {n : NM} {w0 : Base} {X0 X : PMap} {own : Own} {env : Env} {fn : Func} {Φ : Value → PMap → Prop}
theorem panicPut {Q : Exit → Act → World → Prop} {k : List It} {d : Option Tmp} {v : Value} (h : ∀ c a w, Q (.panic c) (a.put d v) w → Q (.panic c) a w) : ∀ c a w, contQ ro P Q k (.panic c) (a.put d v) w → contQ ro P Q k (.panic c) a w := h
theorem panicBody {R : Ending → World → Prop} {k : List It} {d : Option Tmp} {v : Value} : ∀ c a w, contQ ro P (bodyQ P fn R) k (.panic c) (a.put d v) w → contQ ro P (bodyQ P fn R) k (.panic c) a w := by
  intro c a w h
  cases d <;> exact h

/-- A cell, or a row of cells, of a block. -/
def cread (row : Bool) (size : Nat) (cs : List Value) (i : Nat) : Option Value :=
  bif row then (bif Nat.ble (i + size) cs.length then some (.agg ((cs.drop i).take size).toArray) else none) else cs[i]?
/-- What is known of a type. -/
structure Ty (P : Program) (t : TypeId) (row : Bool) (size : Nat) : Prop where
  und : ∃ d, P.underlying t = some d ∧ d.isRow = row
  info : (P.info? t).map (·.size) = some size
theorem isAgg_row {t : TypeId} {d : TypeDesc} (h : P.underlying t = some d) (w : World) : (isAgg t).run P w = .ok d.isRow w := by
  unfold isAgg
  rw [Sem.run_bind, run_underlying h w]
  cases d <;> rfl
theorem run_loadVar_cells {t : TypeId} {row : Bool} {size : Nat} (ht : Ty P t row size) {b i : Nat} {cs : List Value} {v : Value} {W : World} (hc : ∀ j u, cs[j]? = some u → W.cell? ⟨b, j, none⟩ = some u) (hv : cread row size cs i = some v) :
    (loadVar t ⟨b, i, none⟩).run P W = .ok v W := by
  obtain ⟨d, hd, hrow⟩ := ht.und
  cases row with
  | true =>
    simp only [cread, cond_true] at hv
    cases hb : Nat.ble (i + size) cs.length with
    | false => rw [hb] at hv; cases hv
    | true =>
      rw [hb] at hv
      have hle : i + size ≤ cs.length := Nat.le_of_ble_eq_true hb
      have hv' : v = .agg ((cs.drop i).take size).toArray := by simpa using hv.symm
      subst hv'
      refine run_loadVar_mid W b i t ((cs.drop i).take size) d (fun j u hu => ?_) hd hrow (by rw [ht.info]; simp; omega)
      rw [List.getElem?_take] at hu
      split at hu
      · rw [List.getElem?_drop] at hu; exact hc _ _ hu
      · cases hu
  | false =>
    have hv' : cs[i]? = some v := by simpa [cread] using hv
    have hcell := hc i v hv'
    simp [loadVar, Sem.run_bind, isAgg_row hd W, hrow, load, Sem.run, hcell, Result.andThen]

/-- The value of a result variable. -/
inductive ResIs (P : Program) (env : Env) (own : Own) : ResultVar → Value → Prop
  | tmp {t : Tmp} {v : Value} : eget env t = some v → ResIs P env own (.tmp t) v
  | cell {p : Tmp} {t : TypeId} {row : Bool} {size b i j sz : Nat} {cs : List Value} {ty : TypeId} {v : Value} : eget env p = some (.pointer (some ⟨b, i, none⟩)) → Ty P t row size → AtO own b cs ty sz j → cread row size cs i = some v → ResIs P env own (.cell p t) v
inductive ResAll (P : Program) (env : Env) (own : Own) : List ResultVar → List Value → Prop
  | nil : ResAll P env own [] []
  | cons {r : ResultVar} {v : Value} {rs : List ResultVar} {vs : List Value} : ResIs P env own r v → ResAll P env own rs vs → ResAll P env own (r :: rs) (v :: vs)
def resVal : List Value → Value
  | [v] => v
  | vs => .tuple vs.toArray
theorem run_cell {p : Tmp} {t : TypeId} {v : Value} {a : Act} {W : World} (ha : EOk n env a) (hs : Stab own X W) {row : Bool} {size b i j sz : Nat} {cs : List Value} {ty : TypeId} (hp : eget env p = some (.pointer (some ⟨b, i, none⟩))) (ht : Ty P t row size) (ho : AtO own b cs ty sz j) (hv : cread row size cs i = some v) :
    a.tmps.getD p undef = .pointer (some ⟨b, i, none⟩) ∧ (loadVar t ⟨b, i, none⟩).run P W = .ok v W :=
  ⟨ha.get _ _ hp, run_loadVar_cells (W := W) ht (fun _ _ hu => (hs.own _ ho.mem).cell hu) hv⟩
theorem run_results0 (hr : fn.results = #[]) {a : Act} {W : World} : (results fn a.tmps).run P W = .ok (.tuple #[]) W := results_none hr _ _ _
theorem run_results1 {r : ResultVar} {v : Value} (hr : fn.results = #[r]) (h : ResIs P env own r v) {a : Act} {W : World} (ha : EOk n env a) (hs : Stab own X W) : (results fn a.tmps).run P W = .ok v W := by
  cases h with
  | tmp h => simp [results, hr, ← ha.get _ _ h]
  | cell hp ht ho hv =>
    obtain ⟨h1, h2⟩ := run_cell ha hs hp ht ho hv
    rw [Array.getD_eq_getD_getElem?] at h1
    simp [results, hr, h1, asAddr, h2]
theorem run_results2 {r r' : ResultVar} {v v' : Value} (hr : fn.results = #[r, r']) (h : ResIs P env own r v) (h' : ResIs P env own r' v') {a : Act} {W : World} (ha : EOk n env a) (hs : Stab own X W) : (results fn a.tmps).run P W = .ok (.tuple #[v, v']) W := by
  cases h with
  | tmp h =>
    have h0 := ha.get _ _ h
    rw [Array.getD_eq_getD_getElem?] at h0
    cases h' with
    | tmp h' =>
      have h0' := ha.get _ _ h'
      rw [Array.getD_eq_getD_getElem?] at h0'
      simp [results, hr, h0, h0']
    | cell hp ht ho hv =>
      obtain ⟨h1, h2⟩ := run_cell ha hs hp ht ho hv
      rw [Array.getD_eq_getD_getElem?] at h1
      simp [results, hr, h0, h1, asAddr, h2, Result.andThen]
  | cell hp ht ho hv =>
    obtain ⟨h1, h2⟩ := run_cell ha hs hp ht ho hv
    rw [Array.getD_eq_getD_getElem?] at h1
    cases h' with
    | tmp h' =>
      have h0' := ha.get _ _ h'
      rw [Array.getD_eq_getD_getElem?] at h0'
      simp [results, hr, h1, asAddr, h2, Result.andThen, h0']
    | cell hp ht ho hv =>
      obtain ⟨h3, h4⟩ := run_cell ha hs hp ht ho hv
      rw [Array.getD_eq_getD_getElem?] at h3
      simp [results, hr, h1, h3, asAddr, h2, h4, Sem.run_bind, Result.andThen]
theorem run_results3 {t t' t'' : Tmp} {v v' v'' : Value} (hr : fn.results = #[.tmp t, .tmp t', .tmp t'']) (h : eget env t = some v) (h' : eget env t' = some v') (h'' : eget env t'' = some v'') {a : Act} {W : World} (ha : EOk n env a) : (results fn a.tmps).run P W = .ok (.tuple #[v, v', v'']) W := by
  have h0 := ha.get _ _ h
  have h1 := ha.get _ _ h'
  have h2 := ha.get _ _ h''
  rw [Array.getD_eq_getD_getElem?] at h0 h1 h2
  simp [results, hr, h0, h1, h2]

/-- THE RETURN. -/
theorem leave_all {R : Ending → World → Prop} {v : Value} (hM : Marks n w0) {a : Act} {W : World} (ha : EOk n env a) (hs : Sat w0 X0 own X W) (hr : ∀ W, Stab own X W → (results fn a.tmps).run P W = .ok v W)
    (hR : ∀ W', Below w0.heap.size w0.w W' → PIn X W' → R (.returned v) W') : LeavesInM (FR none) DEP P fn a.tmps R a.defers .returning W := by
  obtain ⟨Ds, h1, h2, h3⟩ := hM
  rw [ha.defers, h1]
  have hres : ∀ D ∈ Ds, W.heap[D]? = some MarkObj ∧ X D = none ∧ (∀ q ∈ own, q.b ≠ D) ∧ w0.w.heap.size ≤ D := fun D hD => hs.res (D, MarkObj) (by rw [h2]; exact List.mem_map_of_mem hD)
  have hst : Stab own X (takes Ds W) := by
    refine ⟨fun p hp => ?_, fun k o hk => ?_⟩
    · obtain ⟨r, hr, hz⟩ := hs.stab.own p hp
      exact ⟨r, (takes_far Ds W p.b (fun hm => (hres _ hm).2.2.1 p hp rfl)).trans hr, hz⟩
    · refine (takes_far Ds W k (fun hm => ?_)).trans (hs.stab.pers k o hk)
      have := (hres _ hm).2.1
      rw [this] at hk; cases hk
  exact leaves_marks Ds W h3 (fun D hD => (hres D hD).1) ⟨v, hr _ hst, hR _ (takes_below Ds _ _ hs.below hs.below.size fun D hD => (hres D hD).2.2.2) hst.pers⟩
theorem T.ret {v : Value} {k : List It} (hr : ∀ a W, EOk n env a → Stab own X W → (results fn a.tmps).run P W = .ok v W) (hΦ : Φ v X) (hM : Marks n w0) : T ro P n w0 X0 (bodyQ P fn (Fin w0.w X0 Φ)) (.code .ret :: k) none env own X :=
  fun a _ ha hs => runL_ret (leave_all hM ha hs (fun _ h => hr a _ ha h) fun _ h1 h2 => ⟨v, X, rfl, h1, h2, hs.old, hΦ⟩)
theorem T.done {v : Value} (hr : ∀ a W, EOk n env a → Stab own X W → (results fn a.tmps).run P W = .ok v W) (hΦ : Φ v X) (hM : Marks n w0) : T ro P n w0 X0 (bodyQ P fn (Fin w0.w X0 Φ)) [] none env own X :=
  fun a _ ha hs => leave_all hM ha hs (fun _ h => hr a _ ha h) fun _ h1 h2 => ⟨v, X, rfl, h1, h2, hs.old, hΦ⟩
/-- The return of a function of which something is said that speaks of the world. -/
theorem T.retR {R : Ending → World → Prop} {v : Value} {k : List It} (hr : ∀ a W, EOk n env a → Stab own X W → (results fn a.tmps).run P W = .ok v W) (hR : ∀ W', Below w0.heap.size w0.w W' → PIn X W' → R (.returned v) W') (hM : Marks n w0) : T ro P n w0 X0 (bodyQ P fn R) (.code .ret :: k) none env own X :=
  fun a _ ha hs => runL_ret (leave_all hM ha hs (fun _ h => hr a _ ha h) hR)
theorem T.doneR {R : Ending → World → Prop} {v : Value} (hr : ∀ a W, EOk n env a → Stab own X W → (results fn a.tmps).run P W = .ok v W) (hR : ∀ W', Below w0.heap.size w0.w W' → PIn X W' → R (.returned v) W') (hM : Marks n w0) : T ro P n w0 X0 (bodyQ P fn R) [] none env own X :=
  fun a _ ha hs => leave_all hM ha hs (fun _ h => hr a _ ha h) hR
theorem T.done0 {R : Ending → World → Prop} (hr : fn.results = #[]) (hR : ∀ W', Below w0.heap.size w0.w W' → PIn X W' → R (.returned (.tuple #[])) W') (hM : Marks n w0 := by first | exact ⟨[], rfl, rfl, .nil⟩ | exact ⟨[_], rfl, rfl, by simp⟩) : T ro P n w0 X0 (bodyQ P fn R) [] none env own X := T.doneR (fun _ _ _ _ => run_results0 hr) hR hM
theorem T.ret0 {k : List It} (hr : fn.results = #[]) (hΦ : Φ (.tuple #[]) X) (hM : Marks n w0 := by first | exact ⟨[], rfl, rfl, .nil⟩ | exact ⟨[_], rfl, rfl, by simp⟩) : T ro P n w0 X0 (bodyQ P fn (Fin w0.w X0 Φ)) (.code .ret :: k) none env own X := T.ret (fun _ _ _ _ => run_results0 hr) hΦ hM
theorem T.ret1 {k : List It} {r : ResultVar} {v : Value} (hr : fn.results = #[r]) (h : ResIs P env own r v) (hΦ : Φ v X) (hM : Marks n w0 := by first | exact ⟨[], rfl, rfl, .nil⟩ | exact ⟨[_], rfl, rfl, by simp⟩) : T ro P n w0 X0 (bodyQ P fn (Fin w0.w X0 Φ)) (.code .ret :: k) none env own X := T.ret (fun _ _ ha hs => run_results1 hr h ha hs) hΦ hM
theorem T.ret2 {k : List It} {r r' : ResultVar} {v v' : Value} (hr : fn.results = #[r, r']) (h : ResIs P env own r v) (h' : ResIs P env own r' v') (hΦ : Φ (.tuple #[v, v']) X) (hM : Marks n w0 := by first | exact ⟨[], rfl, rfl, .nil⟩ | exact ⟨[_], rfl, rfl, by simp⟩) : T ro P n w0 X0 (bodyQ P fn (Fin w0.w X0 Φ)) (.code .ret :: k) none env own X := T.ret (fun _ _ ha hs => run_results2 hr h h' ha hs) hΦ hM
theorem T.ret3 {k : List It} {t t' t'' : Tmp} {v v' v'' : Value} (hr : fn.results = #[.tmp t, .tmp t', .tmp t'']) (h : eget env t = some v) (h' : eget env t' = some v') (h'' : eget env t'' = some v'') (hΦ : Φ (.tuple #[v, v', v'']) X) (hM : Marks n w0 := by first | exact ⟨[], rfl, rfl, .nil⟩ | exact ⟨[_], rfl, rfl, by simp⟩) : T ro P n w0 X0 (bodyQ P fn (Fin w0.w X0 Φ)) (.code .ret :: k) none env own X := T.ret (fun _ _ ha _ => run_results3 hr h h' h'' ha) hΦ hM

/-- An own block is made public: it will not change any more. -/
def PMap.add (X : PMap) (b : Nat) (o : Obj) : PMap := fun k => if k = b then some o else X k
/-- In the map: block b holds these cells first. -/
def Blk (X : PMap) (b : Nat) (cs : List Value) : Prop := ∃ (rest : List Value) (ty : TypeId) (fr : Nat × Nat), X b = some (.cells (cs ++ rest).toArray ty fr)
theorem Blk.mono {X X' : PMap} {b : Nat} {cs : List Value} (h : Blk X b cs) (hX : X.le X') : Blk X' b cs := let ⟨r, t, f, hr⟩ := h; ⟨r, t, f, hX _ _ hr⟩
theorem SatC.pub {w0 : World} {W : World} (h : SatC w0 X0 own X W) {b : Nat} {cs : List Value} {ty : TypeId} {sz j : Nat} (hj : AtO own b cs ty sz j) : ∃ X', X.le X' ∧ Blk X' b cs ∧ (∀ k, k ≠ b → X' k = X k) ∧ SatC w0 X0 (own.eraseIdx j) X' W := by
  have hm := hj.mem
  obtain ⟨r, hr, _⟩ := h.stab.own _ hm
  have hXb := h.apart _ hm
  have hjl : j < own.length := by
    have := hj.get
    rcases Nat.lt_or_ge j own.length with h1 | h1
    · exact h1
    · rw [List.getElem?_eq_none h1] at this; cases this
  have hjv : own[j] = ⟨b, cs, ty, sz⟩ := by have := hj.get; rw [List.getElem?_eq_getElem hjl] at this; exact Option.some.inj this
  have hsub : ∀ q ∈ own.eraseIdx j, q ∈ own ∧ q.b ≠ b := fun q hq => by
    refine ⟨List.mem_of_mem_eraseIdx hq, ?_⟩
    obtain ⟨k, hk, hkj, rfl⟩ := List.mem_eraseIdx_iff_getElem.1 hq
    have hp := List.pairwise_iff_getElem.1 h.nodup
    rcases Nat.lt_or_gt_of_ne hkj with hlt | hgt
    · have := hp k j hk hjl hlt; rw [hjv] at this; exact this
    · have := hp j k hjl hk hgt; rw [hjv] at this; exact fun e => this e.symm
  refine ⟨X.add b (.cells (cs ++ r).toArray ty (0, 0)), fun k o hk => ?_, ⟨r, ty, (0, 0), by simp [PMap.add]⟩, fun k hk => by simp [PMap.add, hk], h.below, fun k hk => ?_, ⟨fun q hq => h.stab.own q (hsub q hq).1, fun k o hk => ?_⟩, fun q hq => h.new q (hsub q hq).1, fun q hq => ?_, ?_⟩
  · unfold PMap.add
    split
    · rename_i e; subst e; rw [hXb] at hk; cases hk
    · exact hk
  · have hne : k ≠ b := fun e => by have := h.new _ hm; simp only at this; omega
    simp only [PMap.add, if_neg hne]
    exact h.old k hk
  · unfold PMap.add at hk
    split at hk
    · rename_i e; subst e; cases hk; exact hr
    · exact h.stab.pers k o hk
  · simp only [PMap.add, if_neg (hsub q hq).2]
    exact h.apart q (hsub q hq).1
  · exact h.nodup.sublist (List.eraseIdx_sublist ..)
theorem Sat.pub {W : World} (h : Sat w0 X0 own X W) {b : Nat} {cs : List Value} {ty : TypeId} {sz j : Nat} (hj : AtO own b cs ty sz j) : ∃ X', X.le X' ∧ Blk X' b cs ∧ (∀ k, k ≠ b → X' k = X k) ∧ Sat w0 X0 (own.eraseIdx j) X' W := by
  obtain ⟨X', h1, h2, h3, h4⟩ := h.toSatC.pub hj
  refine ⟨X', h1, h2, h3, h4, fun p hp => ?_⟩
  obtain ⟨g1, g2, g3, g4⟩ := h.res p hp
  exact ⟨g1, (h3 _ (fun e => g3 _ hj.mem e.symm)).trans g2, fun q hq => g3 q (List.mem_of_mem_eraseIdx hq), g4⟩
theorem T.pubAt {Q : Exit → Act → World → Prop} {ops : Array Oper} {l : List Oper} (b : Nat) {cs : List Value} {ty : TypeId} {sz j : Nat} (hj : AtO own b cs ty sz j)
    (h : ∀ X', X.le X' → Blk X' b cs → (∀ k, k ≠ b → X' k = X k) → SL ro P n w0 X0 ops Q l env (own.eraseIdx j) X') : SL ro P n w0 X0 ops Q l env own X := by
  intro a W ha hs
  obtain ⟨X', h1, h2, h3, h4⟩ := hs.pub hj
  exact h X' h1 h2 h3 a W ha h4
theorem SD.pub {Q : Exit → Act → World → Prop} {ops : Array Oper} {nh : Nat} {ownS : Own} {XS : PMap} {pl : List (Nat × Bool)} (b : Nat) {cs : List Value} {ty : TypeId} {sz j : Nat} (hj : AtO own b cs ty sz j)
    (h : ∀ X', X.le X' → Blk X' b cs → (∀ k, k ≠ b → X' k = X k) → SD ro P n w0 X0 ops Q nh ownS XS pl env (own.eraseIdx j) X') : SD ro P n w0 X0 ops Q nh ownS XS pl env own X := by
  intro listed a W hns hnd ht inv hp ha hs hst
  obtain ⟨X', h1, h2, h3, h4⟩ := hs.pub hj
  exact h X' h1 h2 h3 listed a W hns hnd ht inv hp ha h4 hst
theorem T.pub {Q : Exit → Act → World → Prop} {k : List It} {e : Option Nat} (b : Nat) {cs : List Value} {ty : TypeId} {sz j : Nat} (hj : AtO own b cs ty sz j)
    (h : ∀ X', X.le X' → Blk X' b cs → (∀ k, k ≠ b → X' k = X k) → T ro P n w0 X0 Q k e env (own.eraseIdx j) X') : T ro P n w0 X0 Q k e env own X := by
  intro a W ha hs
  obtain ⟨X', h1, h2, h3, h4⟩ := hs.pub hj
  exact h X' h1 h2 h3 a W ha h4
end
end Go.Proofs.YtoheffglppbcbaaDoor
