/- THE ENGINE, second part: regions of operations, one lemma for each kind of operation. No program is named here. -/
import Derived.Test.YtoheffglppbcbaaDoorEng
import Derived.StillTail
import Derived.OrdersIn
import Derived.TacticsIn
import Derived.LoopNIn
namespace Go.Proofs.YtoheffglppbcbaaDoor
open Go.RowKit

section
variable {P : Program} {n : NM} {w0 : Base} {X0 X : PMap} {own : Own} {env : Env} {ops : Array Oper} {Q : Exit → Act → World → Prop} {ro : Option Nat}

/-- The wide fence, outside of a round (none) or in one. -/
abbrev FR (ro : Option Nat) : Fence := { fn := fun _ => True, depth := none, alive := false, round := ro }
abbrev DEP : Nat := 9
theorem fr_calls {ro : Option Nat} {m : Nat} {P : Program} {f : FuncId} {args : Array Value} {w : World} {R : Ending → World → Prop} : CallsIn (FR ro) m P f args w R ↔ Calls P f args w R := callsIn_wide (n := m)

/-- The operation only reads, and yields v. -/
def OpY (P : Program) (n : NM) (env : Env) (own : Own) (X : PMap) (o : Op) (v : Value) : Prop :=
  ∀ a W (oper : Oper), oper.op = o → EOk n env a → Stab own X W → (execOp a.eval oper).run P W = .ok (.value v) W
/-- The operation does what k says; g: it changes nothing that was there. -/
def OpX (P : Program) (n : NM) (w0 : Base) (X0 : PMap) (env : Env) (own : Own) (X : PMap) (o : Op) (g : Bool) (k : Value → Own → PMap → Prop) : Prop :=
  ∀ a W (oper : Oper) K Q ro, oper.op = o → EOk n env a → Sat w0 X0 own X W →
    (∀ v own' X' W', k v own' X' → Sat w0 X0 own' X' W' → (g = true → Grow W W') → K (a.put oper.dst v) W') → oper.wpIn (FR ro) DEP P a W K Q
theorem wp_value {oper : Oper} {a : Act} {W W' : World} {K : Act → World → Prop} {Q : Exit → Act → World → Prop} {ro : Option Nat} {v : Value} (hnd : ∀ c, oper.op ≠ .defer c) (hr : (execOp a.eval oper).run P W = .ok (.value v) W') (h : K (a.put oper.dst v) W') : oper.wpIn (FR ro) DEP P a W K Q := by
  refine ⟨fun _ _ => trivial, ?_⟩
  rw [Oper.semAt_eq _ _ _ hnd, hr]
  exact h
theorem wp_skipped {oper : Oper} {a : Act} {W W' : World} {K : Act → World → Prop} {Q : Exit → Act → World → Prop} {ro : Option Nat} (hnd : ∀ c, oper.op ≠ .defer c) (hr : (execOp a.eval oper).run P W = .ok .skip W') (h : K (a.put oper.dst undef) W') : oper.wpIn (FR ro) DEP P a W K Q := by
  refine ⟨fun _ _ => trivial, ?_⟩
  rw [Oper.semAt_eq _ _ _ hnd, hr]
  exact h
theorem wp_enters {oper : Oper} {a : Act} {W W' : World} {K : Act → World → Prop} {Q : Exit → Act → World → Prop} {ro : Option Nat} {f : FuncId} {args : Array Value} (hnd : ∀ c, oper.op ≠ .defer c) (hr : (execOp a.eval oper).run P W = .ok (.enter f args) W')
    (h : Calls P f args W' fun e w'' => ∃ v, e = .returned v ∧ K (a.put oper.dst v) w'') : oper.wpIn (FR ro) DEP P a W K Q := by
  refine ⟨fun _ _ => trivial, ?_⟩
  rw [Oper.semAt_eq _ _ _ hnd, hr]
  refine ⟨fun h => (by cases h), fr_calls.2 (h.mono fun e w'' hh => ?_)⟩
  obtain ⟨v, rfl, hk⟩ := hh
  exact hk

/-- Does the operation run? -/
def gwant (ops : Array Oper) (env : Env) : Option (Nat × Bool) → Option Bool
  | none => some true
  | some (j, want) =>
    match ((ops[j]?).bind (·.dst)).bind (eget env) with
    | some (.bool b) => some (bif want then b else !b)
    | some (.tuple _) => some false
    | _ => none
theorem gwant_spec {o : Oper} {a : Act} {b : Bool} (h : EOk n env a) (hg : gwant ops env o.guard = some b) : Region.wanted o (yielded ops a.tmps) = b := by
  unfold gwant at hg
  unfold Region.wanted
  cases hgd : o.guard with
  | none => rw [hgd] at hg; simpa using hg
  | some jw =>
    obtain ⟨j, want⟩ := jw
    rw [hgd] at hg
    simp only at hg ⊢
    cases hd : (ops[j]?).bind (·.dst) with
    | none => rw [hd] at hg; simp at hg
    | some t =>
      rw [hd] at hg
      simp only [Option.bind_some] at hg
      cases hv : eget env t with
      | none => rw [hv] at hg; simp at hg
      | some v =>
        rw [hv] at hg
        cases v with
        | bool c =>
          have hgt := h.get t _ hv
          have hy : yielded ops a.tmps j = some c := by
            unfold yielded
            rw [hd]
            simp only [Option.bind_some]
            have : a.tmps[t]? = some (.bool c) := by
              rcases Nat.lt_or_ge t a.tmps.size with hlt | hge
              · rw [Array.getElem?_eq_getElem hlt]
                simpa [Array.getD, hlt] using hgt
              · simp [Array.getD, Nat.not_lt.2 hge, undef] at hgt
            rw [this]
          rw [hy]
          simp only [Option.some.injEq] at hg
          subst hg
          cases want <;> cases c <;> rfl
        | tuple xs =>
          have hgt := h.get t _ hv
          have hy : yielded ops a.tmps j = none := by
            unfold yielded
            rw [hd]
            simp only [Option.bind_some]
            rcases Nat.lt_or_ge t a.tmps.size with hlt | hge
            · rw [Array.getElem?_eq_getElem hlt]
              have : a.tmps[t] = .tuple xs := by simpa [Array.getD, hlt] using hgt
              rw [this]
            · rw [Array.getElem?_eq_none hge]
          rw [hy]
          simp only [Option.some.injEq] at hg
          subst hg
          rfl
        | _ => simp at hg

def eput (env : Env) : Option Tmp → Value → Env
  | some d, v => (d, v) :: env
  | none, _ => env
def dok (n : NM) : Option Tmp → Bool
  | some d => Nat.blt d n.size
  | none => true
def noDefer : Op → Bool
  | .defer _ => false
  | _ => true
theorem noDefer_spec {o : Op} (h : noDefer o = true) (c : Call) : o ≠ .defer c := by rintro rfl; cases h
theorem EOk.eput {a : Act} (h : EOk n env a) {d : Option Tmp} (hd : dok n d = true) (v : Value) : EOk n (eput env d v) (a.put d v) := by
  cases d with
  | none => exact h
  | some d => exact h.put hd v

/-! ## a plain region -/
def SL (ro : Option Nat) (P : Program) (n : NM) (w0 : Base) (X0 : PMap) (ops : Array Oper) (Q : Exit → Act → World → Prop) (l : List Oper) (env : Env) (own : Own) (X : PMap) : Prop :=
  ∀ a W, EOk n env a → Sat w0 X0 own X W → wpListIn (FR ro) DEP P ops Q l a W

theorem SL.y {l : List Oper} {d : Option Tmp} {op : Op} {ty : TypeId} {pos : String} {af : Array Edge} {g : Option (Nat × Bool)} {v : Value} (h : OpY P n env own X op v) (hg : gwant ops env g = some true) (hd : (dok n d && noDefer op) = true)
    (h' : SL ro P n w0 X0 ops Q l (eput env d v) own X) : SL ro P n w0 X0 ops Q (⟨d, op, ty, pos, af, g⟩ :: l) env own X := by
  intro a W ha hs
  unfold wpListIn
  rw [if_pos (gwant_spec ha hg)]
  simp only [Bool.and_eq_true] at hd
  exact wp_value (noDefer_spec hd.2) (h a W _ rfl ha hs.stab) (h' _ _ (ha.eput hd.1 v) hs)
theorem SL.skip {l : List Oper} {d : Option Tmp} {op : Op} {ty : TypeId} {pos : String} {af : Array Edge} {g : Option (Nat × Bool)} (hg : gwant ops env g = some false) (hd : dok n d = true)
    (h' : SL ro P n w0 X0 ops Q l (eput env d undef) own X) : SL ro P n w0 X0 ops Q (⟨d, op, ty, pos, af, g⟩ :: l) env own X := by
  intro a W ha hs
  unfold wpListIn
  rw [if_neg (by rw [gwant_spec ha hg]; simp)]
  exact ⟨fun _ _ => trivial, h' _ _ (ha.eput hd _) hs⟩
theorem SL.x {l : List Oper} {d : Option Tmp} {op : Op} {ty : TypeId} {pos : String} {af : Array Edge} {g : Option (Nat × Bool)} {k : Value → Own → PMap → Prop} {gr : Bool} (h : OpX P n w0 X0 env own X op gr k) (hg : gwant ops env g = some true) (hd : dok n d = true)
    (h' : ∀ v own' X', k v own' X' → SL ro P n w0 X0 ops Q l (eput env d v) own' X') : SL ro P n w0 X0 ops Q (⟨d, op, ty, pos, af, g⟩ :: l) env own X := by
  intro a W ha hs
  unfold wpListIn
  rw [if_pos (gwant_spec ha hg)]
  exact h a W _ _ _ _ rfl ha hs fun v own' X' W' hk hs' _ => h' v own' X' hk _ _ (ha.eput hd v) hs'
end

/-! ## a region that draws its order -/
section
variable {P : Program} {ops : Array Oper} {Q : Exit → Act → World → Prop} {S : World → Prop} {nh : Nat} {ro : Option Nat}

theorem yields_wp {i : Nat} {o : Oper} {v : Value} {a : Act} (hnd : ∀ c, o.op ≠ .defer c) (hi : ops[i]? = some o) (hy : YieldsIf P ops S o v a) {K : Act → World → Prop} {w : World} (hS : S w) (h : K (a.put o.dst v) w) : wpOpIn (FR ro) DEP P ops Q i K a w := by
  unfold wpOpIn
  simp only [hi]
  rcases hy with ⟨hw, hv⟩ | ⟨hw, rfl⟩
  · simp only [hw, if_true]; exact wp_value hnd (hv w hS) h
  · simp only [hw, Bool.false_eq_true, if_false]; exact ⟨fun _ _ => trivial, h⟩
theorem wpOpIn_putIf {j : Nat} {oi oj : Oper} {v : Value} (hndj : ∀ c, oj.op ≠ .defer c) (hj : ops[j]? = some oj) (hap : oi.apart ops oj = true)
    (hsi : ∀ cs b, oi.op ≠ .select cs b) (hsj : ∀ cs b, oj.op ≠ .select cs b)
    (hQ : ∀ c a w, Q (.panic c) (a.put oi.dst v) w → Q (.panic c) a w) {K : Act → World → Prop} {a : Act} {w : World}
    (hy : YieldsIf P ops S oi v a) (h : wpOpIn (FR ro) DEP P ops Q j K (a.put oi.dst v) w) :
    wpOpIn (FR ro) DEP P ops Q j (fun a' w' => YieldsIf P ops S oi v a' ∧ K (a'.put oi.dst v) w') a w := by
  obtain ⟨h1, h2, h3⟩ := Oper.apart_spec hap
  have keep : ∀ (a : Act), YieldsIf P ops S oi v a → ∀ u, YieldsIf P ops S oi v (a.put oj.dst u) := fun a hy u =>
    hy.of_same (execOp_put oi hsi a oj.dst u h3) (wanted_put oi a oj.dst u h3)
  have keepD : ∀ d, YieldsIf P ops S oi v { a with defers := d :: a.defers } := fun d => hy.of_same rfl rfl
  unfold wpOpIn at *
  simp only [hj] at *
  rw [wanted_put oj a oi.dst v h1] at h
  split
  · rename_i hw
    simp only [hw, if_true] at h
    unfold Oper.wpIn at *
    refine ⟨fun _ _ => trivial, ?_⟩
    have h := h.2
    rw [Oper.semAt_eq _ _ _ hndj, execOp_put oj hsj a oi.dst v h1] at h
    rw [Oper.semAt_eq _ _ _ hndj]
    generalize (execOp a.eval oj).run P w = r at *
    cases r with
    | ok x w' =>
      cases x <;> simp only [Oper.uponIn] at h ⊢
      case value u => exact ⟨keep a hy u, by rw [← Act.put_comm a v u h2]; exact h⟩
      case skip => exact ⟨keep a hy _, by rw [← Act.put_comm a v undef h2]; exact h⟩
      case defer d =>
        refine ⟨keep _ (keepD d) _, ?_⟩
        rw [← Act.put_comm _ v undef h2, ← Act.put_defers]
        exact h
      case enter f args =>
        refine ⟨h.1, CallsIn.mono h.2 fun e w'' he => ?_⟩
        cases e with
        | returned u => exact ⟨keep a hy u, by rw [← Act.put_comm a v u h2]; exact he⟩
        | panicked c => exact hQ _ _ _ he
        | outgrown => exact he
      case row row args => exact ⟨h.1, RowsIn.mono h.2 fun u w'' he => ⟨keep a hy u, by rw [← Act.put_comm a v u h2]; exact he⟩⟩
      case round l f tmps assign body =>
        refine ⟨h.1, RoundIn.mono h.2 fun e w'' he => ?_⟩
        cases e with
        | returned u => exact ⟨keep a hy u, by rw [← Act.put_comm a v u h2]; exact he⟩
        | panicked c => exact hQ _ _ _ he
        | outgrown => exact he
    | halt x w' =>
      cases x <;> simp only [Oper.uponIn] at h ⊢
      case panic u => exact hQ _ _ _ h
  · rename_i hw
    simp only [hw] at h
    exact ⟨fun _ _ => trivial, keep a hy _, by rw [← Act.put_comm a v undef h2]; exact h.2⟩
def noDefers (ops : Array Oper) : Bool := ops.all fun o => noDefer o.op
theorem noDefers_spec (h : noDefers ops = true) (j : Nat) (o : Oper) (ho : ops[j]? = some o) : ∀ c, o.op ≠ .defer c := noDefer_spec (Array.all_eq_true_iff_forall_mem.1 h o (Array.mem_of_getElem? ho))

/-- The head of a region, in whatever order: S holds behind each operation; L at the end. -/
def hdAny (ro : Option Nat) (P : Program) (ops : Array Oper) (Q : Exit → Act → World → Prop) (S : World → Prop) (nh : Nat) (L : Array Bool → Act → World → Prop) : Nat → Array Bool → Act → World → Prop
  | 0, listed, a, w => L listed a w
  | f + 1, listed, a, w => Region.ready .any ops listed ≠ [] ∧ ∀ i ∈ Region.ready .any ops listed, i < nh ∧ wpOpIn (FR ro) DEP P ops Q i (fun a' w' => S w' ∧ hdAny ro P ops Q S nh L f (listed.setIfInBounds i true) a' w') a w

theorem wpAny_of_hd {L : Array Bool → Act → World → Prop} {g : Nat} (hL : ∀ listed a w, L listed a w → wpAnyIn (FR ro) DEP P .any ops Q g listed a w) :
    ∀ (f : Nat) (listed : Array Bool) (a : Act) (w : World), hdAny ro P ops Q S nh L f listed a w → wpAnyIn (FR ro) DEP P .any ops Q (f + g) listed a w
  | 0, listed, a, w, h => by rw [Nat.zero_add]; exact hL _ _ _ h
  | f + 1, listed, a, w, h => by
    rw [show f + 1 + g = (f + g) + 1 by omega]
    exact ⟨fun h0 => absurd h0 h.1, fun i hi => wpOpIn_mono (fun a' w' h' => wpAny_of_hd hL f _ a' w' h'.2) (h.2 i hi).2⟩

/-- No operation of the tail comes up while one of the head waits. -/
def TailWaits (ops : Array Oper) (nh : Nat) : Prop :=
  ∀ (listed : Array Bool), HeadInv .any ops nh listed → ∀ i, i < nh → listed.getD i true = false → ∀ t ∈ Region.ready .any ops listed, t < nh
def tailB (ops : Array Oper) (nh : Nat) : Bool := decide (nh = ops.size) || (decide (nh < ops.size) && Region.sinkB .any ops nh && Region.chainB .any ops nh)
theorem tailWaits_of (h : tailB ops nh = true) : TailWaits ops nh := by
  intro listed inv i hi hun t ht
  unfold tailB at h
  simp only [Bool.or_eq_true, Bool.and_eq_true, decide_eq_true_eq] at h
  rcases h with h | ⟨⟨h1, h2⟩, h3⟩
  · obtain ⟨_, o, ho, _⟩ := mem_ready.1 ht
    have := (Array.getElem?_eq_some_iff.1 ho).1
    omega
  · rcases Nat.lt_or_ge t nh with h | h
    · exact h
    · exact absurd ht (tail_waits h2 h3 h1 inv _ i rfl hi hun t h)

theorem hd_first {i : Nat} {oi : Oper} {v : Value} {L : Array Bool → Act → World → Prop} (hi : ops[i]? = some oi) (hsel : ∀ (j : Nat) (o : Oper) cs b, ops[j]? = some o → o.op ≠ .select cs b)
    (hnd : ∀ (j : Nat) (o : Oper), ops[j]? = some o → ∀ c, o.op ≠ .defer c) (ht : TailWaits ops nh) (hin : i < nh) (hQ : ∀ c a w, Q (.panic c) (a.put oi.dst v) w → Q (.panic c) a w)
    (hdone : ∀ listed a w, L listed a w → ∀ j ∈ Region.ready .any ops listed, nh ≤ j) :
    ∀ (f : Nat) (listed : Array Bool) (a : Act) (w : World), HeadInv .any ops nh listed →
      (∀ j oj, ops[j]? = some oj → j ≠ i → listed.getD j true = false → (∀ e ∈ oj.after, Region.binds .any e = true → e.on ≠ i) → oi.apart ops oj = true) →
      i ∈ Region.ready .any ops listed → YieldsIf P ops S oi v a → S w →
      hdAny ro P ops Q S nh L f (listed.setIfInBounds i true) (a.put oi.dst v) w → hdAny ro P ops Q S nh L (f + 1) listed a w := by
  intro f
  induction f with
  | zero =>
    intro listed a w inv _ hr hy hS H
    have hun := (mem_ready.1 hr).1
    refine ⟨fun h => (by rw [h] at hr; cases hr), fun j hj => ?_⟩
    have hjn := ht listed inv i hin hun j hj
    refine ⟨hjn, ?_⟩
    by_cases hji : j = i
    · subst hji; exact yields_wp (hnd _ _ hi) hi hy hS ⟨hS, H⟩
    · have := hdone _ _ _ H j (ready_mono hj hji)
      omega
  | succ f ih =>
    intro listed a w inv hfree hr hy hS H
    have hun := (mem_ready.1 hr).1
    refine ⟨fun h => (by rw [h] at hr; cases hr), fun j hj => ?_⟩
    have hjn := ht listed inv i hin hun j hj
    refine ⟨hjn, ?_⟩
    by_cases hji : j = i
    · subst hji; exact yields_wp (hnd _ _ hi) hi hy hS ⟨hS, H⟩
    · have h1 := (H.2 j (ready_mono hj hji)).2
      obtain ⟨hjun, oj, hoj, hall⟩ := mem_ready.1 hj
      have hnot : ∀ e ∈ oj.after, Region.binds .any e = true → e.on ≠ i := fun e he hb heq => by
        have h1 := hall e he hb
        rw [heq, getD_both hun] at h1
        cases h1
      have h2 := wpOpIn_putIf (hnd j oj hoj) hoj (hfree j oj hoj hji hjun hnot) (fun cs b => hsel i oi cs b hi) (fun cs b => hsel j oj cs b hoj) hQ hy h1
      have hfree' : ∀ k ok, ops[k]? = some ok → k ≠ i → (listed.setIfInBounds j true).getD k true = false →
          (∀ e ∈ ok.after, Region.binds .any e = true → e.on ≠ i) → oi.apart ops ok = true := fun k ok hk hki hun hno => by
        refine hfree k ok hk hki ?_ hno
        by_cases hjk : j = k
        · subst hjk; exact hjun
        · rw [getD_set_ne true hjk] at hun; exact hun
      refine wpOpIn_mono (fun a' w' h3 => ⟨h3.2.1, ih (listed.setIfInBounds j true) a' w' (inv.set hj hjn) hfree' (ready_mono hr (Ne.symm hji)) h3.1 h3.2.1 ?_⟩) h2
      rw [Array.setIfInBounds_comm _ _ hji]
      exact h3.2.2

/-- A plan's step: number i, taken first (true) or run because nothing else may come up (false). -/
def planOk (ops : Array Oper) (nh : Nat) : List (Nat × Bool) → Array Bool → Bool
  | [], listed => Region.seqB .any ops (ops.size - nh) nh listed
  | (i, true) :: r, listed => Nat.blt i nh && (Region.ready .any ops listed).contains i && Region.free .any ops listed i && planOk ops nh r (listed.setIfInBounds i true)
  | (i, false) :: r, listed => Nat.blt i nh && decide (Region.ready .any ops listed = [i]) && planOk ops nh r (listed.setIfInBounds i true)
/-- Everything that is asked of a drawn region's text. -/
def drawOk (ops : Array Oper) (nh : Nat) (pl : List (Nat × Bool)) : Bool :=
  noDefers ops && Region.noSelect ops && tailB ops nh && decide (pl.length + (ops.size - nh) = ops.size) && planOk ops nh pl (Array.replicate ops.size false)
end

section
variable {P : Program} {n : NM} {w0 : Base} {X0 X XS : PMap} {own ownS : Own} {env : Env} {ops : Array Oper} {Q : Exit → Act → World → Prop} {nh : Nat} {ro : Option Nat}

/-- What stands behind the head: the tail, in the text's order. -/
def tailL (ro : Option Nat) (P : Program) (ops : Array Oper) (Q : Exit → Act → World → Prop) (nh : Nat) (listed : Array Bool) (a : Act) (w : World) : Prop :=
  Region.seqB .any ops (ops.size - nh) nh listed = true ∧ wpListIn (FR ro) DEP P ops Q (ops.toList.drop nh) a w

def SD (ro : Option Nat) (P : Program) (n : NM) (w0 : Base) (X0 : PMap) (ops : Array Oper) (Q : Exit → Act → World → Prop) (nh : Nat) (ownS : Own) (XS : PMap) (pl : List (Nat × Bool)) (env : Env) (own : Own) (X : PMap) : Prop :=
  ∀ (listed : Array Bool) a W, Region.noSelect ops = true → noDefers ops = true → TailWaits ops nh → HeadInv .any ops nh listed → planOk ops nh pl listed = true →
    EOk n env a → Sat w0 X0 own X W → Stab ownS XS W → hdAny ro P ops Q (Stab ownS XS) nh (tailL ro P ops Q nh) pl.length listed a W

theorem SD.nil (h : SL ro P n w0 X0 ops Q (ops.toList.drop nh) env own X) : SD ro P n w0 X0 ops Q nh ownS XS [] env own X :=
  fun _ a W _ _ _ _ hp ha hs _ => ⟨hp, h a W ha hs⟩

theorem tail_done {listed : Array Bool} {a : Act} {w : World} (h : tailL ro P ops Q nh listed a w) : ∀ j ∈ Region.ready .any ops listed, nh ≤ j := seqB_ready h.1

/-- An operation that only reads is taken. -/
theorem SD.take {i : Nat} {pl : List (Nat × Bool)} {d : Option Tmp} {op : Op} {ty : TypeId} {pos : String} {af : Array Edge} {g : Option (Nat × Bool)} {v : Value} (hi : ops[i]? = some ⟨d, op, ty, pos, af, g⟩)
    (hQ : ∀ c a w, Q (.panic c) (a.put d v) w → Q (.panic c) a w)
    (h : OpY P n env ownS XS op v) (hg : gwant ops env g = some true) (hd : dok n d = true) (h' : SD ro P n w0 X0 ops Q nh ownS XS pl (eput env d v) own X) : SD ro P n w0 X0 ops Q nh ownS XS ((i, true) :: pl) env own X := by
  intro listed a W hns hnd ht inv hp ha hs hst
  simp only [planOk, Bool.and_eq_true] at hp
  obtain ⟨⟨⟨hin, hr⟩, hf⟩, hp⟩ := hp
  have hin' : i < nh := Nat.le_of_ble_eq_true hin
  have hr' : i ∈ Region.ready .any ops listed := by simpa using hr
  refine hd_first hi (Region.noSelect_spec hns) (noDefers_spec hnd) ht hin' hQ (fun _ _ _ h => tail_done h) _ listed a W inv (Region.free_spec hi hf) hr' (.inl ⟨gwant_spec ha hg, fun w hw => h a w _ rfl ha hw⟩) hst ?_
  exact h' _ _ _ hns hnd ht (inv.set hr' hin') hp (ha.eput hd v) hs hst
/-- An operation that does not run is taken. -/
theorem SD.skip {i : Nat} {pl : List (Nat × Bool)} {d : Option Tmp} {op : Op} {ty : TypeId} {pos : String} {af : Array Edge} {g : Option (Nat × Bool)} (hi : ops[i]? = some ⟨d, op, ty, pos, af, g⟩)
    (hQ : ∀ c a w, Q (.panic c) (a.put d undef) w → Q (.panic c) a w)
    (hg : gwant ops env g = some false) (hd : dok n d = true) (h' : SD ro P n w0 X0 ops Q nh ownS XS pl (eput env d undef) own X) : SD ro P n w0 X0 ops Q nh ownS XS ((i, true) :: pl) env own X := by
  intro listed a W hns hnd ht inv hp ha hs hst
  simp only [planOk, Bool.and_eq_true] at hp
  obtain ⟨⟨⟨hin, hr⟩, hf⟩, hp⟩ := hp
  have hin' : i < nh := Nat.le_of_ble_eq_true hin
  have hr' : i ∈ Region.ready .any ops listed := by simpa using hr
  refine hd_first hi (Region.noSelect_spec hns) (noDefers_spec hnd) ht hin' hQ (fun _ _ _ h => tail_done h) _ listed a W inv (Region.free_spec hi hf) hr' (.inr ⟨gwant_spec ha hg, rfl⟩) hst ?_
  exact h' _ _ _ hns hnd ht (inv.set hr' hin') hp (ha.eput hd _) hs hst
/-- An operation that makes memory, or a call, is run: nothing else may come up. -/
theorem SD.run {i : Nat} {pl : List (Nat × Bool)} {d : Option Tmp} {op : Op} {ty : TypeId} {pos : String} {af : Array Edge} {g : Option (Nat × Bool)} {k : Value → Own → PMap → Prop} (hi : ops[i]? = some ⟨d, op, ty, pos, af, g⟩)
    (h : OpX P n w0 X0 env own X op true k) (hg : gwant ops env g = some true) (hd : dok n d = true) (h' : ∀ v own' X', k v own' X' → SD ro P n w0 X0 ops Q nh ownS XS pl (eput env d v) own' X') : SD ro P n w0 X0 ops Q nh ownS XS ((i, false) :: pl) env own X := by
  intro listed a W hns hnd ht inv hp ha hs hst
  simp only [planOk, Bool.and_eq_true, decide_eq_true_eq] at hp
  obtain ⟨⟨hin, hr⟩, hp⟩ := hp
  have hin' : i < nh := Nat.le_of_ble_eq_true hin
  have hr' : i ∈ Region.ready .any ops listed := by rw [hr]; simp
  refine ⟨by rw [hr]; simp, fun j hj => ?_⟩
  rw [hr] at hj
  have hji : j = i := by simpa using hj
  subst hji
  refine ⟨hin', ?_⟩
  unfold wpOpIn
  simp only [hi]
  rw [if_pos (gwant_spec ha hg)]
  refine h a W _ _ _ _ rfl ha hs fun v own' X' W' hk hs' hgr => ⟨hst.grow (hgr rfl), ?_⟩
  exact h' v own' X' hk _ _ _ hns hnd ht (inv.set hr' hin') hp (ha.eput hd v) hs' (hst.grow (hgr rfl))

/-- An operation that does not run is come to: nothing else may come up. -/
theorem SD.skipF {i : Nat} {pl : List (Nat × Bool)} {d : Option Tmp} {op : Op} {ty : TypeId} {pos : String} {af : Array Edge} {g : Option (Nat × Bool)} (hi : ops[i]? = some ⟨d, op, ty, pos, af, g⟩)
    (hg : gwant ops env g = some false) (hd : dok n d = true) (h' : SD ro P n w0 X0 ops Q nh ownS XS pl (eput env d undef) own X) : SD ro P n w0 X0 ops Q nh ownS XS ((i, false) :: pl) env own X := by
  intro listed a W hns hnd ht inv hp ha hs hst
  simp only [planOk, Bool.and_eq_true, decide_eq_true_eq] at hp
  obtain ⟨⟨hin, hr⟩, hp⟩ := hp
  have hin' : i < nh := Nat.le_of_ble_eq_true hin
  have hr' : i ∈ Region.ready .any ops listed := by rw [hr]; simp
  refine ⟨by rw [hr]; simp, fun j hj => ?_⟩
  rw [hr] at hj
  have hji : j = i := by simpa using hj
  subst hji
  refine ⟨hin', ?_⟩
  unfold wpOpIn
  simp only [hi]
  rw [if_neg (by rw [gwant_spec ha hg]; simp)]
  exact ⟨fun _ _ => trivial, hst, h' _ _ _ hns hnd ht (inv.set hr' hin') hp (ha.eput hd _) hs hst⟩
/-- An operation that changes blocks on which the others do not lean. -/
theorem SD.runK {i : Nat} {pl : List (Nat × Bool)} {d : Option Tmp} {op : Op} {ty : TypeId} {pos : String} {af : Array Edge} {g : Option (Nat × Bool)} {gr : Bool} {k : Value → Own → PMap → Prop} (hi : ops[i]? = some ⟨d, op, ty, pos, af, g⟩)
    (h : OpX P n w0 X0 env own X op gr k) (hkeep : ∀ v own' X', k v own' X' → (∀ p ∈ ownS, p ∈ own') ∧ XS.le X') (hg : gwant ops env g = some true) (hd : dok n d = true) (h' : ∀ v own' X', k v own' X' → SD ro P n w0 X0 ops Q nh ownS XS pl (eput env d v) own' X') : SD ro P n w0 X0 ops Q nh ownS XS ((i, false) :: pl) env own X := by
  intro listed a W hns hnd ht inv hp ha hs hst
  simp only [planOk, Bool.and_eq_true, decide_eq_true_eq] at hp
  obtain ⟨⟨hin, hr⟩, hp⟩ := hp
  have hin' : i < nh := Nat.le_of_ble_eq_true hin
  have hr' : i ∈ Region.ready .any ops listed := by rw [hr]; simp
  refine ⟨by rw [hr]; simp, fun j hj => ?_⟩
  rw [hr] at hj
  have hji : j = i := by simpa using hj
  subst hji
  refine ⟨hin', ?_⟩
  unfold wpOpIn
  simp only [hi]
  rw [if_pos (gwant_spec ha hg)]
  refine h a W _ _ _ _ rfl ha hs fun v own' X' W' hk hs' _ => ?_
  obtain ⟨h1, h2⟩ := hkeep v own' X' hk
  have hst' : Stab ownS XS W' := ⟨fun p hp => hs'.stab.own p (h1 p hp), fun q o hq => hs'.stab.pers q o (h2 q o hq)⟩
  exact ⟨hst', h' v own' X' hk _ _ _ hns hnd ht (inv.set hr' hin') hp (ha.eput hd v) hs' hst'⟩

theorem wpAnyIn_of_seq : ∀ (l : List Oper) (k : Nat) (listed : Array Bool) (a : Act) (w : World), (∀ j, l[j]? = ops[k + j]?) →
    Region.seqB .any ops l.length k listed = true → wpListIn (FR ro) DEP P ops Q l a w → wpAnyIn (FR ro) DEP P .any ops Q l.length listed a w
  | [], _, _, _, _, _, hB, h => ⟨by simpa [Region.seqB] using hB, h⟩
  | o :: l, k, listed, a, w, hl, hB, h => by
    have h0 : ops[k]? = some o := by simpa using (hl 0).symm
    simp only [List.length_cons, Region.seqB, Bool.and_eq_true, decide_eq_true_eq] at hB
    refine ⟨fun h1 => (by rw [hB.1] at h1; cases h1), fun i hi => ?_⟩
    rw [hB.1] at hi
    have hik : i = k := by simpa using hi
    subst hik
    have hw : wpOpIn (FR ro) DEP P ops Q i (wpListIn (FR ro) DEP P ops Q l) a w := by unfold wpOpIn; simp only [h0]; exact h
    exact wpOpIn_mono (fun a' w' h' => wpAnyIn_of_seq l (i + 1) _ a' w' (fun j => by have := hl (j + 1); simpa [Nat.add_assoc, Nat.add_comm 1 j] using this) hB.2 h') hw

/-- THE BEGINNING. -/
theorem SD.start {id : Nat} {a : Act} {W : World} (hm : P.follows .mixedOrders = true) (pl : List (Nat × Bool)) (hok : drawOk ops nh pl = true) (ha : EOk n env a) (hs : Sat w0 X0 own X W)
    (hS : ∀ p ∈ ownS, p ∈ own) (h : SD ro P n w0 X0 ops Q nh ownS X pl env own X) : (Code.region id ops true).wpIn (FR ro) DEP P Q a W := by
  simp only [drawOk, Bool.and_eq_true, decide_eq_true_eq] at hok
  obtain ⟨⟨⟨⟨hnd, hns⟩, htb⟩, hlen⟩, hp⟩ := hok
  refine wpIn_region_any hm ?_
  have hs' := hs.draw (W.drawn + 1)
  have inv : HeadInv .any ops nh (Array.replicate ops.size false) := ⟨by simp, (fun j oj _ hl => by rw [getD_replicate_false] at hl; cases hl), (fun t _ ht => by simp [ht])⟩
  have h1 := h (Array.replicate ops.size false) a _ hns hnd (tailWaits_of htb) inv hp ha hs' ⟨fun p hp => hs'.stab.own p (hS p hp), hs'.stab.pers⟩
  have hsz : ops.size - nh = (ops.toList.drop nh).length := by simp
  have h2 := wpAny_of_hd (g := ops.size - nh) (fun listed a w (hL : tailL ro P ops Q nh listed a w) => by
    have := wpAnyIn_of_seq (P := P) (ops := ops) (Q := Q) (ro := ro) (ops.toList.drop nh) nh listed a w (fun j => by simp) (by rw [← hsz]; exact hL.1) hL.2
    rw [hsz]; exact this) _ _ _ _ h1
  rw [hlen] at h2
  exact h2
end
end Go.Proofs.YtoheffglppbcbaaDoor
