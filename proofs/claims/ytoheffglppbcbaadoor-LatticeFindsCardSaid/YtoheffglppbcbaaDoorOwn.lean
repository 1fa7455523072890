/- THE ENGINE: contracts of functions that hand over blocks of their own. No program is named here. -/
import Derived.Test.YtoheffglppbcbaaDoorGrow
import Derived.Test.YtoheffglppbcbaaDoorSeq
namespace Go.Proofs.YtoheffglppbcbaaDoor
open Go.RowKit

/-- What a call leaves that hands over blocks. -/
def FinO (w0 : World) (X0 : PMap) (Φ : Value → Own → PMap → Prop) (e : Ending) (w' : World) : Prop :=
  ∃ v own X', e = .returned v ∧ SatC w0 X0 own X' w' ∧ Φ v own X'
def SpecO (P : Program) (f : FuncId) (args : List Value) (X0 : PMap) (Φ : Value → Own → PMap → Prop) : Prop := ∀ w, PIn X0 w → Calls P f args.toArray w (FinO w X0 Φ)
theorem SpecO.enter {P : Program} {f : FuncId} {fn : Func} {c : Code} {args : List Value} {X0 : PMap} {Φ : Value → Own → PMap → Prop} (hf : P.funcs[f]? = some fn) (hb : fn.body = some c) {n : Nat} (hn : fn.ntmps = n) (hl : Nat.ble args.length n = true)
    (h : ∀ w, PIn X0 w → T none P ⟨n, []⟩ ⟨w, []⟩ X0 (bodyQ P fn (FinO w X0 Φ)) [.code c] none (argEnv 0 args) [] X0) : SpecO P f args X0 Φ := fun w hw => Calls.enter hf hb hn hl hw (h w hw)
theorem Sat.callO {w0 : Base} {X0 : PMap} {own own1 : Own} {X X' : PMap} {W W' : World} (h : Sat w0 X0 own X W) (h1 : SatC W X own1 X' W') : Sat w0 X0 (own1 ++ own) X' W' := by
  have hg := Grow.of_below h1.below
  refine ⟨⟨h.below.trans (h1.below.mono h.below.size), fun k hk => (h1.old k (Nat.lt_of_lt_of_le hk h.below.size)).trans (h.old k hk), ⟨fun p hp => ?_, h1.stab.pers⟩, fun p hp => ?_, fun p hp => ?_, ?_⟩, fun p hp => ?_⟩
  · rcases List.mem_append.1 hp with hp | hp
    · exact h1.stab.own p hp
    · exact hg.ow (h.stab.own p hp)
  · rcases List.mem_append.1 hp with hp | hp
    · exact Nat.le_trans h.below.size (h1.new p hp)
    · exact h.new p hp
  · rcases List.mem_append.1 hp with hp | hp
    · exact h1.apart p hp
    · exact (h1.old _ (h.stab.own p hp).lt).trans (h.apart p hp)
  · refine List.pairwise_append.2 ⟨h1.nodup, h.nodup, fun a ha b hb => ?_⟩
    have := h1.new a ha
    have := (h.stab.own b hb).lt
    omega
  · obtain ⟨g1, g2, g3, g4⟩ := h.res p hp
    refine ⟨(hg.same _ (get_lt g1)).trans g1, (h1.old _ (get_lt g1)).trans g2, fun q hq => ?_, g4⟩
    rcases List.mem_append.1 hq with hq | hq
    · have := h1.new q hq
      have := get_lt g1
      omega
    · exact g3 q hq

section
variable {ro : Option Nat} {P : Program} {n : NM} {w0 : Base} {X0 X : PMap} {own : Own} {env : Env}
theorem op_callO {f : FuncId} {xs : Array Operand} {ts : Array TypeId} {vs : List Value} {Φ : Value → Own → PMap → Prop} (he : Enters P f) (hx : xs.toList.map (eev env) = vs.map some)
    (h : SpecO P f vs X Φ) : OpX P n w0 X0 env own X (.call { callee := .value (.func f), args := xs, argTypes := ts }) true fun v own' X' => ∃ own1, own' = own1 ++ own ∧ X.le X' ∧ Φ v own1 X' := by
  intro a W oper K Q ro hop ha hs hK
  have all : ∀ (xs : List Operand) (vs : List Value), xs.map (eev env) = vs.map some → xs.map a.eval = vs := by
    intro xs
    induction xs with
    | nil => intro vs h; cases vs <;> simp_all
    | cons x xs ih =>
      intro vs h
      cases vs with
      | nil => simp at h
      | cons v vs =>
        simp only [List.map_cons, List.cons.injEq] at h
        simp [ha.eval h.1, ih vs h.2]
  have h1 : xs.map a.eval = vs.toArray := by apply Array.toList_inj.1; simp [all _ _ hx]
  have hex : (execOp a.eval oper).run P W = .ok (.enter f vs.toArray) W := by
    have hc : a.eval (.func f) = .func (.func f) #[] #[] := ha.eval rfl
    simp only [execOp, hop, resolve, hc, h1, Deferred.ofValue, invoke, Sem.run_bind, Sem.run_pure, Result.andThen_ok]
    simpa using he vs.toArray W
  refine wp_enters (noDefer_spec (by rw [hop]; rfl)) hex ((h W hs.stab.pers).mono fun e w' hfin => ?_)
  obtain ⟨v, own1, X', rfl, hc, hΦ⟩ := hfin
  refine ⟨v, rfl, ?_⟩
  exact hK v _ X' w' ⟨own1, rfl, fun q o hq => (hc.old q (hs.stab.pers.lt hq)).trans hq, hΦ⟩ (hs.callO hc) fun _ => Grow.of_below hc.below
variable {fn : Func} {Φ : Value → Own → PMap → Prop}
theorem T.retO {w : World} {v : Value} {k : List It} {s : Nat} (hr : ∀ a W, EOk ⟨s, []⟩ env a → Stab own X W → (results fn a.tmps).run P W = .ok v W) (hΦ : Φ v own X) : T ro P ⟨s, []⟩ ⟨w, []⟩ X0 (bodyQ P fn (FinO w X0 Φ)) (.code .ret :: k) none env own X :=
  fun a W ha hs => runL_ret (by
    show LeavesInM (FR none) DEP P fn a.tmps _ a.defers .returning W
    rw [ha.defers]
    exact ⟨v, hr a W ha hs.stab, v, own, X, rfl, hs.toSatC, hΦ⟩)
theorem T.retO1 {w : World} {k : List It} {s : Nat} {r : ResultVar} {v : Value} (hr : fn.results = #[r]) (h : ResIs P env own r v) (hΦ : Φ v own X) : T ro P ⟨s, []⟩ ⟨w, []⟩ X0 (bodyQ P fn (FinO w X0 Φ)) (.code .ret :: k) none env own X := T.retO (fun _ _ ha hs => run_results1 hr h ha hs) hΦ
theorem T.retO2 {w : World} {k : List It} {s : Nat} {r r' : ResultVar} {v v' : Value} (hr : fn.results = #[r, r']) (h : ResIs P env own r v) (h' : ResIs P env own r' v') (hΦ : Φ (.tuple #[v, v']) own X) : T ro P ⟨s, []⟩ ⟨w, []⟩ X0 (bodyQ P fn (FinO w X0 Φ)) (.code .ret :: k) none env own X := T.retO (fun _ _ ha hs => run_results2 hr h h' ha hs) hΦ

theorem T.retOS1 {w : World} {k : List It} {s : Nat} {r : ResultVar} {v : Value} {own' : Own} (hr : fn.results = #[r]) (h : ResIs P env own r v) (hsub : own'.Sublist own) (hΦ : Φ v own' X) : T ro P ⟨s, []⟩ ⟨w, []⟩ X0 (bodyQ P fn (FinO w X0 Φ)) (.code .ret :: k) none env own X :=
  fun a W ha hs => runL_ret (by
    show LeavesInM (FR none) DEP P fn a.tmps _ a.defers .returning W
    rw [ha.defers]
    exact ⟨v, run_results1 hr h ha hs.stab, v, own', X, rfl, (hs.sub hsub).toSatC, hΦ⟩)
theorem T.perm {Q : Exit → Act → World → Prop} {k : List It} {e : Option Nat} {own' : Own} (hp : own.Perm own') (h : T ro P n w0 X0 Q k e env own' X) : T ro P n w0 X0 Q k e env own X := fun a W ha hs => h a W ha (hs.perm hp)
theorem SL.perm {ops : Array Oper} {Q : Exit → Act → World → Prop} {l : List Oper} {own' : Own} (hp : own.Perm own') (h : SL ro P n w0 X0 ops Q l env own' X) : SL ro P n w0 X0 ops Q l env own X := fun a W ha hs => h a W ha (hs.perm hp)
theorem perm3 {a b c : Ow} {R G : Own} : (a :: b :: c :: (R ++ G)).Perm (b :: c :: ((R ++ [a]) ++ G)) := by
  have p1 : (a :: (R ++ G)).Perm ((R ++ [a]) ++ G) := by simpa using (List.perm_middle (a := a) (l₁ := R) (l₂ := G)).symm
  exact ((List.Perm.swap b a _).trans (List.Perm.cons b (List.Perm.swap c a _))).trans ((p1.cons c).cons b)
theorem AtO.of_get : ∀ {l : Own} {j b sz : Nat} {cs : List Value} {ty : TypeId}, l[j]? = some ⟨b, cs, ty, sz⟩ → AtO l b cs ty sz j
  | [], _, _, _, _, _, h => by simp at h
  | o :: l, 0, _, _, _, _, h => by
    simp at h
    subst h
    exact AtO.here
  | o :: l, j + 1, _, _, _, _, h => AtO.there (AtO.of_get (by simpa using h))
theorem Sat.pubList {own0 : Own} {W : World} : ∀ (R : Own) (X : PMap), Sat w0 X0 (R ++ own0) X W → ∃ X', X.le X' ∧ (∀ p ∈ R, Blk X' p.b p.cs) ∧ Sat w0 X0 own0 X' W
  | [], X, h => ⟨X, PMap.le_refl X, (fun p hp => by cases hp), h⟩
  | ⟨b, cs, ty, sz⟩ :: R, X, h => by
    obtain ⟨X1, h1, h2, _, h4⟩ := h.pub (AtO.here (l := R ++ own0))
    obtain ⟨X2, g1, g2, g3⟩ := Sat.pubList R X1 h4
    refine ⟨X2, PMap.le_trans h1 g1, fun p hp => ?_, g3⟩
    rcases List.mem_cons.1 hp with rfl | hp
    · exact h2.mono g1
    · exact g2 p hp
theorem T.pubList {Q : Exit → Act → World → Prop} {k : List It} {e : Option Nat} {R own0 : Own} (h : ∀ X', X.le X' → (∀ p ∈ R, Blk X' p.b p.cs) → T ro P n w0 X0 Q k e env own0 X') : T ro P n w0 X0 Q k e env (R ++ own0) X := by
  intro a W ha hs
  obtain ⟨X', h1, h2, h3⟩ := Sat.pubList R X hs
  exact h X' h1 h2 a W ha h3
/-- make([]T, l, c) of whatever size an element has. -/
theorem op_makeR {t e : TypeId} {x y : Operand} {bytes l c size : Nat} {kl kc : IntKind} {zs : List Value} (ht : P.underlying t = some (.slice e)) (he : ∃ i z, P.info? e = some i ∧ i.size = size ∧ i.bytes = bytes ∧ i.zero = some z ∧ z.cells = zs.toArray) (hzs : zs.length = size)
    (hx : eev env x = some (.int kl (l : Int))) (hy : eev env y = some (.int kc (c : Int))) (hlc : l ≤ c) (hb : bytes * c ≤ 140737488355328) (hc : c ≤ 9223372036854775807) :
    OpX P n w0 X0 env own X (.makeSlice t x y) true fun v own' X' => ∃ b, v = .slice (some ⟨b, 0, none⟩) l c ∧ own' = ⟨b, (List.replicate l zs).flatten, e, c * size⟩ :: own ∧ X = X' := by
  intro a W oper K Q ro hop ha hs hK
  obtain ⟨i, z, h1, h2, h3, h4, h5⟩ := he
  have hbi : (i.bytes : Int) * (c : Int) ≤ 281474976710656 := by
    have : ((i.bytes * c : Nat) : Int) ≤ 281474976710656 := by rw [h3]; omega
    rwa [Int.natCast_mul] at this
  have hr := run_make (P := P) W t e i z ht h1 h4 kl kc (l : Int) (c : Int) (by omega) (by omega) hbi (by omega)
  have hmc : madeCells zs.toArray (c * size) = (List.replicate c zs).flatten.toArray := by
    have := rep_cells zs c
    rw [hzs] at this
    rw [← this]
    apply Array.toList_inj.1
    simp [madeCells, hzs]
  simp only [Int.toNat_natCast, h2, h5, hmc] at hr
  refine wp_value (v := .slice (some ⟨W.heap.size, 0, none⟩) l c) (W' := W.alloc (.cells (List.replicate c zs).flatten.toArray e)) (noDefer_spec (by rw [hop]; rfl)) ?_ (hK _ (⟨W.heap.size, (List.replicate l zs).flatten, e, c * size⟩ :: own) X _ ⟨_, rfl, rfl, rfl⟩ ?_ fun _ => Grow.alloc W _)
  · simp [execOp, hop, ha.eval hx, ha.eval hy, hr]
  · have h1 := hs.alloc (List.replicate c zs).flatten e
    have e1 : (List.replicate c zs).flatten = (List.replicate l zs).flatten ++ (List.replicate (c - l) zs).flatten := by
      rw [← List.flatten_append, List.replicate_append_replicate]; congr 2; omega
    have e2 : (List.replicate c zs).flatten.length = c * size := by simp [hzs]
    rw [e2] at h1
    rw [show (⟨W.heap.size, (List.replicate c zs).flatten, e, c * size⟩ : Ow) = ⟨W.heap.size, (List.replicate l zs).flatten ++ (List.replicate (c - l) zs).flatten, e, c * size⟩ by rw [← e1]] at h1
    exact h1.forget
theorem mr_of {e : TypeId} {size bytes : Nat} {zs : List Value} (h : (P.info? e).map (fun i => (i.size, i.bytes, i.zero.map fun z => z.cells)) = some (size, bytes, some zs.toArray)) : ∃ i z, P.info? e = some i ∧ i.size = size ∧ i.bytes = bytes ∧ i.zero = some z ∧ z.cells = zs.toArray := by
  cases hi : P.info? e with
  | none => simp [hi] at h
  | some i =>
    cases hz : i.zero with
    | none => simp [hi, hz] at h
    | some z =>
      simp only [hi, Option.map_some, hz, Option.some.injEq, Prod.mk.injEq] at h
      exact ⟨i, z, rfl, h.1, h.2.1, hz, h.2.2⟩
end
end Go.Proofs.YtoheffglppbcbaaDoor
