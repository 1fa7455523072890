/- What the law's proof rests on: the engine, a small separation logic over the kit's walk, and contracts of the functions that the law reaches. Part 3. -/
import Derived.Laws.Strings
import Derived.Lib.Overlaps
import Derived.Lib.AppendZerosOnto
import Derived.Test.YtmfiencoefbjfaaGreatDoorPart1
import Derived.Test.YtmfiencoefbjfaaGreatDoorPart2
namespace Go.Proofs.YtmfiencoefbjfaaGreatDoor
open Go.RowKit
def resOf (D : Nat) : Nat × Obj := (D, MarkObj)
section
variable {P : Program} {w : World} {X0 X : PMap} {own : Own} {env : Env} {Q : Exit → Act → World → Prop}
theorem T.rangeFuncD {g : Operand} {p d : Tmp} {id : Nat} {ty : TypeId} {pos : String} {af : Array Edge} {body : Code} {k : List It} {gf : Nat} {lb : List Value} {xs : List Value} {s : Nat} {Ds : List Nat} (hnd : Ds.Nodup)
    (hg : eev env g = some (.func (.func gf) #[] lb.toArray)) (hE : Enters P gf) (hp : Nat.blt p s = true) (hd : Nat.blt d s = true) (hseq : Seq P gf lb xs X)
    (I : Nat → Own → PMap → Prop) (h0 : I 0 own X) (hX : ∀ i own' X', I i own' X' → X.le X')
    (round : ∀ i x own' X' l r D, xs[i]? = some x → I i own' X' → T (some l) P ⟨s, []⟩ ⟨w, (l, r) :: (D, MarkObj) :: Ds.map resOf⟩ X0 (RQ w ((l, r) :: (D, MarkObj) :: Ds.map resOf) X0 I (i + 1)) [.code body] none ((d, x) :: (p, x) :: env) own' X')
    (rest : ∀ D own' X', (D :: Ds).Nodup → I xs.length own' X' → T none P ⟨s, (D :: Ds).map markOf⟩ ⟨w, (D :: Ds).map resOf⟩ X0 Q k none env own' X') :
    T none P ⟨s, Ds.map markOf⟩ ⟨w, Ds.map resOf⟩ X0 Q (.code (.rangeFunc g #[p] (.region id #[⟨some d, .assign (.tmp p), ty, pos, af, none⟩] false) body) :: k) none env own X := by
  intro a W ha hs
  have hnew : (W.heap.size :: Ds).Nodup := List.nodup_cons.2 ⟨fun hm => by
    have := get_lt (hs.res (W.heap.size, MarkObj) (List.mem_map.2 ⟨_, hm, rfl⟩)).1
    omega, hnd⟩
  refine runL_code (Go.wpIn_rangeFunc ?_)
  intro fn hfn
  obtain ⟨asg, hasg⟩ : ∃ c, c = Code.region id #[⟨some d, .assign (.tmp p), ty, pos, af, none⟩] false := ⟨_, rfl⟩
  rw [← hasg]
  obtain ⟨rec, hrec⟩ : ∃ rec : LoopState → Loop, rec = fun st => { state := st, pending := none, fn, tmps := a.tmps, params := #[p], assign := asg, body, defers := W.heap.size } := ⟨_, rfl⟩
  have hs1 := (hs.hold MarkObj).hold (.loop (rec .ready))
  have hsz : (W.alloc MarkObj).heap.size = W.heap.size + 1 := by simp
  rw [hsz] at hs1
  have hfar : ∀ q ∈ ((W.heap.size, MarkObj) :: Ds.map resOf), q.1 ≠ W.heap.size + 1 := fun q hq => by
    rcases List.mem_cons.1 hq with rfl | hq
    · simp
    · have := get_lt (hs.res q hq).1
      omega
  have hev : a.eval g = .func (.func gf) #[] lb.toArray := ha.eval hg
  refine ⟨W.heap.size + 1, [markOf W.heap.size], (W.alloc MarkObj).alloc (.loop (rec .ready)), { target := .fn (.func gf) lb.toArray, args := #[.func (.yield (W.heap.size + 1)) #[] #[]] }, (W.alloc MarkObj).alloc (.loop (rec .ready)), gf,
    (Value.func (.yield (W.heap.size + 1)) #[] #[] :: lb).toArray, (W.alloc MarkObj).alloc (.loop (rec .ready)), ?_, ?_, fun _ _ => trivial, ?_, (fun h => by cases h), ?_⟩
  · rw [hrec]; exact run_enterLoop_outer _ _ _ _ _
  · simp only [resolve, hev]
    simp [go_sem]
  · have := hE (Value.func (.yield (W.heap.size + 1)) #[] #[] :: lb).toArray ((W.alloc MarkObj).alloc (.loop (rec .ready)))
    simp [invoke, go_sem, this]
  · refine fr_calls.2 ((hseq (W.heap.size + 1) (fun i A => ∃ own' X', I i own' X' ∧ Sat ⟨w, (W.heap.size + 1, .loop (rec .ready)) :: (W.heap.size, MarkObj) :: Ds.map resOf⟩ X0 own' X' A) _ ?_ ?_ ?_ ⟨own, X, h0, hs1⟩).mono ?_)
    · rintro i A B ⟨own', X', hI, hA⟩ hb
      exact ⟨own', X', hI, hA.call hb ((Grow.of_below hb).pin hA.stab.pers) fun _ _ => rfl⟩
    · rintro i A ⟨own', X', hI, hA⟩ k o hk
      exact hA.stab.pers k o (hX i own' X' hI k o hk)
    · rintro i x A ⟨own', X', hI, hA⟩ hx
      have hl := (hA.res (W.heap.size + 1, .loop (rec .ready)) (by simp)).1
      have hy := run_yield (P := P) (args := #[x]) hl (by rw [hrec]; rfl)
      refine ⟨_, _, _, _, hy, roundIn_of_wpIn trivial ?_⟩
      have hps : (rec .ready).params = #[p] := by rw [hrec]
      have htm : (rec .ready).tmps = a.tmps := by rw [hrec]
      have has : (rec .ready).assign = asg := by rw [hrec]
      have hbd : (rec .ready).body = body := by rw [hrec]
      rw [hps, htm, has, hbd]
      have hz : ∀ F : Array Value → Tmp × Value → Array Value, (#[p].zip #[x]).foldl F a.tmps = F a.tmps (p, x) := fun F => by simp
      rw [hz]
      have he : EOk ⟨s, []⟩ ((p, x) :: env) { tmps := a.tmps.setIfInBounds p x, defers := [] } := by
        have h1 : EOk ⟨s, []⟩ env { tmps := a.tmps, defers := [] } := ⟨rfl, ha.size, ha.get⟩
        exact h1.put hp x
      have hAs : T (some (W.heap.size + 1)) P ⟨s, []⟩ ⟨w, (W.heap.size + 1, .loop (rec .ready)) :: (W.heap.size, MarkObj) :: Ds.map resOf⟩ X0 (fun e a W2 => match e with
          | .normal => EOk ⟨s, []⟩ ((d, x) :: (p, x) :: env) a ∧ Sat ⟨w, (W.heap.size + 1, .loop (rec .ready)) :: (W.heap.size, MarkObj) :: Ds.map resOf⟩ X0 own' X' W2
          | _ => False) [.code asg] none ((p, x) :: env) own' X' := by
        rw [hasg]
        refine T.region (ops := [_]) (SL.y (op_assign (v := x) ?_) rfl ?_ ?_)
        · simp [eev, eget]
        · simp [dok, noDefer]; exact Nat.le_of_ble_eq_true hd
        · exact fun a W2 ha hs => ⟨ha, hs⟩
      have hw := runL_code_iff.1 (hAs _ A he hA)
      refine wpIn_dep (m := DEP) (Code.wpIn_mono (fun e a2 W2 h => ?_) hw)
      cases e with
      | normal =>
        obtain ⟨ha2, hs2⟩ := h
        have hl2 := (hs2.res (W.heap.size + 1, .loop (rec .ready)) (by simp)).1
        refine ⟨_, run_beginRound hl2 (by rw [hrec]), ?_⟩
        have hs3 := hs2.putRes hfar (.loop { rec .ready with state := .busy })
        have hb := runL_code_iff.1 (round i x own' X' _ _ _ hx hI a2 _ ha2 hs3)
        refine wpIn_dep (m := DEP) (Code.wpIn_mono (fun e a4 W4 h => ?_) hb)
        cases e with
        | normal =>
          obtain ⟨own4, X4, hI4, hs4⟩ := h
          have hl4 := (hs4.res (W.heap.size + 1, .loop { rec .ready with state := .busy }) (by simp)).1
          refine ⟨_, _, run_endRound none hl4, rfl, own4, X4, hI4, ?_⟩
          have := hs4.putRes hfar (.loop (rec .ready))
          have e2 : ({ { rec .ready with state := .busy } with state := (if (none : Option Code).isNone then .ready else .done), pending := none } : Loop) = rec .ready := by rw [hrec]; rfl
          rw [e2]
          exact this
        | _ => exact h.elim
      | _ => exact h.elim
    · rintro e B ⟨⟨v, rfl⟩, own', X', hI, hB⟩
      have hl := (hB.res (W.heap.size + 1, .loop (rec .ready)) (by simp)).1
      have e3 : ({ rec .ready with state := .exhausted } : Loop) = rec .exhausted := by rw [hrec]
      have e4 : (rec .ready).pending = none := by rw [hrec]
      refine ⟨none, B.putObj (W.heap.size + 1) (.loop (rec .exhausted)), ?_, ?_⟩
      · have := run_endLoop (P := P) hl (by rw [hrec]; simp)
        rw [e3, e4] at this
        exact this
      have hs5 := (hB.putRes hfar (.loop (rec .exhausted))).drop
      have hr := rest W.heap.size own' X' hnew hI { a with defers := [markOf W.heap.size] ++ a.defers } _ ⟨by simp [ha.defers], ha.size, ha.get⟩ hs5
      exact hr


def backToD (s : Nat) (w : World) (X0 : PMap) (I : Fam) (m : Nat) : It := .cut fun a W => ∃ m', m' < m ∧ ∃ Ds : List Nat, Ds.Nodup ∧ Fam.at ⟨s, Ds.map markOf⟩ ⟨w, Ds.map resOf⟩ X0 I m' a W
/-- A loop whose rounds may leave marks. -/
theorem T.loopD {c : Code} {k : List It} {s : Nat} {Ds : List Nat} (hnd : Ds.Nodup) (I : Fam) (m : Nat) {env' : Env} (h0 : I m env' own X) (hw : Sub env env')
    (round : ∀ Ds : List Nat, Ds.Nodup → ∀ m env own X, I m env own X → T none P ⟨s, Ds.map markOf⟩ ⟨w, Ds.map resOf⟩ X0 Q (.code c :: backToD s w X0 I m :: k) none env own X) : T none P ⟨s, Ds.map markOf⟩ ⟨w, Ds.map resOf⟩ X0 Q (.code (.loop c) :: k) none env own X := by
  refine T.weaken hw.get ?_
  intro a W ha hs
  refine runL_code (loop_ghost (fun m a W => ∃ Ds : List Nat, Ds.Nodup ∧ Fam.at ⟨s, Ds.map markOf⟩ ⟨w, Ds.map resOf⟩ X0 I m a W) ?_ m a W ⟨Ds, hnd, env', own, X, h0, ha, hs⟩)
  rintro m a W ⟨Ds, hnd, env, own, X, hI, ha, hs⟩
  refine Code.wpIn_mono (fun e a w h => ?_) (runL_code_iff.1 (round Ds hnd m env own X hI a W ha hs))
  cases e with
  | normal => exact h
  | exit id => exact h
  | _ => exact h
theorem T.backD {I : Fam} {m s : Nat} {Ds : List Nat} {k : List It} (hnd : Ds.Nodup) (m' : Nat) (hm : m' < m) {env' : Env} (hI : I m' env' own X) (hw : Sub env env') : T none P ⟨s, Ds.map markOf⟩ ⟨w, Ds.map resOf⟩ X0 Q (backToD s w X0 I m :: k) none env own X :=
  fun _ _ ha hs => ⟨m', hm, Ds, hnd, env', own, X, hI, ha.weaken hw.get, hs⟩
/-- The marks are taken; own blocks stay. -/
theorem leave_own {n : NM} {w0 : Base} {fn : Func} {R : Ending → World → Prop} {v : Value} (hM : Marks n w0) {a : Act} {W : World} (ha : EOk n env a) (hs : Sat w0 X0 own X W) (hr : ∀ W, Stab own X W → (results fn a.tmps).run P W = .ok v W)
    (hR : ∀ W', SatC w0.w X0 own X W' → R (.returned v) W') : LeavesInM (FR none) DEP P fn a.tmps R a.defers .returning W := by
  obtain ⟨Ds, h1, h2, h3⟩ := hM
  rw [ha.defers, h1]
  have hres : ∀ D ∈ Ds, W.heap[D]? = some MarkObj ∧ X D = none ∧ (∀ q ∈ own, q.b ≠ D) ∧ w0.w.heap.size ≤ D := fun D hD => hs.res (D, MarkObj) (by rw [h2]; exact List.mem_map_of_mem hD)
  have hst : Stab own X (takes Ds W) := by
    refine ⟨fun p hp => ?_, fun k o hk => ?_⟩
    · obtain ⟨r, hr, hz⟩ := hs.stab.own p hp
      exact ⟨r, (takes_far Ds W p.b (fun hm => (hres _ hm).2.2.1 p hp rfl)).trans hr, hz⟩
    · refine (takes_far Ds W k (fun hm => ?_)).trans (hs.stab.pers k o hk)
      have := (hres _ hm).2.1
      rw [this] at hk; cases hk
  exact leaves_marks Ds W h3 (fun D hD => (hres D hD).1) ⟨v, hr _ hst, hR _ ⟨takes_below Ds _ _ hs.below hs.below.size (fun D hD => (hres D hD).2.2.2), hs.old, hst, hs.new, hs.apart, hs.nodup⟩⟩
theorem T.retOD {n : NM} {w0 : Base} {fn : Func} {Φ : Value → Own → PMap → Prop} {v : Value} {k : List It} {own' : Own} (hr : ∀ a W, EOk n env a → Stab own X W → (results fn a.tmps).run P W = .ok v W) (hsub : own'.Sublist own) (hΦ : Φ v own' X) (hM : Marks n w0) : T none P n w0 X0 (bodyQ P fn (FinO w0.w X0 Φ)) (.code .ret :: k) none env own X :=
  fun a _ ha hs => runL_ret (leave_own hM ha hs (fun _ h => hr a _ ha h) fun _ h => ⟨v, own', X, rfl, ⟨h.below, h.old, ⟨fun p hp => h.stab.own p (hsub.subset hp), h.stab.pers⟩, fun p hp => h.new p (hsub.subset hp), fun p hp => h.apart p (hsub.subset hp), h.nodup.sublist hsub⟩, hΦ⟩)
/-- An own block is none of the map. -/
theorem T.apart {ro : Option Nat} {n : NM} {w0 : Base} {k : List It} {e : Option Nat} {b sz j : Nat} {cs : List Value} {ty : TypeId} (hj : AtO own b cs ty sz j) (h : X b = none → T ro P n w0 X0 Q k e env own X) : T ro P n w0 X0 Q k e env own X :=
  fun a W ha hs => h (hs.apart _ hj.mem) a W ha hs
theorem SL.apart {ro : Option Nat} {n : NM} {w0 : Base} {ops : Array Oper} {l : List Oper} {b sz j : Nat} {cs : List Value} {ty : TypeId} (hj : AtO own b cs ty sz j) (h : X b = none → SL ro P n w0 X0 ops Q l env own X) : SL ro P n w0 X0 ops Q l env own X :=
  fun a W ha hs => h (hs.apart _ hj.mem) a W ha hs
end
end Go.Proofs.YtmfiencoefbjfaaGreatDoor
namespace Go.Proofs.YtmfiencoefbjfaaGreatDoor
open Go.RowKit
section
variable {P : Program} {n : NM} {own : Own} {X : PMap} {env : Env} {t t' : TypeId} {x y : Operand} {s s' : ByteArray}
theorem str_ext {a b : ByteArray} (h : a.toList = b.toList) : a = b := by
  rw [ByteArray.toList_eq, ByteArray.toList_eq] at h
  exact ByteArray.ext (Array.toList_inj.mp h)
theorem str_beq : (s.toList == s'.toList) = decide (s = s') := by
  rw [Bool.eq_iff_iff, beq_iff_eq, decide_eq_true_eq]
  exact ⟨str_ext, fun h => by rw [h]⟩
theorem op_eqlStrD (hx : eev env x = some (.string s)) (hy : eev env y = some (.string s')) : OpY P n env own X (.binOp .eql t x y t') (.bool (decide (s = s'))) := by
  intro a W oper hop ha _
  have h0 : ∀ (e : BinOp) (u v : Operand), eqGuard e t u v (.string s) (.string s') = pure () := fun e u v => by cases e <;> rfl
  have h2 : (Op.stringOp .eql s s').run P W = .ok (.bool (decide (s = s'))) W := by simp [Op.stringOp, str_beq]
  simp only [execOp, hop, ha.eval hx, ha.eval hy, binOp, h0, Sem.run_bind, Sem.run_pure, Result.andThen_ok, h2]
theorem op_neqStrD (hx : eev env x = some (.string s)) (hy : eev env y = some (.string s')) : OpY P n env own X (.binOp .neq t x y t') (.bool (!decide (s = s'))) := by
  intro a W oper hop ha _
  have h0 : ∀ (e : BinOp) (u v : Operand), eqGuard e t u v (.string s) (.string s') = pure () := fun e u v => by cases e <;> rfl
  have h2 : (Op.stringOp .neq s s').run P W = .ok (.bool (!decide (s = s'))) W := by simp [Op.stringOp, str_beq]
  simp only [execOp, hop, ha.eval hx, ha.eval hy, binOp, h0, Sem.run_bind, Sem.run_pure, Result.andThen_ok, h2]
end
instance memDec (s : ByteArray) : (l : List ByteArray) → Decidable (s ∈ l)
  | [] => .isFalse (by simp)
  | t :: l => have := memDec s l; decidable_of_iff (s = t ∨ s ∈ l) List.mem_cons.symm
end Go.Proofs.YtmfiencoefbjfaaGreatDoor
namespace Go.Proofs.YtmfiencoefbjfaaGreatDoor
open Go.RowKit
inductive Ex where
  | mk (op : Nat) (n : Int) (ns : List ByteArray) (al : List Ex)
def Ex.op : Ex → Nat
  | .mk o _ _ _ => o
def Ex.al : Ex → List Ex
  | .mk _ _ _ a => a
/-- The words that are no names. -/
def keyws : List ByteArray := [⟨#[97, 108, 108]⟩, ⟨#[97, 110, 100]⟩, ⟨#[97, 115, 115, 105, 103, 110]⟩, ⟨#[98, 121]⟩, ⟨#[99, 111, 117, 110, 116]⟩, ⟨#[100, 101, 99, 108, 97, 114, 101]⟩, ⟨#[100, 121, 110, 97, 109, 105, 99]⟩, ⟨#[101, 110, 102, 111, 114, 99, 101]⟩, ⟨#[102, 97, 108, 115, 101]⟩, ⟨#[102, 111, 114]⟩, ⟨#[105, 102]⟩, ⟨#[109, 101, 109, 98, 101, 114, 115]⟩, ⟨#[110, 111, 110, 101]⟩, ⟨#[110, 111, 116]⟩, ⟨#[111, 110]⟩, ⟨#[111, 114]⟩, ⟨#[114, 101, 118, 111, 107, 101]⟩, ⟨#[115, 116, 97, 116, 105, 99]⟩, ⟨#[116, 114, 117, 101]⟩, ⟨#[117, 115, 101, 114, 115]⟩]
def letB (b : UInt8) : Bool := decide (97 ≤ b.toNat ∧ b.toNat ≤ 122)
def innB (b : UInt8) : Bool := decide (97 ≤ b.toNat ∧ b.toNat ≤ 122 ∨ 48 ≤ b.toNat ∧ b.toNat ≤ 57 ∨ b.toNat = 95)
/-- The bytes of a name from the place i on. -/
def formB (s : ByteArray) (i : Nat) : Prop := ∀ k b, i ≤ k → s[k]? = some b → innB b = true ∧ (k = 0 → letB b = true)
/-- A name. -/
def validS (s : ByteArray) : Prop := s.size ≠ 0 ∧ s.size ≤ 12 ∧ s ∉ keyws ∧ formB s 0
def validB (s : ByteArray) : Bool := decide (s.size ≠ 0) && decide (s.size ≤ 12) && decide (s ∉ keyws) && s.data.toList.all innB && (s.data.toList.head?.map letB).getD true
theorem validB_iff {s : ByteArray} : validB s = true ↔ validS s := by
  have hg : ∀ k : Nat, s[k]? = s.data.toList[k]? := fun k => by simp only [Array.getElem?_toList]; rfl
  unfold validB validS formB
  simp only [Bool.and_eq_true, decide_eq_true_eq, List.all_eq_true]
  constructor
  · rintro ⟨⟨⟨⟨h1, h2⟩, h3⟩, h4⟩, h5⟩
    refine ⟨h1, h2, h3, fun k b _ hk => ⟨h4 b (List.mem_of_getElem? (by rw [← hg]; exact hk)), fun h0 => ?_⟩⟩
    subst h0
    rw [hg] at hk
    rw [List.head?_eq_getElem?, hk] at h5
    exact h5
  · rintro ⟨h1, h2, h3, h4⟩
    refine ⟨⟨⟨⟨h1, h2⟩, h3⟩, fun b hb => ?_⟩, ?_⟩
    · obtain ⟨k, hk⟩ := List.mem_iff_getElem?.1 hb
      exact (h4 k b (Nat.zero_le _) (by rw [hg]; exact hk)).1
    · rw [List.head?_eq_getElem?]
      cases h0 : s.data.toList[0]? with
      | none => rfl
      | some b => exact (h4 0 b (Nat.zero_le _) (by rw [hg]; exact h0)).2 rfl
instance (s : ByteArray) : Decidable (validS s) := decidable_of_iff _ validB_iff
/-- A permitted number of names. -/
def namN (op k : Nat) : Prop := if op = 4 ∨ op = 6 then k = 1 else if op = 5 then 1 ≤ k ∧ k ≤ 8 else k = 0
instance (op k : Nat) : Decidable (namN op k) := by unfold namN; infer_instance
end Go.Proofs.YtmfiencoefbjfaaGreatDoor
namespace Go.Proofs.YtmfiencoefbjfaaGreatDoor
open Go.RowKit
def dig : List Nat → Nat
  | [] => 0
  | b :: l => 256 * dig l + b
def pop8 (b : Nat) : Nat := (List.range 8).countP fun i => b.testBit i
def g1 (b : Nat) : Nat := ((b / 2) &&& 85) + (b &&& 85)
def g2 (b : Nat) : Nat := ((b / 4) &&& 51) + (b &&& 51)
def g3 (b : Nat) : Nat := (b / 16 + b) &&& 15
def msk8 (d : Nat) : Nat → Nat
  | 0 => 0
  | n + 1 => 256 * msk8 d n + d
theorem and_byte (a c : Nat) {b d : Nat} (hb : b < 256) (hd : d < 256) : (256 * a + b) &&& (256 * c + d) = 256 * (a &&& c) + (b &&& d) := by
  have hbd : b &&& d < 2 ^ 8 := Nat.lt_of_le_of_lt Nat.and_le_left hb
  apply Nat.eq_of_testBit_eq
  intro i
  rw [show 256 = 2 ^ 8 from rfl, Nat.testBit_and, Nat.testBit_two_pow_mul_add a (show b < 2 ^ 8 from hb), Nat.testBit_two_pow_mul_add c (show d < 2 ^ 8 from hd), Nat.testBit_two_pow_mul_add (a &&& c) hbd]
  split
  · rw [Nat.testBit_and]
  · rw [Nat.testBit_and]
theorem bytes_all {P : Nat → Bool} (h : (List.range 256).all P = true) {b : Nat} (hb : b < 256) : P b = true := List.all_eq_true.1 h b (List.mem_range.2 hb)
theorem t1 {b t : Nat} (hb : b < 256) (ht : t < 2) : 128 * t + b / 2 < 256 ∧ (128 * t + b / 2) &&& 85 = (b / 2) &&& 85 := by
  have h := bytes_all (P := fun b => (List.range 2).all fun t => decide (128 * t + b / 2 < 256 ∧ (128 * t + b / 2) &&& 85 = (b / 2) &&& 85)) (by decide +kernel) hb
  exact of_decide_eq_true (List.all_eq_true.1 h t (List.mem_range.2 ht))
theorem t2 {b t : Nat} (hb : b < 256) (ht : t < 4) : 64 * t + b / 4 < 256 ∧ (64 * t + b / 4) &&& 51 = (b / 4) &&& 51 := by
  have h := bytes_all (P := fun b => (List.range 4).all fun t => decide (64 * t + b / 4 < 256 ∧ (64 * t + b / 4) &&& 51 = (b / 4) &&& 51)) (by decide +kernel) hb
  exact of_decide_eq_true (List.all_eq_true.1 h t (List.mem_range.2 ht))
def nib (b : Nat) : Prop := b % 16 ≤ 4 ∧ b / 16 ≤ 4
instance (b : Nat) : Decidable (nib b) := inferInstanceAs (Decidable (_ ∧ _))
theorem t3 {b t : Nat} (hb : b < 256) (hn : nib b) (ht : t < 5) : 16 * t + b / 16 + b < 256 ∧ (16 * t + b / 16 + b) &&& 15 = g3 b := by
  have h := bytes_all (P := fun b => (List.range 5).all fun t => decide (nib b → 16 * t + b / 16 + b < 256 ∧ (16 * t + b / 16 + b) &&& 15 = g3 b)) (by decide +kernel) hb
  exact of_decide_eq_true (List.all_eq_true.1 h t (List.mem_range.2 ht)) hn
theorem g1_lt {b : Nat} (hb : b < 256) : g1 b < 256 := of_decide_eq_true (bytes_all (P := fun b => decide (g1 b < 256)) (by decide +kernel) hb)
theorem g2_nib {b : Nat} (hb : b < 256) : g2 (g1 b) < 256 ∧ nib (g2 (g1 b)) := of_decide_eq_true (bytes_all (P := fun b => decide (g2 (g1 b) < 256 ∧ nib (g2 (g1 b)))) (by decide +kernel) hb)
theorem g3_pop {b : Nat} (hb : b < 256) : g3 (g2 (g1 b)) = pop8 b ∧ pop8 b ≤ 8 := of_decide_eq_true (bytes_all (P := fun b => decide (g3 (g2 (g1 b)) = pop8 b ∧ pop8 b ≤ 8)) (by decide +kernel) hb)
theorem f1_dig : ∀ {l : List Nat}, (∀ b ∈ l, b < 256) → ((dig l / 2) &&& msk8 85 l.length) + (dig l &&& msk8 85 l.length) = dig (l.map g1)
  | [], _ => by simp [dig, msk8]
  | b :: l, h => by
    have hb := h b (by simp)
    have ih := f1_dig (l := l) fun c hc => h c (by simp [hc])
    obtain ⟨h1, h2⟩ := t1 hb (show dig l % 2 < 2 from Nat.mod_lt _ (by omega))
    have e : dig (b :: l) / 2 = 256 * (dig l / 2) + (128 * (dig l % 2) + b / 2) := by rw [dig]; omega
    rw [e, List.length_cons, msk8, and_byte _ _ h1 (by omega), h2, dig, and_byte _ _ hb (by omega), List.map_cons, dig, ← ih]
    unfold g1
    omega
theorem f2_dig : ∀ {l : List Nat}, (∀ b ∈ l, b < 256) → ((dig l / 4) &&& msk8 51 l.length) + (dig l &&& msk8 51 l.length) = dig (l.map g2)
  | [], _ => by simp [dig, msk8]
  | b :: l, h => by
    have hb := h b (by simp)
    have ih := f2_dig (l := l) fun c hc => h c (by simp [hc])
    obtain ⟨h1, h2⟩ := t2 hb (show dig l % 4 < 4 from Nat.mod_lt _ (by omega))
    have e : dig (b :: l) / 4 = 256 * (dig l / 4) + (64 * (dig l % 4) + b / 4) := by rw [dig]; omega
    rw [e, List.length_cons, msk8, and_byte _ _ h1 (by omega), h2, dig, and_byte _ _ hb (by omega), List.map_cons, dig, ← ih]
    unfold g2
    omega
theorem dig_mod : ∀ {l : List Nat}, (∀ b ∈ l, b < 256 ∧ nib b) → dig l % 16 < 5
  | [], _ => by simp [dig]
  | b :: l, h => by
    obtain ⟨h1, h2, h3⟩ := h b (by simp)
    rw [dig]; omega
theorem f3_dig : ∀ {l : List Nat}, (∀ b ∈ l, b < 256 ∧ nib b) → (dig l / 16 + dig l) &&& msk8 15 l.length = dig (l.map g3)
  | [], _ => by simp [dig, msk8]
  | b :: l, h => by
    obtain ⟨hb, hn⟩ := h b (by simp)
    have ih := f3_dig (l := l) fun c hc => h c (by simp [hc])
    obtain ⟨h1, h2⟩ := t3 hb hn (dig_mod (l := l) fun c hc => h c (by simp [hc]))
    have e : dig (b :: l) / 16 + dig (b :: l) = 256 * (dig l / 16 + dig l) + (16 * (dig l % 16) + b / 16 + b) := by rw [dig]; omega
    rw [e, List.length_cons, msk8, and_byte _ _ h1 (by omega), h2, ih, List.map_cons, dig]
def cntB (n m : Nat) : Nat := (List.range n).countP fun i => m.testBit i
theorem cnt_dig : ∀ {l : List Nat}, (∀ b ∈ l, b < 256) → cntB (8 * l.length) (dig l) = (l.map pop8).sum
  | [], _ => rfl
  | b :: l, h => by
    have hb := h b (by simp)
    have ih := cnt_dig (l := l) fun c hc => h c (by simp [hc])
    have e1 : ∀ i, (dig (b :: l)).testBit i = if i < 8 then b.testBit i else (dig l).testBit (i - 8) := fun i => by
      rw [dig, show 256 = 2 ^ 8 from rfl, Nat.testBit_two_pow_mul_add _ (show b < 2 ^ 8 from hb)]
    rw [List.length_cons, List.map_cons, List.sum_cons, ← ih, cntB, show 8 * (l.length + 1) = 8 + 8 * l.length by omega, List.range_add, List.countP_append, List.countP_map]
    congr 1
    · rw [pop8]
      refine List.countP_congr fun i hi => ?_
      rw [e1, if_pos (List.mem_range.1 hi)]
    · rw [cntB]
      refine List.countP_congr fun i _ => ?_
      show (dig (b :: l)).testBit (8 + i) = true ↔ _
      rw [e1, if_neg (by omega), Nat.add_sub_cancel_left]
/-- The bytes of a word. -/
def bytesN : Nat → Nat → List Nat
  | 0, _ => []
  | n + 1, m => m % 256 :: bytesN n (m / 256)
theorem bytesN_lt : ∀ (n m : Nat), ∀ b ∈ bytesN n m, b < 256
  | 0, _, _, h => by cases h
  | n + 1, m, b, h => by
    rcases List.mem_cons.1 h with rfl | h
    · exact Nat.mod_lt _ (by omega)
    · exact bytesN_lt n _ b h
theorem bytesN_dig : ∀ (n m : Nat), m < 256 ^ n → dig (bytesN n m) = m
  | 0, m, h => by simp at h; simp [bytesN, dig, h]
  | n + 1, m, h => by
    rw [bytesN, dig, bytesN_dig n (m / 256) (Nat.div_lt_of_lt_mul (by rw [Nat.pow_succ] at h; omega))]
    omega
theorem dig_lt : ∀ {l : List Nat} {k : Nat}, l.length = k → (∀ b ∈ l, b < 256) → dig l < 256 ^ k
  | [], k, e, _ => by subst e; decide
  | b :: l, k, e, h => by
    subst e
    have h1 := dig_lt (l := l) rfl fun c hc => h c (by simp [hc])
    have h2 := h b (by simp)
    rw [dig, List.length_cons, Nat.pow_succ]; omega
theorem div_lo {x lo hi k : Nat} (h : x = lo + k * hi) (hl : lo < k) : x / k = hi := by
  subst h
  rw [Nat.add_mul_div_left _ _ (Nat.zero_lt_of_lt hl), Nat.div_eq_of_lt hl, Nat.zero_add]
/-- The sum of eight small bytes. -/
theorem sum8 {a0 a1 a2 a3 a4 a5 a6 a7 c c1 c2 c3 c4 c5 c6 : Nat} (b0 : a0 ≤ 8) (b1 : a1 ≤ 8) (b2 : a2 ≤ 8) (b3 : a3 ≤ 8) (b4 : a4 ≤ 8) (b5 : a5 ≤ 8) (b6 : a6 ≤ 8) (b7 : a7 ≤ 8) (h6 : c6 = a6 + 256 * a7) (h5 : c5 = a5 + 256 * c6) (h4 : c4 = a4 + 256 * c5) (h3 : c3 = a3 + 256 * c4) (h2 : c2 = a2 + 256 * c3) (h1 : c1 = a1 + 256 * c2) (hc : c = a0 + 256 * c1) :
    c + c / 256 < 18446744073709551616 ∧ (c + c / 256) + (c + c / 256) / 65536 < 18446744073709551616 ∧ ((c + c / 256) + (c + c / 256) / 65536) + ((c + c / 256) + (c + c / 256) / 65536) / 4294967296 < 9223372036854775808 ∧ (((c + c / 256) + (c + c / 256) / 65536) + ((c + c / 256) + (c + c / 256) / 65536) / 4294967296) % 128 = a0 + (a1 + (a2 + (a3 + (a4 + (a5 + (a6 + a7)))))) := by
  have hb : c ≤ 578721382704613384 := by
    have q6 : c6 ≤ 2056 := by omega
    have q5 : c5 ≤ 526344 := by clear h4 h3 h2 h1 hc; omega
    have q4 : c4 ≤ 134744072 := by clear h6 h3 h2 h1 hc; omega
    have q3 : c3 ≤ 34494482440 := by clear h6 h5 h2 h1 hc; omega
    have q2 : c2 ≤ 8830587504648 := by clear h6 h5 h4 h1 hc; omega
    have q1 : c1 ≤ 2260630401189896 := by clear h6 h5 h4 h3 hc; omega
    clear h6 h5 h4 h3 h2 h1; omega
  have e1 : c / 256 = c1 := div_lo (lo := a0) hc (by omega)
  have e2 : (c + c1) / 65536 = c2 + c3 := div_lo (lo := (a0 + a1) + 256 * (a1 + a2)) (by clear b0 b1 b2 b3 b4 b5 b6 b7 h6 h5 h4 hb e1; omega) (by omega)
  have e3 : ((c + c1) + (c2 + c3)) / 4294967296 = (c4 + c5) + (c6 + a7) := div_lo (lo := (a0 + a1 + a2 + a3) + 256 * (a1 + a2 + a3 + a4) + 65536 * (a2 + a3 + a4 + a5) + 16777216 * (a3 + a4 + a5 + a6)) (by clear b0 b1 b2 b3 b4 b5 b6 b7 hb e1 e2; omega) (by clear h6 h5 h4 h3 h2 h1 hc hb e1 e2; omega)
  rw [e1, e2, e3]
  have i1 : c1 ≤ c := by clear h6 h5 h4 h3 h2 h1 e1 e2 e3 hb; omega
  have i2 : c2 ≤ c1 := by clear h6 h5 h4 h3 h2 hc e1 e2 e3 hb; omega
  have i3 : c3 ≤ c2 := by clear h6 h5 h4 h3 h1 hc e1 e2 e3 hb; omega
  have i4 : c4 ≤ c3 := by clear h6 h5 h4 h2 h1 hc e1 e2 e3 hb; omega
  have i5 : c5 ≤ c4 := by clear h6 h5 h3 h2 h1 hc e1 e2 e3 hb; omega
  have i6 : c6 ≤ c5 := by clear h6 h4 h3 h2 h1 hc e1 e2 e3 hb; omega
  have i7 : a7 ≤ c6 := by clear h5 h4 h3 h2 h1 hc e1 e2 e3 hb; omega
  refine ⟨by clear h6 h5 h4 h3 h2 h1 hc e1 e2 e3; omega, by clear h6 h5 h4 h3 h2 h1 hc e1 e2 e3; omega, by clear h6 h5 h4 h3 h2 h1 hc e1 e2 e3; omega, ?_⟩
  have hs : ((c + c1) + (c2 + c3)) + ((c4 + c5) + (c6 + a7)) = (a0 + (a1 + (a2 + (a3 + (a4 + (a5 + (a6 + a7))))))) + 128 * (2 * ((c1 + c2) + (c3 + c4) + (c5 + c6) + a7)) := by
    clear b0 b1 b2 b3 b4 b5 b6 b7 hb e1 e2 e3 i1 i2 i3 i4 i5 i6 i7; omega
  rw [hs, Nat.add_mul_mod_self_left, Nat.mod_eq_of_lt]
  clear h6 h5 h4 h3 h2 h1 hc e1 e2 e3 hb i1 i2 i3 i4 i5 i6 i7 hs; omega
theorem dig_nib : ∀ {l : List Nat} {k : Nat}, l.length = k → (∀ b ∈ l, b < 256 ∧ nib b) → 255 * dig l ≤ 68 * (256 ^ k - 1)
  | [], k, e, _ => by subst e; decide
  | b :: l, k, e, h => by
    subst e
    have h1 := dig_nib (l := l) rfl fun c hc => h c (by simp [hc])
    obtain ⟨h2, h3, h4⟩ := h b (by simp)
    have hp : 0 < 256 ^ l.length := Nat.pow_pos (by omega)
    rw [dig, List.length_cons, Nat.pow_succ]
    omega
/-- The three masks, the three sums. -/
theorem swar {m : Nat} (hm : m < 18446744073709551616) : ∃ a b c : Nat, (m >>> 1 &&& 6148914691236517205) + (m &&& 6148914691236517205) = a ∧ a < 18446744073709551616 ∧ (a >>> 2 &&& 3689348814741910323) + (a &&& 3689348814741910323) = b ∧ b < 18446744073709551616 ∧ b >>> 4 + b < 18446744073709551616 ∧ (b >>> 4 + b) &&& 1085102592571150095 = c ∧ c + c >>> 8 < 18446744073709551616 ∧
    (c + c >>> 8) + (c + c >>> 8) >>> 16 < 18446744073709551616 ∧ ((c + c >>> 8) + (c + c >>> 8) >>> 16) + ((c + c >>> 8) + (c + c >>> 8) >>> 16) >>> 32 < 9223372036854775808 ∧ (((c + c >>> 8) + (c + c >>> 8) >>> 16) + ((c + c >>> 8) + (c + c >>> 8) >>> 16) >>> 32) % 128 = cntB 64 m ∧ cntB 64 m ≤ 64 := by
  have hb := bytesN_lt 8 m
  have hd := bytesN_dig 8 m hm
  have hl : (bytesN 8 m).length = 8 := rfl
  generalize bytesN 8 m = l at *
  subst hd
  have e1 := f1_dig hb
  have hb1 : ∀ b ∈ l.map g1, b < 256 := fun b h => by obtain ⟨c, hc, rfl⟩ := List.mem_map.1 h; exact g1_lt (hb c hc)
  have e2 := f2_dig hb1
  have hb2 : ∀ b ∈ (l.map g1).map g2, b < 256 ∧ nib b := fun b h => by
    obtain ⟨d, hd, rfl⟩ := List.mem_map.1 h
    obtain ⟨c, hc, rfl⟩ := List.mem_map.1 hd
    exact g2_nib (hb c hc)
  have e3 := f3_dig hb2
  have hc := cnt_dig hb
  have q1 := dig_lt (k := 8) (by rw [List.length_map, hl]) hb1
  have q2 := dig_lt (l := (l.map g1).map g2) (k := 8) (by rw [List.length_map, List.length_map, hl]) fun b h => (hb2 b h).1
  rw [List.length_map, hl] at e2
  rw [List.length_map, List.length_map, hl] at e3
  rw [hl] at e1 hc
  have k1 : msk8 85 8 = 6148914691236517205 := by decide +kernel
  have k2 : msk8 51 8 = 3689348814741910323 := by decide +kernel
  have k3 : msk8 15 8 = 1085102592571150095 := by decide +kernel
  rw [k1] at e1
  rw [k2] at e2
  rw [k3] at e3
  have hpop : ((l.map g1).map g2).map g3 = l.map pop8 := by
    rw [List.map_map, List.map_map]
    exact List.map_congr_left fun b h => (g3_pop (hb b h)).1
  rw [hpop] at e3
  have hpl : (l.map pop8).length = 8 := by rw [List.length_map, hl]
  have hp8 : ∀ p ∈ l.map pop8, p ≤ 8 := fun p h => by obtain ⟨c, hc, rfl⟩ := List.mem_map.1 h; exact (g3_pop (hb c hc)).2
  refine ⟨dig (l.map g1), dig ((l.map g1).map g2), dig (l.map pop8), by rw [Nat.shiftRight_eq_div_pow]; exact e1, q1, by rw [Nat.shiftRight_eq_div_pow]; exact e2, q2, ?_, by rw [Nat.shiftRight_eq_div_pow]; exact e3, ?_⟩
  · have hm68 := dig_nib (l := (l.map g1).map g2) (k := 8) (by rw [List.length_map, List.length_map, hl]) fun b h => hb2 b h
    rw [Nat.shiftRight_eq_div_pow]
    omega
  · rw [show (64 : Nat) = 8 * 8 from rfl, hc]
    generalize l.map pop8 = p at *
    match p, hpl with
    | [a0, a1, a2, a3, a4, a5, a6, a7], _ =>
      have b0 := hp8 a0 (by simp)
      have b1 := hp8 a1 (by simp)
      have b2 := hp8 a2 (by simp)
      have b3 := hp8 a3 (by simp)
      have b4 := hp8 a4 (by simp)
      have b5 := hp8 a5 (by simp)
      have b6 := hp8 a6 (by simp)
      have b7 := hp8 a7 (by simp)
      obtain ⟨s1, s2, s3, s4⟩ := sum8 (c := dig [a0, a1, a2, a3, a4, a5, a6, a7]) (c1 := dig [a1, a2, a3, a4, a5, a6, a7]) (c2 := dig [a2, a3, a4, a5, a6, a7]) (c3 := dig [a3, a4, a5, a6, a7]) (c4 := dig [a4, a5, a6, a7]) (c5 := dig [a5, a6, a7]) (c6 := dig [a6, a7]) b0 b1 b2 b3 b4 b5 b6 b7 (by simp [dig]; omega) (by rw [dig, Nat.add_comm]) (by rw [dig, Nat.add_comm]) (by rw [dig, Nat.add_comm]) (by rw [dig, Nat.add_comm]) (by rw [dig, Nat.add_comm]) (by rw [dig, Nat.add_comm])
      have e8 : ∀ x : Nat, x >>> 8 = x / 256 := fun x => by rw [Nat.shiftRight_eq_div_pow]
      have e16 : ∀ x : Nat, x >>> 16 = x / 65536 := fun x => by rw [Nat.shiftRight_eq_div_pow]
      have e32 : ∀ x : Nat, x >>> 32 = x / 4294967296 := fun x => by rw [Nat.shiftRight_eq_div_pow]
      rw [e8, e16, e32]
      have hs : [a0, a1, a2, a3, a4, a5, a6, a7].sum = a0 + (a1 + (a2 + (a3 + (a4 + (a5 + (a6 + a7)))))) := by simp
      rw [hs]
      exact ⟨s1, s2, s3, s4, by omega⟩
theorem cnt_le (m : Nat) : cntB 64 m ≤ 64 := Nat.le_trans List.countP_le_length (by rw [List.length_range]; exact Nat.le_refl _)
end Go.Proofs.YtmfiencoefbjfaaGreatDoor
namespace Go.Proofs.YtmfiencoefbjfaaGreatDoor
open Go.RowKit
theorem and127n {p : Nat} (h : p < 9223372036854775808) : bits .and .i64 (p : Int) 127 = ((p % 128 : Nat) : Int) := by
  have e : (BitVec.ofInt 64 (p : Int) &&& BitVec.ofInt 64 127).toNat = p % 128 := by
    rw [BitVec.toNat_and, BitVec.toNat_ofInt, BitVec.toNat_ofInt, show (127 : Int) % ((2 ^ 64 : Nat) : Int) = ((127 : Nat) : Int) from rfl, Int.toNat_natCast, show (p : Int) % ((2 ^ 64 : Nat) : Int) = (p : Int) by omega, Int.toNat_natCast, show (127 : Nat) = 2 ^ 7 - 1 from rfl, Nat.and_two_pow_sub_one_eq_mod]
  show IntKind.i64.wrap ((BitVec.ofInt 64 (p : Int) &&& BitVec.ofInt 64 127).toNat : Int) = _
  rw [e]
  exact wrap_i64_in (by omega) (by omega)
theorem ones_exact {X : PMap} {m : Nat} (hlt : m < 18446744073709551616) : Spec Tryz.prog 96 [.int .u64 (m : Int)] X fun u _ => u = .int .i64 (cntB 64 m : Int) := by
  obtain ⟨a, b, c, e1, ha, e2, hb, hb2, e3, hc1, hc2, hc3, hfin, hle⟩ := swar hlt
  have hc0 : c < 18446744073709551616 := by omega
  refine Spec.enter Tryz.func96 rfl Tryz.ntmps96 rfl ?_
  intro w0 hw0
  refine T.seq <| T.region <| SL.v (op_assign (v := .int .i64 ((0 : Nat) : Int)) rfl) <| SL.nil <| T.seq <| T.region <| SL.mv rfl <| SL.v (op_shrN (q := 1) rfl rfl (by omega)) ?_
  refine SL.v (op_and (q := 6148914691236517205) rfl rfl (Nat.lt_of_le_of_lt (Nat.shiftRight_le ..) hlt) (by decide)) ?_
  refine SL.mv rfl <| SL.v (op_and (q := 6148914691236517205) rfl rfl hlt (by decide)) ?_
  refine SL.v (op_addU rfl rfl (by rw [e1]; exact ha)) ?_
  rw [e1]
  refine SL.as rfl <| SL.nil <| T.seq <| T.region <| SL.mv rfl <| SL.v (op_shrN (q := 2) rfl rfl (by omega)) ?_
  refine SL.v (op_and (q := 3689348814741910323) rfl rfl (Nat.lt_of_le_of_lt (Nat.shiftRight_le ..) ha) (by decide)) ?_
  refine SL.mv rfl <| SL.v (op_and (q := 3689348814741910323) rfl rfl ha (by decide)) ?_
  refine SL.v (op_addU rfl rfl (by rw [e2]; exact hb)) ?_
  rw [e2]
  refine SL.as rfl <| SL.nil <| T.seq <| T.region <| SL.mv rfl <| SL.v (op_shrN (q := 4) rfl rfl (by omega)) ?_
  refine SL.mv rfl <| SL.v (op_addU rfl rfl hb2) <| SL.v (op_and (q := 1085102592571150095) rfl rfl hb2 (by decide)) ?_
  rw [e3]
  refine SL.as rfl <| SL.nil <| T.seq <| T.region <| SL.mv rfl <| SL.mv rfl <| SL.v (op_shrN (q := 8) rfl rfl (by omega)) ?_
  refine SL.v (op_addU rfl rfl hc1) <| SL.as rfl <| SL.nil <| T.seq <| T.region <| SL.mv rfl <| SL.mv rfl <| SL.v (op_shrN (q := 16) rfl rfl (by omega)) ?_
  refine SL.v (op_addU rfl rfl hc2) <| SL.as rfl <| SL.nil <| T.seq <| T.region <| SL.mv rfl <| SL.mv rfl <| SL.v (op_shrN (q := 32) rfl rfl (by omega)) ?_
  refine SL.v (op_addU rfl rfl (by omega)) ?_
  generalize ((c + c >>> 8) + (c + c >>> 8) >>> 16) + ((c + c >>> 8) + (c + c >>> 8) >>> 16) >>> 32 = f at *
  refine SL.as rfl <| SL.nil <| T.seq <| T.region <| SL.mv rfl <| SL.v (op_convI64 Tryz.underlying108 Tryz.underlying3 rfl (by omega) (by omega)) ?_
  refine SL.v (op_bits (op := .and) rfl rfl (by simp) (and127n hc3)) ?_
  refine SL.as rfl <| SL.nil <| T.ret1 rfl (ResIs.tmp rfl) ?_
  rw [hfin]
theorem len_exact {X : PMap} {v : Value} {m : Nat} (h : SetR X v m) : Spec Tryz.prog 79 [v] X fun u _ => u = .int .i64 ((mem64 m).length : Int) := by
  have hcnt : ∀ m, (mem64 m).length = cntB 64 m := fun m => by rw [mem64, cntB, List.countP_eq_length_filter]
  rcases h with ⟨rfl, A, c, rfl⟩ | ⟨_, h1, b, c, rest, rfl, hB⟩
  · refine Spec.enter Tryz.func79 rfl Tryz.ntmps79 rfl ?_
    intro w0 hw0
    refine T.seq <| T.region <| SL.w (op_box rfl) ?_
    rintro _ _ _ ⟨B1, rfl, rfl, rfl⟩
    refine SL.v (op_assign (v := .int .i64 ((0 : Nat) : Int)) rfl) <| SL.nil <| T.seq <| T.region <| SL.v (op_assign (v := .int .i64 ((0 : Nat) : Int)) rfl) <| SL.nil <| T.seq <| T.seq <| T.region <| SL.v (op_fieldAddr fa65_0 rfl) <| SL.v (op_load ty63 rfl (by repeat constructor) rfl) ?_
    refine SL.v (op_lenS Tryz.underlying63 rfl) <| SL.v (op_move (v := .int .i64 ((0 : Nat) : Int)) rfl) <| SL.nil <| T.block <| T.unrollStart 1 ?_
    refine T.unroll ?_
    refine T.seq <| T.region <| SL.v (op_lssF rfl rfl (by omega)) ?_
    refine SL.nil <| T.seq <| T.condF rfl ?_
    refine T.exit (T.exitCode (T.exitMore (T.exitBlk ?_)))
    refine T.seq <| T.region <| SL.mv rfl <| SL.as rfl <| SL.nil <| T.ret1 rfl (ResIs.tmp rfl) ?_
    rw [mem64_zero]
    rfl
  · have hle := cnt_le m
    refine Spec.enter Tryz.func79 rfl Tryz.ntmps79 rfl ?_
    intro w0 hw0
    refine T.seq <| T.region <| SL.w (op_box rfl) ?_
    rintro _ _ _ ⟨B1, rfl, rfl, rfl⟩
    refine SL.v (op_assign (v := .int .i64 ((0 : Nat) : Int)) rfl) <| SL.nil <| T.seq <| T.region <| SL.v (op_assign (v := .int .i64 ((0 : Nat) : Int)) rfl) <| SL.nil <| T.seq <| T.seq <| T.region <| SL.v (op_fieldAddr fa65_0 rfl) <| SL.v (op_load ty63 rfl (by repeat constructor) rfl) ?_
    refine SL.v (op_lenS Tryz.underlying63 rfl) <| SL.v (op_move (v := .int .i64 ((0 : Nat) : Int)) rfl) <| SL.nil <| T.block <| T.unrollStart 2 ?_
    refine T.unroll ?_
    refine T.seq <| T.region <| SL.v (op_lssT rfl rfl (by omega)) ?_
    refine SL.nil <| T.seq <| T.condT rfl <| T.skip <| T.seq <| T.block <| T.seq <| T.region <| SL.v (op_indexN Tryz.underlying63 ty108 rfl rfl (by omega)) ?_
    refine SL.v (op_loadX ty108 rfl (by assumption) rfl) ?_
    refine SL.as rfl <| SL.nil <| T.region <| SL.mv rfl <| SL.mv rfl <| SL.w (op_callF en96 (vs := [_]) rfl (ones_exact h1)) ?_
    rintro _ _ X1 ⟨rfl, hX1, rfl⟩
    refine SL.v (op_addN rfl rfl (by omega)) ?_
    refine SL.as rfl <| SL.nil <| T.blk <| T.region <| SL.v (op_addN (q := 1) rfl rfl (by omega)) ?_
    refine SL.mv rfl <| SL.nil <| T.unroll ?_
    refine T.seq <| T.region <| SL.v (op_lssF rfl rfl (by omega)) ?_
    refine SL.nil <| T.seq <| T.condF rfl ?_
    refine T.exit (T.exitCode (T.exitMore (T.exitBlk ?_)))
    refine T.seq <| T.region <| SL.mv rfl <| SL.as rfl <| SL.nil <| T.ret1 rfl (ResIs.tmp rfl) ?_
    rw [hcnt, Nat.zero_add]
end Go.Proofs.YtmfiencoefbjfaaGreatDoor
namespace Go.Proofs.YtmfiencoefbjfaaGreatDoor
open Go.RowKit
theorem rawBits_lt (bs : List Nat) (c i n : Nat) : rawBits bs c i n < 2 ^ n := lt_pow_of_bits fun j hj => by
  rw [rawBits_testBit] at hj
  simp at hj
  exact hj.1
theorem rawRows_lt (bs : List Nat) (r c : Nat) : ∀ m ∈ rawRows bs r c, m < 2 ^ c := fun m hm => by
  simp only [rawRows, List.mem_map] at hm
  obtain ⟨q, _, rfl⟩ := hm
  exact rawBits_lt bs c q c
theorem rawRows_len (bs : List Nat) (r c : Nat) : (rawRows bs r c).length = r := by simp [rawRows]
theorem conOf_allC {c : Nat} {ms : List Nat} (hr : ms.length ≤ 64) (hc : c < 64) : (allC c ms).map (conOf c ms) = allR c ms := by
  rw [allR, conL]
  refine List.map_congr_left fun a ha => ?_
  rw [conOf, (mem_allC hr hc a).1 ha]
/-- The lattice of a small matrix. -/
theorem lnewA_spec {X : PMap} (hT : Tab X) {v : Value} {c : Nat} {ms : List Nat} (h : MatR X v c ms) (_hc : c < 6) (most : Nat) (h1 : 1 ≤ most) (h2 : most < 2147483648) : Spec Tryz.prog 46 [v, .int .i64 (most : Int)] X fun u X' =>
    if (allR c ms).length ≤ most then ∃ w, u = .tuple #[w, .int .i64 0] ∧ LatR X' w c ms (allR c ms) else u = .tuple #[.pointer none, .int .i64 3] := by
  obtain ⟨hr, _⟩ := h.lens
  refine (lnew_spec hT h most h1 h2).mono fun v X' _ hv => ?_
  rw [gen_allC (by omega) (by omega)] at hv
  rw [allR, conL_length]
  split at hv
  · rename_i hle
    rw [if_pos hle]
    obtain ⟨w, h3, h4⟩ := hv
    exact ⟨w, h3, by rw [conOf_allC (by omega) (by omega)] at h4; exact h4⟩
  · rename_i hle
    rw [if_neg hle]
    exact hv
theorem allR_len {c : Nat} {ms : List Nat} (hr : ms.length < 64) (hc : c < 6) : (allR c ms).length ≤ 32 := by
  obtain ⟨h1, h2, _⟩ := allR_small (ms := ms) hr hc
  omega
end Go.Proofs.YtmfiencoefbjfaaGreatDoor
namespace Go.Proofs.YtmfiencoefbjfaaGreatDoor
section
set_option maxRecDepth 100000
theorem en79 : Enters Tryz.prog 79 := enters_mk Tryz.func79 (by kernel_rfl) rfl
theorem sl78 : SlT Tryz.prog 78 65 1 24 := ⟨Tryz.underlying78, sl_of (by kernel_rfl) (by decide)⟩
end
open Go.RowKit
/-- v is a slice of these sets. -/
def OnesR (X : PMap) (v : Value) (o : List Nat) : Prop := ∃ cs, SliceR X v o.length cs ∧ SetsR X cs o
theorem OnesR.mono {X X' : PMap} {v : Value} {o : List Nat} (h : OnesR X v o) (hX : X.le X') : OnesR X' v o := let ⟨cs, h1, h2⟩ := h; ⟨cs, h1.mono hX, h2.mono hX⟩
theorem OnesR.form {X : PMap} {v : Value} {o : List Nat} (h : OnesR X v o) : ∃ A cp, v = .slice A o.length cp := by
  obtain ⟨cs, h1, _⟩ := h
  exact h1.form
/-- A set of the slice. -/
theorem OnesR.at {X : PMap} {A : Option Addr} {cp : Nat} {o : List Nat} (h : OnesR X (.slice A o.length cp) o) {i : Nat} (hi : i < o.length) : ∃ b cs x y z, A = some ⟨b, 0, none⟩ ∧ Blk X b cs ∧ cs[i]? = some (.slice x y z) ∧ SetR X (.agg #[.slice x y z]) o[i] := by
  obtain ⟨cs, h1, h2⟩ := h
  rcases h1 with ⟨h0, _⟩ | ⟨_, b, cp', he, hB⟩
  · omega
  · simp only [Value.slice.injEq] at he
    obtain ⟨c, g1, g2⟩ := h2.2 i o[i] (by simp [hi])
    obtain ⟨x, y, z, e⟩ := g2.form
    obtain rfl : c = .slice x y z := by simpa using e
    exact ⟨b, cs, x, y, z, he.1, hB, g1, g2⟩
theorem OnesR.wds {X : PMap} {v : Value} {o : List Nat} (h : OnesR X v o) : Wds o := fun s hs => by
  obtain ⟨cs, _, h2⟩ := h
  obtain ⟨i, hi, rfl⟩ := List.getElem_of_mem hs
  obtain ⟨c, _, g2⟩ := h2.2 i o[i] (by simp [hi])
  exact g2.lt
/-- v is a slice of these concepts. -/
def ConL (X : PMap) (v : Value) (l : List (Nat × Nat)) : Prop := ∃ cs, SliceR X v l.length cs ∧ ConsR X cs l
theorem ConL.mono {X X' : PMap} {v : Value} {l : List (Nat × Nat)} (h : ConL X v l) (hX : X.le X') : ConL X' v l := let ⟨cs, h1, h2⟩ := h; ⟨cs, h1.mono hX, h2.mono hX⟩
theorem ConL.form {X : PMap} {v : Value} {l : List (Nat × Nat)} (h : ConL X v l) : ∃ A cp, v = .slice A l.length cp := by
  obtain ⟨cs, h1, _⟩ := h
  exact h1.form
theorem ConL.at {X : PMap} {A : Option Addr} {cp : Nat} {l : List (Nat × Nat)} (h : ConL X (.slice A l.length cp) l) {i : Nat} (hi : i < l.length) : ∃ b cs x y, A = some ⟨b, 0, none⟩ ∧ Blk X b cs ∧ cs[i * 2]? = some x ∧ cs[i * 2 + 1]? = some y ∧ SetR X (.agg #[x]) l[i].1 ∧ SetR X (.agg #[y]) l[i].2 := by
  obtain ⟨cs, h1, h2⟩ := h
  rcases h1 with ⟨h0, _⟩ | ⟨_, b, cp', he, hB⟩
  · omega
  · simp only [Value.slice.injEq] at he
    obtain ⟨x, y, g1, g2, g3, g4⟩ := h2.2 i l[i] (by simp [hi])
    exact ⟨b, cs, x, y, he.1, hB, g1, g2, g3, g4⟩
theorem rowM_at {ms : List Nat} {k : Nat} (h : k < ms.length) : rowM ms (k : Int) = ms[k] := by
  rw [rowM, if_pos (by omega)]
  simp [h]
theorem oall_spec {X : PMap} {v : Value} {c : Nat} {ms : List Nat} (h : MatR X v c ms) : Spec Tryz.prog 24 [v] X fun u X' => OnesR X' u ms := by
  obtain ⟨hr, hc⟩ := h.lens
  refine Spec.enter Tryz.func24 rfl Tryz.ntmps24 rfl ?_
  intro w0 hw0
  refine T.seq <| T.region <| SL.as rfl <| SL.nil <| T.seq <| T.region <| SL.as rfl <| SL.nil <| T.seq <| T.seq <| T.region <| SL.mv rfl <| SL.w (op_callF en11 (vs := [_]) rfl (rows_spec h)) ?_
  rintro _ _ X1 ⟨rfl, hX1, rfl⟩
  refine SL.v (op_move (v := .int .i64 ((0 : Nat) : Int)) rfl) <| SL.nil <| T.block <| T.loopW (fun m env own X' => ∃ (k : Nat) (s : Value) (G : Own) (cs : List Value), m = ms.length - k ∧ k ≤ ms.length ∧ X1.le X' ∧ GrowS 65 1 s k cs G ∧ SetsR X' cs (ms.take k) ∧ env = [(0, v), (3, s), (6, .int .i64 (ms.length : Int)), (7, .int .i64 (k : Int))] ∧ own = G) ms.length ⟨0, _, _, _, by simp, by omega, PMap.le_refl _, GrowS.nil, ⟨rfl, fun i m h => by simp at h⟩, rfl, rfl⟩ (by repeat (first | exact Sub.nil | refine Sub.cons rfl ?_)) ?_
  rintro m _ _ X2 ⟨k, s, G, cs, rfl, hk, hX2, hG, hC, rfl, rfl⟩
  rcases Nat.lt_or_ge k ms.length with hkl | hkl
  · skip
    refine T.seq <| T.region <| SL.v (op_lssT rfl rfl (by omega)) ?_
    refine SL.nil <| T.seq <| T.condT rfl <| T.skip <| T.seq <| T.block <| T.seq <| T.region <| SL.mv rfl <| SL.as rfl <| SL.nil <| T.region <| SL.mv rfl <| SL.mv rfl <| SL.mv rfl ?_
    refine SL.w (op_callF en50 (vs := [_, _]) rfl (row_spec ((h.mono hX1).mono hX2) (k : Int))) ?_
    rintro _ _ X3 ⟨rfl, hX3, hS3⟩
    rw [rowM_at hkl] at hS3
    obtain ⟨A3, l3, c3, rfl⟩ := hS3.form
    refine SL.w (op_buildSlice Tryz.underlying78 bs65 (qs := [(0, _)]) rfl rfl rfl rfl rfl) ?_
    rintro _ _ _ ⟨B14, rfl, rfl, rfl⟩
    refine SL.w (op_appendG (own0 := []) sl78 rfl hG rfl rfl rfl (by (have : maxLen = 9223372036854775807 := rfl); omega) (by omega)) ?_
    rintro s' G' _ ⟨_, rfl, rfl, hG'⟩
    refine SL.as rfl <| SL.nil <| T.blk <| T.region <| SL.v (op_addN (q := 1) rfl rfl (by omega)) ?_
    refine SL.mv rfl <| SL.nil ?_
    exact T.backW (ms.length - (k + 1)) (by omega) ⟨k + 1, s', G', _, rfl, by omega, hX2.trans' hX3, hG', by rw [List.take_succ_eq_append_getElem hkl]; exact (hC.mono hX3).snoc hS3, rfl, rfl⟩ (by repeat (first | exact Sub.nil | refine Sub.cons rfl ?_))
  · obtain rfl : k = ms.length := by omega
    refine T.seq <| T.region <| SL.v (op_lssF rfl rfl (by omega)) ?_
    refine SL.nil <| T.seq <| T.condF rfl ?_
    refine T.exit (T.exitCode (T.exitCut (T.exitBlk ?_)))
    refine T.seq <| T.region <| SL.mv rfl <| SL.as rfl <| SL.nil <| T.pubG (own0 := []) hG ?_
    intro X3 hX3 hS3
    refine T.ret1 rfl (ResIs.tmp rfl) ?_
    rw [List.take_length] at hC
    exact ⟨cs, hS3, hC.mono hX3⟩
theorem osize_spec {X : PMap} {v : Value} {o : List Nat} (h : OnesR X v o) (hl : o.length ≤ 64) : Spec Tryz.prog 51 [v] X fun u _ => u = .int .i64 (sizeM o : Int) := by
  obtain ⟨A, cp, rfl⟩ := h.form
  refine Spec.enter Tryz.func51 rfl Tryz.ntmps51 rfl ?_
  intro w0 hw0
  refine T.seq <| T.region <| SL.v (op_assign (v := .int .i64 ((0 : Nat) : Int)) rfl) <| SL.nil <| T.seq <| T.region <| SL.v (op_assign (v := .int .i64 ((0 : Nat) : Int)) rfl) <| SL.nil <| T.seq <| T.seq <| T.region <| SL.mv rfl <| SL.v (op_lenS Tryz.underlying78 rfl) <| SL.v (op_move (v := .int .i64 ((0 : Nat) : Int)) rfl) <| SL.nil ?_
  refine T.block <| T.loopW (fun m env own X' => ∃ k : Nat, m = o.length - k ∧ k ≤ o.length ∧ X.le X' ∧ env = [(3, .int .i64 (sizeK o k : Int)), (6, .slice A o.length cp), (7, .int .i64 (o.length : Int)), (8, .int .i64 (k : Int))] ∧ own = []) o.length ⟨0, by simp, by omega, PMap.le_refl _, rfl, rfl⟩ (by repeat (first | exact Sub.nil | refine Sub.cons rfl ?_)) ?_
  rintro m _ _ X2 ⟨k, rfl, hk, hX2, rfl, rfl⟩
  rcases Nat.lt_or_ge k o.length with hkl | hkl
  · obtain ⟨b, cs, x, y, z, rfl, hB, hc, hS⟩ := h.at hkl
    have hB2 := hB.mono hX2
    refine T.seq <| T.region <| SL.v (op_lssT rfl rfl (by omega)) ?_
    refine SL.nil <| T.seq <| T.condT rfl <| T.skip <| T.seq <| T.block <| T.seq <| T.region <| SL.v (op_indexN Tryz.underlying78 ty65 rfl rfl (by omega)) ?_
    refine SL.v (op_loadX ty65 rfl hB2 (creadR1 hc)) <| SL.w (op_alloc z65) ?_
    rintro _ _ _ ⟨B5, rfl, rfl, rfl⟩
    refine SL.w (op_store ty65 rfl rfl (by repeat constructor) rfl rfl rfl) ?_
    rintro _ _ _ ⟨rfl, rfl⟩
    refine SL.nil <| T.region <| SL.mv rfl <| SL.v (op_load ty65 rfl (by repeat constructor) rfl) ?_
    refine SL.w (op_callF en79 (vs := [_]) rfl (len_exact (hS.mono hX2))) ?_
    rintro _ _ X3 ⟨rfl, hX3, rfl⟩
    have hb := sizeK_le o k
    have hm := mem64_length o[k]
    refine SL.v (op_addN rfl rfl (by omega)) ?_
    refine SL.as rfl <| SL.nil <| T.blk <| T.region <| SL.v (op_addN (q := 1) rfl rfl (by omega)) ?_
    refine SL.mv rfl <| SL.nil <| T.drop B5 (by repeat constructor) ?_
    exact T.backW (o.length - (k + 1)) (by omega) ⟨k + 1, rfl, by omega, hX2.trans' hX3, by rw [sizeK_succ hkl], rfl⟩ (by repeat (first | exact Sub.nil | refine Sub.cons rfl ?_))
  · obtain rfl : k = o.length := by omega
    refine T.seq <| T.region <| SL.v (op_lssF rfl rfl (by omega)) ?_
    refine SL.nil <| T.seq <| T.condF rfl ?_
    refine T.exit (T.exitCode (T.exitCut (T.exitBlk ?_)))
    refine T.seq <| T.region <| SL.mv rfl <| SL.as rfl <| SL.nil <| T.ret1 rfl (ResIs.tmp rfl) ?_
    rw [sizeK, List.take_length]
end Go.Proofs.YtmfiencoefbjfaaGreatDoor
namespace Go.Proofs.YtmfiencoefbjfaaGreatDoor
section
set_option maxRecDepth 100000
theorem en82 : Enters Tryz.prog 82 := enters_mk Tryz.func82 (by kernel_rfl) rfl
theorem fa119_0 : FAdr Tryz.prog 119 0 0 := fadr_mk Tryz.underlying119 rfl rfl (by kernel_rfl)
theorem fa119_1 : FAdr Tryz.prog 119 1 1 := fadr_mk Tryz.underlying119 rfl rfl (by kernel_rfl)
theorem ty78 : Ty Tryz.prog 78 false 1 := ⟨⟨_, Tryz.underlying78, rfl⟩, by kernel_rfl⟩
theorem z3 : Zero Tryz.prog 3 [.int .i64 0] := ⟨zero_of (by kernel_rfl)⟩
theorem z78 : Zero Tryz.prog 78 [.slice none 0 0] := ⟨zero_of (by kernel_rfl)⟩
end
open Go.RowKit
theorem slR_none {X : PMap} {len c : Nat} {cs : List Value} (h : SliceR X (.slice none len c) len cs) : len = 0 ∧ cs = [] := by
  rcases h with ⟨h1, h2, _⟩ | ⟨_, b, c', hv, _⟩
  · exact ⟨h1, h2⟩
  · cases hv
theorem Src.ofSl {own : Own} {X : PMap} {v : Value} {len size : Nat} {cs : List Value} (h : SliceR X v len cs) (hc : cs.length = len * size) : Src own X v len size cs := by
  rcases h with ⟨rfl, rfl, A, c, rfl⟩ | ⟨h0, b, c, rfl, hb⟩
  · exact Src.nil
  · exact Src.ofExt0 hb hc.symm
theorem SetsR.one {X : PMap} {cs : List Value} {ms : List Nat} (h : SetsR X cs ms) : ∀ y ∈ cs, y.oneCell' = true := fun y hy => by
  obtain ⟨i, hi, rfl⟩ := List.getElem_of_mem hy
  have hi' : i < ms.length := by rw [← h.1]; exact hi
  obtain ⟨c, h1, h2⟩ := h.2 i ms[i] (by simp [hi'])
  obtain ⟨A, l, cp, e⟩ := h2.form
  obtain rfl : c = .slice A l cp := by simpa using e
  rw [List.getElem?_eq_getElem hi] at h1
  simp only [Option.some.injEq] at h1
  rw [h1]
  rfl
theorem SetsR.put {X : PMap} {cs : List Value} {ms : List Nat} (h : SetsR X cs ms) {i m : Nat} {x : Value} (hi : i < ms.length) (hx : SetR X (.agg #[x]) m) : SetsR X (cs.set i x) (ms.set i m) := by
  refine ⟨by simp [h.1], fun k q hq => ?_⟩
  by_cases e : k = i
  · subst e
    rw [List.getElem?_set_self hi] at hq
    cases hq
    exact ⟨x, by rw [List.getElem?_set_self (by rw [h.1]; exact hi)], hx⟩
  · rw [List.getElem?_set_ne (Ne.symm e)] at hq
    obtain ⟨c, h1, h2⟩ := h.2 k q hq
    exact ⟨c, by rw [List.getElem?_set_ne (Ne.symm e)]; exact h1, h2⟩
theorem gain_spec {X : PMap} (hT : Tab X) {v x y : Value} {o : List Nat} {p : Nat × Nat} (h : OnesR X v o) (hx : SetR X (.agg #[x]) p.1) (hy : SetR X (.agg #[y]) p.2) (hi : ∀ i ∈ mem64 p.1, i < o.length) : Spec Tryz.prog 80 [v, .agg #[x, y]] X fun u _ => u = .int .i64 (gainM o p : Int) := by
  obtain ⟨A, cp, rfl⟩ := h.form
  obtain ⟨Ax, lx, cx, hxe⟩ := hx.form
  obtain ⟨Ay, ly, cy, hye⟩ := hy.form
  obtain rfl : x = .slice Ax lx cx := by simpa using hxe
  obtain rfl : y = .slice Ay ly cy := by simpa using hye
  refine Spec.enter Tryz.func80 rfl Tryz.ntmps80 rfl ?_
  intro w0 hw0
  refine T.seq <| T.region <| SL.w (op_box rfl) ?_
  rintro _ _ _ ⟨B2, rfl, rfl, rfl⟩
  refine SL.w (op_box rfl) ?_
  rintro _ _ _ ⟨B3, rfl, rfl, rfl⟩
  refine SL.v (op_assign (v := .int .i64 ((0 : Nat) : Int)) rfl) <| SL.nil <| T.seq <| T.region <| SL.w (op_alloc z3) ?_
  rintro _ _ _ ⟨B5, rfl, rfl, rfl⟩
  refine SL.w (op_store ty3 rfl rfl (by repeat constructor) rfl rfl rfl) ?_
  rintro _ _ _ ⟨rfl, rfl⟩
  refine SL.nil <| T.seq <| T.seq <| T.region <| SL.v (op_fieldAddr fa119_0 rfl) <| SL.v (op_load ty65 rfl (by repeat constructor) rfl) ?_
  refine SL.w (op_callF en60 (vs := [_]) rfl (all_spec)) ?_
  rintro _ _ X1 ⟨rfl, hX1, B9, rfl, hB9⟩
  refine SL.nil <| T.block <| T.rangeFunc (xs := (ints (mem64 p.1))) rfl en85 rfl rfl (all_seq (hT.mono hX1) (hx.mono hX1) hB9) (fun i own' X' => X1.le X' ∧ own' = [⟨B5, [.int .i64 (gainK o p i : Int)], 3, 1⟩, ⟨B3, [.slice Ax lx cx, .slice Ay ly cy], 119, 2⟩, ⟨B2, [.slice A o.length cp], 78, 1⟩]) ⟨PMap.le_refl _, rfl⟩ (fun i own' X' h => h.1) ?_ ?_
  · rintro i z _ X4 l' r D hz ⟨hX4, rfl⟩
    obtain ⟨hzi, rfl⟩ := ints_some hz
    have hil := hi _ (List.getElem_mem hzi)
    obtain ⟨b, cs, a1, a2, a3, rfl, hB, hc, hS⟩ := h.at hil
    have hX04 := hX1.trans' hX4
    have hB4 := hB.mono hX04
    have hgk := gainK_le o p i
    refine T.block <| T.draw (by kernel_rfl) 10 [.t 0, .t 1, .t 2, .t 3, .t 4, .t 5, .t 6, .r 7, .r 8, .t 9] (by kernel_rfl) ?_
    refine SD.take rfl panicRound (op_load ty3 rfl (by repeat constructor) rfl) rfl rfl ?_
    refine SD.take rfl panicRound (op_load ty78 rfl (by repeat constructor) rfl) rfl rfl ?_
    refine SD.take rfl panicRound (op_move rfl) rfl rfl ?_
    refine SD.take rfl panicRound (op_indexN Tryz.underlying78 ty65 rfl rfl (by omega)) rfl rfl ?_
    refine SD.take rfl panicRound (op_loadX ty65 rfl hB4 (creadR1 hc)) rfl rfl ?_
    refine SD.take rfl panicRound (op_fieldAddr fa119_1 rfl) rfl rfl ?_
    refine SD.take rfl panicRound (op_load ty65 rfl (by repeat constructor) rfl) rfl rfl ?_
    refine SD.run rfl (op_callF en88 (vs := [_, _]) rfl (and_spec (hS.mono hX04) (hy.mono hX04))) rfl rfl ?_
    rintro _ _ X5 ⟨rfl, hX5, hS5⟩
    refine SD.run rfl (op_callF en79 (vs := [_]) rfl (len_exact hS5)) rfl rfl ?_
    rintro _ _ X6 ⟨rfl, hX6, rfl⟩
    have hlm := mem64_length (o[(mem64 p.1)[i]] &&& p.2)
    refine SD.take rfl panicRound (op_addN rfl rfl (by omega)) rfl rfl ?_
    refine SD.nil ?_
    show SL _ _ _ _ _ _ _ [_] _ _ _
    refine SL.w (op_store ty3 rfl rfl (by repeat constructor) rfl rfl rfl) ?_
    rintro _ _ _ ⟨rfl, rfl⟩
    refine SL.nil <| T.blk ?_
    exact T.roundEnd ⟨(hX4.trans' hX5).trans' hX6, by rw [gainK_succ hzi]; simp [csets, vcells, hil]⟩
  · rintro D _ X4 ⟨hX4, rfl⟩
    refine T.blk <| T.seq <| T.region <| SL.v (op_load ty3 rfl (by repeat constructor) rfl) ?_
    refine SL.as rfl <| SL.nil <| T.ret1 rfl (ResIs.tmp rfl) ?_
    rw [show (ints (mem64 p.1)).length = (mem64 p.1).length by simp [ints], gainK, List.take_length]
    rfl
theorem oclone_spec {X : PMap} {v : Value} {o : List Nat} (h : OnesR X v o) (hl : o.length < 100000) : SpecO Tryz.prog 82 [v] X fun u own1 X' => ∃ cs, GrowS 65 1 u o.length cs own1 ∧ SetsR X' cs o := by
  obtain ⟨A, cp, rfl⟩ := h.form
  obtain ⟨cs, hs, hS⟩ := h
  rcases A with _ | ad
  · obtain ⟨h1, h2⟩ := slR_none hs
    refine SpecO.enter Tryz.func82 rfl Tryz.ntmps82 rfl ?_
    intro w0 hw0
    refine T.seq <| T.region <| SL.as rfl <| SL.nil <| T.seq <| T.seq <| T.region <| SL.mv rfl <| SL.v (op_eqlSNil Tryz.underlying78 rfl rfl) <| SL.nil <| T.condT rfl <| T.seq <| T.region <| SL.as rfl <| SL.nil ?_
    refine T.retO1 rfl (ResIs.tmp rfl) ?_
    exact ⟨cs, .inl ⟨h1, h2, rfl, rfl⟩, hS⟩
  · refine SpecO.enter Tryz.func82 rfl Tryz.ntmps82 rfl ?_
    intro w0 hw0
    refine T.seq <| T.region <| SL.as rfl <| SL.nil <| T.seq <| T.seq <| T.region <| SL.mv rfl <| SL.v (op_eqlSNil Tryz.underlying78 rfl rfl) <| SL.nil <| T.condF rfl <| T.skip <| T.seq <| T.region <| SL.w (op_buildSlice Tryz.underlying78 bs65 (qs := []) rfl rfl rfl rfl rfl) ?_
    rintro _ _ _ ⟨B5, rfl, rfl, rfl⟩
    refine SL.mv rfl <| SL.w (op_append (m := o.length) (news := cs) sl78 rfl rfl (by repeat constructor) rfl rfl (Nat.le_refl _) (by decide) (Src.ofSl hs (by rw [hS.1]; omega)) hS.one (by (have : maxLen = 9223372036854775807 := rfl); omega) (by omega)) ?_
    rintro _ _ _ ⟨b7, cap7, rfl, rfl, rfl, hc7, hm7⟩
    refine SL.as rfl <| SL.nil <| T.retO1 rfl (ResIs.tmp rfl) ?_
    exact ⟨cs, .inr ⟨b7, cap7, by rw [Nat.zero_add], by simp, by omega, hm7, by rw [hS.1]; omega⟩, hS⟩
theorem without_ones {X : PMap} (hT : Tab X) {v x y : Value} {o : List Nat} {p : Nat × Nat} (h : OnesR X v o) (hl : o.length ≤ 64) (hx : SetR X (.agg #[x]) p.1) (hy : SetR X (.agg #[y]) p.2) (hi : ∀ i ∈ mem64 p.1, i < o.length) : Spec Tryz.prog 54 [v, .agg #[x, y]] X fun u X' => OnesR X' u (withoutM o p) := by
  obtain ⟨A, cp, rfl⟩ := h.form
  obtain ⟨Ax, lx, cx, hxe⟩ := hx.form
  obtain ⟨Ay, ly, cy, hye⟩ := hy.form
  obtain rfl : x = .slice Ax lx cx := by simpa using hxe
  obtain rfl : y = .slice Ay ly cy := by simpa using hye
  refine Spec.enter Tryz.func54 rfl Tryz.ntmps54 rfl ?_
  intro w0 hw0
  refine T.seq <| T.region <| SL.w (op_box rfl) ?_
  rintro _ _ _ ⟨B3, rfl, rfl, rfl⟩
  refine SL.as rfl <| SL.nil <| T.seq <| T.region <| SL.mv rfl <| SL.w (op_callO en82 (vs := [_]) rfl (oclone_spec h (by omega))) ?_
  rintro s0 _ X1 ⟨G, rfl, hX1, cs0, hG, hS0⟩
  refine SL.perm (List.perm_append_comm) ?_
  obtain ⟨As, cps, rfl⟩ := hG.form
  refine SL.w (op_alloc z78) ?_
  rintro _ _ _ ⟨B5, rfl, rfl, rfl⟩
  refine SL.w (op_store ty78 rfl rfl (by repeat constructor) rfl rfl rfl) ?_
  rintro _ _ _ ⟨rfl, rfl⟩
  refine SL.nil <| T.seq <| T.seq <| T.region <| SL.v (op_fieldAddr fa119_0 rfl) <| SL.v (op_load ty65 rfl (by repeat constructor) rfl) ?_
  refine SL.w (op_callF en60 (vs := [_]) rfl (all_spec)) ?_
  rintro _ _ X2 ⟨rfl, hX2, B11, rfl, hB11⟩
  have hX02 := hX1.trans' hX2
  refine SL.nil <| T.block <| T.rangeFunc (xs := (ints (mem64 p.1))) rfl en85 rfl rfl (all_seq (hT.mono hX02) (hx.mono hX02) hB11) (fun i own' X' => X2.le X' ∧ ∃ (cs : List Value) (G : Own), GrowS 65 1 (.slice As o.length cps) o.length cs G ∧ SetsR X' cs (withoutK o p i) ∧ own' = ⟨B5, [.slice As o.length cps], 78, 1⟩ :: ([⟨B3, [.slice Ax lx cx, .slice Ay ly cy], 119, 2⟩] ++ G)) ⟨PMap.le_refl _, cs0, G, hG, hS0.mono hX2, rfl⟩ (fun i own' X' h => h.1) ?_ ?_
  · rintro i z _ X4 l' r D hz ⟨hX4, cs, G, hG, hS, rfl⟩
    obtain ⟨hzi, rfl⟩ := ints_some hz
    have hil := hi _ (List.getElem_mem hzi)
    have hX04 := hX02.trans' hX4
    have hlk := withoutK_len o p i
    obtain ⟨b, cap, he, rfl, hcap, hcm⟩ := hG.pos (by omega)
    simp only [Value.slice.injEq] at he
    obtain ⟨rfl, _, rfl⟩ := he
    obtain ⟨c, hc1, hc2⟩ := hS.2 (mem64 p.1)[i] (withoutK o p i)[(mem64 p.1)[i]] (by simp [hlk, hil])
    obtain ⟨x1, y1, z1, e1⟩ := hc2.form
    obtain rfl : c = .slice x1 y1 z1 := by simpa using e1
    have hcl : cs.length = o.length := by rw [hS.1, hlk]
    refine T.block <| T.draw (by kernel_rfl) 10 [.t 0, .t 1, .t 2, .t 3, .t 4, .t 5, .t 6, .t 7, .r 8, .t 9] (by kernel_rfl) ?_
    refine SD.take rfl panicRound (op_load ty78 rfl (by repeat constructor) rfl) rfl rfl ?_
    refine SD.take rfl panicRound (op_move rfl) rfl rfl ?_
    refine SD.take rfl panicRound (op_load ty78 rfl (by repeat constructor) rfl) rfl rfl ?_
    refine SD.take rfl panicRound (op_move rfl) rfl rfl ?_
    refine SD.take rfl panicRound (op_indexN Tryz.underlying78 ty65 rfl rfl (by omega)) rfl rfl ?_
    refine SD.take rfl panicRound (op_load ty65 rfl (by repeat constructor) (creadR1 hc1)) rfl rfl ?_
    refine SD.take rfl panicRound (op_fieldAddr fa119_1 rfl) rfl rfl ?_
    refine SD.take rfl panicRound (op_load ty65 rfl (by repeat constructor) rfl) rfl rfl ?_
    refine SD.run rfl (op_callF en61 (vs := [_, _]) rfl (minus_spec hc2 (hy.mono hX04))) rfl rfl ?_
    rintro _ _ X5 ⟨rfl, hX5, hS5⟩
    obtain ⟨A5, l5, c5, rfl⟩ := hS5.form
    refine SD.take rfl panicRound (op_indexN Tryz.underlying78 ty65 rfl rfl (by omega)) rfl rfl ?_
    refine SD.nil ?_
    show SL _ _ _ _ _ _ _ [_] _ _ _
    refine SL.w (op_store ty65 rfl rfl (by repeat constructor) rfl rfl (Nat.ble_eq_true_of_le (by simp; omega))) ?_
    rintro _ _ _ ⟨rfl, rfl⟩
    refine SL.nil <| T.blk ?_
    exact T.roundEnd ⟨hX4.trans' hX5, _, _,   .inr ⟨b, _, rfl, rfl, hcap, hcm, by simp [csets, vcells, hcl]⟩, (by have := (hS.mono hX5).put (i := (mem64 p.1)[i]) (by rw [hlk]; exact hil) hS5; rw [withoutK_succ hzi]; simpa [csets, vcells, minB, hlk, hil] using this), rfl⟩
  · rintro D _ X4 ⟨hX4, cs, G, hG, hS, rfl⟩
    refine T.blk <| T.seq <| T.region <| SL.v (op_load ty78 rfl (by repeat constructor) rfl) ?_
    refine SL.as rfl <| SL.nil <| T.pubG (own0 := [_, _]) hG ?_
    intro X5 hX5 hS5
    refine T.ret1 rfl (ResIs.tmp rfl) ?_
    rw [show (ints (mem64 p.1)).length = (mem64 p.1).length by simp [ints], withoutK_all hl] at hS
    exact ⟨cs, by rw [without_len]; exact hS5, hS.mono hX5⟩
end Go.Proofs.YtmfiencoefbjfaaGreatDoor
namespace Go.Proofs.YtmfiencoefbjfaaGreatDoor
section
set_option maxRecDepth 100000
theorem en51 : Enters Tryz.prog 51 := enters_mk Tryz.func51 (by kernel_rfl) rfl
theorem en80 : Enters Tryz.prog 80 := enters_mk Tryz.func80 (by kernel_rfl) rfl
theorem fa77_1 : FAdr Tryz.prog 77 1 1 := fadr_mk Tryz.underlying77 rfl rfl (by kernel_rfl)
end
open Go.RowKit
theorem bound_spec {X : PMap} (hT : Tab X) {sb : Nat} {pm sl v : Value} {n : Int} {L : List (Nat × Nat)} {o : List Nat} (hB : Blk X sb [pm, sl, .int .i64 n]) (hL : ConL X sl L) (h : OnesR X v o) (hl : o.length ≤ 64) (hi : ∀ p ∈ L, ∀ i ∈ mem64 p.1, i < o.length) (b : Nat) (hb : b ≤ 1000) (hLl : L.length < 100000) :
    Spec Tryz.prog 52 [.pointer (some ⟨sb, 0, none⟩), v, .int .i64 (b : Int)] X fun u _ => u = .bool (decide (b * mostM L o < sizeM o)) := by
  obtain ⟨A, cp, rfl⟩ := hL.form
  refine Spec.enter Tryz.func52 rfl Tryz.ntmps52 rfl ?_
  intro w0 hw0
  refine T.seq <| T.region <| SL.as rfl <| SL.nil <| T.seq <| T.region <| SL.v (op_assign (v := .int .i64 ((0 : Nat) : Int)) rfl) <| SL.nil <| T.seq <| T.seq <| T.region <| SL.mv rfl <| SL.v (op_nil rfl) <| SL.v (op_fieldAddr fa77_1 rfl) <| SL.v (op_loadX ty72 rfl hB rfl) ?_
  refine SL.v (op_lenS Tryz.underlying72 rfl) <| SL.v (op_move (v := .int .i64 ((0 : Nat) : Int)) rfl) <| SL.nil <| T.block <| T.loopW (fun m env own X' => ∃ k : Nat, m = L.length - k ∧ k ≤ L.length ∧ X.le X' ∧ env = [(1, v), (2, .int .i64 (b : Int)), (7, .int .i64 (mostK L o k : Int)), (13, .slice A L.length cp), (14, .int .i64 (L.length : Int)), (15, .int .i64 (k : Int))] ∧ own = []) L.length ⟨0, by simp, by omega, PMap.le_refl _, rfl, rfl⟩ (by repeat (first | exact Sub.nil | refine Sub.cons rfl ?_)) ?_
  rintro m _ _ X2 ⟨k, rfl, hk, hX2, rfl, rfl⟩
  rcases Nat.lt_or_ge k L.length with hkl | hkl
  · obtain ⟨bl, cs, x, y, rfl, hBl, hcx, hcy, hx, hy⟩ := hL.at hkl
    obtain ⟨Ax, lx, cx, hxe⟩ := hx.form
    obtain ⟨Ay, ly, cy, hye⟩ := hy.form
    obtain rfl : x = .slice Ax lx cx := by simpa using hxe
    obtain rfl : y = .slice Ay ly cy := by simpa using hye
    have hB2 := hBl.mono hX2
    have hmk := mostK_le L o k
    refine T.seq <| T.region <| SL.v (op_lssT rfl rfl (by omega)) ?_
    refine SL.nil <| T.seq <| T.condT rfl <| T.skip <| T.seq <| T.block <| T.seq <| T.region <| SL.v (op_indexN Tryz.underlying72 ty119 rfl rfl (by omega)) ?_
    refine SL.v (op_loadX ty119 rfl hB2 (creadR2 hcx hcy (by omega))) ?_
    refine SL.w (op_alloc z119) ?_
    rintro _ _ _ ⟨B9, rfl, rfl, rfl⟩
    refine SL.w (op_store ty119 rfl rfl (by repeat constructor) rfl rfl rfl) ?_
    rintro _ _ _ ⟨rfl, rfl⟩
    refine SL.nil <| T.region <| SL.mv rfl <| SL.mv rfl <| SL.v (op_load ty119 rfl (by repeat constructor) rfl) ?_
    refine SL.w (op_callF en80 (vs := [_, _]) rfl (gain_spec (hT.mono hX2) (h.mono hX2) (hx.mono hX2) (hy.mono hX2) (hi _ (List.getElem_mem hkl)))) ?_
    rintro _ _ X3 ⟨rfl, hX3, rfl⟩
    refine SL.v (op_maxN rfl rfl) <| SL.as rfl <| SL.nil <| T.blk <| T.region <| SL.v (op_addN (q := 1) rfl rfl (by omega)) ?_
    refine SL.mv rfl <| SL.nil <| T.drop B9 (by repeat constructor) ?_
    exact T.backW (L.length - (k + 1)) (by omega) ⟨k + 1, rfl, by omega, hX2.trans' hX3, by rw [mostK_succ hkl], rfl⟩ (by repeat (first | exact Sub.nil | refine Sub.cons rfl ?_))
  · obtain rfl : k = L.length := by omega
    refine T.seq <| T.region <| SL.v (op_lssF rfl rfl (by omega)) ?_
    refine SL.nil <| T.seq <| T.condF rfl ?_
    refine T.exit (T.exitCode (T.exitCut (T.exitBlk ?_)))
    refine T.seq <| T.region <| SL.mv rfl <| SL.w (op_callF en51 (vs := [_]) rfl (osize_spec (h.mono hX2) hl)) ?_
    rintro _ _ X3 ⟨rfl, hX3, rfl⟩
    have e : mostK L o L.length = mostM L o := by rw [mostK, List.take_length]
    have hmk := mostK_le L o L.length
    have hmul : b * mostK L o L.length ≤ 1000 * 4096 := Nat.mul_le_mul hb hmk
    refine SL.mv rfl <| SL.mv rfl <| SL.v (op_mulN rfl rfl (by omega)) ?_
    refine SL.v (op_gtr rfl rfl) <| SL.as rfl <| SL.nil <| T.ret1 rfl (ResIs.tmp rfl) ?_
    rw [e]
    congr 1
    exact decide_eq_decide.2 (by omega)
theorem hasC_at {L : List (Nat × Nat)} {k i j : Nat} (h : k < L.length) : hasC L k i j = (L[k].1.testBit i && L[k].2.testBit j) := by simp [hasC, h]
theorem around_spec {X : PMap} {sb : Nat} {pm sl : Value} {n : Int} {L : List (Nat × Nat)} (hB : Blk X sb [pm, sl, .int .i64 n]) (hL : ConL X sl L) (hLl : L.length < 100000) (i j fr : Nat) (hfr : fr < 100000) :
    SpecO Tryz.prog 81 [.pointer (some ⟨sb, 0, none⟩), .int .i64 (i : Int), .int .i64 (j : Int), .int .i64 (fr : Int)] X fun u own1 _ => GrowS 3 1 u (aroundM L i j fr).length (ints (aroundM L i j fr)) own1 := by
  obtain ⟨A, cp, rfl⟩ := hL.form
  refine SpecO.enter Tryz.func81 rfl Tryz.ntmps81 rfl ?_
  intro w0 hw0
  refine T.seq <| T.region <| SL.as rfl <| SL.nil <| T.seq <| T.region <| SL.as rfl <| SL.nil <| T.seq <| T.seq <| T.region <| SL.mv rfl <| SL.as rfl <| SL.nil <| T.block ?_
  refine T.loopW (fun m env own X' => ∃ (k : Nat) (s : Value), m = L.length - k ∧ fr ≤ k ∧ (k ≤ L.length ∨ k = fr) ∧ X.le X' ∧ GrowS 3 1 s (aroundK L i j fr k).length (ints (aroundK L i j fr k)) own ∧ env = [(0, .pointer (some ⟨sb, 0, none⟩)), (1, .int .i64 (i : Int)), (2, .int .i64 (j : Int)), (9, s), (10, .int .i64 (k : Int))]) (L.length - fr) ⟨fr, _, rfl, Nat.le_refl _, .inr rfl, PMap.le_refl _, by rw [aroundK_start]; exact GrowS.nil, rfl⟩ (by repeat (first | exact Sub.nil | refine Sub.cons rfl ?_)) ?_
  rintro m _ G X2 ⟨k, s, rfl, hfk, hk, hX2, hG, rfl⟩
  have hB2 := hB.mono hX2
  have hal := aroundK_len L i j fr k
  refine T.seq <| T.seq <| T.region <| SL.mv rfl <| SL.mv rfl <| SL.v (op_nil rfl) <| SL.v (op_fieldAddr fa77_1 rfl) <| SL.v (op_loadX ty72 rfl hB2 rfl) ?_
  rcases Nat.lt_or_ge k L.length with hkl | hkl
  · obtain ⟨bl, cs, x, y, rfl, hBl, hcx, hcy, hx, hy⟩ := hL.at hkl
    obtain ⟨Ax, lx, cx, hxe⟩ := hx.form
    obtain ⟨Ay, ly, cy, hye⟩ := hy.form
    obtain rfl : x = .slice Ax lx cx := by simpa using hxe
    obtain rfl : y = .slice Ay ly cy := by simpa using hye
    have hBl2 := hBl.mono hX2
    refine SL.v (op_lenS Tryz.underlying72 rfl) <| SL.v (op_lssT rfl rfl (by omega)) ?_
    refine SL.nil <| T.condT rfl <| T.skip <| T.seq <| T.block <| T.seq <| T.region <| SL.mv rfl <| SL.v (op_nil rfl) <| SL.v (op_fieldAddr fa77_1 rfl) <| SL.v (op_loadX ty72 rfl hB2 rfl) <| SL.mv rfl <| SL.v (op_indexN Tryz.underlying72 ty119 rfl rfl (by omega)) ?_
    refine SL.v (op_fieldAddr fa119_0 rfl) <| SL.v (op_loadX ty65 rfl hBl2 (creadRk hcx (by omega))) ?_
    refine SL.mv rfl <| SL.w (op_callF en63 (vs := [_, _]) rfl (has_spec (hx.mono hX2) (i : Int))) ?_
    rintro _ _ X3 ⟨rfl, hX3, rfl⟩
    rw [hasB_nat]
    have hB3 := hB2.mono hX3
    have hBl3 := hBl2.mono hX3
    have hsu := aroundK_succ (L := L) (i := i) (j := j) hfk
    rw [hasC_at hkl] at hsu
    cases hb1 : L[k].1.testBit i with
    | false =>
      rw [hb1, Bool.false_and, if_neg (by simp)] at hsu
      refine SL.mv rfl <| SL.skip rfl rfl ?_
      refine SL.skip rfl rfl ?_
      refine SL.skip rfl rfl ?_
      refine SL.skip rfl rfl ?_
      refine SL.skip rfl rfl ?_
      refine SL.skip rfl rfl ?_
      refine SL.skip rfl rfl ?_
      refine SL.skip rfl rfl ?_
      refine SL.skip rfl rfl ?_
      refine SL.skip rfl rfl ?_
      refine SL.v (op_pickF rfl rfl) <| SL.nil <| T.condF rfl <| T.skip <| T.blk <| T.region <| SL.mv rfl <| SL.v (op_addN (q := 1) rfl rfl (by omega)) ?_
      refine SL.as rfl <| SL.nil ?_
      exact T.backW (L.length - (k + 1)) (by omega) ⟨k + 1, s, rfl, by omega, .inl (by omega), hX2.trans' hX3, by rw [hsu]; exact hG, rfl⟩ (by repeat (first | exact Sub.nil | refine Sub.cons rfl ?_))
    | true =>
      rw [hb1, Bool.true_and] at hsu
      refine SL.mv rfl <| SL.mv rfl <| SL.v (op_nil rfl) <| SL.v (op_fieldAddr fa77_1 rfl) <| SL.v (op_loadX ty72 rfl hB3 rfl) <| SL.mv rfl <| SL.v (op_indexN Tryz.underlying72 ty119 rfl rfl (by omega)) ?_
      refine SL.v (op_fieldAddr fa119_1 rfl) <| SL.v (op_loadX ty65 rfl hBl3 (creadRk hcy (by omega))) ?_
      refine SL.mv rfl <| SL.w (op_callF en63 (vs := [_, _]) rfl (has_spec ((hy.mono hX2).mono hX3) (j : Int))) ?_
      rintro _ _ X4 ⟨rfl, hX4, rfl⟩
      rw [hasB_nat]
      cases hb2 : L[k].2.testBit j with
      | false =>
        rw [hb2, if_neg (by simp)] at hsu
        refine SL.v (op_pickT rfl rfl) <| SL.nil <| T.condF rfl <| T.skip <| T.blk <| T.region <| SL.mv rfl <| SL.v (op_addN (q := 1) rfl rfl (by omega)) ?_
        refine SL.as rfl <| SL.nil ?_
        exact T.backW (L.length - (k + 1)) (by omega) ⟨k + 1, s, rfl, by omega, .inl (by omega), (hX2.trans' hX3).trans' hX4, by rw [hsu]; exact hG, rfl⟩ (by repeat (first | exact Sub.nil | refine Sub.cons rfl ?_))
      | true =>
        rw [hb2, if_pos rfl] at hsu
        refine SL.v (op_pickT rfl rfl) <| SL.nil <| T.condT rfl <| T.region <| SL.mv rfl <| SL.mv rfl <| SL.w (op_buildSlice Tryz.underlying42 bs3 (qs := [(0, _)]) rfl rfl rfl rfl rfl) ?_
        rintro _ _ _ ⟨B45, rfl, rfl, rfl⟩
        refine SL.w (op_appendG (own0 := []) sl42 rfl hG rfl rfl rfl (by (have : maxLen = 9223372036854775807 := rfl); omega) (by omega)) ?_
        rintro s' G' _ ⟨_, rfl, rfl, hG'⟩
        refine SL.as rfl <| SL.nil <| T.blk <| T.region <| SL.mv rfl <| SL.v (op_addN (q := 1) rfl rfl (by omega)) ?_
        refine SL.as rfl <| SL.nil ?_
        exact T.backW (L.length - (k + 1)) (by omega) ⟨k + 1, s', rfl, by omega, .inl (by omega), (hX2.trans' hX3).trans' hX4, by rw [hsu]; simpa [ints, csets, vcells] using hG', rfl⟩ (by repeat (first | exact Sub.nil | refine Sub.cons rfl ?_))
  · refine SL.v (op_lenS Tryz.underlying72 rfl) <| SL.v (op_lssF rfl rfl (by omega)) ?_
    refine SL.nil <| T.condF rfl ?_
    refine T.exit (T.exitCode (T.exitCut (T.exitBlk ?_)))
    refine T.seq <| T.region <| SL.mv rfl <| SL.as rfl <| SL.nil <| T.retO1 rfl (ResIs.tmp rfl) ?_
    have e : aroundK L i j fr k = aroundM L i j fr := by
      rcases hk with h | rfl
      · obtain rfl : k = L.length := by omega
        rfl
      · rw [aroundK_start, aroundM_over hkl]
    rw [← e]
    exact hG
end Go.Proofs.YtmfiencoefbjfaaGreatDoor
namespace Go.Proofs.YtmfiencoefbjfaaGreatDoor
section
set_option maxRecDepth 100000
theorem en81 : Enters Tryz.prog 81 := enters_mk Tryz.func81 (by kernel_rfl) rfl
theorem ty42 : Ty Tryz.prog 42 false 1 := ⟨⟨_, Tryz.underlying42, rfl⟩, by kernel_rfl⟩
theorem ty75 : Ty Tryz.prog 75 false 1 := ⟨⟨_, Tryz.underlying75, rfl⟩, by kernel_rfl⟩
theorem z4 : Zero Tryz.prog 4 [.bool false] := ⟨zero_of (by kernel_rfl)⟩
theorem z42 : Zero Tryz.prog 42 [.slice none 0 0] := ⟨zero_of (by kernel_rfl)⟩
end
open Go.RowKit
/-- The concepts around the best cell so far. -/
def bestL (L : List (Nat × Nat)) (fr : Nat) : Option (Nat × Nat) → List Nat
  | none => []
  | some p => aroundM L p.1 p.2 fr
theorem perm_tail {a b c d e f g h : Ow} {G G1 : Own} : (G1 ++ (a :: b :: c :: d :: e :: f :: g :: h :: G)).Perm (a :: b :: c :: d :: e :: f :: g :: h :: (G ++ G1)) := List.perm_append_comm (l₁ := G1) (l₂ := a :: b :: c :: d :: e :: f :: g :: h :: G)
theorem aroundM_len (L : List (Nat × Nat)) (i j fr : Nat) : (aroundM L i j fr).length ≤ L.length := aroundK_len L i j fr L.length
theorem cell_spec {X : PMap} (hT : Tab X) {sb : Nat} {pm sl v : Value} {n : Int} {L : List (Nat × Nat)} {o : List Nat} (hB : Blk X sb [pm, sl, .int .i64 n]) (hL : ConL X sl L) (hLl : L.length < 100000) (h : OnesR X v o) (hl : o.length ≤ 64) (fr : Nat) (hfr : fr < 100000) :
    SpecO Tryz.prog 53 [.pointer (some ⟨sb, 0, none⟩), v, .int .i64 (fr : Int)] X fun u own1 _ => ∃ (st : Option (Nat × Nat)) (bv : Value), bestC L o fr o.length 0 st ∧ u = .tuple #[.int .i64 ((st.getD (0, 0)).1 : Int), .int .i64 ((st.getD (0, 0)).2 : Int), bv] ∧ GrowS 3 1 bv (bestL L fr st).length (ints (bestL L fr st)) own1 := by
  obtain ⟨A, cp, rfl⟩ := h.form
  have hw := h.wds
  refine SpecO.enter Tryz.func53 rfl Tryz.ntmps53 rfl ?_
  intro w0 hw0
  refine T.seq <| T.region <| SL.w (op_box rfl) ?_
  rintro _ _ _ ⟨B3, rfl, rfl, rfl⟩
  refine SL.w (op_box rfl) ?_
  rintro _ _ _ ⟨B5, rfl, rfl, rfl⟩
  refine SL.v (op_assign (v := .int .i64 ((0 : Nat) : Int)) rfl) <| SL.v (op_assign (v := .int .i64 ((0 : Nat) : Int)) rfl) <| SL.as rfl <| SL.nil <| T.seq <| T.region <| SL.w (op_alloc z3) ?_
  rintro _ _ _ ⟨B9, rfl, rfl, rfl⟩
  refine SL.w (op_alloc z3) ?_
  rintro _ _ _ ⟨B10, rfl, rfl, rfl⟩
  refine SL.w (op_alloc z42) ?_
  rintro _ _ _ ⟨B11, rfl, rfl, rfl⟩
  refine SL.w (op_alloc z4) ?_
  rintro _ _ _ ⟨B12, rfl, rfl, rfl⟩
  refine SL.w (op_store ty3 rfl rfl (by repeat constructor) rfl rfl rfl) ?_
  rintro _ _ _ ⟨rfl, rfl⟩
  refine SL.w (op_store ty3 rfl rfl (by repeat constructor) rfl rfl rfl) ?_
  rintro _ _ _ ⟨rfl, rfl⟩
  refine SL.w (op_store ty42 rfl rfl (by repeat constructor) rfl rfl rfl) ?_
  rintro _ _ _ ⟨rfl, rfl⟩
  refine SL.w (op_store ty4 rfl rfl (by repeat constructor) rfl rfl rfl) ?_
  rintro _ _ _ ⟨rfl, rfl⟩
  refine SL.nil <| T.seq <| T.seq <| T.region <| SL.mv rfl <| SL.v (op_lenS Tryz.underlying78 rfl) <| SL.v (op_move (v := .int .i64 ((0 : Nat) : Int)) rfl) <| SL.nil <| T.block <| T.loopD (Ds := []) List.nodup_nil (fun m env own X' => ∃ (k : Nat) (st : Option (Nat × Nat)) (bv : Value) (G : Own), m = o.length - k ∧ k ≤ o.length ∧ X.le X' ∧ bestC L o fr k 0 st ∧ GrowS 3 1 bv (bestL L fr st).length (ints (bestL L fr st)) G ∧ env = [(3, .pointer (some ⟨B3, 0, none⟩)), (5, .pointer (some ⟨B5, 0, none⟩)), (9, .pointer (some ⟨B9, 0, none⟩)), (10, .pointer (some ⟨B10, 0, none⟩)), (11, .pointer (some ⟨B11, 0, none⟩)), (12, .pointer (some ⟨B12, 0, none⟩)), (17, .slice A o.length cp), (18, .int .i64 (o.length : Int)), (19, .int .i64 (k : Int))] ∧ own = ⟨B12, [.bool st.isSome], 4, 1⟩ :: ⟨B11, [bv], 42, 1⟩ :: ⟨B10, [.int .i64 ((st.getD (0, 0)).2 : Int)], 3, 1⟩ :: ⟨B9, [.int .i64 ((st.getD (0, 0)).1 : Int)], 3, 1⟩ :: ⟨B5, [.int .i64 (fr : Int)], 3, 1⟩ :: ⟨B3, [.pointer (some ⟨sb, 0, none⟩)], 75, 1⟩ :: G) o.length ⟨0, none, _, _, by simp, by omega, PMap.le_refl _, bestC_start, GrowS.nil, rfl, rfl⟩ (by repeat (first | exact Sub.nil | refine Sub.cons rfl ?_)) ?_
  rintro Ds hDs m _ _ X2 ⟨k, st, bv, G, rfl, hk, hX2, hst, hG, rfl, rfl⟩
  rcases Nat.lt_or_ge k o.length with hkl | hkl
  · obtain ⟨b, cs, x, y, z, rfl, hBo, hc, hS⟩ := h.at hkl
    have hBo2 := hBo.mono hX2
    obtain ⟨Ab, cb, rfl⟩ := hG.form
    refine T.seq <| T.region <| SL.v (op_lssT rfl rfl (by omega)) ?_
    refine SL.nil <| T.seq <| T.condT rfl <| T.skip <| T.seq <| T.block <| T.seq <| T.region <| SL.mv rfl <| SL.v (op_indexN Tryz.underlying78 ty65 rfl rfl (by omega)) ?_
    refine SL.v (op_loadX ty65 rfl hBo2 (creadR1 hc)) <| SL.w (op_alloc z3) ?_
    rintro _ _ _ ⟨B13, rfl, rfl, rfl⟩
    refine SL.w (op_alloc z65) ?_
    rintro _ _ _ ⟨B14, rfl, rfl, rfl⟩
    refine SL.w (op_store ty3 rfl rfl (by repeat constructor) rfl rfl rfl) ?_
    rintro _ _ _ ⟨rfl, rfl⟩
    refine SL.w (op_store ty65 rfl rfl (by repeat constructor) rfl rfl rfl) ?_
    rintro _ _ _ ⟨rfl, rfl⟩
    refine SL.nil <| T.seq <| T.region <| SL.v (op_load ty65 rfl (by repeat constructor) rfl) ?_
    refine SL.w (op_callF en60 (vs := [_]) rfl (all_spec)) ?_
    rintro _ _ X3 ⟨rfl, hX3, B25, rfl, hB25⟩
    have hX03 := hX2.trans' hX3
    refine SL.nil <| T.block <| T.rangeFuncD (Ds := Ds) (xs := (ints (mem64 o[k]))) hDs rfl en85 rfl rfl (all_seq (hT.mono hX03) (hS.mono hX03) hB25) (fun i own' X' => X3.le X' ∧ ∃ (st : Option (Nat × Nat)) (bv : Value) (G : Own), bestC L o fr k i st ∧ GrowS 3 1 bv (bestL L fr st).length (ints (bestL L fr st)) G ∧ own' = ⟨B14, [.slice x y z], 65, 1⟩ :: ⟨B13, [.int .i64 (k : Int)], 3, 1⟩ :: ⟨B12, [.bool st.isSome], 4, 1⟩ :: ⟨B11, [bv], 42, 1⟩ :: ⟨B10, [.int .i64 ((st.getD (0, 0)).2 : Int)], 3, 1⟩ :: ⟨B9, [.int .i64 ((st.getD (0, 0)).1 : Int)], 3, 1⟩ :: ⟨B5, [.int .i64 (fr : Int)], 3, 1⟩ :: ⟨B3, [.pointer (some ⟨sb, 0, none⟩)], 75, 1⟩ :: G) ⟨PMap.le_refl _, st, _, G, hst, hG, rfl⟩ (fun i own' X' h => h.1) ?_ ?_
    · rintro i w _ X4 l' r D hz ⟨hX4, st, bv, G, hst, hG, rfl⟩
      obtain ⟨hzi, rfl⟩ := ints_some hz
      have hX04 := hX03.trans' hX4
      have hgo : o.getD k 0 = o[k] := by simp [hkl]
      have hzi' : i < (mem64 (o.getD k 0)).length := by rw [hgo]; exact hzi
      have hzj : (mem64 (o.getD k 0))[i] = (mem64 o[k])[i] := by simp only [hgo]
      refine T.block <| T.seq <| T.region <| SL.v (op_load ty75 rfl (by repeat constructor) rfl) ?_
      refine SL.v (op_load ty3 rfl (by repeat constructor) rfl) ?_
      refine SL.mv rfl <| SL.v (op_load ty3 rfl (by repeat constructor) rfl) ?_
      refine SL.w (op_callO en81 (vs := [_, _, _, _]) rfl (around_spec (hB.mono hX04) (hL.mono hX04) hLl k ((mem64 o[k])[i] : Nat) fr hfr)) ?_
      rintro lv _ X5 ⟨G1, rfl, hX5, hG1⟩
      have hl1 := aroundM_len L k (mem64 o[k])[i] fr
      refine SL.perm perm_tail ?_
      obtain ⟨A1, c1, rfl⟩ := hG1.form
      obtain ⟨Ab, cb, rfl⟩ := hG.form
      cases st with
      | none =>
        refine SL.as rfl <| SL.nil <| T.seq <| T.region <| SL.v (op_load ty4 rfl (by repeat constructor) rfl) ?_
        refine SL.v (op_not rfl) <| SL.mv rfl <| SL.skip rfl rfl ?_
        refine SL.skip rfl rfl ?_
        refine SL.skip rfl rfl ?_
        refine SL.skip rfl rfl ?_
        refine SL.skip rfl rfl ?_
        refine SL.v (op_pickT rfl rfl) <| SL.nil <| T.condT rfl <| T.region <| SL.v (op_load ty3 rfl (by repeat constructor) rfl) ?_
        refine SL.mv rfl <| SL.mv rfl <| SL.w (op_store ty3 rfl rfl (by repeat constructor) rfl rfl rfl) ?_
        rintro _ _ _ ⟨rfl, rfl⟩
        refine SL.w (op_store ty3 rfl rfl (by repeat constructor) rfl rfl rfl) ?_
        rintro _ _ _ ⟨rfl, rfl⟩
        refine SL.w (op_store ty42 rfl rfl (by repeat constructor) rfl rfl rfl) ?_
        rintro _ _ _ ⟨rfl, rfl⟩
        refine SL.w (op_store ty4 rfl rfl (by repeat constructor) rfl rfl rfl) ?_
        rintro _ _ _ ⟨rfl, rfl⟩
        refine SL.nil <| T.blk <| T.less (own' := _ :: _ :: _ :: _ :: _ :: _ :: _ :: _ :: G1) (((((((((List.sublist_append_right G G1).cons_cons _).cons_cons _).cons_cons _).cons_cons _).cons_cons _).cons_cons _).cons_cons _).cons_cons _) ?_
        exact T.roundEnd ⟨hX4.trans' hX5, some (k, (mem64 o[k])[i]), _, G1, (by have := bestC_new hzi' hst (fun r c h => by cases h); rwa [hzj] at this), hG1, rfl⟩
      | some rc =>
        obtain ⟨r0, c0⟩ := rc
        have hl0 := aroundM_len L r0 c0 fr
        by_cases hlt : (aroundM L k (mem64 o[k])[i] fr).length < (aroundM L r0 c0 fr).length
        · have hlt' : (aroundM L k (mem64 o[k])[i] fr).length < (bestL L fr (some (r0, c0))).length := hlt
          refine SL.as rfl <| SL.nil <| T.seq <| T.region <| SL.v (op_load ty4 rfl (by repeat constructor) rfl) ?_
          refine SL.v (op_not rfl) <| SL.mv rfl <| SL.mv rfl <| SL.v (op_lenS Tryz.underlying42 rfl) <| SL.v (op_load ty42 rfl (by repeat constructor) rfl) ?_
          refine SL.v (op_lenS Tryz.underlying42 rfl) <| SL.v (op_lssT rfl rfl (by omega)) ?_
          refine SL.v (op_pickF rfl rfl) <| SL.nil <| T.condT rfl <| T.region <| SL.v (op_load ty3 rfl (by repeat constructor) rfl) ?_
          refine SL.mv rfl <| SL.mv rfl <| SL.w (op_store ty3 rfl rfl (by repeat constructor) rfl rfl rfl) ?_
          rintro _ _ _ ⟨rfl, rfl⟩
          refine SL.w (op_store ty3 rfl rfl (by repeat constructor) rfl rfl rfl) ?_
          rintro _ _ _ ⟨rfl, rfl⟩
          refine SL.w (op_store ty42 rfl rfl (by repeat constructor) rfl rfl rfl) ?_
          rintro _ _ _ ⟨rfl, rfl⟩
          refine SL.w (op_store ty4 rfl rfl (by repeat constructor) rfl rfl rfl) ?_
          rintro _ _ _ ⟨rfl, rfl⟩
          refine SL.nil <| T.blk <| T.less (own' := _ :: _ :: _ :: _ :: _ :: _ :: _ :: _ :: G1) (((((((((List.sublist_append_right G G1).cons_cons _).cons_cons _).cons_cons _).cons_cons _).cons_cons _).cons_cons _).cons_cons _).cons_cons _) ?_
          exact T.roundEnd ⟨hX4.trans' hX5, some (k, (mem64 o[k])[i]), _, G1, (by have := bestC_new hzi' hst (fun r c h => by cases h; rw [hzj]; exact hlt); rwa [hzj] at this), hG1, rfl⟩
        · have hlt' : (bestL L fr (some (r0, c0))).length ≤ (aroundM L k (mem64 o[k])[i] fr).length := by show (aroundM L r0 c0 fr).length ≤ _; omega
          refine SL.as rfl <| SL.nil <| T.seq <| T.region <| SL.v (op_load ty4 rfl (by repeat constructor) rfl) ?_
          refine SL.v (op_not rfl) <| SL.mv rfl <| SL.mv rfl <| SL.v (op_lenS Tryz.underlying42 rfl) <| SL.v (op_load ty42 rfl (by repeat constructor) rfl) ?_
          refine SL.v (op_lenS Tryz.underlying42 rfl) <| SL.v (op_lssF rfl rfl (by omega)) ?_
          refine SL.v (op_pickF rfl rfl) <| SL.nil <| T.condF rfl <| T.skip <| T.blk <| T.less (own' := _ :: _ :: _ :: _ :: _ :: _ :: _ :: _ :: G) (((((((((List.sublist_append_left G G1).cons_cons _).cons_cons _).cons_cons _).cons_cons _).cons_cons _).cons_cons _).cons_cons _).cons_cons _) ?_
          exact T.roundEnd ⟨hX4.trans' hX5, some (r0, c0), _, G, bestC_old hzi' hst (by rw [hzj]; omega), hG, rfl⟩
    · rintro D _ X4 hDs' ⟨hX4, st, bv, G, hst, hG, rfl⟩
      have hgo : o.getD k 0 = o[k] := by simp [hkl]
      refine T.blk <| T.blk <| T.region <| SL.v (op_addN (q := 1) rfl rfl (by omega)) ?_
      refine SL.mv rfl <| SL.nil <| T.drop B14 (by repeat constructor) ?_
      refine T.drop B13 (by repeat constructor) ?_
      exact T.backD hDs' (o.length - (k + 1)) (by omega) ⟨k + 1, st, bv, G, rfl, by omega, hX03.trans' hX4, bestC_row hw (by rw [show (ints (mem64 o[k])).length = (mem64 o[k]).length by simp [ints], ← hgo] at hst; exact hst), hG, rfl, rfl⟩ (by repeat (first | exact Sub.nil | refine Sub.cons rfl ?_))
  · obtain rfl : k = o.length := by omega
    refine T.seq <| T.region <| SL.v (op_lssF rfl rfl (by omega)) ?_
    refine SL.nil <| T.seq <| T.condF rfl ?_
    refine T.exit (T.exitCode (T.exitCut (T.exitBlk ?_)))
    refine T.seq <| T.draw (by kernel_rfl) 6 [.t 0, .t 1, .t 2, .t 3, .t 4, .t 5] (by kernel_rfl) ?_
    refine SD.take rfl panicBody (op_load ty3 rfl (by repeat constructor) rfl) rfl rfl ?_
    refine SD.take rfl panicBody (op_load ty3 rfl (by repeat constructor) rfl) rfl rfl ?_
    refine SD.take rfl panicBody (op_load ty42 rfl (by repeat constructor) rfl) rfl rfl ?_
    refine SD.take rfl panicBody (op_assign rfl) rfl rfl ?_
    refine SD.take rfl panicBody (op_assign rfl) rfl rfl ?_
    refine SD.take rfl panicBody (op_assign rfl) rfl rfl ?_
    refine SD.nil ?_
    show SL _ _ _ _ _ _ _ [] _ _ _
    refine SL.nil ?_
    refine T.retOD (own' := G) (fun _ _ ha _ => run_results3 rfl rfl rfl rfl ha) ((((((List.sublist_append_right [] G).cons _).cons _).cons _).cons _).cons _ |>.cons _) ?_ ⟨_, rfl, rfl, hDs⟩
    exact ⟨st, bv, hst, rfl, hG⟩
end Go.Proofs.YtmfiencoefbjfaaGreatDoor
namespace Go.Proofs.YtmfiencoefbjfaaGreatDoor
open Go.RowKit
section
variable {ro : Option Nat} {P : Program} {n : NM} {w0 : Base} {X0 X : PMap} {own : Own} {env : Env}
/-- A byte of a string. -/
theorem op_idxStr {t : TypeId} {x y : Operand} {k : IntKind} {ii : Int} {i : Nat} {s : ByteArray} {b : UInt8} (ht : P.underlying t = some .string) (hx : eev env x = some (.string s)) (hy : eev env y = some (.int k ii)) (hii : ii = (i : Int)) (hv : s[i]? = some b) :
    OpY P n env own X (.index t x y) (.int .u8 (b.toNat : Int)) := by
  intro a W oper hop ha _
  subst hii
  simp [execOp, hop, Instr.index, asIntOf, ha.eval hx, ha.eval hy, run_underlying ht, hv]
theorem Sat.ne {W : World} (h : Sat w0 X0 own X W) {b1 b2 j1 j2 : Nat} {p1 p2 : Ow} (h1 : own[j1]? = some p1) (h2 : own[j2]? = some p2) (hne : j1 ≠ j2) (e1 : p1.b = b1) (e2 : p2.b = b2) : b1 ≠ b2 := by
  obtain ⟨l1, g1⟩ := List.getElem?_eq_some_iff.1 h1
  obtain ⟨l2, g2⟩ := List.getElem?_eq_some_iff.1 h2
  have hp := List.pairwise_iff_getElem.1 h.nodup
  subst e1 e2
  rcases Nat.lt_or_gt_of_ne hne with hlt | hgt
  · have := hp j1 j2 l1 l2 hlt; rw [g1, g2] at this; exact this
  · have := hp j2 j1 l2 l1 hgt; rw [g1, g2] at this; exact fun e => this e.symm
theorem SL.ne {Q : Exit → Act → World → Prop} {ops : Array Oper} {l : List Oper} {b1 b2 sz1 sz2 j1 j2 : Nat} {cs1 cs2 : List Value} {tyA tyB : TypeId} (h1 : AtO own b1 cs1 tyA sz1 j1) (h2 : AtO own b2 cs2 tyB sz2 j2) (hne : j1 ≠ j2)
    (h : b1 ≠ b2 → SL ro P n w0 X0 ops Q l env own X) : SL ro P n w0 X0 ops Q l env own X := fun a W ha hs => h (hs.ne h1.get h2.get hne rfl rfl) a W ha hs
theorem T.ne {Q : Exit → Act → World → Prop} {k : List It} {e : Option Nat} {b1 b2 sz1 sz2 j1 j2 : Nat} {cs1 cs2 : List Value} {tyA tyB : TypeId} (h1 : AtO own b1 cs1 tyA sz1 j1) (h2 : AtO own b2 cs2 tyB sz2 j2) (hne : j1 ≠ j2)
    (h : b1 ≠ b2 → T ro P n w0 X0 Q k e env own X) : T ro P n w0 X0 Q k e env own X := fun a W ha hs => h (hs.ne h1.get h2.get hne rfl rfl) a W ha hs
theorem op_sliceHiN {t e : TypeId} {x y : Operand} {b o len cap size l : Nat} {row : Bool} {kk : IntKind} {ll : Int} (ht : P.underlying t = some (.slice e)) (he : Ty P e row size) (hx : eev env x = some (.slice (some ⟨b, o, none⟩) len cap))
    (hy : eev env y = some (.int kk ll)) (hl : ll = (l : Int)) (h2 : l ≤ cap) : OpY P n env own X (.slice t x none (some y) none) (.slice (some ⟨b, o, none⟩) l cap) := by
  subst hl
  have := op_slice (n := n) (own := own) (X := X) (lo := none) (hi := some y) (l := 0) (h := l) ht he hx (fun _ h => by cases h) (fun _ => rfl) (fun q h => by cases h; exact ⟨kk, hy⟩) (fun h => by cases h) (Nat.zero_le _) h2
  simpa using this
end
end Go.Proofs.YtmfiencoefbjfaaGreatDoor
namespace Go.Proofs.YtmfiencoefbjfaaGreatDoor
open Go.RowKit
theorem SpecO.pubG {P : Program} {f : FuncId} {args : List Value} {X : PMap} {ty : TypeId} {size : Nat} {len : Nat} {cs : List Value} (h : SpecO P f args X fun u own1 _ => GrowS ty size u len cs own1) : Spec P f args X fun u X' => SliceR X' u len cs := fun w hw =>
  (h w hw).mono fun e w' ⟨v, own, X', he, hs, hG⟩ => by
    have hs' : Sat ⟨w, []⟩ X ([] ++ own) X' w' := ⟨by simpa using hs, fun p hp => by cases hp⟩
    obtain ⟨X2, h1, h2, h3⟩ := hs'.pubG hG
    exact ⟨v, X2, he, h3.below, h3.stab.pers, h3.old, h2⟩
end Go.Proofs.YtmfiencoefbjfaaGreatDoor
namespace Go.Proofs.YtmfiencoefbjfaaGreatDoor
open Go.RowKit
section
variable {ro : Option Nat} {P : Program} {n : NM} {w0 : Base} {X0 X : PMap} {own : Own} {env : Env}
/-- Less is known of an own row. -/
theorem Sat.less {W : World} (h : Sat w0 X0 own X W) {j b sz : Nat} {cs ds : List Value} {ty : TypeId} (hj : own[j]? = some ⟨b, cs ++ ds, ty, sz⟩) : Sat w0 X0 (own.set j ⟨b, cs, ty, sz⟩) X W := by
  obtain ⟨r, hr, hz⟩ := h.stab.own _ (List.mem_of_getElem? hj)
  simp only at hr hz
  refine h.regrow hj ⟨rfl, rfl, rfl, Nat.le_refl _, fun _ _ _ => rfl⟩ (.inl rfl) ⟨ds ++ r, ?_, ?_⟩
  · rw [← List.append_assoc]; exact hr
  · simp only [List.length_append] at hz ⊢; omega
theorem SL.cut {Q : Exit → Act → World → Prop} {ops : Array Oper} {l : List Oper} {j b sz : Nat} {cs ds : List Value} {ty : TypeId} (hj : AtO own b (cs ++ ds) ty sz j)
    (h : SL ro P n w0 X0 ops Q l env (own.set j ⟨b, cs, ty, sz⟩) X) : SL ro P n w0 X0 ops Q l env own X := fun a W ha hs => h a W ha (hs.less hj.get)
theorem T.cut {Q : Exit → Act → World → Prop} {k : List It} {ex : Option Nat} {j b sz : Nat} {cs ds : List Value} {ty : TypeId} (hj : AtO own b (cs ++ ds) ty sz j)
    (h : T ro P n w0 X0 Q k ex env (own.set j ⟨b, cs, ty, sz⟩) X) : T ro P n w0 X0 Q k ex env own X := fun a W ha hs => h a W ha (hs.less hj.get)
end
end Go.Proofs.YtmfiencoefbjfaaGreatDoor
namespace Go.Proofs.YtmfiencoefbjfaaGreatDoor
open Go.RowKit
section
variable {ro : Option Nat} {P : Program} {n : NM} {w0 : Base} {X0 X : PMap} {own : Own} {env : Env} {t t' : TypeId} {x y : Operand}
/-- append of a slice onto what has grown. -/
theorem op_appendGM {e : TypeId} {s : Operand} {v u : Value} {len m size bytes : Nat} {cs news : List Value} {own0 G : Own} (ht : SlT P t e size bytes) (hs : eev env s = some v) (hg : GrowS e size v len cs G) (hx : eev env x = some u)
    (hsrc : Src (own0 ++ G) X u m size news) (hm : 0 < m) (h1 : ∀ y ∈ news, y.oneCell' = true) (hlen : len + m ≤ maxLen) (hby : (len + m) * bytes ≤ 140737488355328) :
    OpX P n w0 X0 env (own0 ++ G) X (.call { callee := .builtin .append, args := #[s, x], argTypes := #[t, t] }) false fun v' own' X' => ∃ G', own' = own0 ++ G' ∧ X = X' ∧ GrowS e size v' (len + m) (cs ++ news) G' := by
  have hnl := hsrc.1
  rcases hg with ⟨rfl, rfl, rfl, rfl⟩ | ⟨b, cap, rfl, rfl, hlc, hcm, hcl⟩
  · refine (op_appendNil (m := m) (news := news) ht hs hx hsrc hm h1 (by simpa using hlen) (by simpa using hby)).weaken ?_
    rintro v' own' X' ⟨b', cap', rfl, rfl, rfl, hc1, hc2⟩
    refine ⟨own0 ++ [⟨b', news, e, cap' * size⟩], ⟨b', news, e, cap' * size⟩ :: own0, ⟨_, rfl, rfl, .inr ⟨b', cap', by simp, by simp, by omega, hc2, by simp [hnl]⟩⟩, ?_, (List.perm_append_singleton ..).symm⟩
    rw [List.append_nil]
    exact List.Sublist.refl _
  · refine (op_append (m := m) (news := news) (j := own0.length + 0) ht hs hx ((AtO.here (l := []) (b := b) (cs := cs) (ty := e) (sz := cap * size)).append own0) rfl hcl hlc hcm hsrc h1 hlen hby).weaken ?_
    rintro v' own' X' ⟨b', cap', rfl, rfl, rfl, hc1, hc2⟩
    refine ⟨own0 ++ [⟨b', cs ++ news, e, cap' * size⟩], _, ⟨_, rfl, rfl, .inr ⟨b', cap', rfl, rfl, hc1, hc2, by simp [hcl, hnl, Nat.add_mul]⟩⟩, ?_, .refl _⟩
    have e1 : (own0 ++ [(⟨b, cs, e, cap * size⟩ : Ow)]).set (own0.length + 0) ⟨b', cs ++ news, e, cap' * size⟩ = own0 ++ [⟨b', cs ++ news, e, cap' * size⟩] := by
      simp
    rw [e1]
    exact List.Sublist.refl _
end
/-- Of these bytes, those before i and those behind j have changed places. -/
def RevI (l m : List Nat) (i j : Nat) : Prop := m.length = l.length ∧ ∀ q, q < l.length → m[q]? = if q < i ∨ j < q then l[l.length - 1 - q]? else l[q]?
theorem RevI.fin {l m : List Nat} {i j : Nat} (h : RevI l m i j) (hij : i + j = l.length - 1) (hi : j ≤ i) : m = l.reverse := by
  apply List.ext_getElem?
  intro q
  rcases Nat.lt_or_ge q l.length with hq | hq
  · rw [h.2 q hq, List.getElem?_reverse hq]
    split
    · rfl
    · have : l.length - 1 - q = q := by omega
      rw [this]
  · rw [List.getElem?_eq_none (by rw [h.1]; omega), List.getElem?_eq_none (by simpa using hq)]
theorem RevI.step {l m : List Nat} {i j x y : Nat} (h : RevI l m i j) (hij : i + j = l.length - 1) (hi : i < j) (h0 : 0 < l.length) (hx : m[i]? = some x) (hy : m[j]? = some y) : RevI l ((m.set i y).set j x) (i + 1) (j - 1) := by
  refine ⟨by simp [h.1], fun q hq => ?_⟩
  have hml := h.1
  have ex : l[i]? = some x := by have := h.2 i (by omega); rw [if_neg (by omega), hx] at this; exact this.symm
  have ey : l[j]? = some y := by have := h.2 j (by omega); rw [if_neg (by omega), hy] at this; exact this.symm
  by_cases e1 : j = q
  · subst e1
    rw [List.getElem?_set_self (by simp; omega), if_pos (by omega), show l.length - 1 - j = i by omega, ex]
  · rw [List.getElem?_set_ne e1]
    by_cases e2 : i = q
    · subst e2
      rw [List.getElem?_set_self (by omega), if_pos (by omega), show l.length - 1 - i = j by omega, ey]
    · rw [List.getElem?_set_ne e2, h.2 q hq]
      by_cases hc : q < i ∨ j < q
      · rw [if_pos hc, if_pos (by omega)]
      · rw [if_neg hc, if_neg (by omega)]
end Go.Proofs.YtmfiencoefbjfaaGreatDoor
namespace Go.Proofs.YtmfiencoefbjfaaGreatDoor
open Go.RowKit
section
variable {α : Type} {rc : α → List Value}
def RowR (rc : α → List Value) (X : PMap) (v : Value) (rs : List α) : Prop :=
  (rs = [] ∧ ∃ A c, v = .slice A 0 c) ∨ (0 < rs.length ∧ ∃ b c pre, v = .slice (some ⟨b, List.length pre, none⟩) rs.length c ∧ Blk X b (pre ++ (rs.map rc).flatten) ∧ rs.length ≤ c ∧ c ≤ maxLen)
theorem RowR.nil {X : PMap} {A : Option Addr} {c : Nat} : RowR rc X (.slice A 0 c) [] := .inl ⟨rfl, _, _, rfl⟩
theorem RowR.mono {X X' : PMap} {v : Value} {rs : List α} (h : RowR rc X v rs) (hX : X.le X') : RowR rc X' v rs := by
  rcases h with h | ⟨h0, b, c, pre, hv, hb, hc⟩
  · exact .inl h
  · exact .inr ⟨h0, b, c, pre, hv, hb.mono hX, hc⟩
theorem RowR.form {X : PMap} {v : Value} {rs : List α} (h : RowR rc X v rs) : ∃ A cp, v = .slice A rs.length cp := by
  rcases h with ⟨rfl, A, c, rfl⟩ | ⟨_, b, c, pre, rfl, _⟩
  · exact ⟨_, _, rfl⟩
  · exact ⟨_, _, rfl⟩
theorem RowR.blk {X : PMap} {A : Option Addr} {cp len : Nat} {rs : List α} (h : RowR rc X (.slice A len cp) rs) (h0 : 0 < rs.length) : ∃ b pre, A = some ⟨b, List.length pre, none⟩ ∧ Blk X b (pre ++ (rs.map rc).flatten) := by
  rcases h with ⟨rfl, _⟩ | ⟨_, b, c, pre, hv, hb, _⟩
  · simp at h0
  · simp only [Value.slice.injEq] at hv
    exact ⟨b, pre, hv.1, hb⟩
theorem RowR.cap {X : PMap} {A : Option Addr} {cp len : Nat} {rs : List α} (h : RowR rc X (.slice A len cp) rs) (h0 : 0 < rs.length) : rs.length ≤ cp ∧ cp ≤ maxLen := by
  rcases h with ⟨rfl, _⟩ | ⟨_, b, c, pre, hv, hb, h1, h2⟩
  · simp at h0
  · simp only [Value.slice.injEq] at hv
    rw [hv.2.2]; exact ⟨h1, h2⟩
theorem rows_len {sz : Nat} (hrc : ∀ x, (rc x).length = sz) : ∀ rs : List α, ((rs.map rc).flatten).length = rs.length * sz
  | [] => by simp
  | r :: rs => by
    rw [List.map_cons, List.flatten_cons, List.length_append, hrc, rows_len hrc rs, List.length_cons, Nat.succ_mul]; omega
/-- The first of these rows. -/
theorem RowR.take {X : PMap} {A : Option Addr} {cp sz : Nat} {rs : List α} (h : RowR rc X (.slice A rs.length cp) rs) {k : Nat} (hk : k ≤ rs.length) : RowR rc X (.slice (slA A cp 0 sz) k cp) (rs.take k) := by
  rcases Nat.eq_zero_or_pos k with rfl | h0
  · exact .inl ⟨by simp, _, _, rfl⟩
  · obtain ⟨b, pre, rfl, hB⟩ := h.blk (by omega)
    obtain ⟨hc, hm⟩ := h.cap (by omega)
    have hcp : cp ≠ 0 := by omega
    refine .inr ⟨by simp; omega, b, cp, pre, ?_, ?_, by rw [List.length_take]; omega, hm⟩
    · rw [slA, if_neg hcp, List.length_take, Nat.min_eq_left hk]; simp [Addr.add]
    · obtain ⟨rest, ty, fr, hx⟩ := hB
      refine ⟨((rs.drop k).map rc).flatten ++ rest, ty, fr, ?_⟩
      have e : (rs.map rc).flatten = ((rs.take k).map rc).flatten ++ ((rs.drop k).map rc).flatten := by rw [← List.flatten_append, ← List.map_append, List.take_append_drop]
      rw [hx, e]
      simp
end
end Go.Proofs.YtmfiencoefbjfaaGreatDoor
namespace Go.Proofs.YtmfiencoefbjfaaGreatDoor
open Go.RowKit
section
variable {ro : Option Nat} {P : Program} {n : NM} {w0 : Base} {X0 X : PMap} {own : Own} {env : Env} {fn : Func} {Φ : Value → Own → PMap → Prop}
theorem T.retM0 {k : List It} {s : Nat} {own0 : Own} (L' : Own) (hr : fn.results = #[]) (hp : own.Perm (L' ++ own0)) (hΦ : Φ (.tuple #[]) L' X) : T ro P ⟨s, []⟩ w0 X0 (bodyQ P fn (FinM w0 X0 own0 Φ)) (.code .ret :: k) none env own X := T.retM (fun _ _ _ _ => run_results0 hr) hp hΦ
theorem SD.perm {ops : Array Oper} {Q : Exit → Act → World → Prop} {nh : Nat} {st : Option Nat} {ownS own' : Own} {XS : PMap} {pl : List Pl} (hp : own.Perm own') (h : SD ro P n w0 X0 ops Q nh st ownS XS pl env own' X) : SD ro P n w0 X0 ops Q nh st ownS XS pl env own X :=
  fun listed a W h1 h2 h3 h4 h5 h6 hs hst => h listed a W h1 h2 h3 h4 h5 h6 (hs.perm hp) hst
/-- What the branches of a code have in common. -/
theorem T.meet {Q : Exit → Act → World → Prop} {c : Code} {k : List It} (J : Fam) (h1 : T ro P n w0 X0 Q (.code c :: backTo n w0 X0 J 1 :: k) none env own X) (h2 : ∀ m env own X, J m env own X → T ro P n w0 X0 Q k none env own X) : T ro P n w0 X0 Q (.code c :: k) none env own X := by
  intro a W ha hs
  refine runL_code (Code.wpIn_mono (fun e a w h => ?_) (runL_code_iff.1 (h1 a W ha hs)))
  cases e with
  | normal =>
    obtain ⟨m', _, env', own', X', hI, ha', hs'⟩ := h
    exact h2 m' env' own' X' hI a w ha' hs'
  | exit id => exact h
  | _ => exact h
theorem Src.zero {v : Value} {size : Nat} {news : List Value} (h : Src own X v 0 size news) : news = [] ∧ ∃ A c, v = .slice A 0 c := by
  obtain ⟨h1, A, c, rfl, _⟩ := h
  exact ⟨List.eq_nil_of_length_eq_zero (by simpa using h1), A, c, rfl⟩
theorem OpY.toX {o : Op} {v : Value} (hn : noDefer o = true) (h : OpY P n env own X o v) : OpX P n w0 X0 env own X o false fun v' own' X' => v' = v ∧ own' = own ∧ X' = X := by
  intro a W oper K Q ro hop ha hs hK
  exact wp_value (noDefer_spec (by rw [hop]; exact hn)) (h a W _ hop ha hs.stab) (hK _ _ _ _ ⟨rfl, rfl, rfl⟩ hs fun h => by cases h)
/-- append of a slice, empty or not, onto what has grown. -/
theorem op_appendGA {t e : TypeId} {s x : Operand} {v u : Value} {len m size bytes : Nat} {cs news : List Value} {own0 G : Own} (ht : SlT P t e size bytes) (hs : eev env s = some v) (hg : GrowS e size v len cs G) (hx : eev env x = some u)
    (hsrc : Src (own0 ++ G) X u m size news) (h1 : ∀ y ∈ news, y.oneCell' = true) (hlen : len + m ≤ maxLen) (hby : (len + m) * bytes ≤ 140737488355328) :
    OpX P n w0 X0 env (own0 ++ G) X (.call { callee := .builtin .append, args := #[s, x], argTypes := #[t, t] }) false fun v' own' X' => ∃ G', own' = own0 ++ G' ∧ X = X' ∧ GrowS e size v' (len + m) (cs ++ news) G' := by
  rcases Nat.eq_zero_or_pos m with rfl | hm
  · obtain ⟨rfl, A, c, rfl⟩ := hsrc.zero
    rcases hg with ⟨rfl, rfl, rfl, rfl⟩ | ⟨b, cap, rfl, rfl, hlc, hcm, hcl⟩
    · refine (OpY.toX rfl (op_appendNil0 ht hs hx)).weaken ?_
      rintro v' own' X' ⟨rfl, rfl, rfl⟩
      exact ⟨own0 ++ [], own0 ++ [], ⟨[], rfl, rfl, by simpa using GrowS.nil⟩, List.Sublist.refl _, .refl _⟩
    · refine (op_append (m := 0) (news := []) (j := own0.length + 0) ht hs hx ((AtO.here (l := []) (b := b) (cs := cs) (ty := e) (sz := cap * size)).append own0) rfl hcl hlc hcm hsrc h1 hlen hby).weaken ?_
      rintro v' own' X' ⟨b', cap', rfl, rfl, rfl, hc1, hc2⟩
      refine ⟨own0 ++ [⟨b', cs ++ [], e, cap' * size⟩], _, ⟨_, rfl, rfl, .inr ⟨b', cap', rfl, rfl, hc1, hc2, by simp [hcl]⟩⟩, ?_, .refl _⟩
      have e1 : (own0 ++ [(⟨b, cs, e, cap * size⟩ : Ow)]).set (own0.length + 0) ⟨b', cs ++ [], e, cap' * size⟩ = own0 ++ [⟨b', cs ++ [], e, cap' * size⟩] := by
        simp
      rw [e1]
      exact List.Sublist.refl _
  · exact op_appendGM ht hs hg hx hsrc hm h1 hlen hby
end
/-- Rows from the place k on. -/
theorem RowR.drop {α : Type} {rc : α → List Value} {X : PMap} {A : Option Addr} {cp sz : Nat} (hrc : ∀ x, (rc x).length = sz) {rs : List α} (h : RowR rc X (.slice A rs.length cp) rs) {k : Nat} (hk : k ≤ rs.length) : RowR rc X (.slice (slA A cp k sz) (rs.length - k) (cp - k)) (rs.drop k) := by
  rcases Nat.eq_or_lt_of_le hk with rfl | h0
  · exact .inl ⟨by simp, _, _, by rw [Nat.sub_self]⟩
  · obtain ⟨b, pre, rfl, hB⟩ := h.blk (by omega)
    obtain ⟨hc, hm⟩ := h.cap (by omega)
    refine .inr ⟨by simp; omega, b, cp - k, pre ++ ((rs.take k).map rc).flatten, ?_, ?_, by rw [List.length_drop]; omega, by omega⟩
    · rw [slA, if_neg (by omega), List.length_append, rows_len hrc, List.length_take, Nat.min_eq_left hk, List.length_drop]; simp [Addr.add]
    · rwa [List.append_assoc, ← List.flatten_append, ← List.map_append, List.take_append_drop]
end Go.Proofs.YtmfiencoefbjfaaGreatDoor
namespace Go.Proofs.YtmfiencoefbjfaaGreatDoor
open Go.RowKit
theorem cons_erase {α : Type} : ∀ (l : List α) (j : Nat) (h : j < l.length), (l[j] :: l.eraseIdx j).Perm l
  | [], j, h => by cases h
  | a :: l, 0, _ => List.Perm.refl _
  | a :: l, j + 1, h => by
    rw [List.eraseIdx_cons_succ, List.getElem_cons_succ]
    exact (List.Perm.swap _ _ _).trans (List.Perm.cons a (cons_erase l j (by simpa using h)))
section
variable {P : Program} {n : NM} {w0 : Base} {X0 X : PMap} {own : Own} {env : Env}
/-- A call that changes one of the call's own blocks, whichever stands where. -/
theorem op_callJ {c : Operand} {f : FuncId} {xs : Array Operand} {ts : Array TypeId} {fs cs : Array Value} {vs : List Value} {x : Ow} {j : Nat} {Φ : Value → Ow → PMap → Prop} (he : Enters P f) (hc : eev env c = some (.func (.func f) fs cs)) (hx : xs.toList.map (eev env) = vs.map some)
    (h : SpecM P f (fs.toList ++ vs ++ cs.toList) X [x] fun u L' X' => ∃ x', L' = [x'] ∧ Φ u x' X') (hj : AtO own x.b x.cs x.ty x.sz j) : OpX P n w0 X0 env own X (.call { callee := .value c, args := xs, argTypes := ts }) false fun v own' X' => ∃ x', own' = own.set j x' ∧ X.le X' ∧ Φ v x' X' := by
  intro a W oper K Q ro hop ha hs hK
  have all : ∀ (xs : List Operand) (vs : List Value), xs.map (eev env) = vs.map some → xs.map a.eval = vs := by
    intro xs
    induction xs with
    | nil => intro vs h; cases vs <;> simp_all
    | cons x xs ih =>
      intro vs h
      cases vs with
      | nil => simp at h
      | cons v vs =>
        simp only [List.map_cons, List.cons.injEq] at h
        simp [ha.eval h.1, ih vs h.2]
  have h1 : xs.map a.eval = vs.toArray := by apply Array.toList_inj.1; simp [all _ _ hx]
  have hex : (execOp a.eval oper).run P W = .ok (.enter f (fs.toList ++ vs ++ cs.toList).toArray) W := by
    have hargs : fs ++ vs.toArray ++ cs = (fs.toList ++ vs ++ cs.toList).toArray := by apply Array.toList_inj.1; simp
    simp only [execOp, hop, resolve, ha.eval hc, h1, Deferred.ofValue, invoke, Sem.run_bind, Sem.run_pure, Result.andThen_ok]
    rw [hargs]
    exact he _ _
  obtain ⟨hjl, hjx⟩ := List.getElem?_eq_some_iff.1 hj.get
  have hp : own.Perm ([x] ++ own.eraseIdx j) := by
    have := cons_erase own j hjl
    rw [hjx] at this
    exact this.symm
  refine wp_enters (noDefer_spec (by rw [hop]; rfl)) hex ((h w0 X0 (own.eraseIdx j) W (hs.perm hp)).mono fun e w' hfin => ?_)
  obtain ⟨v, L', X', rfl, hsat, hX, x', rfl, hΦ⟩ := hfin
  have hp' : ([x'] ++ own.eraseIdx j).Perm (own.set j x') := by
    have hl : j < (own.set j x').length := by rw [List.length_set]; exact hjl
    have := cons_erase (own.set j x') j hl
    rw [List.getElem_set_self, List.eraseIdx_set_eq] at this
    exact this
  exact ⟨v, rfl, hK v _ X' w' ⟨x', rfl, hX, hΦ⟩ (hsat.perm hp') (fun h => by cases h)⟩
end
end Go.Proofs.YtmfiencoefbjfaaGreatDoor
namespace Go.Proofs.YtmfiencoefbjfaaGreatDoor
section
set_option maxRecDepth 100000
theorem en25 : Enters Tryz.prog 25 := enters_mk Tryz.func25 (by kernel_rfl) rfl
theorem en52 : Enters Tryz.prog 52 := enters_mk Tryz.func52 (by kernel_rfl) rfl
theorem en53 : Enters Tryz.prog 53 := enters_mk Tryz.func53 (by kernel_rfl) rfl
theorem en54 : Enters Tryz.prog 54 := enters_mk Tryz.func54 (by kernel_rfl) rfl
theorem fa77_2 : FAdr Tryz.prog 77 2 2 := fadr_mk Tryz.underlying77 rfl rfl (by kernel_rfl)
end
open Go.RowKit
/-- The block of a search. -/
abbrev SrO (sb : Nat) (pm sl : Value) (n : Nat) : Ow := ⟨sb, [pm, sl, .int .i64 (n : Int)], 77, 3⟩
/-- What the walks need of the concepts. -/
structure SrH (L : List (Nat × Nat)) (big : Nat → Nat → Prop) (r : Nat) : Prop where
  few : Few L big
  len : L.length < 1000
  r64 : r ≤ 64
  rows : ∀ p ∈ L, ∀ i ∈ mem64 p.1, i < r
theorem getD_at {L : List (Nat × Nat)} {k : Nat} (h : k < L.length) : L.getD k (0, 0) = L[k] := by simp [h]
theorem perm_G {S : Ow} {own0 G : Own} : (G ++ (S :: own0)).Perm ((S :: own0) ++ G) := List.perm_append_comm
section
variable {L : List (Nat × Nat)} {big : Nat → Nat → Prop} {r : Nat} (H : SrH L big r)
include H
theorem srchC_spec {sb : Nat} {pm sl : Value} : ∀ (b : Nat), b ≤ 5 → ∀ {X : PMap} {v : Value} {o : List Nat} {fr n : Nat}, Tab X → ConL X sl L → OnesR X v o → o.length = r → fr < 100000 → n + nodT b ≤ 1000000 →
    SpecM Tryz.prog 25 [.pointer (some ⟨sb, 0, none⟩), v, .int .i64 (b : Int), .int .i64 (fr : Int)] X [SrO sb pm sl n] fun u L' _ => ∃ x', L' = [x'] ∧ ∃ (n' : Nat) (res : Bool), x' = SrO sb pm sl n' ∧ u = .bool res ∧ (res = true ↔ cov L o b fr) ∧ n ≤ n' ∧ n' ≤ n + nodT b := by
  intro b
  induction b with
  | zero =>
    intro _ X v o fr n hT hL h ho hfr hn
    have hl : o.length ≤ 64 := by have := H.r64; omega
    have hw := h.wds
    simp only [nodT] at hn
    refine SpecM.enter Tryz.func25 rfl Tryz.ntmps25 rfl ?_
    intro w0 X0 own0
    refine T.perm (own' := SrO sb pm sl n :: own0) (List.Perm.refl _) ?_
    refine T.seq <| T.region <| SL.as rfl <| SL.nil <| T.seq <| T.seq <| T.region <| SL.mv rfl <| SL.w (op_callF en51 (vs := [_]) rfl (osize_spec h hl)) ?_
    rintro _ _ X1 ⟨rfl, hX1, rfl⟩
    by_cases hz : sizeM o = 0
    · skip
      refine SL.v (op_eqlT rfl rfl (by omega)) ?_
      refine SL.nil <| T.condT rfl <| T.seq <| T.region <| SL.as rfl <| SL.nil <| T.retM1 [SrO sb pm sl n] rfl (ResIs.tmp rfl) (List.Perm.refl _) ?_
      exact ⟨hX1, _, rfl, n, true, rfl, rfl, by simp [cov_done hw hz], Nat.le_refl _, by omega⟩
    · refine SL.v (op_eqlF rfl rfl (by omega)) ?_
      refine SL.nil <| T.condF rfl <| T.skip <| T.seq <| T.seq <| T.region <| SL.mv rfl <| SL.v (op_nil rfl) <| SL.v (op_fieldAddr fa77_2 rfl) <| SL.v (op_load ty3 rfl (by repeat constructor) rfl) ?_
      refine SL.v (op_addN (q := 1) rfl rfl (by omega)) ?_
      refine SL.v (op_nil rfl) <| SL.v (op_fieldAddr fa77_2 rfl) <| SL.w (op_store ty3 rfl rfl (by repeat constructor) rfl rfl rfl) ?_
      rintro _ _ _ ⟨rfl, rfl⟩
      refine SL.nil <| T.seq <| T.region <| SL.mv rfl <| SL.v (op_lssT rfl rfl (by omega)) ?_
      refine SL.mv rfl <| SL.skip rfl rfl ?_
      refine SL.skip rfl rfl ?_
      refine SL.skip rfl rfl ?_
      refine SL.skip rfl rfl ?_
      refine SL.skip rfl rfl ?_
      refine SL.v (op_pickT rfl rfl) <| SL.mv rfl <| SL.skip rfl rfl ?_
      refine SL.skip rfl rfl ?_
      refine SL.skip rfl rfl ?_
      refine SL.skip rfl rfl ?_
      refine SL.v (op_pickT rfl rfl) <| SL.nil <| T.condT rfl <| T.seq <| T.region <| SL.as rfl <| SL.nil <| T.retM1 [SrO sb pm sl (n + 1)] rfl (ResIs.tmp rfl) (List.Perm.refl _) ?_
      exact ⟨hX1, _, rfl, n + 1, false, rfl, rfl, by simp [cov_zero hw, hz], by omega, by simp [nodT]⟩
  | succ b ih =>
    intro hb X v o fr n hT hL h ho hfr hn
    have hl : o.length ≤ 64 := by have := H.r64; omega
    have hw := h.wds
    have hLl := H.len
    have hpos := nodT_pos b
    have hn' : n + 9 + 8 * nodT b ≤ 1000000 := by simp only [nodT] at hn; omega
    have hrow : ∀ p ∈ L, ∀ i ∈ mem64 p.1, i < o.length := fun p hp i hi => by rw [ho]; exact H.rows p hp i hi
    refine SpecM.enter Tryz.func25 rfl Tryz.ntmps25 rfl ?_
    intro w0 X0 own0
    refine T.perm (own' := SrO sb pm sl n :: own0) (List.Perm.refl _) ?_
    refine T.seq <| T.region <| SL.as rfl <| SL.nil <| T.seq <| T.seq <| T.region <| SL.mv rfl <| SL.w (op_callF en51 (vs := [_]) rfl (osize_spec h hl)) ?_
    rintro _ _ X1 ⟨rfl, hX1, rfl⟩
    by_cases hz : sizeM o = 0
    · skip
      refine SL.v (op_eqlT rfl rfl (by omega)) ?_
      refine SL.nil <| T.condT rfl <| T.seq <| T.region <| SL.as rfl <| SL.nil <| T.retM1 [SrO sb pm sl n] rfl (ResIs.tmp rfl) (List.Perm.refl _) ?_
      exact ⟨hX1, _, rfl, n, true, rfl, rfl, by simp [cov_done hw hz], Nat.le_refl _, by omega⟩
    · refine SL.v (op_eqlF rfl rfl (by omega)) ?_
      refine SL.nil <| T.condF rfl <| T.skip <| T.seq <| T.seq <| T.region <| SL.mv rfl <| SL.v (op_nil rfl) <| SL.v (op_fieldAddr fa77_2 rfl) <| SL.v (op_load ty3 rfl (by repeat constructor) rfl) ?_
      refine SL.v (op_addN (q := 1) rfl rfl (by omega)) ?_
      refine SL.v (op_nil rfl) <| SL.v (op_fieldAddr fa77_2 rfl) <| SL.w (op_store ty3 rfl rfl (by repeat constructor) rfl rfl rfl) ?_
      rintro _ _ _ ⟨rfl, rfl⟩
      refine SL.nil <| T.seq <| T.region <| SL.mv rfl <| SL.v (op_lssF rfl rfl (by omega)) ?_
      refine SL.mv rfl <| SL.mv rfl <| SL.v (op_nil rfl) <| SL.v (op_fieldAddr fa77_2 rfl) <| SL.v (op_load ty3 rfl (by repeat constructor) rfl) ?_
      refine SL.v (op_gtrF rfl rfl (by omega)) ?_
      refine SL.v (op_pickF rfl rfl) <| SL.mv rfl <| SL.mv rfl <| SL.mv rfl <| SL.mv rfl <| SL.w (op_callLend en52 (vs := [_, _, _]) rfl ((fun X9 h1 h2 => (bound_spec ((hT.mono hX1).mono h1) (n := (((n + 1 : Nat)) : Int)) (by have h3 := h2 _ (List.Mem.head _); exact h3) ((hL.mono hX1).mono h1) ((h.mono hX1).mono h1) hl hrow (b + 1) (by omega) (by omega) : Spec _ _ _ _ fun u _ => u = .bool (decide ((b + 1) * mostM L o < sizeM o)))))) ?_
      rintro _ _ _ ⟨rfl, rfl, rfl⟩
      by_cases hbd : (b + 1) * mostM L o < sizeM o
      · rw [decide_eq_true hbd]
        refine SL.v (op_pickF rfl rfl) <| SL.nil <| T.condT rfl <| T.seq <| T.region <| SL.as rfl <| SL.nil <| T.retM1 [SrO sb pm sl (n + 1)] rfl (ResIs.tmp rfl) (List.Perm.refl _) ?_
        exact ⟨hX1, _, rfl, n + 1, false, rfl, rfl, by simp [bound_not H.few.lt hw hl hbd], by omega, by simp only [nodT]; omega⟩
      · rw [decide_eq_false hbd]
        refine SL.v (op_pickF rfl rfl) <| SL.nil <| T.condF rfl <| T.skip <| T.seq <| T.region <| SL.mv rfl <| SL.mv rfl <| SL.mv rfl <| SL.w (op_callLendO en53 (vs := [_, _, _]) rfl ((fun X9 h1 h2 => (cell_spec ((hT.mono hX1).mono h1) (n := (((n + 1 : Nat)) : Int)) (by have h3 := h2 _ (List.Mem.head _); exact h3) ((hL.mono hX1).mono h1) (by omega) ((h.mono hX1).mono h1) hl fr hfr : SpecO _ _ _ _ fun u own1 _ => ∃ (st : Option (Nat × Nat)) (bv : Value), bestC L o fr o.length 0 st ∧ u = .tuple #[.int .i64 ((st.getD (0, 0)).1 : Int), .int .i64 ((st.getD (0, 0)).2 : Int), bv] ∧ GrowS 3 1 bv (bestL L fr st).length (ints (bestL L fr st)) own1)))) ?_
        rintro _ _ _ ⟨G1, rfl, rfl, st, bv, hst, rfl, hG1⟩
        obtain ⟨ri, ci, rfl, hin, hmin⟩ := bestC_end hw hst hz
        have hlen := aroundM_len L ri ci fr
        have hbr := cov_branch H.few.lt (b := b) (fr := fr) hw hin
        simp only [bestL] at hG1
        refine SL.perm perm_G ?_
        refine T.pubGAt (own0 := _ :: own0) hG1 ?_
        intro X2 hX2 hS2
        obtain ⟨Al, cl, rfl⟩ := hG1.form
        refine SL.mv rfl <| SL.v (op_extract rfl rfl) <| SL.v (op_extract rfl rfl) <| SL.v (op_extract rfl rfl) <| SL.as rfl <| SL.as rfl <| SL.as rfl <| SL.nil <| T.seq <| T.seq <| T.region <| SL.mv rfl <| SL.v (op_lenS Tryz.underlying42 rfl) <| SL.v (op_move (v := .int .i64 ((0 : Nat) : Int)) rfl) <| SL.nil ?_
        refine T.block <| T.loopW (fun m env own X' => ∃ (q n1 : Nat), m = (aroundM L ri ci fr).length - q ∧ q ≤ (aroundM L ri ci fr).length ∧ X2.le X' ∧ n + 1 ≤ n1 ∧ n1 ≤ n + 1 + q * nodT b ∧ (∀ k ∈ (aroundM L ri ci fr).take q, ¬ cov L (withoutM o (L.getD k (0, 0))) b fr) ∧ env = [(0, .pointer (some ⟨sb, 0, none⟩)), (1, v), (2, .int .i64 ((b + 1 : Nat) : Int)), (3, .int .i64 (fr : Int)), (47, .slice Al (aroundM L ri ci fr).length cl), (48, .int .i64 ((aroundM L ri ci fr).length : Int)), (49, .int .i64 (q : Int))] ∧ own = SrO sb pm sl n1 :: own0) (aroundM L ri ci fr).length ⟨0, n + 1, by simp, by omega, PMap.le_refl _, Nat.le_refl _, by omega, by simp, rfl, rfl⟩ (by repeat (first | exact Sub.nil | refine Sub.cons rfl ?_)) ?_
        rintro m _ _ X3 ⟨q, n1, rfl, hq, hX3, hn0, hn1, hno, rfl, rfl⟩
        have hX13 := (hX1.trans' hX2).trans' hX3
        rcases Nat.lt_or_ge q (aroundM L ri ci fr).length with hql | hql
        · obtain ⟨hk1, hk2, hk3⟩ := mem_around.1 (List.getElem_mem hql)
          have hcnt := branch_count H.few (b := b) (q := q + 1) hw hmin (by omega) (by rw [Nat.add_sub_cancel]; exact hno)
          rw [Nat.succ_mul] at hcnt
          have hgd := getD_at hk1
          rcases hS2 with ⟨h0, _⟩ | ⟨_, bl, cl', he, hBl⟩
          · omega
          simp only [Value.slice.injEq] at he
          obtain ⟨rfl, _, rfl⟩ := he
          have hBl3 := hBl.mono hX3
          obtain ⟨As, cs, rfl⟩ := hL.form
          obtain ⟨bc, ccs, x, y, rfl, hBc, hcx, hcy, hx, hy⟩ := hL.at hk1
          obtain ⟨Ax, lx, cx, hxe⟩ := hx.form
          obtain ⟨Ay, ly, cy, hye⟩ := hy.form
          obtain rfl : x = .slice Ax lx cx := by simpa using hxe
          obtain rfl : y = .slice Ay ly cy := by simpa using hye
          have hBc3 := hBc.mono hX13
          refine T.seq <| T.region <| SL.v (op_lssT rfl rfl (by omega)) ?_
          refine SL.nil <| T.seq <| T.condT rfl <| T.skip <| T.seq <| T.block <| T.seq <| T.region <| SL.v (op_indexN Tryz.underlying42 ty3 rfl rfl (by omega)) ?_
          refine SL.v (op_loadX ty3 rfl hBl3 (cread1 (ints_get (aroundM L ri ci fr) q hql))) <| SL.as rfl <| SL.nil <| T.seq <| T.region <| SL.mv rfl <| SL.mv rfl <| SL.mv rfl <| SL.v (op_nil rfl) <| SL.v (op_fieldAddr fa77_1 rfl) <| SL.v (op_load ty72 rfl (by repeat constructor) rfl) ?_
          refine SL.mv rfl <| SL.v (op_indexN Tryz.underlying72 ty119 rfl rfl (by omega)) ?_
          refine SL.v (op_loadX ty119 rfl hBc3 (creadR2 hcx hcy (by omega))) ?_
          refine SL.w (op_callF en54 (vs := [_, _]) rfl (without_ones (hT.mono hX13) (h.mono hX13) hl (hx.mono hX13) (hy.mono hX13) (hrow _ (List.getElem_mem hk1)))) ?_
          rintro w4 _ X4 ⟨rfl, hX4, hW4⟩
          rw [← hgd] at hW4
          refine SL.mv rfl <| SL.v (op_subN (q := 1) rfl rfl (by omega) (by omega)) ?_
          refine SL.mv rfl <| SL.w (op_callJ en25 rfl (vs := [_, _, _, _]) rfl (ih (by omega) (n := n1) (o := withoutM o (L.getD (aroundM L ri ci fr)[q] (0, 0))) (fr := fr) ((hT.mono hX13).mono hX4) ((hL.mono hX13).mono hX4) hW4 (by rw [without_len]; exact ho) hfr (by omega)) (by repeat constructor)) ?_
          rintro _ _ X5 ⟨_, rfl, hX5, n2, res, rfl, rfl, hres, hn2, hn3⟩
          cases res with
          | true =>
            refine SL.nil <| T.condT rfl <| T.seq <| T.region <| SL.as rfl <| SL.nil <| T.retM1 [SrO sb pm _ n2] rfl (ResIs.tmp rfl) (List.Perm.refl _) ?_
            exact ⟨(hX13.trans' hX4).trans' hX5, _, rfl, n2, true, rfl, rfl, by simp only [true_iff]; exact hbr.2 ⟨_, List.getElem_mem hql, hres.1 rfl⟩, by omega, by simp only [nodT]; omega⟩
          | false =>
            have hno' : ∀ k ∈ (aroundM L ri ci fr).take (q + 1), ¬ cov L (withoutM o (L.getD k (0, 0))) b fr := fun k hk => by
              rw [List.take_succ_eq_append_getElem hql] at hk
              rcases List.mem_append.1 hk with hk | hk
              · exact hno k hk
              · simp only [List.mem_singleton] at hk
                subst hk
                exact fun hc => by have := hres.2 hc; cases this
            refine SL.nil <| T.condF rfl <| T.skip <| T.blk <| T.region <| SL.v (op_addN (q := 1) rfl rfl (by omega)) ?_
            refine SL.mv rfl <| SL.nil ?_
            exact T.backW ((aroundM L ri ci fr).length - (q + 1)) (by omega) ⟨q + 1, n2, rfl, by omega, (hX3.trans' hX4).trans' hX5, by omega, by rw [Nat.succ_mul]; omega, hno', rfl, rfl⟩ (by repeat (first | exact Sub.nil | refine Sub.cons rfl ?_))
        · obtain rfl : q = (aroundM L ri ci fr).length := by omega
          refine T.seq <| T.region <| SL.v (op_lssF rfl rfl (by omega)) ?_
          refine SL.nil <| T.seq <| T.condF rfl ?_
          refine T.exit (T.exitCode (T.exitCut (T.exitBlk ?_)))
          refine T.seq <| T.region <| SL.as rfl <| SL.nil <| T.retM1 [SrO sb pm sl n1] rfl (ResIs.tmp rfl) (List.Perm.refl _) ?_
          have hcnt := branch_count H.few (b := b) (q := (aroundM L ri ci fr).length) hw hmin (by omega) (fun k hk => hno k (by rw [List.take_length]; exact List.mem_of_mem_take hk))
          refine ⟨hX13, _, rfl, n1, false, rfl, rfl, ?_, by omega, by simp only [nodT]; omega⟩
          simp only [Bool.false_eq_true, false_iff]
          intro hc
          obtain ⟨k, hk, hk2⟩ := hbr.1 hc
          exact hno k (by rw [List.take_length]; exact hk) hk2
end
end Go.Proofs.YtmfiencoefbjfaaGreatDoor
namespace Go.Proofs.YtmfiencoefbjfaaGreatDoor
open Go.RowKit
theorem nat_pow_bit {p : Nat × Nat} {i j : Nat} : (p.1.testBit i && p.2.testBit j) = true ↔ p.1.testBit i = true ∧ p.2.testBit j = true := by rw [Bool.and_eq_true]
section
variable {L : List (Nat × Nat)} {big : Nat → Nat → Prop} {r : Nat} (H : SrH L big r)
include H
theorem leastC_spec {sb : Nat} {pm sl : Value} (b : Nat) (hb : b ≤ 5) {X : PMap} {v : Value} {o : List Nat} {n : Nat} (hT : Tab X) (hL : ConL X sl L) (h : OnesR X v o) (ho : o.length = r) (hc : cov L o b 0) (hn : n + L.length * nodT 4 ≤ 1000000) :
    SpecM Tryz.prog 26 [.pointer (some ⟨sb, 0, none⟩), v, .int .i64 (b : Int)] X [SrO sb pm sl n] fun u L' X' => ∃ x', L' = [x'] ∧ ∃ (n' : Nat) (ch : List (Nat × Nat)), x' = SrO sb pm sl n' ∧ ConL X' u ch ∧ (∀ p ∈ ch, p ∈ L) ∧ ch.length ≤ b ∧ (∀ i j, inO o i j = true → ∃ p ∈ ch, p.1.testBit i = true ∧ p.2.testBit j = true) ∧ n' ≤ n + L.length * nodT 4 := by
  have hr64 := H.r64
  have hLl := H.len
  have hmx : maxLen = 9223372036854775807 := rfl
  refine SpecM.enter Tryz.func26 rfl Tryz.ntmps26 rfl ?_
  intro w0 X0 own0
  refine T.perm (own' := (SrO sb pm sl n :: own0) ++ []) (by rw [List.append_nil]; exact List.Perm.refl _) ?_
  refine T.seq <| T.region <| SL.as rfl <| SL.nil <| T.seq <| T.region <| SL.as rfl <| SL.nil <| T.seq <| T.seq <| T.region <| SL.v (op_assign (v := .int .i64 ((0 : Nat) : Int)) rfl) <| SL.nil <| T.block <| T.loopW (fun m env own X' => ∃ (k n1 b1 : Nat) (ch : List (Nat × Nat)) (o1 : List Nat) (v1 s : Value) (G : Own) (cs : List Value), m = L.length - k ∧ k ≤ L.length ∧ X.le X' ∧ n ≤ n1 ∧ n1 ≤ n + k * nodT 4 ∧ cov L o1 b1 k ∧ o1.length = r ∧ OnesR X' v1 o1 ∧ GrowS 119 2 s ch.length cs G ∧ ConsR X' cs ch ∧ ch.length + b1 = b ∧ (∀ p ∈ ch, p ∈ L) ∧ (∀ i j, inO o i j = true → inO o1 i j = true ∨ ∃ p ∈ ch, p.1.testBit i = true ∧ p.2.testBit j = true) ∧ env = [(0, .pointer (some ⟨sb, 0, none⟩)), (1, v1), (2, .int .i64 (b1 : Int)), (7, s), (8, .int .i64 (k : Int))] ∧ own = (SrO sb pm sl n1 :: own0) ++ G) L.length ⟨0, n, b, [], o, v, _, [], [], by simp, by omega, PMap.le_refl _, Nat.le_refl _, by omega, hc, ho, h, GrowS.nil, ConsR.nil, by simp, by simp, fun i j h => .inl h, rfl, rfl⟩ (by repeat (first | exact Sub.nil | refine Sub.cons rfl ?_)) ?_
  rintro m _ _ X1 ⟨k, n1, b1, ch, o1, v1, s, G, cs, rfl, hk, hX1, hn0, hn1, hc1, ho1, h1, hG, hC, hb1, hch, hin, rfl, rfl⟩
  have hw1 := h1.wds
  obtain ⟨As, cps, rfl⟩ := hG.form
  obtain ⟨Al, cl, rfl⟩ := hL.form
  rcases Nat.lt_or_ge k L.length with hkl | hkl
  · rcases Nat.eq_zero_or_pos b1 with rfl | hbp
    · skip
      refine T.seq <| T.seq <| T.region <| SL.mv rfl <| SL.mv rfl <| SL.v (op_nil rfl) <| SL.v (op_fieldAddr fa77_1 rfl) <| SL.v (op_load ty72 rfl (by repeat constructor) rfl) ?_
      refine SL.v (op_lenS Tryz.underlying72 rfl) <| SL.v (op_lssT rfl rfl (by omega)) ?_
      refine SL.mv rfl <| SL.mv rfl <| SL.v (op_gtrF rfl rfl (by omega)) ?_
      refine SL.v (op_pickT rfl rfl) <| SL.nil <| T.condF rfl ?_
      refine T.exit (T.exitCode (T.exitCut (T.exitBlk ?_)))
      refine T.seq <| T.region <| SL.mv rfl <| SL.as rfl <| SL.nil <| T.pubG (own0 := _ :: own0) hG ?_
      intro X2 hX2 hS2
      refine T.retM1 [SrO sb pm _ n1] rfl (ResIs.tmp rfl) (List.Perm.refl _) ?_
      have hz := (sizeM_zero hw1).1 ((cov_zero hw1).1 hc1)
      have hmul : k * nodT 4 ≤ L.length * nodT 4 := Nat.mul_le_mul_right _ hk
      exact ⟨hX1.trans' hX2, _, rfl, n1, ch, rfl, ⟨cs, hS2, hC.mono hX2⟩, hch, by omega, fun i j hij => by
        rcases hin i j hij with h2 | h2
        · rw [hz] at h2; cases h2
        · exact h2, by omega⟩
    · obtain ⟨b2, rfl⟩ : ∃ b2, b1 = b2 + 1 := ⟨b1 - 1, by omega⟩
      have hT4 : nodT b2 ≤ nodT 4 := nodT_le (by omega)
      have hmul : (k + 1) * nodT 4 ≤ L.length * nodT 4 := Nat.mul_le_mul_right _ hkl
      rw [Nat.succ_mul] at hmul
      obtain ⟨bc, ccs, x, y, rfl, hBc, hcx, hcy, hx, hy⟩ := hL.at hkl
      obtain ⟨Ax, lx, cx, hxe⟩ := hx.form
      obtain ⟨Ay, ly, cy, hye⟩ := hy.form
      obtain rfl : x = .slice Ax lx cx := by simpa using hxe
      obtain rfl : y = .slice Ay ly cy := by simpa using hye
      have hBc1 := hBc.mono hX1
      have hgd := getD_at hkl
      refine T.seq <| T.seq <| T.region <| SL.mv rfl <| SL.mv rfl <| SL.v (op_nil rfl) <| SL.v (op_fieldAddr fa77_1 rfl) <| SL.v (op_load ty72 rfl (by repeat constructor) rfl) ?_
      refine SL.v (op_lenS Tryz.underlying72 rfl) <| SL.v (op_lssT rfl rfl (by omega)) ?_
      refine SL.mv rfl <| SL.mv rfl <| SL.v (op_gtrT rfl rfl (by omega)) ?_
      refine SL.v (op_pickT rfl rfl) <| SL.nil <| T.condT rfl <| T.skip <| T.seq <| T.block <| T.seq <| T.region <| SL.mv rfl <| SL.mv rfl <| SL.v (op_nil rfl) <| SL.v (op_fieldAddr fa77_1 rfl) <| SL.v (op_load ty72 rfl (by repeat constructor) rfl) ?_
      refine SL.mv rfl <| SL.v (op_indexN Tryz.underlying72 ty119 rfl rfl (by omega)) ?_
      refine SL.v (op_loadX ty119 rfl hBc1 (creadR2 hcx hcy (by omega))) ?_
      refine SL.w (op_callF en54 (vs := [_, _]) rfl (without_ones (hT.mono hX1) h1 (by omega) (hx.mono hX1) (hy.mono hX1) (fun i hi => by rw [ho1]; exact H.rows _ (List.getElem_mem hkl) i hi))) ?_
      rintro w4 _ X2 ⟨rfl, hX2, hW2⟩
      rw [← hgd] at hW2
      refine SL.as rfl <| SL.nil <| T.seq <| T.region <| SL.mv rfl <| SL.mv rfl <| SL.mv rfl <| SL.v (op_subN (q := 1) rfl rfl (by omega) (by omega)) ?_
      refine SL.mv rfl <| SL.v (op_addN (q := 1) rfl rfl (by omega)) ?_
      refine SL.w (op_callJ en25 rfl (vs := [_, _, _, _]) rfl (srchC_spec H b2 (by omega) (n := n1) (o := withoutM o1 (L.getD k (0, 0))) (fr := k + 1) ((hT.mono hX1).mono hX2) ((hL.mono hX1).mono hX2) hW2 (by rw [without_len]; exact ho1) (by omega) (by omega)) (by repeat constructor)) ?_
      rintro _ _ X3 ⟨_, rfl, hX3, n2, res, rfl, rfl, hres, hn2, hn3⟩
      have hX13 := (hX1.trans' hX2).trans' hX3
      have hX23 := hX2.trans' hX3
      refine SL.perm (own' := (SrO sb pm _ n2 :: own0) ++ G) (List.Perm.refl _) ?_
      cases res with
      | true =>
        have hBc3 := hBc.mono hX13
        have hstep : ∀ i j, inO o i j = true → inO (withoutM o1 (L.getD k (0, 0))) i j = true ∨ ∃ p ∈ ch ++ [L[k]], p.1.testBit i = true ∧ p.2.testBit j = true := fun i j hij => by
          rcases hin i j hij with h2 | ⟨p, hp, h2⟩
          · rw [inO_step H.few.lt hw1, h2, Bool.true_and, Bool.not_eq_true', hasC_at hkl]
            cases hh : (L[k].1.testBit i && L[k].2.testBit j) with
            | false => exact .inl rfl
            | true => exact .inr ⟨L[k], by simp, nat_pow_bit.1 hh⟩
          · exact .inr ⟨p, by simp [hp], h2⟩
        refine SL.nil <| T.condT rfl <| T.seq <| T.region <| SL.mv rfl <| SL.mv rfl <| SL.v (op_nil rfl) <| SL.v (op_fieldAddr fa77_1 rfl) <| SL.v (op_load ty72 rfl (by repeat constructor) rfl) ?_
        refine SL.mv rfl <| SL.v (op_indexN Tryz.underlying72 ty119 rfl rfl (by omega)) ?_
        refine SL.v (op_loadX ty119 rfl hBc3 (creadR2 hcx hcy (by omega))) ?_
        refine SL.w (op_buildSlice Tryz.underlying72 bs119 (qs := [(0, _)]) rfl rfl rfl rfl rfl) ?_
        rintro _ _ _ ⟨B47, rfl, rfl, rfl⟩
        refine SL.w (op_appendG (own0 := _ :: own0) sl72 rfl hG rfl rfl rfl (by omega) (by omega)) ?_
        rintro s' _ _ ⟨G', rfl, rfl, hG'⟩
        refine SL.as rfl <| SL.nil <| T.region <| SL.mv rfl <| SL.mv rfl <| SL.v (op_subN (q := 1) rfl rfl (by omega) (by omega)) ?_
        refine SL.as rfl <| SL.as rfl <| SL.nil <| T.blk <| T.region <| SL.mv rfl <| SL.v (op_addN (q := 1) rfl rfl (by omega)) ?_
        refine SL.as rfl <| SL.nil ?_
        exact T.backW (L.length - (k + 1)) (by omega) ⟨k + 1, n2, b2, ch ++ [L[k]], _, w4, s', G', _, rfl, by omega, hX13, by omega, by rw [Nat.succ_mul]; omega, hres.1 rfl, by rw [without_len]; exact ho1, hW2.mono hX3, (by simpa using hG'), (by have := (hC.mono hX23).snoc (p := L[k]) (hx.mono hX13) (hy.mono hX13); simpa [csets, vcells] using this), by simp; omega, (fun p hp => (by rcases List.mem_append.1 hp with hp | hp; exact hch p hp; rw [List.mem_singleton.1 hp]; exact List.getElem_mem hkl)), hstep, rfl, rfl⟩ (by repeat (first | exact Sub.nil | refine Sub.cons rfl ?_))
      | false =>
        have hc2 : cov L o1 (b2 + 1) (k + 1) := by
          rcases cov_take H.few.lt hw1 hc1 with h2 | h2
          · have := hres.2 h2; cases this
          · exact h2
        refine SL.nil <| T.condF rfl <| T.skip <| T.blk <| T.region <| SL.mv rfl <| SL.v (op_addN (q := 1) rfl rfl (by omega)) ?_
        refine SL.as rfl <| SL.nil ?_
        exact T.backW (L.length - (k + 1)) (by omega) ⟨k + 1, n2, b2 + 1, ch, o1, v1, _, G, cs, rfl, by omega, hX13, by omega, by rw [Nat.succ_mul]; omega, hc2, ho1, h1.mono hX23, hG, hC.mono hX23, hb1, hch, hin, rfl, rfl⟩ (by repeat (first | exact Sub.nil | refine Sub.cons rfl ?_))
  · obtain rfl : k = L.length := by omega
    refine T.seq <| T.seq <| T.region <| SL.mv rfl <| SL.mv rfl <| SL.v (op_nil rfl) <| SL.v (op_fieldAddr fa77_1 rfl) <| SL.v (op_load ty72 rfl (by repeat constructor) rfl) ?_
    refine SL.v (op_lenS Tryz.underlying72 rfl) <| SL.v (op_lssF rfl rfl (by omega)) ?_
    refine SL.mv rfl <| SL.skip rfl rfl ?_
    refine SL.skip rfl rfl ?_
    refine SL.v (op_pickF rfl rfl) <| SL.nil <| T.condF rfl ?_
    refine T.exit (T.exitCode (T.exitCut (T.exitBlk ?_)))
    refine T.seq <| T.region <| SL.mv rfl <| SL.as rfl <| SL.nil <| T.pubG (own0 := _ :: own0) hG ?_
    intro X2 hX2 hS2
    refine T.retM1 [SrO sb pm _ n1] rfl (ResIs.tmp rfl) (List.Perm.refl _) ?_
    have hz := (sizeM_zero hw1).1 (cov_end hw1 hc1)
    exact ⟨hX1.trans' hX2, _, rfl, n1, ch, rfl, ⟨cs, hS2, hC.mono hX2⟩, hch, by omega, fun i j hij => by
      rcases hin i j hij with h2 | h2
      · rw [hz] at h2; cases h2
      · exact h2, by omega⟩
end
end Go.Proofs.YtmfiencoefbjfaaGreatDoor
namespace Go.Proofs.YtmfiencoefbjfaaGreatDoor
open Go.RowKit
theorem pairC_get : ∀ (l : List (Nat × Nat)) (i : Nat) (h : i < l.length), (pairC l)[i * 2]? = some (.int .i64 (l[i].1 : Int)) ∧ (pairC l)[i * 2 + 1]? = some (.int .i64 (l[i].2 : Int))
  | p :: l, 0, _ => by simp [pairC]
  | p :: l, i + 1, h => by
    have := pairC_get l i (by simpa using h)
    have e : pairC (p :: l) = .int .i64 (p.1 : Int) :: .int .i64 (p.2 : Int) :: pairC l := rfl
    rw [e, show (i + 1) * 2 = i * 2 + 2 by omega, show i * 2 + 2 + 1 = i * 2 + 1 + 2 by omega]
    simpa using this
end Go.Proofs.YtmfiencoefbjfaaGreatDoor
namespace Go.Proofs.YtmfiencoefbjfaaGreatDoor
section
set_option maxRecDepth 100000
theorem en105 : Enters Tryz.prog 105 := enters_mk Tryz.func105 (by kernel_rfl) rfl
theorem en106 : Enters Tryz.prog 106 := enters_mk Tryz.func106 (by kernel_rfl) rfl
theorem en97 : Enters Tryz.prog 97 := enters_mk Tryz.func97 (by kernel_rfl) rfl
theorem en98 : Enters Tryz.prog 98 := enters_mk Tryz.func98 (by kernel_rfl) rfl
theorem en99 : Enters Tryz.prog 99 := enters_mk Tryz.func99 (by kernel_rfl) rfl
theorem ty154 : Ty Tryz.prog 154 true 2 := ⟨⟨_, Tryz.underlying154, rfl⟩, by kernel_rfl⟩
theorem z154 : Zero Tryz.prog 154 [.int .i64 0, .int .i64 0] := ⟨zero_of (by kernel_rfl)⟩
end
open Go.RowKit
section
variable {P : Program} {n : NM} {own : Own} {X : PMap} {env : Env}
theorem op_eqlArr2 {t e t' : TypeId} {x y : Operand} {k : IntKind} {a b c d : Int} (ht : P.underlying t = some (.array 2 e)) (he : P.underlying e = some (.int k)) (hi : (P.info? e).map (·.size) = some 1) (hg : P.eqGuardType P.depth t = false)
    (hx : eev env x = some (.agg #[.int k a, .int k b])) (hy : eev env y = some (.agg #[.int k c, .int k d])) : OpY P n env own X (.binOp .eql t x y t') (.bool (decide (a = c) && decide (b = d))) := by
  intro act W oper hop ha _
  obtain ⟨i, hi1, hi2⟩ := Option.map_eq_some_iff.1 hi
  have h0 : (eqGuard .eql t x y (.agg #[.int k a, .int k b]) (.agg #[.int k c, .int k d])).run P W = .ok () W := by
    simp [eqGuard, hg]
  have hin : ∀ (m : Nat) (p q : Int), (Op.equalIn (m + 1) e (.int k p) (.int k q)).run P W = .ok (p == q) W := fun m p q => by
    simp [Op.equalIn, run_underlying he]
  have hp0 : ∀ (u v : Value), (part e #[u, v] 0).run P W = .ok u W := fun u v => by
    simp [part, isAgg_row he W, TypeDesc.isRow]
  have hp1 : ∀ (u v : Value), (part e #[u, v] 1).run P W = .ok v W := fun u v => by
    simp [part, isAgg_row he W, TypeDesc.isRow]
  have h1 : ∀ m : Nat, (Op.equalIn (m + 1 + 1) t (.agg #[.int k a, .int k b]) (.agg #[.int k c, .int k d])).run P W = .ok (decide (a = c) && decide (b = d)) W := fun m => by
    rw [Op.equalIn]
    simp [run_underlying ht, sizeOf, typeInfo, hi1, hi2, hp0, hp1, hin, List.range']
    by_cases h1 : a = c <;> by_cases h2 : b = d <;> simp [h1, h2]
  have h2 : (Op.equal t (.agg #[.int k a, .int k b]) (.agg #[.int k c, .int k d])).run P W = .ok (decide (a = c) && decide (b = d)) W := h1 9998
  simp only [execOp, hop, ha.eval hx, ha.eval hy, binOp, h0, Sem.run_bind, Sem.run_pure, Result.andThen_ok, h2]
end
/-- A pair of numbers, as a value. -/
abbrev prV (p : Nat × Nat) : Value := .agg #[.int .i64 (p.1 : Int), .int .i64 (p.2 : Int)]
theorem independent_spec {X : PMap} {v : Value} {c : Nat} {ms : List Nat} (h : MatR X v c ms) (p q : Nat × Nat) : Spec Tryz.prog 106 [v, prV p, prV q] X fun u _ => ∃ b, u = .bool b := by
  refine Spec.enter Tryz.func106 rfl Tryz.ntmps106 rfl ?_
  intro w0 hw0
  refine T.seq <| T.region <| SL.w (op_box rfl) ?_
  rintro _ _ _ ⟨B4, rfl, rfl, rfl⟩
  refine SL.w (op_box rfl) ?_
  rintro _ _ _ ⟨B5, rfl, rfl, rfl⟩
  refine SL.as rfl <| SL.nil <| T.seq <| T.region <| SL.mv rfl <| SL.v (op_indexA (i := 0) Tryz.underlying154 ty3 rfl rfl (by omega)) ?_
  refine SL.v (op_load ty3 rfl (by repeat constructor) rfl) ?_
  refine SL.v (op_indexA (i := 1) Tryz.underlying154 ty3 rfl rfl (by omega)) ?_
  refine SL.v (op_load ty3 rfl (by repeat constructor) rfl) ?_
  refine SL.w (op_callF en34 (vs := [_, _, _]) rfl (mhas_spec h (p.1 : Int) (q.2 : Int))) ?_
  rintro _ _ X1 ⟨rfl, hX1, rfl⟩
  cases h1 : elemB c ms (p.1 : Int) (q.2 : Int) with
  | false =>
    refine SL.v (op_not rfl) <| SL.mv rfl <| SL.skip rfl rfl ?_
    refine SL.skip rfl rfl ?_
    refine SL.skip rfl rfl ?_
    refine SL.skip rfl rfl ?_
    refine SL.skip rfl rfl ?_
    refine SL.skip rfl rfl ?_
    refine SL.skip rfl rfl ?_
    refine SL.v (op_pickT rfl rfl) <| SL.as rfl <| SL.nil <| T.ret1 rfl (ResIs.tmp rfl) ?_
    exact ⟨_, rfl⟩
  | true =>
    refine SL.v (op_not rfl) <| SL.mv rfl <| SL.mv rfl <| SL.v (op_indexA (i := 0) Tryz.underlying154 ty3 rfl rfl (by omega)) ?_
    refine SL.v (op_load ty3 rfl (by repeat constructor) rfl) ?_
    refine SL.v (op_indexA (i := 1) Tryz.underlying154 ty3 rfl rfl (by omega)) ?_
    refine SL.v (op_load ty3 rfl (by repeat constructor) rfl) ?_
    refine SL.w (op_callF en34 (vs := [_, _, _]) rfl (mhas_spec (h.mono hX1) (q.1 : Int) (p.2 : Int))) ?_
    rintro _ _ X2 ⟨rfl, hX2, rfl⟩
    refine SL.v (op_not rfl) <| SL.v (op_pickF rfl rfl) <| SL.as rfl <| SL.nil <| T.ret1 rfl (ResIs.tmp rfl) ?_
    exact ⟨_, rfl⟩
theorem apart_spec {X : PMap} {v : Value} {c : Nat} {ms : List Nat} (h : MatR X v c ms) {b cap : Nat} {l : List (Nat × Nat)} (hB : Blk X b (pairC l)) (hcap : l.length ≤ cap) (hl : l.length < 100000) : Spec Tryz.prog 99 [v, .slice (some ⟨b, 0, none⟩) l.length cap] X fun u _ => ∃ b, u = .bool b := by
  refine Spec.enter Tryz.func99 rfl Tryz.ntmps99 rfl ?_
  intro w0 hw0
  refine T.seq <| T.region <| SL.as rfl <| SL.nil <| T.seq <| T.seq <| T.region <| SL.mv rfl <| SL.v (op_lenS Tryz.underlying86 rfl) <| SL.v (op_move (v := .int .i64 ((0 : Nat) : Int)) rfl) <| SL.nil <| T.block <| T.loopW (fun m env own X' => ∃ k : Nat, m = l.length - k ∧ k ≤ l.length ∧ X.le X' ∧ env = [(0, v), (1, .slice (some ⟨b, 0, none⟩) l.length cap), (9, .slice (some ⟨b, 0, none⟩) l.length cap), (10, .int .i64 (l.length : Int)), (11, .int .i64 (k : Int))] ∧ own = []) l.length ⟨0, by simp, by omega, PMap.le_refl _, rfl, rfl⟩ (by repeat (first | exact Sub.nil | refine Sub.cons rfl ?_)) ?_
  rintro m _ _ X1 ⟨k, rfl, hk, hX1, rfl, rfl⟩
  rcases Nat.lt_or_ge k l.length with hkl | hkl
  · obtain ⟨g1, g2⟩ := pairC_get l k hkl
    have hB1 := hB.mono hX1
    refine T.seq <| T.region <| SL.v (op_lssT rfl rfl (by omega)) ?_
    refine SL.nil <| T.seq <| T.condT rfl <| T.skip <| T.seq <| T.block <| T.seq <| T.region <| SL.mv rfl <| SL.v (op_indexN Tryz.underlying86 ty154 rfl rfl (by omega)) ?_
    refine SL.v (op_loadX ty154 rfl hB1 (creadR2 g1 g2 (by omega))) ?_
    refine SL.w (op_alloc z154) ?_
    rintro _ _ _ ⟨B6, rfl, rfl, rfl⟩
    refine SL.as rfl <| SL.w (op_store ty154 rfl rfl (by repeat constructor) rfl rfl rfl) ?_
    rintro _ _ _ ⟨rfl, rfl⟩
    refine SL.nil <| T.seq <| T.region <| SL.mv rfl <| SL.mv rfl <| SL.v (op_sliceHiN (l := k) Tryz.underlying86 ty154 rfl rfl rfl (by omega)) ?_
    refine SL.v (op_lenS Tryz.underlying86 rfl) <| SL.v (op_move (v := .int .i64 ((0 : Nat) : Int)) rfl) <| SL.nil <| T.block <| T.loopW (fun m env own X' => ∃ q : Nat, m = k - q ∧ q ≤ k ∧ X1.le X' ∧ env = [(0, v), (1, .slice (some ⟨b, 0, none⟩) l.length cap), (6, .pointer (some ⟨B6, 0, none⟩)), (9, .slice (some ⟨b, 0, none⟩) l.length cap), (10, .int .i64 (l.length : Int)), (11, .int .i64 (k : Int)), (18, .slice (some ⟨b, 0, none⟩) k cap), (19, .int .i64 (k : Int)), (20, .int .i64 (q : Int))] ∧ own = [⟨B6, [.int .i64 (l[k].1 : Int), .int .i64 (l[k].2 : Int)], 154, 2⟩]) k ⟨0, by simp, by omega, PMap.le_refl _, rfl, rfl⟩ (by repeat (first | exact Sub.nil | refine Sub.cons rfl ?_)) ?_
    rintro m _ _ X2 ⟨q, rfl, hq, hX2, rfl, rfl⟩
    have hX12 := hX1.trans' hX2
    rcases Nat.lt_or_ge q k with hqk | hqk
    · obtain ⟨g3, g4⟩ := pairC_get l q (by omega)
      have hB2 := hB.mono hX12
      refine T.seq <| T.region <| SL.v (op_lssT rfl rfl (by omega)) ?_
      refine SL.nil <| T.seq <| T.condT rfl <| T.skip <| T.seq <| T.block <| T.seq <| T.region <| SL.v (op_indexN Tryz.underlying86 ty154 rfl rfl (by omega)) ?_
      refine SL.v (op_loadX ty154 rfl hB2 (creadR2 g3 g4 (by omega))) ?_
      refine SL.w (op_alloc z154) ?_
      rintro _ _ _ ⟨B8, rfl, rfl, rfl⟩
      refine SL.w (op_store ty154 rfl rfl (by repeat constructor) rfl rfl rfl) ?_
      rintro _ _ _ ⟨rfl, rfl⟩
      refine SL.nil <| T.seq <| T.region <| SL.v (op_load ty154 rfl (by repeat constructor) rfl) ?_
      refine SL.v (op_load ty154 rfl (by repeat constructor) rfl) ?_
      refine SL.v (op_eqlArr2 Tryz.underlying154 Tryz.underlying3 (by kernel_rfl) (by kernel_rfl) rfl rfl) ?_
      cases (decide ((l[k].1 : Int) = (l[q].1 : Int)) && decide ((l[k].2 : Int) = (l[q].2 : Int))) with
      | true =>
        refine SL.mv rfl <| SL.skip rfl rfl ?_
        refine SL.skip rfl rfl ?_
        refine SL.skip rfl rfl ?_
        refine SL.skip rfl rfl ?_
        refine SL.skip rfl rfl ?_
        refine SL.v (op_pickT rfl rfl) <| SL.nil <| T.condT rfl <| T.seq <| T.region <| SL.as rfl <| SL.nil <| T.ret1 rfl (ResIs.tmp rfl) ?_
        exact ⟨_, rfl⟩
      | false =>
        refine SL.mv rfl <| SL.mv rfl <| SL.v (op_load ty154 rfl (by repeat constructor) rfl) ?_
        refine SL.v (op_load ty154 rfl (by repeat constructor) rfl) ?_
        refine SL.w (op_callF en106 (vs := [_, _, _]) rfl (independent_spec (h.mono hX12) l[k] l[q])) ?_
        rintro _ _ X3 ⟨rfl, hX3, bb, rfl⟩
        cases bb with
        | true =>
          refine SL.v (op_not rfl) <| SL.v (op_pickF rfl rfl) <| SL.nil <| T.condF rfl <| T.skip <| T.blk <| T.region <| SL.v (op_addN (q := 1) rfl rfl (by omega)) ?_
          refine SL.mv rfl <| SL.nil <| T.drop B8 (by repeat constructor) ?_
          exact T.backW (k - (q + 1)) (by omega) ⟨q + 1, rfl, by omega, hX2.trans' hX3, rfl, rfl⟩ (by repeat (first | exact Sub.nil | refine Sub.cons rfl ?_))
        | false =>
          refine SL.v (op_not rfl) <| SL.v (op_pickF rfl rfl) <| SL.nil <| T.condT rfl <| T.seq <| T.region <| SL.as rfl <| SL.nil <| T.ret1 rfl (ResIs.tmp rfl) ?_
          exact ⟨_, rfl⟩
    · obtain rfl : q = k := by omega
      refine T.seq <| T.region <| SL.v (op_lssF rfl rfl (by omega)) ?_
      refine SL.nil <| T.seq <| T.condF rfl ?_
      refine T.exit (T.exitCode (T.exitCut (T.exitBlk ?_)))
      refine T.blk <| T.region <| SL.v (op_addN (q := 1) rfl rfl (by omega)) ?_
      refine SL.mv rfl <| SL.nil <| T.drop B6 (by repeat constructor) ?_
      exact T.backW (l.length - (q + 1)) (by omega) ⟨q + 1, rfl, by omega, hX12, rfl, rfl⟩ (by repeat (first | exact Sub.nil | refine Sub.cons rfl ?_))
  · obtain rfl : k = l.length := by omega
    refine T.seq <| T.region <| SL.v (op_lssF rfl rfl (by omega)) ?_
    refine SL.nil <| T.seq <| T.condF rfl ?_
    refine T.exit (T.exitCode (T.exitCut (T.exitBlk ?_)))
    refine T.seq <| T.region <| SL.as rfl <| SL.nil <| T.ret1 rfl (ResIs.tmp rfl) ?_
    exact ⟨_, rfl⟩
theorem foolIn_spec {X : PMap} {v : Value} {c : Nat} {ms : List Nat} (h : MatR X v c ms) {B : Nat} (hB : Blk X B [v]) (p : Nat × Nat) : Spec Tryz.prog 98 [prV p, .pointer (some ⟨B, 0, none⟩)] X fun u _ => ∃ b, u = .bool b := by
  obtain ⟨bm, rfl⟩ := h.ptr
  refine Spec.enter Tryz.func98 rfl Tryz.ntmps98 rfl ?_
  intro w0 hw0
  refine T.seq <| T.region <| SL.w (op_box rfl) ?_
  rintro _ _ _ ⟨B2, rfl, rfl, rfl⟩
  refine SL.as rfl <| SL.nil <| T.seq <| T.region <| SL.v (op_loadX ty26 rfl (by assumption) rfl) ?_
  refine SL.v (op_indexA (i := 0) Tryz.underlying154 ty3 rfl rfl (by omega)) ?_
  refine SL.v (op_load ty3 rfl (by repeat constructor) rfl) ?_
  refine SL.v (op_indexA (i := 1) Tryz.underlying154 ty3 rfl rfl (by omega)) ?_
  refine SL.v (op_load ty3 rfl (by repeat constructor) rfl) ?_
  refine SL.w (op_callF en34 (vs := [_, _, _]) rfl (mhas_spec h (p.1 : Int) (p.2 : Int))) ?_
  rintro _ _ X1 ⟨rfl, hX1, rfl⟩
  refine SL.v (op_not rfl) <| SL.as rfl <| SL.nil <| T.ret1 rfl (ResIs.tmp rfl) ?_
  exact ⟨_, rfl⟩
theorem pidx_spec {X : PMap} {v : Value} {c : Nat} {ms : List Nat} (h : MatR X v c ms) {B b cap : Nat} (hBx : Blk X B [v]) {l : List (Nat × Nat)} (hB : Blk X b (pairC l)) (hl : l.length < 100000) : Spec Tryz.prog 105 [.slice (some ⟨b, 0, none⟩) l.length cap, .func (.func 98) #[] #[.pointer (some ⟨B, 0, none⟩)]] X fun u _ => ∃ z : Int, u = .int .i64 z := by
  refine Spec.enter Tryz.func105 rfl Tryz.ntmps105 rfl ?_
  intro w0 hw0
  refine T.seq <| T.region <| SL.v (op_assign (v := .int .i64 ((0 : Nat) : Int)) rfl) <| SL.nil <| T.seq <| T.seq <| T.region <| SL.mv rfl <| SL.v (op_lenS Tryz.underlying86 rfl) <| SL.v (op_move (v := .int .i64 ((0 : Nat) : Int)) rfl) <| SL.nil <| T.block <| T.loopW (fun m env own X' => ∃ k : Nat, m = l.length - k ∧ k ≤ l.length ∧ X.le X' ∧ env = [(0, .slice (some ⟨b, 0, none⟩) l.length cap), (1, .func (.func 98) #[] #[.pointer (some ⟨B, 0, none⟩)]), (7, .int .i64 (l.length : Int)), (8, .int .i64 (k : Int))] ∧ own = []) l.length ⟨0, by simp, by omega, PMap.le_refl _, rfl, rfl⟩ (by repeat (first | exact Sub.nil | refine Sub.cons rfl ?_)) ?_
  rintro m _ _ X1 ⟨k, rfl, hk, hX1, rfl, rfl⟩
  rcases Nat.lt_or_ge k l.length with hkl | hkl
  · obtain ⟨g1, g2⟩ := pairC_get l k hkl
    have hB1 := hB.mono hX1
    refine T.seq <| T.region <| SL.v (op_lssT rfl rfl (by omega)) ?_
    refine SL.nil <| T.seq <| T.condT rfl <| T.skip <| T.seq <| T.block <| T.seq <| T.region <| SL.mv rfl <| SL.as rfl <| SL.nil <| T.seq <| T.region <| SL.mv rfl <| SL.mv rfl ?_
    refine SL.mv rfl <| SL.v (op_indexN Tryz.underlying86 ty154 rfl rfl (by omega)) ?_
    refine SL.v (op_loadX ty154 rfl hB1 (creadR2 g1 g2 (by omega))) ?_
    refine SL.w (op_call en98 rfl (vs := [_]) rfl (foolIn_spec (h.mono hX1) (hBx.mono hX1) l[k])) ?_
    rintro _ _ X2 ⟨rfl, hX2, bb, rfl⟩
    cases bb with
    | true =>
      refine SL.nil <| T.condT rfl <| T.seq <| T.region <| SL.mv rfl <| SL.as rfl <| SL.nil <| T.ret1 rfl (ResIs.tmp rfl) ?_
      exact ⟨_, rfl⟩
    | false =>
      refine SL.nil <| T.condF rfl <| T.skip <| T.blk <| T.region <| SL.v (op_addN (q := 1) rfl rfl (by omega)) ?_
      refine SL.mv rfl <| SL.nil ?_
      exact T.backW (l.length - (k + 1)) (by omega) ⟨k + 1, rfl, by omega, hX1.trans' hX2, rfl, rfl⟩ (by repeat (first | exact Sub.nil | refine Sub.cons rfl ?_))
  · obtain rfl : k = l.length := by omega
    refine T.seq <| T.region <| SL.v (op_lssF rfl rfl (by omega)) ?_
    refine SL.nil <| T.seq <| T.condF rfl ?_
    refine T.exit (T.exitCode (T.exitCut (T.exitBlk ?_)))
    refine T.seq <| T.region <| SL.as rfl <| SL.nil <| T.ret1 rfl (ResIs.tmp rfl) ?_
    exact ⟨_, rfl⟩
theorem pcontf_spec {X : PMap} {v : Value} {c : Nat} {ms : List Nat} (h : MatR X v c ms) {B b cap : Nat} (hBx : Blk X B [v]) {l : List (Nat × Nat)} (hB : Blk X b (pairC l)) (hl : l.length < 100000) : Spec Tryz.prog 97 [.slice (some ⟨b, 0, none⟩) l.length cap, .func (.func 98) #[] #[.pointer (some ⟨B, 0, none⟩)]] X fun u _ => ∃ b, u = .bool b := by
  refine Spec.enter Tryz.func97 rfl Tryz.ntmps97 rfl ?_
  intro w0 hw0
  refine T.seq <| T.region <| SL.as rfl <| SL.nil <| T.seq <| T.region <| SL.mv rfl <| SL.mv rfl <| SL.w (op_callF en105 (vs := [_, _]) rfl (pidx_spec h hBx hB hl)) ?_
  rintro _ _ X1 ⟨rfl, hX1, z, rfl⟩
  refine SL.v (op_geq rfl rfl) <| SL.as rfl <| SL.nil <| T.ret1 rfl (ResIs.tmp rfl) ?_
  exact ⟨_, rfl⟩
theorem fool_spec {X : PMap} {v : Value} {c : Nat} {ms : List Nat} (h : MatR X v c ms) {b cap : Nat} {l : List (Nat × Nat)} (hB : Blk X b (pairC l)) (hcap : l.length ≤ cap) (hl : l.length < 100000) : Spec Tryz.prog 84 [v, .slice (some ⟨b, 0, none⟩) l.length cap] X fun u _ => ∃ b, u = .bool b := by
  obtain ⟨bm, rfl⟩ := h.ptr
  refine Spec.enter Tryz.func84 rfl Tryz.ntmps84 rfl ?_
  intro w0 hw0
  refine T.seq <| T.region <| SL.w (op_box rfl) ?_
  rintro _ _ _ ⟨B2, rfl, rfl, rfl⟩
  refine SL.as rfl <| SL.nil <| T.seq <| T.region <| SL.v (op_load ty26 rfl (by repeat constructor) rfl) ?_
  refine SL.v (op_neqNil Tryz.underlying26 rfl rfl) <| SL.mv rfl <| SL.mv rfl <| SL.v (op_makeFunc (vs := []) (us := [_]) rfl rfl) <| T.pubAt B2 (by repeat constructor) ?_
  intro X1 hX1 hB2 _
  refine SL.w (op_callF en97 (vs := [_, _]) rfl (pcontf_spec (h.mono hX1) hB2 (hB.mono hX1) hl)) ?_
  rintro _ _ X2 ⟨rfl, hX2, bb, rfl⟩
  have hB22 := hB2.mono hX2
  cases bb with
  | true =>
    refine SL.v (op_not rfl) <| SL.v (op_pickT rfl rfl) <| SL.mv rfl <| SL.skip rfl rfl ?_
    refine SL.skip rfl rfl ?_
    refine SL.skip rfl rfl ?_
    refine SL.v (op_pickF rfl rfl) <| SL.as rfl <| SL.nil <| T.ret1 rfl (ResIs.tmp rfl) ?_
    exact ⟨_, rfl⟩
  | false =>
    refine SL.v (op_not rfl) <| SL.v (op_pickT rfl rfl) <| SL.mv rfl <| SL.v (op_loadX ty26 rfl (by assumption) rfl) ?_
    refine SL.mv rfl <| SL.w (op_callF en99 (vs := [_, _]) rfl (apart_spec ((h.mono hX1).mono hX2) ((hB.mono hX1).mono hX2) hcap hl)) ?_
    rintro _ _ X3 ⟨rfl, hX3, bb, rfl⟩
    refine SL.v (op_pickT rfl rfl) <| SL.as rfl <| SL.nil <| T.ret1 rfl (ResIs.tmp rfl) ?_
    exact ⟨_, rfl⟩
end Go.Proofs.YtmfiencoefbjfaaGreatDoor
namespace Go.Proofs.YtmfiencoefbjfaaGreatDoor
open Go.RowKit
/-- The function g hands the values xs to the loop's body, one after the other, until a round wants no more, and comes back. -/
def SeqX (P : Program) (g : Nat) (lb : List Value) (xs : List Value) (X : PMap) : Prop :=
  ∀ (l : Nat) (J : Nat → World → Prop) (Jx : World → Prop) (W : World), (∀ i A B, J i A → Below A.heap.size A B → J i B) → (∀ A B, Jx A → Below A.heap.size A B → Jx B) → (∀ i A, J i A → PIn X A) → (∀ A, Jx A → PIn X A) →
    (∀ i x A, J i A → xs[i]? = some x → YieldAt (FR none) DEP P l #[x] A fun e B => e = .returned (.bool true) ∧ J (i + 1) B ∨ e = .returned (.bool false) ∧ Jx B) →
    J 0 W → Calls P g (.func (.yield l) #[] #[] :: lb).toArray W fun e B => (∃ v, e = .returned v) ∧ (J xs.length B ∨ Jx B)
section
variable {P : Program} {n : NM} {w : World} {X0 X : PMap} {own : Own} {env : Env} {Q : Exit → Act → World → Prop}
/-- Where a round ends, or is left by a return. -/
def RQX (w : World) (res : List (Nat × Obj)) (X0 : PMap) (I : Nat → Own → PMap → Prop) (Ix : Own → PMap → Prop) (i : Nat) : Exit → Act → World → Prop
  | .normal, _, W => ∃ own X, I i own X ∧ Sat ⟨w, res⟩ X0 own X W
  | .ret, _, W => ∃ own X, Ix own X ∧ Sat ⟨w, res⟩ X0 own X W
  | _, _, _ => False
theorem T.roundEndX {ro : Option Nat} {res : List (Nat × Obj)} {I : Nat → Own → PMap → Prop} {Ix : Own → PMap → Prop} {i : Nat} (h : I i own X) : T ro P n ⟨w, res⟩ X0 (RQX w res X0 I Ix i) [] none env own X := fun _ _ _ hs => ⟨own, X, h, hs⟩
theorem T.roundRet {ro : Option Nat} {res : List (Nat × Obj)} {I : Nat → Own → PMap → Prop} {Ix : Own → PMap → Prop} {i : Nat} {k : List It} (h : Ix own X) : T ro P n ⟨w, res⟩ X0 (RQX w res X0 I Ix i) (.code .ret :: k) none env own X := fun _ _ _ hs => runL_ret (show RQX w res X0 I Ix i .ret _ _ from ⟨own, X, h, hs⟩)
theorem T.rangeFuncX {g : Operand} {p d : Tmp} {id : Nat} {ty : TypeId} {pos : String} {af : Array Edge} {body : Code} {k : List It} {gf : Nat} {lb : List Value} {xs : List Value} {s : Nat} {Ds : List Nat} (hnd : Ds.Nodup)
    (hg : eev env g = some (.func (.func gf) #[] lb.toArray)) (hE : Enters P gf) (hp : Nat.blt p s = true) (hd : Nat.blt d s = true) (hseq : SeqX P gf lb xs X)
    (I : Nat → Own → PMap → Prop) (Ix : Own → PMap → Prop) (h0 : I 0 own X) (hX : ∀ i own' X', I i own' X' → X.le X') (hXx : ∀ own' X', Ix own' X' → X.le X')
    (round : ∀ i x own' X' l r D, xs[i]? = some x → I i own' X' → T (some l) P ⟨s, []⟩ ⟨w, (l, r) :: (D, MarkObj) :: Ds.map resOf⟩ X0 (RQX w ((l, r) :: (D, MarkObj) :: Ds.map resOf) X0 I Ix (i + 1)) [.code body] none ((d, x) :: (p, x) :: env) own' X')
    (rest : ∀ D own' X', (D :: Ds).Nodup → I xs.length own' X' → T none P ⟨s, (D :: Ds).map markOf⟩ ⟨w, (D :: Ds).map resOf⟩ X0 Q k none env own' X')
    (stop : ∀ D own' X', (D :: Ds).Nodup → Ix own' X' → T none P ⟨s, (D :: Ds).map markOf⟩ ⟨w, (D :: Ds).map resOf⟩ X0 Q (.code .ret :: k) none env own' X') :
    T none P ⟨s, Ds.map markOf⟩ ⟨w, Ds.map resOf⟩ X0 Q (.code (.rangeFunc g #[p] (.region id #[⟨some d, .assign (.tmp p), ty, pos, af, none⟩] false) body) :: k) none env own X := by
  intro a W ha hs
  have hnew : (W.heap.size :: Ds).Nodup := List.nodup_cons.2 ⟨fun hm => by
    have := get_lt (hs.res (W.heap.size, MarkObj) (List.mem_map.2 ⟨_, hm, rfl⟩)).1
    omega, hnd⟩
  refine runL_code (Go.wpIn_rangeFunc ?_)
  intro fn hfn
  obtain ⟨asg, hasg⟩ : ∃ c, c = Code.region id #[⟨some d, .assign (.tmp p), ty, pos, af, none⟩] false := ⟨_, rfl⟩
  rw [← hasg]
  obtain ⟨rec, hrec⟩ : ∃ rec : LoopState → Loop, rec = fun st => { state := st, pending := none, fn, tmps := a.tmps, params := #[p], assign := asg, body, defers := W.heap.size } := ⟨_, rfl⟩
  have hs1 := (hs.hold MarkObj).hold (.loop (rec .ready))
  have hsz : (W.alloc MarkObj).heap.size = W.heap.size + 1 := by simp
  rw [hsz] at hs1
  have hfar : ∀ q ∈ ((W.heap.size, MarkObj) :: Ds.map resOf), q.1 ≠ W.heap.size + 1 := fun q hq => by
    rcases List.mem_cons.1 hq with rfl | hq
    · simp
    · have := get_lt (hs.res q hq).1
      omega
  have hev : a.eval g = .func (.func gf) #[] lb.toArray := ha.eval hg
  refine ⟨W.heap.size + 1, [markOf W.heap.size], (W.alloc MarkObj).alloc (.loop (rec .ready)), { target := .fn (.func gf) lb.toArray, args := #[.func (.yield (W.heap.size + 1)) #[] #[]] }, (W.alloc MarkObj).alloc (.loop (rec .ready)), gf,
    (Value.func (.yield (W.heap.size + 1)) #[] #[] :: lb).toArray, (W.alloc MarkObj).alloc (.loop (rec .ready)), ?_, ?_, fun _ _ => trivial, ?_, (fun h => by cases h), ?_⟩
  · rw [hrec]; exact run_enterLoop_outer _ _ _ _ _
  · simp only [resolve, hev]
    simp [go_sem]
  · have := hE (Value.func (.yield (W.heap.size + 1)) #[] #[] :: lb).toArray ((W.alloc MarkObj).alloc (.loop (rec .ready)))
    simp [invoke, go_sem, this]
  · refine fr_calls.2 ((hseq (W.heap.size + 1) (fun i A => ∃ own' X', I i own' X' ∧ Sat ⟨w, (W.heap.size + 1, .loop (rec .ready)) :: (W.heap.size, MarkObj) :: Ds.map resOf⟩ X0 own' X' A) (fun A => ∃ own' X', Ix own' X' ∧ Sat ⟨w, (W.heap.size + 1, .loop { rec .ready with state := .done, pending := some .ret }) :: (W.heap.size, MarkObj) :: Ds.map resOf⟩ X0 own' X' A) _ ?_ ?_ ?_ ?_ ?_ ⟨own, X, h0, hs1⟩).mono ?_)
    · rintro i A B ⟨own', X', hI, hA⟩ hb
      exact ⟨own', X', hI, hA.call hb ((Grow.of_below hb).pin hA.stab.pers) fun _ _ => rfl⟩
    · rintro A B ⟨own', X', hI, hA⟩ hb
      exact ⟨own', X', hI, hA.call hb ((Grow.of_below hb).pin hA.stab.pers) fun _ _ => rfl⟩
    · rintro i A ⟨own', X', hI, hA⟩ k o hk
      exact hA.stab.pers k o (hX i own' X' hI k o hk)
    · rintro A ⟨own', X', hI, hA⟩ k o hk
      exact hA.stab.pers k o (hXx own' X' hI k o hk)
    · rintro i x A ⟨own', X', hI, hA⟩ hx
      have hl := (hA.res (W.heap.size + 1, .loop (rec .ready)) (by simp)).1
      have hy := run_yield (P := P) (args := #[x]) hl (by rw [hrec]; rfl)
      refine ⟨_, _, _, _, hy, roundIn_of_wpIn trivial ?_⟩
      have hps : (rec .ready).params = #[p] := by rw [hrec]
      have htm : (rec .ready).tmps = a.tmps := by rw [hrec]
      have has : (rec .ready).assign = asg := by rw [hrec]
      have hbd : (rec .ready).body = body := by rw [hrec]
      rw [hps, htm, has, hbd]
      have hz : ∀ F : Array Value → Tmp × Value → Array Value, (#[p].zip #[x]).foldl F a.tmps = F a.tmps (p, x) := fun F => by simp
      rw [hz]
      have he : EOk ⟨s, []⟩ ((p, x) :: env) { tmps := a.tmps.setIfInBounds p x, defers := [] } := by
        have h1 : EOk ⟨s, []⟩ env { tmps := a.tmps, defers := [] } := ⟨rfl, ha.size, ha.get⟩
        exact h1.put hp x
      have hAs : T (some (W.heap.size + 1)) P ⟨s, []⟩ ⟨w, (W.heap.size + 1, .loop (rec .ready)) :: (W.heap.size, MarkObj) :: Ds.map resOf⟩ X0 (fun e a W2 => match e with
          | .normal => EOk ⟨s, []⟩ ((d, x) :: (p, x) :: env) a ∧ Sat ⟨w, (W.heap.size + 1, .loop (rec .ready)) :: (W.heap.size, MarkObj) :: Ds.map resOf⟩ X0 own' X' W2
          | _ => False) [.code asg] none ((p, x) :: env) own' X' := by
        rw [hasg]
        refine T.region (ops := [_]) (SL.y (op_assign (v := x) ?_) rfl ?_ ?_)
        · simp [eev, eget]
        · simp [dok, noDefer]; exact Nat.le_of_ble_eq_true hd
        · exact fun a W2 ha hs => ⟨ha, hs⟩
      have hw := runL_code_iff.1 (hAs _ A he hA)
      refine wpIn_dep (m := DEP) (Code.wpIn_mono (fun e a2 W2 h => ?_) hw)
      cases e with
      | normal =>
        obtain ⟨ha2, hs2⟩ := h
        have hl2 := (hs2.res (W.heap.size + 1, .loop (rec .ready)) (by simp)).1
        refine ⟨_, run_beginRound hl2 (by rw [hrec]), ?_⟩
        have hs3 := hs2.putRes hfar (.loop { rec .ready with state := .busy })
        have hb := runL_code_iff.1 (round i x own' X' _ _ _ hx hI a2 _ ha2 hs3)
        refine wpIn_dep (m := DEP) (Code.wpIn_mono (fun e a4 W4 h => ?_) hb)
        cases e with
        | normal =>
          obtain ⟨own4, X4, hI4, hs4⟩ := h
          have hl4 := (hs4.res (W.heap.size + 1, .loop { rec .ready with state := .busy }) (by simp)).1
          refine ⟨_, _, run_endRound none hl4, .inl ⟨rfl, own4, X4, hI4, ?_⟩⟩
          have := hs4.putRes hfar (.loop (rec .ready))
          have e2 : ({ { rec .ready with state := .busy } with state := (if (none : Option Code).isNone then .ready else .done), pending := none } : Loop) = rec .ready := by rw [hrec]; rfl
          rw [e2]
          exact this
        | ret =>
          obtain ⟨own4, X4, hI4, hs4⟩ := h
          have hl4 := (hs4.res (W.heap.size + 1, .loop { rec .ready with state := .busy }) (by simp)).1
          refine ⟨_, _, run_endRound (some .ret) hl4, .inr ⟨rfl, own4, X4, hI4, ?_⟩⟩
          exact hs4.putRes hfar (.loop { rec .ready with state := .done, pending := some .ret })
        | _ => exact h.elim
      | _ => exact h.elim
    · rintro e B ⟨⟨v, rfl⟩, ⟨own', X', hI, hB⟩ | ⟨own', X', hI, hB⟩⟩
      · have hl := (hB.res (W.heap.size + 1, .loop (rec .ready)) (by simp)).1
        have e3 : ({ rec .ready with state := .exhausted } : Loop) = rec .exhausted := by rw [hrec]
        have e4 : (rec .ready).pending = none := by rw [hrec]
        refine ⟨none, B.putObj (W.heap.size + 1) (.loop (rec .exhausted)), ?_, ?_⟩
        · have := run_endLoop (P := P) hl (by rw [hrec]; simp)
          rw [e3, e4] at this
          exact this
        have hs5 := (hB.putRes hfar (.loop (rec .exhausted))).drop
        have hr := rest W.heap.size own' X' hnew hI { a with defers := [markOf W.heap.size] ++ a.defers } _ ⟨by simp [ha.defers], ha.size, ha.get⟩ hs5
        exact hr
      · have hl := (hB.res (W.heap.size + 1, .loop { rec .ready with state := .done, pending := some .ret }) (by simp)).1
        refine ⟨some .ret, B.putObj (W.heap.size + 1) (.loop { rec .ready with state := .exhausted, pending := some .ret }), run_endLoop (P := P) hl (by simp), ?_⟩
        have hs5 := (hB.putRes hfar (.loop { rec .ready with state := .exhausted, pending := some .ret })).drop
        have hr := stop W.heap.size own' X' hnew hI { a with defers := [markOf W.heap.size] ++ a.defers } _ ⟨by simp [ha.defers], ha.size, ha.get⟩ hs5
        exact runL_code_iff.1 hr
theorem SL.yieldX {ops : Array Oper} {l' : List Oper} {d : Option Tmp} {c y : Operand} {ts : Array TypeId} {ty : TypeId} {pos : String} {af : Array Edge} {gd : Option (Nat × Bool)} {l : Nat} {x : Value} {J J' Jx : World → Prop}
    (hc : eev env c = some (.func (.yield l) #[] #[])) (hx : eev env y = some x) (hg : gwant ops env gd = some true) (hd : dok n d = true)
    (hJ : ∀ W, Below w.heap.size w W → J W) (hY : ∀ A, J A → YieldAt (FR none) DEP P l #[x] A fun e B => e = .returned (.bool true) ∧ J' B ∨ e = .returned (.bool false) ∧ Jx B) (hP : ∀ B, J' B → PIn X B) (hPx : ∀ B, Jx B → PIn X B)
    (h' : ∀ w1, J' w1 → PIn X w1 → SL none P n ⟨w1, []⟩ X ops Q l' (eput env d (.bool true)) [] X)
    (hx' : ∀ w1, Jx w1 → PIn X w1 → SL none P n ⟨w1, []⟩ X ops Q l' (eput env d (.bool false)) [] X) :
    SL none P n ⟨w, []⟩ X0 ops Q (⟨d, .call { callee := .value c, args := #[y], argTypes := ts }, ty, pos, af, gd⟩ :: l') env [] X := by
  intro a W ha hs
  unfold wpListIn
  rw [if_pos (gwant_spec ha hg)]
  refine ⟨fun _ _ => trivial, ?_⟩
  rw [Oper.semAt_eq _ _ _ (fun _ => by simp)]
  obtain ⟨fn, tmps, assign, body, hy, hr⟩ := hY W (hJ W hs.below)
  have hex : (execOp a.eval ⟨d, .call { callee := .value c, args := #[y], argTypes := ts }, ty, pos, af, gd⟩).run P W = .ok (.round l fn tmps assign body) W := by
    simp only [execOp, resolve, ha.eval hc, Deferred.ofValue, invoke, Sem.run_bind, Sem.run_pure, Result.andThen_ok, List.map_toArray, List.map_cons, List.map_nil, ha.eval hx]
    simp [go_sem, hy]
  rw [hex, Oper.uponIn_round]
  refine ⟨fun h => (by cases h), roundIn_dep (m := DEP) (hr.mono fun e B h => ?_)⟩
  rcases h with ⟨rfl, hJ'⟩ | ⟨rfl, hJ'⟩
  · exact h' B hJ' (hP B hJ') _ _ (ha.eput hd _) (Sat.start B (hP B hJ'))
  · exact hx' B hJ' (hPx B hJ') _ _ (ha.eput hd _) (Sat.start B (hPx B hJ'))
end
theorem all_seqX {X : PMap} (hT : Tab X) {v : Value} {m B : Nat} (h : SetR X v m) (hbox : Blk X B (vcells v)) : SeqX Tryz.prog 85 [.pointer (some ⟨B, 0, none⟩)] (ints (mem64 m)) X := by
  intro l J Jx w0 hst hstx hP hPx hY hJ0
  have hw0 := hP 0 w0 hJ0
  rcases h with ⟨rfl, A, c, rfl⟩ | ⟨_, h1, b, c, rest, rfl, hB⟩
  · refine Calls.enter Tryz.func85 rfl Tryz.ntmps85 rfl hw0 ?_
    refine T.seq <| T.region <| SL.v (op_fieldAddr fa65_0 rfl) <| SL.v (op_loadX ty63 rfl (by assumption) rfl) ?_
    refine SL.v (op_lenS Tryz.underlying63 rfl) <| SL.v (op_move (v := .int .i64 ((0 : Nat) : Int)) rfl) <| SL.nil <| T.block <| T.unrollStart 1 ?_
    refine T.unroll ?_
    refine T.seq <| T.region <| SL.v (op_lssF rfl rfl (by omega)) ?_
    refine SL.nil <| T.seq <| T.condF rfl ?_
    refine T.exit (T.exitCode (T.exitMore (T.exitBlk ?_)))
    refine T.done0 rfl ?_
    intro W' hb hp
    exact ⟨⟨_, rfl⟩, .inl (by simpa [mem64_zero, ints] using hst 0 _ _ hJ0 hb)⟩
  · refine Calls.enter Tryz.func85 rfl Tryz.ntmps85 rfl hw0 ?_
    refine T.seq <| T.region <| SL.v (op_fieldAddr fa65_0 rfl) <| SL.v (op_loadX ty63 rfl (by assumption) rfl) ?_
    refine SL.v (op_lenS Tryz.underlying63 rfl) <| SL.v (op_move (v := .int .i64 ((0 : Nat) : Int)) rfl) <| SL.nil <| T.block <| T.unrollStart 2 ?_
    refine T.unroll ?_
    refine T.seq <| T.region <| SL.v (op_lssT rfl rfl (by omega)) ?_
    refine SL.nil <| T.seq <| T.condT rfl <| T.skip <| T.seq <| T.block <| T.seq <| T.region <| SL.mv rfl <| SL.v (op_indexN Tryz.underlying63 ty108 rfl rfl (by omega)) ?_
    refine SL.v (op_loadX ty108 rfl (by assumption) rfl) ?_
    refine SL.as rfl <| SL.as rfl <| SL.nil <| T.block <| T.loopB (fun mm env w1 => ∃ i x, x = mm ∧ x < 18446744073709551616 ∧ i ≤ (mem64 m).length ∧ (mem64 m).drop i = mem64 x ∧ J i w1 ∧ env = [(0, .func (.yield l) #[] #[]), (3, .int .i64 ((0 : Nat) : Int)), (4, .int .u64 (x : Int)), (7, .int .i64 ((1 : Nat) : Int)), (8, .int .i64 ((0 : Nat) : Int))]) m ⟨0, m, rfl, h1, by omega, by simp, hJ0, rfl⟩ (by repeat (first | exact Sub.nil | refine Sub.cons rfl ?_)) rfl ?_
    rintro mm _ w1 ⟨i, x, rfl, hx, hi, hdrop, hJ, rfl⟩
    by_cases hx0 : x = 0
    · subst hx0
      have hi' : i = (mem64 m).length := by
        rw [mem64_zero] at hdrop
        have := List.drop_eq_nil_iff.1 hdrop
        omega
      subst hi'
      refine T.seq <| T.seq <| T.region <| SL.mv rfl <| SL.v (op_neqF rfl rfl (by omega)) ?_
      refine SL.nil <| T.condF rfl ?_
      refine T.exit (T.exitCode (T.exitCut (T.exitBlk ?_)))
      refine T.blk <| T.region <| SL.v (op_addN (q := 1) rfl rfl (by omega)) ?_
      refine SL.mv rfl <| SL.nil <| T.unroll ?_
      refine T.seq <| T.region <| SL.v (op_lssF rfl rfl (by omega)) ?_
      refine SL.nil <| T.seq <| T.condF rfl ?_
      refine T.exit (T.exitCode (T.exitMore (T.exitBlk ?_)))
      refine T.done0 rfl ?_
      intro W' hb hp
      exact ⟨⟨_, rfl⟩, .inl (by simpa [ints] using hst _ _ _ hJ hb)⟩
    · obtain ⟨t, q, hq⟩ := odd_part x (by omega)
      have ht : t < 64 := odd_lt (n := 64) (q := q) (by rw [← hq]; exact hx)
      obtain ⟨hget, hdrop'⟩ := mem64_drop hdrop hq ht
      refine T.seq <| T.seq <| T.region <| SL.mv rfl <| SL.v (op_neqT rfl rfl (by omega)) ?_
      refine SL.nil <| T.condT rfl <| T.skip <| T.seq <| T.block <| T.seq <| T.region <| SL.mv rfl <| SL.mv rfl <| SL.v (op_mulN (p := 64) rfl rfl (by omega)) ?_
      refine SL.mv rfl <| SL.w (op_callF en86 (vs := [_]) rfl (tz_spec hT t q x hq hx)) ?_
      rintro _ _ X1 ⟨rfl, hX1, rfl, rfl⟩
      refine SL.v (op_addN rfl rfl (by omega)) ?_
      refine (SL.yieldX (x := .int .i64 ((0 + t : Nat) : Int)) (J := J i) (J' := J (i + 1)) (Jx := Jx) rfl rfl rfl rfl (fun W hb => hst i _ _ hJ hb) (fun A hA => hY i _ A hA (by simp [ints, hget])) (fun B hB => hP _ B hB) (fun B hB => hPx B hB) ?_ ?_)
      rotate_left
      · intro w2 hJ2 hw2
        refine SL.v (op_not rfl) <| SL.nil <| T.condT rfl ?_
        refine T.retR (fun _ _ _ _ => run_results0 rfl) (fun W' hb hp => ?_) ⟨[], rfl, rfl, .nil⟩
        exact ⟨⟨_, rfl⟩, .inr (hstx _ _ hJ2 hb)⟩
      intro w2 hJ2 hw2
      refine SL.v (op_not rfl) <| SL.nil <| T.condF rfl <| T.skip <| T.blk <| T.region <| SL.mv rfl <| SL.mv rfl <| SL.v (op_subU (q := 1) rfl rfl (by omega) (by omega)) ?_
      refine SL.v (op_and rfl rfl (by first | omega | assumption | decide | exact Nat.lt_of_le_of_lt (Nat.shiftRight_le ..) (by first | omega | assumption) | exact Nat.lt_of_le_of_lt Nat.and_le_left (by first | omega | assumption) | exact Nat.lt_of_le_of_lt Nat.and_le_right (by first | omega | decide)) (by first | omega | assumption | decide | exact Nat.lt_of_le_of_lt (Nat.shiftRight_le ..) (by first | omega | assumption) | exact Nat.lt_of_le_of_lt Nat.and_le_left (by first | omega | assumption) | exact Nat.lt_of_le_of_lt Nat.and_le_right (by first | omega | decide))) ?_
      rw [show x &&& (x - 1) = 2 ^ t * (2 * q) by rw [hq]; exact drop_low t q]
      refine SL.as rfl <| SL.nil ?_
      exact T.backB (2 ^ t * (2 * q)) (by rw [hq]; exact Nat.mul_lt_mul_of_pos_left (by omega) (Nat.pow_pos (by omega))) ⟨i + 1, _, rfl, by rw [hq] at hx; exact Nat.lt_of_le_of_lt (Nat.mul_le_mul_left _ (by omega)) hx, by have := (List.getElem?_eq_some_iff.1 hget).1; omega, hdrop', hJ2, rfl⟩ (by repeat (first | exact Sub.nil | refine Sub.cons rfl ?_))

end Go.Proofs.YtmfiencoefbjfaaGreatDoor
namespace Go.Proofs.YtmfiencoefbjfaaGreatDoor
section
set_option maxRecDepth 100000
theorem bs154 : ∃ i z, Tryz.prog.info? 154 = some i ∧ i.size = 2 ∧ i.zero = some z ∧ z.cells = ([.int .i64 0, .int .i64 0] : List Value).toArray := bs_of (by kernel_rfl)
theorem en83 : Enters Tryz.prog 83 := enters_mk Tryz.func83 (by kernel_rfl) rfl
theorem en84 : Enters Tryz.prog 84 := enters_mk Tryz.func84 (by kernel_rfl) rfl
theorem fa77_0 : FAdr Tryz.prog 77 0 0 := fadr_mk Tryz.underlying77 rfl rfl (by kernel_rfl)
theorem sl86 : SlT Tryz.prog 86 154 2 16 := ⟨Tryz.underlying86, sl_of (by kernel_rfl) (by decide)⟩
theorem ty86 : Ty Tryz.prog 86 false 1 := ⟨⟨_, Tryz.underlying86, rfl⟩, by kernel_rfl⟩
theorem z86 : Zero Tryz.prog 86 [.slice none 0 0] := ⟨zero_of (by kernel_rfl)⟩
end
open Go.RowKit
/-- A slice of pairs. -/
def PrR (X : PMap) (v : Value) (l : List (Nat × Nat)) : Prop := (l = [] ∧ v = .slice none 0 0) ∨ (0 < l.length ∧ ∃ b cap, v = .slice (some ⟨b, 0, none⟩) l.length cap ∧ Blk X b (pairC l) ∧ l.length ≤ cap)
theorem PrR.mono {X X' : PMap} {v : Value} {l : List (Nat × Nat)} (h : PrR X v l) (hX : X.le X') : PrR X' v l := by
  rcases h with h | ⟨h0, b, cap, h1, h2, h3⟩
  · exact .inl h
  · exact .inr ⟨h0, b, cap, h1, h2.mono hX, h3⟩
theorem PrR.form {X : PMap} {v : Value} {l : List (Nat × Nat)} (h : PrR X v l) : ∃ A cap, v = .slice A l.length cap := by
  rcases h with ⟨rfl, rfl⟩ | ⟨_, b, cap, h1, _⟩
  · exact ⟨_, _, rfl⟩
  · exact ⟨_, _, h1⟩
theorem pairC_len (l : List (Nat × Nat)) : (pairC l).length = l.length * 2 := by
  induction l with
  | nil => rfl
  | cons p l ih =>
    have e : pairC (p :: l) = .int .i64 (p.1 : Int) :: .int .i64 (p.2 : Int) :: pairC l := rfl
    rw [e, List.length_cons, List.length_cons, List.length_cons, ih]
    omega
theorem pairC_one (l : List (Nat × Nat)) : ∀ y ∈ pairC l, y.oneCell' = true := fun y hy => by
  simp only [pairC, List.mem_flatMap] at hy
  obtain ⟨p, _, hp⟩ := hy
  simp only [List.mem_cons, List.not_mem_nil, or_false] at hp
  rcases hp with rfl | rfl <;> rfl
theorem pclone_spec {X : PMap} {v : Value} {l : List (Nat × Nat)} (h : PrR X v l) (hl : l.length < 100000) : SpecO Tryz.prog 83 [v] X fun u own1 _ => GrowS 154 2 u l.length (pairC l) own1 := by
  rcases h with ⟨rfl, rfl⟩ | ⟨h0, b, cap, rfl, hB, hcap⟩
  · refine SpecO.enter Tryz.func83 rfl Tryz.ntmps83 rfl ?_
    intro w0 hw0
    refine T.seq <| T.region <| SL.as rfl <| SL.nil <| T.seq <| T.seq <| T.region <| SL.mv rfl <| SL.v (op_eqlSNil Tryz.underlying86 rfl rfl) <| SL.nil <| T.condT rfl <| T.seq <| T.region <| SL.as rfl <| SL.nil ?_
    refine T.retO1 rfl (ResIs.tmp rfl) ?_
    exact .inl ⟨rfl, rfl, rfl, rfl⟩
  · refine SpecO.enter Tryz.func83 rfl Tryz.ntmps83 rfl ?_
    intro w0 hw0
    refine T.seq <| T.region <| SL.as rfl <| SL.nil <| T.seq <| T.seq <| T.region <| SL.mv rfl <| SL.v (op_eqlSNil Tryz.underlying86 rfl rfl) <| SL.nil <| T.condF rfl <| T.skip <| T.seq <| T.region <| SL.w (op_buildSlice Tryz.underlying86 bs154 (qs := []) rfl rfl rfl rfl rfl) ?_
    rintro _ _ _ ⟨B5, rfl, rfl, rfl⟩
    refine SL.mv rfl <| SL.w (op_append (m := l.length) (news := pairC l) sl86 rfl rfl (by repeat constructor) rfl rfl (Nat.le_refl _) (by decide) (Src.ofExt0 hB (pairC_len l).symm) (pairC_one l) (by (have : maxLen = 9223372036854775807 := rfl); omega) (by omega)) ?_
    rintro _ _ _ ⟨b7, cap7, rfl, rfl, rfl, hc7, hm7⟩
    refine SL.as rfl <| SL.nil <| T.retO1 rfl (ResIs.tmp rfl) ?_
    exact .inr ⟨b7, cap7, by rw [Nat.zero_add], by simp, by omega, hm7, by rw [pairC_len]⟩
theorem fooling_spec {X : PMap} (hT : Tab X) {sb c : Nat} {pm sl v : Value} {n : Int} {ms o : List Nat} (hB : Blk X sb [pm, sl, .int .i64 n]) (hM : MatR X pm c ms) (h : OnesR X v o) (hl : o.length ≤ 64) : Spec Tryz.prog 55 [.pointer (some ⟨sb, 0, none⟩), v] X fun u _ => ∃ A len cp, u = .slice A len cp := by
  obtain ⟨A, cp, rfl⟩ := h.form
  have hmx : maxLen = 9223372036854775807 := rfl
  refine Spec.enter Tryz.func55 rfl Tryz.ntmps55 rfl ?_
  intro w0 hw0
  refine T.seq <| T.region <| SL.w (op_box rfl) ?_
  rintro _ _ _ ⟨B2, rfl, rfl, rfl⟩
  refine SL.as rfl <| SL.nil <| T.seq <| T.region <| SL.w (op_alloc z86) ?_
  rintro _ _ _ ⟨B5, rfl, rfl, rfl⟩
  refine SL.nil <| T.seq <| T.seq <| T.region <| SL.mv rfl <| SL.v (op_lenS Tryz.underlying78 rfl) <| SL.v (op_move (v := .int .i64 ((0 : Nat) : Int)) rfl) <| SL.nil <| T.block <| T.loopD (Ds := []) List.nodup_nil (fun m env own X' => ∃ (k : Nat) (l : List (Nat × Nat)) (ov : Value), m = o.length - k ∧ k ≤ o.length ∧ X.le X' ∧ PrR X' ov l ∧ l.length ≤ 64 * k ∧ env = [(2, .pointer (some ⟨B2, 0, none⟩)), (5, .pointer (some ⟨B5, 0, none⟩)), (10, .slice A o.length cp), (11, .int .i64 (o.length : Int)), (12, .int .i64 (k : Int))] ∧ own = [⟨B5, [ov], 86, 1⟩, ⟨B2, [.pointer (some ⟨sb, 0, none⟩)], 75, 1⟩]) o.length ⟨0, [], _, by simp, by omega, PMap.le_refl _, .inl ⟨rfl, rfl⟩, by simp, rfl, rfl⟩ (by repeat (first | exact Sub.nil | refine Sub.cons rfl ?_)) ?_
  rintro Ds hDs m _ _ X2 ⟨k, l, ov, rfl, hk, hX2, hP, hlen, rfl, rfl⟩
  rcases Nat.lt_or_ge k o.length with hkl | hkl
  · obtain ⟨b, cs, x, y, z, rfl, hBo, hc, hS⟩ := h.at hkl
    have hBo2 := hBo.mono hX2
    obtain ⟨Ao, co, rfl⟩ := hP.form
    have hmem := mem64_length o[k]
    refine T.seq <| T.region <| SL.v (op_lssT rfl rfl (by omega)) ?_
    refine SL.nil <| T.seq <| T.condT rfl <| T.skip <| T.seq <| T.block <| T.seq <| T.region <| SL.mv rfl <| SL.v (op_indexN Tryz.underlying78 ty65 rfl rfl (by omega)) ?_
    refine SL.v (op_loadX ty65 rfl hBo2 (creadR1 hc)) <| SL.w (op_alloc z3) ?_
    rintro _ _ _ ⟨B6, rfl, rfl, rfl⟩
    refine SL.w (op_alloc z65) ?_
    rintro _ _ _ ⟨B7, rfl, rfl, rfl⟩
    refine SL.w (op_store ty3 rfl rfl (by repeat constructor) rfl rfl rfl) ?_
    rintro _ _ _ ⟨rfl, rfl⟩
    refine SL.w (op_store ty65 rfl rfl (by repeat constructor) rfl rfl rfl) ?_
    rintro _ _ _ ⟨rfl, rfl⟩
    refine SL.nil <| T.seq <| T.region <| SL.v (op_load ty65 rfl (by repeat constructor) rfl) ?_
    refine SL.w (op_callF en60 (vs := [_]) rfl (all_spec)) ?_
    rintro _ _ X3 ⟨rfl, hX3, B18, rfl, hB18⟩
    have hX03 := hX2.trans' hX3
    refine SL.nil <| T.block <| T.rangeFuncD (Ds := Ds) (xs := (ints (mem64 o[k]))) hDs rfl en85 rfl rfl (all_seq (hT.mono hX03) (hS.mono hX03) hB18) (fun i own' X' => X3.le X' ∧ ∃ (l : List (Nat × Nat)) (ov : Value), PrR X' ov l ∧ l.length ≤ 64 * k + i ∧ own' = [⟨B7, [.slice x y z], 65, 1⟩, ⟨B6, [.int .i64 (k : Int)], 3, 1⟩, ⟨B5, [ov], 86, 1⟩, ⟨B2, [.pointer (some ⟨sb, 0, none⟩)], 75, 1⟩]) ⟨PMap.le_refl _, l, _, hP.mono hX3, by omega, rfl⟩ (fun i own' X' h => h.1) ?_ ?_
    · rintro i w _ X4 l' r D hz ⟨hX4, l, ov, hP, hlen, rfl⟩
      obtain ⟨hzi, rfl⟩ := ints_some hz
      have hX04 := hX03.trans' hX4
      have hB4 := hB.mono hX04
      obtain ⟨Ao, co, rfl⟩ := hP.form
      refine T.block <| T.seq <| T.draw (by kernel_rfl) 6 [.t 0, .t 2, .t 3, .t 4, .f 1 5] (by kernel_rfl) ?_
      refine SD.take rfl panicRound (op_load ty86 rfl (by repeat constructor) rfl) rfl rfl ?_
      refine SD.take rfl panicRound (op_load ty3 rfl (by repeat constructor) rfl) rfl rfl ?_
      refine SD.take rfl panicRound (op_move rfl) rfl rfl ?_
      refine SD.take rfl panicRound (op_buildA (size := 1) Tryz.underlying154 z154 (by kernel_rfl) (qs := [(0, _), (1, _)]) rfl rfl rfl) rfl rfl ?_
      refine SD.fork rfl rfl (K := (fun v1 v2 own' X' => ∃ (G : Own) (bb : Nat), v2 = .slice (some ⟨bb, 0, none⟩) 1 1 ∧ own' = ⟨bb, [.int .i64 (k : Int), .int .i64 ((mem64 o[k])[i] : Int)], 154, 2⟩ :: (G ++ [⟨B7, [.slice x y z], 65, 1⟩, ⟨B6, [.int .i64 (k : Int)], 3, 1⟩, ⟨B5, [.slice Ao l.length co], 86, 1⟩, ⟨B2, [.pointer (some ⟨sb, 0, none⟩)], 75, 1⟩]) ∧ GrowS 154 2 v1 l.length (pairC l) G ∧ X4.le X')) ((op_callO (vs := [_]) en83 rfl (pclone_spec hP (by omega))).mono (by rintro v own' X' ⟨G, rfl, hX2, hG⟩; exact (op_buildSlice Tryz.underlying86 bs154 (qs := [(0, _)]) rfl rfl rfl rfl rfl).mono (by rintro v2 own2 X2 ⟨bb, rfl, rfl, rfl⟩; exact ⟨G, bb, rfl, rfl, hG, hX2⟩))) ((op_buildSlice Tryz.underlying86 bs154 (qs := [(0, _)]) rfl rfl rfl rfl rfl).mono (by rintro v2 own2 X2 ⟨bb, rfl, rfl, rfl⟩; exact (op_callO (vs := [_]) en83 rfl (pclone_spec hP (by omega))).mono (by rintro v own' X' ⟨G, rfl, hX2, hG⟩; exact ⟨_, List.perm_middle, G, bb, rfl, rfl, hG, hX2⟩))) rfl (fun _ => rfl) rfl (fun _ => rfl) rfl rfl rfl ?_
      rintro v1 _ _ X5 ⟨G, bb, rfl, rfl, hG, hX5⟩
      refine SD.nil ?_
      show SL _ _ _ _ _ _ _ [_, _] _ _ _
      refine SL.perm (List.Perm.cons _ List.perm_append_comm) ?_
      refine SL.w (op_appendG (own0 := [_, _, _, _]) sl86 rfl hG rfl rfl rfl (by omega) (by omega)) ?_
      rintro v3 _ _ ⟨G2, rfl, rfl, hG2⟩
      have hG3 : GrowS 154 2 v3 (l ++ [(k, (mem64 o[k])[i])]).length (pairC (l ++ [(k, (mem64 o[k])[i])])) G2 := by rw [List.length_append, pairC_append]; exact hG2
      obtain ⟨b3, cap3, rfl, _, hcap3, _⟩ := hG3.pos (by simp)
      refine T.pubGAt (own0 := [_, _, _, _]) hG3 ?_
      intro X6 hX6 hS6
      obtain ⟨b3', he3, hB6⟩ := hS6.blk (by simp)
      obtain rfl : b3' = b3 := by simpa using he3.symm
      have hB46 := (hB4.mono hX5).mono hX6
      have hX06 := (hX04.trans' hX5).trans' hX6
      have hP6 : PrR X6 (.slice (some ⟨b3', 0, none⟩) (l ++ [(k, (mem64 o[k])[i])]).length cap3) (l ++ [(k, (mem64 o[k])[i])]) := .inr ⟨by simp, b3', cap3, rfl, hB6, hcap3⟩
      refine SL.as rfl <| SL.nil <| T.seq <| T.region <| SL.v (op_load ty75 rfl (by repeat constructor) rfl) ?_
      refine SL.v (op_nil rfl) <| SL.v (op_fieldAddr fa77_0 rfl) <| SL.v (op_loadX ty26 rfl hB46 rfl) <| SL.mv rfl <| SL.w (op_callF en84 (vs := [_, _]) rfl (fool_spec (hM.mono hX06) hB6 hcap3 (by rw [List.length_append, List.length_singleton]; omega))) ?_
      rintro _ _ X7 ⟨rfl, hX7, bb2, rfl⟩
      have hX47 := ((hX4.trans' hX5).trans' hX6).trans' hX7
      cases bb2 with
      | true =>
        refine SL.nil <| T.condT rfl <| T.region <| SL.mv rfl <| SL.w (op_store ty86 rfl rfl (by repeat constructor) rfl rfl rfl) ?_
        rintro _ _ _ ⟨rfl, rfl⟩
        refine SL.nil <| T.blk ?_
        exact T.roundEnd ⟨hX47, l ++ [(k, (mem64 o[k])[i])], _, hP6.mono hX7, by rw [List.length_append, List.length_singleton]; omega, rfl⟩
      | false =>
        refine SL.nil <| T.condF rfl <| T.skip <| T.blk ?_
        exact T.roundEnd ⟨hX47, l, _, ((hP.mono hX5).mono hX6).mono hX7, by omega, rfl⟩
    · rintro D _ X4 hDs' ⟨hX4, l, ov, hP, hlen, rfl⟩
      refine T.blk <| T.blk <| T.region <| SL.v (op_addN (q := 1) rfl rfl (by omega)) ?_
      refine SL.mv rfl <| SL.nil <| T.drop B7 (by repeat constructor) ?_
      refine T.drop B6 (by repeat constructor) ?_
      exact T.backD hDs' (o.length - (k + 1)) (by omega) ⟨k + 1, l, ov, rfl, by omega, hX03.trans' hX4, hP, by rw [show (ints (mem64 o[k])).length = (mem64 o[k]).length by simp [ints]] at hlen; omega, rfl, rfl⟩ (by repeat (first | exact Sub.nil | refine Sub.cons rfl ?_))
  · refine T.seq <| T.region <| SL.v (op_lssF rfl rfl (by omega)) ?_
    refine SL.nil <| T.seq <| T.condF rfl ?_
    refine T.exit (T.exitCode (T.exitCut (T.exitBlk ?_)))
    refine T.seq <| T.region <| SL.v (op_load ty86 rfl (by repeat constructor) rfl) ?_
    refine SL.as rfl <| SL.nil ?_
    obtain ⟨Ao, co, rfl⟩ := hP.form
    refine T.ret1 rfl (ResIs.tmp rfl) ?_ ⟨_, rfl, rfl, hDs⟩
    exact ⟨_, _, _, rfl⟩
end Go.Proofs.YtmfiencoefbjfaaGreatDoor
namespace Go.Proofs.YtmfiencoefbjfaaGreatDoor
open Go.RowKit
theorem pair_spec {X : PMap} (hT : Tab X) {sb c : Nat} {pm sl v : Value} {n : Int} {ms o : List Nat} (hB : Blk X sb [pm, sl, .int .i64 n]) (hM : MatR X pm c ms) (h : OnesR X v o) (hl : o.length ≤ 64) : Spec Tryz.prog 56 [.pointer (some ⟨sb, 0, none⟩), v] X fun u _ => ∃ A len cp, u = .slice A len cp := by
  obtain ⟨A, cp, rfl⟩ := h.form
  have hmx : maxLen = 9223372036854775807 := rfl
  refine Spec.enter Tryz.func56 rfl Tryz.ntmps56 rfl ?_
  intro w0 hw0
  refine T.seq <| T.region <| SL.w (op_box rfl) ?_
  rintro _ _ _ ⟨B2, rfl, rfl, rfl⟩
  refine SL.w (op_alloc z86) ?_
  rintro _ _ _ ⟨B4, rfl, rfl, rfl⟩
  refine SL.nil <| T.seq <| T.region <| SL.w (op_alloc z86) ?_
  rintro _ _ _ ⟨B5, rfl, rfl, rfl⟩
  refine SL.nil <| T.seq <| T.seq <| T.region <| SL.mv rfl <| SL.v (op_lenS Tryz.underlying78 rfl) <| SL.v (op_move (v := .int .i64 ((0 : Nat) : Int)) rfl) <| SL.nil <| T.block <| T.loopD (Ds := []) List.nodup_nil (fun m env own X' => ∃ (k : Nat) (l : List (Nat × Nat)) (cv : Value) (G : Own), m = o.length - k ∧ k ≤ o.length ∧ X.le X' ∧ GrowS 154 2 cv l.length (pairC l) G ∧ l.length ≤ 64 * k ∧ env = [(2, .pointer (some ⟨B2, 0, none⟩)), (4, .pointer (some ⟨B4, 0, none⟩)), (5, .pointer (some ⟨B5, 0, none⟩)), (12, .slice A o.length cp), (13, .int .i64 (o.length : Int)), (14, .int .i64 (k : Int))] ∧ own = [⟨B5, [cv], 86, 1⟩, ⟨B4, [.slice none 0 0], 86, 1⟩, ⟨B2, [.pointer (some ⟨sb, 0, none⟩)], 75, 1⟩] ++ G) o.length ⟨0, [], _, _, by simp, by omega, PMap.le_refl _, GrowS.nil, by simp, rfl, rfl⟩ (by repeat (first | exact Sub.nil | refine Sub.cons rfl ?_)) ?_
  rintro Ds hDs m _ _ X2 ⟨k, l, cv, G, rfl, hk, hX2, hG, hlen, rfl, rfl⟩
  rcases Nat.lt_or_ge k o.length with hkl | hkl
  · obtain ⟨b, cs, x, y, z, rfl, hBo, hc, hS⟩ := h.at hkl
    have hBo2 := hBo.mono hX2
    obtain ⟨Ao, co, rfl⟩ := hG.form
    have hmem := mem64_length o[k]
    refine T.seq <| T.region <| SL.v (op_lssT rfl rfl (by omega)) ?_
    refine SL.nil <| T.seq <| T.condT rfl <| T.skip <| T.seq <| T.block <| T.seq <| T.region <| SL.mv rfl <| SL.v (op_indexN Tryz.underlying78 ty65 rfl rfl (by omega)) ?_
    refine SL.v (op_loadX ty65 rfl hBo2 (creadR1 hc)) <| SL.w (op_alloc z3) ?_
    rintro _ _ _ ⟨B6, rfl, rfl, rfl⟩
    refine SL.w (op_alloc z65) ?_
    rintro _ _ _ ⟨B7, rfl, rfl, rfl⟩
    refine SL.w (op_store ty3 rfl rfl (by repeat constructor) rfl rfl rfl) ?_
    rintro _ _ _ ⟨rfl, rfl⟩
    refine SL.w (op_store ty65 rfl rfl (by repeat constructor) rfl rfl rfl) ?_
    rintro _ _ _ ⟨rfl, rfl⟩
    refine SL.nil <| T.seq <| T.region <| SL.v (op_load ty65 rfl (by repeat constructor) rfl) ?_
    refine SL.w (op_callF en60 (vs := [_]) rfl (all_spec)) ?_
    rintro _ _ X3 ⟨rfl, hX3, B18, rfl, hB18⟩
    have hX03 := hX2.trans' hX3
    refine SL.nil <| T.block <| T.rangeFuncX (Ds := Ds) (xs := (ints (mem64 o[k]))) hDs rfl en85 rfl rfl (all_seqX (hT.mono hX03) (hS.mono hX03) hB18) (fun i own' X' => X3.le X' ∧ ∃ (l : List (Nat × Nat)) (cv : Value) (G : Own), GrowS 154 2 cv l.length (pairC l) G ∧ l.length ≤ 64 * k + i ∧ own' = [⟨B7, [.slice x y z], 65, 1⟩, ⟨B6, [.int .i64 (k : Int)], 3, 1⟩, ⟨B5, [cv], 86, 1⟩, ⟨B4, [.slice none 0 0], 86, 1⟩, ⟨B2, [.pointer (some ⟨sb, 0, none⟩)], 75, 1⟩] ++ G) (fun own' X' => X3.le X' ∧ ∃ A n c, own' = [⟨B4, [.slice A n c], 86, 1⟩]) ⟨PMap.le_refl _, l, _, G, hG, by omega, rfl⟩ (fun i own' X' h => h.1) (fun own' X' h => h.1) ?_ ?_ ?_
    · rintro i w _ X4 l' r D hz ⟨hX4, l, cv, G, hG, hlen, rfl⟩
      obtain ⟨hzi, rfl⟩ := ints_some hz
      have hX04 := hX03.trans' hX4
      obtain ⟨Ag, cg, rfl⟩ := hG.form
      refine T.block <| T.seq <| T.seq <| T.region <| SL.v (op_load ty86 rfl (by repeat constructor) rfl) ?_
      refine SL.v (op_lenS Tryz.underlying86 rfl) <| SL.v (op_move (v := .int .i64 ((0 : Nat) : Int)) rfl) <| SL.nil <| T.block <| T.loopW (fun m env own X' => ∃ q : Nat, m = l.length - q ∧ q ≤ l.length ∧ X4.le X' ∧ env = [(2, .pointer (some ⟨B2, 0, none⟩)), (4, .pointer (some ⟨B4, 0, none⟩)), (5, .pointer (some ⟨B5, 0, none⟩)), (6, .pointer (some ⟨B6, 0, none⟩)), (8, .int .i64 ((mem64 o[k])[i] : Int)), (22, .slice Ag l.length cg), (23, .int .i64 (l.length : Int)), (24, .int .i64 (q : Int))] ∧ own = [⟨B7, [.slice x y z], 65, 1⟩, ⟨B6, [.int .i64 (k : Int)], 3, 1⟩, ⟨B5, [.slice Ag l.length cg], 86, 1⟩, ⟨B4, [.slice none 0 0], 86, 1⟩, ⟨B2, [.pointer (some ⟨sb, 0, none⟩)], 75, 1⟩] ++ G) l.length ⟨0, by simp, by omega, PMap.le_refl _, rfl, rfl⟩ (by repeat (first | exact Sub.nil | refine Sub.cons rfl ?_)) ?_
      rintro m _ _ X5 ⟨q, rfl, hq, hX5, rfl, rfl⟩
      have hX05 := hX04.trans' hX5
      rcases Nat.lt_or_ge q l.length with hql | hql
      · obtain ⟨bg, capg, heg, rfl, hcapg, hcmg⟩ := hG.pos (by omega)
        simp only [Value.slice.injEq] at heg
        obtain ⟨rfl, _, rfl⟩ := heg
        obtain ⟨g1, g2⟩ := pairC_get l q hql
        have hB5 := hB.mono hX05
        refine T.seq <| T.region <| SL.v (op_lssT rfl rfl (by omega)) ?_
        refine SL.nil <| T.seq <| T.condT rfl <| T.skip <| T.seq <| T.block <| T.seq <| T.region <| SL.v (op_indexN Tryz.underlying86 ty154 rfl rfl (by omega)) ?_
        refine SL.v (op_load ty154 rfl (by repeat constructor) (creadR2 g1 g2 (by omega))) ?_
        refine SL.w (op_alloc z154) ?_
        rintro _ _ _ ⟨B10, rfl, rfl, rfl⟩
        refine SL.w (op_store ty154 rfl rfl (by repeat constructor) rfl rfl rfl) ?_
        rintro _ _ _ ⟨rfl, rfl⟩
        refine SL.nil <| T.seq <| T.region <| SL.v (op_load ty154 rfl (by repeat constructor) rfl) ?_
        refine SL.v (op_load ty3 rfl (by repeat constructor) rfl) ?_
        refine SL.mv rfl <| SL.v (op_buildA (size := 1) Tryz.underlying154 z154 (by kernel_rfl) (qs := [(0, _), (1, _)]) rfl rfl rfl) ?_
        refine SL.w (op_buildSlice Tryz.underlying86 bs154 (qs := [(0, _), (1, _)]) rfl rfl rfl rfl rfl) ?_
        rintro _ _ _ ⟨B32, rfl, rfl, rfl⟩
        refine SL.as rfl <| SL.nil <| T.seq <| T.region <| SL.v (op_load ty75 rfl (by repeat constructor) rfl) ?_
        refine SL.v (op_nil rfl) <| SL.v (op_fieldAddr fa77_0 rfl) <| T.pubAt B32 (by repeat constructor) ?_
        intro X6 hX6 hB32 _
        have hB32' : Blk X6 B32 (pairC [l[q], (k, (mem64 o[k])[i])]) := hB32
        have hB6 := hB5.mono hX6
        have hX06 := hX05.trans' hX6
        refine SL.v (op_loadX ty26 rfl hB6 rfl) <| SL.mv rfl <| SL.w (op_callF en84 (vs := [_, _]) rfl (fool_spec (l := [l[q], (k, (mem64 o[k])[i])]) (cap := 2) (hM.mono hX06) hB32' (by simp) (by simp))) ?_
        rintro _ _ X7 ⟨rfl, hX7, bb2, rfl⟩
        have hX47 := (hX5.trans' hX6).trans' hX7
        cases bb2 with
        | true =>
          refine SL.nil <| T.condT rfl <| T.seq <| T.region <| SL.mv rfl <| SL.w (op_store ty86 rfl rfl (by repeat constructor) rfl rfl rfl) ?_
          rintro _ _ _ ⟨rfl, rfl⟩
          refine SL.nil <| T.less (own' := [⟨B4, _, _, _⟩]) (((((List.nil_sublist _).cons_cons _).cons _).cons _).cons _ |>.cons _) ?_
          exact T.roundRet ⟨hX4.trans' hX47, _, _, _, rfl⟩
        | false =>
          refine SL.nil <| T.condF rfl <| T.skip <| T.blk <| T.region <| SL.v (op_addN (q := 1) rfl rfl (by omega)) ?_
          refine SL.mv rfl <| SL.nil <| T.drop B10 (by repeat constructor) ?_
          exact T.backW (l.length - (q + 1)) (by omega) ⟨q + 1, rfl, by omega, hX47, rfl, rfl⟩ (by repeat (first | exact Sub.nil | refine Sub.cons rfl ?_))
      · refine T.seq <| T.region <| SL.v (op_lssF rfl rfl (by omega)) ?_
        refine SL.nil <| T.seq <| T.condF rfl ?_
        refine T.exit (T.exitCode (T.exitCut (T.exitBlk ?_)))
        refine T.region <| SL.v (op_load ty86 rfl (by repeat constructor) rfl) ?_
        refine SL.v (op_load ty3 rfl (by repeat constructor) rfl) ?_
        refine SL.mv rfl <| SL.v (op_buildA (size := 1) Tryz.underlying154 z154 (by kernel_rfl) (qs := [(0, _), (1, _)]) rfl rfl rfl) ?_
        refine SL.w (op_buildSlice Tryz.underlying86 bs154 (qs := [(0, _)]) rfl rfl rfl rfl rfl) ?_
        rintro _ _ _ ⟨B45, rfl, rfl, rfl⟩
        refine SL.w (op_appendG (own0 := [_, _, _, _, _]) sl86 rfl hG rfl rfl rfl (by omega) (by omega)) ?_
        rintro v3 _ _ ⟨G2, rfl, rfl, hG2⟩
        have hG3 : GrowS 154 2 v3 (l ++ [(k, (mem64 o[k])[i])]).length (pairC (l ++ [(k, (mem64 o[k])[i])])) G2 := by rw [List.length_append, pairC_append]; exact hG2
        obtain ⟨A3, cap3, rfl⟩ := hG3.form
        refine SL.w (op_store ty86 rfl rfl (by repeat constructor) rfl rfl rfl) ?_
        rintro _ _ _ ⟨rfl, rfl⟩
        refine SL.nil <| T.blk ?_
        exact T.roundEndX ⟨hX4.trans' hX5, l ++ [(k, (mem64 o[k])[i])], _, G2, hG3, by rw [List.length_append, List.length_singleton]; omega, rfl⟩
    · rintro D _ X4 hDs' ⟨hX4, l, cv, G, hG, hlen, rfl⟩
      refine T.blk <| T.blk <| T.region <| SL.v (op_addN (q := 1) rfl rfl (by omega)) ?_
      refine SL.mv rfl <| SL.nil <| T.drop B7 (by repeat constructor) ?_
      refine T.drop B6 (by repeat constructor) ?_
      exact T.backD hDs' (o.length - (k + 1)) (by omega) ⟨k + 1, l, cv, G, rfl, by omega, hX03.trans' hX4, hG, by rw [show (ints (mem64 o[k])).length = (mem64 o[k]).length by simp [ints]] at hlen; omega, rfl, rfl⟩ (by repeat (first | exact Sub.nil | refine Sub.cons rfl ?_))
    · rintro D _ X4 hDs' ⟨hX4, A4, n4, c4, rfl⟩
      refine T.ret1 rfl (ResIs.cell rfl ty86 (by repeat constructor) rfl) ?_ ⟨_, rfl, rfl, hDs'⟩
      exact ⟨_, _, _, rfl⟩
  · refine T.seq <| T.region <| SL.v (op_lssF rfl rfl (by omega)) ?_
    refine SL.nil <| T.seq <| T.condF rfl ?_
    refine T.exit (T.exitCode (T.exitCut (T.exitBlk ?_)))
    refine T.seq <| T.region <| SL.w (op_store ty86 rfl rfl (by repeat constructor) rfl rfl rfl) ?_
    rintro _ _ _ ⟨rfl, rfl⟩
    refine SL.nil ?_
    refine T.ret1 rfl (ResIs.cell rfl ty86 (by repeat constructor) rfl) ?_ ⟨_, rfl, rfl, hDs⟩
    exact ⟨_, _, _, rfl⟩
end Go.Proofs.YtmfiencoefbjfaaGreatDoor
namespace Go.Proofs.YtmfiencoefbjfaaGreatDoor
section
set_option maxRecDepth 100000
theorem bs88 : ∃ i z, Tryz.prog.info? 88 = some i ∧ i.size = 5 ∧ i.zero = some z ∧ z.cells = ([.int .u8 0, .int .i64 0, .int .i64 0, .slice none 0 0, .slice none 0 0] : List Value).toArray := bs_of (by kernel_rfl)
theorem en27 : Enters Tryz.prog 27 := enters_mk Tryz.func27 (by kernel_rfl) rfl
theorem en55 : Enters Tryz.prog 55 := enters_mk Tryz.func55 (by kernel_rfl) rfl
theorem en56 : Enters Tryz.prog 56 := enters_mk Tryz.func56 (by kernel_rfl) rfl
theorem fa83_0 : FAdr Tryz.prog 83 0 0 := fadr_mk Tryz.underlying83 rfl rfl (by kernel_rfl)
theorem fa83_1 : FAdr Tryz.prog 83 1 1 := fadr_mk Tryz.underlying83 rfl rfl (by kernel_rfl)
theorem fa88_3 : FAdr Tryz.prog 88 3 3 := fadr_mk Tryz.underlying88 rfl rfl (by kernel_rfl)
theorem sl34 : SlT Tryz.prog 34 88 5 72 := ⟨Tryz.underlying34, sl_of (by kernel_rfl) (by decide)⟩
theorem z88 : Zero Tryz.prog 88 [.int .u8 0, .int .i64 0, .int .i64 0, .slice none 0 0, .slice none 0 0] := ⟨zero_of (by kernel_rfl)⟩
theorem st88 : StT Tryz.prog 88 [(0, 1), (1, 1), (2, 1), (3, 1), (4, 1)] [.int .u8 0, .int .i64 0, .int .i64 0, .slice none 0 0, .slice none 0 0] := ⟨⟨_, Tryz.underlying88, fun _ => by kernel_rfl, z88⟩⟩
theorem ty34 : Ty Tryz.prog 34 false 1 := ⟨⟨_, Tryz.underlying34, rfl⟩, by kernel_rfl⟩
theorem ty88 : Ty Tryz.prog 88 true 5 := ⟨⟨_, Tryz.underlying88, rfl⟩, by kernel_rfl⟩
end
open Go.RowKit
/-- The block of a proof. -/
abbrev PfO (pb sb : Nat) (sv : Value) : Ow := ⟨pb, [.pointer (some ⟨sb, 0, none⟩), sv], 83, 2⟩
theorem cell3 {cs ex : List Value} {chv : Value} {m k : Nat} (hc : cs.length = m * 5) (h : ex[3]? = some chv) (hk : k = m * 5 + 3) : (cs ++ ex)[k]? = some chv := by
  subst hk
  rw [List.getElem?_append_right (by omega), show m * 5 + 3 - cs.length = 3 by omega]
  exact h
theorem set3 {cs ex : List Value} {x : Value} {m k : Nat} (hc : cs.length = m * 5) (hk : k = m * 5 + 3) : (cs ++ ex).set k x = cs ++ ex.set 3 x := by
  subst hk
  rw [List.set_append_right _ _ (by omega), show m * 5 + 3 - cs.length = 3 by omega]
theorem permPS {a b : Ow} {O G : Own} : ((a :: b :: O) ++ G).Perm ((a :: b :: G) ++ O) := List.Perm.cons _ (List.Perm.cons _ List.perm_append_comm)
theorem permSP {a b : Ow} {O G : Own} : ((a :: b :: G) ++ O).Perm ((a :: b :: O) ++ G) := List.Perm.cons _ (List.Perm.cons _ List.perm_append_comm)
theorem permN {a b g : Ow} {O : Own} : ((a :: b :: O) ++ [g]).Perm ((a :: b :: g :: O) ++ []) := by
  rw [List.append_nil]
  exact List.Perm.cons _ (List.Perm.cons _ (List.perm_append_singleton _ _))
theorem growS_len {e : TypeId} {size len : Nat} {v : Value} {cs : List Value} {G : Own} (h : GrowS e size v len cs G) : cs.length = len * size := by
  rcases h with ⟨rfl, rfl, _, _⟩ | ⟨b, cap, _, _, _, _, h⟩
  · simp
  · exact h
theorem nodG_pos (b : Nat) : 1 ≤ nodG b := by cases b <;> simp [nodG]
section
variable {L : List (Nat × Nat)} {big : Nat → Nat → Prop} {r : Nat} (H : SrH L big r)
/-- What grow does for b rectangles. -/
def GrwP (L : List (Nat × Nat)) (r pb sb : Nat) (pm sl : Value) (c : Nat) (ms : List Nat) (b : Nat) : Prop :=
  ∀ {X : PMap} {v sv : Value} {o : List Nat} {n m : Nat} {cs : List Value} {G : Own}, Tab X → MatR X pm c ms → ConL X sl L → OnesR X v o → o.length = r → ¬ cov L o b 0 → n + nodG b ≤ 1000000 → m + nodG b ≤ 5000 → GrowS 88 5 sv m cs G →
    SpecM Tryz.prog 27 [.pointer (some ⟨pb, 0, none⟩), v, .int .i64 (b : Int)] X (PfO pb sb sv :: SrO sb pm sl n :: G) fun _ L' _ => ∃ (sv' : Value) (n' m' : Nat) (ex : List Value) (G' : Own), L' = PfO pb sb sv' :: SrO sb pm sl n' :: G' ∧ GrowS 88 5 sv' m' (cs ++ ex) G' ∧ n ≤ n' ∧ n' ≤ n + nodG b ∧ m + 1 ≤ m' ∧ m' ≤ m + nodG b
include H
theorem grow_step {pb sb : Nat} {pm sl : Value} {c : Nat} {ms : List Nat} (b : Nat) (hb : b ≤ 5) (ih : ∀ b', b = b' + 1 → GrwP L r pb sb pm sl c ms b') : GrwP L r pb sb pm sl c ms b := by
  intro X v sv o n m cs G hT hM hL h ho hno hn hm hG
  have hl : o.length ≤ 64 := by have := H.r64; omega
  have hw := h.wds
  have hLl := H.len
  have hpos := nodG_pos b
  have hmx : maxLen = 9223372036854775807 := rfl
  have hz : sizeM o ≠ 0 := fun e => hno (cov_done hw e)
  have hrow : ∀ p ∈ L, ∀ i ∈ mem64 p.1, i < o.length := fun p hp i hi => by rw [ho]; exact H.rows p hp i hi
  have hcl := growS_len hG
  obtain ⟨As, cps, rfl⟩ := hG.form
  refine SpecM.enter Tryz.func27 rfl Tryz.ntmps27 rfl ?_
  intro w0 X0 own0
  refine T.perm permSP ?_
  refine T.seq <| T.region <| SL.mv rfl <| SL.v (op_nil rfl) <| SL.v (op_fieldAddr fa83_1 rfl) <| SL.v (op_load ty34 rfl (by repeat constructor) rfl) ?_
  refine SL.v (op_lenS Tryz.underlying34 rfl) <| SL.as rfl <| SL.nil <| T.seq <| T.seq <| T.region <| SL.mv rfl <| SL.v (op_nil rfl) <| SL.v (op_fieldAddr fa83_0 rfl) <| SL.v (op_load ty75 rfl (by repeat constructor) rfl) ?_
  refine SL.v (op_nil rfl) <| SL.v (op_fieldAddr fa77_2 rfl) <| SL.v (op_load ty3 rfl (by repeat constructor) rfl) ?_
  refine SL.v (op_addN (q := 1) rfl rfl (by omega)) ?_
  refine SL.v (op_nil rfl) <| SL.v (op_fieldAddr fa77_2 rfl) <| SL.w (op_store ty3 rfl rfl (by repeat constructor) rfl rfl rfl) ?_
  rintro _ _ _ ⟨rfl, rfl⟩
  refine SL.nil <| T.seq <| T.region <| SL.mv rfl <| SL.v (op_gtrF rfl rfl (by omega)) ?_
  refine SL.mv rfl <| SL.mv rfl <| SL.v (op_nil rfl) <| SL.v (op_fieldAddr fa83_0 rfl) <| SL.v (op_load ty75 rfl (by repeat constructor) rfl) ?_
  refine SL.v (op_nil rfl) <| SL.v (op_fieldAddr fa77_2 rfl) <| SL.v (op_load ty3 rfl (by repeat constructor) rfl) ?_
  refine SL.v (op_gtrF rfl rfl (by omega)) ?_
  refine SL.v (op_pickF rfl rfl) <| SL.nil <| T.condF rfl <| T.skip <| T.seq <| T.region <| SL.mv rfl <| SL.v (op_nil rfl) <| SL.v (op_fieldAddr fa83_0 rfl) <| SL.v (op_load ty75 rfl (by repeat constructor) rfl) ?_
  refine SL.mv rfl <| SL.w (op_callLend en55 (vs := [_, _]) rfl ((fun X9 h1 h2 => (fooling_spec (hT.mono h1) (n := (((n + 1 : Nat)) : Int)) (by have h3 := h2 _ (List.Mem.tail _ (List.Mem.head _)); exact h3) (hM.mono h1) (h.mono h1) hl : Spec _ _ _ _ fun u _ => ∃ A len cp, u = .slice A len cp)))) ?_
  rintro _ _ _ ⟨rfl, rfl, Af, lf, cf, rfl⟩
  refine SL.as rfl <| SL.nil <| T.seq <| T.meet (fun _ env own X' => X' = X ∧ (∃ Af lf cf, env = [(0, .pointer (some ⟨pb, 0, none⟩)), (1, v), (2, .int .i64 (b : Int)), (6, .int .i64 (m : Int)), (7, .slice Af lf cf)]) ∧ own = (PfO pb sb (.slice As m cps) :: SrO sb pm sl (n + 1) :: own0) ++ G) ?_ ?_
  · by_cases h1 : b = 1
    · by_cases h2 : lf < 2
      · skip
        refine T.seq <| T.region <| SL.mv rfl <| SL.v (op_eqlT rfl rfl (by omega)) ?_
        refine SL.mv rfl <| SL.mv rfl <| SL.v (op_lenS Tryz.underlying86 rfl) <| SL.v (op_lssT rfl rfl (by omega)) ?_
        refine SL.v (op_pickT rfl rfl) <| SL.nil <| T.condT rfl <| T.region <| SL.mv rfl <| SL.v (op_nil rfl) <| SL.v (op_fieldAddr fa83_0 rfl) <| SL.v (op_load ty75 rfl (by repeat constructor) rfl) ?_
        refine SL.mv rfl <| SL.w (op_callLend en56 (vs := [_, _]) rfl ((fun X9 h1 h2 => (pair_spec (hT.mono h1) (n := (((n + 1 : Nat)) : Int)) (by have h3 := h2 _ (List.Mem.tail _ (List.Mem.head _)); exact h3) (hM.mono h1) (h.mono h1) hl : Spec _ _ _ _ fun u _ => ∃ A len cp, u = .slice A len cp)))) ?_
        rintro _ _ _ ⟨rfl, rfl, Af, lf, cf, rfl⟩
        refine SL.as rfl <| SL.nil ?_
        exact T.backW 0 (by omega) ⟨rfl, ⟨_, _, _, rfl⟩, rfl⟩ (by repeat (first | exact Sub.nil | refine Sub.cons rfl ?_))
      · skip
        refine T.seq <| T.region <| SL.mv rfl <| SL.v (op_eqlT rfl rfl (by omega)) ?_
        refine SL.mv rfl <| SL.mv rfl <| SL.v (op_lenS Tryz.underlying86 rfl) <| SL.v (op_lssF rfl rfl (by omega)) ?_
        refine SL.v (op_pickT rfl rfl) <| SL.nil <| T.condF rfl <| T.skip ?_
        exact T.backW 0 (by omega) ⟨rfl, ⟨_, _, _, rfl⟩, rfl⟩ (by repeat (first | exact Sub.nil | refine Sub.cons rfl ?_))
    · refine T.seq <| T.region <| SL.mv rfl <| SL.v (op_eqlF rfl rfl (by omega)) ?_
      refine SL.mv rfl <| SL.skip rfl rfl ?_
      refine SL.skip rfl rfl ?_
      refine SL.skip rfl rfl ?_
      refine SL.v (op_pickF rfl rfl) <| SL.nil <| T.condF rfl <| T.skip ?_
      exact T.backW 0 (by omega) ⟨rfl, ⟨_, _, _, rfl⟩, rfl⟩ (by repeat (first | exact Sub.nil | refine Sub.cons rfl ?_))
  clear Af lf cf
  rintro _ _ _ _ ⟨rfl, ⟨Af, lf, cf, rfl⟩, rfl⟩
  by_cases hlf : b < lf
  · skip
    refine T.seq <| T.seq <| T.region <| SL.mv rfl <| SL.v (op_lenS Tryz.underlying86 rfl) <| SL.mv rfl <| SL.v (op_gtrT rfl rfl (by omega)) ?_
    refine SL.nil <| T.condT rfl <| T.seq <| T.region <| SL.mv rfl <| SL.mv rfl <| SL.v (op_nil rfl) <| SL.v (op_fieldAddr fa83_1 rfl) <| SL.v (op_load ty34 rfl (by repeat constructor) rfl) ?_
    refine SL.mv rfl <| SL.v (op_build st88 (qs := [(0, _), (4, _)]) rfl rfl) <| SL.w (op_buildSlice Tryz.underlying34 bs88 (qs := [(0, _)]) rfl rfl rfl rfl rfl) ?_
    rintro _ _ _ ⟨B70, rfl, rfl, rfl⟩
    refine SL.w (op_appendG (own0 := _ :: _ :: own0) sl34 rfl hG rfl rfl rfl (by omega) (by omega)) ?_
    rintro s' _ _ ⟨G', rfl, rfl, hG'⟩
    obtain ⟨As', cps', rfl⟩ := hG'.form
    refine SL.v (op_nil rfl) <| SL.v (op_fieldAddr fa83_1 rfl) <| SL.w (op_store ty34 rfl rfl (by repeat constructor) rfl rfl rfl) ?_
    rintro _ _ _ ⟨rfl, rfl⟩
    refine SL.nil <| T.retM0 (PfO pb sb _ :: SrO sb pm sl (n + 1) :: G') rfl  permPS ?_
    exact ⟨PMap.le_refl _, _, n + 1, m + 1, _, G', rfl, hG', by omega, by omega, by omega, by omega⟩
  · refine T.seq <| T.seq <| T.region <| SL.mv rfl <| SL.v (op_lenS Tryz.underlying86 rfl) <| SL.mv rfl <| SL.v (op_gtrF rfl rfl (by omega)) ?_
    refine SL.nil <| T.condF rfl <| T.skip <| T.seq <| T.seq <| T.region <| SL.mv rfl <| SL.v (op_nil rfl) <| SL.v (op_fieldAddr fa83_0 rfl) <| SL.v (op_load ty75 rfl (by repeat constructor) rfl) ?_
    refine SL.mv rfl <| SL.mv rfl <| SL.w (op_callLend en52 (vs := [_, _, _]) rfl ((fun X9 h1 h2 => (bound_spec (hT.mono h1) (n := (((n + 1 : Nat)) : Int)) (by have h3 := h2 _ (List.Mem.tail _ (List.Mem.head _)); exact h3) (hL.mono h1) (h.mono h1) hl hrow b (by omega) (by omega) : Spec _ _ _ _ fun u _ => u = .bool (decide (b * mostM L o < sizeM o)))))) ?_
    rintro _ _ _ ⟨rfl, rfl, rfl⟩
    by_cases hbd : b * mostM L o < sizeM o
    · rw [decide_eq_true hbd]
      refine SL.nil <| T.condT rfl <| T.seq <| T.region <| SL.mv rfl <| SL.mv rfl <| SL.v (op_nil rfl) <| SL.v (op_fieldAddr fa83_1 rfl) <| SL.v (op_load ty34 rfl (by repeat constructor) rfl) ?_
      refine SL.v (op_build st88 (qs := [(0, _)]) rfl rfl) <| SL.w (op_buildSlice Tryz.underlying34 bs88 (qs := [(0, _)]) rfl rfl rfl rfl rfl) ?_
      rintro _ _ _ ⟨B87, rfl, rfl, rfl⟩
      refine SL.w (op_appendG (own0 := _ :: _ :: own0) sl34 rfl hG rfl rfl rfl (by omega) (by omega)) ?_
      rintro s' _ _ ⟨G', rfl, rfl, hG'⟩
      obtain ⟨As', cps', rfl⟩ := hG'.form
      refine SL.v (op_nil rfl) <| SL.v (op_fieldAddr fa83_1 rfl) <| SL.w (op_store ty34 rfl rfl (by repeat constructor) rfl rfl rfl) ?_
      rintro _ _ _ ⟨rfl, rfl⟩
      refine SL.nil <| T.retM0 (PfO pb sb _ :: SrO sb pm sl (n + 1) :: G') rfl  permPS ?_
      exact ⟨PMap.le_refl _, _, n + 1, m + 1, _, G', rfl, hG', by omega, by omega, by omega, by omega⟩
    · rw [decide_eq_false hbd]
      obtain ⟨b, rfl⟩ : ∃ b', b = b' + 1 := ⟨b - 1, by
        rcases Nat.eq_zero_or_pos b with rfl | h0
        · rw [Nat.zero_mul] at hbd; omega
        · omega⟩
      have hn1 : n + 1 + 8 * nodG b ≤ 1000000 := by simp only [nodG] at hn; omega
      have hm1 : m + 1 + 8 * nodG b ≤ 5000 := by simp only [nodG] at hm; omega
      refine SL.nil <| T.condF rfl <| T.skip <| T.seq <| T.region <| SL.mv rfl <| SL.v (op_nil rfl) <| SL.v (op_fieldAddr fa83_0 rfl) <| SL.v (op_load ty75 rfl (by repeat constructor) rfl) ?_
      refine SL.mv rfl <| SL.w (op_callLendO en53 (vs := [_, _, _]) rfl ((fun X9 h1 h2 => (cell_spec (hT.mono h1) (n := (((n + 1 : Nat)) : Int)) (by have h3 := h2 _ (List.Mem.tail _ (List.Mem.head _)); exact h3) (hL.mono h1) (by omega) (h.mono h1) hl 0 (by omega) : SpecO _ _ _ _ fun u own1 _ => ∃ (st : Option (Nat × Nat)) (bv : Value), bestC L o 0 o.length 0 st ∧ u = .tuple #[.int .i64 ((st.getD (0, 0)).1 : Int), .int .i64 ((st.getD (0, 0)).2 : Int), bv] ∧ GrowS 3 1 bv (bestL L 0 st).length (ints (bestL L 0 st)) own1)))) ?_
      rintro _ _ _ ⟨G1, rfl, rfl, st, bv, hst, rfl, hG1⟩
      obtain ⟨ri, ci, rfl, hin, hmin⟩ := bestC_end hw hst hz
      have h8 := grow_count H.few hmin hno
      have hbr := cov_branch H.few.lt (b := b) (fr := 0) hw hin
      simp only [bestL] at hG1
      refine SL.perm List.perm_append_comm ?_
      refine T.pubGAt (own0 := (_ :: _ :: own0) ++ G) hG1 ?_
      intro X2 hX2 hS2
      obtain ⟨Al, cl, rfl⟩ := hG1.form
      refine SL.mv rfl <| SL.v (op_extract rfl rfl) <| SL.v (op_extract rfl rfl) <| SL.v (op_extract rfl rfl) <| SL.as rfl <| SL.as rfl <| SL.as rfl <| SL.nil <| T.seq <| T.region <| SL.mv rfl <| SL.mv rfl <| SL.v (op_nil rfl) <| SL.v (op_fieldAddr fa83_1 rfl) <| SL.v (op_load ty34 rfl (by repeat constructor) rfl) ?_
      refine SL.mv rfl <| SL.mv rfl <| SL.v (op_build st88 (qs := [(0, _), (1, _), (2, _)]) rfl rfl) <| SL.w (op_buildSlice Tryz.underlying34 bs88 (qs := [(0, _)]) rfl rfl rfl rfl rfl) ?_
      rintro _ _ _ ⟨B109, rfl, rfl, rfl⟩
      refine SL.w (op_appendG (own0 := _ :: _ :: own0) sl34 rfl hG rfl rfl rfl (by omega) (by omega)) ?_
      rintro s' _ _ ⟨G', rfl, rfl, hG'⟩
      obtain ⟨bn, capn, rfl, rfl, hcn1, hcn2⟩ := hG'.pos (by omega)
      refine SL.v (op_nil rfl) <| SL.v (op_fieldAddr fa83_1 rfl) <| SL.w (op_store ty34 rfl rfl (by repeat constructor) rfl rfl rfl) ?_
      rintro _ _ _ ⟨rfl, rfl⟩
      refine SL.nil <| T.seq <| T.region <| SL.mv rfl <| SL.v (op_lenS Tryz.underlying42 rfl) <| SL.v (op_move (v := .int .i64 ((0 : Nat) : Int)) rfl) <| SL.nil <| T.block <| T.perm (own' := (PfO pb sb (.slice (some ⟨bn, 0, none⟩) (m + 1) capn) :: SrO sb pm sl (n + 1) :: ⟨bn, _, _, capn * 5⟩ :: own0) ++ []) (show ((PfO pb sb (.slice (some ⟨bn, 0, none⟩) (m + 1) capn) :: SrO sb pm sl (n + 1) :: own0) ++ [(⟨bn, _, _, capn * 5⟩ : Ow)]).Perm _ from permN) ?_
      refine T.loopW (fun mm env own X' => ∃ (q n1 m1 bn cap kc : Nat) (ex zs : List Value) (chv : Value) (Gc : Own), mm = (aroundM L ri ci 0).length - q ∧ q ≤ (aroundM L ri ci 0).length ∧ X2.le X' ∧ n + 1 ≤ n1 ∧ n1 ≤ n + 1 + q * nodG b ∧ m + 1 ≤ m1 ∧ m1 ≤ m + 1 + q * nodG b ∧ GrowS 88 5 (.slice (some ⟨bn, 0, none⟩) m1 cap) m1 (cs ++ ex) [⟨bn, cs ++ ex, 88, cap * 5⟩] ∧ ex[3]? = some chv ∧ GrowS 3 1 chv kc zs Gc ∧ kc ≤ q ∧ env = [(0, .pointer (some ⟨pb, 0, none⟩)), (1, v), (2, .int .i64 ((b + 1 : Nat) : Int)), (6, .int .i64 (m : Int)), (113, .slice Al (aroundM L ri ci 0).length cl), (114, .int .i64 ((aroundM L ri ci 0).length : Int)), (115, .int .i64 (q : Int))] ∧ own = (PfO pb sb (.slice (some ⟨bn, 0, none⟩) m1 cap) :: SrO sb pm sl n1 :: ⟨bn, cs ++ ex, 88, cap * 5⟩ :: own0) ++ Gc) (aroundM L ri ci 0).length ⟨0, n + 1, m + 1, bn, capn, 0, _, [], _, [], by simp, by omega, PMap.le_refl _, Nat.le_refl _, by omega, Nat.le_refl _, by omega, hG', rfl, GrowS.nil, Nat.le_refl _, rfl, rfl⟩ (by repeat (first | exact Sub.nil | refine Sub.cons rfl ?_)) ?_
      rintro mm _ _ X3 ⟨q, n1, m1, bn, cap, kc, ex, zs, chv, Gc, rfl, hq, hX3, hn2, hn3, hm2, hm3, hGn, hex, hGc, hkc, rfl, rfl⟩
      rcases Nat.lt_or_ge q (aroundM L ri ci 0).length with hql | hql
      · obtain ⟨hk1, hk2, hk3⟩ := mem_around.1 (List.getElem_mem hql)
        have hX03 := hX2.trans' hX3
        rcases hS2 with ⟨h0, _⟩ | ⟨_, bl, cl', he, hBl⟩
        · omega
        simp only [Value.slice.injEq] at he
        obtain ⟨rfl, _, rfl⟩ := he
        have hBl3 := hBl.mono hX3
        obtain ⟨Ach, cch, rfl⟩ := hGc.form
        obtain ⟨_, hcn1, hcn2, hcl2⟩ : True ∧ m1 ≤ cap ∧ cap ≤ maxLen ∧ (cs ++ ex).length = m1 * 5 := by
          obtain ⟨b', cap', e1, e2, e3, e4⟩ := hGn.pos (by omega)
          simp only [Value.slice.injEq] at e1
          exact ⟨trivial, by omega, by omega, growS_len hGn⟩
        refine T.seq <| T.region <| SL.v (op_lssT rfl rfl (by omega)) ?_
        refine SL.nil <| T.seq <| T.condT rfl <| T.skip <| T.seq <| T.block <| T.seq <| T.region <| SL.v (op_indexN Tryz.underlying42 ty3 rfl rfl (by omega)) ?_
        refine SL.v (op_loadX ty3 rfl hBl3 (cread1 (ints_get (aroundM L ri ci 0) q hql))) ?_
        have hq8 : (q + 1) * nodG b ≤ 8 * nodG b := Nat.mul_le_mul_right _ (by omega)
        rw [Nat.succ_mul] at hq8
        refine SL.as rfl <| SL.nil <| T.seq <| T.drawG (own0 := (_ :: _ :: _ :: own0)) (by kernel_rfl) 20 [.t 0, .t 1, .t 2, .t 3, .t 4, .t 5, .t 6, .t 7, .t 8, .t 9, .t 10, .t 11, .t 12, .t 13, .t 14, .t 15, .t 16, .t 17, .r 18, .r 19] (by kernel_rfl) ?_
        refine SD.take rfl panicBody (op_move rfl) rfl rfl ?_
        refine SD.take rfl panicBody (op_nil rfl) rfl rfl ?_
        refine SD.take rfl panicBody (op_fieldAddr fa83_1 rfl) rfl rfl ?_
        refine SD.take rfl panicBody (op_load ty34 rfl (by repeat constructor) rfl) rfl rfl ?_
        refine SD.take rfl panicBody (op_move rfl) rfl rfl ?_
        refine SD.take rfl panicBody (op_move rfl) rfl rfl ?_
        refine SD.take rfl panicBody (op_nil rfl) rfl rfl ?_
        refine SD.take rfl panicBody (op_fieldAddr fa83_1 rfl) rfl rfl ?_
        refine SD.take rfl panicBody (op_load ty34 rfl (by repeat constructor) rfl) rfl rfl ?_
        refine SD.take rfl panicBody (op_move rfl) rfl rfl ?_
        refine SD.take rfl panicBody (op_indexN Tryz.underlying34 ty88 rfl rfl (by omega)) rfl rfl ?_
        refine SD.take rfl panicBody (op_fieldAddr fa88_3 rfl) rfl rfl ?_
        refine SD.take rfl panicBody (op_load ty42 rfl (by repeat constructor) (cell3 hcl hex (by omega) : cread false 1 _ _ = _)) rfl rfl ?_
        refine SD.take rfl panicBody (op_move rfl) rfl rfl ?_
        refine SD.take rfl panicBody (op_nil rfl) rfl rfl ?_
        refine SD.take rfl panicBody (op_fieldAddr fa83_1 rfl) rfl rfl ?_
        refine SD.take rfl panicBody (op_load ty34 rfl (by repeat constructor) rfl) rfl rfl ?_
        refine SD.take rfl panicBody (op_lenS Tryz.underlying34 rfl) rfl rfl ?_
        refine SD.run rfl (op_buildSlice Tryz.underlying42 bs3 (qs := [(0, _)]) rfl rfl rfl rfl rfl) rfl rfl ?_
        rintro _ _ _ ⟨B137, rfl, rfl, rfl⟩
        refine SD.runK rfl (op_appendG (own0 := _ :: _ :: _ :: own0) sl42 rfl hGc rfl rfl rfl (by omega) (by omega)) (by rintro _ _ _ ⟨G', rfl, rfl, _⟩; exact ⟨fun p hp => List.mem_append_left _ hp, PMap.le_refl _⟩) rfl rfl ?_
        rintro chv' _ _ ⟨Gc', rfl, rfl, hGc'⟩
        refine SD.nil ?_
        show SL _ _ _ _ _ _ _ [_, _, _] _ _ _
        obtain ⟨Ach', cch', rfl⟩ := hGc'.form
        refine SL.v (op_indexN Tryz.underlying34 ty88 rfl rfl (by omega)) ?_
        refine SL.v (op_fieldAddr fa88_3 rfl) <| SL.w (op_store ty42 rfl rfl (by repeat constructor) rfl rfl (Nat.ble_eq_true_of_le (by omega))) ?_
        rintro _ _ _ ⟨rfl, rfl⟩
        have hexl : 3 < ex.length := (List.getElem?_eq_some_iff.1 hex).1
        have hset : csets (cs ++ ex) (0 + m * 5 + 3) (vcells (.slice Ach' (kc + 1) cch')) = cs ++ ex.set 3 (.slice Ach' (kc + 1) cch') := set3 hcl (by omega)
        obtain ⟨Asl, csl, rfl⟩ := hL.form
        obtain ⟨bc, ccs, x, y, rfl, hBc, hcx, hcy, hx, hy⟩ := hL.at hk1
        obtain ⟨Ax, lx, cx, hxe⟩ := hx.form
        obtain ⟨Ay, ly, cy, hye⟩ := hy.form
        obtain rfl : x = .slice Ax lx cx := by simpa using hxe
        obtain rfl : y = .slice Ay ly cy := by simpa using hye
        have hBc3 := hBc.mono hX03
        have hgd := getD_at hk1
        refine SL.nil <| T.region <| SL.mv rfl <| SL.mv rfl <| SL.mv rfl <| SL.v (op_nil rfl) <| SL.v (op_fieldAddr fa83_0 rfl) <| SL.v (op_load ty75 rfl (by repeat constructor) rfl) ?_
        refine SL.v (op_nil rfl) <| SL.v (op_fieldAddr fa77_1 rfl) <| SL.v (op_load ty72 rfl (by repeat constructor) rfl) ?_
        refine SL.mv rfl <| SL.v (op_indexN Tryz.underlying72 ty119 rfl rfl (by omega)) ?_
        refine SL.v (op_loadX ty119 rfl hBc3 (creadR2 hcx hcy (by omega))) ?_
        refine SL.w (op_callF en54 (vs := [_, _]) rfl (without_ones (hT.mono hX03) (h.mono hX03) hl (hx.mono hX03) (hy.mono hX03) (hrow _ (List.getElem_mem hk1)))) ?_
        rintro w4 _ X4 ⟨rfl, hX4, hW4⟩
        rw [← hgd] at hW4
        have hX04 := hX03.trans' hX4
        have hG5 : GrowS 88 5 (.slice (some ⟨bn, 0, none⟩) m1 cap) m1 (cs ++ ex.set 3 (.slice Ach' (kc + 1) cch')) [⟨bn, cs ++ ex.set 3 (.slice Ach' (kc + 1) cch'), 88, cap * 5⟩] := .inr ⟨bn, cap, rfl, rfl, hcn1, hcn2, by simpa using hcl2⟩
        refine SL.perm (own' := (PfO pb sb (.slice (some ⟨bn, 0, none⟩) m1 cap) :: SrO sb pm _ n1 :: [⟨bn, cs ++ ex.set 3 (.slice Ach' (kc + 1) cch'), 88, cap * 5⟩]) ++ (own0 ++ Gc')) (by rw [← hset]; exact List.Perm.refl _) ?_
        refine SL.mv rfl <| SL.v (op_subN (q := 1) rfl rfl (by omega) (by omega)) ?_
        refine SL.w (op_callM en27 (vs := [_, _, _]) rfl ((ih b rfl (hT.mono hX04) (hM.mono hX04) (hL.mono hX04) hW4 (by rw [without_len]; exact ho) (fun hc => hno (hbr.2 ⟨_, List.getElem_mem hql, hc⟩)) (by omega) (by omega) hG5)) rfl) ?_
        rintro _ _ X5 ⟨_, rfl, hX5, sv2, n2, m2, ex2, G2, rfl, hG2, hn4, hn5, hm4, hm5⟩
        rw [List.append_assoc] at hG2
        obtain ⟨bn2, cap2, rfl, rfl, hcm1, hcm2⟩ := hG2.pos (by omega)
        refine SL.nil <| T.blk <| T.region <| SL.v (op_addN (q := 1) rfl rfl (by omega)) ?_
        refine SL.mv rfl <| SL.nil ?_
        exact T.backW ((aroundM L ri ci 0).length - (q + 1)) (by omega) ⟨q + 1, n2, m2, bn2, cap2, kc + 1, ex.set 3 (.slice Ach' (kc + 1) cch') ++ ex2, _, _, Gc', rfl, by omega, (hX3.trans' hX4).trans' hX5, by omega, by rw [Nat.succ_mul]; omega, by omega, by rw [Nat.succ_mul]; omega, hG2, by rw [List.getElem?_append_left (by simpa using hexl), List.getElem?_set_self hexl], hGc', by omega, rfl, rfl⟩ (by repeat (first | exact Sub.nil | refine Sub.cons rfl ?_))
      · obtain rfl : q = (aroundM L ri ci 0).length := by omega
        have hq8 : (aroundM L ri ci 0).length * nodG b ≤ 8 * nodG b := Nat.mul_le_mul_right _ h8
        refine T.seq <| T.region <| SL.v (op_lssF rfl rfl (by omega)) ?_
        refine SL.nil <| T.seq <| T.condF rfl ?_
        refine T.exit (T.exitCode (T.exitCut (T.exitBlk ?_)))
        refine T.pubG (own0 := _ :: _ :: _ :: own0) hGc ?_
        intro X4 hX4 _
        refine T.doneM0 (PfO pb sb _ :: SrO sb pm _ n1 :: [⟨bn, cs ++ ex, 88, cap * 5⟩]) rfl (List.Perm.refl _) ?_
        exact ⟨(hX2.trans' hX3).trans' hX4, _, n1, m1, ex, _, rfl, hGn, by omega, by simp only [nodG]; omega, by omega, by simp only [nodG]; omega⟩
theorem grow_spec {pb sb : Nat} {pm sl : Value} {c : Nat} {ms : List Nat} : ∀ b, b ≤ 5 → GrwP L r pb sb pm sl c ms b
  | 0, hb => grow_step H 0 hb fun b' e => by omega
  | b + 1, hb => grow_step H (b + 1) hb fun b' e => by
    obtain rfl : b = b' := by omega
    exact grow_spec b (by omega)
end
end Go.Proofs.YtmfiencoefbjfaaGreatDoor
namespace Go.Proofs.YtmfiencoefbjfaaGreatDoor
open Go.RowKit
def setB (one : Bool) (ms : List Nat) (i j : Nat) : List Nat := ms.set i (if one then ms.getD i 0 ||| 2 ^ j else minB (ms.getD i 0) (2 ^ j))
def setAll (one : Bool) (ms : List Nat) (l : List (Nat × Nat)) : List Nat := l.foldl (fun m p => setB one m p.1 p.2) ms
theorem wds_get {ms : List Nat} (h : Wds ms) (i : Nat) : ms.getD i 0 < 18446744073709551616 := by
  rw [List.getD_eq_getElem?_getD]
  cases hh : ms[i]? with
  | none => simp
  | some m => exact h m (List.mem_of_getElem? hh)
theorem pow_word {j : Nat} (hj : j < 64) : 2 ^ j < 18446744073709551616 := Nat.pow_lt_pow_right (a := 2) (by omega) hj
theorem wds_setB {one : Bool} {ms : List Nat} {i j : Nat} (h : Wds ms) (hj : j < 64) : Wds (setB one ms i j) := fun s hs => by
  rcases List.mem_or_eq_of_mem_set hs with h1 | rfl
  · exact h s h1
  · split
    · exact Nat.or_lt_two_pow (n := 64) (wds_get h i) (pow_word hj)
    · exact minB_lt (wds_get h i)
theorem setB_len (one : Bool) (ms : List Nat) (i j : Nat) : (setB one ms i j).length = ms.length := by simp [setB]
theorem setAll_len (one : Bool) : ∀ (l : List (Nat × Nat)) (ms : List Nat), (setAll one ms l).length = ms.length
  | [], _ => rfl
  | p :: l, ms => by
    have := setAll_len one l (setB one ms p.1 p.2)
    rw [setB_len] at this
    exact this
theorem wds_setAll {one : Bool} : ∀ {l : List (Nat × Nat)} {ms : List Nat}, Wds ms → (∀ p ∈ l, p.2 < 64) → Wds (setAll one ms l)
  | [], _, h, _ => h
  | p :: l, ms, h, hl => wds_setAll (l := l) (wds_setB (i := p.1) h (hl p (by simp))) fun q hq => hl q (by simp [hq])
theorem rel_setB {one : Bool} {ms : List Nat} {i j : Nat} (h : Wds ms) (hi : i < ms.length) (hj : j < 64) (a b : Nat) : Rel (setB one ms i j) a b = if a = i ∧ b = j then one else Rel ms a b := by
  unfold Rel setB
  by_cases ha : a = i
  · subst ha
    rw [List.getD_eq_getElem?_getD, List.getElem?_set_self hi, Option.getD_some]
    cases one with
    | true =>
      rw [if_pos rfl, Nat.testBit_or, Nat.testBit_two_pow]
      by_cases hb : b = j
      · subst hb; simp
      · rw [if_neg (by simp [hb])]; simp [Ne.symm hb]
    | false =>
      rw [if_neg (by simp), minB_testBit (wds_get h a) (pow_word hj), Nat.testBit_two_pow]
      by_cases hb : b = j
      · subst hb; simp
      · rw [if_neg (by simp [hb])]; simp [Ne.symm hb]
  · rw [List.getD_eq_getElem?_getD, List.getElem?_set_ne (Ne.symm ha), if_neg (by simp [ha]), List.getD_eq_getElem?_getD]
theorem rel_setAll {one : Bool} : ∀ {l : List (Nat × Nat)} {ms : List Nat}, Wds ms → (∀ p ∈ l, p.1 < ms.length ∧ p.2 < 64) → ∀ a b, Rel (setAll one ms l) a b = if (a, b) ∈ l then one else Rel ms a b
  | [], _, _, _, _, _ => by simp [setAll]
  | p :: l, ms, h, hl, a, b => by
    have hp := hl p (by simp)
    have ih := rel_setAll (one := one) (l := l) (wds_setB (one := one) (i := p.1) h hp.2) (fun q hq => by rw [setB_len]; exact hl q (by simp [hq])) a b
    rw [setAll, List.foldl_cons]
    refine ih.trans ?_
    rw [rel_setB h hp.1 hp.2]
    by_cases h1 : (a, b) ∈ l
    · rw [if_pos h1, if_pos (by simp [h1])]
    · rw [if_neg h1]
      by_cases h2 : a = p.1 ∧ b = p.2
      · rw [if_pos h2, if_pos]
        obtain ⟨rfl, rfl⟩ := h2
        simp
      · rw [if_neg h2, if_neg]
        intro hm
        rcases List.mem_cons.1 hm with h3 | h3
        · exact h2 (by rw [← h3]; exact ⟨rfl, rfl⟩)
        · exact h1 h3
/-- Matrices with the same elements are the same. -/
theorem rows_ext {ms ns : List Nat} (hl : ms.length = ns.length) (h : ∀ i j, Rel ms i j = Rel ns i j) : ms = ns := by
  refine List.ext_getElem hl fun i h1 h2 => Nat.eq_of_testBit_eq fun j => ?_
  have := h i j
  simpa [Rel, h1, h2] using this
def prodM (us ps : List Nat) : List Nat := us.map fun row => (mem64 row).foldl (fun r k => r ||| ps.getD k 0) 0
theorem foldl_or_testBit (ps : List Nat) (p : Nat) : ∀ (l : List Nat) (r : Nat), (l.foldl (fun r k => r ||| ps.getD k 0) r).testBit p = true ↔ r.testBit p = true ∨ ∃ k ∈ l, Rel ps k p = true
  | [], r => by simp
  | k :: l, r => by
    rw [List.foldl_cons, foldl_or_testBit ps p l, Nat.testBit_or, Bool.or_eq_true]
    constructor
    · rintro ((h | h) | ⟨k', h1, h2⟩)
      · exact .inl h
      · exact .inr ⟨k, by simp, h⟩
      · exact .inr ⟨k', by simp [h1], h2⟩
    · rintro (h | ⟨k', h1, h2⟩)
      · exact .inl (.inl h)
      · rcases List.mem_cons.1 h1 with rfl | h1
        · exact .inl (.inr h2)
        · exact .inr ⟨k', h1, h2⟩
theorem rel_lt64 {ms : List Nat} (h : Wds ms) {i j : Nat} (hr : Rel ms i j = true) : j < 64 := by
  rcases Nat.lt_or_ge j 64 with h1 | h1
  · exact h1
  · unfold Rel at hr
    rw [Nat.testBit_lt_two_pow (Nat.lt_of_lt_of_le (wds_get h i) (Nat.pow_le_pow_right (n := 2) (by omega) h1))] at hr
    cases hr
theorem rel_len {ms : List Nat} {i j : Nat} (hr : Rel ms i j = true) : i < ms.length := by
  rcases Nat.lt_or_ge i ms.length with h1 | h1
  · exact h1
  · unfold Rel at hr
    rw [List.getD_eq_getElem?_getD, List.getElem?_eq_none h1] at hr
    simp at hr
theorem rel_prodM {us ps : List Nat} (hu : Wds us) (u p : Nat) : Rel (prodM us ps) u p = true ↔ ∃ k, Rel us u k = true ∧ Rel ps k p = true := by
  rcases Nat.lt_or_ge u us.length with h | h
  · have e : (prodM us ps).getD u 0 = (mem64 (us.getD u 0)).foldl (fun r k => r ||| ps.getD k 0) 0 := by simp [prodM, h]
    rw [Rel, e, foldl_or_testBit]
    constructor
    · rintro (h | ⟨k, h1, h2⟩)
      · simp at h
      · exact ⟨k, (mem_mem64.1 h1).2, h2⟩
    · rintro ⟨k, h1, h2⟩
      exact .inr ⟨k, mem_mem64.2 ⟨rel_lt64 hu h1, h1⟩, h2⟩
  · constructor
    · intro hh
      have := rel_len hh
      simp [prodM] at this
      omega
    · rintro ⟨k, h1, _⟩
      have := rel_len h1
      omega
/-- A step: of the users or of the permissions; to one or to zero; the place. -/
abbrev Stp := Bool × Bool × Nat × Nat
def kindN (usr one : Bool) : Nat := if usr then (if one then 1 else 2) else (if one then 3 else 4)
def stepM (S : List Nat × List Nat) (s : Stp) : List Nat × List Nat := if s.1 then (setB s.2.1 S.1 s.2.2.1 s.2.2.2, S.2) else (S.1, setB s.2.1 S.2 s.2.2.1 s.2.2.2)
def okStp (n c : Nat) (S : List Nat × List Nat) (s : Stp) : Prop :=
  if s.1 then s.2.2.1 < S.1.length ∧ s.2.2.2 < n ∧ Rel S.1 s.2.2.1 s.2.2.2 = !s.2.1 else s.2.2.1 < S.2.length ∧ s.2.2.2 < c ∧ Rel S.2 s.2.2.1 s.2.2.2 = !s.2.1
/-- Every step is possible, and leaves the access as it is; at the end stands E. -/
def GoodRun (n c : Nat) (ms : List Nat) : List Nat × List Nat → List Stp → List Nat × List Nat → Prop
  | S, [], E => S = E
  | S, s :: l, E => okStp n c S s ∧ prodM (stepM S s).1 (stepM S s).2 = ms ∧ GoodRun n c ms (stepM S s) l E
theorem GoodRun.app {n c : Nat} {ms : List Nat} : ∀ {l l' : List Stp} {S M E : List Nat × List Nat}, GoodRun n c ms S l M → GoodRun n c ms M l' E → GoodRun n c ms S (l ++ l') E
  | [], _, _, _, _, h, h' => by cases h; exact h'
  | _ :: l, _, _, _, _, ⟨h1, h2, h3⟩, h' => ⟨h1, h2, GoodRun.app (l := l) h3 h'⟩
theorem runU {n c : Nat} {ms : List Nat} (hn : n ≤ 64) (one : Bool) (ps : List Nat) : ∀ (l : List (Nat × Nat)) (us : List Nat), Wds us → l.Nodup → (∀ p ∈ l, p.1 < us.length ∧ p.2 < n ∧ Rel us p.1 p.2 = !one) → (∀ t, t ≤ l.length → prodM (setAll one us (l.take t)) ps = ms) →
    GoodRun n c ms (us, ps) (l.map fun p => (true, one, p.1, p.2)) (setAll one us l, ps)
  | [], _, _, _, _, _ => rfl
  | p :: l, us, hw, hnd, hl, hacc => by
    have hp := hl p (by simp)
    have hnd' := List.nodup_cons.1 hnd
    refine ⟨hp, ?_, runU hn one ps l (setB one us p.1 p.2) (wds_setB hw (by omega)) hnd'.2 (fun q hq => ?_) fun t ht => ?_⟩
    · have := hacc 1 (by simp)
      simpa [setAll, stepM] using this
    · have hq' := hl q (by simp [hq])
      rw [setB_len, rel_setB hw hp.1 (by omega), if_neg]
      · exact hq'
      · rintro ⟨h1, h2⟩
        exact hnd'.1 (by rw [← Prod.ext (Eq.symm h1) (Eq.symm h2)] at hq; exact hq)
    · have := hacc (t + 1) (by simp; omega)
      simpa [setAll] using this
theorem runP {n c : Nat} {ms : List Nat} (hc : c ≤ 64) (one : Bool) (us : List Nat) : ∀ (l : List (Nat × Nat)) (ps : List Nat), Wds ps → l.Nodup → (∀ p ∈ l, p.1 < ps.length ∧ p.2 < c ∧ Rel ps p.1 p.2 = !one) → (∀ t, t ≤ l.length → prodM us (setAll one ps (l.take t)) = ms) →
    GoodRun n c ms (us, ps) (l.map fun p => (false, one, p.1, p.2)) (us, setAll one ps l)
  | [], _, _, _, _, _ => rfl
  | p :: l, ps, hw, hnd, hl, hacc => by
    have hp := hl p (by simp)
    have hnd' := List.nodup_cons.1 hnd
    refine ⟨hp, ?_, runP hc one us l (setB one ps p.1 p.2) (wds_setB hw (by omega)) hnd'.2 (fun q hq => ?_) fun t ht => ?_⟩
    · have := hacc 1 (by simp)
      simpa [setAll, stepM] using this
    · have hq' := hl q (by simp [hq])
      rw [setB_len, rel_setB hw hp.1 (by omega), if_neg]
      · exact hq'
      · rintro ⟨h1, h2⟩
        exact hnd'.1 (by rw [← Prod.ext (Eq.symm h1) (Eq.symm h2)] at hq; exact hq)
    · have := hacc (t + 1) (by simp; omega)
      simpa [setAll] using this
/-- The places that are one in b and not in a. -/
def diffM (a b : List Nat) : List (Nat × Nat) := (List.range b.length).flatMap fun i => (mem64 (minB (b.getD i 0) (a.getD i 0))).map fun j => (i, j)
theorem mem_diffM {a b : List Nat} (ha : Wds a) (hb : Wds b) {i j : Nat} : (i, j) ∈ diffM a b ↔ Rel b i j = true ∧ Rel a i j = false := by
  simp only [diffM, List.mem_flatMap, List.mem_range, List.mem_map, Prod.mk.injEq]
  constructor
  · rintro ⟨i', h1, j', h2, rfl, rfl⟩
    rw [mem_mem64, minB_testBit (wds_get hb _) (wds_get ha _), Bool.and_eq_true, Bool.not_eq_true'] at h2
    exact h2.2
  · rintro ⟨h1, h2⟩
    refine ⟨i, rel_len h1, j, ?_, rfl, rfl⟩
    rw [mem_mem64, minB_testBit (wds_get hb _) (wds_get ha _), Bool.and_eq_true, Bool.not_eq_true']
    exact ⟨rel_lt64 hb h1, h1, h2⟩
theorem mem64_nodup (m : Nat) : (mem64 m).Nodup := List.Pairwise.filter _ List.nodup_range
theorem diffM_nodup (a b : List Nat) : (diffM a b).Nodup := by
  have h := List.pairwise_lt_range (n := b.length)
  unfold diffM
  revert h
  generalize List.range b.length = l
  intro h
  induction l with
  | nil => exact List.nodup_nil
  | cons x l ih =>
    obtain ⟨h1, h2⟩ := List.pairwise_cons.1 h
    rw [List.flatMap_cons, List.nodup_append]
    refine ⟨?_, ih h2, fun p hp q hq => ?_⟩
    · rw [List.nodup_iff_pairwise_ne, List.pairwise_map]
      exact (List.nodup_iff_pairwise_ne.1 (mem64_nodup _)).imp fun h e => h (by simpa using e)
    · obtain ⟨j, _, rfl⟩ := List.mem_map.1 hp
      obtain ⟨i, hi, hq⟩ := List.mem_flatMap.1 hq
      obtain ⟨j', _, rfl⟩ := List.mem_map.1 hq
      have := h1 i hi
      intro e
      simp at e
      omega
def planM (a b : List Nat × List Nat) : List Stp :=
  (diffM a.2 b.2).map (fun p => (false, true, p.1, p.2)) ++ (diffM a.1 b.1).map (fun p => (true, true, p.1, p.2)) ++ (diffM b.1 a.1).map (fun p => (true, false, p.1, p.2)) ++ (diffM b.2 a.2).map (fun p => (false, false, p.1, p.2))
def Sub2 (a b c : List Nat) : Prop := ∀ i j, Rel a i j = true → Rel b i j = true ∨ Rel c i j = true
def Sub1 (a b : List Nat) : Prop := ∀ i j, Rel a i j = true → Rel b i j = true
/-- What two configurations over joint roles must have in common. -/
structure Meet (n c : Nat) (ms : List Nat) (a b : List Nat × List Nat) : Prop where
  wau : Wds a.1
  wap : Wds a.2
  wbu : Wds b.1
  wbp : Wds b.2
  lu : b.1.length = a.1.length
  lp : b.2.length = a.2.length
  lm : ms.length = a.1.length
  cu : ∀ u k, Rel a.1 u k = true ∨ Rel b.1 u k = true → k < n
  cp : ∀ k p, Rel a.2 k p = true ∨ Rel b.2 k p = true → p < c
  aa : ∀ u p, (∃ k, Rel a.1 u k = true ∧ Rel a.2 k p = true) ↔ Rel ms u p = true
  bb : ∀ u p, (∃ k, Rel b.1 u k = true ∧ Rel b.2 k p = true) ↔ Rel ms u p = true
  ab : ∀ u k p, Rel a.1 u k = true → Rel b.2 k p = true → Rel ms u p = true
  ba : ∀ u k p, Rel b.1 u k = true → Rel a.2 k p = true → Rel ms u p = true
section
variable {n c : Nat} {ms : List Nat} {a b : List Nat × List Nat} (M : Meet n c ms a b)
include M
theorem mid {us ps : List Nat} (hw : Wds us) (hl : us.length = a.1.length) (hu : Sub2 us a.1 b.1) (hp : Sub2 ps a.2 b.2) (h : Sub1 a.1 us ∧ Sub1 a.2 ps ∨ Sub1 b.1 us ∧ Sub1 b.2 ps) : prodM us ps = ms := by
  refine rows_ext (by rw [M.lm, ← hl]; simp [prodM]) fun u p => ?_
  rw [Bool.eq_iff_iff, rel_prodM hw]
  constructor
  · rintro ⟨k, h1, h2⟩
    rcases hu _ _ h1 with h3 | h3 <;> rcases hp _ _ h2 with h4 | h4
    · exact (M.aa u p).1 ⟨k, h3, h4⟩
    · exact M.ab u k p h3 h4
    · exact M.ba u k p h3 h4
    · exact (M.bb u p).1 ⟨k, h3, h4⟩
  · intro hr
    rcases h with ⟨h1, h2⟩ | ⟨h1, h2⟩
    · obtain ⟨k, h3, h4⟩ := (M.aa u p).2 hr
      exact ⟨k, h1 _ _ h3, h2 _ _ h4⟩
    · obtain ⟨k, h3, h4⟩ := (M.bb u p).2 hr
      exact ⟨k, h1 _ _ h3, h2 _ _ h4⟩
theorem plan_runs (hn : n ≤ 64) (hc : c ≤ 64) : GoodRun n c ms a (planM a b) b := by
  have b64 : ∀ {x y : List Nat}, Wds x → Wds y → ∀ t p, p ∈ (diffM x y).take t → p.2 < 64 := fun hx hy t p hp => rel_lt64 hy ((mem_diffM hx hy).1 (List.mem_of_mem_take hp)).1
  have take_r : ∀ {one : Bool} {x y z : List Nat}, Wds x → Wds y → Wds z → y.length ≤ z.length → ∀ t i j, Rel (setAll one z ((diffM x y).take t)) i j = if (i, j) ∈ (diffM x y).take t then one else Rel z i j := fun hx hy hz hl t i j =>
    rel_setAll hz (fun p hp => ⟨Nat.lt_of_lt_of_le (rel_len ((mem_diffM hx hy).1 (List.mem_of_mem_take hp)).1) hl, b64 hx hy t p hp⟩) i j
  have all_r : ∀ {one : Bool} {x y z : List Nat}, Wds x → Wds y → Wds z → y.length ≤ z.length → ∀ i j, Rel (setAll one z (diffM x y)) i j = if (i, j) ∈ diffM x y then one else Rel z i j := fun {one x y z} hx hy hz hl i j => by
    have := take_r (one := one) hx hy hz hl (diffM x y).length i j
    rwa [List.take_length] at this
  have wall : ∀ {one : Bool} {x y z : List Nat}, Wds x → Wds y → Wds z → Wds (setAll one z (diffM x y)) := fun hx hy hz => wds_setAll hz fun p hp => rel_lt64 hy ((mem_diffM hx hy).1 hp).1
  have wtake : ∀ {one : Bool} {x y z : List Nat}, Wds x → Wds y → Wds z → ∀ t, Wds (setAll one z ((diffM x y).take t)) := fun hx hy hz t => wds_setAll hz fun p hp => b64 hx hy t p hp
  have hG : GoodRun n c ms a ((diffM a.2 b.2).map fun p => (false, true, p.1, p.2)) (a.1, setAll true a.2 (diffM a.2 b.2)) := by
    refine runP hc true a.1 _ a.2 M.wap (diffM_nodup _ _) (fun p hp => ?_) fun t _ => ?_
    · have h := (mem_diffM M.wap M.wbp).1 (show (p.1, p.2) ∈ _ from hp)
      exact ⟨by have := rel_len h.1; have := M.lp; omega, M.cp _ _ (.inr h.1), h.2⟩
    · refine mid M M.wau rfl (fun _ _ h => .inl h) (fun i j h => ?_) (.inl ⟨fun _ _ h => h, fun i j h => ?_⟩)
      · rw [take_r M.wap M.wbp M.wap (by rw [M.lp]; omega)] at h
        split at h
        · rename_i hm
          exact .inr ((mem_diffM M.wap M.wbp).1 (List.mem_of_mem_take hm)).1
        · exact .inl h
      · rw [take_r M.wap M.wbp M.wap (by rw [M.lp]; omega)]
        split <;> simp [h]
  have w1 : Wds (setAll true a.2 (diffM a.2 b.2)) := wall M.wap M.wbp M.wap
  have r1 := all_r (one := true) M.wap M.wbp M.wap (by rw [M.lp]; omega)
  have l1 := setAll_len true (diffM a.2 b.2) a.2
  generalize setAll true a.2 (diffM a.2 b.2) = p1 at *
  have s1 : Sub2 p1 a.2 b.2 := fun i j h => by
    rw [r1] at h
    split at h
    · rename_i hm
      exact .inr ((mem_diffM M.wap M.wbp).1 hm).1
    · exact .inl h
  have s1a : Sub1 a.2 p1 := fun i j h => by rw [r1]; split <;> simp [h]
  have s1b : Sub1 b.2 p1 := fun i j h => by
    rw [r1]
    split
    · rfl
    · rename_i hm
      cases ha : Rel a.2 i j with
      | true => rfl
      | false => exact absurd ((mem_diffM M.wap M.wbp).2 ⟨h, ha⟩) hm
  have hA : GoodRun n c ms (a.1, p1) ((diffM a.1 b.1).map fun p => (true, true, p.1, p.2)) (setAll true a.1 (diffM a.1 b.1), p1) := by
    refine runU hn true p1 _ a.1 M.wau (diffM_nodup _ _) (fun p hp => ?_) fun t _ => ?_
    · have h := (mem_diffM M.wau M.wbu).1 (show (p.1, p.2) ∈ _ from hp)
      exact ⟨by have := rel_len h.1; have := M.lu; omega, M.cu _ _ (.inr h.1), h.2⟩
    · refine mid M (wtake M.wau M.wbu M.wau t) (setAll_len _ _ _) (fun i j h => ?_) s1 (.inl ⟨fun i j h => ?_, s1a⟩)
      · rw [take_r M.wau M.wbu M.wau (by rw [M.lu]; omega)] at h
        split at h
        · rename_i hm
          exact .inr ((mem_diffM M.wau M.wbu).1 (List.mem_of_mem_take hm)).1
        · exact .inl h
      · rw [take_r M.wau M.wbu M.wau (by rw [M.lu]; omega)]
        split <;> simp [h]
  have w2 : Wds (setAll true a.1 (diffM a.1 b.1)) := wall M.wau M.wbu M.wau
  have r2 := all_r (one := true) M.wau M.wbu M.wau (by rw [M.lu]; omega)
  have l2 := setAll_len true (diffM a.1 b.1) a.1
  generalize setAll true a.1 (diffM a.1 b.1) = u2 at *
  have s2 : Sub2 u2 a.1 b.1 := fun i j h => by
    rw [r2] at h
    split at h
    · rename_i hm
      exact .inr ((mem_diffM M.wau M.wbu).1 hm).1
    · exact .inl h
  have s2b : Sub1 b.1 u2 := fun i j h => by
    rw [r2]
    split
    · rfl
    · rename_i hm
      cases ha : Rel a.1 i j with
      | true => rfl
      | false => exact absurd ((mem_diffM M.wau M.wbu).2 ⟨h, ha⟩) hm
  have hR : GoodRun n c ms (u2, p1) ((diffM b.1 a.1).map fun p => (true, false, p.1, p.2)) (setAll false u2 (diffM b.1 a.1), p1) := by
    refine runU hn false p1 _ u2 w2 (diffM_nodup _ _) (fun p hp => ?_) fun t _ => ?_
    · have h := (mem_diffM M.wbu M.wau).1 (show (p.1, p.2) ∈ _ from hp)
      exact ⟨by have := rel_len h.1; omega, M.cu _ _ (.inl h.1), by rw [r2]; split <;> simp [h.1]⟩
    · refine mid M (wtake M.wbu M.wau w2 t) (by rw [setAll_len]; exact l2) (fun i j h => ?_) s1 (.inr ⟨fun i j h => ?_, s1b⟩)
      · rw [take_r M.wbu M.wau w2 (by omega)] at h
        split at h
        · cases h
        · exact s2 _ _ h
      · rw [take_r M.wbu M.wau w2 (by omega), if_neg]
        · exact s2b _ _ h
        · intro hm
          rw [((mem_diffM M.wbu M.wau).1 (List.mem_of_mem_take hm)).2] at h
          cases h
  have e3 : setAll false u2 (diffM b.1 a.1) = b.1 := by
    refine rows_ext (by rw [setAll_len, l2, M.lu]) fun i j => ?_
    rw [all_r M.wbu M.wau w2 (by omega)]
    split
    · rename_i hm
      exact ((mem_diffM M.wbu M.wau).1 hm).2.symm
    · rename_i hm
      rw [Bool.eq_iff_iff]
      refine ⟨fun h => ?_, s2b i j⟩
      rcases s2 _ _ h with h1 | h1
      · cases hb : Rel b.1 i j with
        | true => rfl
        | false => exact absurd ((mem_diffM M.wbu M.wau).2 ⟨h1, hb⟩) hm
      · exact h1
  rw [e3] at hR
  have hW : GoodRun n c ms (b.1, p1) ((diffM b.2 a.2).map fun p => (false, false, p.1, p.2)) (b.1, setAll false p1 (diffM b.2 a.2)) := by
    refine runP hc false b.1 _ p1 w1 (diffM_nodup _ _) (fun p hp => ?_) fun t _ => ?_
    · have h := (mem_diffM M.wbp M.wap).1 (show (p.1, p.2) ∈ _ from hp)
      exact ⟨by have := rel_len h.1; omega, M.cp _ _ (.inl h.1), by rw [s1a _ _ h.1]; rfl⟩
    · refine mid M M.wbu M.lu (fun _ _ h => .inr h) (fun i j h => ?_) (.inr ⟨fun _ _ h => h, fun i j h => ?_⟩)
      · rw [take_r M.wbp M.wap w1 (by omega)] at h
        split at h
        · cases h
        · exact s1 _ _ h
      · rw [take_r M.wbp M.wap w1 (by omega), if_neg]
        · exact s1b _ _ h
        · intro hm
          rw [((mem_diffM M.wbp M.wap).1 (List.mem_of_mem_take hm)).2] at h
          cases h
  have e4 : setAll false p1 (diffM b.2 a.2) = b.2 := by
    refine rows_ext (by rw [setAll_len, l1, M.lp]) fun i j => ?_
    rw [all_r M.wbp M.wap w1 (by omega)]
    split
    · rename_i hm
      exact ((mem_diffM M.wbp M.wap).1 hm).2.symm
    · rename_i hm
      rw [Bool.eq_iff_iff]
      refine ⟨fun h => ?_, s1b i j⟩
      rcases s1 _ _ h with h1 | h1
      · cases hb : Rel b.2 i j with
        | true => rfl
        | false => exact absurd ((mem_diffM M.wbp M.wap).2 ⟨h1, hb⟩) hm
      · exact h1
  rw [e4] at hW
  exact ((hG.app hA).app hR).app hW
end
end Go.Proofs.YtmfiencoefbjfaaGreatDoor
namespace Go.Proofs.YtmfiencoefbjfaaGreatDoor
open Go.RowKit
def numAt (po out : List Nat) (n x : Nat) : Nat := ((List.range po.length).find? fun k => !decide (k ∈ out) && decide (po.getD k 0 = x)).getD n
def numL (po : List Nat) : List Nat → List Nat → Nat → List Nat × Nat
  | [], out, n => (out, n)
  | x :: l, out, n => numL po l (out ++ [numAt po out n x]) (if numAt po out n x = n then n + 1 else n)
theorem numAt_cases (po out : List Nat) (n x : Nat) : (numAt po out n x < po.length ∧ numAt po out n x ∉ out ∧ po.getD (numAt po out n x) 0 = x) ∨ numAt po out n x = n := by
  unfold numAt
  cases h : (List.range po.length).find? fun k => !decide (k ∈ out) && decide (po.getD k 0 = x) with
  | none => exact .inr rfl
  | some k =>
    have h1 := List.find?_some h
    have h2 := List.mem_of_find?_eq_some h
    rw [Bool.and_eq_true, Bool.not_eq_true', decide_eq_false_iff_not, decide_eq_true_eq] at h1
    exact .inl ⟨List.mem_range.1 h2, h1.1, h1.2⟩
theorem numL_spec (po : List Nat) : ∀ (l out : List Nat) (n : Nat), po.length ≤ n → out.Nodup → (∀ k ∈ out, k < n) →
    ∃ ext, (numL po l out n).1 = out ++ ext ∧ ext.length = l.length ∧ n ≤ (numL po l out n).2 ∧ (numL po l out n).2 ≤ n + l.length ∧ (out ++ ext).Nodup ∧ (∀ k ∈ out ++ ext, k < (numL po l out n).2) ∧ ∀ r, r < l.length → ext.getD r 0 < po.length → po.getD (ext.getD r 0) 0 = l.getD r 0
  | [], out, n, _, h2, h3 => ⟨[], by simp [numL], rfl, Nat.le_refl _, Nat.le_refl _, by simpa using h2, by simpa [numL] using h3, fun r hr => by simp at hr⟩
  | x :: l, out, n, h1, h2, h3 => by
    have hc := numAt_cases po out n x
    rw [numL]
    generalize numAt po out n x = k at *
    have hk : k ∉ out ∧ k < (if k = n then n + 1 else n) ∧ n ≤ (if k = n then n + 1 else n) ∧ (if k = n then n + 1 else n) ≤ n + 1 := by
      rcases hc with ⟨g1, g2, _⟩ | rfl
      · rw [if_neg (by omega)]
        exact ⟨g2, by omega, by omega, by omega⟩
      · rw [if_pos rfl]
        exact ⟨fun hm => by have := h3 _ hm; omega, by omega, by omega, by omega⟩
    generalize (if k = n then n + 1 else n) = n1 at *
    obtain ⟨ext, e1, e2, e3, e4, e5, e6, e7⟩ := numL_spec po l (out ++ [k]) n1 (by omega) (by
      rw [List.nodup_append]
      refine ⟨h2, by simp, fun a ha b hb => ?_⟩
      simp only [List.mem_singleton] at hb
      subst hb
      rintro rfl
      exact hk.1 ha) fun q hq => by
      rcases List.mem_append.1 hq with g | g
      · have := h3 q g; omega
      · simp only [List.mem_singleton] at g; omega
    refine ⟨k :: ext, by rw [e1]; simp, by simp [e2], by omega, by rw [List.length_cons]; omega, by simpa using e5, by simpa using e6, fun r hr hlt => ?_⟩
    cases r with
    | zero =>
      rcases hc with ⟨_, _, g3⟩ | rfl
      · simpa using g3
      · simp at hlt; omega
    | succ r => exact e7 r (by simp at hr; omega) (by simpa using hlt)
def cellsU (c : Nat) (us at' : List Nat) (t : Nat) : List (Nat × Nat) := (List.range t).flatMap fun (r : Nat) => (mem64 (colM c us (r : Int))).map fun u => (u, at'.getD r 0)
def cellsP (ps at' : List Nat) (t : Nat) : List (Nat × Nat) := (List.range t).flatMap fun (r : Nat) => (mem64 (rowM ps (r : Int))).map fun p => (at'.getD r 0, p)
def overM (us ps at' : List Nat) (n : Nat) : List Nat × List Nat :=
  (setAll true (List.replicate us.length 0) (cellsU ps.length us at' at'.length), setAll true (List.replicate n 0) (cellsP ps at' at'.length))
theorem mem_cellsU {c : Nat} {us at' : List Nat} {t u k : Nat} (ht : t ≤ c) (hl : us.length ≤ 64) : (u, k) ∈ cellsU c us at' t ↔ ∃ r, r < t ∧ at'.getD r 0 = k ∧ Rel us u r = true := by
  simp only [cellsU, List.mem_flatMap, List.mem_range, List.mem_map, Prod.mk.injEq, mem_mem64]
  constructor
  · rintro ⟨r, h1, u', ⟨_, h2⟩, rfl, rfl⟩
    rw [colM_testBit c us u' r (by omega), Bool.and_eq_true] at h2
    exact ⟨r, h1, rfl, h2.2⟩
  · rintro ⟨r, h1, rfl, h2⟩
    have := rel_len h2
    exact ⟨r, h1, u, ⟨by omega, by rw [colM_testBit c us u r (by omega), h2]; simp [this]⟩, rfl, rfl⟩
theorem mem_cellsP {ps at' : List Nat} {t k p : Nat} (ht : t ≤ ps.length) (hw : Wds ps) : (k, p) ∈ cellsP ps at' t ↔ ∃ r, r < t ∧ at'.getD r 0 = k ∧ Rel ps r p = true := by
  simp only [cellsP, List.mem_flatMap, List.mem_range, List.mem_map, Prod.mk.injEq, mem_mem64]
  constructor
  · rintro ⟨r, h1, p', ⟨_, h2⟩, rfl, rfl⟩
    rw [rowM_testBit ps r p' (by omega)] at h2
    exact ⟨r, h1, rfl, h2⟩
  · rintro ⟨r, h1, rfl, h2⟩
    exact ⟨r, h1, p, ⟨rel_lt64 hw h2, by rw [rowM_testBit ps r p (by omega)]; exact h2⟩, rfl, rfl⟩
theorem wds_zero (n : Nat) : Wds (List.replicate n 0) := fun s hs => by rw [(List.mem_replicate.1 hs).2]; omega
theorem rel_zero (n i j : Nat) : Rel (List.replicate n 0) i j = false := by
  unfold Rel
  rw [List.getD_eq_getElem?_getD, List.getElem?_replicate]
  split <;> simp
section
variable {us ps at' : List Nat} {n : Nat} (hw : Wds ps) (hl : us.length ≤ 64) (ha : at'.length = ps.length) (hn : n ≤ 64) (hat : ∀ k ∈ at', k < n)
include hat
theorem at_lt {r : Nat} (hr : r < at'.length) : at'.getD r 0 < n := by
  rw [List.getD_eq_getElem?_getD, List.getElem?_eq_getElem hr]
  exact hat _ (List.getElem_mem hr)
include hl ha hn
theorem rel_overU (u k : Nat) : Rel (overM us ps at' n).1 u k = true ↔ ∃ r, r < at'.length ∧ at'.getD r 0 = k ∧ Rel us u r = true := by
  have hb : ∀ p ∈ cellsU ps.length us at' at'.length, p.1 < (List.replicate us.length 0).length ∧ p.2 < 64 := fun p hp => by
    obtain ⟨r, h1, h2, h3⟩ := (mem_cellsU (u := p.1) (k := p.2) (by omega) hl).1 hp
    have := at_lt hat h1
    exact ⟨by rw [List.length_replicate]; exact rel_len h3, by omega⟩
  rw [overM, rel_setAll (wds_zero _) hb, rel_zero, ← mem_cellsU (c := ps.length) (by omega) hl]
  split <;> rename_i hm <;> simp [hm]
theorem wds_overU : Wds (overM us ps at' n).1 := wds_setAll (wds_zero _) fun p hp => by
  obtain ⟨r, h1, h2, h3⟩ := (mem_cellsU (u := p.1) (k := p.2) (by omega) hl).1 hp
  have := at_lt hat h1
  omega
include hw
omit hl hn in
theorem rel_overP (k p : Nat) : Rel (overM us ps at' n).2 k p = true ↔ ∃ r, r < at'.length ∧ at'.getD r 0 = k ∧ Rel ps r p = true := by
  have hb : ∀ p ∈ cellsP ps at' at'.length, p.1 < (List.replicate n 0).length ∧ p.2 < 64 := fun p hp => by
    obtain ⟨r, h1, h2, h3⟩ := (mem_cellsP (k := p.1) (p := p.2) (by omega) hw).1 hp
    have := at_lt hat h1
    exact ⟨by rw [List.length_replicate]; omega, rel_lt64 hw h3⟩
  rw [overM, rel_setAll (wds_zero _) hb, rel_zero, ← mem_cellsP (by omega) hw]
  split <;> rename_i hm <;> simp [hm]
omit hl hn hat in
theorem wds_overP : Wds (overM us ps at' n).2 := wds_setAll (wds_zero _) fun p hp => by
  obtain ⟨r, h1, h2, h3⟩ := (mem_cellsP (k := p.1) (p := p.2) (by omega) hw).1 hp
  exact rel_lt64 hw h3
end
theorem range_getD {n r : Nat} (h : r < n) : (List.range n).getD r 0 = r := by simp [h]
/-- Two configurations with one access, over joint roles. -/
theorem meet_over {uo po un pn ms : List Nat} {c : Nat} (wuo : Wds uo) (wpo : Wds po) (wun : Wds un) (wpn : Wds pn) (lo : uo.length = ms.length) (ln : un.length = ms.length) (hl : ms.length ≤ 64) (h64 : po.length + pn.length ≤ 64)
    (co : ∀ k p, Rel po k p = true → p < c) (cn : ∀ k p, Rel pn k p = true → p < c) (ao : prodM uo po = ms) (an : prodM un pn = ms) (uo' : ∀ u k, Rel uo u k = true → k < po.length) (un' : ∀ u k, Rel un u k = true → k < pn.length) :
    Meet (numL po pn [] po.length).2 c ms (overM uo po (List.range po.length) (numL po pn [] po.length).2) (overM un pn (numL po pn [] po.length).1 (numL po pn [] po.length).2) := by
  obtain ⟨ext, e1, e2, e3, e4, e5, e6, e7⟩ := numL_spec po pn [] po.length (Nat.le_refl _) List.nodup_nil (by simp)
  rw [List.nil_append] at e1 e5 e6
  rw [e1]
  generalize (numL po pn [] po.length).2 = n at *
  have hr : ∀ k ∈ List.range po.length, k < n := fun k hk => by have := List.mem_range.1 hk; omega
  have RAU := rel_overU (us := uo) (ps := po) (at' := List.range po.length) (n := n) (by omega) (by simp) (by omega) hr
  have RAP := rel_overP (us := uo) (ps := po) (at' := List.range po.length) (n := n) wpo (by simp) hr
  have RBU := rel_overU (us := un) (ps := pn) (at' := ext) (n := n) (by omega) e2 (by omega) e6
  have RBP := rel_overP (us := un) (ps := pn) (at' := ext) (n := n) wpn e2 e6
  have rau : ∀ u k, Rel (overM uo po (List.range po.length) n).1 u k = true ↔ Rel uo u k = true := fun u k => by
    rw [RAU]
    constructor
    · rintro ⟨r, h1, h2, h3⟩
      rw [List.length_range] at h1
      rw [range_getD h1] at h2
      subst h2
      exact h3
    · intro h
      have := uo' u k h
      exact ⟨k, by simpa using this, range_getD this, h⟩
  have rap : ∀ k p, Rel (overM uo po (List.range po.length) n).2 k p = true ↔ Rel po k p = true := fun k p => by
    rw [RAP]
    constructor
    · rintro ⟨r, h1, h2, h3⟩
      rw [List.length_range] at h1
      rw [range_getD h1] at h2
      subst h2
      exact h3
    · intro h
      have := rel_len h
      exact ⟨k, by simpa using this, range_getD this, h⟩
  have inj : ∀ r r', r < ext.length → r' < ext.length → ext.getD r 0 = ext.getD r' 0 → r = r' := fun r r' h1 h2 h => by
    rw [List.getD_eq_getElem?_getD, List.getD_eq_getElem?_getD, List.getElem?_eq_getElem h1, List.getElem?_eq_getElem h2] at h
    simp only [Option.getD_some] at h
    have hp := List.pairwise_iff_getElem.1 (List.nodup_iff_pairwise_ne.1 e5)
    rcases Nat.lt_trichotomy r r' with g | g | g
    · exact absurd h (hp r r' h1 h2 g)
    · exact g
    · exact absurd h.symm (hp r' r h2 h1 g)
  have joint : ∀ r p, r < ext.length → ext.getD r 0 < po.length → Rel po (ext.getD r 0) p = Rel pn r p := fun r p h1 h2 => by
    unfold Rel
    rw [e7 r (by omega) h2]
  have accO : ∀ u p, (∃ k, Rel uo u k = true ∧ Rel po k p = true) ↔ Rel ms u p = true := fun u p => by rw [← ao, rel_prodM wuo]
  have accN : ∀ u p, (∃ k, Rel un u k = true ∧ Rel pn k p = true) ↔ Rel ms u p = true := fun u p => by rw [← an, rel_prodM wun]
  exact
    { wau := wds_overU (by omega) (by simp) (by omega) hr
      wap := wds_overP wpo (by simp)
      wbu := wds_overU (by omega) e2 (by omega) e6
      wbp := wds_overP wpn e2
      lu := by simp only [overM, setAll_len, List.length_replicate]; omega
      lp := by simp only [overM, setAll_len, List.length_replicate]
      lm := by simp only [overM, setAll_len, List.length_replicate]; omega
      cu := fun u k h => by
        rcases h with h | h
        · have := uo' u k ((rau u k).1 h); omega
        · obtain ⟨r, h1, h2, _⟩ := (RBU u k).1 h
          rw [← h2]
          exact at_lt e6 h1
      cp := fun k p h => by
        rcases h with h | h
        · exact co k p ((rap k p).1 h)
        · obtain ⟨r, _, _, h3⟩ := (RBP k p).1 h
          exact cn r p h3
      aa := fun u p => by
        rw [← accO]
        exact ⟨fun ⟨k, h1, h2⟩ => ⟨k, (rau u k).1 h1, (rap k p).1 h2⟩, fun ⟨k, h1, h2⟩ => ⟨k, (rau u k).2 h1, (rap k p).2 h2⟩⟩
      bb := fun u p => by
        rw [← accN]
        constructor
        · rintro ⟨k, h1, h2⟩
          obtain ⟨r, g1, g2, g3⟩ := (RBU u k).1 h1
          obtain ⟨r', g1', g2', g3'⟩ := (RBP k p).1 h2
          obtain rfl : r = r' := inj r r' g1 g1' (g2.trans g2'.symm)
          exact ⟨r, g3, g3'⟩
        · rintro ⟨r, h1, h2⟩
          have hr := un' u r h1
          exact ⟨ext.getD r 0, (RBU u _).2 ⟨r, by omega, rfl, h1⟩, (RBP _ p).2 ⟨r, by omega, rfl, h2⟩⟩
      ab := fun u k p h1 h2 => by
        rw [← accO]
        have h1 := (rau u k).1 h1
        obtain ⟨r, g1, g2, g3⟩ := (RBP k p).1 h2
        subst g2
        exact ⟨_, h1, by rw [joint r p g1 (uo' _ _ h1)]; exact g3⟩
      ba := fun u k p h1 h2 => by
        rw [← accN]
        have h2 := (rap k p).1 h2
        obtain ⟨r, g1, g2, g3⟩ := (RBU u k).1 h1
        subst g2
        exact ⟨r, g3, by rw [← joint r p g1 (rel_len h2)]; exact h2⟩ }
/-- Every row a role of its own. -/
def ownU (r : Nat) : List Nat := (List.range r).map fun i => 2 ^ i
theorem rel_ownU {r u k : Nat} : Rel (ownU r) u k = true ↔ u < r ∧ u = k := by
  unfold Rel ownU
  rw [List.getD_eq_getElem?_getD]
  rcases Nat.lt_or_ge u r with h | h
  · simp [h, Nat.testBit_two_pow]
  · have e : ((List.range r).map fun i => 2 ^ i)[u]? = none := List.getElem?_eq_none (by simpa using h)
    rw [e]
    simp; omega
theorem wds_ownU {r : Nat} (h : r ≤ 64) : Wds (ownU r) := fun s hs => by
  simp only [ownU, List.mem_map, List.mem_range] at hs
  obtain ⟨i, hi, rfl⟩ := hs
  exact pow_word (by omega)
theorem prod_own {ms : List Nat} (h : ms.length ≤ 64) : prodM (ownU ms.length) ms = ms := by
  refine rows_ext (by simp [prodM, ownU]) fun u p => ?_
  rw [Bool.eq_iff_iff, rel_prodM (wds_ownU h)]
  constructor
  · rintro ⟨k, h1, h2⟩
    obtain ⟨_, rfl⟩ := rel_ownU.1 h1
    exact h2
  · intro h1
    exact ⟨u, rel_ownU.2 ⟨rel_len h1, rfl⟩, h1⟩
/-- The users of rectangles: rows and columns exchanged. -/
def transM (c : Nat) (us : List Nat) : List Nat := (List.range c).map fun (j : Nat) => colM c us (j : Int)
theorem rel_transM {c : Nat} {us : List Nat} {j i : Nat} : Rel (transM c us) j i = true ↔ j < c ∧ Rel us i j = true := by
  unfold Rel transM
  rw [List.getD_eq_getElem?_getD]
  rcases Nat.lt_or_ge j c with h | h
  · rw [List.getElem?_map, List.getElem?_eq_getElem (by simpa using h)]
    simp only [List.getElem_range, Option.map_some, Option.getD_some, h, true_and]
    rw [colM_testBit c us i j h, Bool.and_eq_true]
    exact ⟨fun h => h.2, fun h => ⟨by simpa using rel_len h, h⟩⟩
  · have e : ((List.range c).map fun (j : Nat) => colM c us (j : Int))[j]? = none := List.getElem?_eq_none (by simpa using h)
    rw [e]
    simp; omega
theorem wds_transM {c : Nat} {us : List Nat} (hl : us.length ≤ 64) : Wds (transM c us) := fun s hs => by
  simp only [transM, List.mem_map, List.mem_range] at hs
  obtain ⟨j, hj, rfl⟩ := hs
  refine lt_pow_of_bits (c := 64) fun i hi => ?_
  rw [colM_testBit c us i j hj, Bool.and_eq_true, decide_eq_true_eq] at hi
  omega
/-- Rectangles of ones that cover all ones are roles with the same access. -/
theorem prod_roles {ms : List Nat} {ch : List (Nat × Nat)} (hl : ch.length ≤ 64) (hrect : ∀ p ∈ ch, ∀ i j, p.1.testBit i = true → p.2.testBit j = true → Rel ms i j = true) (hcov : ∀ i j, Rel ms i j = true → ∃ p ∈ ch, p.1.testBit i = true ∧ p.2.testBit j = true) :
    prodM (transM ms.length (ch.map (·.1))) (ch.map (·.2)) = ms := by
  have hl' : (ch.map (·.1)).length ≤ 64 := by simpa using hl
  have g1 : ∀ k, k < ch.length → (∀ i, Rel (ch.map (·.1)) k i = (ch.getD k (0, 0)).1.testBit i) ∧ (∀ j, Rel (ch.map (·.2)) k j = (ch.getD k (0, 0)).2.testBit j) := fun k hk => by
    constructor <;> intro i <;> simp [Rel, hk]
  refine rows_ext (by simp [prodM, transM]) fun u p => ?_
  rw [Bool.eq_iff_iff, rel_prodM (wds_transM hl')]
  constructor
  · rintro ⟨k, h1, h2⟩
    have hk := rel_len h2
    rw [List.length_map] at hk
    obtain ⟨_, h1⟩ := (rel_transM).1 h1
    rw [(g1 k hk).1] at h1
    rw [(g1 k hk).2] at h2
    exact hrect _ (by rw [List.getD_eq_getElem?_getD, List.getElem?_eq_getElem hk]; exact List.getElem_mem hk) u p h1 h2
  · intro h
    obtain ⟨q, hq, h1, h2⟩ := hcov u p h
    obtain ⟨k, hk, e⟩ := List.getElem_of_mem hq
    have e' : ch.getD k (0, 0) = q := by rw [List.getD_eq_getElem?_getD, List.getElem?_eq_getElem hk]; exact e
    exact ⟨k, (rel_transM).2 ⟨rel_len h, by rw [(g1 k hk).1, e']; exact h1⟩, by rw [(g1 k hk).2, e']; exact h2⟩
end Go.Proofs.YtmfiencoefbjfaaGreatDoor
namespace Go.Proofs.YtmfiencoefbjfaaGreatDoor
section
set_option maxRecDepth 100000
theorem en46 : Enters Tryz.prog 46 := enters_mk Tryz.func46 (by kernel_rfl) rfl
theorem en48 : Enters Tryz.prog 48 := enters_mk Tryz.func48 (by kernel_rfl) rfl
theorem en49 : Enters Tryz.prog 49 := enters_mk Tryz.func49 (by kernel_rfl) rfl
theorem en57 : Enters Tryz.prog 57 := enters_mk Tryz.func57 (by kernel_rfl) rfl
theorem z33 : Zero Tryz.prog 33 [.pointer none, .pointer none] := ⟨zero_of (by kernel_rfl)⟩
theorem st33 : StT Tryz.prog 33 [(0, 1), (1, 1)] [.pointer none, .pointer none] := ⟨⟨_, Tryz.underlying33, fun _ => by kernel_rfl, z33⟩⟩
theorem ty33 : Ty Tryz.prog 33 true 2 := ⟨⟨_, Tryz.underlying33, rfl⟩, by kernel_rfl⟩
end
open Go.RowKit
def conK (l : List (Nat × Nat)) (k : Nat) : List (Nat × Nat) := (l.take k).filter fun p => !decide (p.1 = 0) && !decide (p.2 = 0)
theorem conK_succ {l : List (Nat × Nat)} {k : Nat} (h : k < l.length) : conK l (k + 1) = if (!decide (l[k].1 = 0) && !decide (l[k].2 = 0)) = true then conK l k ++ [l[k]] else conK l k := by
  unfold conK
  rw [List.take_succ_eq_append_getElem h, List.filter_append, List.filter_cons]
  split <;> simp
theorem conK_len (l : List (Nat × Nat)) (k : Nat) : (conK l k).length ≤ k := by
  unfold conK
  refine Nat.le_trans (List.length_filter_le _ _) ?_
  rw [List.length_take]
  omega
theorem atM_at {l : List (Nat × Nat)} {k : Nat} (h : k < l.length) : atM l (k : Int) = l[k] := by simp [atM, inB, h]
theorem inB_at {l : List (Nat × Nat)} {k : Nat} (h : k < l.length) : inB l.length (k : Int) = true := by simp [inB]; omega
theorem concepts_spec {X : PMap} (hT : Tab X) {v : Value} {c : Nat} {ms : List Nat} (h : MatR X v c ms) (hc : c < 6) (most : Nat) (h1 : 32 ≤ most) (h2 : most < 2147483648) : Spec Tryz.prog 23 [v, .int .i64 (most : Int)] X fun u X' => ∃ sl, u = .tuple #[sl, .int .i64 0] ∧ ConL X' sl (conF c ms) := by
  obtain ⟨hr, _⟩ := h.lens
  have hal := allR_len (c := c) (ms := ms) hr hc
  have hmx : maxLen = 9223372036854775807 := rfl
  refine Spec.enter Tryz.func23 rfl Tryz.ntmps23 rfl ?_
  intro w0 hw0
  refine T.seq <| T.region <| SL.as rfl <| SL.v (op_assign (v := .int .i64 ((0 : Nat) : Int)) rfl) <| SL.nil <| T.seq <| T.region <| SL.mv rfl <| SL.mv rfl <| SL.w (op_callF en46 (vs := [_, _]) rfl (lnewA_spec hT h hc most (by omega) h2)) ?_
  rintro u1 _ X1 ⟨rfl, hX1, hL1⟩
  rw [if_pos (by omega)] at hL1
  obtain ⟨w, rfl, hL⟩ := hL1
  refine SL.mv rfl <| SL.v (op_extract rfl rfl) <| SL.v (op_extract rfl rfl) <| SL.as rfl <| SL.as rfl <| SL.nil <| T.seq <| T.seq <| T.region <| SL.mv rfl <| SL.v (op_neqF rfl rfl (by omega)) ?_
  refine SL.nil <| T.condF rfl <| T.skip <| T.seq <| T.region <| SL.as rfl <| SL.nil <| T.seq <| T.seq <| T.region <| SL.mv rfl <| SL.w (op_callF en47 (vs := [_]) rfl (llen_spec (.inl hL))) ?_
  rintro _ _ X2 ⟨rfl, hX2, rfl⟩
  refine SL.v (op_move (v := .int .i64 ((0 : Nat) : Int)) rfl) <| SL.nil <| T.block <| T.loopW (fun m env own X' => ∃ (k : Nat) (s : Value) (cs : List Value), m = (allR c ms).length - k ∧ k ≤ (allR c ms).length ∧ X2.le X' ∧ GrowS 119 2 s (conK (allR c ms) k).length cs own ∧ ConsR X' cs (conK (allR c ms) k) ∧ env = [(6, w), (8, s), (22, .int .i64 ((allR c ms).length : Int)), (23, .int .i64 (k : Int))]) (allR c ms).length ⟨0, _, [], by simp, by omega, PMap.le_refl _, GrowS.nil, ConsR.nil, rfl⟩ (by repeat (first | exact Sub.nil | refine Sub.cons rfl ?_)) ?_
  rintro m _ G X3 ⟨k, s, cs, rfl, hk, hX3, hG, hC, rfl⟩
  have hX23 := hX2.trans' hX3
  have hkl := conK_len (allR c ms) k
  rcases Nat.lt_or_ge k (allR c ms).length with hlt | hlt
  · skip
    refine T.seq <| T.region <| SL.v (op_lssT rfl rfl (by omega)) ?_
    refine SL.nil <| T.seq <| T.condT rfl <| T.skip <| T.seq <| T.block <| T.seq <| T.region <| SL.mv rfl <| SL.as rfl <| SL.nil <| T.seq <| T.region <| SL.mv rfl <| SL.mv rfl ?_
    refine SL.w (op_callF en48 (vs := [_, _]) rfl (lat_spec (.inl (hL.mono hX23)) (k : Int))) ?_
    rintro _ _ X4 ⟨rfl, hX4, _, rfl, x, y, rfl, hx, hy⟩
    rw [inB_at hlt]
    rw [atM_at hlt] at hx hy
    obtain ⟨Ax, lx, cx, hxe⟩ := hx.form
    obtain ⟨Ay, ly, cy, hye⟩ := hy.form
    obtain rfl : x = .slice Ax lx cx := by simpa using hxe
    obtain rfl : y = .slice Ay ly cy := by simpa using hye
    have hsu := conK_succ hlt
    refine SL.mv rfl <| SL.v (op_extract rfl rfl) <| SL.v (op_extract rfl rfl) <| SL.w (op_alloc z119) ?_
    rintro _ _ _ ⟨B10, rfl, rfl, rfl⟩
    refine SL.w (op_store ty119 rfl rfl (by repeat constructor) rfl rfl rfl) ?_
    rintro _ _ _ ⟨rfl, rfl⟩
    refine SL.as rfl <| SL.nil <| T.seq <| T.region <| SL.mv rfl <| SL.mv rfl <| SL.v (op_fieldAddr fa119_0 rfl) <| SL.v (op_load ty65 rfl (by repeat constructor) rfl) ?_
    refine SL.w (op_callF en49 (vs := [_]) rfl (empty_spec hx)) ?_
    rintro _ _ X5 ⟨rfl, hX5, rfl⟩
    by_cases e1 : (allR c ms)[k].1 = 0
    · rw [decide_eq_true e1]
      rw [if_neg (by simp [e1])] at hsu
      refine SL.v (op_not rfl) <| SL.v (op_pickT rfl rfl) <| SL.mv rfl <| SL.skip rfl rfl ?_
      refine SL.skip rfl rfl ?_
      refine SL.skip rfl rfl ?_
      refine SL.skip rfl rfl ?_
      refine SL.v (op_pickF rfl rfl) <| SL.nil <| T.condF rfl <| T.skip <| T.blk <| T.region <| SL.v (op_addN (q := 1) rfl rfl (by omega)) ?_
      refine SL.mv rfl <| SL.nil <| T.drop B10 (by repeat constructor) ?_
      exact T.backW ((allR c ms).length - (k + 1)) (by omega) ⟨k + 1, s, cs, rfl, by omega, (hX3.trans' hX4).trans' hX5, by rw [hsu]; exact hG, by rw [hsu]; exact (hC.mono hX4).mono hX5, rfl⟩ (by repeat (first | exact Sub.nil | refine Sub.cons rfl ?_))
    · rw [decide_eq_false e1]
      refine SL.v (op_not rfl) <| SL.v (op_pickT rfl rfl) <| SL.mv rfl <| SL.v (op_fieldAddr fa119_1 rfl) <| SL.v (op_load ty65 rfl (by repeat constructor) rfl) ?_
      refine SL.w (op_callF en49 (vs := [_]) rfl (empty_spec (hy.mono hX5))) ?_
      rintro _ _ X6 ⟨rfl, hX6, rfl⟩
      have hX36 := ((hX3.trans' hX4).trans' hX5).trans' hX6
      by_cases e2 : (allR c ms)[k].2 = 0
      · rw [decide_eq_true e2]
        rw [if_neg (by simp [e2])] at hsu
        refine SL.v (op_not rfl) <| SL.v (op_pickT rfl rfl) <| SL.nil <| T.condF rfl <| T.skip <| T.blk <| T.region <| SL.v (op_addN (q := 1) rfl rfl (by omega)) ?_
        refine SL.mv rfl <| SL.nil <| T.drop B10 (by repeat constructor) ?_
        exact T.backW ((allR c ms).length - (k + 1)) (by omega) ⟨k + 1, s, cs, rfl, by omega, hX36, by rw [hsu]; exact hG, by rw [hsu]; exact ((hC.mono hX4).mono hX5).mono hX6, rfl⟩ (by repeat (first | exact Sub.nil | refine Sub.cons rfl ?_))
      · rw [decide_eq_false e2]
        rw [if_pos (by simp [e1, e2])] at hsu
        refine SL.v (op_not rfl) <| SL.v (op_pickT rfl rfl) <| SL.nil <| T.condT rfl <| T.region <| SL.mv rfl <| SL.v (op_load ty119 rfl (by repeat constructor) rfl) ?_
        refine SL.w (op_buildSlice Tryz.underlying72 bs119 (qs := [(0, _)]) rfl rfl rfl rfl rfl) ?_
        rintro _ _ _ ⟨B47, rfl, rfl, rfl⟩
        refine SL.w (op_appendG (own0 := [_]) sl72 rfl hG rfl rfl rfl (by omega) (by omega)) ?_
        rintro s' _ _ ⟨G', rfl, rfl, hG'⟩
        refine SL.as rfl <| SL.nil <| T.blk <| T.region <| SL.v (op_addN (q := 1) rfl rfl (by omega)) ?_
        refine SL.mv rfl <| SL.nil <| T.drop B10 AtO.here ?_
        exact T.backW ((allR c ms).length - (k + 1)) (by omega) ⟨k + 1, s', _, rfl, by omega, hX36, by rw [hsu, List.length_append, List.length_singleton]; exact hG', by rw [hsu]; have := (((hC.mono hX4).mono hX5).mono hX6).snoc (p := (allR c ms)[k]) ((hx.mono hX5).mono hX6) ((hy.mono hX5).mono hX6); simpa [csets, vcells] using this, rfl⟩ (by repeat (first | exact Sub.nil | refine Sub.cons rfl ?_))
  · obtain rfl : k = (allR c ms).length := by omega
    refine T.seq <| T.region <| SL.v (op_lssF rfl rfl (by omega)) ?_
    refine SL.nil <| T.seq <| T.condF rfl ?_
    refine T.exit (T.exitCode (T.exitCut (T.exitBlk ?_)))
    refine T.seq <| T.region <| SL.mv rfl <| SL.as rfl <| SL.v (op_assign (v := .int .i64 ((0 : Nat) : Int)) rfl) <| SL.nil <| T.pubG (own0 := []) hG ?_
    intro X4 hX4 hS4
    refine T.ret2 rfl (ResIs.tmp rfl) (ResIs.tmp rfl) ?_
    have e : conK (allR c ms) (allR c ms).length = conF c ms := by rw [conK, List.take_length]; rfl
    rw [e] at hS4 hC
    exact ⟨_, rfl, cs, hS4, hC.mono hX4⟩
def transK (c : Nat) (us : List Nat) (k : Nat) : List Nat := (List.range k).map fun (j : Nat) => colM c us (j : Int)
theorem transK_succ (c : Nat) (us : List Nat) (k : Nat) : transK c us (k + 1) = transK c us k ++ [colM c us (k : Int)] := by simp [transK, List.range_succ]
theorem trans_spec {X : PMap} {v : Value} {c : Nat} {us : List Nat} (h : MatR X v c us) : Spec Tryz.prog 57 [v] X fun u X' => MatR X' u us.length (transM c us) := by
  obtain ⟨hr, hc⟩ := h.lens
  have hmx : maxLen = 9223372036854775807 := rfl
  have hh := h
  obtain ⟨bm, A, cap, cs0, rfl, hB, hS, hA, _, _⟩ := h
  refine Spec.enter Tryz.func57 rfl Tryz.ntmps57 rfl ?_
  intro w0 hw0
  refine T.seq <| T.region <| SL.as rfl <| SL.nil <| T.seq <| T.seq <| T.region <| SL.mv rfl <| SL.v (op_eqlNil Tryz.underlying26 rfl rfl) <| SL.nil <| T.condF rfl <| T.skip <| T.seq <| T.region <| SL.mv rfl ?_
  refine SL.v (op_nil rfl) <| SL.v (op_fieldAddr fa98_1 rfl) <| SL.v (op_loadX ty62 rfl (by assumption) rfl) ?_
  refine SL.v (op_lenS Tryz.underlying62 rfl) <| SL.v (op_build st98 (qs := [(0, _)]) rfl rfl) <| SL.w (op_box rfl) ?_
  rintro _ _ _ ⟨B13, rfl, rfl, rfl⟩
  refine SL.as rfl <| SL.nil <| T.seq <| T.seq <| T.region <| SL.mv rfl <| SL.v (op_nil rfl) <| SL.v (op_fieldAddr fa98_0 rfl) <| SL.v (op_loadX ty3 rfl (by assumption) rfl) ?_
  refine SL.v (op_move (v := .int .i64 ((0 : Nat) : Int)) rfl) <| SL.nil <| T.block <| T.loopW (fun m env own X' => ∃ (k : Nat) (s : Value) (cs : List Value) (G : Own), m = c - k ∧ k ≤ c ∧ X.le X' ∧ GrowS 65 1 s k cs G ∧ SetsR X' cs (transK c us k) ∧ env = [(0, .pointer (some ⟨bm, 0, none⟩)), (3, .pointer (some ⟨B13, 0, none⟩)), (17, .int .i64 (c : Int)), (18, .int .i64 (k : Int))] ∧ own = [⟨B13, [.int .i64 (us.length : Int), s], 98, 2⟩] ++ G) c ⟨0, _, [], [], by simp, by omega, PMap.le_refl _, GrowS.nil, ⟨rfl, fun i m h => by simp [transK] at h⟩, rfl, rfl⟩ (by repeat (first | exact Sub.nil | refine Sub.cons rfl ?_)) ?_
  rintro m _ _ X1 ⟨k, s, cs, G, rfl, hk, hX1, hG, hC, rfl, rfl⟩
  rcases Nat.lt_or_ge k c with hkl | hkl
  · obtain ⟨As, cps, rfl⟩ := hG.form
    refine T.seq <| T.region <| SL.v (op_lssT rfl rfl (by omega)) ?_
    refine SL.nil <| T.seq <| T.condT rfl <| T.skip <| T.seq <| T.block <| T.seq <| T.region <| SL.mv rfl <| SL.as rfl <| SL.nil <| T.drawG (own0 := [_]) (by kernel_rfl) 10 [.t 0, .t 1, .t 2, .t 3, .t 4, .t 5, .t 6, .r 7, .r 8, .r 9] (by kernel_rfl) ?_
    refine SD.take rfl panicBody (op_move rfl) rfl rfl ?_
    refine SD.take rfl panicBody (op_move rfl) rfl rfl ?_
    refine SD.take rfl panicBody (op_nil rfl) rfl rfl ?_
    refine SD.take rfl panicBody (op_fieldAddr fa98_1 rfl) rfl rfl ?_
    refine SD.take rfl panicBody (op_load ty62 rfl (by repeat constructor) rfl) rfl rfl ?_
    refine SD.take rfl panicBody (op_move rfl) rfl rfl ?_
    refine SD.take rfl panicBody (op_move rfl) rfl rfl ?_
    refine SD.run rfl (op_callF en59 (vs := [_, _]) rfl (column_spec (hh.mono hX1) (k : Int))) rfl rfl ?_
    rintro _ _ X2 ⟨rfl, hX2, hS2⟩
    obtain ⟨A2, l2, c2, rfl⟩ := hS2.form
    refine SD.run rfl (op_buildSlice Tryz.underlying62 bs65 (qs := [(0, _)]) rfl rfl rfl rfl rfl) rfl rfl ?_
    rintro _ _ _ ⟨B29, rfl, rfl, rfl⟩
    refine SD.runK rfl (op_appendG (own0 := [_]) sl62 rfl hG rfl rfl rfl (by omega) (by omega)) (by rintro _ _ _ ⟨G', rfl, rfl, _⟩; exact ⟨fun p hp => List.mem_append_left _ hp, PMap.le_trans hX2 (PMap.le_refl _)⟩) rfl rfl ?_
    rintro s' _ _ ⟨G', rfl, rfl, hG'⟩
    refine SD.nil ?_
    show SL _ _ _ _ _ _ _ [_, _, _] _ _ _
    obtain ⟨As', cps', rfl⟩ := hG'.form
    refine SL.v (op_nil rfl) <| SL.v (op_fieldAddr fa98_1 rfl) <| SL.w (op_store ty62 rfl rfl (by repeat constructor) rfl rfl rfl) ?_
    rintro _ _ _ ⟨rfl, rfl⟩
    refine SL.nil <| T.blk <| T.region <| SL.v (op_addN (q := 1) rfl rfl (by omega)) ?_
    refine SL.mv rfl <| SL.nil ?_
    exact T.backW (c - (k + 1)) (by omega) ⟨k + 1, _, _, G', rfl, by omega, hX1.trans' hX2, hG', by rw [transK_succ]; exact (hC.mono hX2).snoc hS2, rfl, rfl⟩ (by repeat (first | exact Sub.nil | refine Sub.cons rfl ?_))
  · obtain rfl : k = c := by omega
    refine T.seq <| T.region <| SL.v (op_lssF rfl rfl (by omega)) ?_
    refine SL.nil <| T.seq <| T.condF rfl ?_
    refine T.exit (T.exitCode (T.exitCut (T.exitBlk ?_)))
    refine T.seq <| T.region <| SL.mv rfl <| SL.as rfl <| SL.nil <| T.pubG (own0 := [_]) hG ?_
    intro X3 hX3 hS3
    refine T.pub B13 (by repeat constructor) ?_
    intro X4 hX4 hB4 _
    refine T.ret1 rfl (ResIs.tmp rfl) ?_
    obtain ⟨A3, cap3, rfl⟩ := hG.form
    refine ⟨B13, A3, cap3, cs, rfl, ?_, (hC.mono hX3).mono hX4, fun h0 => ?_, by rw [transM, List.length_map, List.length_range]; exact hc, hr⟩
    · rw [transM, List.length_map, List.length_range]; exact hB4
    · rw [transM, List.length_map, List.length_range] at h0
      obtain ⟨b, rfl, hb⟩ := hS3.blk h0
      exact ⟨b, rfl, hb.mono hX4⟩
theorem build_spec {X : PMap} {sl : Value} {ch : List (Nat × Nat)} (r c : Nat) (h : ConL X sl ch) (hl : ch.length < 64) (hr : r < 64) (hc : c < 64) (h1 : ∀ p ∈ ch, p.1 < 2 ^ r ∧ p.2 < 2 ^ c) : Spec Tryz.prog 28 [.int .i64 (r : Int), .int .i64 (c : Int), sl] X fun u X' => ∃ wu wp, u = .tuple #[.agg #[wu, wp], .int .i64 0] ∧ MatR X' wu ch.length (transM r (ch.map (·.1))) ∧ MatR X' wp c (ch.map (·.2)) := by
  obtain ⟨A, cp, rfl⟩ := h.form
  have hmx : maxLen = 9223372036854775807 := rfl
  refine Spec.enter Tryz.func28 rfl Tryz.ntmps28 rfl ?_
  intro w0 hw0
  refine T.seq <| T.region <| SL.w (op_alloc z33) ?_
  rintro _ _ _ ⟨B6, rfl, rfl, rfl⟩
  refine SL.v (op_assign (v := .int .i64 ((0 : Nat) : Int)) rfl) <| SL.nil <| T.seq <| T.region <| SL.as rfl <| SL.as rfl <| SL.nil <| T.seq <| T.seq <| T.region <| SL.mv rfl <| SL.v (op_lenS Tryz.underlying72 rfl) <| SL.v (op_move (v := .int .i64 ((0 : Nat) : Int)) rfl) <| SL.nil <| T.block ?_
  refine T.loopW (fun m env own X' => ∃ (k : Nat) (s1 s2 : Value) (cs1 cs2 : List Value) (G1 G2 : Own), m = ch.length - k ∧ k ≤ ch.length ∧ X.le X' ∧ GrowS 65 1 s1 k cs1 G1 ∧ SetsR X' cs1 ((ch.map (·.1)).take k) ∧ GrowS 65 1 s2 k cs2 G2 ∧ SetsR X' cs2 ((ch.map (·.2)).take k) ∧ env = [(0, .int .i64 (r : Int)), (1, .int .i64 (c : Int)), (6, .pointer (some ⟨B6, 0, none⟩)), (8, s1), (9, s2), (15, .slice A ch.length cp), (16, .int .i64 (ch.length : Int)), (17, .int .i64 (k : Int))] ∧ own = (⟨B6, [.pointer none, .pointer none], 33, 2⟩ :: G2) ++ G1) ch.length ⟨0, _, _, [], [], [], [], by simp, by omega, PMap.le_refl _, GrowS.nil, ⟨rfl, fun i m h => by simp at h⟩, GrowS.nil, ⟨rfl, fun i m h => by simp at h⟩, rfl, rfl⟩ (by repeat (first | exact Sub.nil | refine Sub.cons rfl ?_)) ?_
  rintro m _ _ X1 ⟨k, s1, s2, cs1, cs2, G1, G2, rfl, hk, hX1, hG1, hC1, hG2, hC2, rfl, rfl⟩
  rcases Nat.lt_or_ge k ch.length with hkl | hkl
  · obtain ⟨b, cs, x, y, rfl, hB, hcx, hcy, hx, hy⟩ := h.at hkl
    obtain ⟨Ax, lx, cx, hxe⟩ := hx.form
    obtain ⟨Ay, ly, cy, hye⟩ := hy.form
    obtain rfl : x = .slice Ax lx cx := by simpa using hxe
    obtain rfl : y = .slice Ay ly cy := by simpa using hye
    have hB1 := hB.mono hX1
    have ht1 : (ch.map (·.1)).take (k + 1) = (ch.map (·.1)).take k ++ [ch[k].1] := by rw [List.take_succ_eq_append_getElem (by simpa using hkl)]; simp
    have ht2 : (ch.map (·.2)).take (k + 1) = (ch.map (·.2)).take k ++ [ch[k].2] := by rw [List.take_succ_eq_append_getElem (by simpa using hkl)]; simp
    refine T.seq <| T.region <| SL.v (op_lssT rfl rfl (by omega)) ?_
    refine SL.nil <| T.seq <| T.condT rfl <| T.skip <| T.seq <| T.block <| T.seq <| T.region <| SL.v (op_indexN Tryz.underlying72 ty119 rfl rfl (by omega)) ?_
    refine SL.v (op_loadX ty119 rfl hB1 (creadR2 hcx hcy (by omega))) ?_
    refine SL.w (op_alloc z119) ?_
    rintro _ _ _ ⟨B11, rfl, rfl, rfl⟩
    refine SL.w (op_store ty119 rfl rfl (by repeat constructor) rfl rfl rfl) ?_
    rintro _ _ _ ⟨rfl, rfl⟩
    refine SL.nil <| T.seq <| T.region <| SL.mv rfl <| SL.v (op_fieldAddr fa119_0 rfl) <| SL.v (op_load ty65 rfl (by repeat constructor) rfl) ?_
    refine SL.w (op_buildSlice Tryz.underlying62 bs65 (qs := [(0, _)]) rfl rfl rfl rfl rfl) ?_
    rintro _ _ _ ⟨B24, rfl, rfl, rfl⟩
    refine SL.w (op_appendG (own0 := _ :: _ :: G2) sl62 rfl hG1 rfl rfl rfl (by omega) (by omega)) ?_
    rintro s1' _ _ ⟨G1', rfl, rfl, hG1'⟩
    refine SL.as rfl <| SL.nil <| T.region <| SL.mv rfl <| SL.v (op_fieldAddr fa119_1 rfl) <| SL.v (op_load ty65 rfl (by repeat constructor) rfl) ?_
    refine SL.w (op_buildSlice Tryz.underlying62 bs65 (qs := [(0, _)]) rfl rfl rfl rfl rfl) ?_
    rintro _ _ _ ⟨B29, rfl, rfl, rfl⟩
    refine SL.perm (List.Perm.cons _ (List.Perm.cons _ (List.Perm.cons _ List.perm_append_comm))) ?_
    refine SL.w (op_appendG (own0 := _ :: _ :: G1') sl62 rfl hG2 rfl rfl rfl (by omega) (by omega)) ?_
    rintro s2' _ _ ⟨G2', rfl, rfl, hG2'⟩
    refine SL.as rfl <| SL.nil <| T.blk <| T.region <| SL.v (op_addN (q := 1) rfl rfl (by omega)) ?_
    refine SL.mv rfl <| SL.nil <| T.drop B11 AtO.here ?_
    refine T.perm (own' := (⟨B6, [.pointer none, .pointer none], 33, 2⟩ :: G2') ++ G1') (List.Perm.cons _ List.perm_append_comm) ?_
    exact T.backW (ch.length - (k + 1)) (by omega) ⟨k + 1, _, _, _, _, G1', G2', rfl, by omega, hX1, hG1', by rw [ht1]; exact hC1.snoc (hx.mono hX1), hG2', by rw [ht2]; exact hC2.snoc (hy.mono hX1), rfl, rfl⟩ (by repeat (first | exact Sub.nil | refine Sub.cons rfl ?_))
  · obtain rfl : k = ch.length := by omega
    rw [List.take_of_length_le (by simp)] at hC1 hC2
    refine T.seq <| T.region <| SL.v (op_lssF rfl rfl (by omega)) ?_
    refine SL.nil <| T.seq <| T.condF rfl ?_
    refine T.exit (T.exitCode (T.exitCut (T.exitBlk ?_)))
    refine T.seq <| T.region <| SL.mv rfl <| SL.mv rfl <| T.pubGAt (own0 := _ :: G2) hG1 ?_
    intro X2 hX2 hS1
    refine T.pubGAt (own0 := [_]) hG2 ?_
    intro X3 hX3 hS2
    have hS1' : SliceR X3 s1 (ch.map (·.1)).length cs1 := by rw [List.length_map]; exact hS1.mono hX3
    have hS2' : SliceR X3 s2 (ch.map (·.2)).length cs2 := by rw [List.length_map]; exact hS2
    refine SL.w (op_callF en19 (vs := [_, _]) rfl (mof_spec r hS1' ((hC1.mono hX2).mono hX3) (by simpa using hl) hr (fun m hm => by obtain ⟨p, hp, rfl⟩ := List.mem_map.1 hm; exact within_of_lt (h1 p hp).1 hr))) ?_
    rintro _ _ X4 ⟨rfl, hX4, wu, rfl, hMu⟩
    refine SL.mv rfl <| SL.v (op_extract rfl rfl) <| SL.v (op_extract rfl rfl) <| SL.as rfl <| SL.as rfl <| SL.nil <| T.seq <| T.seq <| T.region <| SL.mv rfl <| SL.v (op_neqF rfl rfl (by omega)) ?_
    refine SL.nil <| T.condF rfl <| T.skip <| T.seq <| T.region <| SL.mv rfl <| SL.mv rfl <| SL.w (op_callF en19 (vs := [_, _]) rfl (mof_spec c (hS2'.mono hX4) (((hC2.mono hX2).mono hX3).mono hX4) (by simpa using hl) hc (fun m hm => by obtain ⟨p, hp, rfl⟩ := List.mem_map.1 hm; exact within_of_lt (h1 p hp).2 hc))) ?_
    rintro _ _ X5 ⟨rfl, hX5, wp, rfl, hMp⟩
    refine SL.mv rfl <| SL.v (op_extract rfl rfl) <| SL.v (op_extract rfl rfl) <| SL.as rfl <| SL.as rfl <| SL.nil <| T.seq <| T.seq <| T.region <| SL.mv rfl <| SL.v (op_neqF rfl rfl (by omega)) ?_
    refine SL.nil <| T.condF rfl <| T.skip <| T.seq <| T.region <| SL.mv rfl <| SL.w (op_callF en57 (vs := [_]) rfl (trans_spec (hMu.mono hX5))) ?_
    rintro wt _ X6 ⟨rfl, hX6, hMt⟩
    obtain ⟨bt, rfl⟩ := hMt.ptr
    have hMp6 := hMp.mono hX6
    obtain ⟨bp, rfl⟩ := hMp6.ptr
    refine SL.mv rfl <| SL.v (op_build st33 (qs := [(0, _), (1, _)]) rfl rfl) <| SL.w (op_store ty33 rfl rfl (by repeat constructor) rfl rfl rfl) ?_
    rintro _ _ _ ⟨rfl, rfl⟩
    refine SL.v (op_assign (v := .int .i64 ((0 : Nat) : Int)) rfl) <| SL.nil <| T.ret2 rfl (ResIs.cell rfl ty33 (by repeat constructor) rfl) (ResIs.tmp rfl) ?_
    exact ⟨_, _, rfl, by rw [List.length_map] at hMt; exact hMt, hMp6⟩
end Go.Proofs.YtmfiencoefbjfaaGreatDoor
namespace Go.Proofs.YtmfiencoefbjfaaGreatDoor
open Go.RowKit
def resEl (tmps : Array Value) : ResultVar → Sem Value
  | .tmp t => pure (tmps.getD t undef)
  | .cell a t => do loadVar t (← asAddr (tmps.getD a undef))
section
variable {P : Program} {n : NM} {w0 : Base} {X0 X : PMap} {own : Own} {env : Env} {fn : Func}
theorem run_resEl {r : ResultVar} {v : Value} (h : ResIs P env own r v) {a : Act} {W : World} (ha : EOk n env a) (hs : Stab own X W) : (resEl a.tmps r).run P W = .ok v W := by
  cases h with
  | tmp h =>
    have h0 := ha.get _ _ h
    rw [resEl, h0]
    rfl
  | cell hp ht ho hv =>
    obtain ⟨h1, h2⟩ := run_cell ha hs hp ht ho hv
    rw [resEl, h1]
    simp [asAddr, h2]
theorem results_eq (fn : Func) (tmps : Array Value) : results fn tmps = (do
    let vs ← fn.results.mapM (resEl tmps)
    pure (if h : vs.size = 1 then vs[0] else .tuple vs)) := by
  unfold results
  congr 1
theorem run_resAny3 {r r' r'' : ResultVar} {v v' v'' : Value} (hr : fn.results = #[r, r', r'']) (h : ResIs P env own r v) (h' : ResIs P env own r' v') (h'' : ResIs P env own r'' v'') {a : Act} {W : World} (ha : EOk n env a) (hs : Stab own X W) : (results fn a.tmps).run P W = .ok (.tuple #[v, v', v'']) W := by
  rw [results_eq, hr]
  simp [Sem.run_bind, run_resEl h ha hs, run_resEl h' ha hs, run_resEl h'' ha hs, Result.andThen]
theorem run_resAny4 {r r' r'' r3 : ResultVar} {v v' v'' v3 : Value} (hr : fn.results = #[r, r', r'', r3]) (h : ResIs P env own r v) (h' : ResIs P env own r' v') (h'' : ResIs P env own r'' v'') (h3 : ResIs P env own r3 v3) {a : Act} {W : World} (ha : EOk n env a) (hs : Stab own X W) : (results fn a.tmps).run P W = .ok (.tuple #[v, v', v'', v3]) W := by
  rw [results_eq, hr]
  simp [Sem.run_bind, run_resEl h ha hs, run_resEl h' ha hs, run_resEl h'' ha hs, run_resEl h3 ha hs, Result.andThen]
variable {Φ : Value → PMap → Prop}
theorem T.retA3 {ro : Option Nat} {k : List It} {r r' r'' : ResultVar} {v v' v'' : Value} (hr : fn.results = #[r, r', r'']) (h : ResIs P env own r v) (h' : ResIs P env own r' v') (h'' : ResIs P env own r'' v'') (hΦ : Φ (.tuple #[v, v', v'']) X) (hM : Marks n w0 := by first | exact ⟨[], rfl, rfl, .nil⟩ | exact ⟨[_], rfl, rfl, by simp⟩) : T ro P n w0 X0 (bodyQ P fn (Fin w0.w X0 Φ)) (.code .ret :: k) none env own X := T.ret (fun _ _ ha hs => run_resAny3 hr h h' h'' ha hs) hΦ hM
theorem T.retA4 {ro : Option Nat} {k : List It} {r r' r'' r3 : ResultVar} {v v' v'' v3 : Value} (hr : fn.results = #[r, r', r'', r3]) (h : ResIs P env own r v) (h' : ResIs P env own r' v') (h'' : ResIs P env own r'' v'') (h3 : ResIs P env own r3 v3) (hΦ : Φ (.tuple #[v, v', v'', v3]) X) (hM : Marks n w0 := by first | exact ⟨[], rfl, rfl, .nil⟩ | exact ⟨[_], rfl, rfl, by simp⟩) : T ro P n w0 X0 (bodyQ P fn (Fin w0.w X0 Φ)) (.code .ret :: k) none env own X := T.ret (fun _ _ ha hs => run_resAny4 hr h h' h'' h3 ha hs) hΦ hM
end
end Go.Proofs.YtmfiencoefbjfaaGreatDoor
