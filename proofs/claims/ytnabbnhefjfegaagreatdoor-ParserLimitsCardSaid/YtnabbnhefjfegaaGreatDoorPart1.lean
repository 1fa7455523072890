/- What the law's proof rests on: the engine, a small separation logic over the kit's walk, and contracts of the functions that the law reaches. Part 1. -/
import Derived.WalkKit
import Derived.OrdersHeld
import Derived.Deep.MidRow
import Derived.KernelRfl
import Derived.StillTail
import Derived.OrdersIn
import Derived.TacticsIn
import Derived.LoopNIn
import Derived.RangeFuncLeaves
import Derived.RangeFuncFrom
import Derived.Maps.AppendAt
import Derived.Lib.Builder
import Derived.Lib.UnsafeStr
import Derived.Laws.Externs
import Derived.Lib.Overlaps
import Derived.Lib.AppendZerosOnto
import Derived.Test.YtnabbnhefjfegaaGreatDoorProg
import Derived.Test.YtnabbnhefjfegaaGreatDoorCards
import Derived.Test.YtnabbnhefjfegaaGreatDoorTie
import Derived.ProofKit
import Derived.OpenShut
import Derived.Deep.DeepHandedRow
import Derived.Deep.Slices
import Derived.Lib.LaidTab
import Derived.Lib.SmallJoins
import Derived.Stop.LaidErr
import Derived.WideKeyArgs
import Derived.Laws.Strings
namespace Go.Proofs.YtnabbnhefjfegaaGreatDoor
open Go.RowKit
abbrev PMap := Nat → Option Obj
def PMap.le (X Y : PMap) : Prop := ∀ k o, X k = some o → Y k = some o
theorem PMap.le_refl (X : PMap) : X.le X := fun _ _ h => h
theorem PMap.le.trans' {X Y Z : PMap} (h : X.le Y) (h' : Y.le Z) : X.le Z := fun k o hk => h' k o (h k o hk)
theorem PMap.le_trans {X Y Z : PMap} (h : X.le Y) (h' : Y.le Z) : X.le Z := fun k o hk => h' k o (h k o hk)
def PIn (X : PMap) (W : World) : Prop := ∀ k o, X k = some o → W.heap[k]? = some o
theorem PIn.lt {X : PMap} {W : World} (h : PIn X W) {k : Nat} {o : Obj} (hk : X k = some o) : k < W.heap.size := by
  have := h k o hk
  rcases Nat.lt_or_ge k W.heap.size with h1 | h1
  · exact h1
  · rw [Array.getElem?_eq_none h1] at this; cases this
theorem PIn.fresh {X : PMap} {W : World} (h : PIn X W) : X W.heap.size = none := by
  cases hx : X W.heap.size with
  | none => rfl
  | some o => exact absurd (h.lt hx) (Nat.lt_irrefl _)

/-- A block of the call's own: its first cells are known. -/
structure Ow where
  b : Nat
  cs : List Value
  ty : TypeId
  sz : Nat
abbrev Own := List Ow
def Ow.In (p : Ow) (W : World) : Prop := ∃ rest : List Value, W.heap[p.b]? = some (.cells (p.cs ++ rest).toArray p.ty (0, 0)) ∧ p.cs.length + rest.length = p.sz
theorem Ow.In.lt {p : Ow} {W : World} (h : p.In W) : p.b < W.heap.size := by
  obtain ⟨r, h, _⟩ := h
  rcases Nat.lt_or_ge p.b W.heap.size with h1 | h1
  · exact h1
  · rw [Array.getElem?_eq_none h1] at h; cases h
theorem Ow.In.cell {p : Ow} {W : World} (h : p.In W) {i : Nat} {v : Value} (hi : p.cs[i]? = some v) : W.cell? ⟨p.b, i, none⟩ = some v := by
  obtain ⟨r, h, _⟩ := h
  simp only [World.cell?, h]
  have hl : i < p.cs.length := by
    rcases Nat.lt_or_ge i p.cs.length with h1 | h1
    · exact h1
    · rw [List.getElem?_eq_none h1] at hi; cases hi
  simp [List.getElem?_append_left hl, hi]
theorem Ow.In.frozen {p : Ow} {W : World} (h : p.In W) (i : Nat) : W.frozen? ⟨p.b, i, none⟩ = false := by
  obtain ⟨r, h, _⟩ := h
  simp [World.frozen?, h]

/-- What a world keeps of another: no block that was there has changed. -/
structure Grow (W W' : World) : Prop where
  size : W.heap.size ≤ W'.heap.size
  same : ∀ k, k < W.heap.size → W'.heap[k]? = W.heap[k]?
theorem Grow.refl (W : World) : Grow W W := ⟨Nat.le_refl _, fun _ _ => rfl⟩
theorem Grow.trans {A B C : World} (h : Grow A B) (h' : Grow B C) : Grow A C := ⟨Nat.le_trans h.size h'.size, fun k hk => (h'.same k (Nat.lt_of_lt_of_le hk h.size)).trans (h.same k hk)⟩
theorem Grow.of_below {W W' : World} (h : Below W.heap.size W W') : Grow W W' := ⟨h.size, h.block⟩
theorem Grow.alloc (W : World) (o : Obj) : Grow W (W.alloc o) := ⟨by simp, fun k hk => Below.heap_alloc W o k hk⟩

theorem Grow.pin {X : PMap} {W W' : World} (h : Grow W W') (hp : PIn X W) : PIn X W' := fun k o hk => (h.same k (hp.lt hk)).trans (hp k o hk)
theorem Grow.ow {p : Ow} {W W' : World} (h : Grow W W') (hp : p.In W) : p.In W' := by
  have hl := hp.lt
  obtain ⟨r, hr, hz⟩ := hp
  exact ⟨r, (h.same _ hl).trans hr, hz⟩

/-- What an operation that only reads may lean on. -/
structure Stab (own : Own) (X : PMap) (W : World) : Prop where
  own : ∀ p ∈ own, p.In W
  pers : PIn X W
theorem Stab.grow {own : Own} {X : PMap} {W W' : World} (h : Stab own X W) (hg : Grow W W') : Stab own X W' := ⟨fun p hp => hg.ow (h.own p hp), hg.pin h.pers⟩

/-- The symbolic state of memory; w0: the world in which the call began. -/
structure SatC (w0 : World) (X0 : PMap) (own : Own) (X : PMap) (W : World) : Prop where
  below : Below w0.heap.size w0 W
  old : ∀ k, k < w0.heap.size → X k = X0 k
  stab : Stab own X W
  new : ∀ p ∈ own, w0.heap.size ≤ p.b
  apart : ∀ p ∈ own, X p.b = none
  nodup : own.Pairwise fun p q => p.b ≠ q.b

theorem SatC.start (w : World) {X : PMap} (h : PIn X w) : SatC w X [] X w := ⟨Below.refl _ _, (fun _ _ => rfl), ⟨(fun _ h => by cases h), h⟩, (fun _ h => by cases h), (fun _ h => by cases h), .nil⟩
theorem below_draw {B : Nat} {a w : World} (h : Below B a w) (n : Nat) : Below B a { w with drawn := n } := ⟨h.os, h.tape, h.output, h.size, h.block⟩
theorem SatC.draw {w0 : World} {X0 : PMap} {own : Own} {X : PMap} {W : World} (h : SatC w0 X0 own X W) (n : Nat) : SatC w0 X0 own X { W with drawn := n } :=
  ⟨below_draw h.below n, h.old, ⟨fun p hp => h.stab.own p hp, h.stab.pers⟩, h.new, h.apart, h.nodup⟩
/-- A new block of cells. -/
theorem SatC.alloc {w0 : World} {X0 : PMap} {own : Own} {X : PMap} {W : World} (h : SatC w0 X0 own X W) (cs : List Value) (ty : TypeId) :
    SatC w0 X0 (⟨W.heap.size, cs, ty, cs.length⟩ :: own) X (W.alloc (.cells cs.toArray ty)) where
  below := h.below.alloc h.below.size _
  old := h.old
  stab := by
    have hs := h.stab.grow (Grow.alloc W (.cells cs.toArray ty))
    refine ⟨fun p hp => ?_, hs.pers⟩
    rcases List.mem_cons.1 hp with rfl | hp
    · exact ⟨[], by rw [List.append_nil]; exact heap_alloc_new W _, rfl⟩
    · exact hs.own p hp
  new := fun p hp => by
    rcases List.mem_cons.1 hp with rfl | hp
    · exact h.below.size
    · exact h.new p hp
  apart := fun p hp => by
    rcases List.mem_cons.1 hp with rfl | hp
    · exact h.stab.pers.fresh
    · exact h.apart p hp
  nodup := .cons (fun q hq => Ne.symm (Nat.ne_of_lt (h.stab.own q hq).lt)) h.nodup
/-- Behind a call that changes nothing that was there. -/
theorem SatC.call {w0 : World} {X0 : PMap} {own : Own} {X X' : PMap} {W W' : World} (h : SatC w0 X0 own X W) (hb : Below W.heap.size W W') (hX : PIn X' W') (hn : ∀ k, k < W.heap.size → X' k = X k) : SatC w0 X0 own X' W' where
  below := h.below.trans (hb.mono h.below.size)
  old := fun k hk => (hn k (Nat.lt_of_lt_of_le hk h.below.size)).trans (h.old k hk)
  stab := ⟨fun p hp => (Grow.of_below hb).ow (h.stab.own p hp), hX⟩
  new := h.new
  apart := fun p hp => (hn _ (h.stab.own p hp).lt).trans (h.apart p hp)
  nodup := h.nodup
/-- One cell of an own block is written. -/
theorem Ow.In.set {p : Ow} {W : World} (h : p.In W) {i : Nat} (hi : i < p.cs.length) (v : Value) : Ow.In ⟨p.b, p.cs.set i v, p.ty, p.sz⟩ (W.setCell ⟨p.b, i, none⟩ v) := by
  obtain ⟨r, h, hz⟩ := h
  refine ⟨r, ?_, by simpa using hz⟩
  simp [World.setCell, Array.getElem?_modify, h, hi]
theorem Ow.In.far {p : Ow} {W : World} (h : p.In W) {a : Addr} (ha : p.b ≠ a.block) (v : Value) : p.In (W.setCell a v) := by
  obtain ⟨r, h, hz⟩ := h
  exact ⟨r, (Below.heap_setCell W a v p.b ha).trans h, hz⟩
/-- Own block number j replaced. -/
theorem SatC.put {w0 : World} {X0 : PMap} {own : Own} {X : PMap} {W : World} (h : SatC w0 X0 own X W) {j : Nat} {b : Nat} {cs : List Value} {ty : TypeId} {sz : Nat} (hj : own[j]? = some ⟨b, cs, ty, sz⟩) {i : Nat} (hi : i < cs.length) (v : Value) :
    SatC w0 X0 (own.set j ⟨b, cs.set i v, ty, sz⟩) X (W.setCell ⟨b, i, none⟩ v) := by
  have hm : (⟨b, cs, ty, sz⟩ : Ow) ∈ own := List.mem_of_getElem? hj
  have hjl : j < own.length := by
    rcases Nat.lt_or_ge j own.length with h1 | h1
    · exact h1
    · rw [List.getElem?_eq_none h1] at hj; cases hj
  have hjv : own[j] = ⟨b, cs, ty, sz⟩ := by rw [List.getElem?_eq_getElem hjl] at hj; exact Option.some.inj hj
  have hb0 := h.new _ hm
  have hother : ∀ k (hk : k < own.length), k ≠ j → own[k].b ≠ b := fun k hk hne => by
    have hp := List.pairwise_iff_getElem.1 h.nodup
    rcases Nat.lt_or_gt_of_ne hne with hlt | hgt
    · have := hp k j hk hjl hlt; rw [hjv] at this; exact this
    · have := hp j k hjl hk hgt; rw [hjv] at this; exact fun e => this e.symm
  have hget : ∀ q ∈ own.set j ⟨b, cs.set i v, ty, sz⟩, q = ⟨b, cs.set i v, ty, sz⟩ ∨ (q ∈ own ∧ q.b ≠ b) := fun q hq => by
    obtain ⟨k, hk, rfl⟩ := List.getElem_of_mem hq
    have hk' : k < own.length := by simpa using hk
    by_cases e : j = k
    · subst e; left; simp
    · right
      rw [List.getElem_set_ne e]
      exact ⟨List.getElem_mem hk', hother k hk' (Ne.symm e)⟩
  refine ⟨h.below.setCell (p := ⟨b, i, none⟩) hb0 v, h.old, ⟨fun q hq => ?_, fun k o hk => ?_⟩, fun q hq => ?_, fun q hq => ?_, ?_⟩
  · rcases hget q hq with rfl | ⟨hq, hne⟩
    · exact (h.stab.own _ hm).set hi v
    · exact (h.stab.own q hq).far hne v
  · have hkb : k ≠ b := fun e => by subst e; rw [h.apart _ hm] at hk; cases hk
    exact (Below.heap_setCell W ⟨b, i, none⟩ v k hkb).trans (h.stab.pers k o hk)
  · rcases hget q hq with rfl | ⟨hq, _⟩
    · exact hb0
    · exact h.new q hq
  · rcases hget q hq with rfl | ⟨hq, _⟩
    · exact h.apart ⟨b, cs, ty, sz⟩ hm
    · exact h.apart q hq
  · refine List.pairwise_iff_getElem.2 fun x y hx hy hxy => ?_
    have hx' : x < own.length := by simpa using hx
    have hy' : y < own.length := by simpa using hy
    have hp := List.pairwise_iff_getElem.1 h.nodup x y hx' hy' hxy
    by_cases ex : j = x
    · subst ex
      rw [List.getElem_set_self, List.getElem_set_ne (by omega)]
      exact fun e => hother y hy' (by omega) e.symm
    · by_cases ey : j = y
      · subst ey
        rw [List.getElem_set_self, List.getElem_set_ne (by omega)]
        exact hother x hx' (by omega)
      · rw [List.getElem_set_ne ex, List.getElem_set_ne ey]; exact hp

/-- Finding an own block by its number. -/
inductive AtO : Own → Nat → List Value → TypeId → Nat → Nat → Prop
  | here {l : Own} {b : Nat} {cs : List Value} {ty : TypeId} {sz : Nat} : AtO (⟨b, cs, ty, sz⟩ :: l) b cs ty sz 0
  | there {l : Own} {o : Ow} {b : Nat} {cs : List Value} {ty : TypeId} {sz : Nat} {j : Nat} : AtO l b cs ty sz j → AtO (o :: l) b cs ty sz (j + 1)
theorem AtO.get {l : Own} {b : Nat} {cs : List Value} {ty : TypeId} {sz : Nat} {j : Nat} (h : AtO l b cs ty sz j) : l[j]? = some ⟨b, cs, ty, sz⟩ := by
  induction h with
  | here => rfl
  | there _ ih => simpa using ih
theorem AtO.mem {l : Own} {b : Nat} {cs : List Value} {ty : TypeId} {sz : Nat} {j : Nat} (h : AtO l b cs ty sz j) : (⟨b, cs, ty, sz⟩ : Ow) ∈ l := List.mem_of_getElem? h.get

/-- Cells from i on replaced. -/
def csets : List Value → Nat → List Value → List Value
  | cs, _, [] => cs
  | cs, i, v :: vs => csets (cs.set i v) (i + 1) vs
theorem csets_length : ∀ (vs : List Value) (cs : List Value) (i : Nat), (csets cs i vs).length = cs.length
  | [], _, _ => rfl
  | v :: vs, cs, i => by rw [csets, csets_length vs]; simp
theorem SatC.puts {w0 : World} {X0 : PMap} {X : PMap} {j : Nat} {b : Nat} {ty : TypeId} {sz : Nat} : ∀ (vs : List Value) (own : Own) (cs : List Value) (i : Nat) (W : World), SatC w0 X0 own X W → own[j]? = some ⟨b, cs, ty, sz⟩ → i + vs.length ≤ cs.length →
    SatC w0 X0 (own.set j ⟨b, csets cs i vs, ty, sz⟩) X (W.setCells b i vs)
  | [], own, cs, i, W, h, hj, _ => by
    have : own.set j ⟨b, cs, ty, sz⟩ = own := by
      apply List.ext_getElem?
      intro k
      by_cases e : j = k
      · subst e
        have hjl : j < own.length := by
          rcases Nat.lt_or_ge j own.length with h1 | h1
          · exact h1
          · rw [List.getElem?_eq_none h1] at hj; cases hj
        rw [List.getElem?_set_self hjl, hj]
      · rw [List.getElem?_set_ne e]
    simpa [csets, World.setCells, this] using h
  | v :: vs, own, cs, i, W, h, hj, hl => by
    simp only [List.length_cons] at hl
    have hjl : j < own.length := by
      rcases Nat.lt_or_ge j own.length with h1 | h1
      · exact h1
      · rw [List.getElem?_eq_none h1] at hj; cases hj
    have h1 := h.put hj (i := i) (by omega) v
    have h2 := SatC.puts (j := j) vs _ (cs.set i v) (i + 1) _ h1 (List.getElem?_set_self hjl) (by simp; omega)
    simpa [csets, World.setCells] using h2

/-- The world in which the call began; blocks that are held fast (the records of ranges over functions). -/
structure Base where
  w : World
  res : List (Nat × Obj)
abbrev Base.heap (b : Base) : Array Obj := b.w.heap
def ResOk (b : Base) (own : Own) (X : PMap) (W : World) : Prop := ∀ p ∈ b.res, W.heap[p.1]? = some p.2 ∧ X p.1 = none ∧ (∀ q ∈ own, q.b ≠ p.1) ∧ b.w.heap.size ≤ p.1
structure Sat (w0 : Base) (X0 : PMap) (own : Own) (X : PMap) (W : World) : Prop extends SatC w0.w X0 own X W where
  res : ResOk w0 own X W
theorem get_lt {W : World} {k : Nat} {o : Obj} (h : W.heap[k]? = some o) : k < W.heap.size := (Array.getElem?_eq_some_iff.1 h).1
theorem Sat.start (w : World) {X : PMap} (h : PIn X w) : Sat ⟨w, []⟩ X [] X w := ⟨SatC.start w h, fun _ h => by cases h⟩
theorem Sat.draw {w0 : Base} {X0 : PMap} {own : Own} {X : PMap} {W : World} (h : Sat w0 X0 own X W) (n : Nat) : Sat w0 X0 own X { W with drawn := n } := ⟨h.toSatC.draw n, fun p hp => h.res p hp⟩
theorem Sat.alloc {w0 : Base} {X0 : PMap} {own : Own} {X : PMap} {W : World} (h : Sat w0 X0 own X W) (cs : List Value) (ty : TypeId) :
    Sat w0 X0 (⟨W.heap.size, cs, ty, cs.length⟩ :: own) X (W.alloc (.cells cs.toArray ty)) :=
  ⟨h.toSatC.alloc cs ty, fun p hp => by
    obtain ⟨h1, h2, h3, h4⟩ := h.res p hp
    refine ⟨((Grow.alloc W _).same _ (get_lt h1)).trans h1, h2, fun q hq => ?_, h4⟩
    rcases List.mem_cons.1 hq with rfl | hq
    · exact Ne.symm (Nat.ne_of_lt (get_lt h1))
    · exact h3 q hq⟩
theorem Sat.call {w0 : Base} {X0 : PMap} {own : Own} {X X' : PMap} {W W' : World} (h : Sat w0 X0 own X W) (hb : Below W.heap.size W W') (hX : PIn X' W') (hn : ∀ k, k < W.heap.size → X' k = X k) : Sat w0 X0 own X' W' :=
  ⟨h.toSatC.call hb hX hn, fun p hp => by
    obtain ⟨h1, h2, h3, h4⟩ := h.res p hp
    exact ⟨((Grow.of_below hb).same _ (get_lt h1)).trans h1, (hn _ (get_lt h1)).trans h2, h3, h4⟩⟩
theorem set_b {own : Own} {j : Nat} {o q : Ow} (hq : q ∈ own.set j o) : q = o ∨ q ∈ own := by
  obtain ⟨k, hk, rfl⟩ := List.getElem_of_mem hq
  have hk' : k < own.length := by simpa using hk
  by_cases e : j = k
  · subst e; left; simp
  · right; rw [List.getElem_set_ne e]; exact List.getElem_mem hk'
theorem setCells_far : ∀ (vs : List Value) (W : World) (b i k : Nat), k ≠ b → (W.setCells b i vs).heap[k]? = W.heap[k]?
  | [], _, _, _, _, _ => rfl
  | v :: vs, W, b, i, k, h => by
    simp only [World.setCells]
    rw [setCells_far vs _ b (i + 1) k h]
    exact Below.heap_setCell W ⟨b, i, none⟩ v k h
theorem Sat.puts {w0 : Base} {X0 : PMap} {X : PMap} {j : Nat} {b : Nat} {ty : TypeId} {sz : Nat} (vs : List Value) (own : Own) (cs : List Value) (i : Nat) (W : World) (h : Sat w0 X0 own X W) (hj : own[j]? = some ⟨b, cs, ty, sz⟩) (hl : i + vs.length ≤ cs.length) :
    Sat w0 X0 (own.set j ⟨b, csets cs i vs, ty, sz⟩) X (W.setCells b i vs) :=
  ⟨SatC.puts vs own cs i W h.toSatC hj hl, fun p hp => by
    obtain ⟨h1, h2, h3, h4⟩ := h.res p hp
    have hb : b ≠ p.1 := h3 _ (List.mem_of_getElem? hj)
    refine ⟨(setCells_far vs W b i p.1 (Ne.symm hb)).trans h1, h2, fun q hq => ?_, h4⟩
    rcases set_b hq with rfl | hq
    · exact hb
    · exact h3 q hq⟩

/-- Own blocks are forgotten. -/
theorem Sat.sub {w0 : Base} {X0 : PMap} {own own' : Own} {X : PMap} {W : World} (h : Sat w0 X0 own X W) (hs : own'.Sublist own) : Sat w0 X0 own' X W :=
  ⟨⟨h.below, h.old, ⟨fun p hp => h.stab.own p (hs.subset hp), h.stab.pers⟩, fun p hp => h.new p (hs.subset hp), fun p hp => h.apart p (hs.subset hp), h.nodup.sublist hs⟩, fun p hp => by
    obtain ⟨h1, h2, h3, h4⟩ := h.res p hp
    exact ⟨h1, h2, fun q hq => h3 q (hs.subset hq), h4⟩⟩
/-- The order of own blocks does not matter. -/
theorem Sat.perm {w0 : Base} {X0 : PMap} {own own' : Own} {X : PMap} {W : World} (h : Sat w0 X0 own X W) (hs : own.Perm own') : Sat w0 X0 own' X W :=
  ⟨⟨h.below, h.old, ⟨fun p hp => h.stab.own p (hs.mem_iff.2 hp), h.stab.pers⟩, fun p hp => h.new p (hs.mem_iff.2 hp), fun p hp => h.apart p (hs.mem_iff.2 hp), hs.pairwise h.nodup fun {_ _} hxy => Ne.symm hxy⟩, fun p hp => by
    obtain ⟨h1, h2, h3, h4⟩ := h.res p hp
    exact ⟨h1, h2, fun q hq => h3 q (hs.mem_iff.2 hq), h4⟩⟩
/-- How many slots; the marks that wait at the end. -/
structure NM where
  size : Nat
  marks : List Deferred
abbrev Env := List (Nat × Value)
def eget : Env → Nat → Option Value
  | [], _ => none
  | (t, v) :: e, s => bif Nat.beq t s then some v else eget e s
def eev (env : Env) : Operand → Option Value
  | .tmp t => eget env t
  | .const v => some v
  | .global g => some (.pointer (some ⟨g, 0, none⟩))
  | .func f => some (.func (.func f) #[] #[])
structure EOk (n : NM) (env : Env) (a : Act) : Prop where
  defers : a.defers = n.marks
  size : a.tmps.size = n.size
  get : ∀ t v, eget env t = some v → a.tmps.getD t undef = v
theorem EOk.eval {n : NM} {env : Env} {a : Act} (h : EOk n env a) {x : Operand} {v : Value} (hx : eev env x = some v) : a.eval x = v := by
  cases x with
  | tmp t => exact h.get t v hx
  | const u => simpa [eev, Act.eval] using hx
  | global g => simpa [eev, Act.eval] using hx
  | func f => simpa [eev, Act.eval] using hx
theorem EOk.put {n : NM} {env : Env} {a : Act} (h : EOk n env a) {d : Nat} (hd : Nat.blt d n.size = true) (v : Value) : EOk n ((d, v) :: env) (a.put (some d) v) := by
  have hd' : d < n.size := Nat.le_of_ble_eq_true hd
  refine ⟨h.defers, by simp [Act.put, h.size], fun t u ht => ?_⟩
  simp only [eget] at ht
  cases hb : Nat.beq d t with
  | true =>
    have : d = t := Nat.eq_of_beq_eq_true hb
    subst this
    have hv : v = u := by simpa using ht
    subst hv
    simp [Act.put, h.size, hd']
  | false =>
    have hne : d ≠ t := Nat.ne_of_beq_eq_false hb
    rw [hb] at ht
    rw [← h.get t u ht]
    simp [Act.put, Array.getElem?_setIfInBounds_ne hne]
/-- Fewer slots are known. -/
theorem EOk.weaken {n : NM} {env env' : Env} {a : Act} (h : EOk n env a) (hw : ∀ t v, eget env' t = some v → eget env t = some v) : EOk n env' a := ⟨h.defers, h.size, fun t v ht => h.get t v (hw t v ht)⟩
end Go.Proofs.YtnabbnhefjfegaaGreatDoor
namespace Go.Proofs.YtnabbnhefjfegaaGreatDoor
open Go.RowKit
section
variable {P : Program} {n : NM} {w0 : Base} {X0 X : PMap} {own : Own} {env : Env} {ops : Array Oper} {Q : Exit → Act → World → Prop} {ro : Option Nat}
/-- The wide fence, outside of a round (none) or in one. -/
abbrev FR (ro : Option Nat) : Fence := { fn := fun _ => True, depth := none, alive := false, round := ro }
abbrev DEP : Nat := 9
theorem fr_calls {ro : Option Nat} {m : Nat} {P : Program} {f : FuncId} {args : Array Value} {w : World} {R : Ending → World → Prop} : CallsIn (FR ro) m P f args w R ↔ Calls P f args w R := callsIn_wide (n := m)

/-- The operation only reads, and yields v. -/
def OpY (P : Program) (n : NM) (env : Env) (own : Own) (X : PMap) (o : Op) (v : Value) : Prop :=
  ∀ a W (oper : Oper), oper.op = o → EOk n env a → Stab own X W → (execOp a.eval oper).run P W = .ok (.value v) W
/-- The operation does what k says; g: it changes nothing that was there. -/
def OpX (P : Program) (n : NM) (w0 : Base) (X0 : PMap) (env : Env) (own : Own) (X : PMap) (o : Op) (g : Bool) (k : Value → Own → PMap → Prop) : Prop :=
  ∀ a W (oper : Oper) K Q ro, oper.op = o → EOk n env a → Sat w0 X0 own X W →
    (∀ v own' X' W', k v own' X' → Sat w0 X0 own' X' W' → (g = true → Grow W W') → K (a.put oper.dst v) W') → oper.wpIn (FR ro) DEP P a W K Q
theorem wp_value {oper : Oper} {a : Act} {W W' : World} {K : Act → World → Prop} {Q : Exit → Act → World → Prop} {ro : Option Nat} {v : Value} (hnd : ∀ c, oper.op ≠ .defer c) (hr : (execOp a.eval oper).run P W = .ok (.value v) W') (h : K (a.put oper.dst v) W') : oper.wpIn (FR ro) DEP P a W K Q := by
  refine ⟨fun _ _ => trivial, ?_⟩
  rw [Oper.semAt_eq _ _ _ hnd, hr]
  exact h
theorem wp_skipped {oper : Oper} {a : Act} {W W' : World} {K : Act → World → Prop} {Q : Exit → Act → World → Prop} {ro : Option Nat} (hnd : ∀ c, oper.op ≠ .defer c) (hr : (execOp a.eval oper).run P W = .ok .skip W') (h : K (a.put oper.dst undef) W') : oper.wpIn (FR ro) DEP P a W K Q := by
  refine ⟨fun _ _ => trivial, ?_⟩
  rw [Oper.semAt_eq _ _ _ hnd, hr]
  exact h
theorem wp_enters {oper : Oper} {a : Act} {W W' : World} {K : Act → World → Prop} {Q : Exit → Act → World → Prop} {ro : Option Nat} {f : FuncId} {args : Array Value} (hnd : ∀ c, oper.op ≠ .defer c) (hr : (execOp a.eval oper).run P W = .ok (.enter f args) W')
    (h : Calls P f args W' fun e w'' => ∃ v, e = .returned v ∧ K (a.put oper.dst v) w'') : oper.wpIn (FR ro) DEP P a W K Q := by
  refine ⟨fun _ _ => trivial, ?_⟩
  rw [Oper.semAt_eq _ _ _ hnd, hr]
  refine ⟨fun h => (by cases h), fr_calls.2 (h.mono fun e w'' hh => ?_)⟩
  obtain ⟨v, rfl, hk⟩ := hh
  exact hk

/-- Does the operation run? -/
def gwant (ops : Array Oper) (env : Env) : Option (Nat × Bool) → Option Bool
  | none => some true
  | some (j, want) =>
    match ((ops[j]?).bind (·.dst)).bind (eget env) with
    | some (.bool b) => some (bif want then b else !b)
    | some (.tuple _) => some false
    | _ => none
theorem gwant_spec {o : Oper} {a : Act} {b : Bool} (h : EOk n env a) (hg : gwant ops env o.guard = some b) : Region.wanted o (yielded ops a.tmps) = b := by
  unfold gwant at hg
  unfold Region.wanted
  cases hgd : o.guard with
  | none => rw [hgd] at hg; simpa using hg
  | some jw =>
    obtain ⟨j, want⟩ := jw
    rw [hgd] at hg
    simp only at hg ⊢
    cases hd : (ops[j]?).bind (·.dst) with
    | none => rw [hd] at hg; simp at hg
    | some t =>
      rw [hd] at hg
      simp only [Option.bind_some] at hg
      cases hv : eget env t with
      | none => rw [hv] at hg; simp at hg
      | some v =>
        rw [hv] at hg
        cases v with
        | bool c =>
          have hgt := h.get t _ hv
          have hy : yielded ops a.tmps j = some c := by
            unfold yielded
            rw [hd]
            simp only [Option.bind_some]
            have : a.tmps[t]? = some (.bool c) := by
              rcases Nat.lt_or_ge t a.tmps.size with hlt | hge
              · rw [Array.getElem?_eq_getElem hlt]
                simpa [Array.getD, hlt] using hgt
              · simp [Array.getD, Nat.not_lt.2 hge, undef] at hgt
            rw [this]
          rw [hy]
          simp only [Option.some.injEq] at hg
          subst hg
          cases want <;> cases c <;> rfl
        | tuple xs =>
          have hgt := h.get t _ hv
          have hy : yielded ops a.tmps j = none := by
            unfold yielded
            rw [hd]
            simp only [Option.bind_some]
            rcases Nat.lt_or_ge t a.tmps.size with hlt | hge
            · rw [Array.getElem?_eq_getElem hlt]
              have : a.tmps[t] = .tuple xs := by simpa [Array.getD, hlt] using hgt
              rw [this]
            · rw [Array.getElem?_eq_none hge]
          rw [hy]
          simp only [Option.some.injEq] at hg
          subst hg
          rfl
        | _ => simp at hg

def eput (env : Env) : Option Tmp → Value → Env
  | some d, v => (d, v) :: env
  | none, _ => env
def dok (n : NM) : Option Tmp → Bool
  | some d => Nat.blt d n.size
  | none => true
def noDefer : Op → Bool
  | .defer _ => false
  | _ => true
theorem noDefer_spec {o : Op} (h : noDefer o = true) (c : Call) : o ≠ .defer c := by rintro rfl; cases h
theorem EOk.eput {a : Act} (h : EOk n env a) {d : Option Tmp} (hd : dok n d = true) (v : Value) : EOk n (eput env d v) (a.put d v) := by
  cases d with
  | none => exact h
  | some d => exact h.put hd v

def SL (ro : Option Nat) (P : Program) (n : NM) (w0 : Base) (X0 : PMap) (ops : Array Oper) (Q : Exit → Act → World → Prop) (l : List Oper) (env : Env) (own : Own) (X : PMap) : Prop :=
  ∀ a W, EOk n env a → Sat w0 X0 own X W → wpListIn (FR ro) DEP P ops Q l a W

theorem SL.y {l : List Oper} {d : Option Tmp} {op : Op} {ty : TypeId} {pos : String} {af : Array Edge} {g : Option (Nat × Bool)} {v : Value} (h : OpY P n env own X op v) (hg : gwant ops env g = some true) (hd : (dok n d && noDefer op) = true)
    (h' : SL ro P n w0 X0 ops Q l (eput env d v) own X) : SL ro P n w0 X0 ops Q (⟨d, op, ty, pos, af, g⟩ :: l) env own X := by
  intro a W ha hs
  unfold wpListIn
  rw [if_pos (gwant_spec ha hg)]
  simp only [Bool.and_eq_true] at hd
  exact wp_value (noDefer_spec hd.2) (h a W _ rfl ha hs.stab) (h' _ _ (ha.eput hd.1 v) hs)
theorem SL.skip {l : List Oper} {d : Option Tmp} {op : Op} {ty : TypeId} {pos : String} {af : Array Edge} {g : Option (Nat × Bool)} (hg : gwant ops env g = some false) (hd : dok n d = true)
    (h' : SL ro P n w0 X0 ops Q l (eput env d undef) own X) : SL ro P n w0 X0 ops Q (⟨d, op, ty, pos, af, g⟩ :: l) env own X := by
  intro a W ha hs
  unfold wpListIn
  rw [if_neg (by rw [gwant_spec ha hg]; simp)]
  exact ⟨fun _ _ => trivial, h' _ _ (ha.eput hd _) hs⟩
theorem SL.x {l : List Oper} {d : Option Tmp} {op : Op} {ty : TypeId} {pos : String} {af : Array Edge} {g : Option (Nat × Bool)} {k : Value → Own → PMap → Prop} {gr : Bool} (h : OpX P n w0 X0 env own X op gr k) (hg : gwant ops env g = some true) (hd : dok n d = true)
    (h' : ∀ v own' X', k v own' X' → SL ro P n w0 X0 ops Q l (eput env d v) own' X') : SL ro P n w0 X0 ops Q (⟨d, op, ty, pos, af, g⟩ :: l) env own X := by
  intro a W ha hs
  unfold wpListIn
  rw [if_pos (gwant_spec ha hg)]
  exact h a W _ _ _ _ rfl ha hs fun v own' X' W' hk hs' _ => h' v own' X' hk _ _ (ha.eput hd v) hs'
end
section
variable {P : Program} {ops : Array Oper} {Q : Exit → Act → World → Prop} {S : World → Prop} {nh : Nat} {ro : Option Nat}
theorem yields_wp {i : Nat} {o : Oper} {v : Value} {a : Act} (hnd : ∀ c, o.op ≠ .defer c) (hi : ops[i]? = some o) (hy : YieldsIf P ops S o v a) {K : Act → World → Prop} {w : World} (hS : S w) (h : K (a.put o.dst v) w) : wpOpIn (FR ro) DEP P ops Q i K a w := by
  unfold wpOpIn
  simp only [hi]
  rcases hy with ⟨hw, hv⟩ | ⟨hw, rfl⟩
  · simp only [hw, if_true]; exact wp_value hnd (hv w hS) h
  · simp only [hw, Bool.false_eq_true, if_false]; exact ⟨fun _ _ => trivial, h⟩
theorem wpOpIn_putIf {j : Nat} {oi oj : Oper} {v : Value} (hndj : ∀ c, oj.op ≠ .defer c) (hj : ops[j]? = some oj) (hap : oi.apart ops oj = true)
    (hsi : ∀ cs b, oi.op ≠ .select cs b) (hsj : ∀ cs b, oj.op ≠ .select cs b)
    (hQ : ∀ c a w, Q (.panic c) (a.put oi.dst v) w → Q (.panic c) a w) {K : Act → World → Prop} {a : Act} {w : World}
    (hy : YieldsIf P ops S oi v a) (h : wpOpIn (FR ro) DEP P ops Q j K (a.put oi.dst v) w) :
    wpOpIn (FR ro) DEP P ops Q j (fun a' w' => YieldsIf P ops S oi v a' ∧ K (a'.put oi.dst v) w') a w := by
  obtain ⟨h1, h2, h3⟩ := Oper.apart_spec hap
  have keep : ∀ (a : Act), YieldsIf P ops S oi v a → ∀ u, YieldsIf P ops S oi v (a.put oj.dst u) := fun a hy u =>
    hy.of_same (execOp_put oi hsi a oj.dst u h3) (wanted_put oi a oj.dst u h3)
  have keepD : ∀ d, YieldsIf P ops S oi v { a with defers := d :: a.defers } := fun d => hy.of_same rfl rfl
  unfold wpOpIn at *
  simp only [hj] at *
  rw [wanted_put oj a oi.dst v h1] at h
  split
  · rename_i hw
    simp only [hw, if_true] at h
    unfold Oper.wpIn at *
    refine ⟨fun _ _ => trivial, ?_⟩
    have h := h.2
    rw [Oper.semAt_eq _ _ _ hndj, execOp_put oj hsj a oi.dst v h1] at h
    rw [Oper.semAt_eq _ _ _ hndj]
    generalize (execOp a.eval oj).run P w = r at *
    cases r with
    | ok x w' =>
      cases x <;> simp only [Oper.uponIn] at h ⊢
      case value u => exact ⟨keep a hy u, by rw [← Act.put_comm a v u h2]; exact h⟩
      case skip => exact ⟨keep a hy _, by rw [← Act.put_comm a v undef h2]; exact h⟩
      case defer d =>
        refine ⟨keep _ (keepD d) _, ?_⟩
        rw [← Act.put_comm _ v undef h2, ← Act.put_defers]
        exact h
      case enter f args =>
        refine ⟨h.1, CallsIn.mono h.2 fun e w'' he => ?_⟩
        cases e with
        | returned u => exact ⟨keep a hy u, by rw [← Act.put_comm a v u h2]; exact he⟩
        | panicked c => exact hQ _ _ _ he
        | outgrown => exact he
      case row row args => exact ⟨h.1, RowsIn.mono h.2 fun u w'' he => ⟨keep a hy u, by rw [← Act.put_comm a v u h2]; exact he⟩⟩
      case round l f tmps assign body =>
        refine ⟨h.1, RoundIn.mono h.2 fun e w'' he => ?_⟩
        cases e with
        | returned u => exact ⟨keep a hy u, by rw [← Act.put_comm a v u h2]; exact he⟩
        | panicked c => exact hQ _ _ _ he
        | outgrown => exact he
    | halt x w' =>
      cases x <;> simp only [Oper.uponIn] at h ⊢
      case panic u => exact hQ _ _ _ h
  · rename_i hw
    simp only [hw] at h
    exact ⟨fun _ _ => trivial, keep a hy _, by rw [← Act.put_comm a v undef h2]; exact h.2⟩
def noDefers (ops : Array Oper) : Bool := ops.all fun o => noDefer o.op
theorem noDefers_spec (h : noDefers ops = true) (j : Nat) (o : Oper) (ho : ops[j]? = some o) : ∀ c, o.op ≠ .defer c := noDefer_spec (Array.all_eq_true_iff_forall_mem.1 h o (Array.mem_of_getElem? ho))

/-- The store that ends what the others lean on has not been run. -/
def opn (st : Option Nat) (l : Array Bool) : Bool := match st with
  | none => true
  | some s => !l.getD s false
theorem opn_mono {st : Option Nat} {l : Array Bool} {i : Nat} (h : opn st (l.setIfInBounds i true) = true) : opn st l = true := by
  cases st with
  | none => rfl
  | some s =>
    simp only [opn, Bool.not_eq_true'] at h ⊢
    cases hl : l.getD s false with
    | false => rfl
    | true => rw [getD_set_true hl] at h; exact h
theorem opn_set {st : Option Nat} {l : Array Bool} {i : Nat} (hi : st ≠ some i) (h : opn st l = true) : opn st (l.setIfInBounds i true) = true := by
  cases st with
  | none => rfl
  | some s =>
    simp only [opn, Bool.not_eq_true'] at h ⊢
    rw [getD_set_ne false (fun e => hi (by rw [e]))]; exact h
/-- The store waits for i. -/
def depB (ops : Array Oper) (st : Option Nat) (i : Nat) : Bool := match st with
  | none => true
  | some s => !Nat.beq s i && ((ops[s]?).map (·.after.any fun e => Region.binds .any e && Nat.beq e.on i)).getD false
theorem depB_ne {st : Option Nat} {i : Nat} (h : depB ops st i = true) : st ≠ some i := by
  rintro rfl
  simp [depB] at h
theorem depB_opn {st : Option Nat} {i : Nat} (h : depB ops st i = true) {l : Array Bool} (inv : HeadInv .any ops nh l) (hun : l.getD i true = false) : opn st l = true := by
  cases st with
  | none => rfl
  | some s =>
    simp only [depB, Bool.and_eq_true] at h
    obtain ⟨_, h⟩ := h
    cases ho : ops[s]? with
    | none => rw [ho] at h; cases h
    | some os =>
      rw [ho] at h
      simp only [Option.map_some, Option.getD_some] at h
      obtain ⟨e, he, h2⟩ := Array.any_eq_true'.1 h
      simp only [Bool.and_eq_true] at h2
      simp only [opn, Bool.not_eq_true']
      cases hl : l.getD s false with
      | false => rfl
      | true =>
        have h3 := inv.closed s os ho hl e he h2.1
        rw [Nat.eq_of_beq_eq_true h2.2, getD_both hun] at h3
        cases h3
def neB (st : Option Nat) (i : Nat) : Bool := match st with
  | none => true
  | some s => !Nat.beq s i
theorem neB_ne {st : Option Nat} {i : Nat} (h : neB st i = true) : st ≠ some i := by
  rintro rfl
  simp [neB] at h

/-- The head of a region, in whatever order: S holds behind each operation, until the store st has been run; L at the end. -/
def hdAny (ro : Option Nat) (P : Program) (ops : Array Oper) (Q : Exit → Act → World → Prop) (st : Option Nat) (S : World → Prop) (nh : Nat) (L : Array Bool → Act → World → Prop) : Nat → Array Bool → Act → World → Prop
  | 0, listed, a, w => L listed a w
  | f + 1, listed, a, w => Region.ready .any ops listed ≠ [] ∧ ∀ i ∈ Region.ready .any ops listed, i < nh ∧ wpOpIn (FR ro) DEP P ops Q i (fun a' w' => (opn st (listed.setIfInBounds i true) = true → S w') ∧ hdAny ro P ops Q st S nh L f (listed.setIfInBounds i true) a' w') a w

theorem wpAny_of_hd {st : Option Nat} {L : Array Bool → Act → World → Prop} {g : Nat} (hL : ∀ listed a w, L listed a w → wpAnyIn (FR ro) DEP P .any ops Q g listed a w) :
    ∀ (f : Nat) (listed : Array Bool) (a : Act) (w : World), hdAny ro P ops Q st S nh L f listed a w → wpAnyIn (FR ro) DEP P .any ops Q (f + g) listed a w
  | 0, listed, a, w, h => by rw [Nat.zero_add]; exact hL _ _ _ h
  | f + 1, listed, a, w, h => by
    rw [show f + 1 + g = (f + g) + 1 by omega]
    exact ⟨fun h0 => absurd h0 h.1, fun i hi => wpOpIn_mono (fun a' w' h' => wpAny_of_hd hL f _ a' w' h'.2) (h.2 i hi).2⟩

/-- No operation of the tail comes up while one of the head waits. -/
def TailWaits (ops : Array Oper) (nh : Nat) : Prop :=
  ∀ (listed : Array Bool), HeadInv .any ops nh listed → ∀ i, i < nh → listed.getD i true = false → ∀ t ∈ Region.ready .any ops listed, t < nh
def tailB (ops : Array Oper) (nh : Nat) : Bool := decide (nh = ops.size) || (decide (nh < ops.size) && Region.sinkB .any ops nh && Region.chainB .any ops nh)
theorem tailWaits_of (h : tailB ops nh = true) : TailWaits ops nh := by
  intro listed inv i hi hun t ht
  unfold tailB at h
  simp only [Bool.or_eq_true, Bool.and_eq_true, decide_eq_true_eq] at h
  rcases h with h | ⟨⟨h1, h2⟩, h3⟩
  · obtain ⟨_, o, ho, _⟩ := mem_ready.1 ht
    have := (Array.getElem?_eq_some_iff.1 ho).1
    omega
  · rcases Nat.lt_or_ge t nh with h | h
    · exact h
    · exact absurd ht (tail_waits h2 h3 h1 inv _ i rfl hi hun t h)

theorem hd_first {st : Option Nat} {S' : World → Prop} {i : Nat} {oi : Oper} {v : Value} {L : Array Bool → Act → World → Prop} (hi : ops[i]? = some oi) (hsel : ∀ (j : Nat) (o : Oper) cs b, ops[j]? = some o → o.op ≠ .select cs b)
    (hnd : ∀ (j : Nat) (o : Oper), ops[j]? = some o → ∀ c, o.op ≠ .defer c) (ht : TailWaits ops nh) (hin : i < nh) (hQ : ∀ c a w, Q (.panic c) (a.put oi.dst v) w → Q (.panic c) a w)
    (hdone : ∀ listed a w, L listed a w → ∀ j ∈ Region.ready .any ops listed, nh ≤ j) (his : st ≠ some i)
    (hSS : ∀ l w, HeadInv .any ops nh l → l.getD i true = false → (opn st l = true → S w) → S' w) :
    ∀ (f : Nat) (listed : Array Bool) (a : Act) (w : World), HeadInv .any ops nh listed →
      (∀ j oj, ops[j]? = some oj → j ≠ i → listed.getD j true = false → (∀ e ∈ oj.after, Region.binds .any e = true → e.on ≠ i) → oi.apart ops oj = true) →
      i ∈ Region.ready .any ops listed → YieldsIf P ops S' oi v a → (opn st listed = true → S w) →
      hdAny ro P ops Q st S nh L f (listed.setIfInBounds i true) (a.put oi.dst v) w → hdAny ro P ops Q st S nh L (f + 1) listed a w := by
  intro f
  induction f with
  | zero =>
    intro listed a w inv _ hr hy hS H
    have hun := (mem_ready.1 hr).1
    refine ⟨fun h => (by rw [h] at hr; cases hr), fun j hj => ?_⟩
    have hjn := ht listed inv i hin hun j hj
    refine ⟨hjn, ?_⟩
    by_cases hji : j = i
    · subst hji; exact yields_wp (hnd _ _ hi) hi hy (hSS _ _ inv hun hS) ⟨fun h => hS (opn_mono h), H⟩
    · have := hdone _ _ _ H j (ready_mono hj hji)
      omega
  | succ f ih =>
    intro listed a w inv hfree hr hy hS H
    have hun := (mem_ready.1 hr).1
    refine ⟨fun h => (by rw [h] at hr; cases hr), fun j hj => ?_⟩
    have hjn := ht listed inv i hin hun j hj
    refine ⟨hjn, ?_⟩
    by_cases hji : j = i
    · subst hji; exact yields_wp (hnd _ _ hi) hi hy (hSS _ _ inv hun hS) ⟨fun h => hS (opn_mono h), H⟩
    · have h1 := (H.2 j (ready_mono hj hji)).2
      obtain ⟨hjun, oj, hoj, hall⟩ := mem_ready.1 hj
      have hnot : ∀ e ∈ oj.after, Region.binds .any e = true → e.on ≠ i := fun e he hb heq => by
        have h1 := hall e he hb
        rw [heq, getD_both hun] at h1
        cases h1
      have h2 := wpOpIn_putIf (hnd j oj hoj) hoj (hfree j oj hoj hji hjun hnot) (fun cs b => hsel i oi cs b hi) (fun cs b => hsel j oj cs b hoj) hQ hy h1
      have hfree' : ∀ k ok, ops[k]? = some ok → k ≠ i → (listed.setIfInBounds j true).getD k true = false →
          (∀ e ∈ ok.after, Region.binds .any e = true → e.on ≠ i) → oi.apart ops ok = true := fun k ok hk hki hun hno => by
        refine hfree k ok hk hki ?_ hno
        by_cases hjk : j = k
        · subst hjk; exact hjun
        · rw [getD_set_ne true hjk] at hun; exact hun
      refine wpOpIn_mono (fun a' w' h3 => ?_) h2
      have hSj : opn st (listed.setIfInBounds j true) = true → S w' := fun ho => h3.2.1 (by rw [Array.setIfInBounds_comm _ _ (Ne.symm hji)]; exact opn_set his ho)
      refine ⟨hSj, ih (listed.setIfInBounds j true) a' w' (inv.set hj hjn) hfree' (ready_mono hr (Ne.symm hji)) h3.1 hSj ?_⟩
      rw [Array.setIfInBounds_comm _ _ hji]
      exact h3.2.2

/-- A plan's step: number i, taken first; run because nothing else may come up; or two of them, in either order. -/
inductive Pl where
  | t (i : Nat)
  | m (i : Nat)
  | r (i : Nat)
  | f (i j : Nat)
  | g (i j p k : Nat)
  | b (i j : Nat) (p q : List (Nat × Nat))
def plen : List Pl → Nat
  | [] => 0
  | .t _ :: r => plen r + 1
  | .m _ :: r => plen r + 1
  | .r _ :: r => plen r + 1
  | .f _ _ :: r => plen r + 1 + 1
  | .g _ _ _ _ :: r => plen r + 1 + 1 + 1 + 1
  | .b _ _ p _ :: r => p.length + plen r + 1
def planLin (ops : Array Oper) (nh : Nat) (st : Option Nat) : List (Nat × Nat) → Array Bool → Bool
  | [], listed => Region.seqB .any ops (ops.size - nh) nh listed
  | (0, i) :: r, listed => Nat.blt i nh && (Region.ready .any ops listed).contains i && Region.free .any ops listed i && depB ops st i && planLin ops nh st r (listed.setIfInBounds i true)
  | (1, i) :: r, listed => Nat.blt i nh && (Region.ready .any ops listed).contains i && Region.free .any ops listed i && neB st i && planLin ops nh st r (listed.setIfInBounds i true)
  | (_, i) :: r, listed => Nat.blt i nh && decide (Region.ready .any ops listed = [i]) && planLin ops nh st r (listed.setIfInBounds i true)
def planOk (ops : Array Oper) (nh : Nat) (st : Option Nat) : List Pl → Array Bool → Bool
  | [], listed => Region.seqB .any ops (ops.size - nh) nh listed
  | .t i :: r, listed => Nat.blt i nh && (Region.ready .any ops listed).contains i && Region.free .any ops listed i && depB ops st i && planOk ops nh st r (listed.setIfInBounds i true)
  | .m i :: r, listed => Nat.blt i nh && (Region.ready .any ops listed).contains i && Region.free .any ops listed i && neB st i && planOk ops nh st r (listed.setIfInBounds i true)
  | .r i :: r, listed => Nat.blt i nh && decide (Region.ready .any ops listed = [i]) && planOk ops nh st r (listed.setIfInBounds i true)
  | .f i j :: r, listed => Nat.blt i nh && Nat.blt j nh && !Nat.beq i j && decide (Region.ready .any ops listed = [i, j]) && decide (Region.ready .any ops (listed.setIfInBounds i true) = [j]) && decide (Region.ready .any ops (listed.setIfInBounds j true) = [i])
      && planOk ops nh st r ((listed.setIfInBounds i true).setIfInBounds j true)
  | .g i j p k :: r, listed => (Nat.blt i nh && Nat.blt j nh && Nat.blt p nh && Nat.blt k nh) && (!Nat.beq i k && !Nat.beq j k && !Nat.beq p k) && decide (st = none)
      && (decide (Region.ready .any ops listed = [i, k]) && decide (Region.ready .any ops (listed.setIfInBounds i true) = [j, k]) && decide (Region.ready .any ops ((listed.setIfInBounds i true).setIfInBounds j true) = [p, k]) && decide (Region.ready .any ops (((listed.setIfInBounds i true).setIfInBounds j true).setIfInBounds p true) = [k]))
      && (decide (Region.ready .any ops (listed.setIfInBounds k true) = [i]) && decide (Region.ready .any ops ((listed.setIfInBounds i true).setIfInBounds k true) = [j]) && decide (Region.ready .any ops (((listed.setIfInBounds i true).setIfInBounds j true).setIfInBounds k true) = [p]))
      && planOk ops nh st r ((((listed.setIfInBounds i true).setIfInBounds j true).setIfInBounds p true).setIfInBounds k true)
  | .b i j p q :: r, listed => Nat.blt i nh && Nat.blt j nh && r.isEmpty && Nat.beq p.length q.length && decide (Region.ready .any ops listed = [i, j]) && planLin ops nh st p (listed.setIfInBounds i true) && planLin ops nh st q (listed.setIfInBounds j true)
/-- Everything that is asked of a drawn region's text. -/
def drawOk (ops : Array Oper) (nh : Nat) (st : Option Nat) (pl : List Pl) : Bool :=
  noDefers ops && Region.noSelect ops && tailB ops nh && decide (plen pl + (ops.size - nh) = ops.size) && planOk ops nh st pl (Array.replicate ops.size false)
end
section
variable {P : Program} {n : NM} {w0 : Base} {X0 X XS : PMap} {own ownS : Own} {env : Env} {ops : Array Oper} {Q : Exit → Act → World → Prop} {nh : Nat} {ro : Option Nat} {st : Option Nat}
/-- What stands behind the head: the tail, in the text's order. -/
def tailL (ro : Option Nat) (P : Program) (ops : Array Oper) (Q : Exit → Act → World → Prop) (nh : Nat) (listed : Array Bool) (a : Act) (w : World) : Prop :=
  Region.seqB .any ops (ops.size - nh) nh listed = true ∧ wpListIn (FR ro) DEP P ops Q (ops.toList.drop nh) a w

def SD (ro : Option Nat) (P : Program) (n : NM) (w0 : Base) (X0 : PMap) (ops : Array Oper) (Q : Exit → Act → World → Prop) (nh : Nat) (st : Option Nat) (ownS : Own) (XS : PMap) (pl : List Pl) (env : Env) (own : Own) (X : PMap) : Prop :=
  ∀ (listed : Array Bool) a W, Region.noSelect ops = true → noDefers ops = true → TailWaits ops nh → HeadInv .any ops nh listed → planOk ops nh st pl listed = true →
    EOk n env a → Sat w0 X0 own X W → (opn st listed = true → Stab ownS XS W) → hdAny ro P ops Q st (Stab ownS XS) nh (tailL ro P ops Q nh) (plen pl) listed a W

theorem SD.nil (h : SL ro P n w0 X0 ops Q (ops.toList.drop nh) env own X) : SD ro P n w0 X0 ops Q nh st ownS XS [] env own X :=
  fun _ a W _ _ _ _ hp ha hs _ => ⟨hp, h a W ha hs⟩

theorem tail_done {listed : Array Bool} {a : Act} {w : World} (h : tailL ro P ops Q nh listed a w) : ∀ j ∈ Region.ready .any ops listed, nh ≤ j := seqB_ready h.1

/-- An operation that only reads is taken. -/
theorem SD.take {i : Nat} {pl : List Pl} {d : Option Tmp} {op : Op} {ty : TypeId} {pos : String} {af : Array Edge} {g : Option (Nat × Bool)} {v : Value} (hi : ops[i]? = some ⟨d, op, ty, pos, af, g⟩)
    (hQ : ∀ c a w, Q (.panic c) (a.put d v) w → Q (.panic c) a w)
    (h : OpY P n env ownS XS op v) (hg : gwant ops env g = some true) (hd : dok n d = true) (h' : SD ro P n w0 X0 ops Q nh st ownS XS pl (eput env d v) own X) : SD ro P n w0 X0 ops Q nh st ownS XS (.t i :: pl) env own X := by
  intro listed a W hns hnd ht inv hp ha hs hst
  simp only [planOk, Bool.and_eq_true] at hp
  obtain ⟨⟨⟨⟨hin, hr⟩, hf⟩, hdp⟩, hp⟩ := hp
  have hin' : i < nh := Nat.le_of_ble_eq_true hin
  have hr' : i ∈ Region.ready .any ops listed := by simpa using hr
  refine hd_first hi (Region.noSelect_spec hns) (noDefers_spec hnd) ht hin' hQ (fun _ _ _ h => tail_done h) (depB_ne hdp) (fun l w inv hun h => h (depB_opn hdp inv hun)) _ listed a W inv (Region.free_spec hi hf) hr' (.inl ⟨gwant_spec ha hg, fun w hw => h a w _ rfl ha hw⟩) hst ?_
  exact h' _ _ _ hns hnd ht (inv.set hr' hin') hp (ha.eput hd v) hs (fun h => hst (opn_mono h))
/-- An operation on slots alone is taken. -/
theorem SD.takeM {i : Nat} {pl : List Pl} {d : Option Tmp} {op : Op} {ty : TypeId} {pos : String} {af : Array Edge} {g : Option (Nat × Bool)} {v : Value} (hi : ops[i]? = some ⟨d, op, ty, pos, af, g⟩)
    (hQ : ∀ c a w, Q (.panic c) (a.put d v) w → Q (.panic c) a w)
    (h : OpY P n env [] (fun _ => none) op v) (hg : gwant ops env g = some true) (hd : dok n d = true) (h' : SD ro P n w0 X0 ops Q nh st ownS XS pl (eput env d v) own X) : SD ro P n w0 X0 ops Q nh st ownS XS (.m i :: pl) env own X := by
  intro listed a W hns hnd ht inv hp ha hs hst
  simp only [planOk, Bool.and_eq_true] at hp
  obtain ⟨⟨⟨⟨hin, hr⟩, hf⟩, hdp⟩, hp⟩ := hp
  have hin' : i < nh := Nat.le_of_ble_eq_true hin
  have hr' : i ∈ Region.ready .any ops listed := by simpa using hr
  refine hd_first hi (Region.noSelect_spec hns) (noDefers_spec hnd) ht hin' hQ (fun _ _ _ h => tail_done h) (S' := Stab [] (fun _ => none)) (neB_ne hdp) (fun _ _ _ _ _ => ⟨fun _ h => (by cases h), fun _ _ h => (by cases h)⟩) _ listed a W inv (Region.free_spec hi hf) hr' (.inl ⟨gwant_spec ha hg, fun w hw => h a w _ rfl ha hw⟩) hst ?_
  exact h' _ _ _ hns hnd ht (inv.set hr' hin') hp (ha.eput hd v) hs (fun h => hst (opn_mono h))
/-- An operation that does not run is taken. -/
theorem SD.skip {i : Nat} {pl : List Pl} {d : Option Tmp} {op : Op} {ty : TypeId} {pos : String} {af : Array Edge} {g : Option (Nat × Bool)} (hi : ops[i]? = some ⟨d, op, ty, pos, af, g⟩)
    (hQ : ∀ c a w, Q (.panic c) (a.put d undef) w → Q (.panic c) a w)
    (hg : gwant ops env g = some false) (hd : dok n d = true) (h' : SD ro P n w0 X0 ops Q nh st ownS XS pl (eput env d undef) own X) : SD ro P n w0 X0 ops Q nh st ownS XS (.t i :: pl) env own X := by
  intro listed a W hns hnd ht inv hp ha hs hst
  simp only [planOk, Bool.and_eq_true] at hp
  obtain ⟨⟨⟨⟨hin, hr⟩, hf⟩, hdp⟩, hp⟩ := hp
  have hin' : i < nh := Nat.le_of_ble_eq_true hin
  have hr' : i ∈ Region.ready .any ops listed := by simpa using hr
  refine hd_first hi (Region.noSelect_spec hns) (noDefers_spec hnd) ht hin' hQ (fun _ _ _ h => tail_done h) (depB_ne hdp) (fun l w inv hun h => h (depB_opn hdp inv hun)) _ listed a W inv (Region.free_spec hi hf) hr' (.inr ⟨gwant_spec ha hg, rfl⟩) hst ?_
  exact h' _ _ _ hns hnd ht (inv.set hr' hin') hp (ha.eput hd _) hs (fun h => hst (opn_mono h))
/-- An operation that makes memory, or a call, is run: nothing else may come up. -/
theorem SD.run {i : Nat} {pl : List Pl} {d : Option Tmp} {op : Op} {ty : TypeId} {pos : String} {af : Array Edge} {g : Option (Nat × Bool)} {k : Value → Own → PMap → Prop} (hi : ops[i]? = some ⟨d, op, ty, pos, af, g⟩)
    (h : OpX P n w0 X0 env own X op true k) (hg : gwant ops env g = some true) (hd : dok n d = true) (h' : ∀ v own' X', k v own' X' → SD ro P n w0 X0 ops Q nh st ownS XS pl (eput env d v) own' X') : SD ro P n w0 X0 ops Q nh st ownS XS (.r i :: pl) env own X := by
  intro listed a W hns hnd ht inv hp ha hs hst
  simp only [planOk, Bool.and_eq_true, decide_eq_true_eq] at hp
  obtain ⟨⟨hin, hr⟩, hp⟩ := hp
  have hin' : i < nh := Nat.le_of_ble_eq_true hin
  have hr' : i ∈ Region.ready .any ops listed := by rw [hr]; simp
  refine ⟨by rw [hr]; simp, fun j hj => ?_⟩
  rw [hr] at hj
  have hji : j = i := by simpa using hj
  subst hji
  refine ⟨hin', ?_⟩
  unfold wpOpIn
  simp only [hi]
  rw [if_pos (gwant_spec ha hg)]
  refine h a W _ _ _ _ rfl ha hs fun v own' X' W' hk hs' hgr => ⟨fun h => (hst (opn_mono h)).grow (hgr rfl), ?_⟩
  exact h' v own' X' hk _ _ _ hns hnd ht (inv.set hr' hin') hp (ha.eput hd v) hs' (fun h => (hst (opn_mono h)).grow (hgr rfl))

/-- An operation that does not run is come to: nothing else may come up. -/
theorem SD.skipF {i : Nat} {pl : List Pl} {d : Option Tmp} {op : Op} {ty : TypeId} {pos : String} {af : Array Edge} {g : Option (Nat × Bool)} (hi : ops[i]? = some ⟨d, op, ty, pos, af, g⟩)
    (hg : gwant ops env g = some false) (hd : dok n d = true) (h' : SD ro P n w0 X0 ops Q nh st ownS XS pl (eput env d undef) own X) : SD ro P n w0 X0 ops Q nh st ownS XS (.r i :: pl) env own X := by
  intro listed a W hns hnd ht inv hp ha hs hst
  simp only [planOk, Bool.and_eq_true, decide_eq_true_eq] at hp
  obtain ⟨⟨hin, hr⟩, hp⟩ := hp
  have hin' : i < nh := Nat.le_of_ble_eq_true hin
  have hr' : i ∈ Region.ready .any ops listed := by rw [hr]; simp
  refine ⟨by rw [hr]; simp, fun j hj => ?_⟩
  rw [hr] at hj
  have hji : j = i := by simpa using hj
  subst hji
  refine ⟨hin', ?_⟩
  unfold wpOpIn
  simp only [hi]
  rw [if_neg (by rw [gwant_spec ha hg]; simp)]
  exact ⟨fun _ _ => trivial, fun h => hst (opn_mono h), h' _ _ _ hns hnd ht (inv.set hr' hin') hp (ha.eput hd _) hs (fun h => hst (opn_mono h))⟩
/-- An operation that changes blocks on which the others do not lean. -/
theorem SD.runK {i : Nat} {pl : List Pl} {d : Option Tmp} {op : Op} {ty : TypeId} {pos : String} {af : Array Edge} {g : Option (Nat × Bool)} {gr : Bool} {k : Value → Own → PMap → Prop} (hi : ops[i]? = some ⟨d, op, ty, pos, af, g⟩)
    (h : OpX P n w0 X0 env own X op gr k) (hkeep : ∀ v own' X', k v own' X' → (∀ p ∈ ownS, p ∈ own') ∧ XS.le X') (hg : gwant ops env g = some true) (hd : dok n d = true) (h' : ∀ v own' X', k v own' X' → SD ro P n w0 X0 ops Q nh st ownS XS pl (eput env d v) own' X') : SD ro P n w0 X0 ops Q nh st ownS XS (.r i :: pl) env own X := by
  intro listed a W hns hnd ht inv hp ha hs hst
  simp only [planOk, Bool.and_eq_true, decide_eq_true_eq] at hp
  obtain ⟨⟨hin, hr⟩, hp⟩ := hp
  have hin' : i < nh := Nat.le_of_ble_eq_true hin
  have hr' : i ∈ Region.ready .any ops listed := by rw [hr]; simp
  refine ⟨by rw [hr]; simp, fun j hj => ?_⟩
  rw [hr] at hj
  have hji : j = i := by simpa using hj
  subst hji
  refine ⟨hin', ?_⟩
  unfold wpOpIn
  simp only [hi]
  rw [if_pos (gwant_spec ha hg)]
  refine h a W _ _ _ _ rfl ha hs fun v own' X' W' hk hs' _ => ?_
  obtain ⟨h1, h2⟩ := hkeep v own' X' hk
  have hst' : Stab ownS XS W' := ⟨fun p hp => hs'.stab.own p (h1 p hp), fun q o hq => hs'.stab.pers q o (h2 q o hq)⟩
  exact ⟨fun _ => hst', h' v own' X' hk _ _ _ hns hnd ht (inv.set hr' hin') hp (ha.eput hd v) hs' (fun _ => hst')⟩

/-- The store for which all waited that lean on memory. -/
theorem SD.runS {i : Nat} {pl : List Pl} {d : Option Tmp} {op : Op} {ty : TypeId} {pos : String} {af : Array Edge} {g : Option (Nat × Bool)} {gr : Bool} {k : Value → Own → PMap → Prop} (hi : ops[i]? = some ⟨d, op, ty, pos, af, g⟩)
    (h : OpX P n w0 X0 env own X op gr k) (hg : gwant ops env g = some true) (hd : dok n d = true) (h' : ∀ v own' X', k v own' X' → SD ro P n w0 X0 ops Q nh (some i) ownS XS pl (eput env d v) own' X') : SD ro P n w0 X0 ops Q nh (some i) ownS XS (.r i :: pl) env own X := by
  intro listed a W hns hnd ht inv hp ha hs hst
  simp only [planOk, Bool.and_eq_true, decide_eq_true_eq] at hp
  obtain ⟨⟨hin, hr⟩, hp⟩ := hp
  have hin' : i < nh := Nat.le_of_ble_eq_true hin
  have hr' : i ∈ Region.ready .any ops listed := by rw [hr]; simp
  refine ⟨by rw [hr]; simp, fun j hj => ?_⟩
  rw [hr] at hj
  have hji : j = i := by simpa using hj
  subst hji
  refine ⟨hin', ?_⟩
  unfold wpOpIn
  simp only [hi]
  rw [if_pos (gwant_spec ha hg)]
  refine h a W _ _ _ _ rfl ha hs fun v own' X' W' hk hs' _ => ?_
  have hcl : ¬ opn (some j) (listed.setIfInBounds j true) = true := fun ho => by
    have hil := (mem_ready.1 hr').2
    obtain ⟨oi, hoi, _⟩ := hil
    have hlt : j < listed.size := by rw [inv.size]; exact (Array.getElem?_eq_some_iff.1 hoi).1
    simp [opn, hlt] at ho
  exact ⟨fun h => absurd h hcl, h' v own' X' hk _ _ _ hns hnd ht (inv.set hr' hin') hp (ha.eput hd v) hs' (fun h => absurd h hcl)⟩

/-- The others lean on more. -/
theorem hdAny_mono {S S' : World → Prop} {L : Array Bool → Act → World → Prop} (hSS : ∀ w, S' w → S w) : ∀ (f : Nat) (listed : Array Bool) (a : Act) (w : World), hdAny ro P ops Q st S' nh L f listed a w → hdAny ro P ops Q st S nh L f listed a w
  | 0, _, _, _, h => h
  | f + 1, _, _, _, h => ⟨h.1, fun i hi => ⟨(h.2 i hi).1, wpOpIn_mono (fun a' w' h' => ⟨fun ho => hSS _ (h'.1 ho), hdAny_mono hSS f _ a' w' h'.2⟩) (h.2 i hi).2⟩⟩
theorem SD.up {pl : List Pl} (ho : ∀ p ∈ ownS, p ∈ own) (hX : XS.le X) (h : SD ro P n w0 X0 ops Q nh st own X pl env own X) : SD ro P n w0 X0 ops Q nh st ownS XS pl env own X := by
  intro listed a W hns hnd ht inv hp ha hs _
  exact hdAny_mono (fun w hw => ⟨fun p hp => hw.own p (ho p hp), fun k o hk => hw.pers k o (hX k o hk)⟩) _ _ _ _ (h listed a W hns hnd ht inv hp ha hs fun _ => hs.stab)
def keepS (ownS : Own) (XS : PMap) (own' : Own) (X' : PMap) : Prop := (∀ p ∈ ownS, p ∈ own') ∧ XS.le X'
theorem keepS.stab {ownS own' : Own} {XS X' : PMap} {W : World} (h : keepS ownS XS own' X') (hs : Sat w0 X0 own' X' W) : Stab ownS XS W := ⟨fun p hp => hs.stab.own p (h.1 p hp), fun q o hq => hs.stab.pers q o (h.2 q o hq)⟩
theorem wpAnyIn_of_seq : ∀ (l : List Oper) (k : Nat) (listed : Array Bool) (a : Act) (w : World), (∀ j, l[j]? = ops[k + j]?) →
    Region.seqB .any ops l.length k listed = true → wpListIn (FR ro) DEP P ops Q l a w → wpAnyIn (FR ro) DEP P .any ops Q l.length listed a w
  | [], _, _, _, _, _, hB, h => ⟨by simpa [Region.seqB] using hB, h⟩
  | o :: l, k, listed, a, w, hl, hB, h => by
    have h0 : ops[k]? = some o := by simpa using (hl 0).symm
    simp only [List.length_cons, Region.seqB, Bool.and_eq_true, decide_eq_true_eq] at hB
    refine ⟨fun h1 => (by rw [hB.1] at h1; cases h1), fun i hi => ?_⟩
    rw [hB.1] at hi
    have hik : i = k := by simpa using hi
    subst hik
    have hw : wpOpIn (FR ro) DEP P ops Q i (wpListIn (FR ro) DEP P ops Q l) a w := by unfold wpOpIn; simp only [h0]; exact h
    exact wpOpIn_mono (fun a' w' h' => wpAnyIn_of_seq l (i + 1) _ a' w' (fun j => by have := hl (j + 1); simpa [Nat.add_assoc, Nat.add_comm 1 j] using this) hB.2 h') hw

/-- THE BEGINNING. -/
theorem SD.start {id : Nat} {a : Act} {W : World} (hm : P.follows .mixedOrders = true) (pl : List Pl) (hok : drawOk ops nh st pl = true) (ha : EOk n env a) (hs : Sat w0 X0 own X W)
    (hS : ∀ p ∈ ownS, p ∈ own) (h : SD ro P n w0 X0 ops Q nh st ownS X pl env own X) : (Code.region id ops true).wpIn (FR ro) DEP P Q a W := by
  simp only [drawOk, Bool.and_eq_true, decide_eq_true_eq] at hok
  obtain ⟨⟨⟨⟨hnd, hns⟩, htb⟩, hlen⟩, hp⟩ := hok
  refine wpIn_region_any hm ?_
  have hs' := hs.draw (W.drawn + 1)
  have inv : HeadInv .any ops nh (Array.replicate ops.size false) := ⟨by simp, (fun j oj _ hl => by rw [getD_replicate_false] at hl; cases hl), (fun t _ ht => by simp [ht])⟩
  have h1 := h (Array.replicate ops.size false) a _ hns hnd (tailWaits_of htb) inv hp ha hs' (fun _ => ⟨fun p hp => hs'.stab.own p (hS p hp), hs'.stab.pers⟩)
  have hsz : ops.size - nh = (ops.toList.drop nh).length := by simp
  have h2 := wpAny_of_hd (g := ops.size - nh) (fun listed a w (hL : tailL ro P ops Q nh listed a w) => by
    have := wpAnyIn_of_seq (P := P) (ops := ops) (Q := Q) (ro := ro) (ops.toList.drop nh) nh listed a w (fun j => by simp) (by rw [← hsz]; exact hL.1) hL.2
    rw [hsz]; exact this) _ _ _ _ h1
  rw [hlen] at h2
  exact h2
end
end Go.Proofs.YtnabbnhefjfegaaGreatDoor
namespace Go.Proofs.YtnabbnhefjfegaaGreatDoor
open Go.RowKit
inductive It where
  | code (c : Code)
  | blk (id : Nat)
  | cut (K : Act → World → Prop)
  | more (c : Code) (n : Nat)

section
variable {ro : Option Nat} {P : Program} {Q : Exit → Act → World → Prop}
/-- What is left to do leads to Q. some id: a block with that number is being left. -/
def runL (ro : Option Nat) (P : Program) (Q : Exit → Act → World → Prop) : List It → Option Nat → Act → World → Prop
  | [], none => Q .normal
  | [], some id => Q (.exit id)
  | .cut K :: _, none => K
  | .cut _ :: k, some id => runL ro P Q k (some id)
  | .blk _ :: k, none => runL ro P Q k none
  | .blk i :: k, some id => bif Nat.beq id i then runL ro P Q k none else runL ro P Q k (some id)
  | .code _ :: k, some id => runL ro P Q k (some id)
  | .more _ _ :: k, some id => runL ro P Q k (some id)
  | .more c n :: k, none => Code.roundsIn (FR ro) DEP P c (fun e => match e with
      | .normal => runL ro P Q k none
      | .exit id => runL ro P Q k (some id)
      | e => Q e) n
  | .code c :: k, none => fun a w => c.wpIn (FR ro) DEP P (fun e => match e with
      | .normal => runL ro P Q k none
      | .exit id => runL ro P Q k (some id)
      | e => Q e) a w

/-- The exits of what is left. -/
def contQ (ro : Option Nat) (P : Program) (Q : Exit → Act → World → Prop) (k : List It) : Exit → Act → World → Prop
  | .normal => runL ro P Q k none
  | .exit id => runL ro P Q k (some id)
  | e => Q e
theorem runL_code {c : Code} {k : List It} {a : Act} {w : World} (h : c.wpIn (FR ro) DEP P (contQ ro P Q k) a w) : runL ro P Q (.code c :: k) none a w := by
  unfold runL
  exact Code.wpIn_mono (fun e a w h => by cases e <;> exact h) h
theorem runL_code_iff {c : Code} {k : List It} {a : Act} {w : World} : runL ro P Q (.code c :: k) none a w ↔ c.wpIn (FR ro) DEP P (contQ ro P Q k) a w :=
  ⟨fun h => by unfold runL at h; exact Code.wpIn_mono (fun e a w h => by cases e <;> exact h) h, runL_code⟩

theorem runL_seq {x y : Code} {k : List It} {a : Act} {w : World} (h : runL ro P Q (.code x :: .code y :: k) none a w) : runL ro P Q (.code (.seq x y) :: k) none a w := by
  refine runL_code (wpIn_seq ?_)
  refine Code.wpIn_mono (fun e a w h => ?_) (runL_code_iff.1 h)
  cases e with
  | normal => exact runL_code_iff.1 h
  | exit id => exact h
  | _ => exact h
theorem runL_skip {k : List It} {a : Act} {w : World} (h : runL ro P Q k none a w) : runL ro P Q (.code .skip :: k) none a w := runL_code (wpIn_skip h)
theorem runL_block {id : Nat} {c : Code} {k : List It} {a : Act} {w : World} (h : runL ro P Q (.code c :: .blk id :: k) none a w) : runL ro P Q (.code (.block id c) :: k) none a w := by
  refine runL_code (wpIn_block ?_)
  refine Code.wpIn_mono (fun e a w h => ?_) (runL_code_iff.1 h)
  cases e with
  | exit id' =>
    simp only [contQ, runL] at h
    simp only [Exit.inBlock]
    by_cases e : id' = id
    · subst e; rw [if_pos rfl]; simpa [contQ] using h
    · have : Nat.beq id' id = false := by
        cases hb : Nat.beq id' id with
        | false => rfl
        | true => exact absurd (Nat.eq_of_beq_eq_true hb) e
      rw [if_neg e]; simpa [this, contQ] using h
  | normal => exact h
  | _ => exact h
theorem runL_exit {id : Nat} {k : List It} {a : Act} {w : World} (h : runL ro P Q k (some id) a w) : runL ro P Q (.code (.exit id) :: k) none a w := runL_code (wpIn_exit h)
theorem runL_ret {k : List It} {a : Act} {w : World} (h : Q .ret a w) : runL ro P Q (.code .ret :: k) none a w := runL_code (wpIn_ret h)
theorem runL_cond {c : Operand} {x y : Code} {k : List It} {a : Act} {w : World} {b : Bool} (hc : a.eval c = .bool b) (h : runL ro P Q (.code (bif b then x else y) :: k) none a w) : runL ro P Q (.code (.cond c x y) :: k) none a w := by
  refine runL_code (wpIn_cond hc ?_)
  have := runL_code_iff.1 h
  cases b <;> exact this

/-- A loop, by a ghost number that every round lowers. -/
theorem loop_ghost {c : Code} (I : Nat → Act → World → Prop) (round : ∀ m a w, I m a w → c.wpIn (FR ro) DEP P (Exit.then (fun a' w' => ∃ m', m' < m ∧ I m' a' w') Q) a w) :
    ∀ m a w, I m a w → (Code.loop c).wpIn (FR ro) DEP P Q a w := by
  have key : ∀ m a w, I m a w → ∀ k, m < k → Code.roundsIn (FR ro) DEP P c Q k a w := by
    intro m
    induction m using Nat.strongRecOn with
    | _ m ih =>
      intro a w h k hk
      obtain ⟨k', rfl⟩ : ∃ k', k = k' + 1 := ⟨k - 1, by omega⟩
      rw [roundsIn_succ]
      refine Code.wpIn_mono (fun e a' w' h' => ?_) (round m a w h)
      cases e with
      | normal => obtain ⟨m', hlt, hI⟩ := h'; exact ih m' hlt a' w' hI k' (by omega)
      | _ => exact h'
  intro m a w h
  exact wpIn_loop_rounds (m + 1) (key m a w h _ (Nat.lt_succ_self m))
end
section
variable {ro : Option Nat} {P : Program} {n : NM} {w0 : Base} {X0 X : PMap} {own : Own} {env : Env} {Q : Exit → Act → World → Prop}
def T (ro : Option Nat) (P : Program) (n : NM) (w0 : Base) (X0 : PMap) (Q : Exit → Act → World → Prop) (todo : List It) (e : Option Nat) (env : Env) (own : Own) (X : PMap) : Prop :=
  ∀ a W, EOk n env a → Sat w0 X0 own X W → runL ro P Q todo e a W

theorem T.seq {x y : Code} {k : List It} (h : T ro P n w0 X0 Q (.code x :: .code y :: k) none env own X) : T ro P n w0 X0 Q (.code (.seq x y) :: k) none env own X := fun a W ha hs => runL_seq (h a W ha hs)
theorem T.skip {k : List It} (h : T ro P n w0 X0 Q k none env own X) : T ro P n w0 X0 Q (.code .skip :: k) none env own X := fun a W ha hs => runL_skip (h a W ha hs)
theorem T.block {id : Nat} {c : Code} {k : List It} (h : T ro P n w0 X0 Q (.code c :: .blk id :: k) none env own X) : T ro P n w0 X0 Q (.code (.block id c) :: k) none env own X := fun a W ha hs => runL_block (h a W ha hs)
theorem T.blk {id : Nat} {k : List It} (h : T ro P n w0 X0 Q k none env own X) : T ro P n w0 X0 Q (.blk id :: k) none env own X := h
theorem T.exit {id : Nat} {k : List It} (h : T ro P n w0 X0 Q k (some id) env own X) : T ro P n w0 X0 Q (.code (.exit id) :: k) none env own X := fun a W ha hs => runL_exit (h a W ha hs)
theorem T.exitCode {id : Nat} {c : Code} {k : List It} (h : T ro P n w0 X0 Q k (some id) env own X) : T ro P n w0 X0 Q (.code c :: k) (some id) env own X := h
theorem T.exitCut {id : Nat} {K : Act → World → Prop} {k : List It} (h : T ro P n w0 X0 Q k (some id) env own X) : T ro P n w0 X0 Q (.cut K :: k) (some id) env own X := h
theorem T.exitBlk {id : Nat} {k : List It} (h : T ro P n w0 X0 Q k none env own X) : T ro P n w0 X0 Q (.blk id :: k) (some id) env own X := fun a W ha hs => by
  have : Nat.beq id id = true := Nat.beq_refl id
  simpa [runL, this] using h a W ha hs
theorem T.cond {c : Operand} {x y : Code} {k : List It} {b : Bool} (hc : eev env c = some (.bool b)) (h : T ro P n w0 X0 Q (.code (bif b then x else y) :: k) none env own X) : T ro P n w0 X0 Q (.code (.cond c x y) :: k) none env own X :=
  fun a W ha hs => runL_cond (ha.eval hc) (h a W ha hs)
theorem T.condT {c : Operand} {x y : Code} {k : List It} (hc : eev env c = some (.bool true)) (h : T ro P n w0 X0 Q (.code x :: k) none env own X) : T ro P n w0 X0 Q (.code (.cond c x y) :: k) none env own X := T.cond hc h
theorem T.condF {c : Operand} {x y : Code} {k : List It} (hc : eev env c = some (.bool false)) (h : T ro P n w0 X0 Q (.code y :: k) none env own X) : T ro P n w0 X0 Q (.code (.cond c x y) :: k) none env own X := T.cond hc h
theorem T.region {id : Nat} {ops : List Oper} {k : List It} (h : SL ro P n w0 X0 ops.toArray (contQ ro P Q k) ops env own X) : T ro P n w0 X0 Q (.code (.region id ops.toArray false) :: k) none env own X :=
  fun a W ha hs => runL_code (wpIn_region_lit (h a W ha hs))
theorem T.draw {id : Nat} {ops : Array Oper} {k : List It} (hm : P.follows .mixedOrders = true) (nh : Nat) (pl : List Pl) (hok : drawOk ops nh none pl = true)
    (h : SD ro P n w0 X0 ops (contQ ro P Q k) nh none own X pl env own X) : T ro P n w0 X0 Q (.code (.region id ops true) :: k) none env own X :=
  fun _ _ ha hs => runL_code (SD.start hm pl hok ha hs (fun _ h => h) h)
theorem T.drawS {id : Nat} {ops : Array Oper} {k : List It} (s : Nat) (hm : P.follows .mixedOrders = true) (nh : Nat) (pl : List Pl) (hok : drawOk ops nh (some s) pl = true)
    (h : SD ro P n w0 X0 ops (contQ ro P Q k) nh (some s) own X pl env own X) : T ro P n w0 X0 Q (.code (.region id ops true) :: k) none env own X :=
  fun _ _ ha hs => runL_code (SD.start hm pl hok ha hs (fun _ h => h) h)
theorem T.drawG {id : Nat} {ops : Array Oper} {k : List It} {own0 G : Own} (hm : P.follows .mixedOrders = true) (nh : Nat) (pl : List Pl) (hok : drawOk ops nh none pl = true)
    (h : SD ro P n w0 X0 ops (contQ ro P Q k) nh none own0 X pl env (own0 ++ G) X) : T ro P n w0 X0 Q (.code (.region id ops true) :: k) none env (own0 ++ G) X :=
  fun _ _ ha hs => runL_code (SD.start hm pl hok ha hs (fun _ h => List.mem_append_left _ h) h)
/-- The end of a region: on with the rest. -/
theorem SL.nil {ops : Array Oper} {k : List It} (h : T ro P n w0 X0 Q k none env own X) : SL ro P n w0 X0 ops (contQ ro P Q k) [] env own X := h
theorem T.weaken {k : List It} {e : Option Nat} {env' : Env} (hw : ∀ t v, eget env' t = some v → eget env t = some v) (h : T ro P n w0 X0 Q k e env' own X) : T ro P n w0 X0 Q k e env own X := fun a W ha hs => h a W (ha.weaken hw) hs

theorem T.exitMore {id m : Nat} {c : Code} {k : List It} (h : T ro P n w0 X0 Q k (some id) env own X) : T ro P n w0 X0 Q (.more c m :: k) (some id) env own X := h
/-- A loop of at most m rounds, round by round. -/
theorem T.unrollStart {c : Code} {k : List It} (m : Nat) (h : T ro P n w0 X0 Q (.more c m :: k) none env own X) : T ro P n w0 X0 Q (.code (.loop c) :: k) none env own X := fun a W ha hs => by
  refine runL_code (wpIn_loop_rounds m ?_)
  have := h a W ha hs
  unfold runL at this
  have e : (fun e => match e with
      | .normal => runL ro P Q k none
      | .exit id => runL ro P Q k (some id)
      | e => Q e) = contQ ro P Q k := by funext e; cases e <;> rfl
  rwa [e] at this
theorem T.unroll {c : Code} {k : List It} {m : Nat} (h : T ro P n w0 X0 Q (.code c :: .more c m :: k) none env own X) : T ro P n w0 X0 Q (.more c (m + 1) :: k) none env own X := fun a W ha hs => by
  have := runL_code_iff.1 (h a W ha hs)
  unfold runL
  rw [roundsIn_succ]
  refine Code.wpIn_mono (fun e a w h => ?_) this
  cases e with
  | normal => simp only [contQ, runL] at h; exact h
  | exit id => exact h
  | _ => exact h
/-- A family of states: where a loop's rounds begin. -/
def Fam := Nat → Env → Own → PMap → Prop
def Fam.at (n : NM) (w0 : Base) (X0 : PMap) (I : Fam) (m : Nat) (a : Act) (W : World) : Prop := ∃ env own X, I m env own X ∧ EOk n env a ∧ Sat w0 X0 own X W
/-- Where the walk comes back to the head of a loop. -/
def backTo (n : NM) (w0 : Base) (X0 : PMap) (I : Fam) (m : Nat) : It := .cut fun a W => ∃ m', m' < m ∧ Fam.at n w0 X0 I m' a W
theorem T.loop {c : Code} {k : List It} (I : Fam) (m : Nat) (h0 : I m env own X)
    (round : ∀ m env own X, I m env own X → T ro P n w0 X0 Q (.code c :: backTo n w0 X0 I m :: k) none env own X) : T ro P n w0 X0 Q (.code (.loop c) :: k) none env own X := by
  intro a W ha hs
  refine runL_code (loop_ghost (Fam.at n w0 X0 I) ?_ m a W ⟨env, own, X, h0, ha, hs⟩)
  rintro m a W ⟨env, own, X, hI, ha, hs⟩
  refine Code.wpIn_mono (fun e a w h => ?_) (runL_code_iff.1 (round m env own X hI a W ha hs))
  cases e with
  | normal => exact h
  | exit id => exact h
  | _ => exact h
theorem T.back {I : Fam} {m : Nat} {k : List It} (m' : Nat) (hm : m' < m) {env' : Env} (hI : I m' env' own X) (hw : ∀ t v, eget env' t = some v → eget env t = some v) : T ro P n w0 X0 Q (backTo n w0 X0 I m :: k) none env own X :=
  fun _ _ ha hs => ⟨m', hm, env', own, X, hI, ha.weaken hw, hs⟩
end
/-- What a call leaves: a value of which Φ holds over a map that grew by blocks that are new; nothing that was there has changed. -/
def Fin (w0 : World) (X0 : PMap) (Φ : Value → PMap → Prop) (e : Ending) (w' : World) : Prop :=
  ∃ v X', e = .returned v ∧ Below w0.heap.size w0 w' ∧ PIn X' w' ∧ (∀ k, k < w0.heap.size → X' k = X0 k) ∧ Φ v X'
def Spec (P : Program) (f : FuncId) (args : List Value) (X0 : PMap) (Φ : Value → PMap → Prop) : Prop := ∀ w, PIn X0 w → Calls P f args.toArray w (Fin w X0 Φ)
theorem Spec.mono {P : Program} {f : FuncId} {args : List Value} {X0 : PMap} {Φ Ψ : Value → PMap → Prop} (h : Spec P f args X0 Φ) (hm : ∀ v X, X0.le X → Φ v X → Ψ v X) : Spec P f args X0 Ψ := fun w hw =>
  (h w hw).mono fun _ _ ⟨v, X', he, hb, hp, hk, hΦ⟩ => ⟨v, X', he, hb, hp, hk, hm v X' (fun k _ hx => (hk k (hw.lt hx)).trans hx) hΦ⟩

/-- What a body must achieve: it comes back; the marks are taken. -/
def bodyQ (P : Program) (fn : Func) (R : Ending → World → Prop) : Exit → Act → World → Prop
  | .normal, a, w | .ret, a, w => LeavesInM (FR none) DEP P fn a.tmps R a.defers .returning w
  | _, _, _ => False
theorem bodyQ_post {P : Program} {fn : Func} {R : Ending → World → Prop} : ∀ e a w, bodyQ P fn R e a w → bodyPostM (FR none) DEP P fn R e a w := by
  intro e a w h
  cases e <;> first | exact h | exact h.elim
def markOf (D : Nat) : Deferred := { target := .collected D, args := #[] }
def MarkObj : Obj := .deferred (some [])
def takes : List Nat → World → World
  | [], W => W
  | D :: Ds, W => takes Ds (W.putObj D (.deferred none))
theorem leaves_marks {P : Program} {fn : Func} {tmps : Array Value} {R : Ending → World → Prop} : ∀ (Ds : List Nat) (W : World), Ds.Nodup → (∀ D ∈ Ds, W.heap[D]? = some MarkObj) → (∃ v, (results fn tmps).run P (takes Ds W) = .ok v (takes Ds W) ∧ R (.returned v) (takes Ds W)) →
    LeavesInM (FR none) DEP P fn tmps R (Ds.map markOf) .returning W
  | [], W, _, _, h => h
  | D :: Ds, W, hn, hD, h => by
    have hn' := List.nodup_cons.1 hn
    refine ⟨by simp, .inl ⟨D, W.putObj D (.deferred none), rfl, run_takeDeferred (hD D (by simp)), leaves_marks Ds _ hn'.2 (fun E hE => ?_) h⟩⟩
    have hne : D ≠ E := fun e => hn'.1 (e ▸ hE)
    exact (World.putObj_heap_other (Ne.symm hne)).trans (hD E (by simp [hE]))
theorem takes_far : ∀ (Ds : List Nat) (W : World) (k : Nat), k ∉ Ds → (takes Ds W).heap[k]? = W.heap[k]?
  | [], _, _, _ => rfl
  | D :: Ds, W, k, h => by
    simp only [List.mem_cons, not_or] at h
    rw [takes, takes_far Ds _ k h.2]
    exact World.putObj_heap_other h.1
theorem takes_below {B : Nat} : ∀ (Ds : List Nat) (A W : World), Below B A W → B ≤ W.heap.size → (∀ D ∈ Ds, B ≤ D) → Below B A (takes Ds W)
  | [], _, _, h, _, _ => h
  | D :: Ds, A, W, h, hB, hD => takes_below Ds A _ (h.grown (grownBy_putObj' W D _) hB (fun k e => by cases e; exact hD D (by simp))) (by simpa [World.putObj] using hB) fun E hE => hD E (by simp [hE])
/-- The marks that wait are those of the blocks that are held fast. -/
def Marks (n : NM) (w0 : Base) : Prop := ∃ Ds : List Nat, n.marks = Ds.map markOf ∧ w0.res = Ds.map (fun D => (D, MarkObj)) ∧ Ds.Nodup

def argEnv : Nat → List Value → Env
  | _, [] => []
  | i, v :: vs => (i, v) :: argEnv (i + 1) vs
theorem eget_argEnv : ∀ (vs : List Value) (i t : Nat) (v : Value), eget (argEnv i vs) t = some v → i ≤ t ∧ vs[t - i]? = some v
  | [], _, _, _, h => by simp [argEnv, eget] at h
  | u :: vs, i, t, v, h => by
    simp only [argEnv, eget] at h
    cases hb : Nat.beq i t with
    | true =>
      have : i = t := Nat.eq_of_beq_eq_true hb
      subst this
      rw [hb] at h
      simpa using h
    | false =>
      rw [hb] at h
      have hne : i ≠ t := Nat.ne_of_beq_eq_false hb
      obtain ⟨h1, h2⟩ := eget_argEnv vs (i + 1) t v h
      refine ⟨by omega, ?_⟩
      rw [show t - i = (t - (i + 1)) + 1 by omega]
      simpa using h2

/-- THE BEGINNING OF A FUNCTION. -/
theorem Calls.enter {P : Program} {f : FuncId} {fn : Func} {c : Code} {args : List Value} {X0 : PMap} {R : Ending → World → Prop} {w : World} (hf : P.funcs[f]? = some fn) (hb : fn.body = some c) {n : Nat} (hn : fn.ntmps = n) (hl : Nat.ble args.length n = true) (hw : PIn X0 w)
    (h : T none P ⟨n, []⟩ ⟨w, []⟩ X0 (bodyQ P fn R) [.code c] none (argEnv 0 args) [] X0) : Calls P f args.toArray w R := by
  have hl' : args.length ≤ n := Nat.le_of_ble_eq_true hl
  refine (fr_calls (ro := none) (m := DEP)).1 (callsIn_of_wp_marks (F := FR none) hf hb trivial ?_)
  have := h { tmps := args.toArray ++ Array.replicate (fn.ntmps - args.toArray.size) undef, defers := [] } w ⟨rfl, by simp; omega, fun t v ht => ?_⟩ (Sat.start w hw)
  · refine Code.wpIn_mono (fun e a w h => bodyQ_post _ _ _ ?_) (runL_code_iff.1 this)
    cases e <;> exact h
  · obtain ⟨_, h2⟩ := eget_argEnv _ _ _ _ ht
    simp only [Nat.sub_zero] at h2
    have hlt : t < args.length := by
      rcases Nat.lt_or_ge t args.length with h1 | h1
      · exact h1
      · rw [List.getElem?_eq_none h1] at h2; cases h2
    rw [List.getElem?_eq_getElem hlt] at h2
    simp only [Option.some.injEq] at h2
    subst h2
    have : t < args.length + (n - args.length) := by omega
    simp [Array.getD, hn, this, hlt]
theorem Spec.enter {P : Program} {f : FuncId} {fn : Func} {c : Code} {args : List Value} {X0 : PMap} {Φ : Value → PMap → Prop} (hf : P.funcs[f]? = some fn) (hb : fn.body = some c) {n : Nat} (hn : fn.ntmps = n) (hl : Nat.ble args.length n = true)
    (h : ∀ w, PIn X0 w → T none P ⟨n, []⟩ ⟨w, []⟩ X0 (bodyQ P fn (Fin w X0 Φ)) [.code c] none (argEnv 0 args) [] X0) : Spec P f args X0 Φ := fun w hw => Calls.enter hf hb hn hl hw (h w hw)

section
variable {ro : Option Nat} {P : Program} {n : NM} {w0 : Base} {X0 X : PMap} {own : Own} {env : Env} {fn : Func} {Φ : Value → PMap → Prop}
theorem panicBody {R : Ending → World → Prop} {k : List It} {d : Option Tmp} {v : Value} : ∀ c a w, contQ ro P (bodyQ P fn R) k (.panic c) (a.put d v) w → contQ ro P (bodyQ P fn R) k (.panic c) a w := by
  intro c a w h
  cases d <;> exact h

/-- A cell, or a row of cells, of a block. -/
def cread (row : Bool) (size : Nat) (cs : List Value) (i : Nat) : Option Value :=
  bif row then (bif Nat.ble (i + size) cs.length then some (.agg ((cs.drop i).take size).toArray) else none) else cs[i]?
/-- What is known of a type. -/
structure Ty (P : Program) (t : TypeId) (row : Bool) (size : Nat) : Prop where
  und : ∃ d, P.underlying t = some d ∧ d.isRow = row
  info : (P.info? t).map (·.size) = some size
theorem isAgg_row {t : TypeId} {d : TypeDesc} (h : P.underlying t = some d) (w : World) : (isAgg t).run P w = .ok d.isRow w := by
  unfold isAgg
  rw [Sem.run_bind, run_underlying h w]
  cases d <;> rfl
theorem run_loadVar_cells {t : TypeId} {row : Bool} {size : Nat} (ht : Ty P t row size) {b i : Nat} {cs : List Value} {v : Value} {W : World} (hc : ∀ j u, cs[j]? = some u → W.cell? ⟨b, j, none⟩ = some u) (hv : cread row size cs i = some v) :
    (loadVar t ⟨b, i, none⟩).run P W = .ok v W := by
  obtain ⟨d, hd, hrow⟩ := ht.und
  cases row with
  | true =>
    simp only [cread, cond_true] at hv
    cases hb : Nat.ble (i + size) cs.length with
    | false => rw [hb] at hv; cases hv
    | true =>
      rw [hb] at hv
      have hle : i + size ≤ cs.length := Nat.le_of_ble_eq_true hb
      have hv' : v = .agg ((cs.drop i).take size).toArray := by simpa using hv.symm
      subst hv'
      refine run_loadVar_mid W b i t ((cs.drop i).take size) d (fun j u hu => ?_) hd hrow (by rw [ht.info]; simp; omega)
      rw [List.getElem?_take] at hu
      split at hu
      · rw [List.getElem?_drop] at hu; exact hc _ _ hu
      · cases hu
  | false =>
    have hv' : cs[i]? = some v := by simpa [cread] using hv
    have hcell := hc i v hv'
    simp [loadVar, Sem.run_bind, isAgg_row hd W, hrow, load, Sem.run, hcell, Result.andThen]

/-- The value of a result variable. -/
inductive ResIs (P : Program) (env : Env) (own : Own) : ResultVar → Value → Prop
  | tmp {t : Tmp} {v : Value} : eget env t = some v → ResIs P env own (.tmp t) v
  | cell {p : Tmp} {t : TypeId} {row : Bool} {size b i j sz : Nat} {cs : List Value} {ty : TypeId} {v : Value} : eget env p = some (.pointer (some ⟨b, i, none⟩)) → Ty P t row size → AtO own b cs ty sz j → cread row size cs i = some v → ResIs P env own (.cell p t) v
inductive ResAll (P : Program) (env : Env) (own : Own) : List ResultVar → List Value → Prop
  | nil : ResAll P env own [] []
  | cons {r : ResultVar} {v : Value} {rs : List ResultVar} {vs : List Value} : ResIs P env own r v → ResAll P env own rs vs → ResAll P env own (r :: rs) (v :: vs)
theorem run_cell {p : Tmp} {t : TypeId} {v : Value} {a : Act} {W : World} (ha : EOk n env a) (hs : Stab own X W) {row : Bool} {size b i j sz : Nat} {cs : List Value} {ty : TypeId} (hp : eget env p = some (.pointer (some ⟨b, i, none⟩))) (ht : Ty P t row size) (ho : AtO own b cs ty sz j) (hv : cread row size cs i = some v) :
    a.tmps.getD p undef = .pointer (some ⟨b, i, none⟩) ∧ (loadVar t ⟨b, i, none⟩).run P W = .ok v W :=
  ⟨ha.get _ _ hp, run_loadVar_cells (W := W) ht (fun _ _ hu => (hs.own _ ho.mem).cell hu) hv⟩
theorem run_results0 (hr : fn.results = #[]) {a : Act} {W : World} : (results fn a.tmps).run P W = .ok (.tuple #[]) W := results_none hr _ _ _
theorem run_results1 {r : ResultVar} {v : Value} (hr : fn.results = #[r]) (h : ResIs P env own r v) {a : Act} {W : World} (ha : EOk n env a) (hs : Stab own X W) : (results fn a.tmps).run P W = .ok v W := by
  cases h with
  | tmp h => simp [results, hr, ← ha.get _ _ h]
  | cell hp ht ho hv =>
    obtain ⟨h1, h2⟩ := run_cell ha hs hp ht ho hv
    rw [Array.getD_eq_getD_getElem?] at h1
    simp [results, hr, h1, asAddr, h2]
theorem run_results2 {r r' : ResultVar} {v v' : Value} (hr : fn.results = #[r, r']) (h : ResIs P env own r v) (h' : ResIs P env own r' v') {a : Act} {W : World} (ha : EOk n env a) (hs : Stab own X W) : (results fn a.tmps).run P W = .ok (.tuple #[v, v']) W := by
  cases h with
  | tmp h =>
    have h0 := ha.get _ _ h
    rw [Array.getD_eq_getD_getElem?] at h0
    cases h' with
    | tmp h' =>
      have h0' := ha.get _ _ h'
      rw [Array.getD_eq_getD_getElem?] at h0'
      simp [results, hr, h0, h0']
    | cell hp ht ho hv =>
      obtain ⟨h1, h2⟩ := run_cell ha hs hp ht ho hv
      rw [Array.getD_eq_getD_getElem?] at h1
      simp [results, hr, h0, h1, asAddr, h2, Result.andThen]
  | cell hp ht ho hv =>
    obtain ⟨h1, h2⟩ := run_cell ha hs hp ht ho hv
    rw [Array.getD_eq_getD_getElem?] at h1
    cases h' with
    | tmp h' =>
      have h0' := ha.get _ _ h'
      rw [Array.getD_eq_getD_getElem?] at h0'
      simp [results, hr, h1, asAddr, h2, Result.andThen, h0']
    | cell hp ht ho hv =>
      obtain ⟨h3, h4⟩ := run_cell ha hs hp ht ho hv
      rw [Array.getD_eq_getD_getElem?] at h3
      simp [results, hr, h1, h3, asAddr, h2, h4, Sem.run_bind, Result.andThen]
theorem run_results3 {t t' t'' : Tmp} {v v' v'' : Value} (hr : fn.results = #[.tmp t, .tmp t', .tmp t'']) (h : eget env t = some v) (h' : eget env t' = some v') (h'' : eget env t'' = some v'') {a : Act} {W : World} (ha : EOk n env a) : (results fn a.tmps).run P W = .ok (.tuple #[v, v', v'']) W := by
  have h0 := ha.get _ _ h
  have h1 := ha.get _ _ h'
  have h2 := ha.get _ _ h''
  rw [Array.getD_eq_getD_getElem?] at h0 h1 h2
  simp [results, hr, h0, h1, h2]

/-- THE RETURN. -/
theorem leave_all {R : Ending → World → Prop} {v : Value} (hM : Marks n w0) {a : Act} {W : World} (ha : EOk n env a) (hs : Sat w0 X0 own X W) (hr : ∀ W, Stab own X W → (results fn a.tmps).run P W = .ok v W)
    (hR : ∀ W', Below w0.heap.size w0.w W' → PIn X W' → R (.returned v) W') : LeavesInM (FR none) DEP P fn a.tmps R a.defers .returning W := by
  obtain ⟨Ds, h1, h2, h3⟩ := hM
  rw [ha.defers, h1]
  have hres : ∀ D ∈ Ds, W.heap[D]? = some MarkObj ∧ X D = none ∧ (∀ q ∈ own, q.b ≠ D) ∧ w0.w.heap.size ≤ D := fun D hD => hs.res (D, MarkObj) (by rw [h2]; exact List.mem_map_of_mem hD)
  have hst : Stab own X (takes Ds W) := by
    refine ⟨fun p hp => ?_, fun k o hk => ?_⟩
    · obtain ⟨r, hr, hz⟩ := hs.stab.own p hp
      exact ⟨r, (takes_far Ds W p.b (fun hm => (hres _ hm).2.2.1 p hp rfl)).trans hr, hz⟩
    · refine (takes_far Ds W k (fun hm => ?_)).trans (hs.stab.pers k o hk)
      have := (hres _ hm).2.1
      rw [this] at hk; cases hk
  exact leaves_marks Ds W h3 (fun D hD => (hres D hD).1) ⟨v, hr _ hst, hR _ (takes_below Ds _ _ hs.below hs.below.size fun D hD => (hres D hD).2.2.2) hst.pers⟩
theorem T.ret {v : Value} {k : List It} (hr : ∀ a W, EOk n env a → Stab own X W → (results fn a.tmps).run P W = .ok v W) (hΦ : Φ v X) (hM : Marks n w0) : T ro P n w0 X0 (bodyQ P fn (Fin w0.w X0 Φ)) (.code .ret :: k) none env own X :=
  fun a _ ha hs => runL_ret (leave_all hM ha hs (fun _ h => hr a _ ha h) fun _ h1 h2 => ⟨v, X, rfl, h1, h2, hs.old, hΦ⟩)
theorem T.ret1 {k : List It} {r : ResultVar} {v : Value} (hr : fn.results = #[r]) (h : ResIs P env own r v) (hΦ : Φ v X) (hM : Marks n w0 := by first | exact ⟨[], rfl, rfl, .nil⟩ | exact ⟨[_], rfl, rfl, by simp⟩) : T ro P n w0 X0 (bodyQ P fn (Fin w0.w X0 Φ)) (.code .ret :: k) none env own X := T.ret (fun _ _ ha hs => run_results1 hr h ha hs) hΦ hM
theorem T.ret2 {k : List It} {r r' : ResultVar} {v v' : Value} (hr : fn.results = #[r, r']) (h : ResIs P env own r v) (h' : ResIs P env own r' v') (hΦ : Φ (.tuple #[v, v']) X) (hM : Marks n w0 := by first | exact ⟨[], rfl, rfl, .nil⟩ | exact ⟨[_], rfl, rfl, by simp⟩) : T ro P n w0 X0 (bodyQ P fn (Fin w0.w X0 Φ)) (.code .ret :: k) none env own X := T.ret (fun _ _ ha hs => run_results2 hr h h' ha hs) hΦ hM
theorem T.ret3 {k : List It} {t t' t'' : Tmp} {v v' v'' : Value} (hr : fn.results = #[.tmp t, .tmp t', .tmp t'']) (h : eget env t = some v) (h' : eget env t' = some v') (h'' : eget env t'' = some v'') (hΦ : Φ (.tuple #[v, v', v'']) X) (hM : Marks n w0 := by first | exact ⟨[], rfl, rfl, .nil⟩ | exact ⟨[_], rfl, rfl, by simp⟩) : T ro P n w0 X0 (bodyQ P fn (Fin w0.w X0 Φ)) (.code .ret :: k) none env own X := T.ret (fun _ _ ha _ => run_results3 hr h h' h'' ha) hΦ hM

/-- An own block is made public: it will not change any more. -/
def PMap.add (X : PMap) (b : Nat) (o : Obj) : PMap := fun k => if k = b then some o else X k
/-- In the map: block b holds these cells first. -/
def Blk (X : PMap) (b : Nat) (cs : List Value) : Prop := ∃ (rest : List Value) (ty : TypeId) (fr : Nat × Nat), X b = some (.cells (cs ++ rest).toArray ty fr)
theorem Blk.mono {X X' : PMap} {b : Nat} {cs : List Value} (h : Blk X b cs) (hX : X.le X') : Blk X' b cs := let ⟨r, t, f, hr⟩ := h; ⟨r, t, f, hX _ _ hr⟩
theorem SatC.pub {w0 : World} {W : World} (h : SatC w0 X0 own X W) {b : Nat} {cs : List Value} {ty : TypeId} {sz j : Nat} (hj : AtO own b cs ty sz j) : ∃ X', X.le X' ∧ Blk X' b cs ∧ (∀ k, k ≠ b → X' k = X k) ∧ SatC w0 X0 (own.eraseIdx j) X' W := by
  have hm := hj.mem
  obtain ⟨r, hr, _⟩ := h.stab.own _ hm
  have hXb := h.apart _ hm
  have hjl : j < own.length := by
    have := hj.get
    rcases Nat.lt_or_ge j own.length with h1 | h1
    · exact h1
    · rw [List.getElem?_eq_none h1] at this; cases this
  have hjv : own[j] = ⟨b, cs, ty, sz⟩ := by have := hj.get; rw [List.getElem?_eq_getElem hjl] at this; exact Option.some.inj this
  have hsub : ∀ q ∈ own.eraseIdx j, q ∈ own ∧ q.b ≠ b := fun q hq => by
    refine ⟨List.mem_of_mem_eraseIdx hq, ?_⟩
    obtain ⟨k, hk, hkj, rfl⟩ := List.mem_eraseIdx_iff_getElem.1 hq
    have hp := List.pairwise_iff_getElem.1 h.nodup
    rcases Nat.lt_or_gt_of_ne hkj with hlt | hgt
    · have := hp k j hk hjl hlt; rw [hjv] at this; exact this
    · have := hp j k hjl hk hgt; rw [hjv] at this; exact fun e => this e.symm
  refine ⟨X.add b (.cells (cs ++ r).toArray ty (0, 0)), fun k o hk => ?_, ⟨r, ty, (0, 0), by simp [PMap.add]⟩, fun k hk => by simp [PMap.add, hk], h.below, fun k hk => ?_, ⟨fun q hq => h.stab.own q (hsub q hq).1, fun k o hk => ?_⟩, fun q hq => h.new q (hsub q hq).1, fun q hq => ?_, ?_⟩
  · unfold PMap.add
    split
    · rename_i e; subst e; rw [hXb] at hk; cases hk
    · exact hk
  · have hne : k ≠ b := fun e => by have := h.new _ hm; simp only at this; omega
    simp only [PMap.add, if_neg hne]
    exact h.old k hk
  · unfold PMap.add at hk
    split at hk
    · rename_i e; subst e; cases hk; exact hr
    · exact h.stab.pers k o hk
  · simp only [PMap.add, if_neg (hsub q hq).2]
    exact h.apart q (hsub q hq).1
  · exact h.nodup.sublist (List.eraseIdx_sublist ..)
theorem Sat.pub {W : World} (h : Sat w0 X0 own X W) {b : Nat} {cs : List Value} {ty : TypeId} {sz j : Nat} (hj : AtO own b cs ty sz j) : ∃ X', X.le X' ∧ Blk X' b cs ∧ (∀ k, k ≠ b → X' k = X k) ∧ Sat w0 X0 (own.eraseIdx j) X' W := by
  obtain ⟨X', h1, h2, h3, h4⟩ := h.toSatC.pub hj
  refine ⟨X', h1, h2, h3, h4, fun p hp => ?_⟩
  obtain ⟨g1, g2, g3, g4⟩ := h.res p hp
  exact ⟨g1, (h3 _ (fun e => g3 _ hj.mem e.symm)).trans g2, fun q hq => g3 q (List.mem_of_mem_eraseIdx hq), g4⟩
theorem SD.pub {Q : Exit → Act → World → Prop} {ops : Array Oper} {nh : Nat} {st : Option Nat} {ownS : Own} {XS : PMap} {pl : List Pl} (b : Nat) {cs : List Value} {ty : TypeId} {sz j : Nat} (hj : AtO own b cs ty sz j)
    (h : ∀ X', X.le X' → Blk X' b cs → (∀ k, k ≠ b → X' k = X k) → SD ro P n w0 X0 ops Q nh st ownS XS pl env (own.eraseIdx j) X') : SD ro P n w0 X0 ops Q nh st ownS XS pl env own X := by
  intro listed a W hns hnd ht inv hp ha hs hst
  obtain ⟨X', h1, h2, h3, h4⟩ := hs.pub hj
  exact h X' h1 h2 h3 listed a W hns hnd ht inv hp ha h4 hst
theorem T.pub {Q : Exit → Act → World → Prop} {k : List It} {e : Option Nat} (b : Nat) {cs : List Value} {ty : TypeId} {sz j : Nat} (hj : AtO own b cs ty sz j)
    (h : ∀ X', X.le X' → Blk X' b cs → (∀ k, k ≠ b → X' k = X k) → T ro P n w0 X0 Q k e env (own.eraseIdx j) X') : T ro P n w0 X0 Q k e env own X := by
  intro a W ha hs
  obtain ⟨X', h1, h2, h3, h4⟩ := hs.pub hj
  exact h X' h1 h2 h3 a W ha h4
end
end Go.Proofs.YtnabbnhefjfegaaGreatDoor
namespace Go.Proofs.YtnabbnhefjfegaaGreatDoor
open Go.RowKit
section
variable {P : Program} {n : NM} {w0 : Base} {X0 X : PMap} {own : Own} {env : Env}
theorem op_move {x : Operand} {v : Value} (hx : eev env x = some v) : OpY P n env own X (.move x) v := by
  intro a W oper ho ha _
  simp [execOp, ho, ha.eval hx]
theorem op_assign {x : Operand} {v : Value} (hx : eev env x = some v) : OpY P n env own X (.assign x) v := by
  intro a W oper ho ha _
  simp [execOp, ho, ha.eval hx]
theorem op_pickT {c x y : Operand} {v : Value} (hc : eev env c = some (.bool true)) (hx : eev env x = some v) : OpY P n env own X (.pick c x y) v := by
  intro a W oper ho ha _
  simp [execOp, ho, ha.eval hc, ha.eval hx, asBool]
theorem op_pickF {c x y : Operand} {v : Value} (hc : eev env c = some (.bool false)) (hy : eev env y = some v) : OpY P n env own X (.pick c x y) v := by
  intro a W oper ho ha _
  simp [execOp, ho, ha.eval hc, ha.eval hy, asBool]
theorem op_extract {x : Operand} {i : Nat} {vs : Array Value} {v : Value} (hx : eev env x = some (.tuple vs)) (hi : vs[i]? = some v) : OpY P n env own X (.extract x i) v := by
  intro a W oper ho ha _
  simp [execOp, ho, ha.eval hx, Instr.extract, hi]
theorem op_not {x : Operand} {ty : TypeId} {b : Bool} (hx : eev env x = some (.bool b)) : OpY P n env own X (.unOp .not ty x) (.bool (!b)) := by
  intro a W oper ho ha _
  simp [execOp, ho, ha.eval hx, Op.unary]
theorem op_nil {x : Operand} {a0 : Addr} (hx : eev env x = some (.pointer (some a0))) : OpY P n env own X (.nilCheck x) (.pointer (some a0)) := by
  intro a W oper ho ha _
  simp [execOp, ho, ha.eval hx]
theorem op_makeFunc {fn : Fn} {fs cs : Array Operand} {vs us : List Value} (hf : fs.toList.map (eev env) = vs.map some) (hc : cs.toList.map (eev env) = us.map some) : OpY P n env own X (.makeFunc fn fs cs) (.func fn vs.toArray us.toArray) := by
  intro a W oper ho ha _
  have all : ∀ (xs : List Operand) (vs : List Value), xs.map (eev env) = vs.map some → xs.map a.eval = vs := by
    intro xs
    induction xs with
    | nil => intro vs h; cases vs <;> simp_all
    | cons x xs ih =>
      intro vs h
      cases vs with
      | nil => simp at h
      | cons v vs =>
        simp only [List.map_cons, List.cons.injEq] at h
        simp [ha.eval h.1, ih vs h.2]
  have h1 : fs.map a.eval = vs.toArray := by apply Array.toList_inj.1; simp [all _ _ hf]
  have h2 : cs.map a.eval = us.toArray := by apply Array.toList_inj.1; simp [all _ _ hc]
  simp [execOp, ho, Instr.makeFunc, h1, h2]

section
variable {t t' : TypeId} {x y : Operand} {k : IntKind} {p q : Int}
theorem op_cmp {op : BinOp} {b : Bool} (hx : eev env x = some (.int k p)) (hy : eev env y = some (.int k q)) (hb : Op.intCmp op p q = pure (.bool b)) (ho : op = .lss ∨ op = .leq ∨ op = .gtr ∨ op = .geq ∨ op = .eql ∨ op = .neq) : OpY P n env own X (.binOp op t x y t') (.bool b) := by
  intro a W oper hop ha _
  rcases ho with rfl | rfl | rfl | rfl | rfl | rfl <;> simp [execOp, hop, ha.eval hx, ha.eval hy, binOp, hb, eqGuard]
theorem op_lss (hx : eev env x = some (.int k p)) (hy : eev env y = some (.int k q)) : OpY P n env own X (.binOp .lss t x y t') (.bool (decide (p < q))) := op_cmp hx hy rfl (by simp)
theorem op_lssT (hx : eev env x = some (.int k p)) (hy : eev env y = some (.int k q)) (h : p < q) : OpY P n env own X (.binOp .lss t x y t') (.bool true) := by have := op_lss (P := P) (n := n) (own := own) (X := X) (t := t) (t' := t') hx hy; rwa [decide_eq_true h] at this
theorem op_lssF (hx : eev env x = some (.int k p)) (hy : eev env y = some (.int k q)) (h : q ≤ p) : OpY P n env own X (.binOp .lss t x y t') (.bool false) := by have := op_lss (P := P) (n := n) (own := own) (X := X) (t := t) (t' := t') hx hy; rwa [decide_eq_false (by omega)] at this
theorem op_leq (hx : eev env x = some (.int k p)) (hy : eev env y = some (.int k q)) : OpY P n env own X (.binOp .leq t x y t') (.bool (decide (p ≤ q))) := op_cmp hx hy rfl (by simp)
theorem op_leqT (hx : eev env x = some (.int k p)) (hy : eev env y = some (.int k q)) (h : p ≤ q) : OpY P n env own X (.binOp .leq t x y t') (.bool true) := by have := op_leq (P := P) (n := n) (own := own) (X := X) (t := t) (t' := t') hx hy; rwa [decide_eq_true h] at this
theorem op_leqF (hx : eev env x = some (.int k p)) (hy : eev env y = some (.int k q)) (h : q < p) : OpY P n env own X (.binOp .leq t x y t') (.bool false) := by have := op_leq (P := P) (n := n) (own := own) (X := X) (t := t) (t' := t') hx hy; rwa [decide_eq_false (by omega)] at this
theorem op_gtr (hx : eev env x = some (.int k p)) (hy : eev env y = some (.int k q)) : OpY P n env own X (.binOp .gtr t x y t') (.bool (decide (q < p))) := op_cmp hx hy rfl (by simp)
theorem op_gtrT (hx : eev env x = some (.int k p)) (hy : eev env y = some (.int k q)) (h : q < p) : OpY P n env own X (.binOp .gtr t x y t') (.bool true) := by have := op_gtr (P := P) (n := n) (own := own) (X := X) (t := t) (t' := t') hx hy; rwa [decide_eq_true h] at this
theorem op_gtrF (hx : eev env x = some (.int k p)) (hy : eev env y = some (.int k q)) (h : p ≤ q) : OpY P n env own X (.binOp .gtr t x y t') (.bool false) := by have := op_gtr (P := P) (n := n) (own := own) (X := X) (t := t) (t' := t') hx hy; rwa [decide_eq_false (by omega)] at this
theorem op_geq (hx : eev env x = some (.int k p)) (hy : eev env y = some (.int k q)) : OpY P n env own X (.binOp .geq t x y t') (.bool (decide (q ≤ p))) := op_cmp hx hy rfl (by simp)
theorem op_geqT (hx : eev env x = some (.int k p)) (hy : eev env y = some (.int k q)) (h : q ≤ p) : OpY P n env own X (.binOp .geq t x y t') (.bool true) := by have := op_geq (P := P) (n := n) (own := own) (X := X) (t := t) (t' := t') hx hy; rwa [decide_eq_true h] at this
theorem op_geqF (hx : eev env x = some (.int k p)) (hy : eev env y = some (.int k q)) (h : p < q) : OpY P n env own X (.binOp .geq t x y t') (.bool false) := by have := op_geq (P := P) (n := n) (own := own) (X := X) (t := t) (t' := t') hx hy; rwa [decide_eq_false (by omega)] at this
theorem op_eql (hx : eev env x = some (.int k p)) (hy : eev env y = some (.int k q)) : OpY P n env own X (.binOp .eql t x y t') (.bool (decide (p = q))) := op_cmp hx hy (by simp [Op.intCmp]; rfl) (by simp)
theorem op_eqlT (hx : eev env x = some (.int k p)) (hy : eev env y = some (.int k q)) (h : p = q) : OpY P n env own X (.binOp .eql t x y t') (.bool true) := by have := op_eql (P := P) (n := n) (own := own) (X := X) (t := t) (t' := t') hx hy; rwa [decide_eq_true h] at this
theorem op_eqlF (hx : eev env x = some (.int k p)) (hy : eev env y = some (.int k q)) (h : p ≠ q) : OpY P n env own X (.binOp .eql t x y t') (.bool false) := by have := op_eql (P := P) (n := n) (own := own) (X := X) (t := t) (t' := t') hx hy; rwa [decide_eq_false h] at this
theorem op_neq (hx : eev env x = some (.int k p)) (hy : eev env y = some (.int k q)) : OpY P n env own X (.binOp .neq t x y t') (.bool (decide (p ≠ q))) := op_cmp hx hy (by simp [Op.intCmp, bne]; rfl) (by simp)
theorem op_neqT (hx : eev env x = some (.int k p)) (hy : eev env y = some (.int k q)) (h : p ≠ q) : OpY P n env own X (.binOp .neq t x y t') (.bool true) := by have := op_neq (P := P) (n := n) (own := own) (X := X) (t := t) (t' := t') hx hy; rwa [decide_eq_true h] at this
theorem op_neqF (hx : eev env x = some (.int k p)) (hy : eev env y = some (.int k q)) (h : p = q) : OpY P n env own X (.binOp .neq t x y t') (.bool false) := by have := op_neq (P := P) (n := n) (own := own) (X := X) (t := t) (t' := t') hx hy; rwa [decide_eq_false (by simpa using h)] at this
theorem run_equalB {b c : Bool} (ht : P.underlying t = some .bool) (W : World) : (Op.equal t (.bool b) (.bool c)).run P W = .ok (b == c) W := by
  have h : ∀ d : Nat, (Op.equalIn (d + 1) t (.bool b) (.bool c)).run P W = .ok (b == c) W := fun d => by
    simp [Op.equalIn, run_underlying ht]
  exact h 9999
theorem op_eqlB {b c : Bool} (ht : P.underlying t = some .bool) (hx : eev env x = some (.bool b)) (hy : eev env y = some (.bool c)) : OpY P n env own X (.binOp .eql t x y t') (.bool (b == c)) := by
  intro a W oper hop ha _
  have h0 : ∀ (e : BinOp) (u v : Operand), eqGuard e t u v (.bool b) (.bool c) = pure () := fun e u v => by cases e <;> rfl
  simp only [execOp, hop, ha.eval hx, ha.eval hy, binOp, h0, Sem.run_bind, Sem.run_pure, Result.andThen_ok, run_equalB ht]
theorem op_neqB {b c : Bool} (ht : P.underlying t = some .bool) (hx : eev env x = some (.bool b)) (hy : eev env y = some (.bool c)) : OpY P n env own X (.binOp .neq t x y t') (.bool (b != c)) := by
  intro a W oper hop ha _
  have h0 : ∀ (e : BinOp) (u v : Operand), eqGuard e t u v (.bool b) (.bool c) = pure () := fun e u v => by cases e <;> rfl
  simp only [execOp, hop, ha.eval hx, ha.eval hy, binOp, h0, Sem.run_bind, Sem.run_pure, Result.andThen_ok, run_equalB ht, bne]
/-- A pointer, a slice held against nil. -/
theorem run_equalPtrNil {e : TypeId} (ht : P.underlying t = some (.pointer e)) (o : Option Addr) (W : World) : (Op.equal t (.pointer o) (.pointer none)).run P W = .ok o.isNone W := by
  have h : ∀ d : Nat, (Op.equalIn (d + 1) t (.pointer o) (.pointer none)).run P W = .ok o.isNone W := fun d => by
    cases o <;> simp [Op.equalIn, run_underlying ht]
  exact h 9999
theorem op_eqlNil {e : TypeId} {o : Option Addr} (ht : P.underlying t = some (.pointer e)) (hx : eev env x = some (.pointer o)) (hy : eev env y = some (.pointer none)) : OpY P n env own X (.binOp .eql t x y t') (.bool o.isNone) := by
  intro a W oper hop ha _
  have h0 : ∀ (e : BinOp) (u v : Operand), eqGuard e t u v (.pointer o) (.pointer none) = pure () := fun e u v => by cases e <;> rfl
  simp only [execOp, hop, ha.eval hx, ha.eval hy, binOp, h0, Sem.run_bind, Sem.run_pure, Result.andThen_ok, run_equalPtrNil ht]
theorem op_neqNil {e : TypeId} {o : Option Addr} (ht : P.underlying t = some (.pointer e)) (hx : eev env x = some (.pointer o)) (hy : eev env y = some (.pointer none)) : OpY P n env own X (.binOp .neq t x y t') (.bool (!o.isNone)) := by
  intro a W oper hop ha _
  have h0 : ∀ (e : BinOp) (u v : Operand), eqGuard e t u v (.pointer o) (.pointer none) = pure () := fun e u v => by cases e <;> rfl
  simp only [execOp, hop, ha.eval hx, ha.eval hy, binOp, h0, Sem.run_bind, Sem.run_pure, Result.andThen_ok, run_equalPtrNil ht]
theorem run_equalSliceNil {e : TypeId} (ht : P.underlying t = some (.slice e)) (o : Option Addr) (l c l' c' : Nat) (W : World) : (Op.equal t (.slice o l c) (.slice none l' c')).run P W = .ok o.isNone W := by
  have h : ∀ d : Nat, (Op.equalIn (d + 1) t (.slice o l c) (.slice none l' c')).run P W = .ok o.isNone W := fun d => by
    cases o <;> simp [Op.equalIn, run_underlying ht]
  exact h 9999
theorem op_eqlSNil {e : TypeId} {o : Option Addr} {l c l' c' : Nat} (ht : P.underlying t = some (.slice e)) (hx : eev env x = some (.slice o l c)) (hy : eev env y = some (.slice none l' c')) : OpY P n env own X (.binOp .eql t x y t') (.bool o.isNone) := by
  intro a W oper hop ha _
  have h0 : ∀ (e : BinOp) (u v : Operand), eqGuard e t u v (.slice o l c) (.slice none l' c') = pure () := fun e u v => by cases e <;> rfl
  simp only [execOp, hop, ha.eval hx, ha.eval hy, binOp, h0, Sem.run_bind, Sem.run_pure, Result.andThen_ok, run_equalSliceNil ht]

theorem op_arith {op : BinOp} {r : Int} (hx : eev env x = some (.int k p)) (hy : eev env y = some (.int k q)) (ho : op = .add ∧ r = p + q ∨ op = .sub ∧ r = p - q ∨ op = .mul ∧ r = p * q) : OpY P n env own X (.binOp op t x y t') (.int k (k.wrap r)) := by
  intro a W oper hop ha _
  rcases ho with ⟨rfl, rfl⟩ | ⟨rfl, rfl⟩ | ⟨rfl, rfl⟩ <;> simp [execOp, hop, ha.eval hx, ha.eval hy, binOp, eqGuard, Op.intArith]
theorem op_addW (hx : eev env x = some (.int k p)) (hy : eev env y = some (.int k q)) : OpY P n env own X (.binOp .add t x y t') (.int k (k.wrap (p + q))) := op_arith hx hy (by simp)
theorem op_subW (hx : eev env x = some (.int k p)) (hy : eev env y = some (.int k q)) : OpY P n env own X (.binOp .sub t x y t') (.int k (k.wrap (p - q))) := op_arith hx hy (by simp)
theorem op_mulW (hx : eev env x = some (.int k p)) (hy : eev env y = some (.int k q)) : OpY P n env own X (.binOp .mul t x y t') (.int k (k.wrap (p * q))) := op_arith hx hy (by simp)
theorem wrap_i64_in {r : Int} (h1 : -9223372036854775808 ≤ r) (h2 : r ≤ 9223372036854775807) : IntKind.i64.wrap r = r := IntWalk.i64_in r ⟨h1, h2⟩
theorem op_add (hx : eev env x = some (.int .i64 p)) (hy : eev env y = some (.int .i64 q)) (h1 : -9223372036854775808 ≤ p + q) (h2 : p + q ≤ 9223372036854775807) : OpY P n env own X (.binOp .add t x y t') (.int .i64 (p + q)) := by
  have := op_addW (P := P) (n := n) (own := own) (X := X) (t := t) (t' := t') hx hy; rwa [wrap_i64_in h1 h2] at this
theorem op_sub (hx : eev env x = some (.int .i64 p)) (hy : eev env y = some (.int .i64 q)) (h1 : -9223372036854775808 ≤ p - q) (h2 : p - q ≤ 9223372036854775807) : OpY P n env own X (.binOp .sub t x y t') (.int .i64 (p - q)) := by
  have := op_subW (P := P) (n := n) (own := own) (X := X) (t := t) (t' := t') hx hy; rwa [wrap_i64_in h1 h2] at this
theorem op_mul (hx : eev env x = some (.int .i64 p)) (hy : eev env y = some (.int .i64 q)) (h1 : -9223372036854775808 ≤ p * q) (h2 : p * q ≤ 9223372036854775807) : OpY P n env own X (.binOp .mul t x y t') (.int .i64 (p * q)) := by
  have := op_mulW (P := P) (n := n) (own := own) (X := X) (t := t) (t' := t') hx hy; rwa [wrap_i64_in h1 h2] at this
theorem op_quo (hx : eev env x = some (.int .i64 p)) (hy : eev env y = some (.int .i64 q)) (h0 : 0 ≤ p) (h1 : p ≤ 9223372036854775807) (hq : 0 < q) : OpY P n env own X (.binOp .quo t x y t') (.int .i64 (p / q)) := by
  intro a W oper hop ha _
  have e : p.tdiv q = p / q := Int.tdiv_eq_ediv_of_nonneg h0
  have hl : p / q ≤ p := Int.ediv_le_self _ h0
  have h3 : 0 ≤ p / q := Int.ediv_nonneg h0 (by omega)
  simp [execOp, hop, ha.eval hx, ha.eval hy, binOp, eqGuard, Op.intDiv, show q ≠ 0 by omega, e, wrap_i64_in (show -9223372036854775808 ≤ p / q by omega) (by omega)]
theorem op_rem (hx : eev env x = some (.int k p)) (hy : eev env y = some (.int k q)) (h0 : 0 ≤ p) (hq : q ≠ 0) : OpY P n env own X (.binOp .rem t x y t') (.int k (p % q)) := by
  intro a W oper hop ha _
  have e : p.tmod q = p % q := Int.tmod_eq_emod_of_nonneg h0
  simp [execOp, hop, ha.eval hx, ha.eval hy, binOp, eqGuard, Op.intDiv, hq, e]
end
end
end Go.Proofs.YtnabbnhefjfegaaGreatDoor
namespace Go.Proofs.YtnabbnhefjfegaaGreatDoor
open Go.RowKit
section
variable {P : Program} {n : NM} {w0 : Base} {X0 X : PMap} {own : Own} {env : Env}
theorem execLoad {t : TypeId} {x : Operand} {b i : Nat} {v : Value} {a : Act} {W : World} {oper : Oper} (ho : oper.op = .load t x) (hx : a.eval x = .pointer (some ⟨b, i, none⟩)) (h : (loadVar t ⟨b, i, none⟩).run P W = .ok v W) : (execOp a.eval oper).run P W = .ok (.value v) W := by
  simp [execOp, ho, hx, Instr.loadAt, Instr.sureAddr, h]
theorem op_load {t : TypeId} {x : Operand} {b i j sz size : Nat} {row : Bool} {cs : List Value} {ty : TypeId} {v : Value} (ht : Ty P t row size) (hx : eev env x = some (.pointer (some ⟨b, i, none⟩))) (ho : AtO own b cs ty sz j) (hv : cread row size cs i = some v) : OpY P n env own X (.load t x) v := by
  intro a W oper hop ha hs
  exact execLoad hop (ha.eval hx) (run_loadVar_cells ht (fun _ _ hu => (hs.own _ ho.mem).cell hu) hv)
theorem Blk.cell {b : Nat} {cs : List Value} {W : World} (h : Blk X b cs) (hp : PIn X W) {i : Nat} {v : Value} (hi : cs[i]? = some v) : W.cell? ⟨b, i, none⟩ = some v := by
  obtain ⟨r, _, _, h⟩ := h
  have h := hp _ _ h
  have hl : i < cs.length := by
    rcases Nat.lt_or_ge i cs.length with h1 | h1
    · exact h1
    · rw [List.getElem?_eq_none h1] at hi; cases hi
  simp [World.cell?, h, List.getElem?_append_left hl, hi]
theorem op_loadX {t : TypeId} {x : Operand} {b i size : Nat} {row : Bool} {cs : List Value} {v : Value} (ht : Ty P t row size) (hx : eev env x = some (.pointer (some ⟨b, i, none⟩))) (ho : Blk X b cs) (hv : cread row size cs i = some v) : OpY P n env own X (.load t x) v := by
  intro a W oper hop ha hs
  exact execLoad hop (ha.eval hx) (run_loadVar_cells ht (fun _ _ hu => ho.cell hs.pers hu) hv)

def vcells : Value → List Value
  | .agg cs => cs.toList
  | v => [v]
theorem vcells_spec (v : Value) : v.cells.toList = vcells v := by cases v <;> rfl
theorem op_new {oper : Oper} {a : Act} {W : World} {K : Act → World → Prop} {Q : Exit → Act → World → Prop} {ro : Option Nat} (hnd : ∀ c, oper.op ≠ .defer c) (hs : Sat w0 X0 own X W) {cs : List Value} {ty : TypeId} {v : Value}
    (hr : (execOp a.eval oper).run P W = .ok (.value v) (W.alloc (.cells cs.toArray ty)))
    {k : Value → Own → PMap → Prop} (hk : k v (⟨W.heap.size, cs, ty, cs.length⟩ :: own) X)
    (hK : ∀ v own' X' W', k v own' X' → Sat w0 X0 own' X' W' → (true = true → Grow W W') → K (a.put oper.dst v) W') : oper.wpIn (FR ro) DEP P a W K Q :=
  wp_value hnd hr (hK v _ X _ hk (hs.alloc cs ty) fun _ => Grow.alloc W _)
theorem op_box {t : TypeId} {x : Operand} {v : Value} (hx : eev env x = some v) :
    OpX P n w0 X0 env own X (.box t x) true fun u own' X' => ∃ b, u = .pointer (some ⟨b, 0, none⟩) ∧ own' = ⟨b, vcells v, t, (vcells v).length⟩ :: own ∧ X = X' := by
  intro a W oper K Q ro hop ha hs hK
  refine op_new (noDefer_spec (by rw [hop]; rfl)) hs (cs := vcells v) (ty := t) (v := .pointer (some ⟨W.heap.size, 0, none⟩)) ?_ ⟨_, rfl, rfl, rfl⟩ hK
  have : v.cells = (vcells v).toArray := by rw [← vcells_spec]
  simp [execOp, hop, ha.eval hx, Instr.box, newVar, newRow, this, newObj, Sem.run, World.alloc_eq]
/-- The zero value of a type, as cells. -/
structure Zero (P : Program) (t : TypeId) (zs : List Value) : Prop where
  out : ∃ i z, P.info? t = some i ∧ i.zero = some z ∧ z.cells = zs.toArray
theorem Zero.run {t : TypeId} {zs : List Value} (h : Zero P t zs) : ∃ z, z.cells = zs.toArray ∧ ∀ W, (zeroValue t).run P W = .ok z W := by
  obtain ⟨i, z, hi, hz, hc⟩ := h.out
  exact ⟨z, hc, fun W => by simp [zeroValue, typeInfo, hi, hz]⟩
theorem op_alloc {t : TypeId} {zs : List Value} (hz : Zero P t zs) :
    OpX P n w0 X0 env own X (.alloc t) true fun u own' X' => ∃ b, u = .pointer (some ⟨b, 0, none⟩) ∧ own' = ⟨b, zs, t, zs.length⟩ :: own ∧ X = X' := by
  intro a W oper K Q ro hop ha hs hK
  obtain ⟨z, hc, hr⟩ := hz.run
  refine op_new (noDefer_spec (by rw [hop]; rfl)) hs (cs := zs) (ty := t) (v := .pointer (some ⟨W.heap.size, 0, none⟩)) ?_ ⟨_, rfl, rfl, rfl⟩ hK
  simp [execOp, hop, Instr.alloc, hr, newVar, newRow, hc, newObj, Sem.run, World.alloc_eq]

theorem op_store {t : TypeId} {x y : Operand} {b i j sz size : Nat} {row : Bool} {cs : List Value} {ty : TypeId} {v : Value} (ht : Ty P t row size) (hx : eev env x = some (.pointer (some ⟨b, i, none⟩))) (hy : eev env y = some v) (ho : AtO own b cs ty sz j)
    (h1 : (vcells v).all (·.oneCell') = true) (hl : (vcells v).length = size) (hi : Nat.ble (i + size) cs.length = true) :
    OpX P n w0 X0 env own X (.store t x y) false fun _ own' X' => own' = own.set j ⟨b, csets cs i (vcells v), ty, sz⟩ ∧ X = X' := by
  intro a W oper K Q ro hop ha hs hK
  have hle : i + size ≤ cs.length := Nat.le_of_ble_eq_true hi
  have hin := hs.stab.own _ ho.mem
  have hrun : (storeVar t ⟨b, i, none⟩ v).run P W = .ok () (W.setCells b i (vcells v)) := by
    have ht' : W.there b i (vcells v).length := fun q hq => by
      have hlt : i + q < cs.length := by omega
      exact ⟨by rw [hin.cell (v := cs[i + q]) (by simp [hlt])]; rfl, hin.frozen _⟩
    have := run_storeCells_cells (P := P) b i (vcells v) 0 W (fun q hq => (ht' q hq).1) (fun q hq => (ht' q hq).2) (fun u hu => List.all_eq_true.1 h1 u hu)
    have hinf := ht.info
    cases hq : P.info? t with
    | none => simp [hq] at hinf
    | some inf =>
      have hsz : inf.size = size := by simpa [hq] using hinf
      have hcl : v.cells.toList = vcells v := vcells_spec v
      have hcs : v.cells.size = size := by rw [← Array.length_toList, hcl, hl]
      simp only [Nat.add_zero] at this
      simp [storeVar, sizeOf, typeInfo, hq, hcs, hsz, hcl, this]
  have hex : (execOp a.eval oper).run P W = .ok .skip (W.setCells b i (vcells v)) := by
    simp [execOp, hop, ha.eval hx, ha.eval hy, Instr.storeAt, Instr.sureAddr, hrun]
  exact wp_skipped (noDefer_spec (by rw [hop]; rfl)) hex (hK undef _ X _ ⟨rfl, rfl⟩ (hs.puts _ _ _ _ _ ho.get (by omega)) (fun h => by cases h))

/-- Field f of struct s lies at offset off. -/
structure FAdr (P : Program) (s : TypeId) (f off : Nat) : Prop where
  out : ∃ (fields : Array Field) (fl : Field) (i : TypeInfo), P.underlying s = some (.struct fields) ∧ fields[f]? = some fl ∧ fl.offset = off ∧ P.info? fl.type = some i ∧ i.size ≠ 0
theorem op_fieldAddr {s : TypeId} {x : Operand} {f off b i : Nat} (hf : FAdr P s f off) (hx : eev env x = some (.pointer (some ⟨b, i, none⟩))) : OpY P n env own X (.fieldAddr s x f) (.pointer (some ⟨b, i + off, none⟩)) := by
  intro a W oper hop ha _
  obtain ⟨fields, fl, inf, h1, h2, h3, h4, h5⟩ := hf.out
  simp [execOp, hop, ha.eval hx, Instr.fieldAt, run_underlying h1, h2, Instr.sureAddr, fieldPlace, sizeOf, typeInfo, h4, h5, h3, Addr.add_mid]
/-- Field f of a struct value. -/
structure FVal (P : Program) (s : TypeId) (f off : Nat) (row : Bool) (size : Nat) : Prop where
  out : ∃ (fields : Array Field) (fl : Field), P.underlying s = some (.struct fields) ∧ fields[f]? = some fl ∧ fl.offset = off ∧ Ty P fl.type row size
theorem op_field1 {s : TypeId} {x : Operand} {f off size : Nat} {cs : Array Value} {v : Value} (hf : FVal P s f off false size) (hx : eev env x = some (.agg cs)) (hv : cs[off]? = some v) : OpY P n env own X (.field s x f) v := by
  intro a W oper hop ha _
  obtain ⟨fields, fl, h1, h2, h3, h4⟩ := hf.out
  obtain ⟨d, hd, hr⟩ := h4.und
  simp [execOp, hop, ha.eval hx, Instr.field, run_underlying h1, h2, h3, asAgg, part, isAgg_row hd, hr, hv]
theorem op_index {t e : TypeId} {x ix : Operand} {b o len cap size : Nat} {row : Bool} {k : IntKind} {i : Int} (ht : P.underlying t = some (.slice e)) (he : Ty P e row size) (hx : eev env x = some (.slice (some ⟨b, o, none⟩) len cap)) (hi : eev env ix = some (.int k i)) (h0 : 0 ≤ i) (h1 : i < len) :
    OpY P n env own X (.indexAddr t x ix) (.pointer (some ⟨b, o + i.toNat * size, none⟩)) := by
  intro a W oper hop ha _
  have hinf := he.info
  cases hq : P.info? e with
  | none => simp [hq] at hinf
  | some inf =>
    have hsz : inf.size = size := by simpa [hq] using hinf
    simp [execOp, hop, ha.eval hx, ha.eval hi, Instr.indexAt, asIntOf, run_underlying ht, h0, h1, sizeOf, typeInfo, hq, hsz, Addr.add_mid]
theorem op_indexN {t e : TypeId} {x ix : Operand} {b o len cap size : Nat} {row : Bool} {k : IntKind} {i : Nat} (ht : P.underlying t = some (.slice e)) (he : Ty P e row size) (hx : eev env x = some (.slice (some ⟨b, o, none⟩) len cap)) (hi : eev env ix = some (.int k (i : Int))) (h1 : i < len) :
    OpY P n env own X (.indexAddr t x ix) (.pointer (some ⟨b, o + i * size, none⟩)) := by
  have := op_index (P := P) (n := n) (own := own) (X := X) ht he hx hi (by omega) (by omega)
  simpa using this

theorem op_lenS {t e : TypeId} {x : Operand} {o : Option Addr} {len cap : Nat} (ht : P.underlying t = some (.slice e)) (hx : eev env x = some (.slice o len cap)) : OpY P n env own X (.call { callee := .builtin .len, args := #[x], argTypes := #[t] }) (.int .i64 len) := by
  intro a W oper hop ha _
  simp [execOp, hop, resolve, invoke, builtin, Builtin.len_, run_underlying ht, ha.eval hx, goInt]
theorem op_lenStr {t : TypeId} {x : Operand} {s : ByteArray} (ht : P.underlying t = some .string) (hx : eev env x = some (.string s)) : OpY P n env own X (.call { callee := .builtin .len, args := #[x], argTypes := #[t] }) (.int .i64 s.size) := by
  intro a W oper hop ha _
  simp [execOp, hop, resolve, invoke, builtin, Builtin.len_, run_underlying ht, ha.eval hx, goInt]
theorem op_max {x y : Operand} {ts : Array TypeId} {k : IntKind} {p q r : Int} (hx : eev env x = some (.int k p)) (hy : eev env y = some (.int k q)) (hr : (if q > p then q else p) = r) : OpY P n env own X (.call { callee := .builtin .max, args := #[x, y], argTypes := ts }) (.int k r) := by
  intro a W oper hop ha _
  simp [execOp, hop, resolve, invoke, builtin, Builtin.max_, Builtin.max2, ha.eval hx, ha.eval hy, ← hr]
def Enters (P : Program) (f : FuncId) : Prop := ∀ args W, (callFunc f args).run P W = .ok (.enter f args) W
theorem op_call {c : Operand} {f : FuncId} {xs : Array Operand} {ts : Array TypeId} {fs cs : Array Value} {vs : List Value} {Φ : Value → PMap → Prop} (he : Enters P f) (hc : eev env c = some (.func (.func f) fs cs)) (hx : xs.toList.map (eev env) = vs.map some)
    (h : Spec P f (fs.toList ++ vs ++ cs.toList) X Φ) : OpX P n w0 X0 env own X (.call { callee := .value c, args := xs, argTypes := ts }) true fun v own' X' => own = own' ∧ X.le X' ∧ Φ v X' := by
  intro a W oper K Q ro hop ha hs hK
  have all : ∀ (xs : List Operand) (vs : List Value), xs.map (eev env) = vs.map some → xs.map a.eval = vs := by
    intro xs
    induction xs with
    | nil => intro vs h; cases vs <;> simp_all
    | cons x xs ih =>
      intro vs h
      cases vs with
      | nil => simp at h
      | cons v vs =>
        simp only [List.map_cons, List.cons.injEq] at h
        simp [ha.eval h.1, ih vs h.2]
  have h1 : xs.map a.eval = vs.toArray := by apply Array.toList_inj.1; simp [all _ _ hx]
  have hex : (execOp a.eval oper).run P W = .ok (.enter f (fs.toList ++ vs ++ cs.toList).toArray) W := by
    have hargs : fs ++ vs.toArray ++ cs = (fs.toList ++ vs ++ cs.toList).toArray := by apply Array.toList_inj.1; simp
    simp only [execOp, hop, resolve, ha.eval hc, h1, Deferred.ofValue, invoke, Sem.run_bind, Sem.run_pure, Result.andThen_ok]
    rw [hargs]
    exact he _ _
  refine wp_enters (noDefer_spec (by rw [hop]; rfl)) hex ((h W hs.stab.pers).mono fun e w' hfin => ?_)
  obtain ⟨v, X', rfl, hb, hp, hk, hΦ⟩ := hfin
  refine ⟨v, rfl, ?_⟩
  exact hK v own X' w' ⟨rfl, fun q o hq => (hk q (hs.stab.pers.lt hq)).trans hq, hΦ⟩ (hs.call hb hp hk) fun _ => Grow.of_below hb
/-- A call of a function by its name. -/
theorem op_callF {f : FuncId} {xs : Array Operand} {ts : Array TypeId} {vs : List Value} {Φ : Value → PMap → Prop} (he : Enters P f) (hx : xs.toList.map (eev env) = vs.map some)
    (h : Spec P f vs X Φ) : OpX P n w0 X0 env own X (.call { callee := .value (.func f), args := xs, argTypes := ts }) true fun v own' X' => own = own' ∧ X.le X' ∧ Φ v X' :=
  op_call he rfl hx (by simpa using h)
end
end Go.Proofs.YtnabbnhefjfegaaGreatDoor
namespace Go.Proofs.YtnabbnhefjfegaaGreatDoor
open Go.RowKit
section
variable {P : Program} {n : NM} {w0 : Base} {X0 X : PMap} {own : Own} {env : Env}
/-- What is known of a slice's type: its element, the element's cells and bytes. -/
structure SlT (P : Program) (t e : TypeId) (size bytes : Nat) : Prop where
  und : P.underlying t = some (.slice e)
  info : ∃ i z, P.info? e = some i ∧ i.size = size ∧ i.bytes = bytes ∧ i.zero = some z ∧ z.cells.size = size ∧ 0 < size

/-- The slice value v has m elements, whose cells are news. -/
def Src (own : Own) (X : PMap) (v : Value) (m size : Nat) (news : List Value) : Prop :=
  news.length = m * size ∧ ∃ A c, v = .slice A m c ∧ (0 < m → ∃ b o, A = some ⟨b, o, none⟩ ∧ ∀ W, Stab own X W → ∀ j u, news[j]? = some u → W.cell? ⟨b, o + j, none⟩ = some u)
theorem Src.nil {A : Option Addr} {c size : Nat} : Src own X (.slice A 0 c) 0 size [] := ⟨by simp, A, c, rfl, fun h => absurd h (by omega)⟩
theorem Src.ofOwn0 {b m c size sz j : Nat} {cs : List Value} {ty : TypeId} (ho : AtO own b cs ty sz j) (hl : m * size = cs.length) : Src own X (.slice (some ⟨b, 0, none⟩) m c) m size cs :=
  ⟨hl.symm, _, _, rfl, fun _ => ⟨b, 0, rfl, fun W hW q u hu => by rw [Nat.zero_add]; exact (hW.own _ ho.mem).cell hu⟩⟩
theorem Src.ofExt {b o m c size : Nat} {cs : List Value} (ho : Blk X b cs) (hl : o + m * size ≤ cs.length) : Src own X (.slice (some ⟨b, o, none⟩) m c) m size ((cs.drop o).take (m * size)) := by
  refine ⟨by simp; omega, _, _, rfl, fun _ => ⟨b, o, rfl, fun W hW q u hu => ?_⟩⟩
  rw [List.getElem?_take] at hu
  split at hu
  · rw [List.getElem?_drop] at hu; exact ho.cell hW.pers hu
  · cases hu
/-- Only the block of row j may have changed, or a new one stands for it. -/
theorem SatC.regrow {w0 : World} {W W' : World} (h : SatC w0 X0 own X W) {b sz j : Nat} {cs : List Value} {ty : TypeId} (hj : own[j]? = some ⟨b, cs, ty, sz⟩) (hg : W.grownBy W' (some b)) {b' : Nat} (hb : b' = b ∨ b' = W.heap.size) {cs' : List Value} {ty' : TypeId} {sz' : Nat} (hin : Ow.In ⟨b', cs', ty', sz'⟩ W') :
    SatC w0 X0 (own.set j ⟨b', cs', ty', sz'⟩) X W' := by
  have hm : (⟨b, cs, ty, sz⟩ : Ow) ∈ own := List.mem_of_getElem? hj
  have hjl : j < own.length := by
    rcases Nat.lt_or_ge j own.length with h1 | h1
    · exact h1
    · rw [List.getElem?_eq_none h1] at hj; cases hj
  have hjv : own[j] = ⟨b, cs, ty, sz⟩ := by rw [List.getElem?_eq_getElem hjl] at hj; exact Option.some.inj hj
  have hb0 := h.new _ hm
  simp only at hb0
  have hother : ∀ k (hk : k < own.length), k ≠ j → own[k].b ≠ b := fun k hk hne => by
    have hp := List.pairwise_iff_getElem.1 h.nodup
    rcases Nat.lt_or_gt_of_ne hne with hlt | hgt
    · have := hp k j hk hjl hlt; rw [hjv] at this; exact this
    · have := hp j k hjl hk hgt; rw [hjv] at this; exact fun e => this e.symm
  have hnew : ∀ q ∈ own, q.b ≠ b → q.b ≠ b' := fun q hq hne => by
    rcases hb with rfl | rfl
    · exact hne
    · exact Nat.ne_of_lt (h.stab.own q hq).lt
  have hget : ∀ q ∈ own.set j ⟨b', cs', ty', sz'⟩, q = ⟨b', cs', ty', sz'⟩ ∨ (q ∈ own ∧ q.b ≠ b) := fun q hq => by
    obtain ⟨k, hk, rfl⟩ := List.getElem_of_mem hq
    have hk' : k < own.length := by simpa using hk
    by_cases e : j = k
    · subst e; left; simp
    · right
      rw [List.getElem_set_ne e]
      exact ⟨List.getElem_mem hk', hother k hk' (Ne.symm e)⟩
  have hXb' : X b' = none := by
    rcases hb with rfl | rfl
    · exact h.apart _ hm
    · exact h.stab.pers.fresh
  refine ⟨h.below.grown hg h.below.size (fun k e => by cases e; exact hb0), h.old, ⟨fun q hq => ?_, fun k o hk => ?_⟩, fun q hq => ?_, fun q hq => ?_, ?_⟩
  · rcases hget q hq with rfl | ⟨hq, hne⟩
    · exact hin
    · have hl := (h.stab.own q hq).lt
      obtain ⟨r, hr, hz⟩ := h.stab.own q hq
      exact ⟨r, (hg.block q.b hl (fun e => hne (by injection e))).trans hr, hz⟩
  · have hkb : k ≠ b := fun e => by subst e; rw [h.apart _ hm] at hk; cases hk
    exact (hg.block k (h.stab.pers.lt hk) (fun e => hkb (by injection e))).trans (h.stab.pers k o hk)
  · rcases hget q hq with rfl | ⟨hq, _⟩
    · rcases hb with rfl | rfl
      · exact hb0
      · exact h.below.size
    · exact h.new q hq
  · rcases hget q hq with rfl | ⟨hq, _⟩
    · exact hXb'
    · exact h.apart q hq
  · refine List.pairwise_iff_getElem.2 fun x y hx hy hxy => ?_
    have hx' : x < own.length := by simpa using hx
    have hy' : y < own.length := by simpa using hy
    have hp := List.pairwise_iff_getElem.1 h.nodup x y hx' hy' hxy
    by_cases ex : j = x
    · subst ex
      rw [List.getElem_set_self, List.getElem_set_ne (by omega)]
      exact fun e => hnew _ (List.getElem_mem hy') (hother y hy' (by omega)) e.symm
    · by_cases ey : j = y
      · subst ey
        rw [List.getElem_set_self, List.getElem_set_ne (by omega)]
        exact hnew _ (List.getElem_mem hx') (hother x hx' (by omega))
      · rw [List.getElem_set_ne ex, List.getElem_set_ne ey]; exact hp
/-- A new block, and nothing else has changed. -/
theorem SatC.newRow {w0 : World} {W W' : World} (h : SatC w0 X0 own X W) (hg : W.grownBy W' none) {b' : Nat} (hb : W.heap.size ≤ b') {cs' : List Value} {ty' : TypeId} {sz' : Nat} (hin : Ow.In ⟨b', cs', ty', sz'⟩ W') (hX : X b' = none) :
    SatC w0 X0 (⟨b', cs', ty', sz'⟩ :: own) X W' := by
  have hgr : Grow W W' := ⟨hg.size, fun k hk => hg.block k hk (by simp)⟩
  refine ⟨h.below.grown hg h.below.size (fun k e => by cases e), h.old, ⟨fun q hq => ?_, hgr.pin h.stab.pers⟩, fun q hq => ?_, fun q hq => ?_, .cons (fun q hq => ?_) h.nodup⟩
  · rcases List.mem_cons.1 hq with rfl | hq
    · exact hin
    · exact hgr.ow (h.stab.own q hq)
  · rcases List.mem_cons.1 hq with rfl | hq
    · exact Nat.le_trans h.below.size hb
    · exact h.new q hq
  · rcases List.mem_cons.1 hq with rfl | hq
    · exact hX
    · exact h.apart q hq
  · have := (h.stab.own q hq).lt
    simp only
    omega

theorem Sat.regrow {W W' : World} (h : Sat w0 X0 own X W) {b sz j : Nat} {cs : List Value} {ty : TypeId} (hj : own[j]? = some ⟨b, cs, ty, sz⟩) (hg : W.grownBy W' (some b)) {b' : Nat} (hb : b' = b ∨ b' = W.heap.size) {cs' : List Value} {ty' : TypeId} {sz' : Nat} (hin : Ow.In ⟨b', cs', ty', sz'⟩ W') :
    Sat w0 X0 (own.set j ⟨b', cs', ty', sz'⟩) X W' :=
  ⟨h.toSatC.regrow hj hg hb hin, fun p hp => by
    obtain ⟨h1, h2, h3, h4⟩ := h.res p hp
    have hbp : b ≠ p.1 := h3 _ (List.mem_of_getElem? hj)
    refine ⟨(hg.block p.1 (get_lt h1) (fun e => hbp (by injection e with e; exact e.symm))).trans h1, h2, fun q hq => ?_, h4⟩
    rcases set_b hq with rfl | hq
    · rcases hb with rfl | rfl
      · exact hbp
      · exact Ne.symm (Nat.ne_of_lt (get_lt h1))
    · exact h3 q hq⟩
theorem Sat.newRow {W W' : World} (h : Sat w0 X0 own X W) (hg : W.grownBy W' none) {b' : Nat} (hb : W.heap.size ≤ b') {cs' : List Value} {ty' : TypeId} {sz' : Nat} (hin : Ow.In ⟨b', cs', ty', sz'⟩ W') (hX : X b' = none) :
    Sat w0 X0 (⟨b', cs', ty', sz'⟩ :: own) X W' :=
  ⟨h.toSatC.newRow hg hb hin hX, fun p hp => by
    obtain ⟨h1, h2, h3, h4⟩ := h.res p hp
    refine ⟨(hg.block p.1 (get_lt h1) (by simp)).trans h1, h2, fun q hq => ?_, h4⟩
    rcases List.mem_cons.1 hq with rfl | hq
    · have := get_lt h1
      simp only
      omega
    · exact h3 q hq⟩
theorem run_append_none {t ty e : TypeId} {size bytes : Nat} (ht : SlT P t e size bytes) {W : World} {A : Option Addr} {m cap c : Nat} (h : A = none → m = 0) : (Builtin.append_ #[t, t] ty #[.slice A m cap, .slice none 0 c]).run P W = .ok (.slice A m (if m ≤ cap then cap else cap)) W ∨ ¬ m ≤ cap := by
  obtain ⟨i, z, h1, h2, h3, h4, h5, h6⟩ := ht.info
  by_cases hm : m ≤ cap
  · left
    cases A <;> simp [Builtin.append_, run_underlying ht.und, sizeOf, typeInfo, h1, Builtin.lenOf, Builtin.firstCells, hm, storeCells]
  · exact .inr hm

theorem execAppend {t : TypeId} {s x : Operand} {a : Act} {W W' : World} {oper : Oper} {v u v' : Value} (ho : oper.op = .call { callee := .builtin .append, args := #[s, x], argTypes := #[t, t] }) (hs : a.eval s = v) (hx : a.eval x = u)
    (h : (Builtin.append_ #[t, t] oper.type #[v, u]).run P W = .ok v' W') : (execOp a.eval oper).run P W = .ok (.value v') W' := by
  simp only [execOp, ho, resolve, invoke, builtin, Sem.run_bind, Sem.run_pure, Result.andThen_ok, List.map_toArray, List.map_cons, List.map_nil, hs, hx, h]

/-- append onto a row of the call's own. -/
theorem op_append {t e : TypeId} {s x : Operand} {b q cap sz j m size bytes : Nat} {cs news : List Value} {u : Value} (ht : SlT P t e size bytes) (hs : eev env s = some (.slice (some ⟨b, 0, none⟩) q cap)) (hx : eev env x = some u)
    (ho : AtO own b cs e sz j) (hsz : sz = cap * size) (hq : cs.length = q * size) (hqc : q ≤ cap) (hcap : cap ≤ maxLen) (hsrc : Src own X u m size news) (h1 : ∀ y ∈ news, y.oneCell' = true) (h63 : q + m ≤ maxLen) (hby : (q + m) * bytes ≤ 140737488355328) :
    OpX P n w0 X0 env own X (.call { callee := .builtin .append, args := #[s, x], argTypes := #[t, t] }) false fun v own' X' => ∃ b' cap', v = .slice (some ⟨b', 0, none⟩) (q + m) cap' ∧ own' = own.set j ⟨b', cs ++ news, e, cap' * size⟩ ∧ X = X' ∧ q + m ≤ cap' ∧ cap' ≤ maxLen := by
  intro a W oper K Q ro hop ha hsat hK
  obtain ⟨i, z, i1, i2, i3, i4, i5, i6⟩ := ht.info
  have hin := hsat.stab.own _ ho.mem
  have hb0 := hsat.new _ ho.mem
  obtain ⟨r, hr, hz⟩ := hin
  simp only at hr hz hb0
  have hrow : W.ownsRow w0.heap.size e size (.slice (some ⟨b, 0, none⟩) q cap) q cs :=
    ⟨hq, .inr ⟨b, cap, (cs ++ r).toArray, rfl, hb0, hr, hqc, hcap, by simp; omega, by simp [← hq]⟩⟩
  obtain ⟨hnl, A, c, rfl, hA⟩ := hsrc
  have fin : ∀ v' W', W'.ownsRow w0.heap.size e size v' (q + m) (cs ++ news) → W.grownBy W' (some b) → (∃ g, v'.ownBlock = some g ∧ (g = b ∨ g = W.heap.size)) → K (a.put oper.dst v') W' := by
    intro v' W' hown hg ⟨g, hg1, hg2⟩
    rcases hown.2 with ⟨rfl, _⟩ | ⟨g', cap', cur, rfl, hg0, hcur, hn, hmx, hsz', htk⟩
    · simp [Value.ownBlock] at hg1
    · have hgg : g' = g := by simpa [Value.ownBlock] using hg1
      subst hgg
      have hin' : Ow.In ⟨g', cs ++ news, e, cap' * size⟩ W' := by
        refine ⟨cur.toList.drop ((q + m) * size), ?_, ?_⟩
        · rw [← htk, List.take_append_drop]; exact hcur
        · have hmul : (q + m) * size ≤ cap' * size := Nat.mul_le_mul_right _ hn
          have hl := hown.1
          simp only at hl ⊢
          rw [hl, List.length_drop, Array.length_toList, hsz']; omega
      exact hK _ _ X W' ⟨g', cap', rfl, rfl, rfl, hn, hmx⟩ (hsat.regrow ho.get hg hg2 hin') (fun h => by cases h)
  have key : ∃ v' W', (Builtin.append_ #[t, t] oper.type #[.slice (some ⟨b, 0, none⟩) q cap, .slice A m c]).run P W = .ok v' W' ∧ W'.ownsRow w0.heap.size e size v' (q + m) (cs ++ news) ∧ W.grownBy W' (some b) ∧ ∃ g, v'.ownBlock = some g ∧ (g = b ∨ g = W.heap.size) := by
    have have0 : ∀ (ad : Addr), (∀ j u, news[j]? = some u → W.cell? (ad.add j) = some u) → ∃ v' W', (Builtin.append_ #[t, t] oper.type #[.slice (some ⟨b, 0, none⟩) q cap, .slice (some ad) m c]).run P W = .ok v' W' ∧ W'.ownsRow w0.heap.size e size v' (q + m) (cs ++ news) ∧ W.grownBy W' (some b) ∧ ∃ g, v'.ownBlock = some g ∧ (g = b ∨ g = W.heap.size) := fun ad had => by
      obtain ⟨v', W', r1, r2, r3, _, r5⟩ := run_append_own_at (P := P) W w0.heap.size t oper.type e i z size bytes ht.und i1 i4 i2 i3 i5 i6 _ q cs hrow ad m c news hnl had h1 h63 hby hsat.below.size
      refine ⟨v', W', r1, r2, r3, ?_⟩
      rcases r5 with r5 | r5
      · exact ⟨b, r5, .inl rfl⟩
      · exact ⟨_, r5, .inr rfl⟩
    rcases A with _ | ad
    · have hm : m = 0 := by
        rcases Nat.eq_zero_or_pos m with h0 | h0
        · exact h0
        · obtain ⟨_, _, h, _⟩ := hA h0; cases h
      subst hm
      have hn0 : news = [] := List.eq_nil_of_length_eq_zero (by simpa using hnl)
      subst hn0
      rcases run_append_none (P := P) (ty := oper.type) ht (W := W) (A := some ⟨b, 0, none⟩) (m := q) (cap := cap) (c := c) (fun h => by cases h) with h | h
      · refine ⟨_, W, h, ?_, World.grownBy.refl W _, b, by simp [Value.ownBlock], .inl rfl⟩
        simpa using hrow
      · exact absurd hqc h
    · refine have0 ad fun q' u hu => ?_
      have hm : 0 < m := by
        rcases Nat.eq_zero_or_pos m with h0 | h0
        · subst h0
          have hn0 : news = [] := List.eq_nil_of_length_eq_zero (by simpa using hnl)
          subst hn0; simp at hu
        · exact h0
      obtain ⟨b2, o2, hA2, hc2⟩ := hA hm
      cases hA2
      rw [Addr.add_mid]
      exact hc2 W hsat.stab _ _ hu
  obtain ⟨v', W', r1, r2, r3, r4⟩ := key
  refine wp_value (noDefer_spec (by rw [hop]; rfl)) (execAppend hop (ha.eval hs) (ha.eval hx) r1) ?_
  exact fin v' W' r2 r3 r4
/-- append onto nil: a new row. -/
theorem op_appendNil {t e : TypeId} {s x : Operand} {m size bytes : Nat} {news : List Value} {u : Value} (ht : SlT P t e size bytes) (hs : eev env s = some (.slice none 0 0)) (hx : eev env x = some u)
    (hsrc : Src own X u m size news) (hm : 0 < m) (h1 : ∀ y ∈ news, y.oneCell' = true) (h63 : m ≤ maxLen) (hby : m * bytes ≤ 140737488355328) :
    OpX P n w0 X0 env own X (.call { callee := .builtin .append, args := #[s, x], argTypes := #[t, t] }) true fun v own' X' => ∃ b' cap', v = .slice (some ⟨b', 0, none⟩) m cap' ∧ own' = ⟨b', news, e, cap' * size⟩ :: own ∧ X = X' ∧ m ≤ cap' ∧ cap' ≤ maxLen := by
  intro a W oper K Q ro hop ha hsat hK
  obtain ⟨i, z, i1, i2, i3, i4, i5, i6⟩ := ht.info
  obtain ⟨hnl, A, c, rfl, hA⟩ := hsrc
  obtain ⟨b2, o2, rfl, hc2⟩ := hA hm
  obtain ⟨v', W', r1, r2, r3, _, r5⟩ := run_append_own_at (P := P) W W.heap.size t oper.type e i z size bytes ht.und i1 i4 i2 i3 i5 i6 _ 0 [] (World.ownsRow_nil W _ e size) ⟨b2, o2, none⟩ m c news hnl (fun q u hu => by rw [Addr.add_mid]; exact hc2 W hsat.stab _ _ hu) h1 (by simpa using h63) (by simpa using hby) (Nat.le_refl _)
  rw [Nat.zero_add, List.nil_append] at r2
  refine wp_value (noDefer_spec (by rw [hop]; rfl)) (execAppend hop (ha.eval hs) (ha.eval hx) r1) ?_
  rcases r2.2 with ⟨_, h0⟩ | ⟨g', cap', cur, rfl, hg0, hcur, hn, hmx, hsz', htk⟩
  · omega
  · have hg3 : W.grownBy W' none := r3
    have hgs : g' = W.heap.size := by simpa [Value.ownBlock] using r5
    have hin' : Ow.In ⟨g', news, e, cap' * size⟩ W' := by
      refine ⟨cur.toList.drop (m * size), ?_, ?_⟩
      · rw [← htk, List.take_append_drop]; exact hcur
      · have hmul : m * size ≤ cap' * size := Nat.mul_le_mul_right _ hn
        simp only
        rw [hnl, List.length_drop, Array.length_toList, hsz']; omega
    subst hgs
    exact hK _ _ X W' ⟨_, cap', rfl, rfl, rfl, hn, hmx⟩ (hsat.newRow hg3 hg0 hin' hsat.stab.pers.fresh) (fun _ => ⟨hg3.size, fun k hk => hg3.block k hk (by simp)⟩)
/-- append of nothing onto nil. -/
theorem op_appendNil0 {t e : TypeId} {s x : Operand} {size bytes : Nat} {A : Option Addr} {c : Nat} (ht : SlT P t e size bytes) (hs : eev env s = some (.slice none 0 0)) (hx : eev env x = some (.slice A 0 c)) :
    OpY P n env own X (.call { callee := .builtin .append, args := #[s, x], argTypes := #[t, t] }) (.slice none 0 0) := by
  intro a W oper hop ha _
  obtain ⟨i, z, i1, i2, i3, i4, i5, i6⟩ := ht.info
  refine execAppend hop (ha.eval hs) (ha.eval hx) ?_
  have hl : ∀ (x : Addr), (loadCells x 0).run P W = .ok #[] W := fun x => by simpa using run_loadCells_list (P := P) W x [] (by simp)
  cases A <;> simp [Builtin.append_, run_underlying ht.und, sizeOf, typeInfo, i1, Builtin.lenOf, Builtin.firstCells, hl]
end
end Go.Proofs.YtnabbnhefjfegaaGreatDoor
namespace Go.Proofs.YtnabbnhefjfegaaGreatDoor
open Go.RowKit
section
variable {P : Program} {n : NM} {w0 : Base} {X0 X : PMap} {own : Own} {env : Env}
theorem op_slice {t e : TypeId} {x : Operand} {lo hi : Option Operand} {b o len cap size l h : Nat} {row : Bool} (ht : P.underlying t = some (.slice e)) (he : Ty P e row size) (hx : eev env x = some (.slice (some ⟨b, o, none⟩) len cap))
    (hl : ∀ q, lo = some q → ∃ k, eev env q = some (.int k (l : Int))) (hl0 : lo = none → l = 0) (hh : ∀ q, hi = some q → ∃ k, eev env q = some (.int k (h : Int))) (hh0 : hi = none → h = len) (h1 : l ≤ h) (h2 : h ≤ cap) :
    OpY P n env own X (.slice t x lo hi none) (.slice (some (if cap = l then ⟨b, o, none⟩ else ⟨b, o + l * size, none⟩)) (h - l) (cap - l)) := by
  intro a W oper hop ha _
  have hinf := he.info
  have hinf' : ∃ inf, P.info? e = some inf ∧ inf.size = size := by
    cases hq : P.info? e with
    | none => simp [hq] at hinf
    | some inf => exact ⟨inf, rfl, by simpa [hq] using hinf⟩
  obtain ⟨inf, hq, hsz⟩ := hinf'
  have hsl : ∀ (lo' hi' : Option Value), (∀ v, lo' = some v → ∃ k, v = .int k (l : Int)) → (lo' = none → l = 0) → (∀ v, hi' = some v → ∃ k, v = .int k (h : Int)) → (hi' = none → h = len) →
      (Instr.sliceAt t (.slice (some ⟨b, o, none⟩) len cap) lo' hi' none).run P W = .ok (.slice (some (if cap = l then ⟨b, o, none⟩ else ⟨b, o + l * size, none⟩)) (h - l) (cap - l)) W := by
    intro lo' hi' a1 a2 a3 a4
    have hb2 : (Instr.sliceBounds true len cap lo' hi' none).run P W = .ok (l, h, cap) W := by
      cases lo' with
      | none =>
        have := a2 rfl
        subst this
        cases hi' with
        | none => have := a4 rfl; subst this; simp [Instr.sliceBounds]
        | some v => obtain ⟨k, rfl⟩ := a3 v rfl; simp [Instr.sliceBounds, Instr.sliceBound, asIntOf, h2]
      | some u =>
        obtain ⟨k', rfl⟩ := a1 u rfl
        cases hi' with
        | none => have := a4 rfl; subst this; simp [Instr.sliceBounds, Instr.sliceBound, asIntOf, h1]
        | some v => obtain ⟨k, rfl⟩ := a3 v rfl; simp [Instr.sliceBounds, Instr.sliceBound, asIntOf, h2, h1]
    simp only [Instr.sliceAt, Sem.run_bind, run_underlying ht, Result.andThen_ok, Instr.slice, hb2, sizeOf, typeInfo]
    by_cases hc : cap = l <;> simp [hc, hq, hsz, Addr.add_mid]
  have := hsl (lo.map a.eval) (hi.map a.eval) (fun v hv => by
      cases lo with
      | none => simp at hv
      | some q => obtain ⟨k, hk⟩ := hl q rfl; simp only [Option.map_some, Option.some.injEq] at hv; exact ⟨k, by rw [← hv, ha.eval hk]⟩)
    (fun hv => hl0 (by cases lo <;> simp_all)) (fun v hv => by
      cases hi with
      | none => simp at hv
      | some q => obtain ⟨k, hk⟩ := hh q rfl; simp only [Option.map_some, Option.some.injEq] at hv; exact ⟨k, by rw [← hv, ha.eval hk]⟩)
    (fun hv => hh0 (by cases hi <;> simp_all))
  simp [execOp, hop, ha.eval hx, this]

/-- Fields written into zeros. -/
def bfill (fs : List (Nat × Nat)) : List Value → List (Nat × Value) → Option (List Value)
  | cells, [] => some cells
  | cells, (i, v) :: r =>
    match fs[i]? with
    | none => none
    | some (off, size) => bif Nat.beq (vcells v).length size && Nat.ble (off + size) cells.length then bfill fs (csets cells off (vcells v)) r else none
theorem csets_foldl (off : Nat) : ∀ (vs : List Value) (cs : Array Value) (q : Nat), (vs.zipIdx q).foldl (fun (cs : Array Value) (p : Value × Nat) => cs.setIfInBounds (off + p.2) p.1) cs = (csets cs.toList (off + q) vs).toArray
  | [], cs, q => by simp [csets]
  | v :: vs, cs, q => by
    rw [List.zipIdx_cons, List.foldl_cons, csets_foldl off vs _ (q + 1)]
    simp [csets, Nat.add_assoc]
theorem fill_bfill {fs : List (Nat × Nat)} : ∀ (parts : List (Nat × Value)) (cells : List Value) (out : List Value), bfill fs cells parts = some out → Instr.fill (fun i => fs[i]?) cells.toArray parts = some out.toArray
  | [], cells, out, h => by simp only [bfill, Option.some.injEq] at h; subst h; rfl
  | (i, v) :: r, cells, out, h => by
    simp only [bfill] at h
    simp only [Instr.fill]
    cases hf : fs[i]? with
    | none => rw [hf] at h; cases h
    | some os =>
      obtain ⟨off, size⟩ := os
      rw [hf] at h
      simp only at h ⊢
      cases hb : Nat.beq (vcells v).length size && Nat.ble (off + size) cells.length with
      | false => rw [hb] at h; cases h
      | true =>
        rw [hb] at h
        simp only [Bool.and_eq_true] at hb
        have e1 : (vcells v).length = size := Nat.eq_of_beq_eq_true hb.1
        have e2 : off + size ≤ cells.length := Nat.le_of_ble_eq_true hb.2
        have hvs : v.cells.size = size := by rw [← Array.length_toList, vcells_spec, e1]
        have hcond : (decide (v.cells.size ≠ size) || decide (off + v.cells.size > cells.toArray.size)) = false := by simp [hvs]; omega
        simp only [hcond, Bool.false_eq_true, if_false]
        have := csets_foldl off (vcells v) cells.toArray 0
        rw [Nat.add_zero] at this
        have hz : v.cells.zipIdx.foldl (fun (cs : Array Value) (p : Value × Nat) => cs.setIfInBounds (off + p.2) p.1) cells.toArray = (csets cells off (vcells v)).toArray := by
          rw [← this, ← vcells_spec]
          rw [← Array.foldl_toList]
          simp
        have hz' : (v.cells.zipIdx.foldl (fun cs (x : Value × Nat) => match x with | (c, j) => cs.setIfInBounds (off + j) c) cells.toArray) = (csets cells off (vcells v)).toArray := hz
        rw [hz']
        exact fill_bfill r _ out h

theorem evalParts {ps : Array (Nat × Operand)} {qs : List (Nat × Value)} {a : Act} (ha : EOk n env a) (h : ps.toList.map (fun p => (p.1, eev env p.2)) = qs.map fun p => (p.1, some p.2)) : (ps.map fun (p : Nat × Operand) => (p.1, a.eval p.2)) = qs.toArray := by
  have all : ∀ (xs : List (Nat × Operand)) (vs : List (Nat × Value)), xs.map (fun p => (p.1, eev env p.2)) = vs.map (fun p => (p.1, some p.2)) → xs.map (fun p => (p.1, a.eval p.2)) = vs := by
    intro xs
    induction xs with
    | nil => intro vs h; cases vs <;> simp_all
    | cons x xs ih =>
      intro vs h
      cases vs with
      | nil => simp at h
      | cons v vs =>
        simp only [List.map_cons, List.cons.injEq, Prod.mk.injEq] at h
        obtain ⟨⟨h1, h2⟩, h3⟩ := h
        simp only [List.map_cons, ha.eval h2, ih vs h3, h1]
  apply Array.toList_inj.1
  simp [all _ _ h]
/-- What is known of a struct's type. -/
structure StT (P : Program) (t : TypeId) (fs : List (Nat × Nat)) (zs : List Value) : Prop where
  out : ∃ fields : Array Field, P.underlying t = some (.struct fields) ∧ (∀ W, (fields.mapM fun (f : Field) => (do pure (f.offset, ← sizeOf f.type) : Sem (Nat × Nat))).run P W = .ok fs.toArray W) ∧ Zero P t zs
theorem op_build {t : TypeId} {ps : Array (Nat × Operand)} {qs : List (Nat × Value)} {fs : List (Nat × Nat)} {zs out : List Value} (ht : StT P t fs zs) (hp : ps.toList.map (fun p => (p.1, eev env p.2)) = qs.map fun p => (p.1, some p.2)) (hf : bfill fs zs qs = some out) :
    OpY P n env own X (.build t ps) (.agg out.toArray) := by
  intro a W oper hop ha _
  obtain ⟨fields, h1, h2, h3⟩ := ht.out
  obtain ⟨z, hc, hr⟩ := h3.run
  have hfl := fill_bfill qs zs out hf
  have hb : (Instr.build t qs.toArray).run P W = .ok (.agg out.toArray) W := by
    simp only [Instr.build, Sem.run_bind, hr, Result.andThen_ok, run_underlying h1, h2, hc, List.getElem?_toArray, hfl, Sem.run_pure]
  have he := evalParts ha hp
  simp only [execOp, hop]
  have he' : (ps.map fun (x : Nat × Operand) => match x with | (i, x) => (i, a.eval x)) = qs.toArray := he
  rw [he']
  simp [hb]
theorem rep_cells (zs : List Value) : ∀ (len : Nat), (List.range (len * zs.length)).map (fun i => zs[i % zs.length]!) = (List.replicate len zs).flatten
  | 0 => by simp
  | len + 1 => by
    have h := rep_cells zs len
    rw [Nat.add_mul, Nat.one_mul, List.range_add, List.map_append, h, List.replicate_succ', List.flatten_append]
    congr 1
    simp only [List.map_map, List.flatten_cons, List.flatten_nil, List.append_nil]
    apply List.ext_getElem
    · simp
    · intro i h1 h2
      have hi : (len * zs.length + i) % zs.length = i := by rw [Nat.mul_comm, Nat.mul_add_mod]; exact Nat.mod_eq_of_lt h2
      simp [hi, h2]
theorem op_buildSlice {t e : TypeId} {len size : Nat} {ps : Array (Nat × Operand)} {qs : List (Nat × Value)} {zs out : List Value} (ht : P.underlying t = some (.slice e)) (he : ∃ i z, P.info? e = some i ∧ i.size = size ∧ i.zero = some z ∧ z.cells = zs.toArray) (hp : ps.toList.map (fun p => (p.1, eev env p.2)) = qs.map fun p => (p.1, some p.2))
    (hlen : Nat.ble (len * size) 16777216 = true) (hf : bfill ((List.range len).map fun i => (i * size, size)) (List.replicate len zs).flatten qs = some out) (hzs : zs.length = size) (hlq : qs.all (fun p => Nat.blt p.1 len) = true) :
    OpX P n w0 X0 env own X (.buildSlice t len ps) true fun v own' X' => ∃ b, v = .slice (some ⟨b, 0, none⟩) len len ∧ own' = ⟨b, out, e, out.length⟩ :: own ∧ X = X' := by
  intro a W oper K Q ro hop ha hs hK
  obtain ⟨i, z, h1, h2, h4, h5⟩ := he
  have hle : len * size ≤ 16777216 := Nat.le_of_ble_eq_true hlen
  have hrep := rep_cells zs len
  rw [hzs] at hrep
  have hcells : ∀ zc : Array Value, (len * size = 0 → True) → (len * size ≠ 0 → zc = zs.toArray) → (Array.range (len * size)).map (zc[· % zc.size]!) = (List.replicate len zs).flatten.toArray := by
    intro zc _ hzc
    by_cases h0 : len * size = 0
    · rw [← hrep]; simp [h0]
    · rw [hzc h0, ← hrep]
      apply Array.toList_inj.1
      simp [hzs]
  have hfl := fill_bfill qs _ out hf
  have hfl2 : Instr.fill (fun i => some (i * size, size)) (List.replicate len zs).flatten.toArray qs = some out.toArray := by
    have key : ∀ (parts : List (Nat × Value)) (cells : Array Value), (∀ p ∈ parts, p.1 < len) → Instr.fill (fun i => some (i * size, size)) cells parts = Instr.fill (fun i => ((List.range len).map fun i => (i * size, size))[i]?) cells parts := by
      intro parts
      induction parts with
      | nil => intro cells _; rfl
      | cons p r ih =>
        intro cells hlt
        obtain ⟨i, v⟩ := p
        have hi : i < len := hlt (i, v) (by simp)
        simp only [Instr.fill]
        have hg : ((List.range len).map fun i => (i * size, size))[i]? = some (i * size, size) := by simp [hi]
        rw [hg]
        simp only
        split
        · rfl
        · exact ih _ fun p hp => hlt p (by simp [hp])
    rw [key qs _ fun p hp => Nat.le_of_ble_eq_true (List.all_eq_true.1 hlq p hp)]
    exact hfl
  have hb : (Instr.buildSlice t len qs.toArray).run P W = .ok (.slice (some ⟨W.heap.size, 0, none⟩) len len) (W.alloc (.cells out.toArray e)) := by
    have hn : ¬ (16777216 < len * size) := by omega
    simp only [Instr.buildSlice, Sem.run_bind, run_underlying ht, Result.andThen_ok]
    by_cases h0 : len * size = 0
    · have hc0 := hcells #[] (fun _ => trivial) (fun h => absurd h0 h)
      simp only [h0] at hc0
      simp [sizeOf, typeInfo, h1, h2, h0, newRow, newObj]
      simp at hc0
      rw [← hc0] at hfl2
      simp [hfl2, Sem.run, World.alloc_eq]
    · have hc0 := hcells z.cells (fun h => absurd h h0) (fun _ => h5)
      simp [sizeOf, typeInfo, h1, h2, h0, hn, zeroValue, h4, newRow, newObj, Sem.run, World.alloc_eq, hc0, hfl2]
  refine op_new (noDefer_spec (by rw [hop]; rfl)) hs (cs := out) (ty := e) (v := .slice (some ⟨W.heap.size, 0, none⟩) len len) ?_ ⟨_, rfl, rfl, rfl⟩ hK
  have he' : (ps.map fun (x : Nat × Operand) => match x with | (i, x) => (i, a.eval x)) = qs.toArray := evalParts ha hp
  simp only [execOp, hop]
  rw [he']
  simp [hb]

section
variable {t t' : TypeId} {x y : Operand}
theorem op_convert {src dst : TypeId} {k k' : IntKind} {p : Int} {d : TypeDesc} (hs : P.underlying src = some d) (hd : P.underlying dst = some (.int k)) (hx : eev env x = some (.int k' p)) : OpY P n env own X (.convert src dst x) (.int k (k.wrap p)) := by
  intro a W oper hop ha _
  simp [execOp, hop, ha.eval hx, convert, run_underlying hs, run_underlying hd, Conv.intToInt]
end
end
end Go.Proofs.YtnabbnhefjfegaaGreatDoor
namespace Go.Proofs.YtnabbnhefjfegaaGreatDoor
open Go.RowKit
section
variable {P : Program}
theorem zero_of {t : TypeId} {zs : List Value} (h : (P.info? t).map (fun i => i.zero.map fun z => z.cells) = some (some zs.toArray)) : ∃ i z, P.info? t = some i ∧ i.zero = some z ∧ z.cells = zs.toArray := by
  cases hi : P.info? t with
  | none => simp [hi] at h
  | some i =>
    cases hz : i.zero with
    | none => simp [hi, hz] at h
    | some z => exact ⟨i, z, rfl, hz, by simpa [hi, hz] using h⟩
theorem bs_of {e : TypeId} {size : Nat} {zs : List Value} (h : (P.info? e).map (fun i => (i.size, i.zero.map fun z => z.cells)) = some (size, some zs.toArray)) : ∃ i z, P.info? e = some i ∧ i.size = size ∧ i.zero = some z ∧ z.cells = zs.toArray := by
  cases hi : P.info? e with
  | none => simp [hi] at h
  | some i =>
    cases hz : i.zero with
    | none => simp [hi, hz] at h
    | some z =>
      simp only [hi, Option.map_some, hz, Option.some.injEq, Prod.mk.injEq] at h
      exact ⟨i, z, rfl, h.1, hz, h.2⟩
theorem sl_of {e : TypeId} {size bytes : Nat} (h : (P.info? e).map (fun i => (i.size, i.bytes, i.zero.map fun z => z.cells.size)) = some (size, bytes, some size)) (h0 : 0 < size) : ∃ i z, P.info? e = some i ∧ i.size = size ∧ i.bytes = bytes ∧ i.zero = some z ∧ z.cells.size = size ∧ 0 < size := by
  cases hi : P.info? e with
  | none => simp [hi] at h
  | some i =>
    cases hz : i.zero with
    | none => simp [hi, hz] at h
    | some z =>
      simp only [hi, Option.map_some, hz, Option.some.injEq, Prod.mk.injEq] at h
      exact ⟨i, z, rfl, h.1, h.2.1, hz, h.2.2, h0⟩
theorem fadr_mk {s : TypeId} {f off : Nat} {fields : Array Field} {fl : Field} (h1 : P.underlying s = some (.struct fields)) (h2 : fields[f]? = some fl) (h3 : fl.offset = off) (h4 : (P.info? fl.type).map (fun i => Nat.beq i.size 0) = some false) : FAdr P s f off := by
  cases hi : P.info? fl.type with
  | none => simp [hi] at h4
  | some i =>
    simp only [hi, Option.map_some, Option.some.injEq] at h4
    exact ⟨⟨fields, fl, i, h1, h2, h3, hi, Nat.ne_of_beq_eq_false h4⟩⟩
theorem enters_mk {f : FuncId} {fn : Func} (hf : P.funcs[f]? = some fn) (hn : (fn.name == "runtime.NumGoroutine") = false) (hb : fn.body.isNone = false) : Enters P f := by
  intro args W
  simp only [callFunc, program, Sem.run_bind, Sem.run, Result.andThen_ok, hf]
  rw [if_neg (by rw [hn]; simp), if_neg (by rw [hb]; simp)]
  rfl

variable {n : NM} {X : PMap} {own : Own} {env : Env} {t t' : TypeId} {x y : Operand} {k : IntKind}
theorem op_quoN {p q : Nat} {q' : Int} (hx : eev env x = some (.int .i64 (p : Int))) (hy : eev env y = some (.int .i64 q')) (hq' : q' = Int.ofNat q) (h1 : p ≤ 9223372036854775807) (hq : 0 < q) : OpY P n env own X (.binOp .quo t x y t') (.int .i64 ((p / q : Nat) : Int)) := by
  subst hq'
  have hy' : eev env y = some (.int .i64 (q : Int)) := hy
  have := op_quo (P := P) (n := n) (own := own) (X := X) (t := t) (t' := t') hx hy' (by omega) (by omega) (by omega)
  simpa using this
theorem op_remN {p q : Nat} {q' : Int} (hx : eev env x = some (.int k (p : Int))) (hy : eev env y = some (.int k q')) (hq' : q' = Int.ofNat q) (hq : 0 < q) : OpY P n env own X (.binOp .rem t x y t') (.int k ((p % q : Nat) : Int)) := by
  subst hq'
  have hy' : eev env y = some (.int k (q : Int)) := hy
  have := op_rem (P := P) (n := n) (own := own) (X := X) (t := t) (t' := t') hx hy' (by omega) (by omega)
  simpa using this
theorem op_maxN {p q : Nat} {ts : Array TypeId} (hx : eev env x = some (.int k (p : Int))) (hy : eev env y = some (.int k (q : Int))) : OpY P n env own X (.call { callee := .builtin .max, args := #[x, y], argTypes := ts }) (.int k ((max p q : Nat) : Int)) :=
  op_max hx hy (by split <;> omega)
end
/-- The slots that are named here hold what they are said to hold. -/
inductive Sub (env : Env) : Env → Prop
  | nil : Sub env []
  | cons {t : Nat} {v : Value} {r : Env} : eget env t = some v → Sub env r → Sub env ((t, v) :: r)
theorem Sub.get {env env' : Env} (h : Sub env env') : ∀ t v, eget env' t = some v → eget env t = some v := by
  induction h with
  | nil => intro t v h; cases h
  | cons h _ ih =>
    intro t v hv
    simp only [eget] at hv
    rename_i t0 v0 r0 _
    cases hb : Nat.beq t0 t with
    | true =>
      rw [hb] at hv
      simp only [cond_true, Option.some.injEq] at hv
      rw [← Nat.eq_of_beq_eq_true hb, ← hv]; exact h
    | false => rw [hb] at hv; exact ih t v hv
end Go.Proofs.YtnabbnhefjfegaaGreatDoor
namespace Go.Proofs.YtnabbnhefjfegaaGreatDoor
open Go.RowKit
section
variable {P : Program} {n : NM} {X : PMap} {own : Own} {env : Env} {t t' : TypeId} {x y : Operand} {k : IntKind}
theorem wrap_u8 {p : Int} (h0 : 0 ≤ p) (h : p < 256) : IntKind.u8.wrap p = p := by simp [IntKind.wrap, IntKind.signed, IntKind.bits]; omega
theorem wrap_u64i {p : Int} (h0 : 0 ≤ p) (h : p < 18446744073709551616) : IntKind.u64.wrap p = p := by simp [IntKind.wrap, IntKind.signed, IntKind.bits]; omega
theorem op_addN {p q : Nat} (hx : eev env x = some (.int .i64 (p : Int))) (hy : eev env y = some (.int .i64 (q : Int))) (h : p + q ≤ 9223372036854775807) : OpY P n env own X (.binOp .add t x y t') (.int .i64 ((p + q : Nat) : Int)) := by
  have := op_add (P := P) (n := n) (own := own) (X := X) (t := t) (t' := t') hx hy (by omega) (by omega)
  simpa using this
theorem op_subN {p q : Nat} (hx : eev env x = some (.int .i64 (p : Int))) (hy : eev env y = some (.int .i64 (q : Int))) (h : q ≤ p) (h' : p ≤ 9223372036854775807) : OpY P n env own X (.binOp .sub t x y t') (.int .i64 ((p - q : Nat) : Int)) := by
  have := op_sub (P := P) (n := n) (own := own) (X := X) (t := t) (t' := t') hx hy (by omega) (by omega)
  rwa [show (p : Int) - (q : Int) = ((p - q : Nat) : Int) by omega] at this
theorem op_mulN {p q : Nat} (hx : eev env x = some (.int .i64 (p : Int))) (hy : eev env y = some (.int .i64 (q : Int))) (h : p * q ≤ 9223372036854775807) : OpY P n env own X (.binOp .mul t x y t') (.int .i64 ((p * q : Nat) : Int)) := by
  have e : (p : Int) * (q : Int) = ((p * q : Nat) : Int) := by simp
  have := op_mul (P := P) (n := n) (own := own) (X := X) (t := t) (t' := t') hx hy (by rw [e]; omega) (by rw [e]; omega)
  rwa [e] at this
theorem op_convI64 {src dst : TypeId} {k' : IntKind} {p : Int} {d : TypeDesc} (hs : P.underlying src = some d) (hd : P.underlying dst = some (.int .i64)) (hx : eev env x = some (.int k' p)) (h0 : -9223372036854775808 ≤ p) (h1 : p ≤ 9223372036854775807) : OpY P n env own X (.convert src dst x) (.int .i64 p) := by
  have := op_convert (n := n) (own := own) (X := X) hs hd hx
  rwa [wrap_i64_in h0 h1] at this
theorem op_convU64 {src dst : TypeId} {k' : IntKind} {p : Int} {d : TypeDesc} (hs : P.underlying src = some d) (hd : P.underlying dst = some (.int .u64)) (hx : eev env x = some (.int k' p)) (h0 : 0 ≤ p) (h1 : p < 18446744073709551616) : OpY P n env own X (.convert src dst x) (.int .u64 p) := by
  have := op_convert (n := n) (own := own) (X := X) hs hd hx
  rwa [wrap_u64i h0 h1] at this
theorem op_convU8 {src dst : TypeId} {k' : IntKind} {p : Int} {d : TypeDesc} (hs : P.underlying src = some d) (hd : P.underlying dst = some (.int .u8)) (hx : eev env x = some (.int k' p)) (h0 : 0 ≤ p) (h1 : p < 256) : OpY P n env own X (.convert src dst x) (.int .u8 p) := by
  have := op_convert (n := n) (own := own) (X := X) hs hd hx
  rwa [wrap_u8 h0 h1] at this
end
section
variable {P : Program} {n : NM} {w0 : Base} {X0 X : PMap} {own : Own} {env : Env}
theorem opx_of {o : Op} {v : Value} (k : Value → Prop) (h : OpY P n env own X o v) (hk : k v) (hd : noDefer o = true) : OpX P n w0 X0 env own X o true (fun u own' X' => k u ∧ own = own' ∧ X = X') := by
  intro a W oper K Q ro hop ha hs hK
  exact wp_value (noDefer_spec (by rw [hop]; exact hd)) (h a W oper hop ha hs.stab) (hK v own X W ⟨hk, rfl, rfl⟩ hs fun _ => ⟨Nat.le_refl _, fun _ _ => rfl⟩)
end
section
variable {ro : Option Nat} {P : Program} {n : NM} {w0 : Base} {X0 X : PMap} {own : Own} {env : Env} {Q : Exit → Act → World → Prop}
theorem T.less {k : List It} {e : Option Nat} {own' : Own} (hs : own'.Sublist own) (h : T ro P n w0 X0 Q k e env own' X) : T ro P n w0 X0 Q k e env own X := fun a W ha hsat => h a W ha (hsat.sub hs)
theorem T.drop {k : List It} {e : Option Nat} (b : Nat) {cs : List Value} {ty : TypeId} {sz j : Nat} (_ : AtO own b cs ty sz j) (h : T ro P n w0 X0 Q k e env (own.eraseIdx j) X) : T ro P n w0 X0 Q k e env own X := T.less (List.eraseIdx_sublist ..) h
theorem T.dropAt {ops : Array Oper} {l : List Oper} (b : Nat) {cs : List Value} {ty : TypeId} {sz j : Nat} (_ : AtO own b cs ty sz j) (h : SL ro P n w0 X0 ops Q l env (own.eraseIdx j) X) : SL ro P n w0 X0 ops Q l env own X := fun a W ha hs => h a W ha (hs.sub (List.eraseIdx_sublist ..))
theorem T.loopW {c : Code} {k : List It} (I : Fam) (m : Nat) {env' : Env} (h0 : I m env' own X) (hw : Sub env env')
    (round : ∀ m env own X, I m env own X → T ro P n w0 X0 Q (.code c :: backTo n w0 X0 I m :: k) none env own X) : T ro P n w0 X0 Q (.code (.loop c) :: k) none env own X := T.weaken hw.get (T.loop I m h0 round)
theorem T.backW {I : Fam} {m : Nat} {k : List It} (m' : Nat) (hm : m' < m) {env' : Env} (hI : I m' env' own X) (hw : Sub env env') : T ro P n w0 X0 Q (backTo n w0 X0 I m :: k) none env own X := T.back m' hm hI hw.get
end
end Go.Proofs.YtnabbnhefjfegaaGreatDoor
namespace Go.Proofs.YtnabbnhefjfegaaGreatDoor
open Go.RowKit
/-- v is a slice of these cells, size cells an element. -/
def SliceR (X : PMap) (v : Value) (len : Nat) (cs : List Value) : Prop :=
  (len = 0 ∧ cs = [] ∧ ∃ A c, v = .slice A 0 c) ∨ (0 < len ∧ ∃ b c, v = .slice (some ⟨b, 0, none⟩) len c ∧ Blk X b cs)
theorem SliceR.mono {X X' : PMap} {v : Value} {len : Nat} {cs : List Value} (h : SliceR X v len cs) (hX : X.le X') : SliceR X' v len cs := by
  rcases h with h | ⟨h0, b, c, hv, hb⟩
  · exact .inl h
  · exact .inr ⟨h0, b, c, hv, hb.mono hX⟩
/-- A slice of the call's own that has grown from nil. -/
def GrowS (e : TypeId) (size : Nat) (v : Value) (len : Nat) (cs : List Value) (G : Own) : Prop :=
  (len = 0 ∧ cs = [] ∧ v = .slice none 0 0 ∧ G = []) ∨
  (∃ b cap, v = .slice (some ⟨b, 0, none⟩) len cap ∧ G = [⟨b, cs, e, cap * size⟩] ∧ len ≤ cap ∧ cap ≤ maxLen ∧ cs.length = len * size)
theorem GrowS.nil {e : TypeId} {size : Nat} : GrowS e size (.slice none 0 0) 0 [] [] := .inl ⟨rfl, rfl, rfl, rfl⟩
theorem GrowS.form {e : TypeId} {size len : Nat} {v : Value} {cs : List Value} {G : Own} (h : GrowS e size v len cs G) : ∃ A cap, v = .slice A len cap := by
  rcases h with ⟨rfl, _, rfl, _⟩ | ⟨b, cap, rfl, _⟩
  · exact ⟨_, _, rfl⟩
  · exact ⟨_, _, rfl⟩
theorem AtO.append {G : Own} {b : Nat} {cs : List Value} {ty : TypeId} {sz j : Nat} (h : AtO G b cs ty sz j) : ∀ (own0 : Own), AtO (own0 ++ G) b cs ty sz (own0.length + j)
  | [] => by simpa using h
  | o :: l => by
    have := AtO.there (o := o) (AtO.append h l)
    rw [show l.length + j + 1 = (o :: l).length + j by simp; omega] at this
    exact this

section
variable {ro : Option Nat} {P : Program} {n : NM} {w0 : Base} {X0 X : PMap} {own : Own} {env : Env} {Q : Exit → Act → World → Prop}
theorem OpX.weaken {o : Op} {g : Bool} {k k' : Value → Own → PMap → Prop} (h : OpX P n w0 X0 env own X o g k) (hk : ∀ v own' X', k v own' X' → ∃ (own'' mid : Own), k' v own'' X' ∧ mid.Sublist own' ∧ mid.Perm own'') : OpX P n w0 X0 env own X o false k' := by
  intro a W oper K Q ro hop ha hs hK
  refine h a W oper K Q ro hop ha hs fun v own' X' W' hkk hs' hg => ?_
  obtain ⟨own'', mid, h1, h2, h3⟩ := hk v own' X' hkk
  exact hK v own'' X' W' h1 ((hs'.sub h2).perm h3) fun h => by cases h
/-- append of one element, which was laid as a slice literal just before: that literal is forgotten. -/
theorem op_appendG {t e ty : TypeId} {s x : Operand} {v : Value} {B c1 sz len size bytes : Nat} {cs new : List Value} {own0 G : Own} (ht : SlT P t e size bytes) (hs : eev env s = some v) (hg : GrowS e size v len cs G) (hx : eev env x = some (.slice (some ⟨B, 0, none⟩) 1 c1))
    (hnew : new.length = size) (h1 : new.all (·.oneCell') = true) (hlen : len + 1 ≤ maxLen) (hby : (len + 1) * bytes ≤ 140737488355328) :
    OpX P n w0 X0 env (⟨B, new, ty, sz⟩ :: (own0 ++ G)) X (.call { callee := .builtin .append, args := #[s, x], argTypes := #[t, t] }) false fun v' own' X' => ∃ G', own' = own0 ++ G' ∧ X = X' ∧ GrowS e size v' (len + 1) (cs ++ new) G' := by
  have h1' : ∀ y ∈ new, y.oneCell' = true := List.all_eq_true.1 h1
  rcases hg with ⟨rfl, rfl, rfl, rfl⟩ | ⟨b, cap, rfl, rfl, hlc, hcm, hcl⟩
  · refine (op_appendNil (m := 1) (news := new) ht hs hx (Src.ofOwn0 AtO.here (by simp [hnew])) (by omega) h1' (by simpa using hlen) (by simpa using hby)).weaken ?_
    rintro v' own' X' ⟨b', cap', rfl, rfl, rfl, hc1, hc2⟩
    refine ⟨own0 ++ [⟨b', new, e, cap' * size⟩], ⟨b', new, e, cap' * size⟩ :: own0, ⟨_, rfl, rfl, .inr ⟨b', cap', by simp, by simp, by omega, hc2, by simp [hnew]⟩⟩, ?_, (List.perm_append_singleton ..).symm⟩
    rw [List.append_nil]
    exact List.Sublist.cons_cons _ (List.sublist_cons_self ..)
  · refine (op_append (m := 1) (news := new) (j := own0.length + 1) ht hs hx ?_ rfl hcl hlc hcm (Src.ofOwn0 AtO.here (by simp [hnew])) h1' (by simpa using hlen) (by simpa using hby)).weaken ?_
    · have := AtO.there (o := ⟨B, new, ty, sz⟩) ((AtO.here (l := []) (b := b) (cs := cs) (ty := e) (sz := cap * size)).append own0)
      simpa using this
    · rintro v' own' X' ⟨b', cap', rfl, rfl, rfl, hc1, hc2⟩
      refine ⟨own0 ++ [⟨b', cs ++ new, e, cap' * size⟩], _, ⟨_, rfl, rfl, .inr ⟨b', cap', rfl, rfl, hc1, hc2, by simp [hcl, hnew, Nat.add_mul]⟩⟩, ?_, .refl _⟩
      have e1 : (⟨B, new, ty, sz⟩ :: (own0 ++ [(⟨b, cs, e, cap * size⟩ : Ow)])).set (own0.length + 1) ⟨b', cs ++ new, e, cap' * size⟩ = ⟨B, new, ty, sz⟩ :: (own0 ++ [⟨b', cs ++ new, e, cap' * size⟩]) := by
        simp
      rw [e1]
      exact List.sublist_cons_self ..
/-- What has grown is laid for good. -/
theorem Sat.pubG {e : TypeId} {size len : Nat} {v : Value} {cs : List Value} {own0 G : Own} {W : World} (hg : GrowS e size v len cs G) (h : Sat w0 X0 (own0 ++ G) X W) : ∃ X', X.le X' ∧ SliceR X' v len cs ∧ Sat w0 X0 own0 X' W := by
  rcases hg with ⟨rfl, rfl, rfl, rfl⟩ | ⟨b, cap, rfl, rfl, hlc, hcm, hcl⟩
  · rw [List.append_nil] at h
    exact ⟨X, PMap.le_refl X, .inl ⟨rfl, rfl, _, _, rfl⟩, h⟩
  · have ha := (AtO.here (l := []) (b := b) (cs := cs) (ty := e) (sz := cap * size)).append own0
    obtain ⟨X', h1, h2, _, h4⟩ := h.pub ha
    refine ⟨X', h1, ?_, ?_⟩
    · rcases Nat.eq_zero_or_pos len with h0 | h0
      · subst h0
        have : cs = [] := List.eq_nil_of_length_eq_zero (by simpa using hcl)
        subst this
        exact .inl ⟨rfl, rfl, _, _, rfl⟩
      · exact .inr ⟨h0, b, cap, rfl, h2⟩
    · have e1 : (own0 ++ [(⟨b, cs, e, cap * size⟩ : Ow)]).eraseIdx (own0.length + 0) = own0 := by
        rw [List.eraseIdx_append_of_length_le (by omega)]
        simp
      rwa [e1] at h4
theorem T.pubG {k : List It} {ex : Option Nat} {e : TypeId} {size len : Nat} {v : Value} {cs : List Value} {own0 G : Own} (hg : GrowS e size v len cs G) (h : ∀ X', X.le X' → SliceR X' v len cs → T ro P n w0 X0 Q k ex env own0 X') : T ro P n w0 X0 Q k ex env (own0 ++ G) X := by
  intro a W ha hs
  obtain ⟨X', h1, h2, h3⟩ := hs.pubG hg
  exact h X' h1 h2 a W ha h3
end
end Go.Proofs.YtnabbnhefjfegaaGreatDoor
namespace Go.Proofs.YtnabbnhefjfegaaGreatDoor
open Go.RowKit
section
variable {P : Program} {n : NM} {w0 : Base} {X0 X : PMap} {own : Own} {env : Env} {ops : Array Oper} {Q : Exit → Act → World → Prop} {ro : Option Nat}
theorem SL.v {l : List Oper} {d : Option Tmp} {op : Op} {ty : TypeId} {pos : String} {af : Array Edge} {g : Option (Nat × Bool)} {v : Value} (h : OpY P n env own X op v)
    (h' : SL ro P n w0 X0 ops Q l (eput env d v) own X) (hg : gwant ops env g = some true := by rfl) (hd : (dok n d && noDefer op) = true := by rfl) : SL ro P n w0 X0 ops Q (⟨d, op, ty, pos, af, g⟩ :: l) env own X := SL.y h hg hd h'
theorem SL.mv {l : List Oper} {d : Option Tmp} {x : Operand} {ty : TypeId} {pos : String} {af : Array Edge} {g : Option (Nat × Bool)} {v : Value} (h : eev env x = some v)
    (h' : SL ro P n w0 X0 ops Q l (eput env d v) own X) (hg : gwant ops env g = some true := by rfl) (hd : dok n d = true := by rfl) : SL ro P n w0 X0 ops Q (⟨d, .move x, ty, pos, af, g⟩ :: l) env own X := SL.y (op_move h) hg (by rw [hd]; rfl) h'
theorem SL.as {l : List Oper} {d : Option Tmp} {x : Operand} {ty : TypeId} {pos : String} {af : Array Edge} {g : Option (Nat × Bool)} {v : Value} (h : eev env x = some v)
    (h' : SL ro P n w0 X0 ops Q l (eput env d v) own X) (hg : gwant ops env g = some true := by rfl) (hd : dok n d = true := by rfl) : SL ro P n w0 X0 ops Q (⟨d, .assign x, ty, pos, af, g⟩ :: l) env own X := SL.y (op_assign h) hg (by rw [hd]; rfl) h'
theorem SL.w {l : List Oper} {d : Option Tmp} {op : Op} {ty : TypeId} {pos : String} {af : Array Edge} {g : Option (Nat × Bool)} {k : Value → Own → PMap → Prop} {gr : Bool} (h : OpX P n w0 X0 env own X op gr k)
    (h' : ∀ v own' X', k v own' X' → SL ro P n w0 X0 ops Q l (eput env d v) own' X') (hg : gwant ops env g = some true := by rfl) (hd : dok n d = true := by rfl) : SL ro P n w0 X0 ops Q (⟨d, op, ty, pos, af, g⟩ :: l) env own X := SL.x h hg hd h'
end
end Go.Proofs.YtnabbnhefjfegaaGreatDoor
namespace Go.Proofs.YtnabbnhefjfegaaGreatDoor
open Go.RowKit
theorem Sat.hold {w : World} {res : List (Nat × Obj)} {X0 X : PMap} {own : Own} {W : World} (h : Sat ⟨w, res⟩ X0 own X W) (o : Obj) : Sat ⟨w, (W.heap.size, o) :: res⟩ X0 own X (W.alloc o) := by
  have hg := Grow.alloc W o
  refine ⟨⟨h.below.alloc h.below.size o, h.old, h.stab.grow hg, h.new, h.apart, h.nodup⟩, fun p hp => ?_⟩
  rcases List.mem_cons.1 hp with rfl | hp
  · exact ⟨heap_alloc_new W o, h.stab.pers.fresh, fun q hq => Nat.ne_of_lt (h.stab.own q hq).lt, h.below.size⟩
  · obtain ⟨h1, h2, h3, h4⟩ := h.res p hp
    exact ⟨(hg.same _ (get_lt h1)).trans h1, h2, h3, h4⟩
theorem Sat.drop {w : World} {res : List (Nat × Obj)} {X0 X : PMap} {own : Own} {W : World} {p : Nat × Obj} (h : Sat ⟨w, p :: res⟩ X0 own X W) : Sat ⟨w, res⟩ X0 own X W := ⟨⟨h.below, h.old, h.stab, h.new, h.apart, h.nodup⟩, fun q hq => h.res q (by simp [hq])⟩

end Go.Proofs.YtnabbnhefjfegaaGreatDoor
namespace Go.Proofs.YtnabbnhefjfegaaGreatDoor
open Go.RowKit
/-- What a call leaves that hands over blocks. -/
def FinO (w0 : World) (X0 : PMap) (Φ : Value → Own → PMap → Prop) (e : Ending) (w' : World) : Prop :=
  ∃ v own X', e = .returned v ∧ SatC w0 X0 own X' w' ∧ Φ v own X'
def SpecO (P : Program) (f : FuncId) (args : List Value) (X0 : PMap) (Φ : Value → Own → PMap → Prop) : Prop := ∀ w, PIn X0 w → Calls P f args.toArray w (FinO w X0 Φ)
theorem SpecO.enter {P : Program} {f : FuncId} {fn : Func} {c : Code} {args : List Value} {X0 : PMap} {Φ : Value → Own → PMap → Prop} (hf : P.funcs[f]? = some fn) (hb : fn.body = some c) {n : Nat} (hn : fn.ntmps = n) (hl : Nat.ble args.length n = true)
    (h : ∀ w, PIn X0 w → T none P ⟨n, []⟩ ⟨w, []⟩ X0 (bodyQ P fn (FinO w X0 Φ)) [.code c] none (argEnv 0 args) [] X0) : SpecO P f args X0 Φ := fun w hw => Calls.enter hf hb hn hl hw (h w hw)
theorem Sat.callO {w0 : Base} {X0 : PMap} {own own1 : Own} {X X' : PMap} {W W' : World} (h : Sat w0 X0 own X W) (h1 : SatC W X own1 X' W') : Sat w0 X0 (own1 ++ own) X' W' := by
  have hg := Grow.of_below h1.below
  refine ⟨⟨h.below.trans (h1.below.mono h.below.size), fun k hk => (h1.old k (Nat.lt_of_lt_of_le hk h.below.size)).trans (h.old k hk), ⟨fun p hp => ?_, h1.stab.pers⟩, fun p hp => ?_, fun p hp => ?_, ?_⟩, fun p hp => ?_⟩
  · rcases List.mem_append.1 hp with hp | hp
    · exact h1.stab.own p hp
    · exact hg.ow (h.stab.own p hp)
  · rcases List.mem_append.1 hp with hp | hp
    · exact Nat.le_trans h.below.size (h1.new p hp)
    · exact h.new p hp
  · rcases List.mem_append.1 hp with hp | hp
    · exact h1.apart p hp
    · exact (h1.old _ (h.stab.own p hp).lt).trans (h.apart p hp)
  · refine List.pairwise_append.2 ⟨h1.nodup, h.nodup, fun a ha b hb => ?_⟩
    have := h1.new a ha
    have := (h.stab.own b hb).lt
    omega
  · obtain ⟨g1, g2, g3, g4⟩ := h.res p hp
    refine ⟨(hg.same _ (get_lt g1)).trans g1, (h1.old _ (get_lt g1)).trans g2, fun q hq => ?_, g4⟩
    rcases List.mem_append.1 hq with hq | hq
    · have := h1.new q hq
      have := get_lt g1
      omega
    · exact g3 q hq

section
variable {ro : Option Nat} {P : Program} {n : NM} {w0 : Base} {X0 X : PMap} {own : Own} {env : Env}
theorem op_callO {f : FuncId} {xs : Array Operand} {ts : Array TypeId} {vs : List Value} {Φ : Value → Own → PMap → Prop} (he : Enters P f) (hx : xs.toList.map (eev env) = vs.map some)
    (h : SpecO P f vs X Φ) : OpX P n w0 X0 env own X (.call { callee := .value (.func f), args := xs, argTypes := ts }) true fun v own' X' => ∃ own1, own' = own1 ++ own ∧ X.le X' ∧ Φ v own1 X' := by
  intro a W oper K Q ro hop ha hs hK
  have all : ∀ (xs : List Operand) (vs : List Value), xs.map (eev env) = vs.map some → xs.map a.eval = vs := by
    intro xs
    induction xs with
    | nil => intro vs h; cases vs <;> simp_all
    | cons x xs ih =>
      intro vs h
      cases vs with
      | nil => simp at h
      | cons v vs =>
        simp only [List.map_cons, List.cons.injEq] at h
        simp [ha.eval h.1, ih vs h.2]
  have h1 : xs.map a.eval = vs.toArray := by apply Array.toList_inj.1; simp [all _ _ hx]
  have hex : (execOp a.eval oper).run P W = .ok (.enter f vs.toArray) W := by
    have hc : a.eval (.func f) = .func (.func f) #[] #[] := ha.eval rfl
    simp only [execOp, hop, resolve, hc, h1, Deferred.ofValue, invoke, Sem.run_bind, Sem.run_pure, Result.andThen_ok]
    simpa using he vs.toArray W
  refine wp_enters (noDefer_spec (by rw [hop]; rfl)) hex ((h W hs.stab.pers).mono fun e w' hfin => ?_)
  obtain ⟨v, own1, X', rfl, hc, hΦ⟩ := hfin
  refine ⟨v, rfl, ?_⟩
  exact hK v _ X' w' ⟨own1, rfl, fun q o hq => (hc.old q (hs.stab.pers.lt hq)).trans hq, hΦ⟩ (hs.callO hc) fun _ => Grow.of_below hc.below
variable {fn : Func} {Φ : Value → Own → PMap → Prop}
theorem T.retO {w : World} {v : Value} {k : List It} {s : Nat} (hr : ∀ a W, EOk ⟨s, []⟩ env a → Stab own X W → (results fn a.tmps).run P W = .ok v W) (hΦ : Φ v own X) : T ro P ⟨s, []⟩ ⟨w, []⟩ X0 (bodyQ P fn (FinO w X0 Φ)) (.code .ret :: k) none env own X :=
  fun a W ha hs => runL_ret (by
    show LeavesInM (FR none) DEP P fn a.tmps _ a.defers .returning W
    rw [ha.defers]
    exact ⟨v, hr a W ha hs.stab, v, own, X, rfl, hs.toSatC, hΦ⟩)
theorem T.retO1 {w : World} {k : List It} {s : Nat} {r : ResultVar} {v : Value} (hr : fn.results = #[r]) (h : ResIs P env own r v) (hΦ : Φ v own X) : T ro P ⟨s, []⟩ ⟨w, []⟩ X0 (bodyQ P fn (FinO w X0 Φ)) (.code .ret :: k) none env own X := T.retO (fun _ _ ha hs => run_results1 hr h ha hs) hΦ
theorem T.perm {Q : Exit → Act → World → Prop} {k : List It} {e : Option Nat} {own' : Own} (hp : own.Perm own') (h : T ro P n w0 X0 Q k e env own' X) : T ro P n w0 X0 Q k e env own X := fun a W ha hs => h a W ha (hs.perm hp)
theorem SL.perm {ops : Array Oper} {Q : Exit → Act → World → Prop} {l : List Oper} {own' : Own} (hp : own.Perm own') (h : SL ro P n w0 X0 ops Q l env own' X) : SL ro P n w0 X0 ops Q l env own X := fun a W ha hs => h a W ha (hs.perm hp)
end
end Go.Proofs.YtnabbnhefjfegaaGreatDoor
namespace Go.Proofs.YtnabbnhefjfegaaGreatDoor
open Go.RowKit
section
variable {P : Program} {n : NM} {w0 : Base} {X0 X : PMap} {own : Own} {env : Env}
/-- The start of a slice of a slice. -/
def slA (A : Option Addr) (cap l size : Nat) : Option Addr := if cap = l then A else A.map (·.add (l * size))
theorem op_sliceA {t e : TypeId} {x : Operand} {lo hi : Option Operand} {A : Option Addr} {len cap size l h : Nat} {row : Bool} (ht : P.underlying t = some (.slice e)) (he : Ty P e row size) (hx : eev env x = some (.slice A len cap))
    (hl : ∀ q, lo = some q → ∃ k, eev env q = some (.int k (l : Int))) (hl0 : lo = none → l = 0) (hh : ∀ q, hi = some q → ∃ k, eev env q = some (.int k (h : Int))) (hh0 : hi = none → h = len) (h1 : l ≤ h) (h2 : h ≤ cap) :
    OpY P n env own X (.slice t x lo hi none) (.slice (slA A cap l size) (h - l) (cap - l)) := by
  intro a W oper hop ha _
  have hinf := he.info
  have hinf' : ∃ inf, P.info? e = some inf ∧ inf.size = size := by
    cases hq : P.info? e with
    | none => simp [hq] at hinf
    | some inf => exact ⟨inf, rfl, by simpa [hq] using hinf⟩
  obtain ⟨inf, hq, hsz⟩ := hinf'
  have hsl : ∀ (lo' hi' : Option Value), (∀ v, lo' = some v → ∃ k, v = .int k (l : Int)) → (lo' = none → l = 0) → (∀ v, hi' = some v → ∃ k, v = .int k (h : Int)) → (hi' = none → h = len) →
      (Instr.sliceAt t (.slice A len cap) lo' hi' none).run P W = .ok (.slice (slA A cap l size) (h - l) (cap - l)) W := by
    intro lo' hi' a1 a2 a3 a4
    have hb2 : (Instr.sliceBounds true len cap lo' hi' none).run P W = .ok (l, h, cap) W := by
      cases lo' with
      | none =>
        have := a2 rfl
        subst this
        cases hi' with
        | none => have := a4 rfl; subst this; simp [Instr.sliceBounds]
        | some v => obtain ⟨k, rfl⟩ := a3 v rfl; simp [Instr.sliceBounds, Instr.sliceBound, asIntOf, h2]
      | some u =>
        obtain ⟨k', rfl⟩ := a1 u rfl
        cases hi' with
        | none => have := a4 rfl; subst this; simp [Instr.sliceBounds, Instr.sliceBound, asIntOf, h1]
        | some v => obtain ⟨k, rfl⟩ := a3 v rfl; simp [Instr.sliceBounds, Instr.sliceBound, asIntOf, h2, h1]
    simp only [Instr.sliceAt, Sem.run_bind, run_underlying ht, Result.andThen_ok, Instr.slice, hb2, sizeOf, typeInfo, slA]
    by_cases hc : cap = l <;> simp [hc, hq, hsz]
  have := hsl (lo.map a.eval) (hi.map a.eval) (fun v hv => by
      cases lo with
      | none => simp at hv
      | some q => obtain ⟨k, hk⟩ := hl q rfl; simp only [Option.map_some, Option.some.injEq] at hv; exact ⟨k, by rw [← hv, ha.eval hk]⟩)
    (fun hv => hl0 (by cases lo <;> simp_all)) (fun v hv => by
      cases hi with
      | none => simp at hv
      | some q => obtain ⟨k, hk⟩ := hh q rfl; simp only [Option.map_some, Option.some.injEq] at hv; exact ⟨k, by rw [← hv, ha.eval hk]⟩)
    (fun hv => hh0 (by cases hi <;> simp_all))
  simp [execOp, hop, ha.eval hx, this]
theorem op_sliceLo {t e : TypeId} {x y : Operand} {A : Option Addr} {len cap size l : Nat} {row : Bool} {kk : IntKind} (ht : P.underlying t = some (.slice e)) (he : Ty P e row size) (hx : eev env x = some (.slice A len cap))
    (hy : eev env y = some (.int kk (l : Int))) (h1 : l ≤ len) (h2 : len ≤ cap) : OpY P n env own X (.slice t x (some y) none none) (.slice (slA A cap l size) (len - l) (cap - l)) :=
  op_sliceA ht he hx (fun q h => by cases h; exact ⟨kk, hy⟩) (fun h => by cases h) (fun _ h => by cases h) (fun _ => rfl) h1 h2
theorem op_sliceHi {t e : TypeId} {x y : Operand} {A : Option Addr} {len cap size l : Nat} {row : Bool} {kk : IntKind} (ht : P.underlying t = some (.slice e)) (he : Ty P e row size) (hx : eev env x = some (.slice A len cap))
    (hy : eev env y = some (.int kk (l : Int))) (h2 : l ≤ cap) : OpY P n env own X (.slice t x none (some y) none) (.slice (slA A cap 0 size) l cap) := by
  have := op_sliceA (n := n) (own := own) (X := X) (lo := none) (hi := some y) (l := 0) ht he hx (fun _ h => by cases h) (fun _ => rfl) (fun q h => by cases h; exact ⟨kk, hy⟩) (fun h => by cases h) (Nat.zero_le _) h2
  simpa using this
/-- The part of a slice from l on, read. -/
theorem Src.lo {s : Value} {len size l cap : Nat} {A : Option Addr} {cs : List Value} (h : SliceR X s len cs) (hs : s = .slice A len cap) (hc : cs.length = len * size) (h1 : l ≤ len) (h2 : len ≤ cap) : Src own X (.slice (slA A cap l size) (len - l) (cap - l)) (len - l) size (cs.drop (l * size)) := by
  subst hs
  rcases h with ⟨rfl, rfl, _⟩ | ⟨h0, b, c, hv, hb⟩
  · obtain rfl : l = 0 := by omega
    simpa using Src.nil
  · simp only [Value.slice.injEq, true_and] at hv
    obtain ⟨rfl, rfl⟩ := hv
    unfold slA
    by_cases he : cap = l
    · rw [if_pos he]
      have e : len = l := by omega
      rw [e, Nat.sub_self, List.drop_eq_nil_of_le (by rw [hc, e]; exact Nat.le_refl _)]
      exact Src.nil
    · rw [if_neg he]
      have hm : l * size + (len - l) * size = len * size := by rw [← Nat.add_mul]; congr 1; omega
      have := Src.ofExt (own := own) (m := len - l) (c := cap - l) (size := size) (o := l * size) hb (by omega)
      have e2 : (cs.drop (l * size)).take ((len - l) * size) = cs.drop (l * size) := List.take_of_length_le (by simp; omega)
      rw [e2] at this
      show Src own X (.slice (some (Addr.add ⟨b, 0, none⟩ (l * size))) _ _) _ _ _
      rw [Addr.add_mid, Nat.zero_add]
      exact this
/-- The first l elements of a slice, read. -/
theorem Src.hi {s : Value} {len size l cap : Nat} {A : Option Addr} {cs : List Value} (h : SliceR X s len cs) (hs : s = .slice A len cap) (hc : cs.length = len * size) (h1 : l ≤ len) : Src own X (.slice (slA A cap 0 size) l cap) l size (cs.take (l * size)) := by
  subst hs
  have hA : slA A cap 0 size = if cap = 0 then A else A.map (·.add 0) := by simp [slA]
  rcases h with ⟨rfl, rfl, _⟩ | ⟨h0, b, c, hv, hb⟩
  · obtain rfl : l = 0 := by omega
    simpa using Src.nil
  · simp only [Value.slice.injEq, true_and] at hv
    obtain ⟨rfl, rfl⟩ := hv
    have hle : l * size ≤ len * size := Nat.mul_le_mul_right _ h1
    have := Src.ofExt (own := own) (m := l) (c := cap) (size := size) (o := 0) hb (by omega)
    rw [hA]
    split <;> simpa [Addr.add] using this
end
end Go.Proofs.YtnabbnhefjfegaaGreatDoor
namespace Go.Proofs.YtnabbnhefjfegaaGreatDoor
open Go.RowKit
/-- What a call leaves that was lent blocks. -/
def FinM (w0 : Base) (X0 : PMap) (own0 : Own) (Φ : Value → Own → PMap → Prop) (e : Ending) (w' : World) : Prop :=
  ∃ v L' X', e = .returned v ∧ Sat w0 X0 (L' ++ own0) X' w' ∧ Φ v L' X'
def SpecM (P : Program) (f : FuncId) (args : List Value) (X : PMap) (L : Own) (Φ : Value → Own → PMap → Prop) : Prop :=
  ∀ (w0 : Base) (X0 : PMap) (own0 : Own) (W : World), Sat w0 X0 (L ++ own0) X W → Calls P f args.toArray W (FinM w0 X0 own0 fun v L' X' => X.le X' ∧ Φ v L' X')
theorem Calls.enterM {P : Program} {f : FuncId} {fn : Func} {c : Code} {args : List Value} {R : Ending → World → Prop} {w0 : Base} {X0 X : PMap} {own : Own} {W : World} (hf : P.funcs[f]? = some fn) (hb : fn.body = some c) {n : Nat} (hn : fn.ntmps = n) (hl : Nat.ble args.length n = true) (hs : Sat w0 X0 own X W)
    (h : T none P ⟨n, []⟩ w0 X0 (bodyQ P fn R) [.code c] none (argEnv 0 args) own X) : Calls P f args.toArray W R := by
  have hl' : args.length ≤ n := Nat.le_of_ble_eq_true hl
  refine (fr_calls (ro := none) (m := DEP)).1 (callsIn_of_wp_marks (F := FR none) hf hb trivial ?_)
  have := h { tmps := args.toArray ++ Array.replicate (fn.ntmps - args.toArray.size) undef, defers := [] } W ⟨rfl, by simp; omega, fun t v ht => ?_⟩ hs
  · refine Code.wpIn_mono (fun e a w h => bodyQ_post _ _ _ ?_) (runL_code_iff.1 this)
    cases e <;> exact h
  · obtain ⟨_, h2⟩ := eget_argEnv _ _ _ _ ht
    simp only [Nat.sub_zero] at h2
    have hlt : t < args.length := by
      rcases Nat.lt_or_ge t args.length with h1 | h1
      · exact h1
      · rw [List.getElem?_eq_none h1] at h2; cases h2
    rw [List.getElem?_eq_getElem hlt] at h2
    simp only [Option.some.injEq] at h2
    subst h2
    have : t < args.length + (n - args.length) := by omega
    simp [Array.getD, hn, this, hlt]
theorem SpecM.enter {P : Program} {f : FuncId} {fn : Func} {c : Code} {args : List Value} {X : PMap} {L : Own} {Φ : Value → Own → PMap → Prop} (hf : P.funcs[f]? = some fn) (hb : fn.body = some c) {n : Nat} (hn : fn.ntmps = n) (hl : Nat.ble args.length n = true)
    (h : ∀ w0 X0 own0, T none P ⟨n, []⟩ w0 X0 (bodyQ P fn (FinM w0 X0 own0 fun v L' X' => X.le X' ∧ Φ v L' X')) [.code c] none (argEnv 0 args) (L ++ own0) X) : SpecM P f args X L Φ :=
  fun w0 X0 own0 _ hs => Calls.enterM hf hb hn hl hs (h w0 X0 own0)
section
variable {ro : Option Nat} {P : Program} {n : NM} {w0 : Base} {X0 X : PMap} {own : Own} {env : Env}
theorem op_callM {f : FuncId} {xs : Array Operand} {ts : Array TypeId} {vs : List Value} {L own0 : Own} {Φ : Value → Own → PMap → Prop} (he : Enters P f) (hx : xs.toList.map (eev env) = vs.map some)
    (h : SpecM P f vs X L Φ) (hown : own = L ++ own0) : OpX P n w0 X0 env own X (.call { callee := .value (.func f), args := xs, argTypes := ts }) false fun v own' X' => ∃ L', own' = L' ++ own0 ∧ X.le X' ∧ Φ v L' X' := by
  subst hown
  intro a W oper K Q ro hop ha hs hK
  have all : ∀ (xs : List Operand) (vs : List Value), xs.map (eev env) = vs.map some → xs.map a.eval = vs := by
    intro xs
    induction xs with
    | nil => intro vs h; cases vs <;> simp_all
    | cons x xs ih =>
      intro vs h
      cases vs with
      | nil => simp at h
      | cons v vs =>
        simp only [List.map_cons, List.cons.injEq] at h
        simp [ha.eval h.1, ih vs h.2]
  have h1 : xs.map a.eval = vs.toArray := by apply Array.toList_inj.1; simp [all _ _ hx]
  have hex : (execOp a.eval oper).run P W = .ok (.enter f vs.toArray) W := by
    have hc : a.eval (.func f) = .func (.func f) #[] #[] := ha.eval rfl
    simp only [execOp, hop, resolve, hc, h1, Deferred.ofValue, invoke, Sem.run_bind, Sem.run_pure, Result.andThen_ok]
    simpa using he vs.toArray W
  refine wp_enters (noDefer_spec (by rw [hop]; rfl)) hex ((h w0 X0 own0 W hs).mono fun e w' hfin => ?_)
  obtain ⟨v, L', X', rfl, hc, hX, hΦ⟩ := hfin
  exact ⟨v, rfl, hK v _ X' w' ⟨L', rfl, hX, hΦ⟩ hc (fun h => by cases h)⟩
variable {fn : Func} {Φ : Value → Own → PMap → Prop}
theorem T.retM {v : Value} {k : List It} {s : Nat} {own0 L' : Own} (hr : ∀ a W, EOk ⟨s, []⟩ env a → Stab own X W → (results fn a.tmps).run P W = .ok v W) (hp : own.Perm (L' ++ own0)) (hΦ : Φ v L' X) : T ro P ⟨s, []⟩ w0 X0 (bodyQ P fn (FinM w0 X0 own0 Φ)) (.code .ret :: k) none env own X :=
  fun a W ha hs => runL_ret (by
    show LeavesInM (FR none) DEP P fn a.tmps _ a.defers .returning W
    rw [ha.defers]
    exact ⟨v, hr a W ha hs.stab, v, L', X, rfl, hs.perm hp, hΦ⟩)
theorem T.doneM {v : Value} {s : Nat} {own0 L' : Own} (hr : ∀ a W, EOk ⟨s, []⟩ env a → Stab own X W → (results fn a.tmps).run P W = .ok v W) (hp : own.Perm (L' ++ own0)) (hΦ : Φ v L' X) : T ro P ⟨s, []⟩ w0 X0 (bodyQ P fn (FinM w0 X0 own0 Φ)) [] none env own X :=
  fun a W ha hs => (by
    show LeavesInM (FR none) DEP P fn a.tmps _ a.defers .returning W
    rw [ha.defers]
    exact ⟨v, hr a W ha hs.stab, v, L', X, rfl, hs.perm hp, hΦ⟩)
theorem T.doneM0 {s : Nat} {own0 : Own} (L' : Own) (hr : fn.results = #[]) (hp : own.Perm (L' ++ own0)) (hΦ : Φ (.tuple #[]) L' X) : T ro P ⟨s, []⟩ w0 X0 (bodyQ P fn (FinM w0 X0 own0 Φ)) [] none env own X := T.doneM (fun _ _ _ _ => run_results0 hr) hp hΦ
theorem T.retM1 {k : List It} {s : Nat} {own0 : Own} (L' : Own) {r : ResultVar} {v : Value} (hr : fn.results = #[r]) (h : ResIs P env own r v) (hp : own.Perm (L' ++ own0)) (hΦ : Φ v L' X) : T ro P ⟨s, []⟩ w0 X0 (bodyQ P fn (FinM w0 X0 own0 Φ)) (.code .ret :: k) none env own X := T.retM (fun _ _ ha hs => run_results1 hr h ha hs) hp hΦ
theorem T.retM2 {k : List It} {s : Nat} {own0 : Own} (L' : Own) {r r' : ResultVar} {v v' : Value} (hr : fn.results = #[r, r']) (h : ResIs P env own r v) (h' : ResIs P env own r' v') (hp : own.Perm (L' ++ own0)) (hΦ : Φ (.tuple #[v, v']) L' X) : T ro P ⟨s, []⟩ w0 X0 (bodyQ P fn (FinM w0 X0 own0 Φ)) (.code .ret :: k) none env own X := T.retM (fun _ _ ha hs => run_results2 hr h h' ha hs) hp hΦ

theorem permA {a : Ow} {G O : Own} : ([a] ++ (G ++ O)).Perm ((a :: O) ++ G) := List.Perm.cons a (show (G ++ O).Perm (O ++ G) from List.perm_append_comm)
theorem permC {a g : Ow} {O : Own} : ((a :: [g]) ++ O).Perm ((a :: O) ++ [g]) := List.Perm.cons a (show ([g] ++ O).Perm (O ++ [g]) from List.perm_append_comm)
theorem permD {a : Ow} {G O : Own} : ((a :: O) ++ G).Perm ((a :: G) ++ O) := List.Perm.cons a (show (O ++ G).Perm (G ++ O) from List.perm_append_comm)
theorem infoStr_of {e : TypeId} (h : (P.info? e).map (fun i => (i.size, i.bytes, i.zero)) = some (1, 1, some (.int .u8 0))) : ∃ i, P.info? e = some i ∧ i.zero = some (.int .u8 0) ∧ i.size = 1 ∧ i.bytes = 1 := by
  obtain ⟨i, h1, h2⟩ := Option.map_eq_some_iff.1 h
  simp only [Prod.mk.injEq] at h2
  exact ⟨i, h1, h2.2.2, h2.1, h2.2.1⟩
theorem Ow.In.shape {p : Ow} {W : World} (h : p.In W) : W.shape? p.b = some (p.ty, p.sz) := by
  obtain ⟨r, h, hz⟩ := h
  simp [World.shape?, h, hz]
/-- A pointer to a block of the call's own, as unsafe.Pointer. -/
theorem op_toUns {src dst t ty : TypeId} {x : Operand} {b sz j : Nat} {cs : List Value} (hs : P.underlying src = some (.pointer t)) (hd : P.underlying dst = some .unsafePointer) {size : Nat} (ht : (P.info? t).map (·.size) = some (size + 1)) (hx : eev env x = some (.pointer (some ⟨b, 0, none⟩)))
    (ho : AtO own b cs ty sz j) (h0 : 0 < sz) : OpY P n env own X (.convert src dst x) (.pointer (some ⟨b, 0, none⟩)) := by
  intro a W oper hop ha hst
  obtain ⟨i, hi, hz⟩ := Option.map_eq_some_iff.1 ht
  have := Lib.run_to_unsafe (P := P) W ⟨b, 0, none⟩ hs hd hi (by omega) ((hst.own _ ho.mem).shape) h0
  simp [execOp, hop, ha.eval hx, this]
theorem op_fromUns {src dst u ty : TypeId} {x : Operand} {b sz j : Nat} {cs : List Value} (hs : P.underlying src = some .unsafePointer) (hd : P.underlying dst = some (.pointer u)) {size : Nat} (hu : (P.info? u).map (·.size) = some size) (hx : eev env x = some (.pointer (some ⟨b, 0, none⟩)))
    (ho : AtO own b cs ty sz j) (hl : liesAt P P.depth ty (sz / P.cellsOf ty) 0 u 1 = true) : OpY P n env own X (.convert src dst x) (.pointer (some ⟨b, 0, none⟩)) := by
  intro a W oper hop ha hst
  obtain ⟨i, hi, hz⟩ := Option.map_eq_some_iff.1 hu
  have := Lib.run_from_unsafe (P := P) W ⟨b, 0, none⟩ hs hd hi ((hst.own _ ho.mem).shape) hl
  simp [execOp, hop, ha.eval hx, this]
/-- abi.NoEscape: the pointer as it is. -/
theorem op_noEsc {f : FuncId} {gn : Func} {x : Operand} {ts : Array TypeId} {v : Value} (hf : P.funcs[f]? = some gn) (h1 : (gn.name == "runtime.NumGoroutine") = false) (h2 : gn.body.isNone = true) (h3 : Extern.findNext gn = none) (h4 : Extern.find gn = some Extern.AbiNoEscape.same) (hx : eev env x = some v) :
    OpY P n env own X (.call { callee := .value (.func f), args := #[x], argTypes := ts }) v := by
  intro a W oper hop ha _
  have hc : a.eval (.func f) = .func (.func f) #[] #[] := ha.eval rfl
  have hr := run_callFunc_extern hf h1 h2 h3 h4 #[v] W
  rw [Lib.run_noEscape] at hr
  simp only [execOp, hop, resolve, hc, Deferred.ofValue, invoke, Sem.run_bind, Sem.run_pure, Result.andThen_ok]
  simpa [ha.eval hx] using hr
theorem op_neqSame {tp te : TypeId} {x y : Operand} {t' : TypeId} {A : Addr} {size : Nat} (hp : P.underlying tp = some (.pointer te)) (hte : (P.info? te).map (·.size) = some size) (hx : eev env x = some (.pointer (some A))) (hy : eev env y = some (.pointer (some A))) :
    OpY P n env own X (.binOp .neq tp x y t') (.bool false) := by
  intro a W oper hop ha _
  obtain ⟨i, hi, _⟩ := Option.map_eq_some_iff.1 hte
  have := Lib.run_neq_ptr_same (P := P) W A hp hi
  have h0 : ∀ (e : BinOp) (u v : Operand), eqGuard e tp u v (.pointer (some A)) (.pointer (some A)) = pure () := fun e u v => by cases e <;> rfl
  simp only [execOp, hop, ha.eval hx, ha.eval hy, h0, Sem.run_bind, Sem.run_pure, Result.andThen_ok, this]
theorem op_sliceData {x : Operand} {ts : Array TypeId} {b l c : Nat} (hx : eev env x = some (.slice (some ⟨b, 0, none⟩) l c)) (hc : c ≠ 0) : OpY P n env own X (.call { callee := .builtin .unsafeSliceData, args := #[x], argTypes := ts }) (.pointer (some ⟨b, 0, none⟩)) := by
  intro a W oper hop ha _
  have hr := Lib.run_unsafeSliceData_row (P := P) W ts oper.type ⟨b, 0, none⟩ l c hc
  simp only [execOp, hop, resolve, invoke, builtin, Sem.run_bind, Sem.run_pure, Result.andThen_ok, List.map_toArray, List.map_cons, List.map_nil, ha.eval hx, hr]
theorem freeze_far {W : World} {p : Addr} {m k : Nat} (h : k ≠ p.block) : (W.freeze p m).heap[k]? = W.heap[k]? := by
  unfold World.freeze
  split
  · rfl
  · simp [Array.getElem?_modify, Ne.symm h]
theorem SatC.freeze {w0 : World} {W : World} {b sz m : Nat} {cs : List Value} {ty : TypeId} (h : SatC w0 X0 (own ++ [⟨b, cs, ty, sz⟩]) X W) : SatC w0 X0 own X (W.freeze ⟨b, 0, none⟩ m) := by
  have hm : (⟨b, cs, ty, sz⟩ : Ow) ∈ own ++ [⟨b, cs, ty, sz⟩] := by simp
  have hne : ∀ q ∈ own, q.b ≠ b := fun q hq => (List.pairwise_append.1 h.nodup).2.2 q hq ⟨b, cs, ty, sz⟩ (by simp)
  refine ⟨Lib.below_freeze h.below (h.new _ hm) m, h.old, ⟨fun q hq => ?_, fun k o hk => ?_⟩, fun q hq => h.new q (List.mem_append_left _ hq), fun q hq => h.apart q (List.mem_append_left _ hq), (List.pairwise_append.1 h.nodup).1⟩
  · obtain ⟨r, h1, h2⟩ := h.stab.own q (List.mem_append_left _ hq)
    exact ⟨r, (freeze_far (hne q hq)).trans h1, h2⟩
  · have hkb : k ≠ b := fun e => by subst e; have := h.apart _ hm; simp only at this; rw [this] at hk; cases hk
    exact (freeze_far hkb).trans (h.stab.pers k o hk)
theorem Sat.freeze {W : World} {b sz m : Nat} {cs : List Value} {ty : TypeId} (h : Sat w0 X0 (own ++ [⟨b, cs, ty, sz⟩]) X W) : Sat w0 X0 own X (W.freeze ⟨b, 0, none⟩ m) :=
  ⟨h.toSatC.freeze, fun p hp => by
    obtain ⟨g1, g2, g3, g4⟩ := h.res p hp
    have hb : b ≠ p.1 := g3 ⟨b, cs, ty, sz⟩ (by simp)
    exact ⟨(freeze_far (Ne.symm hb)).trans g1, g2, fun q hq => g3 q (List.mem_append_left _ hq), g4⟩⟩
/-- unsafe.String over what has grown: the bytes; the row is given up. -/
theorem op_unsafeStr {x y : Operand} {pt it e : TypeId} {b cap : Nat} {l : List UInt8} (hp : P.underlying pt = some (.pointer e)) (hc : P.cellsOf e = 1) (hx : eev env x = some (.pointer (some ⟨b, 0, none⟩))) (hy : eev env y = some (.int .i64 (l.length : Int))) (h0 : l ≠ []) (hl : l.length ≤ cap) (hm : cap ≤ maxLen) :
    OpX P n w0 X0 env (own ++ [⟨b, Lib.byteCells l, e, cap * 1⟩]) X (.call { callee := .builtin .unsafeString, args := #[x, y], argTypes := #[pt, it] }) false fun v own' X' => v = .string ⟨l.toArray⟩ ∧ own' = own ∧ X = X' := by
  intro a W oper K Q ro hop ha hs hK
  have hin := hs.stab.own ⟨b, Lib.byteCells l, e, cap * 1⟩ (by simp)
  have hcell : ∀ j x, l[j]? = some x → W.cell? ((⟨b, 0, none⟩ : Addr).add j) = some (.int .u8 x.toNat) := fun j x hj => by
    rw [Addr.add_mid, Nat.zero_add]
    exact hin.cell (by simp [Lib.byteCells, hj])
  have hmx : maxLen = 9223372036854775807 := rfl
  have hr := Lib.run_unsafeString_row (P := P) W pt it oper.type e hp hc b (cap * 1) hin.shape l h0 (by omega) (by omega) hcell
  have hex : (execOp a.eval oper).run P W = .ok (.value (.string ⟨l.toArray⟩)) (W.freeze ⟨b, 0, none⟩ l.length) := by
    simp only [execOp, hop, resolve, invoke, builtin, Sem.run_bind, Sem.run_pure, Result.andThen_ok, List.map_toArray, List.map_cons, List.map_nil, ha.eval hx, ha.eval hy, hr]
  exact wp_value (noDefer_spec (by rw [hop]; rfl)) hex (hK _ _ X _ ⟨rfl, rfl, rfl⟩ hs.freeze (fun h => by cases h))
/-- append of a string onto what has grown. -/
theorem op_appendStr {t u e : TypeId} {s x : Operand} {b cap len : Nat} {cs : List Value} {str : ByteArray} (ht : P.underlying t = some (.slice e)) (hu : P.underlying u = some .string) (hi : ∃ i, P.info? e = some i ∧ i.zero = some (.int .u8 0) ∧ i.size = 1 ∧ i.bytes = 1) (hs : eev env s = some (.slice (some ⟨b, 0, none⟩) len cap)) (hx : eev env x = some (.string str))
    (hl : len ≤ cap) (hm : cap ≤ maxLen) (hcl : cs.length = len * 1) (hby : len + str.size ≤ 140737488355328) :
    OpX P n w0 X0 env (own ++ [⟨b, cs, e, cap * 1⟩]) X (.call { callee := .builtin .append, args := #[s, x], argTypes := #[t, u] }) false fun v own' X' => ∃ G', own' = own ++ G' ∧ X = X' ∧ GrowS e 1 v (len + str.size) (cs ++ Lib.strCells str) G' ∧ ∃ b' cap', v = .slice (some ⟨b', 0, none⟩) (len + str.size) cap' := by
  intro a W oper K Q ro hop ha hsat hK
  obtain ⟨i, i1, i2, i3, i4⟩ := hi
  have hj : (own ++ [(⟨b, cs, e, cap * 1⟩ : Ow)])[own.length]? = some ⟨b, cs, e, cap * 1⟩ := by simp
  have hin := hsat.stab.own ⟨b, cs, e, cap * 1⟩ (by simp)
  have hb0 := hsat.new ⟨b, cs, e, cap * 1⟩ (by simp)
  obtain ⟨r, hr, hz⟩ := hin
  simp only at hr hz hb0
  have hmx : maxLen = 9223372036854775807 := rfl
  have hrow : W.ownsRow w0.heap.size e 1 (.slice (some ⟨b, 0, none⟩) len cap) len cs :=
    ⟨hcl, .inr ⟨b, cap, (cs ++ r).toArray, rfl, hb0, hr, hl, hm, by simp; omega, by simp [hcl]⟩⟩
  obtain ⟨v', W', r1, r2, r3, r4⟩ := Lib.run_append_own_string (P := P) W w0.heap.size t u oper.type e i ht hu i1 i2 i3 i4 _ len cs hrow str (by omega) hby hsat.below.size
  have hat : v'.ownBlock = some b ∨ v'.ownBlock = some W.heap.size := by
    by_cases hroom : len + str.size ≤ cap
    · have := Lib.run_append_room_string (P := P) W t u oper.type e i ht hu i1 i3 b len cap (cs ++ r).toArray hr str hroom (by simp; omega)
      rw [this] at r1
      injection r1 with r1 _
      left; rw [← r1]; rfl
    · have holds : ∀ j u, cs[j]? = some u → W.cell? ((⟨b, 0, none⟩ : Addr).add j) = some u := hrow.cells (g := b) rfl
      have := Lib.run_append_grow_string (P := P) W t u oper.type e i (.int .u8 0) ht hu i1 i2 ⟨b, 0, none⟩ len cap cs (by rw [i3]; exact hcl) holds str (by omega) (by omega) (by rw [i4]; exact growslice_fits (by omega) (by omega))
      rw [this] at r1
      injection r1 with r1 _
      right; rw [← r1]; rfl
  have hex : (execOp a.eval oper).run P W = .ok (.value v') W' := by
    simp only [execOp, hop, resolve, invoke, builtin, Sem.run_bind, Sem.run_pure, Result.andThen_ok, List.map_toArray, List.map_cons, List.map_nil, ha.eval hs, ha.eval hx, r1]
  refine wp_value (noDefer_spec (by rw [hop]; rfl)) hex ?_
  rcases r2.2 with ⟨rfl, h0⟩ | ⟨g', cap', cur, rfl, hg0, hcur, hn, hmx', hsz', htk⟩
  · rcases hat with h | h <;> simp [Value.ownBlock] at h
  · have hgg : g' = b ∨ g' = W.heap.size := by simpa [Value.ownBlock] using hat
    have hin' : Ow.In ⟨g', cs ++ Lib.strCells str, e, cap' * 1⟩ W' := by
      refine ⟨cur.toList.drop ((len + str.size) * 1), ?_, ?_⟩
      · rw [← htk, List.take_append_drop]; exact hcur
      · have hl' := r2.1
        simp only at hl' ⊢
        rw [hl', List.length_drop, Array.length_toList, hsz']; omega
    have hreg := hsat.regrow hj r3 hgg hin'
    have e1 : (own ++ [(⟨b, cs, e, cap * 1⟩ : Ow)]).set own.length ⟨g', cs ++ Lib.strCells str, e, cap' * 1⟩ = own ++ [⟨g', cs ++ Lib.strCells str, e, cap' * 1⟩] := by simp
    rw [e1] at hreg
    exact hK _ _ X W' ⟨_, rfl, rfl, .inr ⟨g', cap', rfl, rfl, hn, hmx', r2.1⟩, g', cap', rfl⟩ hreg (fun h => by cases h)
end
end Go.Proofs.YtnabbnhefjfegaaGreatDoor
namespace Go.Proofs.YtnabbnhefjfegaaGreatDoor
open Go.RowKit
def bytesC (bs : List Nat) : List Value := bs.map fun (b : Nat) => .int .u8 (b : Int)
/-- v is a slice of these bytes, wherever it begins. -/
def BytesR (X : PMap) (v : Value) (bs : List Nat) : Prop :=
  (bs = [] ∧ ∃ A c, v = .slice A 0 c) ∨ (0 < bs.length ∧ ∃ b c pre, v = .slice (some ⟨b, pre.length, none⟩) bs.length c ∧ Blk X b (pre ++ bytesC bs))
theorem BytesR.mono {X X' : PMap} {v : Value} {bs : List Nat} (h : BytesR X v bs) (hX : X.le X') : BytesR X' v bs := by
  rcases h with h | ⟨h0, b, c, pre, hv, hb⟩
  · exact .inl h
  · exact .inr ⟨h0, b, c, pre, hv, hb.mono hX⟩
theorem BytesR.form {X : PMap} {v : Value} {bs : List Nat} (h : BytesR X v bs) : ∃ A cp, v = .slice A bs.length cp := by
  rcases h with ⟨rfl, A, c, rfl⟩ | ⟨h0, b, c, pre, rfl, hb⟩
  · exact ⟨_, _, rfl⟩
  · exact ⟨_, _, rfl⟩
theorem BytesR.blk {X : PMap} {A : Option Addr} {cp len : Nat} {bs : List Nat} (h : BytesR X (.slice A len cp) bs) (h0 : 0 < bs.length) : ∃ b pre, A = some ⟨b, pre.length, none⟩ ∧ Blk X b (pre ++ bytesC bs) := by
  rcases h with ⟨rfl, _⟩ | ⟨_, b, c, pre, hv, hb⟩
  · simp at h0
  · simp only [Value.slice.injEq] at hv
    exact ⟨b, pre, hv.1, hb⟩
theorem cread1k' {cs : List Value} {k k' : Nat} {v : Value} (h : cs[k]? = some v) (e : k' = k) : cread false 1 cs k' = some v := by
  subst e
  simpa [cread] using h
end Go.Proofs.YtnabbnhefjfegaaGreatDoor
namespace Go.Proofs.YtnabbnhefjfegaaGreatDoor
open Go.RowKit
/-- The map with all of the own blocks in it, as they are. -/
def PMap.lent (X : PMap) (own : Own) (W : World) : PMap := fun k => if own.any (fun p => Nat.beq p.b k) then W.heap[k]? else X k
theorem lent_in {X : PMap} {own : Own} {W : World} (h : PIn X W) : PIn (X.lent own W) W := fun k o hk => by
  unfold PMap.lent at hk
  split at hk
  · exact hk
  · exact h k o hk
theorem lent_le {X : PMap} {own : Own} {W : World} (h : PIn X W) : X.le (X.lent own W) := fun k o hk => by
  unfold PMap.lent
  split
  · exact h k o hk
  · exact hk
theorem lent_blk {X : PMap} {own : Own} {W : World} (h : Stab own X W) {p : Ow} (hp : p ∈ own) : Blk (X.lent own W) p.b p.cs := by
  obtain ⟨r, hr, _⟩ := h.own p hp
  refine ⟨r, p.ty, (0, 0), ?_⟩
  unfold PMap.lent
  rw [if_pos (List.any_eq_true.2 ⟨p, hp, Nat.beq_refl _⟩)]
  exact hr
section
variable {ro : Option Nat} {P : Program} {n : NM} {w0 : Base} {X0 X : PMap} {own : Own} {env : Env}
theorem args_all {a : Act} (ha : EOk n env a) : ∀ (xs : List Operand) (vs : List Value), xs.map (eev env) = vs.map some → xs.map a.eval = vs
  | [], vs, h => by cases vs <;> simp_all
  | x :: xs, vs, h => by
    cases vs with
    | nil => simp at h
    | cons v vs =>
      simp only [List.map_cons, List.cons.injEq] at h
      simp [ha.eval h.1, args_all ha xs vs h.2]
/-- A call that reads own blocks and answers what has nothing to do with memory. -/
theorem op_callLend {f : FuncId} {xs : Array Operand} {ts : Array TypeId} {vs : List Value} {Ψ : Value → Prop} (he : Enters P f) (hx : xs.toList.map (eev env) = vs.map some)
    (h : ∀ X1 : PMap, X.le X1 → (∀ p ∈ own, Blk X1 p.b p.cs) → Spec P f vs X1 fun u _ => Ψ u) : OpX P n w0 X0 env own X (.call { callee := .value (.func f), args := xs, argTypes := ts }) true fun v own' X' => own = own' ∧ X = X' ∧ Ψ v := by
  intro a W oper K Q ro hop ha hs hK
  have h1 : xs.map a.eval = vs.toArray := by apply Array.toList_inj.1; simp [args_all ha _ _ hx]
  have hex : (execOp a.eval oper).run P W = .ok (.enter f vs.toArray) W := by
    have hc : a.eval (.func f) = .func (.func f) #[] #[] := ha.eval rfl
    simp only [execOp, hop, resolve, hc, h1, Deferred.ofValue, invoke, Sem.run_bind, Sem.run_pure, Result.andThen_ok]
    simpa using he vs.toArray W
  have hin := lent_in (own := own) hs.stab.pers
  refine wp_enters (noDefer_spec (by rw [hop]; rfl)) hex ((h (X.lent own W) (lent_le hs.stab.pers) (fun p hp => lent_blk hs.stab hp) W hin).mono fun e w' hfin => ?_)
  obtain ⟨v, X', rfl, hb, _, _, hΨ⟩ := hfin
  refine ⟨v, rfl, hK v own X w' ⟨rfl, rfl, hΨ⟩ (hs.call hb ((Grow.of_below hb).pin hs.stab.pers) (fun _ _ => rfl)) fun _ => Grow.of_below hb⟩
theorem OpX.mono {o : Op} {g : Bool} {k k' : Value → Own → PMap → Prop} (h : OpX P n w0 X0 env own X o g k) (hk : ∀ v own' X', k v own' X' → k' v own' X') : OpX P n w0 X0 env own X o g k' :=
  fun a W oper K Q ro hop ha hs hK => h a W oper K Q ro hop ha hs fun v own' X' W' hkk => hK v own' X' W' (hk v own' X' hkk)
theorem GrowS.pos {e : TypeId} {size len : Nat} {v : Value} {cs : List Value} {G : Own} (h : GrowS e size v len cs G) (h0 : 0 < len) : ∃ b cap, v = .slice (some ⟨b, 0, none⟩) len cap ∧ G = [⟨b, cs, e, cap * size⟩] ∧ len ≤ cap ∧ cap ≤ maxLen := by
  rcases h with ⟨h1, _⟩ | ⟨b, cap, h1, h2, h3, h4, _⟩
  · omega
  · exact ⟨b, cap, h1, h2, h3, h4⟩
theorem op_eqlBS {t t' : TypeId} {x y : Operand} {b : Bool} (ht : P.underlying t = some .bool) (hx : eev env x = some (.bool b)) (hy : eev env y = some (.bool b)) : OpY P n env own X (.binOp .eql t x y t') (.bool true) := by
  have := op_eqlB (P := P) (n := n) (own := own) (X := X) (t' := t') ht hx hy
  rwa [show (b == b) = true by cases b <;> rfl] at this
end
end Go.Proofs.YtnabbnhefjfegaaGreatDoor
namespace Go.Proofs.YtnabbnhefjfegaaGreatDoor
open Go.RowKit
theorem rep_cellsA (zs : List Value) {c : Array Value} (m : Nat) (h : c = zs.toArray) : Builtin.zeroCells c m = ((List.replicate m zs).flatten).toArray := by
  subst h
  rw [← rep_cells]
  apply Array.ext'
  simp [Builtin.zeroCells]
section
variable {P : Program}
theorem run_copy_cellsS (w : World) (dT sT ty elem : TypeId) (b o dLen dCap size : Nat) (a : Addr) (sLen sCap : Nat) (cs : List Value)
    (hu : P.underlying dT = some (.slice elem)) (hs : (P.info? elem).map (·.size) = some size) (hn : cs.length = Nat.min sLen dLen * size)
    (hsrc : ∀ j v, cs[j]? = some v → w.cell? (a.add j) = some v) (hc : ∀ j, j < cs.length → (w.cell? ⟨b, o + j, none⟩).isSome = true) (hf : ∀ j, j < cs.length → w.frozen? ⟨b, o + j, none⟩ = false) (h1 : ∀ v ∈ cs, v.oneCell' = true) :
    (Builtin.copy_ #[dT, sT] ty #[.slice (some ⟨b, o, none⟩) dLen dCap, .slice (some a) sLen sCap]).run P w = .ok (goInt (Nat.min sLen dLen)) (w.setCells b o cs) := by
  have hl := run_loadCells_list (P := P) w a cs hsrc
  have hst := run_storeCells_cells (P := P) b o cs 0 w (by simpa using hc) (by simpa using hf) h1
  cases hq : P.info? elem with
  | none => simp [hq] at hs
  | some i =>
    have hi : i.size = size := by simpa [hq] using hs
    simp [Builtin.copy_, run_underlying hu, Builtin.lenOf, Builtin.firstCells, sizeOf, typeInfo, hq, hi, ← hn, hl, hst]
theorem run_copy_noneS (w : World) (dT sT ty elem : TypeId) (d a : Option Addr) (dLen dCap sLen sCap size : Nat) (hu : P.underlying dT = some (.slice elem)) (hs : (P.info? elem).map (·.size) = some size) (hn : Nat.min sLen dLen = 0) :
    (Builtin.copy_ #[dT, sT] ty #[.slice d dLen dCap, .slice a sLen sCap]).run P w = .ok (goInt 0) w := by
  cases hq : P.info? elem with
  | none => simp [hq] at hs
  | some i =>
    have hl : ∀ (x : Addr), (loadCells x 0).run P w = .ok #[] w := fun x => by simpa using run_loadCells_list (P := P) w x [] (by simp)
    cases d <;> cases a <;> simp [Builtin.copy_, run_underlying hu, Builtin.lenOf, Builtin.firstCells, sizeOf, typeInfo, hq, hn, storeCells, hl]
end
section
variable {ro : Option Nat} {P : Program} {n : NM} {w0 : Base} {X0 X : PMap} {own : Own} {env : Env}
theorem op_capS {t e : TypeId} {x : Operand} {o : Option Addr} {len cap : Nat} (ht : P.underlying t = some (.slice e)) (hx : eev env x = some (.slice o len cap)) : OpY P n env own X (.call { callee := .builtin .cap, args := #[x], argTypes := #[t] }) (.int .i64 cap) := by
  intro a W oper hop ha _
  simp [execOp, hop, resolve, invoke, builtin, Builtin.cap_, run_underlying ht, ha.eval hx, goInt]
/-- A byte of a string. -/
theorem op_idxStr {t : TypeId} {x y : Operand} {k : IntKind} {ii : Int} {i : Nat} {s : ByteArray} {b : UInt8} (ht : P.underlying t = some .string) (hx : eev env x = some (.string s)) (hy : eev env y = some (.int k ii)) (hii : ii = (i : Int)) (hv : s[i]? = some b) :
    OpY P n env own X (.index t x y) (.int .u8 (b.toNat : Int)) := by
  intro a W oper hop ha _
  subst hii
  simp [execOp, hop, Instr.index, asIntOf, ha.eval hx, ha.eval hy, run_underlying ht, hv]
/-- copy onto a row of the call's own. -/
theorem op_copyS {t t' e : TypeId} {x y : Operand} {b o dl dc j sz m size : Nat} {cs news : List Value} {ty : TypeId} {u : Value} {sl : Nat} (ht : P.underlying t = some (.slice e)) (he : (P.info? e).map (·.size) = some size)
    (hx : eev env x = some (.slice (some ⟨b, o, none⟩) dl dc)) (hy : eev env y = some u) (ho : AtO own b cs ty sz j) (hsrc : Src own X u sl size news) (hm : m = Nat.min sl dl) (hfit : o + m * size ≤ cs.length) (h1 : ∀ v ∈ news.take (m * size), v.oneCell' = true) :
    OpX P n w0 X0 env own X (.call { callee := .builtin .copy, args := #[x, y], argTypes := #[t, t'] }) false fun v own' X' => v = .int .i64 m ∧ own' = own.set j ⟨b, csets cs o (news.take (m * size)), ty, sz⟩ ∧ X = X' := by
  intro a W oper K Q ro hop ha hs hK
  have hin := hs.stab.own _ ho.mem
  obtain ⟨hnl, A, c, rfl, hA⟩ := hsrc
  have hex : ∀ v' W', (Builtin.copy_ #[t, t'] oper.type #[.slice (some ⟨b, o, none⟩) dl dc, .slice A sl c]).run P W = .ok v' W' → (execOp a.eval oper).run P W = .ok (.value v') W' := fun v' W' h => by
    simp only [execOp, hop, resolve, invoke, builtin, Sem.run_bind, Sem.run_pure, Result.andThen_ok, List.map_toArray, List.map_cons, List.map_nil, ha.eval hx, ha.eval hy, h]
  have hmsl : m ≤ sl := by rw [hm]; exact Nat.min_le_left _ _
  have hlen : (news.take (m * size)).length = m * size := by
    rw [List.length_take, hnl]; exact Nat.min_eq_left (Nat.mul_le_mul_right _ hmsl)
  rcases Nat.eq_zero_or_pos m with h0 | h0
  · have hr := run_copy_noneS (P := P) W t t' oper.type e (some ⟨b, o, none⟩) A dl dc sl c size ht he (by omega)
    refine wp_value (noDefer_spec (by rw [hop]; rfl)) (hex _ _ hr) ?_
    subst h0
    have hset : own.set j ⟨b, csets cs o (news.take (0 * size)), ty, sz⟩ = own := by
      rw [Nat.zero_mul]
      apply List.ext_getElem?
      intro k
      by_cases e : j = k
      · subst e
        have hjl : j < own.length := by
          have := ho.get
          rcases Nat.lt_or_ge j own.length with h1 | h1
          · exact h1
          · rw [List.getElem?_eq_none h1] at this; cases this
        rw [List.getElem?_set_self hjl, ho.get]; rfl
      · rw [List.getElem?_set_ne e]
    exact hK _ _ X W ⟨rfl, rfl, rfl⟩ (by rw [hset]; exact hs) (fun h => by cases h)
  · obtain ⟨b2, o2, rfl, hc2⟩ := hA (by omega)
    have hr := run_copy_cellsS (P := P) W t t' oper.type e b o dl dc size ⟨b2, o2, none⟩ sl c (news.take (m * size)) ht he (by rw [hlen, hm])
      (fun q v hv => by
        rw [Addr.add_mid]
        rw [List.getElem?_take] at hv
        split at hv
        · exact hc2 W hs.stab _ _ hv
        · cases hv)
      (fun q hq => by
        have hlt : o + q < cs.length := by omega
        rw [hin.cell (v := cs[o + q]) (by simp [hlt])]; rfl)
      (fun q _ => hin.frozen _) h1
    refine wp_value (noDefer_spec (by rw [hop]; rfl)) (hex _ _ hr) ?_
    exact hK _ _ X _ ⟨by rw [hm]; rfl, rfl, rfl⟩ (hs.puts _ _ _ _ _ ho.get (by omega)) (fun h => by cases h)
theorem op_sliceLoN {t e : TypeId} {x y : Operand} {b o len cap size l : Nat} {row : Bool} {kk : IntKind} {ll : Int} (ht : P.underlying t = some (.slice e)) (he : Ty P e row size) (hx : eev env x = some (.slice (some ⟨b, o, none⟩) len cap))
    (hy : eev env y = some (.int kk ll)) (hl : ll = (l : Int)) (h0 : l < cap) (h1 : l ≤ len) (h2 : len ≤ cap) : OpY P n env own X (.slice t x (some y) none none) (.slice (some ⟨b, o + l * size, none⟩) (len - l) (cap - l)) := by
  subst hl
  have := op_slice (n := n) (own := own) (X := X) (lo := some y) (hi := none) (h := len) ht he hx (fun q h => by cases h; exact ⟨kk, hy⟩) (fun h => by cases h) (fun _ h => by cases h) (fun _ => rfl) h1 h2
  rwa [if_neg (by omega)] at this
theorem op_sliceHiN {t e : TypeId} {x y : Operand} {b o len cap size l : Nat} {row : Bool} {kk : IntKind} {ll : Int} (ht : P.underlying t = some (.slice e)) (he : Ty P e row size) (hx : eev env x = some (.slice (some ⟨b, o, none⟩) len cap))
    (hy : eev env y = some (.int kk ll)) (hl : ll = (l : Int)) (h2 : l ≤ cap) : OpY P n env own X (.slice t x none (some y) none) (.slice (some ⟨b, o, none⟩) l cap) := by
  subst hl
  have := op_slice (n := n) (own := own) (X := X) (lo := none) (hi := some y) (l := 0) (h := l) ht he hx (fun _ h => by cases h) (fun _ => rfl) (fun q h => by cases h; exact ⟨kk, hy⟩) (fun h => by cases h) (Nat.zero_le _) h2
  simpa using this
end
end Go.Proofs.YtnabbnhefjfegaaGreatDoor
namespace Go.Proofs.YtnabbnhefjfegaaGreatDoor
open Go.RowKit
theorem SpecO.pubG {P : Program} {f : FuncId} {args : List Value} {X : PMap} {ty : TypeId} {size : Nat} {len : Nat} {cs : List Value} (h : SpecO P f args X fun u own1 _ => GrowS ty size u len cs own1) : Spec P f args X fun u X' => SliceR X' u len cs := fun w hw =>
  (h w hw).mono fun e w' ⟨v, own, X', he, hs, hG⟩ => by
    have hs' : Sat ⟨w, []⟩ X ([] ++ own) X' w' := ⟨by simpa using hs, fun p hp => by cases hp⟩
    obtain ⟨X2, h1, h2, h3⟩ := hs'.pubG hG
    exact ⟨v, X2, he, h3.below, h3.stab.pers, h3.old, h2⟩
end Go.Proofs.YtnabbnhefjfegaaGreatDoor
namespace Go.Proofs.YtnabbnhefjfegaaGreatDoor
open Go.RowKit
section
variable {P : Program}
theorem run_clearS (w : World) (t e ty : TypeId) (zs : List Value) (hu : P.underlying t = some (.slice e)) (hz : ∃ i z, P.info? e = some i ∧ i.zero = some z ∧ z.cells = zs.toArray) (b o m c : Nat) (h0 : 0 < m)
    (hc : ∀ j, j < m * zs.length → (w.cell? ⟨b, o + j, none⟩).isSome = true) (hf : ∀ j, j < m * zs.length → w.frozen? ⟨b, o + j, none⟩ = false) (h1 : ∀ v ∈ zs, v.oneCell' = true) :
    (Builtin.clear_ #[t] ty #[.slice (some ⟨b, o, none⟩) m c]).run P w = .ok (.tuple #[]) (w.setCells b o (List.replicate m zs).flatten) := by
  obtain ⟨i, z, i1, i2, i3⟩ := hz
  have hlen : ((List.replicate m zs).flatten).length = m * zs.length := by simp
  have hst := run_storeCells_cells (P := P) b o ((List.replicate m zs).flatten) 0 w (by rw [hlen]; simpa using hc) (by rw [hlen]; simpa using hf) (fun v hv => by
    obtain ⟨l, hl, hv⟩ := List.mem_flatten.1 hv
    rw [List.mem_replicate] at hl
    exact h1 v (hl.2 ▸ hv))
  have hzc := rep_cellsA zs m i3
  cases m with
  | zero => omega
  | succ m =>
    simp [Builtin.clear_, run_underlying hu, zeroValue, typeInfo, i1, i2, hzc] at hst ⊢
    rw [hst]; rfl
end
section
variable {ro : Option Nat} {P : Program} {n : NM} {w0 : Base} {X0 X : PMap} {own : Own} {env : Env}
/-- clear of elements of an own row. -/
theorem op_clear {t e : TypeId} {x : Operand} {b o m c sz j : Nat} {cs zs : List Value} {ty : TypeId} (ht : P.underlying t = some (.slice e)) (hz : ∃ i z, P.info? e = some i ∧ i.zero = some z ∧ z.cells = zs.toArray) (hx : eev env x = some (.slice (some ⟨b, o, none⟩) m c))
    (ho : AtO own b cs ty sz j) (h0 : 0 < m) (hfit : o + m * zs.length ≤ cs.length) (h1 : ∀ v ∈ zs, v.oneCell' = true) :
    OpX P n w0 X0 env own X (.call { callee := .builtin .clear, args := #[x], argTypes := #[t] }) false fun _ own' X' => own' = own.set j ⟨b, csets cs o (List.replicate m zs).flatten, ty, sz⟩ ∧ X = X' := by
  intro a W oper K Q ro hop ha hst hK
  have hin := hst.stab.own _ ho.mem
  have hr := run_clearS (P := P) W t e oper.type zs ht hz b o m c h0 (fun q hq => by
      have hlt : o + q < cs.length := by omega
      rw [hin.cell (v := cs[o + q]) (by simp [hlt])]; rfl)
    (fun q _ => hin.frozen _) h1
  have hex : (execOp a.eval oper).run P W = .ok (.value (.tuple #[])) (W.setCells b o (List.replicate m zs).flatten) := by
    simp only [execOp, hop, resolve, invoke, builtin, Sem.run_bind, Sem.run_pure, Result.andThen_ok, List.map_toArray, List.map_cons, List.map_nil, ha.eval hx, hr]
  refine wp_value (noDefer_spec (by rw [hop]; rfl)) hex ?_
  exact hK _ _ X _ ⟨rfl, rfl⟩ (hst.puts _ _ _ _ _ ho.get (by simp; omega)) (fun h => by cases h)
/-- Less is known of an own row. -/
theorem Sat.less {W : World} (h : Sat w0 X0 own X W) {j b sz : Nat} {cs ds : List Value} {ty : TypeId} (hj : own[j]? = some ⟨b, cs ++ ds, ty, sz⟩) : Sat w0 X0 (own.set j ⟨b, cs, ty, sz⟩) X W := by
  obtain ⟨r, hr, hz⟩ := h.stab.own _ (List.mem_of_getElem? hj)
  simp only at hr hz
  refine h.regrow hj ⟨rfl, rfl, rfl, Nat.le_refl _, fun _ _ _ => rfl⟩ (.inl rfl) ⟨ds ++ r, ?_, ?_⟩
  · rw [← List.append_assoc]; exact hr
  · simp only [List.length_append] at hz ⊢; omega
theorem SL.cut {Q : Exit → Act → World → Prop} {ops : Array Oper} {l : List Oper} {j b sz : Nat} {cs ds : List Value} {ty : TypeId} (hj : AtO own b (cs ++ ds) ty sz j)
    (h : SL ro P n w0 X0 ops Q l env (own.set j ⟨b, cs, ty, sz⟩) X) : SL ro P n w0 X0 ops Q l env own X := fun a W ha hs => h a W ha (hs.less hj.get)
theorem T.cut {Q : Exit → Act → World → Prop} {k : List It} {ex : Option Nat} {j b sz : Nat} {cs ds : List Value} {ty : TypeId} (hj : AtO own b (cs ++ ds) ty sz j)
    (h : T ro P n w0 X0 Q k ex env (own.set j ⟨b, cs, ty, sz⟩) X) : T ro P n w0 X0 Q k ex env own X := fun a W ha hs => h a W ha (hs.less hj.get)
end
end Go.Proofs.YtnabbnhefjfegaaGreatDoor
namespace Go.Proofs.YtnabbnhefjfegaaGreatDoor
set_option maxRecDepth 100000
end Go.Proofs.YtnabbnhefjfegaaGreatDoor
namespace Go.Proofs.YtnabbnhefjfegaaGreatDoor
/-- v is the set with the mask m: no word, or one word that is not zero. -/
def SetR (X : PMap) (v : Value) (m : Nat) : Prop :=
  (m = 0 ∧ ∃ A c, v = .agg #[.slice A 0 c]) ∨
  (0 < m ∧ m < 18446744073709551616 ∧ ∃ b c rest, v = .agg #[.slice (some ⟨b, 0, none⟩) 1 c] ∧ Blk X b (.int .u64 m :: rest))
theorem SetR.mono {X X' : PMap} {v : Value} {m : Nat} (h : SetR X v m) (hX : X.le X') : SetR X' v m := by
  rcases h with h | ⟨h0, h1, b, c, r, hv, hb⟩
  · exact .inl h
  · exact .inr ⟨h0, h1, b, c, r, hv, hb.mono hX⟩

theorem SetR.form {X : PMap} {v : Value} {m : Nat} (h : SetR X v m) : ∃ A l c, v = .agg #[.slice A l c] := by
  rcases h with ⟨_, A, c, rfl⟩ | ⟨_, _, b, c, _, rfl, _⟩
  · exact ⟨A, 0, c, rfl⟩
  · exact ⟨_, 1, c, rfl⟩
theorem SetR.lt {X : PMap} {v : Value} {m : Nat} (h : SetR X v m) : m < 18446744073709551616 := by
  rcases h with ⟨rfl, _⟩ | ⟨_, h, _⟩ <;> omega

theorem SetR.zero {X : PMap} {A : Option Addr} {c : Nat} : SetR X (.agg #[.slice A 0 c]) 0 := .inl ⟨rfl, A, c, rfl⟩
theorem SetR.one {X : PMap} {b c m : Nat} {rest : List Value} (h0 : m ≠ 0) (h : m < 18446744073709551616) (hB : Blk X b (.int .u64 m :: rest)) : SetR X (.agg #[.slice (some ⟨b, 0, none⟩) 1 c]) m := .inr ⟨Nat.pos_of_ne_zero h0, h, b, c, rest, rfl, hB⟩

end Go.Proofs.YtnabbnhefjfegaaGreatDoor
namespace Go.Proofs.YtnabbnhefjfegaaGreatDoor
end Go.Proofs.YtnabbnhefjfegaaGreatDoor
namespace Go.Proofs.YtnabbnhefjfegaaGreatDoor
end Go.Proofs.YtnabbnhefjfegaaGreatDoor
namespace Go.Proofs.YtnabbnhefjfegaaGreatDoor
end Go.Proofs.YtnabbnhefjfegaaGreatDoor
namespace Go.Proofs.YtnabbnhefjfegaaGreatDoor
section
set_option maxRecDepth 100000
theorem ty5 : Ty Tryz.prog 5 false 1 := ⟨⟨_, Tryz.underlying5, rfl⟩, by kernel_rfl⟩
end
/-- The table of the package math/bits. -/
def tab64 : List Nat := [0, 1, 56, 2, 57, 49, 28, 3, 61, 58, 42, 50, 38, 29, 17, 4, 62, 47, 59, 36, 45, 43, 51, 22, 53, 39, 33, 30, 24, 18, 12, 5, 63, 55, 48, 27, 60, 41, 37, 16, 46, 35, 44, 21, 52, 32, 23, 11, 54, 26, 40, 15, 34, 20, 31, 10, 25, 14, 19, 9, 13, 8, 7, 6]
def Tab (X : PMap) : Prop := Blk X 3 (tab64.map fun (i : Nat) => .int .u8 (i : Int))
theorem Tab.mono {X X' : PMap} (h : Tab X) (hX : X.le X') : Tab X' := Blk.mono h hX
end Go.Proofs.YtnabbnhefjfegaaGreatDoor
namespace Go.Proofs.YtnabbnhefjfegaaGreatDoor
open Go.RowKit
end Go.Proofs.YtnabbnhefjfegaaGreatDoor
namespace Go.Proofs.YtnabbnhefjfegaaGreatDoor
open Go.RowKit
theorem SliceR.form {X : PMap} {v : Value} {len : Nat} {cs : List Value} (h : SliceR X v len cs) : ∃ A cp, v = .slice A len cp := by
  rcases h with ⟨h0, _, A, c, rfl⟩ | ⟨_, b, c, rfl, _⟩
  · exact ⟨A, c, by rw [h0]⟩
  · exact ⟨_, c, rfl⟩
theorem SliceR.blk {X : PMap} {A : Option Addr} {cp len : Nat} {cs : List Value} (h : SliceR X (.slice A len cp) len cs) (h0 : 0 < len) : ∃ b, A = some ⟨b, 0, none⟩ ∧ Blk X b cs := by
  rcases h with ⟨h0, _⟩ | ⟨_, b, c, he, hb⟩
  · omega
  · simp only [Value.slice.injEq] at he
    exact ⟨b, he.1, hb⟩
end Go.Proofs.YtnabbnhefjfegaaGreatDoor
namespace Go.Proofs.YtnabbnhefjfegaaGreatDoor
open Go.RowKit
section
variable {ro : Option Nat} {P : Program} {n : NM} {w0 : Base} {X0 X : PMap} {own : Own} {env : Env} {t t' : TypeId} {x y : Operand}
/-- append of a slice onto what has grown. -/
theorem op_appendGM {e : TypeId} {s : Operand} {v u : Value} {len m size bytes : Nat} {cs news : List Value} {own0 G : Own} (ht : SlT P t e size bytes) (hs : eev env s = some v) (hg : GrowS e size v len cs G) (hx : eev env x = some u)
    (hsrc : Src (own0 ++ G) X u m size news) (hm : 0 < m) (h1 : ∀ y ∈ news, y.oneCell' = true) (hlen : len + m ≤ maxLen) (hby : (len + m) * bytes ≤ 140737488355328) :
    OpX P n w0 X0 env (own0 ++ G) X (.call { callee := .builtin .append, args := #[s, x], argTypes := #[t, t] }) false fun v' own' X' => ∃ G', own' = own0 ++ G' ∧ X = X' ∧ GrowS e size v' (len + m) (cs ++ news) G' := by
  have hnl := hsrc.1
  rcases hg with ⟨rfl, rfl, rfl, rfl⟩ | ⟨b, cap, rfl, rfl, hlc, hcm, hcl⟩
  · refine (op_appendNil (m := m) (news := news) ht hs hx hsrc hm h1 (by simpa using hlen) (by simpa using hby)).weaken ?_
    rintro v' own' X' ⟨b', cap', rfl, rfl, rfl, hc1, hc2⟩
    refine ⟨own0 ++ [⟨b', news, e, cap' * size⟩], ⟨b', news, e, cap' * size⟩ :: own0, ⟨_, rfl, rfl, .inr ⟨b', cap', by simp, by simp, by omega, hc2, by simp [hnl]⟩⟩, ?_, (List.perm_append_singleton ..).symm⟩
    rw [List.append_nil]
    exact List.Sublist.refl _
  · refine (op_append (m := m) (news := news) (j := own0.length + 0) ht hs hx ((AtO.here (l := []) (b := b) (cs := cs) (ty := e) (sz := cap * size)).append own0) rfl hcl hlc hcm hsrc h1 hlen hby).weaken ?_
    rintro v' own' X' ⟨b', cap', rfl, rfl, rfl, hc1, hc2⟩
    refine ⟨own0 ++ [⟨b', cs ++ news, e, cap' * size⟩], _, ⟨_, rfl, rfl, .inr ⟨b', cap', rfl, rfl, hc1, hc2, by simp [hcl, hnl, Nat.add_mul]⟩⟩, ?_, .refl _⟩
    have e1 : (own0 ++ [(⟨b, cs, e, cap * size⟩ : Ow)]).set (own0.length + 0) ⟨b', cs ++ news, e, cap' * size⟩ = own0 ++ [⟨b', cs ++ news, e, cap' * size⟩] := by
      simp
    rw [e1]
    exact List.Sublist.refl _
end
/-- Of these bytes, those before i and those behind j have changed places. -/
def RevI (l m : List Nat) (i j : Nat) : Prop := m.length = l.length ∧ ∀ q, q < l.length → m[q]? = if q < i ∨ j < q then l[l.length - 1 - q]? else l[q]?
theorem RevI.fin {l m : List Nat} {i j : Nat} (h : RevI l m i j) (hij : i + j = l.length - 1) (hi : j ≤ i) : m = l.reverse := by
  apply List.ext_getElem?
  intro q
  rcases Nat.lt_or_ge q l.length with hq | hq
  · rw [h.2 q hq, List.getElem?_reverse hq]
    split
    · rfl
    · have : l.length - 1 - q = q := by omega
      rw [this]
  · rw [List.getElem?_eq_none (by rw [h.1]; omega), List.getElem?_eq_none (by simpa using hq)]
theorem RevI.step {l m : List Nat} {i j x y : Nat} (h : RevI l m i j) (hij : i + j = l.length - 1) (hi : i < j) (h0 : 0 < l.length) (hx : m[i]? = some x) (hy : m[j]? = some y) : RevI l ((m.set i y).set j x) (i + 1) (j - 1) := by
  refine ⟨by simp [h.1], fun q hq => ?_⟩
  have hml := h.1
  have ex : l[i]? = some x := by have := h.2 i (by omega); rw [if_neg (by omega), hx] at this; exact this.symm
  have ey : l[j]? = some y := by have := h.2 j (by omega); rw [if_neg (by omega), hy] at this; exact this.symm
  by_cases e1 : j = q
  · subst e1
    rw [List.getElem?_set_self (by simp; omega), if_pos (by omega), show l.length - 1 - j = i by omega, ex]
  · rw [List.getElem?_set_ne e1]
    by_cases e2 : i = q
    · subst e2
      rw [List.getElem?_set_self (by omega), if_pos (by omega), show l.length - 1 - i = j by omega, ey]
    · rw [List.getElem?_set_ne e2, h.2 q hq]
      by_cases hc : q < i ∨ j < q
      · rw [if_pos hc, if_pos (by omega)]
      · rw [if_neg hc, if_neg (by omega)]
end Go.Proofs.YtnabbnhefjfegaaGreatDoor
namespace Go.Proofs.YtnabbnhefjfegaaGreatDoor
open Go.RowKit
section
variable {α : Type} {rc : α → List Value}
def RowR (rc : α → List Value) (X : PMap) (v : Value) (rs : List α) : Prop :=
  (rs = [] ∧ ∃ A c, v = .slice A 0 c) ∨ (0 < rs.length ∧ ∃ b c pre, v = .slice (some ⟨b, List.length pre, none⟩) rs.length c ∧ Blk X b (pre ++ (rs.map rc).flatten) ∧ rs.length ≤ c ∧ c ≤ maxLen)
theorem RowR.nil {X : PMap} {A : Option Addr} {c : Nat} : RowR rc X (.slice A 0 c) [] := .inl ⟨rfl, _, _, rfl⟩
theorem RowR.mono {X X' : PMap} {v : Value} {rs : List α} (h : RowR rc X v rs) (hX : X.le X') : RowR rc X' v rs := by
  rcases h with h | ⟨h0, b, c, pre, hv, hb, hc⟩
  · exact .inl h
  · exact .inr ⟨h0, b, c, pre, hv, hb.mono hX, hc⟩
theorem RowR.form {X : PMap} {v : Value} {rs : List α} (h : RowR rc X v rs) : ∃ A cp, v = .slice A rs.length cp := by
  rcases h with ⟨rfl, A, c, rfl⟩ | ⟨_, b, c, pre, rfl, _⟩
  · exact ⟨_, _, rfl⟩
  · exact ⟨_, _, rfl⟩
theorem RowR.blk {X : PMap} {A : Option Addr} {cp len : Nat} {rs : List α} (h : RowR rc X (.slice A len cp) rs) (h0 : 0 < rs.length) : ∃ b pre, A = some ⟨b, List.length pre, none⟩ ∧ Blk X b (pre ++ (rs.map rc).flatten) := by
  rcases h with ⟨rfl, _⟩ | ⟨_, b, c, pre, hv, hb, _⟩
  · simp at h0
  · simp only [Value.slice.injEq] at hv
    exact ⟨b, pre, hv.1, hb⟩
theorem RowR.cap {X : PMap} {A : Option Addr} {cp len : Nat} {rs : List α} (h : RowR rc X (.slice A len cp) rs) (h0 : 0 < rs.length) : rs.length ≤ cp ∧ cp ≤ maxLen := by
  rcases h with ⟨rfl, _⟩ | ⟨_, b, c, pre, hv, hb, h1, h2⟩
  · simp at h0
  · simp only [Value.slice.injEq] at hv
    rw [hv.2.2]; exact ⟨h1, h2⟩
theorem rows_len {sz : Nat} (hrc : ∀ x, (rc x).length = sz) : ∀ rs : List α, ((rs.map rc).flatten).length = rs.length * sz
  | [] => by simp
  | r :: rs => by
    rw [List.map_cons, List.flatten_cons, List.length_append, hrc, rows_len hrc rs, List.length_cons, Nat.succ_mul]; omega
theorem rows_drop {sz : Nat} (hrc : ∀ x, (rc x).length = sz) : ∀ {rs : List α} {k : Nat}, k ≤ rs.length → ((rs.map rc).flatten).drop (k * sz) = ((rs.drop k).map rc).flatten
  | rs, 0, _ => by simp
  | [], k + 1, h => by simp at h
  | r :: rs, k + 1, h => by
    rw [List.map_cons, List.flatten_cons, List.drop_succ_cons, ← rows_drop hrc (rs := rs) (k := k) (by simpa using h), show (k + 1) * sz = (rc r).length + k * sz by rw [hrc, Nat.succ_mul]; omega]
    rw [List.drop_append, List.drop_eq_nil_of_le (by omega), List.nil_append, Nat.add_sub_cancel_left]
/-- A whole row, read. -/
theorem row_read {sz : Nat} (hrc : ∀ x, (rc x).length = sz) {rs : List α} {k k' : Nat} {r : α} {pre : List Value} (he : rs[k]? = some r) (e : k' = pre.length + k * sz) : cread true sz (pre ++ (rs.map rc).flatten) k' = some (.agg (rc r).toArray) := by
  subst e
  obtain ⟨h1, h2⟩ := List.getElem?_eq_some_iff.1 he
  have hl := rows_len hrc rs
  have hm : k * sz + sz ≤ rs.length * sz := by
    have := Nat.mul_le_mul_right sz (show k + 1 ≤ rs.length from h1)
    rw [Nat.succ_mul] at this; exact this
  have hd : ((pre ++ (rs.map rc).flatten).drop (pre.length + k * sz)) = rc r ++ ((rs.drop (k + 1)).map rc).flatten := by
    rw [List.drop_append, List.drop_eq_nil_of_le (by omega), List.nil_append, Nat.add_sub_cancel_left, rows_drop hrc (by omega), List.drop_eq_getElem_cons h1, h2, List.map_cons, List.flatten_cons]
  unfold cread
  rw [show Nat.ble (pre.length + k * sz + sz) (pre ++ (rs.map rc).flatten).length = true from Nat.ble_eq_true_of_le (by rw [List.length_append, hl]; omega)]
  simp only [cond_true, hd]
  rw [List.take_append_of_le_length (by rw [hrc]; exact Nat.le_refl _), List.take_of_length_le (by rw [hrc]; exact Nat.le_refl _)]
/-- One cell of a row. -/
theorem row_cell {sz : Nat} (hrc : ∀ x, (rc x).length = sz) {rs : List α} {k k' j : Nat} {r : α} {pre : List Value} {v : Value} (he : rs[k]? = some r) (hj : (rc r)[j]? = some v) (e : k' = pre.length + k * sz + j) : cread false 1 (pre ++ (rs.map rc).flatten) k' = some v := by
  subst e
  obtain ⟨h1, h2⟩ := List.getElem?_eq_some_iff.1 he
  have hjl : j < sz := by have := (List.getElem?_eq_some_iff.1 hj).1; rwa [hrc] at this
  show (pre ++ (rs.map rc).flatten)[pre.length + k * sz + j]? = some v
  rw [List.getElem?_append_right (by omega), show pre.length + k * sz + j - pre.length = k * sz + j by omega, ← List.getElem?_drop, rows_drop hrc (by omega), List.drop_eq_getElem_cons h1, h2, List.map_cons, List.flatten_cons, List.getElem?_append_left (by rw [hrc]; exact hjl)]
  exact hj
/-- The first of these rows. -/
theorem RowR.take {X : PMap} {A : Option Addr} {cp sz : Nat} {rs : List α} (h : RowR rc X (.slice A rs.length cp) rs) {k : Nat} (hk : k ≤ rs.length) : RowR rc X (.slice (slA A cp 0 sz) k cp) (rs.take k) := by
  rcases Nat.eq_zero_or_pos k with rfl | h0
  · exact .inl ⟨by simp, _, _, rfl⟩
  · obtain ⟨b, pre, rfl, hB⟩ := h.blk (by omega)
    obtain ⟨hc, hm⟩ := h.cap (by omega)
    have hcp : cp ≠ 0 := by omega
    refine .inr ⟨by simp; omega, b, cp, pre, ?_, ?_, by rw [List.length_take]; omega, hm⟩
    · rw [slA, if_neg hcp, List.length_take, Nat.min_eq_left hk]; simp [Addr.add]
    · obtain ⟨rest, ty, fr, hx⟩ := hB
      refine ⟨((rs.drop k).map rc).flatten ++ rest, ty, fr, ?_⟩
      have e : (rs.map rc).flatten = ((rs.take k).map rc).flatten ++ ((rs.drop k).map rc).flatten := by rw [← List.flatten_append, ← List.map_append, List.take_append_drop]
      rw [hx, e]
      simp
end
end Go.Proofs.YtnabbnhefjfegaaGreatDoor
namespace Go.Proofs.YtnabbnhefjfegaaGreatDoor
open Go.ChangeShapes Go.WideShapes Go.ChangeAt Go.RowKit Go.Joins Go.Deep
/-- All blocks of a world. -/
def heapX (W : World) : PMap := fun k => W.heap[k]?
theorem heapX_in (W : World) : PIn (heapX W) W := fun _ _ h => h
section
variable {H : Type} {enc : TypeId × Value → H} {P : Program}
/-- What a list of arguments reads is read the same behind a call. -/
theorem trodAll_stays {W W' : World} {sp' : Nat → Bool} (hl : laidOutB P = true) : ∀ (ts : List TypeId) (vs : List Value) (ds : List (DataW H)) (ps : List MemPlace), (∀ t ∈ ts, P.readableRec t = true ∧ t < P.types.size) →
    DataW.TrodAll enc P W 0 (fun _ => true) true ts vs ds ps → (∀ p ∈ ps, W.sameAt W' p) → (∀ p ∈ ps, sp' p.block = true) → DataW.TrodAll enc P W' 0 sp' true ts vs ds ps
  | [], vs, ds, ps, _, h, _, _ => by
    obtain ⟨rfl, rfl, rfl⟩ := trodAll_nil h
    exact trodAll_mk0
  | t :: ts, vs, ds, ps, ht, h, hs, hsp => by
    obtain ⟨v, vs', d, ds', p, q, rfl, rfl, rfl, h0, r0⟩ := trodAll_cons h
    obtain ⟨h1, h2⟩ := ht t (by simp)
    exact trodAll_cons_mk (Go.WideElems.Trod_stays hl h1 h2 h0 (fun x hx => hs x (by simp [hx])) (fun x hx => hsp x (by simp [hx]))) (trodAll_stays hl ts vs' ds' q (fun t ht' => ht t (by simp [ht'])) r0 (fun x hx => hs x (by simp [hx])) (fun x hx => hsp x (by simp [hx])))
theorem same_below {W W' : World} (hB : Below W.heap.size W W') {p : MemPlace} (h : p.block < W.heap.size) : W.sameAt W' p := by
  cases p with
  | cell b off => exact hB.cell (p := ⟨b, off, none⟩) h
  | map b => exact hB.block b h
/-- A law's last step: it has returned true, and every argument reads as before. -/
theorem law_post {f : Func} {s : ChangeSpec} {W W' : World} {args : Array Value} {ds gs : List (DataW H)} {before : List MemPlace} {t : TypeId}
    (hW : DataW.Whole enc P f.params.toList s.vars false W args.toList ds gs before) (hA : DataW.TrodAll enc P W 0 (fun _ => true) true f.params.toList args.toList ds before) (hl : laidOutB P = true) (hts : ∀ t ∈ f.params.toList, P.readableRec t = true ∧ t < P.types.size)
    (hv : s.vars = []) (hrt : f.resultTypes = #[t]) (hb : P.underlying t = some .bool)
    (hfn : (s.fn H (ds ++ gs)).results = [.lit (.bool true)]) (hfa : (s.fn H (ds ++ gs)).args = ds) (hfv : (s.fn H (ds ++ gs)).vars = []) (hB : Below W.heap.size W W') :
    s.post enc P f false true false false W args (.bool true) W' := by
  have hlt : ∀ p ∈ before, p.block < W.heap.size := fun p hp => hW.lt p hp
  have hold : ∀ p ∈ before, (fun b => decide (b < W.heap.size)) p.block = true := fun p hp => by simpa using hlt p hp
  have hres : ∀ (b : Nat) (sp : Nat → Bool) (hd : Bool), DataW.TrodAll enc P W' b sp hd f.resultTypes.toList ((Value.bool true).resultList f.resultTypes.size) (s.fn H (ds ++ gs)).results [] := fun b sp hd => by
    rw [hrt, hfn]
    exact trodAll_cons_mk (shut_bool hb _) trodAll_mk0
  have hargs' : ∀ sp : Nat → Bool, (∀ p ∈ before, sp p.block = true) → DataW.TrodAll enc P W' 0 sp true f.params.toList args.toList (s.fn H (ds ++ gs)).args before := by
    rw [hfa]
    exact fun sp hsp => trodAll_stays hl _ _ _ _ hts hA (fun p hp => same_below hB (hlt p hp)) hsp
  have hvars : ∀ sp : Nat → Bool, DataW.TrodVars enc P W' sp s.vars (s.fn H (ds ++ gs)).vars [] := fun sp => by rw [hv, hfv]; rfl
  refine ⟨ds, gs, before, [], before, [], hW, hres _ _ _, hargs' _ hold, hvars _, World.keptBut_mono (fun p hp => ⟨hp, Or.inr (by simpa using hp)⟩) (hB.frame (· ∈ before)), fun hh => by cases hh⟩
end
theorem own : ownKnob Tryz.prog.godebug = none := by kernel_rfl
/-- What a list of data lays in cells: whole numbers. -/
def litCells : DataW Unit → Array Value
  | .agg l => (l.map fun d => match d with | .lit (.int k n) => Value.int k n | _ => undef).toArray
  | _ => #[]
def layAt (w : World) (g : Nat) (d : DataW Unit) : World :=
  { w with heap := w.heap.modify g fun
      | .cells _ t frozen => .cells (litCells d) t frozen
      | o => o }
/-- A world for the witness: the tables hold what their initialisers lay. -/
noncomputable def laidWorld (os : Os) : World :=
  layAt (layAt (layAt (World.holding Tryz.prog os ⟨#[], #[], []⟩) 2 Rows.laid_math_bits_deBruijn32tab) 3 Rows.laid_math_bits_deBruijn64tab) 1 Rows.laid_internal_strconv_uint64pow10
theorem laid_out : laidOutB Tryz.prog = true := by kernel_rfl
end Go.Proofs.YtnabbnhefjfegaaGreatDoor
namespace Go.Proofs.YtnabbnhefjfegaaGreatDoor
open Go.RowKit
section
variable {ro : Option Nat} {P : Program} {n : NM} {w0 : Base} {X0 X : PMap} {own : Own} {env : Env} {fn : Func} {Φ : Value → Own → PMap → Prop}
theorem T.retM0 {k : List It} {s : Nat} {own0 : Own} (L' : Own) (hr : fn.results = #[]) (hp : own.Perm (L' ++ own0)) (hΦ : Φ (.tuple #[]) L' X) : T ro P ⟨s, []⟩ w0 X0 (bodyQ P fn (FinM w0 X0 own0 Φ)) (.code .ret :: k) none env own X := T.retM (fun _ _ _ _ => run_results0 hr) hp hΦ
/-- A result that lies in a block of the call's own, which is left behind. -/
theorem T.retM1S {k : List It} {s : Nat} {own0 : Own} (L' mid : Own) {r : ResultVar} {v : Value} (hr : fn.results = #[r]) (h : ResIs P env own r v) (hm : mid.Sublist own) (hp : mid.Perm (L' ++ own0)) (hΦ : Φ v L' X) : T ro P ⟨s, []⟩ w0 X0 (bodyQ P fn (FinM w0 X0 own0 Φ)) (.code .ret :: k) none env own X :=
  fun a W ha hs => runL_ret (by
    show LeavesInM (FR none) DEP P fn a.tmps _ a.defers .returning W
    rw [ha.defers]
    exact ⟨v, run_results1 hr h ha hs.stab, v, L', X, rfl, (hs.sub hm).perm hp, hΦ⟩)
theorem SD.perm {ops : Array Oper} {Q : Exit → Act → World → Prop} {nh : Nat} {st : Option Nat} {ownS own' : Own} {XS : PMap} {pl : List Pl} (hp : own.Perm own') (h : SD ro P n w0 X0 ops Q nh st ownS XS pl env own' X) : SD ro P n w0 X0 ops Q nh st ownS XS pl env own X :=
  fun listed a W h1 h2 h3 h4 h5 h6 hs hst => h listed a W h1 h2 h3 h4 h5 h6 (hs.perm hp) hst
/-- What the branches of a code have in common. -/
theorem T.meet {Q : Exit → Act → World → Prop} {c : Code} {k : List It} (J : Fam) (h1 : T ro P n w0 X0 Q (.code c :: backTo n w0 X0 J 1 :: k) none env own X) (h2 : ∀ m env own X, J m env own X → T ro P n w0 X0 Q k none env own X) : T ro P n w0 X0 Q (.code c :: k) none env own X := by
  intro a W ha hs
  refine runL_code (Code.wpIn_mono (fun e a w h => ?_) (runL_code_iff.1 (h1 a W ha hs)))
  cases e with
  | normal =>
    obtain ⟨m', _, env', own', X', hI, ha', hs'⟩ := h
    exact h2 m' env' own' X' hI a w ha' hs'
  | exit id => exact h
  | _ => exact h
theorem Src.zero {v : Value} {size : Nat} {news : List Value} (h : Src own X v 0 size news) : news = [] ∧ ∃ A c, v = .slice A 0 c := by
  obtain ⟨h1, A, c, rfl, _⟩ := h
  exact ⟨List.eq_nil_of_length_eq_zero (by simpa using h1), A, c, rfl⟩
theorem OpY.toX {o : Op} {v : Value} (hn : noDefer o = true) (h : OpY P n env own X o v) : OpX P n w0 X0 env own X o false fun v' own' X' => v' = v ∧ own' = own ∧ X' = X := by
  intro a W oper K Q ro hop ha hs hK
  exact wp_value (noDefer_spec (by rw [hop]; exact hn)) (h a W _ hop ha hs.stab) (hK _ _ _ _ ⟨rfl, rfl, rfl⟩ hs fun h => by cases h)
/-- append of a slice, empty or not, onto what has grown. -/
theorem op_appendGA {t e : TypeId} {s x : Operand} {v u : Value} {len m size bytes : Nat} {cs news : List Value} {own0 G : Own} (ht : SlT P t e size bytes) (hs : eev env s = some v) (hg : GrowS e size v len cs G) (hx : eev env x = some u)
    (hsrc : Src (own0 ++ G) X u m size news) (h1 : ∀ y ∈ news, y.oneCell' = true) (hlen : len + m ≤ maxLen) (hby : (len + m) * bytes ≤ 140737488355328) :
    OpX P n w0 X0 env (own0 ++ G) X (.call { callee := .builtin .append, args := #[s, x], argTypes := #[t, t] }) false fun v' own' X' => ∃ G', own' = own0 ++ G' ∧ X = X' ∧ GrowS e size v' (len + m) (cs ++ news) G' := by
  rcases Nat.eq_zero_or_pos m with rfl | hm
  · obtain ⟨rfl, A, c, rfl⟩ := hsrc.zero
    rcases hg with ⟨rfl, rfl, rfl, rfl⟩ | ⟨b, cap, rfl, rfl, hlc, hcm, hcl⟩
    · refine (OpY.toX rfl (op_appendNil0 ht hs hx)).weaken ?_
      rintro v' own' X' ⟨rfl, rfl, rfl⟩
      exact ⟨own0 ++ [], own0 ++ [], ⟨[], rfl, rfl, by simpa using GrowS.nil⟩, List.Sublist.refl _, .refl _⟩
    · refine (op_append (m := 0) (news := []) (j := own0.length + 0) ht hs hx ((AtO.here (l := []) (b := b) (cs := cs) (ty := e) (sz := cap * size)).append own0) rfl hcl hlc hcm hsrc h1 hlen hby).weaken ?_
      rintro v' own' X' ⟨b', cap', rfl, rfl, rfl, hc1, hc2⟩
      refine ⟨own0 ++ [⟨b', cs ++ [], e, cap' * size⟩], _, ⟨_, rfl, rfl, .inr ⟨b', cap', rfl, rfl, hc1, hc2, by simp [hcl]⟩⟩, ?_, .refl _⟩
      have e1 : (own0 ++ [(⟨b, cs, e, cap * size⟩ : Ow)]).set (own0.length + 0) ⟨b', cs ++ [], e, cap' * size⟩ = own0 ++ [⟨b', cs ++ [], e, cap' * size⟩] := by
        simp
      rw [e1]
      exact List.Sublist.refl _
  · exact op_appendGM ht hs hg hx hsrc hm h1 hlen hby
/-- Rows as a source. -/
theorem Src.ofRow {α : Type} {rc : α → List Value} {sz : Nat} (hrc : ∀ x, (rc x).length = sz) {v : Value} {rs : List α} (h : RowR rc X v rs) : Src own X v rs.length sz ((rs.map rc).flatten) := by
  rcases h with ⟨rfl, A, c, rfl⟩ | ⟨h0, b, c, pre, rfl, hB, _⟩
  · exact Src.nil
  · have hl := rows_len hrc rs
    have := Src.ofExt (own := own) (m := rs.length) (c := c) (size := sz) (o := pre.length) hB (by rw [List.length_append, hl]; omega)
    rwa [List.drop_left, List.take_of_length_le (by rw [hl]; omega)] at this
end
/-- Rows from the place k on. -/
theorem RowR.drop {α : Type} {rc : α → List Value} {X : PMap} {A : Option Addr} {cp sz : Nat} (hrc : ∀ x, (rc x).length = sz) {rs : List α} (h : RowR rc X (.slice A rs.length cp) rs) {k : Nat} (hk : k ≤ rs.length) : RowR rc X (.slice (slA A cp k sz) (rs.length - k) (cp - k)) (rs.drop k) := by
  rcases Nat.eq_or_lt_of_le hk with rfl | h0
  · exact .inl ⟨by simp, _, _, by rw [Nat.sub_self]⟩
  · obtain ⟨b, pre, rfl, hB⟩ := h.blk (by omega)
    obtain ⟨hc, hm⟩ := h.cap (by omega)
    refine .inr ⟨by simp; omega, b, cp - k, pre ++ ((rs.take k).map rc).flatten, ?_, ?_, by rw [List.length_drop]; omega, by omega⟩
    · rw [slA, if_neg (by omega), List.length_append, rows_len hrc, List.length_take, Nat.min_eq_left hk, List.length_drop]; simp [Addr.add]
    · rwa [List.append_assoc, ← List.flatten_append, ← List.map_append, List.take_append_drop]
end Go.Proofs.YtnabbnhefjfegaaGreatDoor
namespace Go.Proofs.YtnabbnhefjfegaaGreatDoor
open Go.RowKit
section
variable {P : Program} {n : NM} {own : Own} {X : PMap} {env : Env} {t t' : TypeId} {x y : Operand} {s s' : ByteArray}
theorem str_ext {a b : ByteArray} (h : a.toList = b.toList) : a = b := by
  rw [ByteArray.toList_eq, ByteArray.toList_eq] at h
  exact ByteArray.ext (Array.toList_inj.mp h)
theorem str_beq : (s.toList == s'.toList) = decide (s = s') := by
  rw [Bool.eq_iff_iff, beq_iff_eq, decide_eq_true_eq]
  exact ⟨str_ext, fun h => by rw [h]⟩
theorem op_addStr (hx : eev env x = some (.string s)) (hy : eev env y = some (.string s')) (h : s.size + s'.size ≤ 9223372036854775807) : OpY P n env own X (.binOp .add t x y t') (.string (s ++ s')) := by
  intro a W oper hop ha _
  have h0 : ∀ (e : BinOp) (u v : Operand), eqGuard e t u v (.string s) (.string s') = pure () := fun e u v => by cases e <;> rfl
  have h1 : ¬(((s.size + s'.size : Nat) : Int) > IntKind.i64.max) := by
    have : IntKind.i64.max = 9223372036854775807 := rfl
    omega
  have h2 : (Op.stringOp .add s s').run P W = .ok (.string (s ++ s')) W := by simp only [Op.stringOp, if_neg h1, Sem.run_pure]
  simp only [execOp, hop, ha.eval hx, ha.eval hy, binOp, h0, Sem.run_bind, Sem.run_pure, Result.andThen_ok, h2]
theorem op_lssStr (hx : eev env x = some (.string s)) (hy : eev env y = some (.string s')) : OpY P n env own X (.binOp .lss t x y t') (.bool (Op.bytesLess s.toList s'.toList)) := by
  intro a W oper hop ha _
  have h0 : ∀ (e : BinOp) (u v : Operand), eqGuard e t u v (.string s) (.string s') = pure () := fun e u v => by cases e <;> rfl
  have h2 : (Op.stringOp .lss s s').run P W = .ok (.bool (Op.bytesLess s.toList s'.toList)) W := by simp [Op.stringOp]
  simp only [execOp, hop, ha.eval hx, ha.eval hy, binOp, h0, Sem.run_bind, Sem.run_pure, Result.andThen_ok, h2]
theorem op_eqlStrD (hx : eev env x = some (.string s)) (hy : eev env y = some (.string s')) : OpY P n env own X (.binOp .eql t x y t') (.bool (decide (s = s'))) := by
  intro a W oper hop ha _
  have h0 : ∀ (e : BinOp) (u v : Operand), eqGuard e t u v (.string s) (.string s') = pure () := fun e u v => by cases e <;> rfl
  have h2 : (Op.stringOp .eql s s').run P W = .ok (.bool (decide (s = s'))) W := by simp [Op.stringOp, str_beq]
  simp only [execOp, hop, ha.eval hx, ha.eval hy, binOp, h0, Sem.run_bind, Sem.run_pure, Result.andThen_ok, h2]
theorem op_neqStrD (hx : eev env x = some (.string s)) (hy : eev env y = some (.string s')) : OpY P n env own X (.binOp .neq t x y t') (.bool (!decide (s = s'))) := by
  intro a W oper hop ha _
  have h0 : ∀ (e : BinOp) (u v : Operand), eqGuard e t u v (.string s) (.string s') = pure () := fun e u v => by cases e <;> rfl
  have h2 : (Op.stringOp .neq s s').run P W = .ok (.bool (!decide (s = s'))) W := by simp [Op.stringOp, str_beq]
  simp only [execOp, hop, ha.eval hx, ha.eval hy, binOp, h0, Sem.run_bind, Sem.run_pure, Result.andThen_ok, h2]
end
instance memDec (s : ByteArray) : (l : List ByteArray) → Decidable (s ∈ l)
  | [] => .isFalse (by simp)
  | t :: l => have := memDec s l; decidable_of_iff (s = t ∨ s ∈ l) List.mem_cons.symm
/-- The order of strings. -/
def ltS (a b : ByteArray) : Bool := Op.bytesLess a.toList b.toList
theorem bl_irr : ∀ a : List UInt8, Op.bytesLess a a = false
  | [] => rfl
  | x :: a => by simp [Op.bytesLess, bl_irr a]
theorem bl_tot : ∀ a b : List UInt8, Op.bytesLess a b = false → Op.bytesLess b a = false → a = b
  | [], [], _, _ => rfl
  | [], _ :: _, h, _ => by simp [Op.bytesLess] at h
  | _ :: _, [], _, h => by simp [Op.bytesLess] at h
  | x :: a, y :: b, h1, h2 => by
    simp only [Op.bytesLess, Bool.or_eq_false_iff, decide_eq_false_iff_not, Bool.and_eq_false_iff, beq_eq_false_iff_ne] at h1 h2
    have e : x = y := UInt8.toNat_inj.1 (by
      have := mt UInt8.lt_iff_toNat_lt.2 h1.1
      have := mt UInt8.lt_iff_toNat_lt.2 h2.1
      omega)
    subst e
    rw [bl_tot a b (by simpa using h1.2) (by simpa using h2.2)]
theorem bl_trans : ∀ a b c : List UInt8, Op.bytesLess a b = true → Op.bytesLess b c = true → Op.bytesLess a c = true
  | _, _, [], _, h => by simp [Op.bytesLess] at h
  | _, [], _ :: _, h, _ => by simp [Op.bytesLess] at h
  | [], _ :: _, _ :: _, _, _ => by simp [Op.bytesLess]
  | x :: a, y :: b, z :: c, h1, h2 => by
    simp only [Op.bytesLess, Bool.or_eq_true, decide_eq_true_eq, Bool.and_eq_true, beq_iff_eq] at h1 h2 ⊢
    rcases h1 with h1 | ⟨rfl, h1⟩
    · rcases h2 with h2 | ⟨rfl, _⟩
      · left
        have := UInt8.lt_iff_toNat_lt.1 h1
        have := UInt8.lt_iff_toNat_lt.1 h2
        exact UInt8.lt_iff_toNat_lt.2 (by omega)
      · exact .inl h1
    · rcases h2 with h2 | ⟨rfl, h2⟩
      · exact .inl h2
      · exact .inr ⟨rfl, bl_trans a b c h1 h2⟩
theorem lt_irr (a : ByteArray) : ltS a a = false := bl_irr _
theorem lt_tot {a b : ByteArray} (h1 : ltS a b = false) (h2 : ltS b a = false) : a = b := str_ext (bl_tot _ _ h1 h2)
theorem lt_trans' {a b c : ByteArray} (h1 : ltS a b = true) (h2 : ltS b c = true) : ltS a c = true := bl_trans _ _ _ h1 h2
theorem lt_asym {a b : ByteArray} (h : ltS a b = true) : ltS b a = false := by
  cases h2 : ltS b a with
  | false => rfl
  | true => have := lt_trans' h h2; rw [lt_irr] at this; cases this
/-- Not below is transitive. -/
theorem le_trans' {a b c : ByteArray} (h1 : ltS b a = false) (h2 : ltS c b = false) : ltS c a = false := by
  cases h : ltS c a with
  | false => rfl
  | true =>
    cases h3 : ltS a b with
    | true => have := lt_trans' h h3; rw [h2] at this; cases this
    | false =>
      obtain rfl := lt_tot h3 h1
      rw [h] at h2; cases h2
/-- Ascending, the same one after the other not shut out. -/
def AscS (l : List ByteArray) : Prop := l.Pairwise fun a b => ltS b a = false
/-- One behind the other, the same left out. -/
def compactS : List ByteArray → List ByteArray
  | [] => []
  | [a] => [a]
  | a :: b :: l => if a = b then compactS (b :: l) else a :: compactS (b :: l)
theorem compact_len : ∀ l : List ByteArray, (compactS l).length ≤ l.length
  | [] => by simp [compactS]
  | [a] => by simp [compactS]
  | a :: b :: l => by
    have := compact_len (b :: l)
    rw [compactS]
    split
    · simp only [List.length_cons] at this ⊢; omega
    · simp only [List.length_cons] at this ⊢; omega
/-- Fewer exactly if one stands there twice. -/
theorem compact_nodup : ∀ {l : List ByteArray}, AscS l → ((compactS l).length = l.length ↔ l.Nodup)
  | [], _ => by simp [compactS]
  | [a], _ => by simp [compactS]
  | a :: b :: l, h => by
    have h0 := h
    rw [AscS, List.pairwise_cons] at h
    have ih := compact_nodup (l := b :: l) h.2
    have hl := compact_len (b :: l)
    rw [compactS]
    by_cases e : a = b
    · subst e
      rw [if_pos rfl]
      constructor
      · intro hh; simp only [List.length_cons] at hh hl; omega
      · intro hh; simp at hh
    · rw [if_neg e]
      rw [List.length_cons, List.length_cons, Nat.succ_inj, ih, List.nodup_cons (a := a)]
      constructor
      · intro hh
        refine ⟨fun hm => ?_, hh⟩
        rcases List.mem_cons.1 hm with rfl | hm
        · exact e rfl
        · have h1 := h.1 b (by simp)
          have h2 := h.2
          rw [List.pairwise_cons] at h2
          have h3 := h2.1 a hm
          exact e (lt_tot h3 h1)
      · exact fun hh => hh.2
end Go.Proofs.YtnabbnhefjfegaaGreatDoor
namespace Go.Proofs.YtnabbnhefjfegaaGreatDoor
open Go.RowKit
/-- In the round of place i the string that is put in stands at j. -/
def Ins (bs : List ByteArray) (i j : Nat) : Prop := ∃ (pre : List ByteArray) (x : ByteArray) (mid post : List ByteArray), bs = pre ++ x :: (mid ++ post) ∧ pre.length = j ∧ j + mid.length = i ∧ AscS (pre ++ mid) ∧ ∀ y ∈ mid, ltS x y = true
theorem Ins.start {bs : List ByteArray} {i : Nat} (hi : i < bs.length) (h : AscS (bs.take i)) : Ins bs i i := by
  refine ⟨bs.take i, bs[i], [], bs.drop (i + 1), ?_, by rw [List.length_take]; omega, by simp, by simpa using h, fun _ h => by cases h⟩
  rw [List.nil_append, ← List.drop_eq_getElem_cons hi, List.take_append_drop]
theorem swap_mid {α : Type} {pre : List α} {p x : α} {r : List α} : ((pre ++ p :: x :: r).set (pre.length + 1) p).set pre.length x = pre ++ x :: p :: r := by
  rw [List.set_append_right _ _ (by omega), show pre.length + 1 - pre.length = 1 by omega, List.set_append_right _ _ (by omega), Nat.sub_self]
  rfl
theorem Ins.step {bs : List ByteArray} {i j : Nat} {x p : ByteArray} (h : Ins bs i (j + 1)) (hx : bs[j + 1]? = some x) (hp : bs[j]? = some p) (hlt : ltS x p = true) : Ins ((bs.set (j + 1) p).set j x) i j ∧ ((bs.set (j + 1) p).set j x).Perm bs := by
  obtain ⟨pre, x', mid, post, rfl, h1, h2, h3, h4⟩ := h
  have hpre : pre = pre.dropLast ++ [pre.getLast (by intro h; rw [h] at h1; simp at h1)] := (List.dropLast_concat_getLast _).symm
  generalize hq : pre.getLast _ = q at hpre
  generalize pre.dropLast = pr at hpre
  subst hpre
  have hl : pr.length = j := by rw [List.length_append] at h1; simp at h1; exact h1
  obtain rfl : x' = x := by
    rw [List.getElem?_append_right (by omega), h1, Nat.sub_self] at hx
    simpa using hx
  obtain rfl : q = p := by
    rw [List.append_assoc, List.getElem?_append_right (by omega), hl, Nat.sub_self] at hp
    simpa using hp
  have e : (((pr ++ [q]) ++ x' :: (mid ++ post)).set (j + 1) q).set j x' = pr ++ x' :: q :: (mid ++ post) := by
    rw [List.append_assoc, ← hl]
    exact swap_mid
  rw [e]
  refine ⟨⟨pr, x', q :: mid, post, by simp, hl, by simp only [List.length_cons]; omega, by simpa using h3, fun y hy => ?_⟩, ?_⟩
  · rcases List.mem_cons.1 hy with rfl | hy
    · exact hlt
    · exact h4 y hy
  · rw [List.append_assoc]
    exact List.Perm.append_left _ (List.Perm.swap _ _ _)
theorem Ins.fin {bs : List ByteArray} {i j : Nat} {x : ByteArray} (h : Ins bs i j) (hx : bs[j]? = some x) (hs : j = 0 ∨ ∃ p, bs[j - 1]? = some p ∧ ltS x p = false) : AscS (bs.take (i + 1)) := by
  obtain ⟨pre, x', mid, post, rfl, h1, h2, h3, h4⟩ := h
  obtain rfl : x' = x := by
    rw [List.getElem?_append_right (by omega), h1, Nat.sub_self] at hx
    simpa using hx
  have e : (pre ++ x' :: (mid ++ post)).take (i + 1) = pre ++ x' :: mid := by
    rw [List.take_append, List.take_of_length_le (by omega), show i + 1 - pre.length = mid.length + 1 by omega, List.take_succ_cons, List.take_left]
  rw [e]
  obtain ⟨g1, g2, g3⟩ := List.pairwise_append.1 h3
  have hle : ∀ a ∈ pre, ltS x' a = false := by
    intro a ha
    rcases hs with rfl | ⟨p, hp, hlt⟩
    · rw [List.eq_nil_of_length_eq_zero h1] at ha; cases ha
    · obtain ⟨k, hk, rfl⟩ := List.getElem_of_mem ha
      rw [List.getElem?_append_left (by omega)] at hp
      obtain ⟨hp1, hp2⟩ := List.getElem?_eq_some_iff.1 hp
      rcases Nat.lt_or_ge k (j - 1) with hkj | hkj
      · have := List.pairwise_iff_getElem.1 g1 k (j - 1) hk hp1 hkj
        rw [hp2] at this
        exact le_trans' this hlt
      · have : k = j - 1 := by omega
        subst this
        rw [hp2]; exact hlt
  refine List.pairwise_append.2 ⟨g1, List.pairwise_cons.2 ⟨fun y hy => lt_asym (h4 y hy), g2⟩, fun a ha b hb => ?_⟩
  rcases List.mem_cons.1 hb with rfl | hb
  · exact hle a ha
  · exact g3 a ha b hb
theorem asc_one {bs : List ByteArray} (h : bs.length ≤ 1) : AscS bs := by
  match bs, h with
  | [], _ => exact List.Pairwise.nil
  | [_], _ => exact List.pairwise_singleton ..
end Go.Proofs.YtnabbnhefjfegaaGreatDoor
namespace Go.Proofs.YtnabbnhefjfegaaGreatDoor
open Go.RowKit
inductive Ex where
  | mk (op : Nat) (n : Int) (ns : List ByteArray) (al : List Ex)
def Ex.op : Ex → Nat
  | .mk o _ _ _ => o
def Ex.al : Ex → List Ex
  | .mk _ _ _ a => a
mutual
def depE : Ex → Nat
  | .mk _ _ _ al => depL al + 1
def depL : List Ex → Nat
  | [] => 0
  | a :: al => max (depE a) (depL al)
end
mutual
def sizE : Ex → Nat
  | .mk _ _ _ al => sizL al + 1
def sizL : List Ex → Nat
  | [] => 0
  | a :: al => sizE a + sizL al
end
def wtS (ns : List ByteArray) : Nat := (ns.map fun s => s.size + 1).sum
mutual
def wtE : Ex → Nat
  | .mk _ _ ns al => wtS ns + wtL al + 1
def wtL : List Ex → Nat
  | [] => 0
  | a :: al => wtE a + wtL al
end
theorem depL_snoc (a : Ex) : ∀ l : List Ex, depL (l ++ [a]) = max (depL l) (depE a)
  | [] => by simp [depL]
  | x :: l => by rw [List.cons_append, depL, depL, depL_snoc a l]; omega
theorem sizL_app (b : List Ex) : ∀ l : List Ex, sizL (l ++ b) = sizL l + sizL b
  | [] => by simp [sizL]
  | x :: l => by rw [List.cons_append, sizL, sizL, sizL_app b l]; omega
theorem wtL_app (b : List Ex) : ∀ l : List Ex, wtL (l ++ b) = wtL l + wtL b
  | [] => by simp [wtL]
  | x :: l => by rw [List.cons_append, wtL, wtL, wtL_app b l]; omega
theorem sizL_snoc (a : Ex) (l : List Ex) : sizL (l ++ [a]) = sizL l + sizE a := by rw [sizL_app]; simp [sizL]
theorem wtL_snoc (a : Ex) (l : List Ex) : wtL (l ++ [a]) = wtL l + wtE a := by rw [wtL_app]; simp [wtL]
theorem wtL_mem {a : Ex} : ∀ {l : List Ex}, a ∈ l → wtE a ≤ wtL l
  | x :: l, h => by
    rw [wtL]
    rcases List.mem_cons.1 h with rfl | h
    · omega
    · have := wtL_mem h; omega
theorem wtL_len : ∀ l : List Ex, l.length ≤ wtL l
  | [] => by simp
  | x :: l => by
    have := wtL_len l
    cases x
    rw [wtL, wtE, List.length_cons]; omega
theorem wtS_len (ns : List ByteArray) : ns.length ≤ wtS ns := by
  induction ns with
  | nil => simp
  | cons s l ih => simp only [wtS, List.map_cons, List.sum_cons, List.length_cons] at ih ⊢; omega
theorem wtS_mem {s : ByteArray} {ns : List ByteArray} (h : s ∈ ns) : s.size + 1 ≤ wtS ns := by
  induction ns with
  | nil => cases h
  | cons x l ih =>
    simp only [wtS, List.map_cons, List.sum_cons] at ih ⊢
    rcases List.mem_cons.1 h with rfl | h
    · omega
    · have := ih h; omega
mutual
theorem dep_wt : ∀ e : Ex, depE e ≤ wtE e
  | .mk _ _ _ al => by have := depL_wt al; rw [depE, wtE]; omega
theorem depL_wt : ∀ l : List Ex, depL l ≤ wtL l
  | [] => by simp [depL]
  | a :: al => by have := dep_wt a; have := depL_wt al; rw [depL, wtL]; omega
end
mutual
theorem siz_wt : ∀ e : Ex, sizE e ≤ wtE e
  | .mk _ _ _ al => by have := sizL_wt al; rw [sizE, wtE]; omega
theorem sizL_wt : ∀ l : List Ex, sizL l ≤ wtL l
  | [] => by simp [sizL]
  | a :: al => by have := siz_wt a; have := sizL_wt al; rw [sizL, wtL]; omega
end
def str (l : List UInt8) : ByteArray := ⟨l.toArray⟩
/-- The words that are no names. -/
def keyws : List ByteArray := [⟨#[97, 108, 108]⟩, ⟨#[97, 110, 100]⟩, ⟨#[97, 115, 115, 105, 103, 110]⟩, ⟨#[98, 121]⟩, ⟨#[99, 111, 117, 110, 116]⟩, ⟨#[100, 101, 99, 108, 97, 114, 101]⟩, ⟨#[100, 121, 110, 97, 109, 105, 99]⟩, ⟨#[101, 110, 102, 111, 114, 99, 101]⟩, ⟨#[102, 97, 108, 115, 101]⟩, ⟨#[102, 111, 114]⟩, ⟨#[105, 102]⟩, ⟨#[109, 101, 109, 98, 101, 114, 115]⟩, ⟨#[110, 111, 110, 101]⟩, ⟨#[110, 111, 116]⟩, ⟨#[111, 110]⟩, ⟨#[111, 114]⟩, ⟨#[114, 101, 118, 111, 107, 101]⟩, ⟨#[115, 116, 97, 116, 105, 99]⟩, ⟨#[116, 114, 117, 101]⟩, ⟨#[117, 115, 101, 114, 115]⟩]
def letB (b : UInt8) : Bool := decide (97 ≤ b.toNat ∧ b.toNat ≤ 122)
def innB (b : UInt8) : Bool := decide (97 ≤ b.toNat ∧ b.toNat ≤ 122 ∨ 48 ≤ b.toNat ∧ b.toNat ≤ 57 ∨ b.toNat = 95)
/-- The bytes of a name from the place i on. -/
def formB (s : ByteArray) (i : Nat) : Prop := ∀ k b, i ≤ k → s[k]? = some b → innB b = true ∧ (k = 0 → letB b = true)
/-- A name. -/
def validS (s : ByteArray) : Prop := s.size ≠ 0 ∧ s.size ≤ 12 ∧ s ∉ keyws ∧ formB s 0
def validB (s : ByteArray) : Bool := decide (s.size ≠ 0) && decide (s.size ≤ 12) && decide (s ∉ keyws) && s.data.toList.all innB && (s.data.toList.head?.map letB).getD true
theorem validB_iff {s : ByteArray} : validB s = true ↔ validS s := by
  have hg : ∀ k : Nat, s[k]? = s.data.toList[k]? := fun k => by simp only [Array.getElem?_toList]; rfl
  unfold validB validS formB
  simp only [Bool.and_eq_true, decide_eq_true_eq, List.all_eq_true]
  constructor
  · rintro ⟨⟨⟨⟨h1, h2⟩, h3⟩, h4⟩, h5⟩
    refine ⟨h1, h2, h3, fun k b _ hk => ⟨h4 b (List.mem_of_getElem? (by rw [← hg]; exact hk)), fun h0 => ?_⟩⟩
    subst h0
    rw [hg] at hk
    rw [List.head?_eq_getElem?, hk] at h5
    exact h5
  · rintro ⟨h1, h2, h3, h4⟩
    refine ⟨⟨⟨⟨h1, h2⟩, h3⟩, fun b hb => ?_⟩, ?_⟩
    · obtain ⟨k, hk⟩ := List.mem_iff_getElem?.1 hb
      exact (h4 k b (Nat.zero_le _) (by rw [hg]; exact hk)).1
    · rw [List.head?_eq_getElem?]
      cases h0 : s.data.toList[0]? with
      | none => rfl
      | some b => exact (h4 0 b (Nat.zero_le _) (by rw [hg]; exact h0)).2 rfl
instance (s : ByteArray) : Decidable (validS s) := decidable_of_iff _ validB_iff
/-- How many operands an operator has. -/
def argN (op : Nat) : Nat := if op < 7 then 0 else if op = 7 then 1 else 2
/-- A permitted number of names. -/
def namN (op k : Nat) : Prop := if op = 4 ∨ op = 6 then k = 1 else if op = 5 then 1 ≤ k ∧ k ≤ 8 else k = 0
instance (op k : Nat) : Decidable (namN op k) := by unfold namN; infer_instance
/-- The error of an operator without its operands. -/
noncomputable def ownE (op : Nat) (n : Int) (ns : List ByteArray) (k : Nat) : Int :=
  if op < 1 ∨ 16 < op ∨ k ≠ argN op then 1 else if (n ≠ 0 ∧ op ≠ 1) ∨ ¬namN op ns.length then 6 else if ¬(∀ s ∈ ns, validS s) then 9 else if ¬ns.Nodup then 5 else if n < 0 ∨ 999999 < n then 2 else 0
mutual
noncomputable def nodeE : Ex → Int
  | .mk op n ns al => if ownE op n ns al.length ≠ 0 then ownE op n ns al.length else nodeL al
noncomputable def nodeL : List Ex → Int
  | [] => 0
  | a :: al => if nodeE a ≠ 0 then nodeE a else nodeL al
end
theorem nodeL_app (b : List Ex) : ∀ l : List Ex, nodeL (l ++ b) = if nodeL l ≠ 0 then nodeL l else nodeL b
  | [] => by simp [nodeL]
  | x :: l => by
    rw [List.cons_append, nodeL, nodeL, nodeL_app b l]
    by_cases h : nodeE x ≠ 0
    · simp [h]
    · simp only [h, if_false]
theorem nodeL_zero {l : List Ex} (h : nodeL l = 0) : ∀ a ∈ l, nodeE a = 0 := by
  induction l with
  | nil => intro a ha; cases ha
  | cons x l ih =>
    rw [nodeL] at h
    by_cases hx : nodeE x ≠ 0
    · rw [if_pos hx] at h; exact absurd h hx
    · rw [if_neg hx] at h
      intro a ha
      rcases List.mem_cons.1 ha with rfl | ha
      · exact Decidable.not_not.1 hx
      · exact ih h a ha
noncomputable def chkE (e : Ex) : Int := if 10 < depE e ∨ 200 < sizE e then 3 else nodeE e
theorem node_ok {op : Nat} {n : Int} {ns : List ByteArray} {al : List Ex} (h : nodeE (.mk op n ns al) = 0) : ownE op n ns al.length = 0 ∧ nodeL al = 0 := by
  rw [nodeE] at h
  by_cases hx : ownE op n ns al.length ≠ 0
  · rw [if_pos hx] at h; exact absurd h hx
  · rw [if_neg hx] at h; exact ⟨Decidable.not_not.1 hx, h⟩
theorem own_ok {op k : Nat} {n : Int} {ns : List ByteArray} (h : ownE op n ns k = 0) : 1 ≤ op ∧ op ≤ 16 ∧ k = argN op ∧ (op ≠ 1 → n = 0) ∧ namN op ns.length ∧ (∀ s ∈ ns, validS s) ∧ ns.Nodup ∧ 0 ≤ n ∧ n ≤ 999999 := by
  unfold ownE at h
  by_cases h1 : op < 1 ∨ 16 < op ∨ k ≠ argN op
  · rw [if_pos h1] at h; omega
  · rw [if_neg h1] at h
    by_cases h2 : (n ≠ 0 ∧ op ≠ 1) ∨ ¬namN op ns.length
    · rw [if_pos h2] at h; omega
    · rw [if_neg h2] at h
      by_cases h3 : ¬(∀ s ∈ ns, validS s)
      · rw [if_pos h3] at h; omega
      · rw [if_neg h3] at h
        by_cases h4 : ¬ns.Nodup
        · rw [if_pos h4] at h; omega
        · rw [if_neg h4] at h
          by_cases h5 : n < 0 ∨ 999999 < n
          · rw [if_pos h5] at h; omega
          · exact ⟨by omega, by omega, by omega, fun hop => Decidable.not_not.1 fun hn => h2 (.inl ⟨hn, hop⟩), Decidable.not_not.1 fun hn => h2 (.inr hn), Decidable.not_not.1 h3, Decidable.not_not.1 h4, by omega, by omega⟩
/-- How strongly an operator binds. -/
def strN (op : Nat) : Nat := if op = 10 then 1 else if op = 9 then 2 else if op = 8 then 3 else if op = 7 then 4 else if 11 ≤ op ∧ op ≤ 15 then 5 else if op = 16 then 6 else 7
/-- A number in decimal. -/
def decG : Nat → Nat → List UInt8
  | 0, _ => []
  | f + 1, v => if v < 10 then [UInt8.ofNat (48 + v)] else decG f (v / 10) ++ [UInt8.ofNat (48 + v % 10)]
def decB (v : Nat) : ByteArray := ⟨(decG 20 v).toArray⟩
def joinG : List ByteArray → List UInt8
  | [] => []
  | s :: l => s.data.toList ++ (l.map fun t => [44, 32] ++ t.data.toList).flatten
def joinB (l : List ByteArray) : ByteArray := ⟨(joinG l).toArray⟩
/-- The word of an operator with two operands. -/
def wordB (op : Nat) : ByteArray := match op with
  | 8 => ⟨#[32, 97, 110, 100, 32]⟩ | 9 => ⟨#[32, 111, 114, 32]⟩ | 10 => ⟨#[32, 45, 62, 32]⟩ | 11 => ⟨#[32, 60, 61, 32]⟩ | 12 => ⟨#[32, 60, 32]⟩ | 13 => ⟨#[32, 62, 61, 32]⟩ | 14 => ⟨#[32, 62, 32]⟩ | 15 => ⟨#[32, 61, 61, 32]⟩ | _ => ⟨#[32, 43, 32]⟩
def parB (s : Nat) (t : ByteArray) (least : Nat) : ByteArray := if s < least then ⟨#[40]⟩ ++ t ++ ⟨#[41]⟩ else t
def lefN (op : Nat) : Nat := if op = 10 then strN op + 1 else if strN op = 5 then strN op + 1 else strN op
def rigN (op : Nat) : Nat := if op = 10 then strN op else strN op + 1
mutual
def textE : Ex → ByteArray
  | .mk op n ns al =>
    if op = 1 then decB n.toNat else if op = 2 then ⟨#[116, 114, 117, 101]⟩ else if op = 3 then ⟨#[102, 97, 108, 115, 101]⟩ else if op = 4 then ns.headD ⟨#[]⟩
    else if op = 5 then ⟨#[99, 111, 117, 110, 116, 40]⟩ ++ joinB ns ++ ⟨#[41]⟩ else if op = 6 then ⟨#[109, 101, 109, 98, 101, 114, 115, 40]⟩ ++ ns.headD ⟨#[]⟩ ++ ⟨#[41]⟩
    else match textL al with
      | [] => ⟨#[]⟩
      | [x] => ⟨#[110, 111, 116, 32]⟩ ++ parB x.1 x.2 4
      | x :: y :: _ => parB x.1 x.2 (lefN op) ++ wordB op ++ parB y.1 y.2 (rigN op)
def textL : List Ex → List (Nat × ByteArray)
  | [] => []
  | a :: al => (strN a.op, textE a) :: textL al
end
end Go.Proofs.YtnabbnhefjfegaaGreatDoor
namespace Go.Proofs.YtnabbnhefjfegaaGreatDoor
open Go.RowKit
def strC (s : ByteArray) : List Value := [.string s]
theorem strC_len (s : ByteArray) : (strC s).length = 1 := rfl
abbrev Row4 := Value × Value × Value × Value
def rc4 (r : Row4) : List Value := [r.1, r.2.1, r.2.2.1, r.2.2.2]
theorem rc4_len (r : Row4) : (rc4 r).length = 4 := rfl
/-- The four fields of an expression whose operator is of kind k. -/
inductive ExR (k : IntKind) (X : PMap) : Ex → Row4 → Prop
  | mk {op : Nat} {n : Int} {ns : List ByteArray} {al : List Ex} {vn va : Value} {rows : List Row4} (hn : RowR strC X vn ns) (ha : RowR rc4 X va rows) (hl : rows.length = al.length)
      (hr : ∀ (i : Nat) (a : Ex) (r : Row4), al[i]? = some a → rows[i]? = some r → ExR k X a r) : ExR k X (.mk op n ns al) (.int k (op : Int), .int .i64 n, vn, va)
theorem ExR.mono {k : IntKind} {X X' : PMap} {e : Ex} {r : Row4} (h : ExR k X e r) (hX : X.le X') : ExR k X' e r := by
  induction h with
  | mk hn ha hl hr ih => exact .mk (hn.mono hX) (ha.mono hX) hl ih
theorem ExR.form {k : IntKind} {X : PMap} {e : Ex} {r : Row4} (h : ExR k X e r) : ∃ (o : Nat) (n : Int) (A B : Option Addr) (l c l' c' : Nat), r = (.int k (o : Int), .int .i64 n, .slice A l c, .slice B l' c') := by
  cases h with
  | mk hn ha hl hr =>
    obtain ⟨A, c, rfl⟩ := hn.form
    obtain ⟨B, c', rfl⟩ := ha.form
    exact ⟨_, _, _, _, _, _, _, _, rfl⟩
theorem RowR.ofG {α : Type} {rc : α → List Value} {X : PMap} {e : TypeId} {size : Nat} {v : Value} {rs : List α} {G : Own} (hg : GrowS e size v rs.length (rs.map rc).flatten G) (h : SliceR X v rs.length (rs.map rc).flatten) : RowR rc X v rs := by
  rcases h with ⟨h0, _, A, c, rfl⟩ | ⟨h0, b, c, rfl, hB⟩
  · exact .inl ⟨List.eq_nil_of_length_eq_zero h0, _, _, rfl⟩
  · rcases hg with ⟨h1, _⟩ | ⟨b', cap, hv, _, h2, h3, _⟩
    · omega
    · simp only [Value.slice.injEq] at hv
      exact .inr ⟨h0, b, c, [], rfl, by simpa using hB, by omega, by omega⟩
theorem strs_flat : ∀ l : List ByteArray, (l.map strC).flatten = l.map Value.string
  | [] => rfl
  | s :: l => by rw [List.map_cons, List.flatten_cons, strs_flat l]; rfl
/-- A name of a list, read. -/
theorem str_read {pre : List Value} {ns : List ByteArray} {i k' : Nat} {s : ByteArray} (h : ns[i]? = some s) (e : k' = pre.length + i * 1) : cread false 1 (pre ++ (ns.map strC).flatten) k' = some (.string s) :=
  row_cell (sz := 1) (j := 0) strC_len h rfl (by omega)
end Go.Proofs.YtnabbnhefjfegaaGreatDoor
namespace Go.Proofs.YtnabbnhefjfegaaGreatDoor
section
set_option maxRecDepth 100000
theorem en156 : Enters Tryz.prog 156 := enters_mk Tryz.func156 (by kernel_rfl) rfl
theorem en157 : Enters Tryz.prog 157 := enters_mk Tryz.func157 (by kernel_rfl) rfl
theorem en164 : Enters Tryz.prog 164 := enters_mk Tryz.func164 (by kernel_rfl) rfl
theorem en170 : Enters Tryz.prog 170 := enters_mk Tryz.func170 (by kernel_rfl) rfl
theorem en174 : Enters Tryz.prog 174 := enters_mk Tryz.func174 (by kernel_rfl) rfl
theorem en187 : Enters Tryz.prog 187 := enters_mk Tryz.func187 (by kernel_rfl) rfl
theorem ty9 : Ty Tryz.prog 9 false 1 := ⟨⟨_, Tryz.underlying9, rfl⟩, by kernel_rfl⟩
end
open Go.RowKit
def strsC (l : List ByteArray) : List Value := l.map Value.string
theorem strsC_len (l : List ByteArray) : (strsC l).length = l.length := by simp [strsC]
theorem strsC_at {l : List ByteArray} {i : Nat} {s : ByteArray} (h : l[i]? = some s) : (strsC l)[i]? = some (.string s) := by simp [strsC, h]
theorem strsC_set {l : List ByteArray} {i : Nat} {s : ByteArray} : csets (strsC l) i (vcells (.string s)) = strsC (l.set i s) := by simp [csets, vcells, strsC, List.map_set]
theorem strsC_flat (l : List ByteArray) : (l.map strC).flatten = strsC l := strs_flat l
theorem isnan_spec {X : PMap} {a : ByteArray} : Spec Tryz.prog 187 [.string a] X fun u _ => u = .bool false := by
  refine Spec.enter Tryz.func187 rfl Tryz.ntmps187 rfl ?_
  intro w0 hw0
  refine T.seq <| T.region <| SL.as rfl <| SL.nil <| T.seq <| T.region <| SL.mv rfl <| SL.mv rfl <| SL.v (op_neqStrD rfl rfl) <| SL.as rfl <| SL.nil <| T.ret1 rfl (ResIs.tmp rfl) ?_
  simp
theorem less_spec {X : PMap} {a b : ByteArray} : Spec Tryz.prog 170 [.string a, .string b] X fun u _ => u = .bool (ltS a b) := by
  refine Spec.enter Tryz.func170 rfl Tryz.ntmps170 rfl ?_
  intro w0 hw0
  refine T.seq <| T.region <| SL.as rfl <| SL.nil <| T.seq <| T.region <| SL.mv rfl <| SL.w (op_callF en187 (vs := [_]) rfl (isnan_spec)) ?_
  rintro _ _ X1 ⟨rfl, hX1, rfl⟩
  refine SL.mv rfl <| SL.skip rfl rfl ?_
  refine SL.skip rfl rfl ?_
  refine SL.skip rfl rfl ?_
  refine SL.v (op_pickF rfl rfl) <| SL.mv rfl <| SL.mv rfl <| SL.mv rfl <| SL.v (op_lssStr rfl rfl) <| SL.v (op_pickF rfl rfl) <| SL.as rfl <| SL.nil <| T.ret1 rfl (ResIs.tmp rfl) ?_
  rfl
theorem insertion_spec {X : PMap} {b cap : Nat} {l : List ByteArray} (h0 : 0 < l.length) (hl : l.length < 1000000) : SpecM Tryz.prog 164 [.slice (some ⟨b, 0, none⟩) l.length cap, .int .i64 0, .int .i64 (l.length : Int)] X [⟨b, strsC l, 9, cap * 1⟩] fun _ L' _ => ∃ l' : List ByteArray, L' = [⟨b, strsC l', 9, cap * 1⟩] ∧ l'.Perm l ∧ AscS l' := by
  refine SpecM.enter Tryz.func164 rfl Tryz.ntmps164 rfl ?_
  intro w0 X0 own0
  refine T.perm (own' := ⟨b, strsC l, 9, cap * 1⟩ :: own0) (List.Perm.refl _) ?_
  refine T.seq <| T.region <| SL.mv rfl <| SL.v (op_add rfl rfl (by omega) (by omega)) ?_
  refine SL.as rfl <| SL.nil <| T.block <| T.loopW (fun m env own X' => ∃ (i : Nat) (bs : List ByteArray), m = l.length - i ∧ 1 ≤ i ∧ i ≤ l.length ∧ X.le X' ∧ bs.Perm l ∧ AscS (bs.take i) ∧ env = [(0, .slice (some ⟨b, 0, none⟩) l.length cap), (1, .int .i64 0), (2, .int .i64 (l.length : Int)), (6, .int .i64 (i : Int))] ∧ own = ⟨b, strsC bs, 9, cap * 1⟩ :: own0) (l.length - 1) ⟨1, l, rfl, by omega, by omega, PMap.le_refl _, .refl _, asc_one (by rw [List.length_take]; omega), rfl, rfl⟩ (by repeat (first | exact Sub.nil | refine Sub.cons rfl ?_)) ?_
  rintro m _ _ X1 ⟨i, bs, rfl, hi1, hi, hX1, hperm, hasc, rfl, rfl⟩
  have hbl := hperm.length_eq
  rcases Nat.lt_or_ge i l.length with hil | hil
  · skip
    refine T.seq <| T.seq <| T.region <| SL.mv rfl <| SL.mv rfl <| SL.v (op_lssT rfl rfl (by omega)) ?_
    refine SL.nil <| T.condT rfl <| T.skip <| T.seq <| T.block <| T.seq <| T.region <| SL.mv rfl <| SL.as rfl <| SL.nil <| T.block <| T.loopW (fun m env own X' => ∃ (j : Nat) (cs : List ByteArray), j = m ∧ j ≤ i ∧ X1.le X' ∧ cs.Perm l ∧ Ins cs i j ∧ env = [(0, .slice (some ⟨b, 0, none⟩) l.length cap), (1, .int .i64 0), (2, .int .i64 (l.length : Int)), (6, .int .i64 (i : Int)), (7, .int .i64 (j : Int))] ∧ own = ⟨b, strsC cs, 9, cap * 1⟩ :: own0) i ⟨i, bs, rfl, by omega, PMap.le_refl _, hperm, Ins.start (by omega) hasc, rfl, rfl⟩ (by repeat (first | exact Sub.nil | refine Sub.cons rfl ?_)) ?_
    rintro m _ _ X2 ⟨j, cs, rfl, hj, hX2, hperm2, hins, rfl, rfl⟩
    have hcl := hperm2.length_eq
    obtain ⟨x, hx⟩ : ∃ x, cs[j]? = some x := ⟨_, List.getElem?_eq_getElem (by omega)⟩
    rcases Nat.eq_zero_or_pos j with hj0 | hj0
    · subst hj0
      have hfin := hins.fin hx (.inl rfl)
      refine T.seq <| T.seq <| T.draw (by kernel_rfl) 15 [.t 0, .t 1, .t 2, .t 3, .t 4, .t 5, .t 6, .t 7, .t 8, .t 9, .t 10, .t 11, .t 12, .r 13, .t 14] (by kernel_rfl) ?_
      refine SD.take rfl panicBody (op_move rfl) rfl rfl ?_
      refine SD.take rfl panicBody (op_move rfl) rfl rfl ?_
      refine SD.take rfl panicBody (op_gtrF rfl rfl (by omega)) rfl rfl ?_
      refine SD.take rfl panicBody (op_move rfl) rfl rfl ?_
      refine SD.skip rfl panicBody rfl rfl ?_
      refine SD.skip rfl panicBody rfl rfl ?_
      refine SD.skip rfl panicBody rfl rfl ?_
      refine SD.skip rfl panicBody rfl rfl ?_
      refine SD.skip rfl panicBody rfl rfl ?_
      refine SD.skip rfl panicBody rfl rfl ?_
      refine SD.skip rfl panicBody rfl rfl ?_
      refine SD.skip rfl panicBody rfl rfl ?_
      refine SD.skip rfl panicBody rfl rfl ?_
      refine SD.skipF rfl rfl rfl ?_
      refine SD.take rfl panicBody (op_pickF rfl rfl) rfl rfl ?_
      refine SD.nil ?_
      show SL _ _ _ _ _ _ _ [] _ _ _
      refine SL.nil <| T.condF rfl ?_
      refine T.exit (T.exitCode (T.exitCut (T.exitBlk ?_)))
      refine T.blk <| T.region <| SL.mv rfl <| SL.v (op_addN (q := 1) rfl rfl (by omega)) ?_
      refine SL.as rfl <| SL.nil ?_
      exact T.backW (l.length - (i + 1)) (by omega) ⟨i + 1, cs, rfl, by omega, by omega, hX1.trans' hX2, hperm2, hfin, rfl, rfl⟩ (by repeat (first | exact Sub.nil | refine Sub.cons rfl ?_))
    · obtain ⟨q, rfl⟩ : ∃ q, j = q + 1 := ⟨j - 1, by omega⟩
      obtain ⟨p, hp⟩ : ∃ p, cs[q]? = some p := ⟨_, List.getElem?_eq_getElem (by omega)⟩
      refine T.seq <| T.seq <| T.draw (by kernel_rfl) 15 [.t 0, .t 1, .t 2, .t 3, .t 4, .t 5, .t 6, .t 7, .t 8, .t 9, .t 10, .t 11, .t 12, .r 13, .t 14] (by kernel_rfl) ?_
      refine SD.take rfl panicBody (op_move rfl) rfl rfl ?_
      refine SD.take rfl panicBody (op_move rfl) rfl rfl ?_
      refine SD.take rfl panicBody (op_gtrT rfl rfl (by omega)) rfl rfl ?_
      refine SD.take rfl panicBody (op_move rfl) rfl rfl ?_
      refine SD.take rfl panicBody (op_move rfl) rfl rfl ?_
      refine SD.take rfl panicBody (op_move rfl) rfl rfl ?_
      refine SD.take rfl panicBody (op_indexN Tryz.underlying37 ty9 rfl rfl (by omega)) rfl rfl ?_
      refine SD.take rfl panicBody (op_load ty9 rfl (by repeat constructor) (cread1k' (strsC_at hx) (by omega))) rfl rfl ?_
      refine SD.take rfl panicBody (op_move rfl) rfl rfl ?_
      refine SD.take rfl panicBody (op_move rfl) rfl rfl ?_
      refine SD.take rfl panicBody (op_subN (q := 1) rfl rfl (by omega) (by omega)) rfl rfl ?_
      refine SD.take rfl panicBody (op_indexN Tryz.underlying37 ty9 rfl rfl (by omega)) rfl rfl ?_
      refine SD.take rfl panicBody (op_load ty9 rfl (by repeat constructor) (cread1k' (strsC_at hp) (by omega))) rfl rfl ?_
      refine SD.run rfl (op_callF en170 (vs := [_, _]) rfl (less_spec)) rfl rfl ?_
      rintro _ _ X3 ⟨rfl, hX3, rfl⟩
      cases hlt : ltS x p with
      | false =>
        have hfin := hins.fin hx (.inr ⟨p, by simpa using hp, hlt⟩)
        refine SD.take rfl panicBody (op_pickT rfl rfl) rfl rfl ?_
        refine SD.nil ?_
        show SL _ _ _ _ _ _ _ [] _ _ _
        refine SL.nil <| T.condF rfl ?_
        refine T.exit (T.exitCode (T.exitCut (T.exitBlk ?_)))
        refine T.blk <| T.region <| SL.mv rfl <| SL.v (op_addN (q := 1) rfl rfl (by omega)) ?_
        refine SL.as rfl <| SL.nil ?_
        exact T.backW (l.length - (i + 1)) (by omega) ⟨i + 1, cs, rfl, by omega, by omega, (hX1.trans' hX2).trans' hX3, hperm2, hfin, rfl, rfl⟩ (by repeat (first | exact Sub.nil | refine Sub.cons rfl ?_))
      | true =>
        obtain ⟨hs1, hs2⟩ := hins.step hx hp hlt
        refine SD.take rfl panicBody (op_pickT rfl rfl) rfl rfl ?_
        refine SD.nil ?_
        show SL _ _ _ _ _ _ _ [] _ _ _
        refine SL.nil <| T.condT rfl <| T.skip <| T.seq <| T.block <| T.drawS 15 (by kernel_rfl) 16 [.t 0, .t 1, .m 2, .m 3, .m 4, .t 5, .t 6, .t 7, .t 8, .t 9, .m 10, .m 11, .m 12, .t 13, .t 14, .r 15] (by kernel_rfl) ?_
        refine SD.take rfl panicBody (op_move rfl) rfl rfl ?_
        refine SD.take rfl panicBody (op_move rfl) rfl rfl ?_
        refine SD.takeM rfl panicBody (op_move rfl) rfl rfl ?_
        refine SD.takeM rfl panicBody (op_move rfl) rfl rfl ?_
        refine SD.takeM rfl panicBody (op_subN (q := 1) rfl rfl (by omega) (by omega)) rfl rfl ?_
        refine SD.take rfl panicBody (op_move rfl) rfl rfl ?_
        refine SD.take rfl panicBody (op_move rfl) rfl rfl ?_
        refine SD.take rfl panicBody (op_subN (q := 1) rfl rfl (by omega) (by omega)) rfl rfl ?_
        refine SD.take rfl panicBody (op_indexN Tryz.underlying37 ty9 rfl rfl (by omega)) rfl rfl ?_
        refine SD.take rfl panicBody (op_load ty9 rfl (by repeat constructor) (cread1k' (strsC_at hp) (by omega))) rfl rfl ?_
        refine SD.takeM rfl panicBody (op_move rfl) rfl rfl ?_
        refine SD.takeM rfl panicBody (op_move rfl) rfl rfl ?_
        refine SD.takeM rfl panicBody (op_indexN Tryz.underlying37 ty9 rfl rfl (by omega)) rfl rfl ?_
        refine SD.take rfl panicBody (op_load ty9 rfl (by repeat constructor) (cread1k' (strsC_at hx) (by omega))) rfl rfl ?_
        refine SD.take rfl panicBody (op_indexN Tryz.underlying37 ty9 rfl rfl (by omega)) rfl rfl ?_
        refine SD.runS rfl (op_store ty9 rfl rfl (by repeat constructor) rfl rfl (Nat.ble_eq_true_of_le (by rw [strsC_len]; omega))) rfl rfl ?_
        rintro _ _ _ ⟨rfl, rfl⟩
        refine SD.nil ?_
        show SL _ _ _ _ _ _ _ [_, _] _ _ _
        refine SL.v (op_indexN Tryz.underlying37 ty9 rfl rfl (by omega)) ?_
        refine SL.w (op_store ty9 rfl rfl (by repeat constructor) rfl rfl (Nat.ble_eq_true_of_le (by rw [csets_length, strsC_len]; omega))) ?_
        rintro _ _ _ ⟨rfl, rfl⟩
        refine SL.perm (own' := ⟨b, strsC ((cs.set (q + 1) p).set q x), 9, cap * 1⟩ :: own0) (List.Perm.of_eq (by rw [← strsC_set, ← strsC_set]; simp only [Nat.zero_add, Nat.mul_one]; rfl)) ?_
        refine SL.nil <| T.blk <| T.region <| SL.mv rfl <| SL.v (op_subN (q := 1) rfl rfl (by omega) (by omega)) ?_
        refine SL.as rfl <| SL.nil ?_
        exact T.backW q (by omega) ⟨q, _, rfl, by omega, hX2.trans' hX3, hs2.trans hperm2, hs1, rfl, rfl⟩ (by repeat (first | exact Sub.nil | refine Sub.cons rfl ?_))
  · refine T.seq <| T.seq <| T.region <| SL.mv rfl <| SL.mv rfl <| SL.v (op_lssF rfl rfl (by omega)) ?_
    refine SL.nil <| T.condF rfl ?_
    refine T.exit (T.exitCode (T.exitCut (T.exitBlk ?_)))
    refine T.doneM0 [⟨b, strsC bs, 9, cap * 1⟩] rfl (List.Perm.refl _) ?_
    exact ⟨hX1, bs, rfl, hperm, by rwa [List.take_of_length_le (by omega)] at hasc⟩
theorem pdq_spec {X : PMap} {b cap : Nat} {l : List ByteArray} (h0 : 0 < l.length) (hl : l.length ≤ 12) {k : Int} : SpecM Tryz.prog 156 [.slice (some ⟨b, 0, none⟩) l.length cap, .int .i64 0, .int .i64 (l.length : Int), .int .i64 k] X [⟨b, strsC l, 9, cap * 1⟩] fun _ L' _ => ∃ l' : List ByteArray, L' = [⟨b, strsC l', 9, cap * 1⟩] ∧ l'.Perm l ∧ AscS l' := by
  refine SpecM.enter Tryz.func156 rfl Tryz.ntmps156 rfl ?_
  intro w0 X0 own0
  refine T.seq <| T.region <| SL.as rfl <| SL.nil <| T.seq <| T.region <| SL.as rfl <| SL.nil <| T.block <| T.unrollStart 1 ?_
  refine T.unroll ?_
  refine T.block <| T.seq <| T.region <| SL.mv rfl <| SL.mv rfl <| SL.v (op_sub rfl rfl (by omega) (by omega)) ?_
  refine SL.as rfl <| SL.nil <| T.seq <| T.seq <| T.region <| SL.mv rfl <| SL.v (op_leqT rfl rfl (by omega)) ?_
  refine SL.nil <| T.condT rfl <| T.seq <| T.region <| SL.mv rfl <| SL.mv rfl <| SL.mv rfl <| SL.w (op_callM en164 (vs := [_, _, _]) rfl (insertion_spec h0 (by omega)) rfl) ?_
  rintro _ _ X1 ⟨_, rfl, hX1, l', rfl, hp, ha⟩
  refine SL.nil <| T.retM0 [⟨b, strsC l', 9, cap * 1⟩] rfl  (List.Perm.refl _) ?_
  exact ⟨hX1, l', rfl, hp, ha⟩
def len8B : ByteArray := ⟨(([0, 1, 2, 2, 3, 3, 3, 3, 4, 4, 4, 4, 4, 4, 4, 4, 5, 5, 5, 5, 5, 5, 5, 5, 5, 5, 5, 5, 5, 5, 5, 5, 6, 6, 6, 6, 6, 6, 6, 6, 6, 6, 6, 6, 6, 6, 6, 6, 6, 6, 6, 6, 6, 6, 6, 6, 6, 6, 6, 6, 6, 6, 6, 6] : List UInt8) ++ List.replicate 64 7 ++ List.replicate 128 8).toArray⟩
theorem len8_at : ∀ i, i < 256 → ∃ b, len8B[i]? = some b ∧ b.toNat ≤ 8 := by
  have h : (List.range 256).all (fun i => match len8B[i]? with | some b => decide (b.toNat ≤ 8) | none => false) = true := by decide +kernel
  intro i hi
  have := List.all_eq_true.1 h i (List.mem_range.2 hi)
  split at this
  · rename_i b hb; exact ⟨b, hb, by simpa using this⟩
  · cases this
theorem len64_spec {X : PMap} {n : Nat} (hn : n < 256) : Spec Tryz.prog 174 [.int .u64 (n : Int)] X fun u _ => ∃ k : Int, u = .int .i64 k ∧ 0 ≤ k ∧ k ≤ 8 := by
  obtain ⟨b, hb, hb8⟩ := len8_at n hn
  refine Spec.enter Tryz.func174 rfl Tryz.ntmps174 rfl ?_
  intro w0 hw0
  refine T.seq <| T.region <| SL.v (op_assign (v := .int .i64 ((0 : Nat) : Int)) rfl) <| SL.nil <| T.seq <| T.seq <| T.region <| SL.mv rfl <| SL.v (op_geqF rfl rfl (by omega)) ?_
  refine SL.nil <| T.condF rfl <| T.skip <| T.seq <| T.seq <| T.region <| SL.mv rfl <| SL.v (op_geqF rfl rfl (by omega)) ?_
  refine SL.nil <| T.condF rfl <| T.skip <| T.seq <| T.seq <| T.region <| SL.mv rfl <| SL.v (op_geqF rfl rfl (by omega)) ?_
  refine SL.nil <| T.condF rfl <| T.skip <| T.seq <| T.region <| SL.mv rfl <| SL.mv rfl <| SL.v (op_convU8 Tryz.underlying171 Tryz.underlying5 rfl (by omega) (by omega)) ?_
  refine SL.v (op_idxStr (s := len8B) Tryz.underlying9 rfl rfl rfl hb) <| SL.v (op_convI64 Tryz.underlying5 Tryz.underlying3 rfl (by omega) (by omega)) ?_
  refine SL.v (op_addN rfl rfl (by omega)) ?_
  refine SL.as rfl <| SL.nil <| T.ret1 rfl (ResIs.tmp rfl) ?_
  exact ⟨_, rfl, by omega, by omega⟩
theorem len_specB {X : PMap} {n : Nat} (hn : n < 256) : Spec Tryz.prog 157 [.int .u64 (n : Int)] X fun u _ => ∃ k : Int, u = .int .i64 k ∧ 0 ≤ k ∧ k ≤ 8 := by
  refine Spec.enter Tryz.func157 rfl Tryz.ntmps157 rfl ?_
  intro w0 hw0
  refine T.seq <| T.region <| SL.v (op_assign (v := .int .i64 ((0 : Nat) : Int)) rfl) <| SL.nil <| T.seq <| T.condF rfl <| T.skip <| T.seq <| T.region <| SL.mv rfl <| SL.w (op_callF en174 (vs := [_]) rfl (len64_spec hn)) ?_
  rintro _ _ X1 ⟨rfl, hX1, k, rfl, h1, h2⟩
  refine SL.as rfl <| SL.nil <| T.ret1 rfl (ResIs.tmp rfl) ?_
  exact ⟨_, rfl, h1, h2⟩
theorem sort_spec {X : PMap} {b cap : Nat} {l : List ByteArray} (h0 : 0 < l.length) (hl : l.length ≤ 12) : SpecM Tryz.prog 146 [.slice (some ⟨b, 0, none⟩) l.length cap] X [⟨b, strsC l, 9, cap * 1⟩] fun _ L' _ => ∃ l' : List ByteArray, L' = [⟨b, strsC l', 9, cap * 1⟩] ∧ l'.Perm l ∧ AscS l' := by
  refine SpecM.enter Tryz.func146 rfl Tryz.ntmps146 rfl ?_
  intro w0 X0 own0
  refine T.seq <| T.region <| SL.mv rfl <| SL.v (op_lenS Tryz.underlying37 rfl) <| SL.as rfl <| SL.nil <| T.region <| SL.mv rfl <| SL.mv rfl <| SL.mv rfl <| SL.v (op_convU64 Tryz.underlying3 Tryz.underlying131 rfl (by omega) (by omega)) ?_
  refine SL.w (op_callF en157 (vs := [_]) rfl (len_specB (n := l.length) (by omega))) ?_
  rintro _ _ X1 ⟨rfl, hX1, k, rfl, h1, h2⟩
  refine SL.w (op_callM en156 (vs := [_, _, _, _]) rfl (pdq_spec h0 hl) rfl) ?_
  rintro _ _ X2 ⟨_, rfl, hX2, l', rfl, hp, ha⟩
  refine SL.nil <| T.doneM0 [⟨b, strsC l', 9, cap * 1⟩] rfl (List.Perm.refl _) ?_
  exact ⟨hX1.trans' hX2, l', rfl, hp, ha⟩
end Go.Proofs.YtnabbnhefjfegaaGreatDoor
namespace Go.Proofs.YtnabbnhefjfegaaGreatDoor
open Go.RowKit
structure Nd where
  op : Nat
  name : Nat
  odd : Nat
  num : Int
def ndC (x : Nd) : List Value := [.int .u8 (x.op : Int), .int .u8 (x.name : Int), .int .u8 (x.odd : Int), .int .i64 x.num]
end Go.Proofs.YtnabbnhefjfegaaGreatDoor
