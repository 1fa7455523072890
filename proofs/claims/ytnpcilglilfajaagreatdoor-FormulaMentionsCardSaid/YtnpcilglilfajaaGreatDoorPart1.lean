/- What the law's proof rests on: the engine, a small separation logic over the kit's walk, and contracts of the functions that the law reaches. Part 1. -/
import Derived.WalkKit
import Derived.OrdersHeld
import Derived.Deep.MidRow
import Derived.KernelRfl
import Derived.StillTail
import Derived.OrdersIn
import Derived.TacticsIn
import Derived.LoopNIn
import Derived.RangeFuncLeaves
import Derived.RangeFuncFrom
import Derived.Maps.AppendAt
import Derived.Lib.Builder
import Derived.Lib.UnsafeStr
import Derived.Laws.Externs
import Derived.Lib.Overlaps
import Derived.Lib.AppendZerosOnto
import Derived.Test.YtnpcilglilfajaaGreatDoorProg
namespace Go.Proofs.YtnpcilglilfajaaGreatDoor
open Go.RowKit
abbrev PMap := Nat → Option Obj
def PMap.le (X Y : PMap) : Prop := ∀ k o, X k = some o → Y k = some o
theorem PMap.le_refl (X : PMap) : X.le X := fun _ _ h => h
theorem PMap.le.trans' {X Y Z : PMap} (h : X.le Y) (h' : Y.le Z) : X.le Z := fun k o hk => h' k o (h k o hk)
theorem PMap.le_trans {X Y Z : PMap} (h : X.le Y) (h' : Y.le Z) : X.le Z := fun k o hk => h' k o (h k o hk)
def PIn (X : PMap) (W : World) : Prop := ∀ k o, X k = some o → W.heap[k]? = some o
theorem PIn.lt {X : PMap} {W : World} (h : PIn X W) {k : Nat} {o : Obj} (hk : X k = some o) : k < W.heap.size := by
  have := h k o hk
  rcases Nat.lt_or_ge k W.heap.size with h1 | h1
  · exact h1
  · rw [Array.getElem?_eq_none h1] at this; cases this
theorem PIn.fresh {X : PMap} {W : World} (h : PIn X W) : X W.heap.size = none := by
  cases hx : X W.heap.size with
  | none => rfl
  | some o => exact absurd (h.lt hx) (Nat.lt_irrefl _)

/-- A block of the call's own: its first cells are known. -/
structure Ow where
  b : Nat
  cs : List Value
  ty : TypeId
  sz : Nat
abbrev Own := List Ow
def Ow.In (p : Ow) (W : World) : Prop := ∃ rest : List Value, W.heap[p.b]? = some (.cells (p.cs ++ rest).toArray p.ty (0, 0)) ∧ p.cs.length + rest.length = p.sz
theorem Ow.In.lt {p : Ow} {W : World} (h : p.In W) : p.b < W.heap.size := by
  obtain ⟨r, h, _⟩ := h
  rcases Nat.lt_or_ge p.b W.heap.size with h1 | h1
  · exact h1
  · rw [Array.getElem?_eq_none h1] at h; cases h
theorem Ow.In.cell {p : Ow} {W : World} (h : p.In W) {i : Nat} {v : Value} (hi : p.cs[i]? = some v) : W.cell? ⟨p.b, i, none⟩ = some v := by
  obtain ⟨r, h, _⟩ := h
  simp only [World.cell?, h]
  have hl : i < p.cs.length := by
    rcases Nat.lt_or_ge i p.cs.length with h1 | h1
    · exact h1
    · rw [List.getElem?_eq_none h1] at hi; cases hi
  simp [List.getElem?_append_left hl, hi]
theorem Ow.In.frozen {p : Ow} {W : World} (h : p.In W) (i : Nat) : W.frozen? ⟨p.b, i, none⟩ = false := by
  obtain ⟨r, h, _⟩ := h
  simp [World.frozen?, h]

/-- What a world keeps of another: no block that was there has changed. -/
structure Grow (W W' : World) : Prop where
  size : W.heap.size ≤ W'.heap.size
  same : ∀ k, k < W.heap.size → W'.heap[k]? = W.heap[k]?
theorem Grow.refl (W : World) : Grow W W := ⟨Nat.le_refl _, fun _ _ => rfl⟩
theorem Grow.trans {A B C : World} (h : Grow A B) (h' : Grow B C) : Grow A C := ⟨Nat.le_trans h.size h'.size, fun k hk => (h'.same k (Nat.lt_of_lt_of_le hk h.size)).trans (h.same k hk)⟩
theorem Grow.of_below {W W' : World} (h : Below W.heap.size W W') : Grow W W' := ⟨h.size, h.block⟩
theorem Grow.alloc (W : World) (o : Obj) : Grow W (W.alloc o) := ⟨by simp, fun k hk => Below.heap_alloc W o k hk⟩

theorem Grow.pin {X : PMap} {W W' : World} (h : Grow W W') (hp : PIn X W) : PIn X W' := fun k o hk => (h.same k (hp.lt hk)).trans (hp k o hk)
theorem Grow.ow {p : Ow} {W W' : World} (h : Grow W W') (hp : p.In W) : p.In W' := by
  have hl := hp.lt
  obtain ⟨r, hr, hz⟩ := hp
  exact ⟨r, (h.same _ hl).trans hr, hz⟩

/-- What an operation that only reads may lean on. -/
structure Stab (own : Own) (X : PMap) (W : World) : Prop where
  own : ∀ p ∈ own, p.In W
  pers : PIn X W
theorem Stab.grow {own : Own} {X : PMap} {W W' : World} (h : Stab own X W) (hg : Grow W W') : Stab own X W' := ⟨fun p hp => hg.ow (h.own p hp), hg.pin h.pers⟩

/-- The symbolic state of memory; w0: the world in which the call began. -/
structure SatC (w0 : World) (X0 : PMap) (own : Own) (X : PMap) (W : World) : Prop where
  below : Below w0.heap.size w0 W
  old : ∀ k, k < w0.heap.size → X k = X0 k
  stab : Stab own X W
  new : ∀ p ∈ own, w0.heap.size ≤ p.b
  apart : ∀ p ∈ own, X p.b = none
  nodup : own.Pairwise fun p q => p.b ≠ q.b

theorem SatC.start (w : World) {X : PMap} (h : PIn X w) : SatC w X [] X w := ⟨Below.refl _ _, (fun _ _ => rfl), ⟨(fun _ h => by cases h), h⟩, (fun _ h => by cases h), (fun _ h => by cases h), .nil⟩
theorem below_draw {B : Nat} {a w : World} (h : Below B a w) (n : Nat) : Below B a { w with drawn := n } := ⟨h.os, h.tape, h.output, h.size, h.block⟩
theorem SatC.draw {w0 : World} {X0 : PMap} {own : Own} {X : PMap} {W : World} (h : SatC w0 X0 own X W) (n : Nat) : SatC w0 X0 own X { W with drawn := n } :=
  ⟨below_draw h.below n, h.old, ⟨fun p hp => h.stab.own p hp, h.stab.pers⟩, h.new, h.apart, h.nodup⟩
/-- A new block of cells. -/
theorem SatC.alloc {w0 : World} {X0 : PMap} {own : Own} {X : PMap} {W : World} (h : SatC w0 X0 own X W) (cs : List Value) (ty : TypeId) :
    SatC w0 X0 (⟨W.heap.size, cs, ty, cs.length⟩ :: own) X (W.alloc (.cells cs.toArray ty)) where
  below := h.below.alloc h.below.size _
  old := h.old
  stab := by
    have hs := h.stab.grow (Grow.alloc W (.cells cs.toArray ty))
    refine ⟨fun p hp => ?_, hs.pers⟩
    rcases List.mem_cons.1 hp with rfl | hp
    · exact ⟨[], by rw [List.append_nil]; exact heap_alloc_new W _, rfl⟩
    · exact hs.own p hp
  new := fun p hp => by
    rcases List.mem_cons.1 hp with rfl | hp
    · exact h.below.size
    · exact h.new p hp
  apart := fun p hp => by
    rcases List.mem_cons.1 hp with rfl | hp
    · exact h.stab.pers.fresh
    · exact h.apart p hp
  nodup := .cons (fun q hq => Ne.symm (Nat.ne_of_lt (h.stab.own q hq).lt)) h.nodup
/-- Behind a call that changes nothing that was there. -/
theorem SatC.call {w0 : World} {X0 : PMap} {own : Own} {X X' : PMap} {W W' : World} (h : SatC w0 X0 own X W) (hb : Below W.heap.size W W') (hX : PIn X' W') (hn : ∀ k, k < W.heap.size → X' k = X k) : SatC w0 X0 own X' W' where
  below := h.below.trans (hb.mono h.below.size)
  old := fun k hk => (hn k (Nat.lt_of_lt_of_le hk h.below.size)).trans (h.old k hk)
  stab := ⟨fun p hp => (Grow.of_below hb).ow (h.stab.own p hp), hX⟩
  new := h.new
  apart := fun p hp => (hn _ (h.stab.own p hp).lt).trans (h.apart p hp)
  nodup := h.nodup
/-- One cell of an own block is written. -/
theorem Ow.In.set {p : Ow} {W : World} (h : p.In W) {i : Nat} (hi : i < p.cs.length) (v : Value) : Ow.In ⟨p.b, p.cs.set i v, p.ty, p.sz⟩ (W.setCell ⟨p.b, i, none⟩ v) := by
  obtain ⟨r, h, hz⟩ := h
  refine ⟨r, ?_, by simpa using hz⟩
  simp [World.setCell, Array.getElem?_modify, h, hi]
theorem Ow.In.far {p : Ow} {W : World} (h : p.In W) {a : Addr} (ha : p.b ≠ a.block) (v : Value) : p.In (W.setCell a v) := by
  obtain ⟨r, h, hz⟩ := h
  exact ⟨r, (Below.heap_setCell W a v p.b ha).trans h, hz⟩
/-- Own block number j replaced. -/
theorem SatC.put {w0 : World} {X0 : PMap} {own : Own} {X : PMap} {W : World} (h : SatC w0 X0 own X W) {j : Nat} {b : Nat} {cs : List Value} {ty : TypeId} {sz : Nat} (hj : own[j]? = some ⟨b, cs, ty, sz⟩) {i : Nat} (hi : i < cs.length) (v : Value) :
    SatC w0 X0 (own.set j ⟨b, cs.set i v, ty, sz⟩) X (W.setCell ⟨b, i, none⟩ v) := by
  have hm : (⟨b, cs, ty, sz⟩ : Ow) ∈ own := List.mem_of_getElem? hj
  have hjl : j < own.length := by
    rcases Nat.lt_or_ge j own.length with h1 | h1
    · exact h1
    · rw [List.getElem?_eq_none h1] at hj; cases hj
  have hjv : own[j] = ⟨b, cs, ty, sz⟩ := by rw [List.getElem?_eq_getElem hjl] at hj; exact Option.some.inj hj
  have hb0 := h.new _ hm
  have hother : ∀ k (hk : k < own.length), k ≠ j → own[k].b ≠ b := fun k hk hne => by
    have hp := List.pairwise_iff_getElem.1 h.nodup
    rcases Nat.lt_or_gt_of_ne hne with hlt | hgt
    · have := hp k j hk hjl hlt; rw [hjv] at this; exact this
    · have := hp j k hjl hk hgt; rw [hjv] at this; exact fun e => this e.symm
  have hget : ∀ q ∈ own.set j ⟨b, cs.set i v, ty, sz⟩, q = ⟨b, cs.set i v, ty, sz⟩ ∨ (q ∈ own ∧ q.b ≠ b) := fun q hq => by
    obtain ⟨k, hk, rfl⟩ := List.getElem_of_mem hq
    have hk' : k < own.length := by simpa using hk
    by_cases e : j = k
    · subst e; left; simp
    · right
      rw [List.getElem_set_ne e]
      exact ⟨List.getElem_mem hk', hother k hk' (Ne.symm e)⟩
  refine ⟨h.below.setCell (p := ⟨b, i, none⟩) hb0 v, h.old, ⟨fun q hq => ?_, fun k o hk => ?_⟩, fun q hq => ?_, fun q hq => ?_, ?_⟩
  · rcases hget q hq with rfl | ⟨hq, hne⟩
    · exact (h.stab.own _ hm).set hi v
    · exact (h.stab.own q hq).far hne v
  · have hkb : k ≠ b := fun e => by subst e; rw [h.apart _ hm] at hk; cases hk
    exact (Below.heap_setCell W ⟨b, i, none⟩ v k hkb).trans (h.stab.pers k o hk)
  · rcases hget q hq with rfl | ⟨hq, _⟩
    · exact hb0
    · exact h.new q hq
  · rcases hget q hq with rfl | ⟨hq, _⟩
    · exact h.apart ⟨b, cs, ty, sz⟩ hm
    · exact h.apart q hq
  · refine List.pairwise_iff_getElem.2 fun x y hx hy hxy => ?_
    have hx' : x < own.length := by simpa using hx
    have hy' : y < own.length := by simpa using hy
    have hp := List.pairwise_iff_getElem.1 h.nodup x y hx' hy' hxy
    by_cases ex : j = x
    · subst ex
      rw [List.getElem_set_self, List.getElem_set_ne (by omega)]
      exact fun e => hother y hy' (by omega) e.symm
    · by_cases ey : j = y
      · subst ey
        rw [List.getElem_set_self, List.getElem_set_ne (by omega)]
        exact hother x hx' (by omega)
      · rw [List.getElem_set_ne ex, List.getElem_set_ne ey]; exact hp

/-- Finding an own block by its number. -/
inductive AtO : Own → Nat → List Value → TypeId → Nat → Nat → Prop
  | here {l : Own} {b : Nat} {cs : List Value} {ty : TypeId} {sz : Nat} : AtO (⟨b, cs, ty, sz⟩ :: l) b cs ty sz 0
  | there {l : Own} {o : Ow} {b : Nat} {cs : List Value} {ty : TypeId} {sz : Nat} {j : Nat} : AtO l b cs ty sz j → AtO (o :: l) b cs ty sz (j + 1)
theorem AtO.get {l : Own} {b : Nat} {cs : List Value} {ty : TypeId} {sz : Nat} {j : Nat} (h : AtO l b cs ty sz j) : l[j]? = some ⟨b, cs, ty, sz⟩ := by
  induction h with
  | here => rfl
  | there _ ih => simpa using ih
theorem AtO.mem {l : Own} {b : Nat} {cs : List Value} {ty : TypeId} {sz : Nat} {j : Nat} (h : AtO l b cs ty sz j) : (⟨b, cs, ty, sz⟩ : Ow) ∈ l := List.mem_of_getElem? h.get

/-- Cells from i on replaced. -/
def csets : List Value → Nat → List Value → List Value
  | cs, _, [] => cs
  | cs, i, v :: vs => csets (cs.set i v) (i + 1) vs
theorem csets_length : ∀ (vs : List Value) (cs : List Value) (i : Nat), (csets cs i vs).length = cs.length
  | [], _, _ => rfl
  | v :: vs, cs, i => by rw [csets, csets_length vs]; simp
theorem SatC.puts {w0 : World} {X0 : PMap} {X : PMap} {j : Nat} {b : Nat} {ty : TypeId} {sz : Nat} : ∀ (vs : List Value) (own : Own) (cs : List Value) (i : Nat) (W : World), SatC w0 X0 own X W → own[j]? = some ⟨b, cs, ty, sz⟩ → i + vs.length ≤ cs.length →
    SatC w0 X0 (own.set j ⟨b, csets cs i vs, ty, sz⟩) X (W.setCells b i vs)
  | [], own, cs, i, W, h, hj, _ => by
    have : own.set j ⟨b, cs, ty, sz⟩ = own := by
      apply List.ext_getElem?
      intro k
      by_cases e : j = k
      · subst e
        have hjl : j < own.length := by
          rcases Nat.lt_or_ge j own.length with h1 | h1
          · exact h1
          · rw [List.getElem?_eq_none h1] at hj; cases hj
        rw [List.getElem?_set_self hjl, hj]
      · rw [List.getElem?_set_ne e]
    simpa [csets, World.setCells, this] using h
  | v :: vs, own, cs, i, W, h, hj, hl => by
    simp only [List.length_cons] at hl
    have hjl : j < own.length := by
      rcases Nat.lt_or_ge j own.length with h1 | h1
      · exact h1
      · rw [List.getElem?_eq_none h1] at hj; cases hj
    have h1 := h.put hj (i := i) (by omega) v
    have h2 := SatC.puts (j := j) vs _ (cs.set i v) (i + 1) _ h1 (List.getElem?_set_self hjl) (by simp; omega)
    simpa [csets, World.setCells] using h2

/-- The world in which the call began; blocks that are held fast (the records of ranges over functions). -/
structure Base where
  w : World
  res : List (Nat × Obj)
abbrev Base.heap (b : Base) : Array Obj := b.w.heap
def ResOk (b : Base) (own : Own) (X : PMap) (W : World) : Prop := ∀ p ∈ b.res, W.heap[p.1]? = some p.2 ∧ X p.1 = none ∧ (∀ q ∈ own, q.b ≠ p.1) ∧ b.w.heap.size ≤ p.1
structure Sat (w0 : Base) (X0 : PMap) (own : Own) (X : PMap) (W : World) : Prop extends SatC w0.w X0 own X W where
  res : ResOk w0 own X W
theorem get_lt {W : World} {k : Nat} {o : Obj} (h : W.heap[k]? = some o) : k < W.heap.size := (Array.getElem?_eq_some_iff.1 h).1
theorem Sat.start (w : World) {X : PMap} (h : PIn X w) : Sat ⟨w, []⟩ X [] X w := ⟨SatC.start w h, fun _ h => by cases h⟩
theorem Sat.draw {w0 : Base} {X0 : PMap} {own : Own} {X : PMap} {W : World} (h : Sat w0 X0 own X W) (n : Nat) : Sat w0 X0 own X { W with drawn := n } := ⟨h.toSatC.draw n, fun p hp => h.res p hp⟩
theorem Sat.alloc {w0 : Base} {X0 : PMap} {own : Own} {X : PMap} {W : World} (h : Sat w0 X0 own X W) (cs : List Value) (ty : TypeId) :
    Sat w0 X0 (⟨W.heap.size, cs, ty, cs.length⟩ :: own) X (W.alloc (.cells cs.toArray ty)) :=
  ⟨h.toSatC.alloc cs ty, fun p hp => by
    obtain ⟨h1, h2, h3, h4⟩ := h.res p hp
    refine ⟨((Grow.alloc W _).same _ (get_lt h1)).trans h1, h2, fun q hq => ?_, h4⟩
    rcases List.mem_cons.1 hq with rfl | hq
    · exact Ne.symm (Nat.ne_of_lt (get_lt h1))
    · exact h3 q hq⟩
theorem Sat.call {w0 : Base} {X0 : PMap} {own : Own} {X X' : PMap} {W W' : World} (h : Sat w0 X0 own X W) (hb : Below W.heap.size W W') (hX : PIn X' W') (hn : ∀ k, k < W.heap.size → X' k = X k) : Sat w0 X0 own X' W' :=
  ⟨h.toSatC.call hb hX hn, fun p hp => by
    obtain ⟨h1, h2, h3, h4⟩ := h.res p hp
    exact ⟨((Grow.of_below hb).same _ (get_lt h1)).trans h1, (hn _ (get_lt h1)).trans h2, h3, h4⟩⟩
theorem set_b {own : Own} {j : Nat} {o q : Ow} (hq : q ∈ own.set j o) : q = o ∨ q ∈ own := by
  obtain ⟨k, hk, rfl⟩ := List.getElem_of_mem hq
  have hk' : k < own.length := by simpa using hk
  by_cases e : j = k
  · subst e; left; simp
  · right; rw [List.getElem_set_ne e]; exact List.getElem_mem hk'
theorem setCells_far : ∀ (vs : List Value) (W : World) (b i k : Nat), k ≠ b → (W.setCells b i vs).heap[k]? = W.heap[k]?
  | [], _, _, _, _, _ => rfl
  | v :: vs, W, b, i, k, h => by
    simp only [World.setCells]
    rw [setCells_far vs _ b (i + 1) k h]
    exact Below.heap_setCell W ⟨b, i, none⟩ v k h
theorem Sat.puts {w0 : Base} {X0 : PMap} {X : PMap} {j : Nat} {b : Nat} {ty : TypeId} {sz : Nat} (vs : List Value) (own : Own) (cs : List Value) (i : Nat) (W : World) (h : Sat w0 X0 own X W) (hj : own[j]? = some ⟨b, cs, ty, sz⟩) (hl : i + vs.length ≤ cs.length) :
    Sat w0 X0 (own.set j ⟨b, csets cs i vs, ty, sz⟩) X (W.setCells b i vs) :=
  ⟨SatC.puts vs own cs i W h.toSatC hj hl, fun p hp => by
    obtain ⟨h1, h2, h3, h4⟩ := h.res p hp
    have hb : b ≠ p.1 := h3 _ (List.mem_of_getElem? hj)
    refine ⟨(setCells_far vs W b i p.1 (Ne.symm hb)).trans h1, h2, fun q hq => ?_, h4⟩
    rcases set_b hq with rfl | hq
    · exact hb
    · exact h3 q hq⟩

/-- Own blocks are forgotten. -/
theorem Sat.sub {w0 : Base} {X0 : PMap} {own own' : Own} {X : PMap} {W : World} (h : Sat w0 X0 own X W) (hs : own'.Sublist own) : Sat w0 X0 own' X W :=
  ⟨⟨h.below, h.old, ⟨fun p hp => h.stab.own p (hs.subset hp), h.stab.pers⟩, fun p hp => h.new p (hs.subset hp), fun p hp => h.apart p (hs.subset hp), h.nodup.sublist hs⟩, fun p hp => by
    obtain ⟨h1, h2, h3, h4⟩ := h.res p hp
    exact ⟨h1, h2, fun q hq => h3 q (hs.subset hq), h4⟩⟩
/-- The order of own blocks does not matter. -/
theorem Sat.perm {w0 : Base} {X0 : PMap} {own own' : Own} {X : PMap} {W : World} (h : Sat w0 X0 own X W) (hs : own.Perm own') : Sat w0 X0 own' X W :=
  ⟨⟨h.below, h.old, ⟨fun p hp => h.stab.own p (hs.mem_iff.2 hp), h.stab.pers⟩, fun p hp => h.new p (hs.mem_iff.2 hp), fun p hp => h.apart p (hs.mem_iff.2 hp), hs.pairwise h.nodup fun {_ _} hxy => Ne.symm hxy⟩, fun p hp => by
    obtain ⟨h1, h2, h3, h4⟩ := h.res p hp
    exact ⟨h1, h2, fun q hq => h3 q (hs.mem_iff.2 hq), h4⟩⟩
/-- Less is known of the block that was laid last. -/
theorem Sat.forget {w0 : Base} {X0 : PMap} {own : Own} {X : PMap} {W : World} {b sz : Nat} {cs ds : List Value} {ty : TypeId} (h : Sat w0 X0 (⟨b, cs ++ ds, ty, sz⟩ :: own) X W) : Sat w0 X0 (⟨b, cs, ty, sz⟩ :: own) X W := by
  refine ⟨⟨h.below, h.old, ⟨fun p hp => ?_, h.stab.pers⟩, fun p hp => ?_, fun p hp => ?_, ?_⟩, fun p hp => ?_⟩
  · rcases List.mem_cons.1 hp with rfl | hp
    · obtain ⟨r, h1, h2⟩ := h.stab.own ⟨b, cs ++ ds, ty, sz⟩ (by simp)
      exact ⟨ds ++ r, by rw [← List.append_assoc]; exact h1, by simp at h2 ⊢; omega⟩
    · exact h.stab.own p (by simp [hp])
  · rcases List.mem_cons.1 hp with rfl | hp
    · exact h.new ⟨b, cs ++ ds, ty, sz⟩ (by simp)
    · exact h.new p (by simp [hp])
  · rcases List.mem_cons.1 hp with rfl | hp
    · exact h.apart ⟨b, cs ++ ds, ty, sz⟩ (by simp)
    · exact h.apart p (by simp [hp])
  · have := h.nodup
    rw [List.pairwise_cons] at this ⊢
    exact this
  · obtain ⟨h1, h2, h3, h4⟩ := h.res p hp
    refine ⟨h1, h2, fun q hq => ?_, h4⟩
    rcases List.mem_cons.1 hq with rfl | hq
    · exact h3 ⟨b, cs ++ ds, ty, sz⟩ (by simp)
    · exact h3 q (by simp [hq])
/-- How many slots; the marks that wait at the end. -/
structure NM where
  size : Nat
  marks : List Deferred
abbrev Env := List (Nat × Value)
def eget : Env → Nat → Option Value
  | [], _ => none
  | (t, v) :: e, s => bif Nat.beq t s then some v else eget e s
def eev (env : Env) : Operand → Option Value
  | .tmp t => eget env t
  | .const v => some v
  | .global g => some (.pointer (some ⟨g, 0, none⟩))
  | .func f => some (.func (.func f) #[] #[])
structure EOk (n : NM) (env : Env) (a : Act) : Prop where
  defers : a.defers = n.marks
  size : a.tmps.size = n.size
  get : ∀ t v, eget env t = some v → a.tmps.getD t undef = v
theorem EOk.eval {n : NM} {env : Env} {a : Act} (h : EOk n env a) {x : Operand} {v : Value} (hx : eev env x = some v) : a.eval x = v := by
  cases x with
  | tmp t => exact h.get t v hx
  | const u => simpa [eev, Act.eval] using hx
  | global g => simpa [eev, Act.eval] using hx
  | func f => simpa [eev, Act.eval] using hx
theorem EOk.put {n : NM} {env : Env} {a : Act} (h : EOk n env a) {d : Nat} (hd : Nat.blt d n.size = true) (v : Value) : EOk n ((d, v) :: env) (a.put (some d) v) := by
  have hd' : d < n.size := Nat.le_of_ble_eq_true hd
  refine ⟨h.defers, by simp [Act.put, h.size], fun t u ht => ?_⟩
  simp only [eget] at ht
  cases hb : Nat.beq d t with
  | true =>
    have : d = t := Nat.eq_of_beq_eq_true hb
    subst this
    have hv : v = u := by simpa using ht
    subst hv
    simp [Act.put, h.size, hd']
  | false =>
    have hne : d ≠ t := Nat.ne_of_beq_eq_false hb
    rw [hb] at ht
    rw [← h.get t u ht]
    simp [Act.put, Array.getElem?_setIfInBounds_ne hne]
/-- Fewer slots are known. -/
theorem EOk.weaken {n : NM} {env env' : Env} {a : Act} (h : EOk n env a) (hw : ∀ t v, eget env' t = some v → eget env t = some v) : EOk n env' a := ⟨h.defers, h.size, fun t v ht => h.get t v (hw t v ht)⟩
end Go.Proofs.YtnpcilglilfajaaGreatDoor
namespace Go.Proofs.YtnpcilglilfajaaGreatDoor
open Go.RowKit
section
variable {P : Program} {n : NM} {w0 : Base} {X0 X : PMap} {own : Own} {env : Env} {ops : Array Oper} {Q : Exit → Act → World → Prop} {ro : Option Nat}
/-- The wide fence, outside of a round (none) or in one. -/
abbrev FR (ro : Option Nat) : Fence := { fn := fun _ => True, depth := none, alive := false, round := ro }
abbrev DEP : Nat := 9
theorem fr_calls {ro : Option Nat} {m : Nat} {P : Program} {f : FuncId} {args : Array Value} {w : World} {R : Ending → World → Prop} : CallsIn (FR ro) m P f args w R ↔ Calls P f args w R := callsIn_wide (n := m)

/-- The operation only reads, and yields v. -/
def OpY (P : Program) (n : NM) (env : Env) (own : Own) (X : PMap) (o : Op) (v : Value) : Prop :=
  ∀ a W (oper : Oper), oper.op = o → EOk n env a → Stab own X W → (execOp a.eval oper).run P W = .ok (.value v) W
/-- The operation does what k says; g: it changes nothing that was there. -/
def OpX (P : Program) (n : NM) (w0 : Base) (X0 : PMap) (env : Env) (own : Own) (X : PMap) (o : Op) (g : Bool) (k : Value → Own → PMap → Prop) : Prop :=
  ∀ a W (oper : Oper) K Q ro, oper.op = o → EOk n env a → Sat w0 X0 own X W →
    (∀ v own' X' W', k v own' X' → Sat w0 X0 own' X' W' → (g = true → Grow W W') → K (a.put oper.dst v) W') → oper.wpIn (FR ro) DEP P a W K Q
theorem wp_value {oper : Oper} {a : Act} {W W' : World} {K : Act → World → Prop} {Q : Exit → Act → World → Prop} {ro : Option Nat} {v : Value} (hnd : ∀ c, oper.op ≠ .defer c) (hr : (execOp a.eval oper).run P W = .ok (.value v) W') (h : K (a.put oper.dst v) W') : oper.wpIn (FR ro) DEP P a W K Q := by
  refine ⟨fun _ _ => trivial, ?_⟩
  rw [Oper.semAt_eq _ _ _ hnd, hr]
  exact h
theorem wp_skipped {oper : Oper} {a : Act} {W W' : World} {K : Act → World → Prop} {Q : Exit → Act → World → Prop} {ro : Option Nat} (hnd : ∀ c, oper.op ≠ .defer c) (hr : (execOp a.eval oper).run P W = .ok .skip W') (h : K (a.put oper.dst undef) W') : oper.wpIn (FR ro) DEP P a W K Q := by
  refine ⟨fun _ _ => trivial, ?_⟩
  rw [Oper.semAt_eq _ _ _ hnd, hr]
  exact h
theorem wp_enters {oper : Oper} {a : Act} {W W' : World} {K : Act → World → Prop} {Q : Exit → Act → World → Prop} {ro : Option Nat} {f : FuncId} {args : Array Value} (hnd : ∀ c, oper.op ≠ .defer c) (hr : (execOp a.eval oper).run P W = .ok (.enter f args) W')
    (h : Calls P f args W' fun e w'' => ∃ v, e = .returned v ∧ K (a.put oper.dst v) w'') : oper.wpIn (FR ro) DEP P a W K Q := by
  refine ⟨fun _ _ => trivial, ?_⟩
  rw [Oper.semAt_eq _ _ _ hnd, hr]
  refine ⟨fun h => (by cases h), fr_calls.2 (h.mono fun e w'' hh => ?_)⟩
  obtain ⟨v, rfl, hk⟩ := hh
  exact hk

/-- Does the operation run? -/
def gwant (ops : Array Oper) (env : Env) : Option (Nat × Bool) → Option Bool
  | none => some true
  | some (j, want) =>
    match ((ops[j]?).bind (·.dst)).bind (eget env) with
    | some (.bool b) => some (bif want then b else !b)
    | some (.tuple _) => some false
    | _ => none
theorem gwant_spec {o : Oper} {a : Act} {b : Bool} (h : EOk n env a) (hg : gwant ops env o.guard = some b) : Region.wanted o (yielded ops a.tmps) = b := by
  unfold gwant at hg
  unfold Region.wanted
  cases hgd : o.guard with
  | none => rw [hgd] at hg; simpa using hg
  | some jw =>
    obtain ⟨j, want⟩ := jw
    rw [hgd] at hg
    simp only at hg ⊢
    cases hd : (ops[j]?).bind (·.dst) with
    | none => rw [hd] at hg; simp at hg
    | some t =>
      rw [hd] at hg
      simp only [Option.bind_some] at hg
      cases hv : eget env t with
      | none => rw [hv] at hg; simp at hg
      | some v =>
        rw [hv] at hg
        cases v with
        | bool c =>
          have hgt := h.get t _ hv
          have hy : yielded ops a.tmps j = some c := by
            unfold yielded
            rw [hd]
            simp only [Option.bind_some]
            have : a.tmps[t]? = some (.bool c) := by
              rcases Nat.lt_or_ge t a.tmps.size with hlt | hge
              · rw [Array.getElem?_eq_getElem hlt]
                simpa [Array.getD, hlt] using hgt
              · simp [Array.getD, Nat.not_lt.2 hge, undef] at hgt
            rw [this]
          rw [hy]
          simp only [Option.some.injEq] at hg
          subst hg
          cases want <;> cases c <;> rfl
        | tuple xs =>
          have hgt := h.get t _ hv
          have hy : yielded ops a.tmps j = none := by
            unfold yielded
            rw [hd]
            simp only [Option.bind_some]
            rcases Nat.lt_or_ge t a.tmps.size with hlt | hge
            · rw [Array.getElem?_eq_getElem hlt]
              have : a.tmps[t] = .tuple xs := by simpa [Array.getD, hlt] using hgt
              rw [this]
            · rw [Array.getElem?_eq_none hge]
          rw [hy]
          simp only [Option.some.injEq] at hg
          subst hg
          rfl
        | _ => simp at hg

def eput (env : Env) : Option Tmp → Value → Env
  | some d, v => (d, v) :: env
  | none, _ => env
def dok (n : NM) : Option Tmp → Bool
  | some d => Nat.blt d n.size
  | none => true
def noDefer : Op → Bool
  | .defer _ => false
  | _ => true
theorem noDefer_spec {o : Op} (h : noDefer o = true) (c : Call) : o ≠ .defer c := by rintro rfl; cases h
theorem EOk.eput {a : Act} (h : EOk n env a) {d : Option Tmp} (hd : dok n d = true) (v : Value) : EOk n (eput env d v) (a.put d v) := by
  cases d with
  | none => exact h
  | some d => exact h.put hd v

def SL (ro : Option Nat) (P : Program) (n : NM) (w0 : Base) (X0 : PMap) (ops : Array Oper) (Q : Exit → Act → World → Prop) (l : List Oper) (env : Env) (own : Own) (X : PMap) : Prop :=
  ∀ a W, EOk n env a → Sat w0 X0 own X W → wpListIn (FR ro) DEP P ops Q l a W

theorem SL.y {l : List Oper} {d : Option Tmp} {op : Op} {ty : TypeId} {pos : String} {af : Array Edge} {g : Option (Nat × Bool)} {v : Value} (h : OpY P n env own X op v) (hg : gwant ops env g = some true) (hd : (dok n d && noDefer op) = true)
    (h' : SL ro P n w0 X0 ops Q l (eput env d v) own X) : SL ro P n w0 X0 ops Q (⟨d, op, ty, pos, af, g⟩ :: l) env own X := by
  intro a W ha hs
  unfold wpListIn
  rw [if_pos (gwant_spec ha hg)]
  simp only [Bool.and_eq_true] at hd
  exact wp_value (noDefer_spec hd.2) (h a W _ rfl ha hs.stab) (h' _ _ (ha.eput hd.1 v) hs)
theorem SL.skip {l : List Oper} {d : Option Tmp} {op : Op} {ty : TypeId} {pos : String} {af : Array Edge} {g : Option (Nat × Bool)} (hg : gwant ops env g = some false) (hd : dok n d = true)
    (h' : SL ro P n w0 X0 ops Q l (eput env d undef) own X) : SL ro P n w0 X0 ops Q (⟨d, op, ty, pos, af, g⟩ :: l) env own X := by
  intro a W ha hs
  unfold wpListIn
  rw [if_neg (by rw [gwant_spec ha hg]; simp)]
  exact ⟨fun _ _ => trivial, h' _ _ (ha.eput hd _) hs⟩
theorem SL.x {l : List Oper} {d : Option Tmp} {op : Op} {ty : TypeId} {pos : String} {af : Array Edge} {g : Option (Nat × Bool)} {k : Value → Own → PMap → Prop} {gr : Bool} (h : OpX P n w0 X0 env own X op gr k) (hg : gwant ops env g = some true) (hd : dok n d = true)
    (h' : ∀ v own' X', k v own' X' → SL ro P n w0 X0 ops Q l (eput env d v) own' X') : SL ro P n w0 X0 ops Q (⟨d, op, ty, pos, af, g⟩ :: l) env own X := by
  intro a W ha hs
  unfold wpListIn
  rw [if_pos (gwant_spec ha hg)]
  exact h a W _ _ _ _ rfl ha hs fun v own' X' W' hk hs' _ => h' v own' X' hk _ _ (ha.eput hd v) hs'
end
section
variable {P : Program} {ops : Array Oper} {Q : Exit → Act → World → Prop} {S : World → Prop} {nh : Nat} {ro : Option Nat}
theorem yields_wp {i : Nat} {o : Oper} {v : Value} {a : Act} (hnd : ∀ c, o.op ≠ .defer c) (hi : ops[i]? = some o) (hy : YieldsIf P ops S o v a) {K : Act → World → Prop} {w : World} (hS : S w) (h : K (a.put o.dst v) w) : wpOpIn (FR ro) DEP P ops Q i K a w := by
  unfold wpOpIn
  simp only [hi]
  rcases hy with ⟨hw, hv⟩ | ⟨hw, rfl⟩
  · simp only [hw, if_true]; exact wp_value hnd (hv w hS) h
  · simp only [hw, Bool.false_eq_true, if_false]; exact ⟨fun _ _ => trivial, h⟩
theorem wpOpIn_putIf {j : Nat} {oi oj : Oper} {v : Value} (hndj : ∀ c, oj.op ≠ .defer c) (hj : ops[j]? = some oj) (hap : oi.apart ops oj = true)
    (hsi : ∀ cs b, oi.op ≠ .select cs b) (hsj : ∀ cs b, oj.op ≠ .select cs b)
    (hQ : ∀ c a w, Q (.panic c) (a.put oi.dst v) w → Q (.panic c) a w) {K : Act → World → Prop} {a : Act} {w : World}
    (hy : YieldsIf P ops S oi v a) (h : wpOpIn (FR ro) DEP P ops Q j K (a.put oi.dst v) w) :
    wpOpIn (FR ro) DEP P ops Q j (fun a' w' => YieldsIf P ops S oi v a' ∧ K (a'.put oi.dst v) w') a w := by
  obtain ⟨h1, h2, h3⟩ := Oper.apart_spec hap
  have keep : ∀ (a : Act), YieldsIf P ops S oi v a → ∀ u, YieldsIf P ops S oi v (a.put oj.dst u) := fun a hy u =>
    hy.of_same (execOp_put oi hsi a oj.dst u h3) (wanted_put oi a oj.dst u h3)
  have keepD : ∀ d, YieldsIf P ops S oi v { a with defers := d :: a.defers } := fun d => hy.of_same rfl rfl
  unfold wpOpIn at *
  simp only [hj] at *
  rw [wanted_put oj a oi.dst v h1] at h
  split
  · rename_i hw
    simp only [hw, if_true] at h
    unfold Oper.wpIn at *
    refine ⟨fun _ _ => trivial, ?_⟩
    have h := h.2
    rw [Oper.semAt_eq _ _ _ hndj, execOp_put oj hsj a oi.dst v h1] at h
    rw [Oper.semAt_eq _ _ _ hndj]
    generalize (execOp a.eval oj).run P w = r at *
    cases r with
    | ok x w' =>
      cases x <;> simp only [Oper.uponIn] at h ⊢
      case value u => exact ⟨keep a hy u, by rw [← Act.put_comm a v u h2]; exact h⟩
      case skip => exact ⟨keep a hy _, by rw [← Act.put_comm a v undef h2]; exact h⟩
      case defer d =>
        refine ⟨keep _ (keepD d) _, ?_⟩
        rw [← Act.put_comm _ v undef h2, ← Act.put_defers]
        exact h
      case enter f args =>
        refine ⟨h.1, CallsIn.mono h.2 fun e w'' he => ?_⟩
        cases e with
        | returned u => exact ⟨keep a hy u, by rw [← Act.put_comm a v u h2]; exact he⟩
        | panicked c => exact hQ _ _ _ he
        | outgrown => exact he
      case row row args => exact ⟨h.1, RowsIn.mono h.2 fun u w'' he => ⟨keep a hy u, by rw [← Act.put_comm a v u h2]; exact he⟩⟩
      case round l f tmps assign body =>
        refine ⟨h.1, RoundIn.mono h.2 fun e w'' he => ?_⟩
        cases e with
        | returned u => exact ⟨keep a hy u, by rw [← Act.put_comm a v u h2]; exact he⟩
        | panicked c => exact hQ _ _ _ he
        | outgrown => exact he
    | halt x w' =>
      cases x <;> simp only [Oper.uponIn] at h ⊢
      case panic u => exact hQ _ _ _ h
  · rename_i hw
    simp only [hw] at h
    exact ⟨fun _ _ => trivial, keep a hy _, by rw [← Act.put_comm a v undef h2]; exact h.2⟩
def noDefers (ops : Array Oper) : Bool := ops.all fun o => noDefer o.op
theorem noDefers_spec (h : noDefers ops = true) (j : Nat) (o : Oper) (ho : ops[j]? = some o) : ∀ c, o.op ≠ .defer c := noDefer_spec (Array.all_eq_true_iff_forall_mem.1 h o (Array.mem_of_getElem? ho))

/-- The store that ends what the others lean on has not been run. -/
def opn (st : Option Nat) (l : Array Bool) : Bool := match st with
  | none => true
  | some s => !l.getD s false
theorem opn_mono {st : Option Nat} {l : Array Bool} {i : Nat} (h : opn st (l.setIfInBounds i true) = true) : opn st l = true := by
  cases st with
  | none => rfl
  | some s =>
    simp only [opn, Bool.not_eq_true'] at h ⊢
    cases hl : l.getD s false with
    | false => rfl
    | true => rw [getD_set_true hl] at h; exact h
theorem opn_set {st : Option Nat} {l : Array Bool} {i : Nat} (hi : st ≠ some i) (h : opn st l = true) : opn st (l.setIfInBounds i true) = true := by
  cases st with
  | none => rfl
  | some s =>
    simp only [opn, Bool.not_eq_true'] at h ⊢
    rw [getD_set_ne false (fun e => hi (by rw [e]))]; exact h
/-- The store waits for i. -/
def depB (ops : Array Oper) (st : Option Nat) (i : Nat) : Bool := match st with
  | none => true
  | some s => !Nat.beq s i && ((ops[s]?).map (·.after.any fun e => Region.binds .any e && Nat.beq e.on i)).getD false
theorem depB_ne {st : Option Nat} {i : Nat} (h : depB ops st i = true) : st ≠ some i := by
  rintro rfl
  simp [depB] at h
theorem depB_opn {st : Option Nat} {i : Nat} (h : depB ops st i = true) {l : Array Bool} (inv : HeadInv .any ops nh l) (hun : l.getD i true = false) : opn st l = true := by
  cases st with
  | none => rfl
  | some s =>
    simp only [depB, Bool.and_eq_true] at h
    obtain ⟨_, h⟩ := h
    cases ho : ops[s]? with
    | none => rw [ho] at h; cases h
    | some os =>
      rw [ho] at h
      simp only [Option.map_some, Option.getD_some] at h
      obtain ⟨e, he, h2⟩ := Array.any_eq_true'.1 h
      simp only [Bool.and_eq_true] at h2
      simp only [opn, Bool.not_eq_true']
      cases hl : l.getD s false with
      | false => rfl
      | true =>
        have h3 := inv.closed s os ho hl e he h2.1
        rw [Nat.eq_of_beq_eq_true h2.2, getD_both hun] at h3
        cases h3
def neB (st : Option Nat) (i : Nat) : Bool := match st with
  | none => true
  | some s => !Nat.beq s i
theorem neB_ne {st : Option Nat} {i : Nat} (h : neB st i = true) : st ≠ some i := by
  rintro rfl
  simp [neB] at h

/-- The head of a region, in whatever order: S holds behind each operation, until the store st has been run; L at the end. -/
def hdAny (ro : Option Nat) (P : Program) (ops : Array Oper) (Q : Exit → Act → World → Prop) (st : Option Nat) (S : World → Prop) (nh : Nat) (L : Array Bool → Act → World → Prop) : Nat → Array Bool → Act → World → Prop
  | 0, listed, a, w => L listed a w
  | f + 1, listed, a, w => Region.ready .any ops listed ≠ [] ∧ ∀ i ∈ Region.ready .any ops listed, i < nh ∧ wpOpIn (FR ro) DEP P ops Q i (fun a' w' => (opn st (listed.setIfInBounds i true) = true → S w') ∧ hdAny ro P ops Q st S nh L f (listed.setIfInBounds i true) a' w') a w

theorem wpAny_of_hd {st : Option Nat} {L : Array Bool → Act → World → Prop} {g : Nat} (hL : ∀ listed a w, L listed a w → wpAnyIn (FR ro) DEP P .any ops Q g listed a w) :
    ∀ (f : Nat) (listed : Array Bool) (a : Act) (w : World), hdAny ro P ops Q st S nh L f listed a w → wpAnyIn (FR ro) DEP P .any ops Q (f + g) listed a w
  | 0, listed, a, w, h => by rw [Nat.zero_add]; exact hL _ _ _ h
  | f + 1, listed, a, w, h => by
    rw [show f + 1 + g = (f + g) + 1 by omega]
    exact ⟨fun h0 => absurd h0 h.1, fun i hi => wpOpIn_mono (fun a' w' h' => wpAny_of_hd hL f _ a' w' h'.2) (h.2 i hi).2⟩

/-- No operation of the tail comes up while one of the head waits. -/
def TailWaits (ops : Array Oper) (nh : Nat) : Prop :=
  ∀ (listed : Array Bool), HeadInv .any ops nh listed → ∀ i, i < nh → listed.getD i true = false → ∀ t ∈ Region.ready .any ops listed, t < nh
def tailB (ops : Array Oper) (nh : Nat) : Bool := decide (nh = ops.size) || (decide (nh < ops.size) && Region.sinkB .any ops nh && Region.chainB .any ops nh)
theorem tailWaits_of (h : tailB ops nh = true) : TailWaits ops nh := by
  intro listed inv i hi hun t ht
  unfold tailB at h
  simp only [Bool.or_eq_true, Bool.and_eq_true, decide_eq_true_eq] at h
  rcases h with h | ⟨⟨h1, h2⟩, h3⟩
  · obtain ⟨_, o, ho, _⟩ := mem_ready.1 ht
    have := (Array.getElem?_eq_some_iff.1 ho).1
    omega
  · rcases Nat.lt_or_ge t nh with h | h
    · exact h
    · exact absurd ht (tail_waits h2 h3 h1 inv _ i rfl hi hun t h)

theorem hd_first {st : Option Nat} {S' : World → Prop} {i : Nat} {oi : Oper} {v : Value} {L : Array Bool → Act → World → Prop} (hi : ops[i]? = some oi) (hsel : ∀ (j : Nat) (o : Oper) cs b, ops[j]? = some o → o.op ≠ .select cs b)
    (hnd : ∀ (j : Nat) (o : Oper), ops[j]? = some o → ∀ c, o.op ≠ .defer c) (ht : TailWaits ops nh) (hin : i < nh) (hQ : ∀ c a w, Q (.panic c) (a.put oi.dst v) w → Q (.panic c) a w)
    (hdone : ∀ listed a w, L listed a w → ∀ j ∈ Region.ready .any ops listed, nh ≤ j) (his : st ≠ some i)
    (hSS : ∀ l w, HeadInv .any ops nh l → l.getD i true = false → (opn st l = true → S w) → S' w) :
    ∀ (f : Nat) (listed : Array Bool) (a : Act) (w : World), HeadInv .any ops nh listed →
      (∀ j oj, ops[j]? = some oj → j ≠ i → listed.getD j true = false → (∀ e ∈ oj.after, Region.binds .any e = true → e.on ≠ i) → oi.apart ops oj = true) →
      i ∈ Region.ready .any ops listed → YieldsIf P ops S' oi v a → (opn st listed = true → S w) →
      hdAny ro P ops Q st S nh L f (listed.setIfInBounds i true) (a.put oi.dst v) w → hdAny ro P ops Q st S nh L (f + 1) listed a w := by
  intro f
  induction f with
  | zero =>
    intro listed a w inv _ hr hy hS H
    have hun := (mem_ready.1 hr).1
    refine ⟨fun h => (by rw [h] at hr; cases hr), fun j hj => ?_⟩
    have hjn := ht listed inv i hin hun j hj
    refine ⟨hjn, ?_⟩
    by_cases hji : j = i
    · subst hji; exact yields_wp (hnd _ _ hi) hi hy (hSS _ _ inv hun hS) ⟨fun h => hS (opn_mono h), H⟩
    · have := hdone _ _ _ H j (ready_mono hj hji)
      omega
  | succ f ih =>
    intro listed a w inv hfree hr hy hS H
    have hun := (mem_ready.1 hr).1
    refine ⟨fun h => (by rw [h] at hr; cases hr), fun j hj => ?_⟩
    have hjn := ht listed inv i hin hun j hj
    refine ⟨hjn, ?_⟩
    by_cases hji : j = i
    · subst hji; exact yields_wp (hnd _ _ hi) hi hy (hSS _ _ inv hun hS) ⟨fun h => hS (opn_mono h), H⟩
    · have h1 := (H.2 j (ready_mono hj hji)).2
      obtain ⟨hjun, oj, hoj, hall⟩ := mem_ready.1 hj
      have hnot : ∀ e ∈ oj.after, Region.binds .any e = true → e.on ≠ i := fun e he hb heq => by
        have h1 := hall e he hb
        rw [heq, getD_both hun] at h1
        cases h1
      have h2 := wpOpIn_putIf (hnd j oj hoj) hoj (hfree j oj hoj hji hjun hnot) (fun cs b => hsel i oi cs b hi) (fun cs b => hsel j oj cs b hoj) hQ hy h1
      have hfree' : ∀ k ok, ops[k]? = some ok → k ≠ i → (listed.setIfInBounds j true).getD k true = false →
          (∀ e ∈ ok.after, Region.binds .any e = true → e.on ≠ i) → oi.apart ops ok = true := fun k ok hk hki hun hno => by
        refine hfree k ok hk hki ?_ hno
        by_cases hjk : j = k
        · subst hjk; exact hjun
        · rw [getD_set_ne true hjk] at hun; exact hun
      refine wpOpIn_mono (fun a' w' h3 => ?_) h2
      have hSj : opn st (listed.setIfInBounds j true) = true → S w' := fun ho => h3.2.1 (by rw [Array.setIfInBounds_comm _ _ (Ne.symm hji)]; exact opn_set his ho)
      refine ⟨hSj, ih (listed.setIfInBounds j true) a' w' (inv.set hj hjn) hfree' (ready_mono hr (Ne.symm hji)) h3.1 hSj ?_⟩
      rw [Array.setIfInBounds_comm _ _ hji]
      exact h3.2.2

/-- A plan's step: number i, taken first; run because nothing else may come up; or two of them, in either order. -/
inductive Pl where
  | t (i : Nat)
  | m (i : Nat)
  | r (i : Nat)
  | f (i j : Nat)
  | g (i j p k : Nat)
  | b (i j : Nat) (p q : List (Nat × Nat))
def plen : List Pl → Nat
  | [] => 0
  | .t _ :: r => plen r + 1
  | .m _ :: r => plen r + 1
  | .r _ :: r => plen r + 1
  | .f _ _ :: r => plen r + 1 + 1
  | .g _ _ _ _ :: r => plen r + 1 + 1 + 1 + 1
  | .b _ _ p _ :: r => p.length + plen r + 1
def planLin (ops : Array Oper) (nh : Nat) (st : Option Nat) : List (Nat × Nat) → Array Bool → Bool
  | [], listed => Region.seqB .any ops (ops.size - nh) nh listed
  | (0, i) :: r, listed => Nat.blt i nh && (Region.ready .any ops listed).contains i && Region.free .any ops listed i && depB ops st i && planLin ops nh st r (listed.setIfInBounds i true)
  | (1, i) :: r, listed => Nat.blt i nh && (Region.ready .any ops listed).contains i && Region.free .any ops listed i && neB st i && planLin ops nh st r (listed.setIfInBounds i true)
  | (_, i) :: r, listed => Nat.blt i nh && decide (Region.ready .any ops listed = [i]) && planLin ops nh st r (listed.setIfInBounds i true)
def planOk (ops : Array Oper) (nh : Nat) (st : Option Nat) : List Pl → Array Bool → Bool
  | [], listed => Region.seqB .any ops (ops.size - nh) nh listed
  | .t i :: r, listed => Nat.blt i nh && (Region.ready .any ops listed).contains i && Region.free .any ops listed i && depB ops st i && planOk ops nh st r (listed.setIfInBounds i true)
  | .m i :: r, listed => Nat.blt i nh && (Region.ready .any ops listed).contains i && Region.free .any ops listed i && neB st i && planOk ops nh st r (listed.setIfInBounds i true)
  | .r i :: r, listed => Nat.blt i nh && decide (Region.ready .any ops listed = [i]) && planOk ops nh st r (listed.setIfInBounds i true)
  | .f i j :: r, listed => Nat.blt i nh && Nat.blt j nh && !Nat.beq i j && decide (Region.ready .any ops listed = [i, j]) && decide (Region.ready .any ops (listed.setIfInBounds i true) = [j]) && decide (Region.ready .any ops (listed.setIfInBounds j true) = [i])
      && planOk ops nh st r ((listed.setIfInBounds i true).setIfInBounds j true)
  | .g i j p k :: r, listed => (Nat.blt i nh && Nat.blt j nh && Nat.blt p nh && Nat.blt k nh) && (!Nat.beq i k && !Nat.beq j k && !Nat.beq p k) && decide (st = none)
      && (decide (Region.ready .any ops listed = [i, k]) && decide (Region.ready .any ops (listed.setIfInBounds i true) = [j, k]) && decide (Region.ready .any ops ((listed.setIfInBounds i true).setIfInBounds j true) = [p, k]) && decide (Region.ready .any ops (((listed.setIfInBounds i true).setIfInBounds j true).setIfInBounds p true) = [k]))
      && (decide (Region.ready .any ops (listed.setIfInBounds k true) = [i]) && decide (Region.ready .any ops ((listed.setIfInBounds i true).setIfInBounds k true) = [j]) && decide (Region.ready .any ops (((listed.setIfInBounds i true).setIfInBounds j true).setIfInBounds k true) = [p]))
      && planOk ops nh st r ((((listed.setIfInBounds i true).setIfInBounds j true).setIfInBounds p true).setIfInBounds k true)
  | .b i j p q :: r, listed => Nat.blt i nh && Nat.blt j nh && r.isEmpty && Nat.beq p.length q.length && decide (Region.ready .any ops listed = [i, j]) && planLin ops nh st p (listed.setIfInBounds i true) && planLin ops nh st q (listed.setIfInBounds j true)
/-- Everything that is asked of a drawn region's text. -/
def drawOk (ops : Array Oper) (nh : Nat) (st : Option Nat) (pl : List Pl) : Bool :=
  noDefers ops && Region.noSelect ops && tailB ops nh && decide (plen pl + (ops.size - nh) = ops.size) && planOk ops nh st pl (Array.replicate ops.size false)
end
section
variable {P : Program} {n : NM} {w0 : Base} {X0 X XS : PMap} {own ownS : Own} {env : Env} {ops : Array Oper} {Q : Exit → Act → World → Prop} {nh : Nat} {ro : Option Nat} {st : Option Nat}
/-- What stands behind the head: the tail, in the text's order. -/
def tailL (ro : Option Nat) (P : Program) (ops : Array Oper) (Q : Exit → Act → World → Prop) (nh : Nat) (listed : Array Bool) (a : Act) (w : World) : Prop :=
  Region.seqB .any ops (ops.size - nh) nh listed = true ∧ wpListIn (FR ro) DEP P ops Q (ops.toList.drop nh) a w

def SD (ro : Option Nat) (P : Program) (n : NM) (w0 : Base) (X0 : PMap) (ops : Array Oper) (Q : Exit → Act → World → Prop) (nh : Nat) (st : Option Nat) (ownS : Own) (XS : PMap) (pl : List Pl) (env : Env) (own : Own) (X : PMap) : Prop :=
  ∀ (listed : Array Bool) a W, Region.noSelect ops = true → noDefers ops = true → TailWaits ops nh → HeadInv .any ops nh listed → planOk ops nh st pl listed = true →
    EOk n env a → Sat w0 X0 own X W → (opn st listed = true → Stab ownS XS W) → hdAny ro P ops Q st (Stab ownS XS) nh (tailL ro P ops Q nh) (plen pl) listed a W

theorem SD.nil (h : SL ro P n w0 X0 ops Q (ops.toList.drop nh) env own X) : SD ro P n w0 X0 ops Q nh st ownS XS [] env own X :=
  fun _ a W _ _ _ _ hp ha hs _ => ⟨hp, h a W ha hs⟩

theorem tail_done {listed : Array Bool} {a : Act} {w : World} (h : tailL ro P ops Q nh listed a w) : ∀ j ∈ Region.ready .any ops listed, nh ≤ j := seqB_ready h.1

/-- An operation that only reads is taken. -/
theorem SD.take {i : Nat} {pl : List Pl} {d : Option Tmp} {op : Op} {ty : TypeId} {pos : String} {af : Array Edge} {g : Option (Nat × Bool)} {v : Value} (hi : ops[i]? = some ⟨d, op, ty, pos, af, g⟩)
    (hQ : ∀ c a w, Q (.panic c) (a.put d v) w → Q (.panic c) a w)
    (h : OpY P n env ownS XS op v) (hg : gwant ops env g = some true) (hd : dok n d = true) (h' : SD ro P n w0 X0 ops Q nh st ownS XS pl (eput env d v) own X) : SD ro P n w0 X0 ops Q nh st ownS XS (.t i :: pl) env own X := by
  intro listed a W hns hnd ht inv hp ha hs hst
  simp only [planOk, Bool.and_eq_true] at hp
  obtain ⟨⟨⟨⟨hin, hr⟩, hf⟩, hdp⟩, hp⟩ := hp
  have hin' : i < nh := Nat.le_of_ble_eq_true hin
  have hr' : i ∈ Region.ready .any ops listed := by simpa using hr
  refine hd_first hi (Region.noSelect_spec hns) (noDefers_spec hnd) ht hin' hQ (fun _ _ _ h => tail_done h) (depB_ne hdp) (fun l w inv hun h => h (depB_opn hdp inv hun)) _ listed a W inv (Region.free_spec hi hf) hr' (.inl ⟨gwant_spec ha hg, fun w hw => h a w _ rfl ha hw⟩) hst ?_
  exact h' _ _ _ hns hnd ht (inv.set hr' hin') hp (ha.eput hd v) hs (fun h => hst (opn_mono h))
/-- An operation on slots alone is taken. -/
theorem SD.takeM {i : Nat} {pl : List Pl} {d : Option Tmp} {op : Op} {ty : TypeId} {pos : String} {af : Array Edge} {g : Option (Nat × Bool)} {v : Value} (hi : ops[i]? = some ⟨d, op, ty, pos, af, g⟩)
    (hQ : ∀ c a w, Q (.panic c) (a.put d v) w → Q (.panic c) a w)
    (h : OpY P n env [] (fun _ => none) op v) (hg : gwant ops env g = some true) (hd : dok n d = true) (h' : SD ro P n w0 X0 ops Q nh st ownS XS pl (eput env d v) own X) : SD ro P n w0 X0 ops Q nh st ownS XS (.m i :: pl) env own X := by
  intro listed a W hns hnd ht inv hp ha hs hst
  simp only [planOk, Bool.and_eq_true] at hp
  obtain ⟨⟨⟨⟨hin, hr⟩, hf⟩, hdp⟩, hp⟩ := hp
  have hin' : i < nh := Nat.le_of_ble_eq_true hin
  have hr' : i ∈ Region.ready .any ops listed := by simpa using hr
  refine hd_first hi (Region.noSelect_spec hns) (noDefers_spec hnd) ht hin' hQ (fun _ _ _ h => tail_done h) (S' := Stab [] (fun _ => none)) (neB_ne hdp) (fun _ _ _ _ _ => ⟨fun _ h => (by cases h), fun _ _ h => (by cases h)⟩) _ listed a W inv (Region.free_spec hi hf) hr' (.inl ⟨gwant_spec ha hg, fun w hw => h a w _ rfl ha hw⟩) hst ?_
  exact h' _ _ _ hns hnd ht (inv.set hr' hin') hp (ha.eput hd v) hs (fun h => hst (opn_mono h))
/-- An operation that does not run is taken. -/
theorem SD.skip {i : Nat} {pl : List Pl} {d : Option Tmp} {op : Op} {ty : TypeId} {pos : String} {af : Array Edge} {g : Option (Nat × Bool)} (hi : ops[i]? = some ⟨d, op, ty, pos, af, g⟩)
    (hQ : ∀ c a w, Q (.panic c) (a.put d undef) w → Q (.panic c) a w)
    (hg : gwant ops env g = some false) (hd : dok n d = true) (h' : SD ro P n w0 X0 ops Q nh st ownS XS pl (eput env d undef) own X) : SD ro P n w0 X0 ops Q nh st ownS XS (.t i :: pl) env own X := by
  intro listed a W hns hnd ht inv hp ha hs hst
  simp only [planOk, Bool.and_eq_true] at hp
  obtain ⟨⟨⟨⟨hin, hr⟩, hf⟩, hdp⟩, hp⟩ := hp
  have hin' : i < nh := Nat.le_of_ble_eq_true hin
  have hr' : i ∈ Region.ready .any ops listed := by simpa using hr
  refine hd_first hi (Region.noSelect_spec hns) (noDefers_spec hnd) ht hin' hQ (fun _ _ _ h => tail_done h) (depB_ne hdp) (fun l w inv hun h => h (depB_opn hdp inv hun)) _ listed a W inv (Region.free_spec hi hf) hr' (.inr ⟨gwant_spec ha hg, rfl⟩) hst ?_
  exact h' _ _ _ hns hnd ht (inv.set hr' hin') hp (ha.eput hd _) hs (fun h => hst (opn_mono h))
/-- An operation that makes memory, or a call, is run: nothing else may come up. -/
theorem SD.run {i : Nat} {pl : List Pl} {d : Option Tmp} {op : Op} {ty : TypeId} {pos : String} {af : Array Edge} {g : Option (Nat × Bool)} {k : Value → Own → PMap → Prop} (hi : ops[i]? = some ⟨d, op, ty, pos, af, g⟩)
    (h : OpX P n w0 X0 env own X op true k) (hg : gwant ops env g = some true) (hd : dok n d = true) (h' : ∀ v own' X', k v own' X' → SD ro P n w0 X0 ops Q nh st ownS XS pl (eput env d v) own' X') : SD ro P n w0 X0 ops Q nh st ownS XS (.r i :: pl) env own X := by
  intro listed a W hns hnd ht inv hp ha hs hst
  simp only [planOk, Bool.and_eq_true, decide_eq_true_eq] at hp
  obtain ⟨⟨hin, hr⟩, hp⟩ := hp
  have hin' : i < nh := Nat.le_of_ble_eq_true hin
  have hr' : i ∈ Region.ready .any ops listed := by rw [hr]; simp
  refine ⟨by rw [hr]; simp, fun j hj => ?_⟩
  rw [hr] at hj
  have hji : j = i := by simpa using hj
  subst hji
  refine ⟨hin', ?_⟩
  unfold wpOpIn
  simp only [hi]
  rw [if_pos (gwant_spec ha hg)]
  refine h a W _ _ _ _ rfl ha hs fun v own' X' W' hk hs' hgr => ⟨fun h => (hst (opn_mono h)).grow (hgr rfl), ?_⟩
  exact h' v own' X' hk _ _ _ hns hnd ht (inv.set hr' hin') hp (ha.eput hd v) hs' (fun h => (hst (opn_mono h)).grow (hgr rfl))

/-- An operation that does not run is come to: nothing else may come up. -/
theorem SD.skipF {i : Nat} {pl : List Pl} {d : Option Tmp} {op : Op} {ty : TypeId} {pos : String} {af : Array Edge} {g : Option (Nat × Bool)} (hi : ops[i]? = some ⟨d, op, ty, pos, af, g⟩)
    (hg : gwant ops env g = some false) (hd : dok n d = true) (h' : SD ro P n w0 X0 ops Q nh st ownS XS pl (eput env d undef) own X) : SD ro P n w0 X0 ops Q nh st ownS XS (.r i :: pl) env own X := by
  intro listed a W hns hnd ht inv hp ha hs hst
  simp only [planOk, Bool.and_eq_true, decide_eq_true_eq] at hp
  obtain ⟨⟨hin, hr⟩, hp⟩ := hp
  have hin' : i < nh := Nat.le_of_ble_eq_true hin
  have hr' : i ∈ Region.ready .any ops listed := by rw [hr]; simp
  refine ⟨by rw [hr]; simp, fun j hj => ?_⟩
  rw [hr] at hj
  have hji : j = i := by simpa using hj
  subst hji
  refine ⟨hin', ?_⟩
  unfold wpOpIn
  simp only [hi]
  rw [if_neg (by rw [gwant_spec ha hg]; simp)]
  exact ⟨fun _ _ => trivial, fun h => hst (opn_mono h), h' _ _ _ hns hnd ht (inv.set hr' hin') hp (ha.eput hd _) hs (fun h => hst (opn_mono h))⟩
/-- An operation that changes blocks on which the others do not lean. -/
theorem SD.runK {i : Nat} {pl : List Pl} {d : Option Tmp} {op : Op} {ty : TypeId} {pos : String} {af : Array Edge} {g : Option (Nat × Bool)} {gr : Bool} {k : Value → Own → PMap → Prop} (hi : ops[i]? = some ⟨d, op, ty, pos, af, g⟩)
    (h : OpX P n w0 X0 env own X op gr k) (hkeep : ∀ v own' X', k v own' X' → (∀ p ∈ ownS, p ∈ own') ∧ XS.le X') (hg : gwant ops env g = some true) (hd : dok n d = true) (h' : ∀ v own' X', k v own' X' → SD ro P n w0 X0 ops Q nh st ownS XS pl (eput env d v) own' X') : SD ro P n w0 X0 ops Q nh st ownS XS (.r i :: pl) env own X := by
  intro listed a W hns hnd ht inv hp ha hs hst
  simp only [planOk, Bool.and_eq_true, decide_eq_true_eq] at hp
  obtain ⟨⟨hin, hr⟩, hp⟩ := hp
  have hin' : i < nh := Nat.le_of_ble_eq_true hin
  have hr' : i ∈ Region.ready .any ops listed := by rw [hr]; simp
  refine ⟨by rw [hr]; simp, fun j hj => ?_⟩
  rw [hr] at hj
  have hji : j = i := by simpa using hj
  subst hji
  refine ⟨hin', ?_⟩
  unfold wpOpIn
  simp only [hi]
  rw [if_pos (gwant_spec ha hg)]
  refine h a W _ _ _ _ rfl ha hs fun v own' X' W' hk hs' _ => ?_
  obtain ⟨h1, h2⟩ := hkeep v own' X' hk
  have hst' : Stab ownS XS W' := ⟨fun p hp => hs'.stab.own p (h1 p hp), fun q o hq => hs'.stab.pers q o (h2 q o hq)⟩
  exact ⟨fun _ => hst', h' v own' X' hk _ _ _ hns hnd ht (inv.set hr' hin') hp (ha.eput hd v) hs' (fun _ => hst')⟩

/-- The store for which all waited that lean on memory. -/
theorem SD.runS {i : Nat} {pl : List Pl} {d : Option Tmp} {op : Op} {ty : TypeId} {pos : String} {af : Array Edge} {g : Option (Nat × Bool)} {gr : Bool} {k : Value → Own → PMap → Prop} (hi : ops[i]? = some ⟨d, op, ty, pos, af, g⟩)
    (h : OpX P n w0 X0 env own X op gr k) (hg : gwant ops env g = some true) (hd : dok n d = true) (h' : ∀ v own' X', k v own' X' → SD ro P n w0 X0 ops Q nh (some i) ownS XS pl (eput env d v) own' X') : SD ro P n w0 X0 ops Q nh (some i) ownS XS (.r i :: pl) env own X := by
  intro listed a W hns hnd ht inv hp ha hs hst
  simp only [planOk, Bool.and_eq_true, decide_eq_true_eq] at hp
  obtain ⟨⟨hin, hr⟩, hp⟩ := hp
  have hin' : i < nh := Nat.le_of_ble_eq_true hin
  have hr' : i ∈ Region.ready .any ops listed := by rw [hr]; simp
  refine ⟨by rw [hr]; simp, fun j hj => ?_⟩
  rw [hr] at hj
  have hji : j = i := by simpa using hj
  subst hji
  refine ⟨hin', ?_⟩
  unfold wpOpIn
  simp only [hi]
  rw [if_pos (gwant_spec ha hg)]
  refine h a W _ _ _ _ rfl ha hs fun v own' X' W' hk hs' _ => ?_
  have hcl : ¬ opn (some j) (listed.setIfInBounds j true) = true := fun ho => by
    have hil := (mem_ready.1 hr').2
    obtain ⟨oi, hoi, _⟩ := hil
    have hlt : j < listed.size := by rw [inv.size]; exact (Array.getElem?_eq_some_iff.1 hoi).1
    simp [opn, hlt] at ho
  exact ⟨fun h => absurd h hcl, h' v own' X' hk _ _ _ hns hnd ht (inv.set hr' hin') hp (ha.eput hd v) hs' (fun h => absurd h hcl)⟩

def optNe : Option Tmp → Option Tmp → Bool
  | some a, some b => !Nat.beq a b
  | _, _ => true
theorem eput_swap {env : Env} {d1 d2 : Option Tmp} {v1 v2 : Value} (h : optNe d1 d2 = true) : ∀ t v, eget (eput (eput env d1 v1) d2 v2) t = some v → eget (eput (eput env d2 v2) d1 v1) t = some v := by
  intro t v hv
  cases d1 with
  | none => cases d2 <;> exact hv
  | some a =>
    cases d2 with
    | none => exact hv
    | some b =>
      simp only [eput, eget] at hv ⊢
      cases ha : Nat.beq a t <;> cases hb : Nat.beq b t <;> simp only [ha, hb, cond_true, cond_false] at hv ⊢ <;> try exact hv
      have e1 := Nat.eq_of_beq_eq_true ha
      have e2 := Nat.eq_of_beq_eq_true hb
      subst e1; subst e2
      simp [optNe] at h
/-- Two operations of which neither waits for the other: in both orders they come to the same. -/
theorem SD.fork {i j : Nat} {pl : List Pl} {d1 d2 : Option Tmp} {op1 op2 : Op} {tya tyb : TypeId} {pos1 pos2 : String} {af1 af2 : Array Edge} {g1 g2 : Option (Nat × Bool)} {K : Value → Value → Own → PMap → Prop}
    (hi : ops[i]? = some ⟨d1, op1, tya, pos1, af1, g1⟩) (hj : ops[j]? = some ⟨d2, op2, tyb, pos2, af2, g2⟩)
    (h12 : OpX P n w0 X0 env own X op1 true fun v1 own1 X1 => OpX P n w0 X0 (eput env d1 v1) own1 X1 op2 true fun v2 own2 X2 => K v1 v2 own2 X2)
    (h21 : OpX P n w0 X0 env own X op2 true fun v2 own1 X1 => OpX P n w0 X0 (eput env d2 v2) own1 X1 op1 true fun v1 own2 X2 => ∃ own3, own2.Perm own3 ∧ K v1 v2 own3 X2)
    (hg1 : gwant ops env g1 = some true) (hg2 : ∀ v, gwant ops (eput env d1 v) g2 = some true) (hg2' : gwant ops env g2 = some true) (hg1' : ∀ v, gwant ops (eput env d2 v) g1 = some true)
    (hd1 : dok n d1 = true) (hd2 : dok n d2 = true) (hc : optNe d1 d2 = true)
    (h' : ∀ v1 v2 own' X', K v1 v2 own' X' → SD ro P n w0 X0 ops Q nh st ownS XS pl (eput (eput env d1 v1) d2 v2) own' X') : SD ro P n w0 X0 ops Q nh st ownS XS (.f i j :: pl) env own X := by
  intro listed a W hns hnd ht inv hp ha hs hst
  simp only [planOk, Bool.and_eq_true, decide_eq_true_eq, Bool.not_eq_true'] at hp
  obtain ⟨⟨⟨⟨⟨⟨hin, hjn⟩, hne⟩, hr⟩, hri⟩, hrj⟩, hp⟩ := hp
  have hin' : i < nh := Nat.le_of_ble_eq_true hin
  have hjn' : j < nh := Nat.le_of_ble_eq_true hjn
  have hne' : i ≠ j := fun e => by rw [e, Nat.beq_refl] at hne; cases hne
  have hr1 : i ∈ Region.ready .any ops listed := by rw [hr]; simp
  have hr2 : j ∈ Region.ready .any ops listed := by rw [hr]; simp
  have hr3 : j ∈ Region.ready .any ops (listed.setIfInBounds i true) := by rw [hri]; simp
  have hr4 : i ∈ Region.ready .any ops (listed.setIfInBounds j true) := by rw [hrj]; simp
  refine ⟨by rw [hr]; simp, fun q hq => ?_⟩
  rw [hr] at hq
  have hq' : q = i ∨ q = j := by simpa using hq
  rcases hq' with rfl | rfl
  · refine ⟨hin', ?_⟩
    unfold wpOpIn
    simp only [hi]
    rw [if_pos (gwant_spec ha hg1)]
    refine h12 a W _ _ _ _ rfl ha hs fun v1 own1 X1 W1 hk1 hs1 hgr1 => ⟨fun h => (hst (opn_mono h)).grow (hgr1 rfl), ?_⟩
    refine ⟨by rw [hri]; simp, fun q hq => ?_⟩
    rw [hri] at hq
    obtain rfl : q = j := by simpa using hq
    refine ⟨hjn', ?_⟩
    unfold wpOpIn
    simp only [hj]
    rw [if_pos (gwant_spec (ha.eput hd1 v1) (hg2 v1))]
    refine hk1 _ W1 _ _ _ _ rfl (ha.eput hd1 v1) hs1 fun v2 own2 X2 W2 hk2 hs2 hgr2 => ⟨fun h => ((hst (opn_mono (opn_mono h))).grow (hgr1 rfl)).grow (hgr2 rfl), ?_⟩
    exact h' v1 v2 own2 X2 hk2 _ _ _ hns hnd ht ((inv.set hr1 hin').set hr3 hjn') hp ((ha.eput hd1 v1).eput hd2 v2) hs2 (fun h => ((hst (opn_mono (opn_mono h))).grow (hgr1 rfl)).grow (hgr2 rfl))
  · refine ⟨hjn', ?_⟩
    unfold wpOpIn
    simp only [hj]
    rw [if_pos (gwant_spec ha hg2')]
    refine h21 a W _ _ _ _ rfl ha hs fun v2 own1 X1 W1 hk1 hs1 hgr1 => ⟨fun h => (hst (opn_mono h)).grow (hgr1 rfl), ?_⟩
    refine ⟨by rw [hrj]; simp, fun p hq => ?_⟩
    rw [hrj] at hq
    obtain rfl : p = i := by simpa using hq
    refine ⟨hin', ?_⟩
    unfold wpOpIn
    simp only [hi]
    rw [if_pos (gwant_spec (ha.eput hd2 v2) (hg1' v2))]
    refine hk1 _ W1 _ _ _ _ rfl (ha.eput hd2 v2) hs1 fun v1 own2 X2 W2 hk2 hs2 hgr2 => ⟨fun h => ((hst (opn_mono (opn_mono h))).grow (hgr1 rfl)).grow (hgr2 rfl), ?_⟩
    obtain ⟨own3, hperm, hk3⟩ := hk2
    have hee : EOk n (eput (eput env d1 v1) d2 v2) ((a.put d2 v2).put d1 v1) := ((ha.eput hd2 v2).eput hd1 v1).weaken (eput_swap hc)
    have hp2 : planOk ops nh st pl ((listed.setIfInBounds q true).setIfInBounds p true) = true := by rw [Array.setIfInBounds_comm _ _ (Ne.symm hne')]; exact hp
    exact h' v1 v2 own3 X2 hk3 _ _ _ hns hnd ht ((inv.set hr2 hjn').set hr4 hin') hp2 hee (hs2.perm hperm) (fun h => ((hst (opn_mono (opn_mono h))).grow (hgr1 rfl)).grow (hgr2 rfl))

/-- The others lean on more. -/
theorem hdAny_mono {S S' : World → Prop} {L : Array Bool → Act → World → Prop} (hSS : ∀ w, S' w → S w) : ∀ (f : Nat) (listed : Array Bool) (a : Act) (w : World), hdAny ro P ops Q st S' nh L f listed a w → hdAny ro P ops Q st S nh L f listed a w
  | 0, _, _, _, h => h
  | f + 1, _, _, _, h => ⟨h.1, fun i hi => ⟨(h.2 i hi).1, wpOpIn_mono (fun a' w' h' => ⟨fun ho => hSS _ (h'.1 ho), hdAny_mono hSS f _ a' w' h'.2⟩) (h.2 i hi).2⟩⟩
theorem SD.up {pl : List Pl} (ho : ∀ p ∈ ownS, p ∈ own) (hX : XS.le X) (h : SD ro P n w0 X0 ops Q nh st own X pl env own X) : SD ro P n w0 X0 ops Q nh st ownS XS pl env own X := by
  intro listed a W hns hnd ht inv hp ha hs _
  exact hdAny_mono (fun w hw => ⟨fun p hp => hw.own p (ho p hp), fun k o hk => hw.pers k o (hX k o hk)⟩) _ _ _ _ (h listed a W hns hnd ht inv hp ha hs fun _ => hs.stab)
def keepS (ownS : Own) (XS : PMap) (own' : Own) (X' : PMap) : Prop := (∀ p ∈ ownS, p ∈ own') ∧ XS.le X'
theorem keepS.stab {ownS own' : Own} {XS X' : PMap} {W : World} (h : keepS ownS XS own' X') (hs : Sat w0 X0 own' X' W) : Stab ownS XS W := ⟨fun p hp => hs.stab.own p (h.1 p hp), fun q o hq => hs.stab.pers q o (h.2 q o hq)⟩
theorem eput_mono {env env' : Env} {d : Option Tmp} {v : Value} (h : ∀ t u, eget env' t = some u → eget env t = some u) : ∀ t u, eget (eput env' d v) t = some u → eget (eput env d v) t = some u := by
  intro t u hu
  cases d with
  | none => exact h t u hu
  | some a =>
    simp only [eput, eget] at hu ⊢
    cases ha : Nat.beq a t <;> simp only [ha, cond_true, cond_false] at hu ⊢
    · exact h t u hu
    · exact hu
/-- i, j, p one after the other; k, of which none of them knows, at any time. -/
theorem SD.fork3 {i j p k : Nat} {pl : List Pl} {di dj dp dk : Option Tmp} {opi opj opp opk : Op} {t1 t2 t3 t4 : TypeId} {p1 p2 p3 p4 : String} {a1 a2 a3 a4 : Array Edge} {K : Value → Value → Value → Own → PMap → Prop} {vp : Value → Value → Value} {gi gj gk : Bool}
    (hi : ops[i]? = some ⟨di, opi, t1, p1, a1, none⟩) (hj : ops[j]? = some ⟨dj, opj, t2, p2, a2, none⟩) (hp : ops[p]? = some ⟨dp, opp, t3, p3, a3, none⟩) (hk : ops[k]? = some ⟨dk, opk, t4, p4, a4, none⟩)
    (hd : (dok n di && dok n dj && dok n dp && dok n dk) = true) (hc : (optNe di dk && optNe dj dk && optNe dp dk) = true)
    (h1 : OpX P n w0 X0 env own X opi gi fun vi own1 X1 => keepS ownS XS own1 X1 ∧
      OpX P n w0 X0 (eput env di vi) own1 X1 opj gj (fun vj own2 X2 => keepS ownS XS own2 X2 ∧ OpY P n (eput (eput env di vi) dj vj) [] (fun _ => none) opp (vp vi vj) ∧ OpX P n w0 X0 (eput (eput env di vi) dj vj) own2 X2 opk gk (fun vk own3 X3 => keepS ownS XS own3 X3 ∧ ∃ own4, own3.Perm own4 ∧ K vi vj vk own4 X3) ∧
        OpX P n w0 X0 (eput (eput (eput env di vi) dj vj) dp (vp vi vj)) own2 X2 opk gk (fun vk own3 X3 => keepS ownS XS own3 X3 ∧ ∃ own4, own3.Perm own4 ∧ K vi vj vk own4 X3)) ∧
      OpX P n w0 X0 (eput env di vi) own1 X1 opk gk (fun vk own2 X2 => keepS ownS XS own2 X2 ∧ OpX P n w0 X0 (eput (eput env di vi) dk vk) own2 X2 opj gj fun vj own3 X3 => keepS ownS XS own3 X3 ∧ ∃ own4, own3.Perm own4 ∧ K vi vj vk own4 X3))
    (h2 : OpX P n w0 X0 env own X opk gk fun vk own1 X1 => keepS ownS XS own1 X1 ∧
      OpX P n w0 X0 (eput env dk vk) own1 X1 opi gi fun vi own2 X2 => keepS ownS XS own2 X2 ∧ OpX P n w0 X0 (eput (eput env dk vk) di vi) own2 X2 opj gj fun vj own3 X3 => keepS ownS XS own3 X3 ∧ ∃ own4, own3.Perm own4 ∧ K vi vj vk own4 X3)
    (hYk : ∀ vi vj vk own' X', K vi vj vk own' X' → OpY P n (eput (eput (eput env di vi) dj vj) dk vk) [] (fun _ => none) opp (vp vi vj))
    (h' : ∀ vi vj vk own' X', K vi vj vk own' X' → SD ro P n w0 X0 ops Q nh st ownS XS pl (eput (eput (eput (eput env di vi) dj vj) dp (vp vi vj)) dk vk) own' X') : SD ro P n w0 X0 ops Q nh st ownS XS (.g i j p k :: pl) env own X := by
  intro listed a W hns hnd ht inv hpl ha hs hst
  simp only [planOk, Bool.and_eq_true, decide_eq_true_eq, Bool.not_eq_true'] at hpl hd hc
  obtain ⟨⟨⟨⟨⟨⟨⟨⟨hin, hjn⟩, hpn⟩, hkn⟩, ⟨hik, hjk⟩, hpk⟩, hst0⟩, ⟨⟨r0, ri⟩, rij⟩, rijp⟩, ⟨rk, rik⟩, rijk⟩, hpl⟩ := hpl
  obtain ⟨⟨⟨hdi, hdj⟩, hdp⟩, hdk⟩ := hd
  obtain ⟨⟨cki, ckj⟩, ckp⟩ := hc
  have hin' : i < nh := Nat.le_of_ble_eq_true hin
  have hjn' : j < nh := Nat.le_of_ble_eq_true hjn
  have hpn' : p < nh := Nat.le_of_ble_eq_true hpn
  have hkn' : k < nh := Nat.le_of_ble_eq_true hkn
  have nik : i ≠ k := fun e => by rw [e, Nat.beq_refl] at hik; cases hik
  have njk : j ≠ k := fun e => by rw [e, Nat.beq_refl] at hjk; cases hjk
  have npk : p ≠ k := fun e => by rw [e, Nat.beq_refl] at hpk; cases hpk
  have m0i : i ∈ Region.ready .any ops listed := by rw [r0]; simp
  have m0k : k ∈ Region.ready .any ops listed := by rw [r0]; simp
  have mij : j ∈ Region.ready .any ops (listed.setIfInBounds i true) := by rw [ri]; simp
  have mijp : p ∈ Region.ready .any ops ((listed.setIfInBounds i true).setIfInBounds j true) := by rw [rij]; simp
  have mijpk : k ∈ Region.ready .any ops (((listed.setIfInBounds i true).setIfInBounds j true).setIfInBounds p true) := by rw [rijp]; simp
  have run : ∀ {q : Nat} {d : Option Tmp} {op : Op} {t : TypeId} {ps : String} {af : Array Edge} {env : Env} {own : Own} {X : PMap} {g : Bool} {kk : Value → Own → PMap → Prop} {a : Act} {W : World} {R : Act → World → Prop}, ops[q]? = some ⟨d, op, t, ps, af, none⟩ → OpX P n w0 X0 env own X op g kk → EOk n env a → Sat w0 X0 own X W →
      (∀ v own' X' W', kk v own' X' → Sat w0 X0 own' X' W' → R (a.put d v) W') → wpOpIn (FR ro) DEP P ops Q q R a W := by
    intro q d op t ps af env own X g kk a W R hq hX ha hs hR
    unfold wpOpIn
    simp only [hq]
    rw [if_pos (gwant_spec ha rfl)]
    exact hX a W _ _ _ _ rfl ha hs fun v own' X' W' hk' hs' _ => hR v own' X' W' hk' hs'
  have runY : ∀ {env : Env} {a : Act} {W : World} {R : Act → World → Prop} {v : Value}, EOk n env a → OpY P n env [] (fun _ => none) opp v → R (a.put dp v) W → wpOpIn (FR ro) DEP P ops Q p R a W := by
    intro env a W R v ha hY hR
    unfold wpOpIn
    simp only [hp]
    rw [if_pos (gwant_spec ha rfl)]
    exact wp_value (noDefers_spec hnd _ _ hp) (hY a W _ rfl ha ⟨fun _ h => (by cases h), fun _ _ h => (by cases h)⟩) hR
  have fin : ∀ {a : Act} {W : World} {vi vj vk : Value} {own3 : Own} {X3 : PMap} {l : Array Bool}, l = (((listed.setIfInBounds i true).setIfInBounds j true).setIfInBounds p true).setIfInBounds k true → (∃ own4, own3.Perm own4 ∧ K vi vj vk own4 X3) → keepS ownS XS own3 X3 → EOk n (eput (eput (eput (eput env di vi) dj vj) dp (vp vi vj)) dk vk) a → Sat w0 X0 own3 X3 W →
      hdAny ro P ops Q st (Stab ownS XS) nh (tailL ro P ops Q nh) (plen pl) l a W := by
    intro a W vi vj vk own3 X3 l hl ⟨own4, hpm, hK⟩ hkp ha hs
    subst hl
    exact h' vi vj vk own4 X3 hK _ _ _ hns hnd ht ((((inv.set m0i hin').set mij hjn').set mijp hpn').set mijpk hkn') hpl ha (hs.perm hpm) (fun _ => hkp.stab hs)
  have c1 : ∀ l : Array Bool, (l.setIfInBounds k true).setIfInBounds i true = (l.setIfInBounds i true).setIfInBounds k true := fun l => Array.setIfInBounds_comm _ _ nik.symm
  have c2 : ∀ l : Array Bool, (l.setIfInBounds k true).setIfInBounds j true = (l.setIfInBounds j true).setIfInBounds k true := fun l => Array.setIfInBounds_comm _ _ njk.symm
  have c3 : ∀ l : Array Bool, (l.setIfInBounds k true).setIfInBounds p true = (l.setIfInBounds p true).setIfInBounds k true := fun l => Array.setIfInBounds_comm _ _ npk.symm
  have lastP : ∀ {a : Act} {W : World} {vi vj vk : Value} {own3 : Own} {X3 : PMap}, (∃ own4, own3.Perm own4 ∧ K vi vj vk own4 X3) → keepS ownS XS own3 X3 → EOk n (eput (eput (eput env di vi) dj vj) dk vk) a → Sat w0 X0 own3 X3 W →
      hdAny ro P ops Q st (Stab ownS XS) nh (tailL ro P ops Q nh) (plen pl + 1) (((listed.setIfInBounds i true).setIfInBounds j true).setIfInBounds k true) a W := by
    intro a W vi vj vk own3 X3 hF kp3 ha3 hs3
    refine ⟨by rw [rijk]; simp, fun q hq => ?_⟩
    rw [rijk] at hq
    have hqp : q = p := by simpa using hq
    rw [hqp]
    refine ⟨hpn', runY ha3 (let ⟨_, _, hK⟩ := hF; hYk vi vj vk _ _ hK) ⟨fun _ => kp3.stab hs3, fin (c3 _) hF kp3 ?_ hs3⟩⟩
    exact (ha3.eput hdp (vp vi vj)).weaken (eput_swap ckp)
  refine ⟨by rw [r0]; simp, fun q hq => ?_⟩
  rw [r0] at hq
  have hq' : q = i ∨ q = k := by simpa using hq
  rcases hq' with hqi | hqk
  · rw [hqi]
    refine ⟨hin', run hi h1 ha hs fun vi own1 X1 W1 ⟨kp1, hA, hB⟩ hs1 => ⟨fun _ => kp1.stab hs1, ?_⟩⟩
    refine ⟨by rw [ri]; simp, fun q hq => ?_⟩
    rw [ri] at hq
    have ha1 := ha.eput hdi vi
    have hq' : q = j ∨ q = k := by simpa using hq
    rcases hq' with hqj | hqk
    · rw [hqj]
      refine ⟨hjn', run hj hA ha1 hs1 fun vj own2 X2 W2 ⟨kp2, hY, hC, hC'⟩ hs2 => ⟨fun _ => kp2.stab hs2, ?_⟩⟩
      refine ⟨by rw [rij]; simp, fun q hq => ?_⟩
      rw [rij] at hq
      have ha2 := ha1.eput hdj vj
      have hq' : q = p ∨ q = k := by simpa using hq
      rcases hq' with hqp | hqk
      · rw [hqp]
        refine ⟨hpn', runY ha2 hY ⟨fun _ => kp2.stab hs2, ?_⟩⟩
        refine ⟨by rw [rijp]; simp, fun q hq => ?_⟩
        rw [rijp] at hq
        have hqk : q = k := by simpa using hq
        rw [hqk]
        have ha3 := ha2.eput hdp (vp vi vj)
        exact ⟨hkn', run hk hC' ha3 hs2 fun vk own3 X3 W3 ⟨kp3, hF⟩ hs3 => ⟨fun _ => kp3.stab hs3, fin rfl hF kp3 (ha3.eput hdk vk) hs3⟩⟩
      · rw [hqk]
        exact ⟨hkn', run hk hC ha2 hs2 fun vk own3 X3 W3 ⟨kp3, hF⟩ hs3 => ⟨fun _ => kp3.stab hs3, lastP hF kp3 (ha2.eput hdk vk) hs3⟩⟩
    · rw [hqk]
      refine ⟨hkn', run hk hB ha1 hs1 fun vk own2 X2 W2 ⟨kp2, hC⟩ hs2 => ⟨fun _ => kp2.stab hs2, ?_⟩⟩
      refine ⟨by rw [rik]; simp, fun q hq => ?_⟩
      rw [rik] at hq
      have hqj : q = j := by simpa using hq
      rw [hqj]
      have ha2 := ha1.eput hdk vk
      refine ⟨hjn', run hj hC ha2 hs2 fun vj own3 X3 W3 ⟨kp3, hF⟩ hs3 => ⟨fun _ => kp3.stab hs3, ?_⟩⟩
      rw [c2]
      exact lastP hF kp3 ((ha2.eput hdj vj).weaken (eput_swap ckj)) hs3
  · rw [hqk]
    refine ⟨hkn', run hk h2 ha hs fun vk own1 X1 W1 ⟨kp1, hA⟩ hs1 => ⟨fun _ => kp1.stab hs1, ?_⟩⟩
    refine ⟨by rw [rk]; simp, fun q hq => ?_⟩
    rw [rk] at hq
    have hqi : q = i := by simpa using hq
    rw [hqi]
    have ha1 := ha.eput hdk vk
    refine ⟨hin', run hi hA ha1 hs1 fun vi own2 X2 W2 ⟨kp2, hC⟩ hs2 => ⟨fun _ => kp2.stab hs2, ?_⟩⟩
    rw [c1]
    refine ⟨by rw [rik]; simp, fun q hq => ?_⟩
    rw [rik] at hq
    have hqj : q = j := by simpa using hq
    rw [hqj]
    have ha2 := (ha1.eput hdi vi).weaken (eput_swap cki)
    refine ⟨hjn', run hj hC (ha1.eput hdi vi) hs2 fun vj own3 X3 W3 ⟨kp3, hF⟩ hs3 => ⟨fun _ => kp3.stab hs3, ?_⟩⟩
    rw [c2]
    refine lastP hF kp3 ?_ hs3
    have h3 := ((ha1.eput hdi vi).eput hdj vj).weaken (eput_mono (d := dj) (v := vj) (eput_swap (v1 := vi) (v2 := vk) (env := env) cki))
    exact h3.weaken (eput_swap ckj)

theorem wpAnyIn_of_seq : ∀ (l : List Oper) (k : Nat) (listed : Array Bool) (a : Act) (w : World), (∀ j, l[j]? = ops[k + j]?) →
    Region.seqB .any ops l.length k listed = true → wpListIn (FR ro) DEP P ops Q l a w → wpAnyIn (FR ro) DEP P .any ops Q l.length listed a w
  | [], _, _, _, _, _, hB, h => ⟨by simpa [Region.seqB] using hB, h⟩
  | o :: l, k, listed, a, w, hl, hB, h => by
    have h0 : ops[k]? = some o := by simpa using (hl 0).symm
    simp only [List.length_cons, Region.seqB, Bool.and_eq_true, decide_eq_true_eq] at hB
    refine ⟨fun h1 => (by rw [hB.1] at h1; cases h1), fun i hi => ?_⟩
    rw [hB.1] at hi
    have hik : i = k := by simpa using hi
    subst hik
    have hw : wpOpIn (FR ro) DEP P ops Q i (wpListIn (FR ro) DEP P ops Q l) a w := by unfold wpOpIn; simp only [h0]; exact h
    exact wpOpIn_mono (fun a' w' h' => wpAnyIn_of_seq l (i + 1) _ a' w' (fun j => by have := hl (j + 1); simpa [Nat.add_assoc, Nat.add_comm 1 j] using this) hB.2 h') hw

/-- THE BEGINNING. -/
theorem SD.start {id : Nat} {a : Act} {W : World} (hm : P.follows .mixedOrders = true) (pl : List Pl) (hok : drawOk ops nh st pl = true) (ha : EOk n env a) (hs : Sat w0 X0 own X W)
    (hS : ∀ p ∈ ownS, p ∈ own) (h : SD ro P n w0 X0 ops Q nh st ownS X pl env own X) : (Code.region id ops true).wpIn (FR ro) DEP P Q a W := by
  simp only [drawOk, Bool.and_eq_true, decide_eq_true_eq] at hok
  obtain ⟨⟨⟨⟨hnd, hns⟩, htb⟩, hlen⟩, hp⟩ := hok
  refine wpIn_region_any hm ?_
  have hs' := hs.draw (W.drawn + 1)
  have inv : HeadInv .any ops nh (Array.replicate ops.size false) := ⟨by simp, (fun j oj _ hl => by rw [getD_replicate_false] at hl; cases hl), (fun t _ ht => by simp [ht])⟩
  have h1 := h (Array.replicate ops.size false) a _ hns hnd (tailWaits_of htb) inv hp ha hs' (fun _ => ⟨fun p hp => hs'.stab.own p (hS p hp), hs'.stab.pers⟩)
  have hsz : ops.size - nh = (ops.toList.drop nh).length := by simp
  have h2 := wpAny_of_hd (g := ops.size - nh) (fun listed a w (hL : tailL ro P ops Q nh listed a w) => by
    have := wpAnyIn_of_seq (P := P) (ops := ops) (Q := Q) (ro := ro) (ops.toList.drop nh) nh listed a w (fun j => by simp) (by rw [← hsz]; exact hL.1) hL.2
    rw [hsz]; exact this) _ _ _ _ h1
  rw [hlen] at h2
  exact h2
end
end Go.Proofs.YtnpcilglilfajaaGreatDoor
namespace Go.Proofs.YtnpcilglilfajaaGreatDoor
open Go.RowKit
inductive It where
  | code (c : Code)
  | blk (id : Nat)
  | cut (K : Act → World → Prop)
  | more (c : Code) (n : Nat)

section
variable {ro : Option Nat} {P : Program} {Q : Exit → Act → World → Prop}
/-- What is left to do leads to Q. some id: a block with that number is being left. -/
def runL (ro : Option Nat) (P : Program) (Q : Exit → Act → World → Prop) : List It → Option Nat → Act → World → Prop
  | [], none => Q .normal
  | [], some id => Q (.exit id)
  | .cut K :: _, none => K
  | .cut _ :: k, some id => runL ro P Q k (some id)
  | .blk _ :: k, none => runL ro P Q k none
  | .blk i :: k, some id => bif Nat.beq id i then runL ro P Q k none else runL ro P Q k (some id)
  | .code _ :: k, some id => runL ro P Q k (some id)
  | .more _ _ :: k, some id => runL ro P Q k (some id)
  | .more c n :: k, none => Code.roundsIn (FR ro) DEP P c (fun e => match e with
      | .normal => runL ro P Q k none
      | .exit id => runL ro P Q k (some id)
      | e => Q e) n
  | .code c :: k, none => fun a w => c.wpIn (FR ro) DEP P (fun e => match e with
      | .normal => runL ro P Q k none
      | .exit id => runL ro P Q k (some id)
      | e => Q e) a w

/-- The exits of what is left. -/
def contQ (ro : Option Nat) (P : Program) (Q : Exit → Act → World → Prop) (k : List It) : Exit → Act → World → Prop
  | .normal => runL ro P Q k none
  | .exit id => runL ro P Q k (some id)
  | e => Q e
theorem runL_code {c : Code} {k : List It} {a : Act} {w : World} (h : c.wpIn (FR ro) DEP P (contQ ro P Q k) a w) : runL ro P Q (.code c :: k) none a w := by
  unfold runL
  exact Code.wpIn_mono (fun e a w h => by cases e <;> exact h) h
theorem runL_code_iff {c : Code} {k : List It} {a : Act} {w : World} : runL ro P Q (.code c :: k) none a w ↔ c.wpIn (FR ro) DEP P (contQ ro P Q k) a w :=
  ⟨fun h => by unfold runL at h; exact Code.wpIn_mono (fun e a w h => by cases e <;> exact h) h, runL_code⟩

theorem runL_seq {x y : Code} {k : List It} {a : Act} {w : World} (h : runL ro P Q (.code x :: .code y :: k) none a w) : runL ro P Q (.code (.seq x y) :: k) none a w := by
  refine runL_code (wpIn_seq ?_)
  refine Code.wpIn_mono (fun e a w h => ?_) (runL_code_iff.1 h)
  cases e with
  | normal => exact runL_code_iff.1 h
  | exit id => exact h
  | _ => exact h
theorem runL_skip {k : List It} {a : Act} {w : World} (h : runL ro P Q k none a w) : runL ro P Q (.code .skip :: k) none a w := runL_code (wpIn_skip h)
theorem runL_block {id : Nat} {c : Code} {k : List It} {a : Act} {w : World} (h : runL ro P Q (.code c :: .blk id :: k) none a w) : runL ro P Q (.code (.block id c) :: k) none a w := by
  refine runL_code (wpIn_block ?_)
  refine Code.wpIn_mono (fun e a w h => ?_) (runL_code_iff.1 h)
  cases e with
  | exit id' =>
    simp only [contQ, runL] at h
    simp only [Exit.inBlock]
    by_cases e : id' = id
    · subst e; rw [if_pos rfl]; simpa [contQ] using h
    · have : Nat.beq id' id = false := by
        cases hb : Nat.beq id' id with
        | false => rfl
        | true => exact absurd (Nat.eq_of_beq_eq_true hb) e
      rw [if_neg e]; simpa [this, contQ] using h
  | normal => exact h
  | _ => exact h
theorem runL_exit {id : Nat} {k : List It} {a : Act} {w : World} (h : runL ro P Q k (some id) a w) : runL ro P Q (.code (.exit id) :: k) none a w := runL_code (wpIn_exit h)
theorem runL_ret {k : List It} {a : Act} {w : World} (h : Q .ret a w) : runL ro P Q (.code .ret :: k) none a w := runL_code (wpIn_ret h)
theorem runL_cond {c : Operand} {x y : Code} {k : List It} {a : Act} {w : World} {b : Bool} (hc : a.eval c = .bool b) (h : runL ro P Q (.code (bif b then x else y) :: k) none a w) : runL ro P Q (.code (.cond c x y) :: k) none a w := by
  refine runL_code (wpIn_cond hc ?_)
  have := runL_code_iff.1 h
  cases b <;> exact this

/-- A loop, by a ghost number that every round lowers. -/
theorem loop_ghost {c : Code} (I : Nat → Act → World → Prop) (round : ∀ m a w, I m a w → c.wpIn (FR ro) DEP P (Exit.then (fun a' w' => ∃ m', m' < m ∧ I m' a' w') Q) a w) :
    ∀ m a w, I m a w → (Code.loop c).wpIn (FR ro) DEP P Q a w := by
  have key : ∀ m a w, I m a w → ∀ k, m < k → Code.roundsIn (FR ro) DEP P c Q k a w := by
    intro m
    induction m using Nat.strongRecOn with
    | _ m ih =>
      intro a w h k hk
      obtain ⟨k', rfl⟩ : ∃ k', k = k' + 1 := ⟨k - 1, by omega⟩
      rw [roundsIn_succ]
      refine Code.wpIn_mono (fun e a' w' h' => ?_) (round m a w h)
      cases e with
      | normal => obtain ⟨m', hlt, hI⟩ := h'; exact ih m' hlt a' w' hI k' (by omega)
      | _ => exact h'
  intro m a w h
  exact wpIn_loop_rounds (m + 1) (key m a w h _ (Nat.lt_succ_self m))
end
section
variable {ro : Option Nat} {P : Program} {n : NM} {w0 : Base} {X0 X : PMap} {own : Own} {env : Env} {Q : Exit → Act → World → Prop}
def T (ro : Option Nat) (P : Program) (n : NM) (w0 : Base) (X0 : PMap) (Q : Exit → Act → World → Prop) (todo : List It) (e : Option Nat) (env : Env) (own : Own) (X : PMap) : Prop :=
  ∀ a W, EOk n env a → Sat w0 X0 own X W → runL ro P Q todo e a W

theorem T.seq {x y : Code} {k : List It} (h : T ro P n w0 X0 Q (.code x :: .code y :: k) none env own X) : T ro P n w0 X0 Q (.code (.seq x y) :: k) none env own X := fun a W ha hs => runL_seq (h a W ha hs)
theorem T.skip {k : List It} (h : T ro P n w0 X0 Q k none env own X) : T ro P n w0 X0 Q (.code .skip :: k) none env own X := fun a W ha hs => runL_skip (h a W ha hs)
theorem T.block {id : Nat} {c : Code} {k : List It} (h : T ro P n w0 X0 Q (.code c :: .blk id :: k) none env own X) : T ro P n w0 X0 Q (.code (.block id c) :: k) none env own X := fun a W ha hs => runL_block (h a W ha hs)
theorem T.blk {id : Nat} {k : List It} (h : T ro P n w0 X0 Q k none env own X) : T ro P n w0 X0 Q (.blk id :: k) none env own X := h
theorem T.exit {id : Nat} {k : List It} (h : T ro P n w0 X0 Q k (some id) env own X) : T ro P n w0 X0 Q (.code (.exit id) :: k) none env own X := fun a W ha hs => runL_exit (h a W ha hs)
theorem T.exitCode {id : Nat} {c : Code} {k : List It} (h : T ro P n w0 X0 Q k (some id) env own X) : T ro P n w0 X0 Q (.code c :: k) (some id) env own X := h
theorem T.exitCut {id : Nat} {K : Act → World → Prop} {k : List It} (h : T ro P n w0 X0 Q k (some id) env own X) : T ro P n w0 X0 Q (.cut K :: k) (some id) env own X := h
theorem T.exitBlk {id : Nat} {k : List It} (h : T ro P n w0 X0 Q k none env own X) : T ro P n w0 X0 Q (.blk id :: k) (some id) env own X := fun a W ha hs => by
  have : Nat.beq id id = true := Nat.beq_refl id
  simpa [runL, this] using h a W ha hs
theorem T.cond {c : Operand} {x y : Code} {k : List It} {b : Bool} (hc : eev env c = some (.bool b)) (h : T ro P n w0 X0 Q (.code (bif b then x else y) :: k) none env own X) : T ro P n w0 X0 Q (.code (.cond c x y) :: k) none env own X :=
  fun a W ha hs => runL_cond (ha.eval hc) (h a W ha hs)
theorem T.condT {c : Operand} {x y : Code} {k : List It} (hc : eev env c = some (.bool true)) (h : T ro P n w0 X0 Q (.code x :: k) none env own X) : T ro P n w0 X0 Q (.code (.cond c x y) :: k) none env own X := T.cond hc h
theorem T.condF {c : Operand} {x y : Code} {k : List It} (hc : eev env c = some (.bool false)) (h : T ro P n w0 X0 Q (.code y :: k) none env own X) : T ro P n w0 X0 Q (.code (.cond c x y) :: k) none env own X := T.cond hc h
theorem T.region {id : Nat} {ops : List Oper} {k : List It} (h : SL ro P n w0 X0 ops.toArray (contQ ro P Q k) ops env own X) : T ro P n w0 X0 Q (.code (.region id ops.toArray false) :: k) none env own X :=
  fun a W ha hs => runL_code (wpIn_region_lit (h a W ha hs))
theorem T.draw {id : Nat} {ops : Array Oper} {k : List It} (hm : P.follows .mixedOrders = true) (nh : Nat) (pl : List Pl) (hok : drawOk ops nh none pl = true)
    (h : SD ro P n w0 X0 ops (contQ ro P Q k) nh none own X pl env own X) : T ro P n w0 X0 Q (.code (.region id ops true) :: k) none env own X :=
  fun _ _ ha hs => runL_code (SD.start hm pl hok ha hs (fun _ h => h) h)
theorem T.drawS {id : Nat} {ops : Array Oper} {k : List It} (s : Nat) (hm : P.follows .mixedOrders = true) (nh : Nat) (pl : List Pl) (hok : drawOk ops nh (some s) pl = true)
    (h : SD ro P n w0 X0 ops (contQ ro P Q k) nh (some s) own X pl env own X) : T ro P n w0 X0 Q (.code (.region id ops true) :: k) none env own X :=
  fun _ _ ha hs => runL_code (SD.start hm pl hok ha hs (fun _ h => h) h)
theorem T.drawG {id : Nat} {ops : Array Oper} {k : List It} {own0 G : Own} (hm : P.follows .mixedOrders = true) (nh : Nat) (pl : List Pl) (hok : drawOk ops nh none pl = true)
    (h : SD ro P n w0 X0 ops (contQ ro P Q k) nh none own0 X pl env (own0 ++ G) X) : T ro P n w0 X0 Q (.code (.region id ops true) :: k) none env (own0 ++ G) X :=
  fun _ _ ha hs => runL_code (SD.start hm pl hok ha hs (fun _ h => List.mem_append_left _ h) h)
/-- The end of a region: on with the rest. -/
theorem SL.nil {ops : Array Oper} {k : List It} (h : T ro P n w0 X0 Q k none env own X) : SL ro P n w0 X0 ops (contQ ro P Q k) [] env own X := h
theorem T.weaken {k : List It} {e : Option Nat} {env' : Env} (hw : ∀ t v, eget env' t = some v → eget env t = some v) (h : T ro P n w0 X0 Q k e env' own X) : T ro P n w0 X0 Q k e env own X := fun a W ha hs => h a W (ha.weaken hw) hs

theorem T.exitMore {id m : Nat} {c : Code} {k : List It} (h : T ro P n w0 X0 Q k (some id) env own X) : T ro P n w0 X0 Q (.more c m :: k) (some id) env own X := h
/-- A loop of at most m rounds, round by round. -/
theorem T.unrollStart {c : Code} {k : List It} (m : Nat) (h : T ro P n w0 X0 Q (.more c m :: k) none env own X) : T ro P n w0 X0 Q (.code (.loop c) :: k) none env own X := fun a W ha hs => by
  refine runL_code (wpIn_loop_rounds m ?_)
  have := h a W ha hs
  unfold runL at this
  have e : (fun e => match e with
      | .normal => runL ro P Q k none
      | .exit id => runL ro P Q k (some id)
      | e => Q e) = contQ ro P Q k := by funext e; cases e <;> rfl
  rwa [e] at this
theorem T.unroll {c : Code} {k : List It} {m : Nat} (h : T ro P n w0 X0 Q (.code c :: .more c m :: k) none env own X) : T ro P n w0 X0 Q (.more c (m + 1) :: k) none env own X := fun a W ha hs => by
  have := runL_code_iff.1 (h a W ha hs)
  unfold runL
  rw [roundsIn_succ]
  refine Code.wpIn_mono (fun e a w h => ?_) this
  cases e with
  | normal => simp only [contQ, runL] at h; exact h
  | exit id => exact h
  | _ => exact h
/-- A family of states: where a loop's rounds begin. -/
def Fam := Nat → Env → Own → PMap → Prop
def Fam.at (n : NM) (w0 : Base) (X0 : PMap) (I : Fam) (m : Nat) (a : Act) (W : World) : Prop := ∃ env own X, I m env own X ∧ EOk n env a ∧ Sat w0 X0 own X W
/-- Where the walk comes back to the head of a loop. -/
def backTo (n : NM) (w0 : Base) (X0 : PMap) (I : Fam) (m : Nat) : It := .cut fun a W => ∃ m', m' < m ∧ Fam.at n w0 X0 I m' a W
theorem T.loop {c : Code} {k : List It} (I : Fam) (m : Nat) (h0 : I m env own X)
    (round : ∀ m env own X, I m env own X → T ro P n w0 X0 Q (.code c :: backTo n w0 X0 I m :: k) none env own X) : T ro P n w0 X0 Q (.code (.loop c) :: k) none env own X := by
  intro a W ha hs
  refine runL_code (loop_ghost (Fam.at n w0 X0 I) ?_ m a W ⟨env, own, X, h0, ha, hs⟩)
  rintro m a W ⟨env, own, X, hI, ha, hs⟩
  refine Code.wpIn_mono (fun e a w h => ?_) (runL_code_iff.1 (round m env own X hI a W ha hs))
  cases e with
  | normal => exact h
  | exit id => exact h
  | _ => exact h
theorem T.back {I : Fam} {m : Nat} {k : List It} (m' : Nat) (hm : m' < m) {env' : Env} (hI : I m' env' own X) (hw : ∀ t v, eget env' t = some v → eget env t = some v) : T ro P n w0 X0 Q (backTo n w0 X0 I m :: k) none env own X :=
  fun _ _ ha hs => ⟨m', hm, env', own, X, hI, ha.weaken hw, hs⟩
end
/-- What a call leaves: a value of which Φ holds over a map that grew by blocks that are new; nothing that was there has changed. -/
def Fin (w0 : World) (X0 : PMap) (Φ : Value → PMap → Prop) (e : Ending) (w' : World) : Prop :=
  ∃ v X', e = .returned v ∧ Below w0.heap.size w0 w' ∧ PIn X' w' ∧ (∀ k, k < w0.heap.size → X' k = X0 k) ∧ Φ v X'
def Spec (P : Program) (f : FuncId) (args : List Value) (X0 : PMap) (Φ : Value → PMap → Prop) : Prop := ∀ w, PIn X0 w → Calls P f args.toArray w (Fin w X0 Φ)
theorem Spec.mono {P : Program} {f : FuncId} {args : List Value} {X0 : PMap} {Φ Ψ : Value → PMap → Prop} (h : Spec P f args X0 Φ) (hm : ∀ v X, X0.le X → Φ v X → Ψ v X) : Spec P f args X0 Ψ := fun w hw =>
  (h w hw).mono fun _ _ ⟨v, X', he, hb, hp, hk, hΦ⟩ => ⟨v, X', he, hb, hp, hk, hm v X' (fun k _ hx => (hk k (hw.lt hx)).trans hx) hΦ⟩

/-- What a body must achieve: it comes back; the marks are taken. -/
def bodyQ (P : Program) (fn : Func) (R : Ending → World → Prop) : Exit → Act → World → Prop
  | .normal, a, w | .ret, a, w => LeavesInM (FR none) DEP P fn a.tmps R a.defers .returning w
  | _, _, _ => False
theorem bodyQ_post {P : Program} {fn : Func} {R : Ending → World → Prop} : ∀ e a w, bodyQ P fn R e a w → bodyPostM (FR none) DEP P fn R e a w := by
  intro e a w h
  cases e <;> first | exact h | exact h.elim
def markOf (D : Nat) : Deferred := { target := .collected D, args := #[] }
def MarkObj : Obj := .deferred (some [])
def takes : List Nat → World → World
  | [], W => W
  | D :: Ds, W => takes Ds (W.putObj D (.deferred none))
theorem leaves_marks {P : Program} {fn : Func} {tmps : Array Value} {R : Ending → World → Prop} : ∀ (Ds : List Nat) (W : World), Ds.Nodup → (∀ D ∈ Ds, W.heap[D]? = some MarkObj) → (∃ v, (results fn tmps).run P (takes Ds W) = .ok v (takes Ds W) ∧ R (.returned v) (takes Ds W)) →
    LeavesInM (FR none) DEP P fn tmps R (Ds.map markOf) .returning W
  | [], W, _, _, h => h
  | D :: Ds, W, hn, hD, h => by
    have hn' := List.nodup_cons.1 hn
    refine ⟨by simp, .inl ⟨D, W.putObj D (.deferred none), rfl, run_takeDeferred (hD D (by simp)), leaves_marks Ds _ hn'.2 (fun E hE => ?_) h⟩⟩
    have hne : D ≠ E := fun e => hn'.1 (e ▸ hE)
    exact (World.putObj_heap_other (Ne.symm hne)).trans (hD E (by simp [hE]))
theorem takes_far : ∀ (Ds : List Nat) (W : World) (k : Nat), k ∉ Ds → (takes Ds W).heap[k]? = W.heap[k]?
  | [], _, _, _ => rfl
  | D :: Ds, W, k, h => by
    simp only [List.mem_cons, not_or] at h
    rw [takes, takes_far Ds _ k h.2]
    exact World.putObj_heap_other h.1
theorem takes_below {B : Nat} : ∀ (Ds : List Nat) (A W : World), Below B A W → B ≤ W.heap.size → (∀ D ∈ Ds, B ≤ D) → Below B A (takes Ds W)
  | [], _, _, h, _, _ => h
  | D :: Ds, A, W, h, hB, hD => takes_below Ds A _ (h.grown (grownBy_putObj' W D _) hB (fun k e => by cases e; exact hD D (by simp))) (by simpa [World.putObj] using hB) fun E hE => hD E (by simp [hE])
/-- The marks that wait are those of the blocks that are held fast. -/
def Marks (n : NM) (w0 : Base) : Prop := ∃ Ds : List Nat, n.marks = Ds.map markOf ∧ w0.res = Ds.map (fun D => (D, MarkObj)) ∧ Ds.Nodup

def argEnv : Nat → List Value → Env
  | _, [] => []
  | i, v :: vs => (i, v) :: argEnv (i + 1) vs
theorem eget_argEnv : ∀ (vs : List Value) (i t : Nat) (v : Value), eget (argEnv i vs) t = some v → i ≤ t ∧ vs[t - i]? = some v
  | [], _, _, _, h => by simp [argEnv, eget] at h
  | u :: vs, i, t, v, h => by
    simp only [argEnv, eget] at h
    cases hb : Nat.beq i t with
    | true =>
      have : i = t := Nat.eq_of_beq_eq_true hb
      subst this
      rw [hb] at h
      simpa using h
    | false =>
      rw [hb] at h
      have hne : i ≠ t := Nat.ne_of_beq_eq_false hb
      obtain ⟨h1, h2⟩ := eget_argEnv vs (i + 1) t v h
      refine ⟨by omega, ?_⟩
      rw [show t - i = (t - (i + 1)) + 1 by omega]
      simpa using h2

/-- THE BEGINNING OF A FUNCTION. -/
theorem Calls.enter {P : Program} {f : FuncId} {fn : Func} {c : Code} {args : List Value} {X0 : PMap} {R : Ending → World → Prop} {w : World} (hf : P.funcs[f]? = some fn) (hb : fn.body = some c) {n : Nat} (hn : fn.ntmps = n) (hl : Nat.ble args.length n = true) (hw : PIn X0 w)
    (h : T none P ⟨n, []⟩ ⟨w, []⟩ X0 (bodyQ P fn R) [.code c] none (argEnv 0 args) [] X0) : Calls P f args.toArray w R := by
  have hl' : args.length ≤ n := Nat.le_of_ble_eq_true hl
  refine (fr_calls (ro := none) (m := DEP)).1 (callsIn_of_wp_marks (F := FR none) hf hb trivial ?_)
  have := h { tmps := args.toArray ++ Array.replicate (fn.ntmps - args.toArray.size) undef, defers := [] } w ⟨rfl, by simp; omega, fun t v ht => ?_⟩ (Sat.start w hw)
  · refine Code.wpIn_mono (fun e a w h => bodyQ_post _ _ _ ?_) (runL_code_iff.1 this)
    cases e <;> exact h
  · obtain ⟨_, h2⟩ := eget_argEnv _ _ _ _ ht
    simp only [Nat.sub_zero] at h2
    have hlt : t < args.length := by
      rcases Nat.lt_or_ge t args.length with h1 | h1
      · exact h1
      · rw [List.getElem?_eq_none h1] at h2; cases h2
    rw [List.getElem?_eq_getElem hlt] at h2
    simp only [Option.some.injEq] at h2
    subst h2
    have : t < args.length + (n - args.length) := by omega
    simp [Array.getD, hn, this, hlt]
theorem Spec.enter {P : Program} {f : FuncId} {fn : Func} {c : Code} {args : List Value} {X0 : PMap} {Φ : Value → PMap → Prop} (hf : P.funcs[f]? = some fn) (hb : fn.body = some c) {n : Nat} (hn : fn.ntmps = n) (hl : Nat.ble args.length n = true)
    (h : ∀ w, PIn X0 w → T none P ⟨n, []⟩ ⟨w, []⟩ X0 (bodyQ P fn (Fin w X0 Φ)) [.code c] none (argEnv 0 args) [] X0) : Spec P f args X0 Φ := fun w hw => Calls.enter hf hb hn hl hw (h w hw)

section
variable {ro : Option Nat} {P : Program} {n : NM} {w0 : Base} {X0 X : PMap} {own : Own} {env : Env} {fn : Func} {Φ : Value → PMap → Prop}
theorem panicBody {R : Ending → World → Prop} {k : List It} {d : Option Tmp} {v : Value} : ∀ c a w, contQ ro P (bodyQ P fn R) k (.panic c) (a.put d v) w → contQ ro P (bodyQ P fn R) k (.panic c) a w := by
  intro c a w h
  cases d <;> exact h

/-- A cell, or a row of cells, of a block. -/
def cread (row : Bool) (size : Nat) (cs : List Value) (i : Nat) : Option Value :=
  bif row then (bif Nat.ble (i + size) cs.length then some (.agg ((cs.drop i).take size).toArray) else none) else cs[i]?
/-- What is known of a type. -/
structure Ty (P : Program) (t : TypeId) (row : Bool) (size : Nat) : Prop where
  und : ∃ d, P.underlying t = some d ∧ d.isRow = row
  info : (P.info? t).map (·.size) = some size
theorem isAgg_row {t : TypeId} {d : TypeDesc} (h : P.underlying t = some d) (w : World) : (isAgg t).run P w = .ok d.isRow w := by
  unfold isAgg
  rw [Sem.run_bind, run_underlying h w]
  cases d <;> rfl
theorem run_loadVar_cells {t : TypeId} {row : Bool} {size : Nat} (ht : Ty P t row size) {b i : Nat} {cs : List Value} {v : Value} {W : World} (hc : ∀ j u, cs[j]? = some u → W.cell? ⟨b, j, none⟩ = some u) (hv : cread row size cs i = some v) :
    (loadVar t ⟨b, i, none⟩).run P W = .ok v W := by
  obtain ⟨d, hd, hrow⟩ := ht.und
  cases row with
  | true =>
    simp only [cread, cond_true] at hv
    cases hb : Nat.ble (i + size) cs.length with
    | false => rw [hb] at hv; cases hv
    | true =>
      rw [hb] at hv
      have hle : i + size ≤ cs.length := Nat.le_of_ble_eq_true hb
      have hv' : v = .agg ((cs.drop i).take size).toArray := by simpa using hv.symm
      subst hv'
      refine run_loadVar_mid W b i t ((cs.drop i).take size) d (fun j u hu => ?_) hd hrow (by rw [ht.info]; simp; omega)
      rw [List.getElem?_take] at hu
      split at hu
      · rw [List.getElem?_drop] at hu; exact hc _ _ hu
      · cases hu
  | false =>
    have hv' : cs[i]? = some v := by simpa [cread] using hv
    have hcell := hc i v hv'
    simp [loadVar, Sem.run_bind, isAgg_row hd W, hrow, load, Sem.run, hcell, Result.andThen]

/-- The value of a result variable. -/
inductive ResIs (P : Program) (env : Env) (own : Own) : ResultVar → Value → Prop
  | tmp {t : Tmp} {v : Value} : eget env t = some v → ResIs P env own (.tmp t) v
  | cell {p : Tmp} {t : TypeId} {row : Bool} {size b i j sz : Nat} {cs : List Value} {ty : TypeId} {v : Value} : eget env p = some (.pointer (some ⟨b, i, none⟩)) → Ty P t row size → AtO own b cs ty sz j → cread row size cs i = some v → ResIs P env own (.cell p t) v
inductive ResAll (P : Program) (env : Env) (own : Own) : List ResultVar → List Value → Prop
  | nil : ResAll P env own [] []
  | cons {r : ResultVar} {v : Value} {rs : List ResultVar} {vs : List Value} : ResIs P env own r v → ResAll P env own rs vs → ResAll P env own (r :: rs) (v :: vs)
theorem run_cell {p : Tmp} {t : TypeId} {v : Value} {a : Act} {W : World} (ha : EOk n env a) (hs : Stab own X W) {row : Bool} {size b i j sz : Nat} {cs : List Value} {ty : TypeId} (hp : eget env p = some (.pointer (some ⟨b, i, none⟩))) (ht : Ty P t row size) (ho : AtO own b cs ty sz j) (hv : cread row size cs i = some v) :
    a.tmps.getD p undef = .pointer (some ⟨b, i, none⟩) ∧ (loadVar t ⟨b, i, none⟩).run P W = .ok v W :=
  ⟨ha.get _ _ hp, run_loadVar_cells (W := W) ht (fun _ _ hu => (hs.own _ ho.mem).cell hu) hv⟩
theorem run_results0 (hr : fn.results = #[]) {a : Act} {W : World} : (results fn a.tmps).run P W = .ok (.tuple #[]) W := results_none hr _ _ _
theorem run_results1 {r : ResultVar} {v : Value} (hr : fn.results = #[r]) (h : ResIs P env own r v) {a : Act} {W : World} (ha : EOk n env a) (hs : Stab own X W) : (results fn a.tmps).run P W = .ok v W := by
  cases h with
  | tmp h => simp [results, hr, ← ha.get _ _ h]
  | cell hp ht ho hv =>
    obtain ⟨h1, h2⟩ := run_cell ha hs hp ht ho hv
    rw [Array.getD_eq_getD_getElem?] at h1
    simp [results, hr, h1, asAddr, h2]
theorem run_results2 {r r' : ResultVar} {v v' : Value} (hr : fn.results = #[r, r']) (h : ResIs P env own r v) (h' : ResIs P env own r' v') {a : Act} {W : World} (ha : EOk n env a) (hs : Stab own X W) : (results fn a.tmps).run P W = .ok (.tuple #[v, v']) W := by
  cases h with
  | tmp h =>
    have h0 := ha.get _ _ h
    rw [Array.getD_eq_getD_getElem?] at h0
    cases h' with
    | tmp h' =>
      have h0' := ha.get _ _ h'
      rw [Array.getD_eq_getD_getElem?] at h0'
      simp [results, hr, h0, h0']
    | cell hp ht ho hv =>
      obtain ⟨h1, h2⟩ := run_cell ha hs hp ht ho hv
      rw [Array.getD_eq_getD_getElem?] at h1
      simp [results, hr, h0, h1, asAddr, h2, Result.andThen]
  | cell hp ht ho hv =>
    obtain ⟨h1, h2⟩ := run_cell ha hs hp ht ho hv
    rw [Array.getD_eq_getD_getElem?] at h1
    cases h' with
    | tmp h' =>
      have h0' := ha.get _ _ h'
      rw [Array.getD_eq_getD_getElem?] at h0'
      simp [results, hr, h1, asAddr, h2, Result.andThen, h0']
    | cell hp ht ho hv =>
      obtain ⟨h3, h4⟩ := run_cell ha hs hp ht ho hv
      rw [Array.getD_eq_getD_getElem?] at h3
      simp [results, hr, h1, h3, asAddr, h2, h4, Sem.run_bind, Result.andThen]
theorem run_results3 {t t' t'' : Tmp} {v v' v'' : Value} (hr : fn.results = #[.tmp t, .tmp t', .tmp t'']) (h : eget env t = some v) (h' : eget env t' = some v') (h'' : eget env t'' = some v'') {a : Act} {W : World} (ha : EOk n env a) : (results fn a.tmps).run P W = .ok (.tuple #[v, v', v'']) W := by
  have h0 := ha.get _ _ h
  have h1 := ha.get _ _ h'
  have h2 := ha.get _ _ h''
  rw [Array.getD_eq_getD_getElem?] at h0 h1 h2
  simp [results, hr, h0, h1, h2]

/-- THE RETURN. -/
theorem leave_all {R : Ending → World → Prop} {v : Value} (hM : Marks n w0) {a : Act} {W : World} (ha : EOk n env a) (hs : Sat w0 X0 own X W) (hr : ∀ W, Stab own X W → (results fn a.tmps).run P W = .ok v W)
    (hR : ∀ W', Below w0.heap.size w0.w W' → PIn X W' → R (.returned v) W') : LeavesInM (FR none) DEP P fn a.tmps R a.defers .returning W := by
  obtain ⟨Ds, h1, h2, h3⟩ := hM
  rw [ha.defers, h1]
  have hres : ∀ D ∈ Ds, W.heap[D]? = some MarkObj ∧ X D = none ∧ (∀ q ∈ own, q.b ≠ D) ∧ w0.w.heap.size ≤ D := fun D hD => hs.res (D, MarkObj) (by rw [h2]; exact List.mem_map_of_mem hD)
  have hst : Stab own X (takes Ds W) := by
    refine ⟨fun p hp => ?_, fun k o hk => ?_⟩
    · obtain ⟨r, hr, hz⟩ := hs.stab.own p hp
      exact ⟨r, (takes_far Ds W p.b (fun hm => (hres _ hm).2.2.1 p hp rfl)).trans hr, hz⟩
    · refine (takes_far Ds W k (fun hm => ?_)).trans (hs.stab.pers k o hk)
      have := (hres _ hm).2.1
      rw [this] at hk; cases hk
  exact leaves_marks Ds W h3 (fun D hD => (hres D hD).1) ⟨v, hr _ hst, hR _ (takes_below Ds _ _ hs.below hs.below.size fun D hD => (hres D hD).2.2.2) hst.pers⟩
theorem T.ret {v : Value} {k : List It} (hr : ∀ a W, EOk n env a → Stab own X W → (results fn a.tmps).run P W = .ok v W) (hΦ : Φ v X) (hM : Marks n w0) : T ro P n w0 X0 (bodyQ P fn (Fin w0.w X0 Φ)) (.code .ret :: k) none env own X :=
  fun a _ ha hs => runL_ret (leave_all hM ha hs (fun _ h => hr a _ ha h) fun _ h1 h2 => ⟨v, X, rfl, h1, h2, hs.old, hΦ⟩)
theorem T.done {v : Value} (hr : ∀ a W, EOk n env a → Stab own X W → (results fn a.tmps).run P W = .ok v W) (hΦ : Φ v X) (hM : Marks n w0) : T ro P n w0 X0 (bodyQ P fn (Fin w0.w X0 Φ)) [] none env own X :=
  fun a _ ha hs => leave_all hM ha hs (fun _ h => hr a _ ha h) fun _ h1 h2 => ⟨v, X, rfl, h1, h2, hs.old, hΦ⟩
theorem T.doneR {R : Ending → World → Prop} {v : Value} (hr : ∀ a W, EOk n env a → Stab own X W → (results fn a.tmps).run P W = .ok v W) (hR : ∀ W', Below w0.heap.size w0.w W' → PIn X W' → R (.returned v) W') (hM : Marks n w0) : T ro P n w0 X0 (bodyQ P fn R) [] none env own X :=
  fun a _ ha hs => leave_all hM ha hs (fun _ h => hr a _ ha h) hR
theorem T.done0 {R : Ending → World → Prop} (hr : fn.results = #[]) (hR : ∀ W', Below w0.heap.size w0.w W' → PIn X W' → R (.returned (.tuple #[])) W') (hM : Marks n w0 := by first | exact ⟨[], rfl, rfl, .nil⟩ | exact ⟨[_], rfl, rfl, by simp⟩) : T ro P n w0 X0 (bodyQ P fn R) [] none env own X := T.doneR (fun _ _ _ _ => run_results0 hr) hR hM
theorem T.ret1 {k : List It} {r : ResultVar} {v : Value} (hr : fn.results = #[r]) (h : ResIs P env own r v) (hΦ : Φ v X) (hM : Marks n w0 := by first | exact ⟨[], rfl, rfl, .nil⟩ | exact ⟨[_], rfl, rfl, by simp⟩) : T ro P n w0 X0 (bodyQ P fn (Fin w0.w X0 Φ)) (.code .ret :: k) none env own X := T.ret (fun _ _ ha hs => run_results1 hr h ha hs) hΦ hM
theorem T.ret2 {k : List It} {r r' : ResultVar} {v v' : Value} (hr : fn.results = #[r, r']) (h : ResIs P env own r v) (h' : ResIs P env own r' v') (hΦ : Φ (.tuple #[v, v']) X) (hM : Marks n w0 := by first | exact ⟨[], rfl, rfl, .nil⟩ | exact ⟨[_], rfl, rfl, by simp⟩) : T ro P n w0 X0 (bodyQ P fn (Fin w0.w X0 Φ)) (.code .ret :: k) none env own X := T.ret (fun _ _ ha hs => run_results2 hr h h' ha hs) hΦ hM
theorem T.ret3 {k : List It} {t t' t'' : Tmp} {v v' v'' : Value} (hr : fn.results = #[.tmp t, .tmp t', .tmp t'']) (h : eget env t = some v) (h' : eget env t' = some v') (h'' : eget env t'' = some v'') (hΦ : Φ (.tuple #[v, v', v'']) X) (hM : Marks n w0 := by first | exact ⟨[], rfl, rfl, .nil⟩ | exact ⟨[_], rfl, rfl, by simp⟩) : T ro P n w0 X0 (bodyQ P fn (Fin w0.w X0 Φ)) (.code .ret :: k) none env own X := T.ret (fun _ _ ha _ => run_results3 hr h h' h'' ha) hΦ hM

/-- An own block is made public: it will not change any more. -/
def PMap.add (X : PMap) (b : Nat) (o : Obj) : PMap := fun k => if k = b then some o else X k
/-- In the map: block b holds these cells first. -/
def Blk (X : PMap) (b : Nat) (cs : List Value) : Prop := ∃ (rest : List Value) (ty : TypeId) (fr : Nat × Nat), X b = some (.cells (cs ++ rest).toArray ty fr)
theorem Blk.mono {X X' : PMap} {b : Nat} {cs : List Value} (h : Blk X b cs) (hX : X.le X') : Blk X' b cs := let ⟨r, t, f, hr⟩ := h; ⟨r, t, f, hX _ _ hr⟩
theorem SatC.pub {w0 : World} {W : World} (h : SatC w0 X0 own X W) {b : Nat} {cs : List Value} {ty : TypeId} {sz j : Nat} (hj : AtO own b cs ty sz j) : ∃ X', X.le X' ∧ Blk X' b cs ∧ (∀ k, k ≠ b → X' k = X k) ∧ SatC w0 X0 (own.eraseIdx j) X' W := by
  have hm := hj.mem
  obtain ⟨r, hr, _⟩ := h.stab.own _ hm
  have hXb := h.apart _ hm
  have hjl : j < own.length := by
    have := hj.get
    rcases Nat.lt_or_ge j own.length with h1 | h1
    · exact h1
    · rw [List.getElem?_eq_none h1] at this; cases this
  have hjv : own[j] = ⟨b, cs, ty, sz⟩ := by have := hj.get; rw [List.getElem?_eq_getElem hjl] at this; exact Option.some.inj this
  have hsub : ∀ q ∈ own.eraseIdx j, q ∈ own ∧ q.b ≠ b := fun q hq => by
    refine ⟨List.mem_of_mem_eraseIdx hq, ?_⟩
    obtain ⟨k, hk, hkj, rfl⟩ := List.mem_eraseIdx_iff_getElem.1 hq
    have hp := List.pairwise_iff_getElem.1 h.nodup
    rcases Nat.lt_or_gt_of_ne hkj with hlt | hgt
    · have := hp k j hk hjl hlt; rw [hjv] at this; exact this
    · have := hp j k hjl hk hgt; rw [hjv] at this; exact fun e => this e.symm
  refine ⟨X.add b (.cells (cs ++ r).toArray ty (0, 0)), fun k o hk => ?_, ⟨r, ty, (0, 0), by simp [PMap.add]⟩, fun k hk => by simp [PMap.add, hk], h.below, fun k hk => ?_, ⟨fun q hq => h.stab.own q (hsub q hq).1, fun k o hk => ?_⟩, fun q hq => h.new q (hsub q hq).1, fun q hq => ?_, ?_⟩
  · unfold PMap.add
    split
    · rename_i e; subst e; rw [hXb] at hk; cases hk
    · exact hk
  · have hne : k ≠ b := fun e => by have := h.new _ hm; simp only at this; omega
    simp only [PMap.add, if_neg hne]
    exact h.old k hk
  · unfold PMap.add at hk
    split at hk
    · rename_i e; subst e; cases hk; exact hr
    · exact h.stab.pers k o hk
  · simp only [PMap.add, if_neg (hsub q hq).2]
    exact h.apart q (hsub q hq).1
  · exact h.nodup.sublist (List.eraseIdx_sublist ..)
theorem Sat.pub {W : World} (h : Sat w0 X0 own X W) {b : Nat} {cs : List Value} {ty : TypeId} {sz j : Nat} (hj : AtO own b cs ty sz j) : ∃ X', X.le X' ∧ Blk X' b cs ∧ (∀ k, k ≠ b → X' k = X k) ∧ Sat w0 X0 (own.eraseIdx j) X' W := by
  obtain ⟨X', h1, h2, h3, h4⟩ := h.toSatC.pub hj
  refine ⟨X', h1, h2, h3, h4, fun p hp => ?_⟩
  obtain ⟨g1, g2, g3, g4⟩ := h.res p hp
  exact ⟨g1, (h3 _ (fun e => g3 _ hj.mem e.symm)).trans g2, fun q hq => g3 q (List.mem_of_mem_eraseIdx hq), g4⟩
theorem T.pubAt {Q : Exit → Act → World → Prop} {ops : Array Oper} {l : List Oper} (b : Nat) {cs : List Value} {ty : TypeId} {sz j : Nat} (hj : AtO own b cs ty sz j)
    (h : ∀ X', X.le X' → Blk X' b cs → (∀ k, k ≠ b → X' k = X k) → SL ro P n w0 X0 ops Q l env (own.eraseIdx j) X') : SL ro P n w0 X0 ops Q l env own X := by
  intro a W ha hs
  obtain ⟨X', h1, h2, h3, h4⟩ := hs.pub hj
  exact h X' h1 h2 h3 a W ha h4
theorem SD.pub {Q : Exit → Act → World → Prop} {ops : Array Oper} {nh : Nat} {st : Option Nat} {ownS : Own} {XS : PMap} {pl : List Pl} (b : Nat) {cs : List Value} {ty : TypeId} {sz j : Nat} (hj : AtO own b cs ty sz j)
    (h : ∀ X', X.le X' → Blk X' b cs → (∀ k, k ≠ b → X' k = X k) → SD ro P n w0 X0 ops Q nh st ownS XS pl env (own.eraseIdx j) X') : SD ro P n w0 X0 ops Q nh st ownS XS pl env own X := by
  intro listed a W hns hnd ht inv hp ha hs hst
  obtain ⟨X', h1, h2, h3, h4⟩ := hs.pub hj
  exact h X' h1 h2 h3 listed a W hns hnd ht inv hp ha h4 hst
theorem T.pub {Q : Exit → Act → World → Prop} {k : List It} {e : Option Nat} (b : Nat) {cs : List Value} {ty : TypeId} {sz j : Nat} (hj : AtO own b cs ty sz j)
    (h : ∀ X', X.le X' → Blk X' b cs → (∀ k, k ≠ b → X' k = X k) → T ro P n w0 X0 Q k e env (own.eraseIdx j) X') : T ro P n w0 X0 Q k e env own X := by
  intro a W ha hs
  obtain ⟨X', h1, h2, h3, h4⟩ := hs.pub hj
  exact h X' h1 h2 h3 a W ha h4
end
end Go.Proofs.YtnpcilglilfajaaGreatDoor
namespace Go.Proofs.YtnpcilglilfajaaGreatDoor
open Go.RowKit
section
variable {P : Program} {n : NM} {w0 : Base} {X0 X : PMap} {own : Own} {env : Env}
theorem op_move {x : Operand} {v : Value} (hx : eev env x = some v) : OpY P n env own X (.move x) v := by
  intro a W oper ho ha _
  simp [execOp, ho, ha.eval hx]
theorem op_assign {x : Operand} {v : Value} (hx : eev env x = some v) : OpY P n env own X (.assign x) v := by
  intro a W oper ho ha _
  simp [execOp, ho, ha.eval hx]
theorem op_pickT {c x y : Operand} {v : Value} (hc : eev env c = some (.bool true)) (hx : eev env x = some v) : OpY P n env own X (.pick c x y) v := by
  intro a W oper ho ha _
  simp [execOp, ho, ha.eval hc, ha.eval hx, asBool]
theorem op_pickF {c x y : Operand} {v : Value} (hc : eev env c = some (.bool false)) (hy : eev env y = some v) : OpY P n env own X (.pick c x y) v := by
  intro a W oper ho ha _
  simp [execOp, ho, ha.eval hc, ha.eval hy, asBool]
theorem op_extract {x : Operand} {i : Nat} {vs : Array Value} {v : Value} (hx : eev env x = some (.tuple vs)) (hi : vs[i]? = some v) : OpY P n env own X (.extract x i) v := by
  intro a W oper ho ha _
  simp [execOp, ho, ha.eval hx, Instr.extract, hi]
theorem op_not {x : Operand} {ty : TypeId} {b : Bool} (hx : eev env x = some (.bool b)) : OpY P n env own X (.unOp .not ty x) (.bool (!b)) := by
  intro a W oper ho ha _
  simp [execOp, ho, ha.eval hx, Op.unary]
theorem op_nil {x : Operand} {a0 : Addr} (hx : eev env x = some (.pointer (some a0))) : OpY P n env own X (.nilCheck x) (.pointer (some a0)) := by
  intro a W oper ho ha _
  simp [execOp, ho, ha.eval hx]
theorem op_makeFunc {fn : Fn} {fs cs : Array Operand} {vs us : List Value} (hf : fs.toList.map (eev env) = vs.map some) (hc : cs.toList.map (eev env) = us.map some) : OpY P n env own X (.makeFunc fn fs cs) (.func fn vs.toArray us.toArray) := by
  intro a W oper ho ha _
  have all : ∀ (xs : List Operand) (vs : List Value), xs.map (eev env) = vs.map some → xs.map a.eval = vs := by
    intro xs
    induction xs with
    | nil => intro vs h; cases vs <;> simp_all
    | cons x xs ih =>
      intro vs h
      cases vs with
      | nil => simp at h
      | cons v vs =>
        simp only [List.map_cons, List.cons.injEq] at h
        simp [ha.eval h.1, ih vs h.2]
  have h1 : fs.map a.eval = vs.toArray := by apply Array.toList_inj.1; simp [all _ _ hf]
  have h2 : cs.map a.eval = us.toArray := by apply Array.toList_inj.1; simp [all _ _ hc]
  simp [execOp, ho, Instr.makeFunc, h1, h2]

section
variable {t t' : TypeId} {x y : Operand} {k : IntKind} {p q : Int}
theorem op_cmp {op : BinOp} {b : Bool} (hx : eev env x = some (.int k p)) (hy : eev env y = some (.int k q)) (hb : Op.intCmp op p q = pure (.bool b)) (ho : op = .lss ∨ op = .leq ∨ op = .gtr ∨ op = .geq ∨ op = .eql ∨ op = .neq) : OpY P n env own X (.binOp op t x y t') (.bool b) := by
  intro a W oper hop ha _
  rcases ho with rfl | rfl | rfl | rfl | rfl | rfl <;> simp [execOp, hop, ha.eval hx, ha.eval hy, binOp, hb, eqGuard]
theorem op_lss (hx : eev env x = some (.int k p)) (hy : eev env y = some (.int k q)) : OpY P n env own X (.binOp .lss t x y t') (.bool (decide (p < q))) := op_cmp hx hy rfl (by simp)
theorem op_lssT (hx : eev env x = some (.int k p)) (hy : eev env y = some (.int k q)) (h : p < q) : OpY P n env own X (.binOp .lss t x y t') (.bool true) := by have := op_lss (P := P) (n := n) (own := own) (X := X) (t := t) (t' := t') hx hy; rwa [decide_eq_true h] at this
theorem op_lssF (hx : eev env x = some (.int k p)) (hy : eev env y = some (.int k q)) (h : q ≤ p) : OpY P n env own X (.binOp .lss t x y t') (.bool false) := by have := op_lss (P := P) (n := n) (own := own) (X := X) (t := t) (t' := t') hx hy; rwa [decide_eq_false (by omega)] at this
theorem op_leq (hx : eev env x = some (.int k p)) (hy : eev env y = some (.int k q)) : OpY P n env own X (.binOp .leq t x y t') (.bool (decide (p ≤ q))) := op_cmp hx hy rfl (by simp)
theorem op_leqT (hx : eev env x = some (.int k p)) (hy : eev env y = some (.int k q)) (h : p ≤ q) : OpY P n env own X (.binOp .leq t x y t') (.bool true) := by have := op_leq (P := P) (n := n) (own := own) (X := X) (t := t) (t' := t') hx hy; rwa [decide_eq_true h] at this
theorem op_leqF (hx : eev env x = some (.int k p)) (hy : eev env y = some (.int k q)) (h : q < p) : OpY P n env own X (.binOp .leq t x y t') (.bool false) := by have := op_leq (P := P) (n := n) (own := own) (X := X) (t := t) (t' := t') hx hy; rwa [decide_eq_false (by omega)] at this
theorem op_gtr (hx : eev env x = some (.int k p)) (hy : eev env y = some (.int k q)) : OpY P n env own X (.binOp .gtr t x y t') (.bool (decide (q < p))) := op_cmp hx hy rfl (by simp)
theorem op_gtrT (hx : eev env x = some (.int k p)) (hy : eev env y = some (.int k q)) (h : q < p) : OpY P n env own X (.binOp .gtr t x y t') (.bool true) := by have := op_gtr (P := P) (n := n) (own := own) (X := X) (t := t) (t' := t') hx hy; rwa [decide_eq_true h] at this
theorem op_gtrF (hx : eev env x = some (.int k p)) (hy : eev env y = some (.int k q)) (h : p ≤ q) : OpY P n env own X (.binOp .gtr t x y t') (.bool false) := by have := op_gtr (P := P) (n := n) (own := own) (X := X) (t := t) (t' := t') hx hy; rwa [decide_eq_false (by omega)] at this
theorem op_geq (hx : eev env x = some (.int k p)) (hy : eev env y = some (.int k q)) : OpY P n env own X (.binOp .geq t x y t') (.bool (decide (q ≤ p))) := op_cmp hx hy rfl (by simp)
theorem op_geqT (hx : eev env x = some (.int k p)) (hy : eev env y = some (.int k q)) (h : q ≤ p) : OpY P n env own X (.binOp .geq t x y t') (.bool true) := by have := op_geq (P := P) (n := n) (own := own) (X := X) (t := t) (t' := t') hx hy; rwa [decide_eq_true h] at this
theorem op_geqF (hx : eev env x = some (.int k p)) (hy : eev env y = some (.int k q)) (h : p < q) : OpY P n env own X (.binOp .geq t x y t') (.bool false) := by have := op_geq (P := P) (n := n) (own := own) (X := X) (t := t) (t' := t') hx hy; rwa [decide_eq_false (by omega)] at this
theorem op_eql (hx : eev env x = some (.int k p)) (hy : eev env y = some (.int k q)) : OpY P n env own X (.binOp .eql t x y t') (.bool (decide (p = q))) := op_cmp hx hy (by simp [Op.intCmp]; rfl) (by simp)
theorem op_eqlT (hx : eev env x = some (.int k p)) (hy : eev env y = some (.int k q)) (h : p = q) : OpY P n env own X (.binOp .eql t x y t') (.bool true) := by have := op_eql (P := P) (n := n) (own := own) (X := X) (t := t) (t' := t') hx hy; rwa [decide_eq_true h] at this
theorem op_eqlF (hx : eev env x = some (.int k p)) (hy : eev env y = some (.int k q)) (h : p ≠ q) : OpY P n env own X (.binOp .eql t x y t') (.bool false) := by have := op_eql (P := P) (n := n) (own := own) (X := X) (t := t) (t' := t') hx hy; rwa [decide_eq_false h] at this
theorem op_neq (hx : eev env x = some (.int k p)) (hy : eev env y = some (.int k q)) : OpY P n env own X (.binOp .neq t x y t') (.bool (decide (p ≠ q))) := op_cmp hx hy (by simp [Op.intCmp, bne]; rfl) (by simp)
theorem op_neqT (hx : eev env x = some (.int k p)) (hy : eev env y = some (.int k q)) (h : p ≠ q) : OpY P n env own X (.binOp .neq t x y t') (.bool true) := by have := op_neq (P := P) (n := n) (own := own) (X := X) (t := t) (t' := t') hx hy; rwa [decide_eq_true h] at this
theorem op_neqF (hx : eev env x = some (.int k p)) (hy : eev env y = some (.int k q)) (h : p = q) : OpY P n env own X (.binOp .neq t x y t') (.bool false) := by have := op_neq (P := P) (n := n) (own := own) (X := X) (t := t) (t' := t') hx hy; rwa [decide_eq_false (by simpa using h)] at this
/-- A pointer, a slice held against nil. -/
theorem run_equalPtrNil {e : TypeId} (ht : P.underlying t = some (.pointer e)) (o : Option Addr) (W : World) : (Op.equal t (.pointer o) (.pointer none)).run P W = .ok o.isNone W := by
  have h : ∀ d : Nat, (Op.equalIn (d + 1) t (.pointer o) (.pointer none)).run P W = .ok o.isNone W := fun d => by
    cases o <;> simp [Op.equalIn, run_underlying ht]
  exact h 9999
theorem op_eqlNil {e : TypeId} {o : Option Addr} (ht : P.underlying t = some (.pointer e)) (hx : eev env x = some (.pointer o)) (hy : eev env y = some (.pointer none)) : OpY P n env own X (.binOp .eql t x y t') (.bool o.isNone) := by
  intro a W oper hop ha _
  have h0 : ∀ (e : BinOp) (u v : Operand), eqGuard e t u v (.pointer o) (.pointer none) = pure () := fun e u v => by cases e <;> rfl
  simp only [execOp, hop, ha.eval hx, ha.eval hy, binOp, h0, Sem.run_bind, Sem.run_pure, Result.andThen_ok, run_equalPtrNil ht]
theorem op_neqNil {e : TypeId} {o : Option Addr} (ht : P.underlying t = some (.pointer e)) (hx : eev env x = some (.pointer o)) (hy : eev env y = some (.pointer none)) : OpY P n env own X (.binOp .neq t x y t') (.bool (!o.isNone)) := by
  intro a W oper hop ha _
  have h0 : ∀ (e : BinOp) (u v : Operand), eqGuard e t u v (.pointer o) (.pointer none) = pure () := fun e u v => by cases e <;> rfl
  simp only [execOp, hop, ha.eval hx, ha.eval hy, binOp, h0, Sem.run_bind, Sem.run_pure, Result.andThen_ok, run_equalPtrNil ht]
theorem run_equalSliceNil {e : TypeId} (ht : P.underlying t = some (.slice e)) (o : Option Addr) (l c l' c' : Nat) (W : World) : (Op.equal t (.slice o l c) (.slice none l' c')).run P W = .ok o.isNone W := by
  have h : ∀ d : Nat, (Op.equalIn (d + 1) t (.slice o l c) (.slice none l' c')).run P W = .ok o.isNone W := fun d => by
    cases o <;> simp [Op.equalIn, run_underlying ht]
  exact h 9999
theorem op_eqlSNil {e : TypeId} {o : Option Addr} {l c l' c' : Nat} (ht : P.underlying t = some (.slice e)) (hx : eev env x = some (.slice o l c)) (hy : eev env y = some (.slice none l' c')) : OpY P n env own X (.binOp .eql t x y t') (.bool o.isNone) := by
  intro a W oper hop ha _
  have h0 : ∀ (e : BinOp) (u v : Operand), eqGuard e t u v (.slice o l c) (.slice none l' c') = pure () := fun e u v => by cases e <;> rfl
  simp only [execOp, hop, ha.eval hx, ha.eval hy, binOp, h0, Sem.run_bind, Sem.run_pure, Result.andThen_ok, run_equalSliceNil ht]

theorem op_arith {op : BinOp} {r : Int} (hx : eev env x = some (.int k p)) (hy : eev env y = some (.int k q)) (ho : op = .add ∧ r = p + q ∨ op = .sub ∧ r = p - q ∨ op = .mul ∧ r = p * q) : OpY P n env own X (.binOp op t x y t') (.int k (k.wrap r)) := by
  intro a W oper hop ha _
  rcases ho with ⟨rfl, rfl⟩ | ⟨rfl, rfl⟩ | ⟨rfl, rfl⟩ <;> simp [execOp, hop, ha.eval hx, ha.eval hy, binOp, eqGuard, Op.intArith]
theorem op_addW (hx : eev env x = some (.int k p)) (hy : eev env y = some (.int k q)) : OpY P n env own X (.binOp .add t x y t') (.int k (k.wrap (p + q))) := op_arith hx hy (by simp)
theorem op_subW (hx : eev env x = some (.int k p)) (hy : eev env y = some (.int k q)) : OpY P n env own X (.binOp .sub t x y t') (.int k (k.wrap (p - q))) := op_arith hx hy (by simp)
theorem op_mulW (hx : eev env x = some (.int k p)) (hy : eev env y = some (.int k q)) : OpY P n env own X (.binOp .mul t x y t') (.int k (k.wrap (p * q))) := op_arith hx hy (by simp)
theorem wrap_i64_in {r : Int} (h1 : -9223372036854775808 ≤ r) (h2 : r ≤ 9223372036854775807) : IntKind.i64.wrap r = r := IntWalk.i64_in r ⟨h1, h2⟩
theorem op_add (hx : eev env x = some (.int .i64 p)) (hy : eev env y = some (.int .i64 q)) (h1 : -9223372036854775808 ≤ p + q) (h2 : p + q ≤ 9223372036854775807) : OpY P n env own X (.binOp .add t x y t') (.int .i64 (p + q)) := by
  have := op_addW (P := P) (n := n) (own := own) (X := X) (t := t) (t' := t') hx hy; rwa [wrap_i64_in h1 h2] at this
theorem op_sub (hx : eev env x = some (.int .i64 p)) (hy : eev env y = some (.int .i64 q)) (h1 : -9223372036854775808 ≤ p - q) (h2 : p - q ≤ 9223372036854775807) : OpY P n env own X (.binOp .sub t x y t') (.int .i64 (p - q)) := by
  have := op_subW (P := P) (n := n) (own := own) (X := X) (t := t) (t' := t') hx hy; rwa [wrap_i64_in h1 h2] at this
theorem op_mul (hx : eev env x = some (.int .i64 p)) (hy : eev env y = some (.int .i64 q)) (h1 : -9223372036854775808 ≤ p * q) (h2 : p * q ≤ 9223372036854775807) : OpY P n env own X (.binOp .mul t x y t') (.int .i64 (p * q)) := by
  have := op_mulW (P := P) (n := n) (own := own) (X := X) (t := t) (t' := t') hx hy; rwa [wrap_i64_in h1 h2] at this
theorem op_quo (hx : eev env x = some (.int .i64 p)) (hy : eev env y = some (.int .i64 q)) (h0 : 0 ≤ p) (h1 : p ≤ 9223372036854775807) (hq : 0 < q) : OpY P n env own X (.binOp .quo t x y t') (.int .i64 (p / q)) := by
  intro a W oper hop ha _
  have e : p.tdiv q = p / q := Int.tdiv_eq_ediv_of_nonneg h0
  have hl : p / q ≤ p := Int.ediv_le_self _ h0
  have h3 : 0 ≤ p / q := Int.ediv_nonneg h0 (by omega)
  simp [execOp, hop, ha.eval hx, ha.eval hy, binOp, eqGuard, Op.intDiv, show q ≠ 0 by omega, e, wrap_i64_in (show -9223372036854775808 ≤ p / q by omega) (by omega)]
theorem op_rem (hx : eev env x = some (.int k p)) (hy : eev env y = some (.int k q)) (h0 : 0 ≤ p) (hq : q ≠ 0) : OpY P n env own X (.binOp .rem t x y t') (.int k (p % q)) := by
  intro a W oper hop ha _
  have e : p.tmod q = p % q := Int.tmod_eq_emod_of_nonneg h0
  simp [execOp, hop, ha.eval hx, ha.eval hy, binOp, eqGuard, Op.intDiv, hq, e]
end
end
end Go.Proofs.YtnpcilglilfajaaGreatDoor
namespace Go.Proofs.YtnpcilglilfajaaGreatDoor
open Go.RowKit
section
variable {P : Program} {n : NM} {w0 : Base} {X0 X : PMap} {own : Own} {env : Env}
theorem execLoad {t : TypeId} {x : Operand} {b i : Nat} {v : Value} {a : Act} {W : World} {oper : Oper} (ho : oper.op = .load t x) (hx : a.eval x = .pointer (some ⟨b, i, none⟩)) (h : (loadVar t ⟨b, i, none⟩).run P W = .ok v W) : (execOp a.eval oper).run P W = .ok (.value v) W := by
  simp [execOp, ho, hx, Instr.loadAt, Instr.sureAddr, h]
theorem op_load {t : TypeId} {x : Operand} {b i j sz size : Nat} {row : Bool} {cs : List Value} {ty : TypeId} {v : Value} (ht : Ty P t row size) (hx : eev env x = some (.pointer (some ⟨b, i, none⟩))) (ho : AtO own b cs ty sz j) (hv : cread row size cs i = some v) : OpY P n env own X (.load t x) v := by
  intro a W oper hop ha hs
  exact execLoad hop (ha.eval hx) (run_loadVar_cells ht (fun _ _ hu => (hs.own _ ho.mem).cell hu) hv)
theorem Blk.cell {b : Nat} {cs : List Value} {W : World} (h : Blk X b cs) (hp : PIn X W) {i : Nat} {v : Value} (hi : cs[i]? = some v) : W.cell? ⟨b, i, none⟩ = some v := by
  obtain ⟨r, _, _, h⟩ := h
  have h := hp _ _ h
  have hl : i < cs.length := by
    rcases Nat.lt_or_ge i cs.length with h1 | h1
    · exact h1
    · rw [List.getElem?_eq_none h1] at hi; cases hi
  simp [World.cell?, h, List.getElem?_append_left hl, hi]
theorem op_loadX {t : TypeId} {x : Operand} {b i size : Nat} {row : Bool} {cs : List Value} {v : Value} (ht : Ty P t row size) (hx : eev env x = some (.pointer (some ⟨b, i, none⟩))) (ho : Blk X b cs) (hv : cread row size cs i = some v) : OpY P n env own X (.load t x) v := by
  intro a W oper hop ha hs
  exact execLoad hop (ha.eval hx) (run_loadVar_cells ht (fun _ _ hu => ho.cell hs.pers hu) hv)

def vcells : Value → List Value
  | .agg cs => cs.toList
  | v => [v]
theorem vcells_spec (v : Value) : v.cells.toList = vcells v := by cases v <;> rfl
theorem op_new {oper : Oper} {a : Act} {W : World} {K : Act → World → Prop} {Q : Exit → Act → World → Prop} {ro : Option Nat} (hnd : ∀ c, oper.op ≠ .defer c) (hs : Sat w0 X0 own X W) {cs : List Value} {ty : TypeId} {v : Value}
    (hr : (execOp a.eval oper).run P W = .ok (.value v) (W.alloc (.cells cs.toArray ty)))
    {k : Value → Own → PMap → Prop} (hk : k v (⟨W.heap.size, cs, ty, cs.length⟩ :: own) X)
    (hK : ∀ v own' X' W', k v own' X' → Sat w0 X0 own' X' W' → (true = true → Grow W W') → K (a.put oper.dst v) W') : oper.wpIn (FR ro) DEP P a W K Q :=
  wp_value hnd hr (hK v _ X _ hk (hs.alloc cs ty) fun _ => Grow.alloc W _)
theorem op_box {t : TypeId} {x : Operand} {v : Value} (hx : eev env x = some v) :
    OpX P n w0 X0 env own X (.box t x) true fun u own' X' => ∃ b, u = .pointer (some ⟨b, 0, none⟩) ∧ own' = ⟨b, vcells v, t, (vcells v).length⟩ :: own ∧ X = X' := by
  intro a W oper K Q ro hop ha hs hK
  refine op_new (noDefer_spec (by rw [hop]; rfl)) hs (cs := vcells v) (ty := t) (v := .pointer (some ⟨W.heap.size, 0, none⟩)) ?_ ⟨_, rfl, rfl, rfl⟩ hK
  have : v.cells = (vcells v).toArray := by rw [← vcells_spec]
  simp [execOp, hop, ha.eval hx, Instr.box, newVar, newRow, this, newObj, Sem.run, World.alloc_eq]
/-- The zero value of a type, as cells. -/
structure Zero (P : Program) (t : TypeId) (zs : List Value) : Prop where
  out : ∃ i z, P.info? t = some i ∧ i.zero = some z ∧ z.cells = zs.toArray
theorem Zero.run {t : TypeId} {zs : List Value} (h : Zero P t zs) : ∃ z, z.cells = zs.toArray ∧ ∀ W, (zeroValue t).run P W = .ok z W := by
  obtain ⟨i, z, hi, hz, hc⟩ := h.out
  exact ⟨z, hc, fun W => by simp [zeroValue, typeInfo, hi, hz]⟩
theorem op_alloc {t : TypeId} {zs : List Value} (hz : Zero P t zs) :
    OpX P n w0 X0 env own X (.alloc t) true fun u own' X' => ∃ b, u = .pointer (some ⟨b, 0, none⟩) ∧ own' = ⟨b, zs, t, zs.length⟩ :: own ∧ X = X' := by
  intro a W oper K Q ro hop ha hs hK
  obtain ⟨z, hc, hr⟩ := hz.run
  refine op_new (noDefer_spec (by rw [hop]; rfl)) hs (cs := zs) (ty := t) (v := .pointer (some ⟨W.heap.size, 0, none⟩)) ?_ ⟨_, rfl, rfl, rfl⟩ hK
  simp [execOp, hop, Instr.alloc, hr, newVar, newRow, hc, newObj, Sem.run, World.alloc_eq]

theorem op_store {t : TypeId} {x y : Operand} {b i j sz size : Nat} {row : Bool} {cs : List Value} {ty : TypeId} {v : Value} (ht : Ty P t row size) (hx : eev env x = some (.pointer (some ⟨b, i, none⟩))) (hy : eev env y = some v) (ho : AtO own b cs ty sz j)
    (h1 : (vcells v).all (·.oneCell') = true) (hl : (vcells v).length = size) (hi : Nat.ble (i + size) cs.length = true) :
    OpX P n w0 X0 env own X (.store t x y) false fun _ own' X' => own' = own.set j ⟨b, csets cs i (vcells v), ty, sz⟩ ∧ X = X' := by
  intro a W oper K Q ro hop ha hs hK
  have hle : i + size ≤ cs.length := Nat.le_of_ble_eq_true hi
  have hin := hs.stab.own _ ho.mem
  have hrun : (storeVar t ⟨b, i, none⟩ v).run P W = .ok () (W.setCells b i (vcells v)) := by
    have ht' : W.there b i (vcells v).length := fun q hq => by
      have hlt : i + q < cs.length := by omega
      exact ⟨by rw [hin.cell (v := cs[i + q]) (by simp [hlt])]; rfl, hin.frozen _⟩
    have := run_storeCells_cells (P := P) b i (vcells v) 0 W (fun q hq => (ht' q hq).1) (fun q hq => (ht' q hq).2) (fun u hu => List.all_eq_true.1 h1 u hu)
    have hinf := ht.info
    cases hq : P.info? t with
    | none => simp [hq] at hinf
    | some inf =>
      have hsz : inf.size = size := by simpa [hq] using hinf
      have hcl : v.cells.toList = vcells v := vcells_spec v
      have hcs : v.cells.size = size := by rw [← Array.length_toList, hcl, hl]
      simp only [Nat.add_zero] at this
      simp [storeVar, sizeOf, typeInfo, hq, hcs, hsz, hcl, this]
  have hex : (execOp a.eval oper).run P W = .ok .skip (W.setCells b i (vcells v)) := by
    simp [execOp, hop, ha.eval hx, ha.eval hy, Instr.storeAt, Instr.sureAddr, hrun]
  exact wp_skipped (noDefer_spec (by rw [hop]; rfl)) hex (hK undef _ X _ ⟨rfl, rfl⟩ (hs.puts _ _ _ _ _ ho.get (by omega)) (fun h => by cases h))

/-- Field f of struct s lies at offset off. -/
structure FAdr (P : Program) (s : TypeId) (f off : Nat) : Prop where
  out : ∃ (fields : Array Field) (fl : Field) (i : TypeInfo), P.underlying s = some (.struct fields) ∧ fields[f]? = some fl ∧ fl.offset = off ∧ P.info? fl.type = some i ∧ i.size ≠ 0
theorem op_fieldAddr {s : TypeId} {x : Operand} {f off b i : Nat} (hf : FAdr P s f off) (hx : eev env x = some (.pointer (some ⟨b, i, none⟩))) : OpY P n env own X (.fieldAddr s x f) (.pointer (some ⟨b, i + off, none⟩)) := by
  intro a W oper hop ha _
  obtain ⟨fields, fl, inf, h1, h2, h3, h4, h5⟩ := hf.out
  simp [execOp, hop, ha.eval hx, Instr.fieldAt, run_underlying h1, h2, Instr.sureAddr, fieldPlace, sizeOf, typeInfo, h4, h5, h3, Addr.add_mid]
theorem op_index {t e : TypeId} {x ix : Operand} {b o len cap size : Nat} {row : Bool} {k : IntKind} {i : Int} (ht : P.underlying t = some (.slice e)) (he : Ty P e row size) (hx : eev env x = some (.slice (some ⟨b, o, none⟩) len cap)) (hi : eev env ix = some (.int k i)) (h0 : 0 ≤ i) (h1 : i < len) :
    OpY P n env own X (.indexAddr t x ix) (.pointer (some ⟨b, o + i.toNat * size, none⟩)) := by
  intro a W oper hop ha _
  have hinf := he.info
  cases hq : P.info? e with
  | none => simp [hq] at hinf
  | some inf =>
    have hsz : inf.size = size := by simpa [hq] using hinf
    simp [execOp, hop, ha.eval hx, ha.eval hi, Instr.indexAt, asIntOf, run_underlying ht, h0, h1, sizeOf, typeInfo, hq, hsz, Addr.add_mid]
theorem op_indexN {t e : TypeId} {x ix : Operand} {b o len cap size : Nat} {row : Bool} {k : IntKind} {i : Nat} (ht : P.underlying t = some (.slice e)) (he : Ty P e row size) (hx : eev env x = some (.slice (some ⟨b, o, none⟩) len cap)) (hi : eev env ix = some (.int k (i : Int))) (h1 : i < len) :
    OpY P n env own X (.indexAddr t x ix) (.pointer (some ⟨b, o + i * size, none⟩)) := by
  have := op_index (P := P) (n := n) (own := own) (X := X) ht he hx hi (by omega) (by omega)
  simpa using this

theorem op_lenS {t e : TypeId} {x : Operand} {o : Option Addr} {len cap : Nat} (ht : P.underlying t = some (.slice e)) (hx : eev env x = some (.slice o len cap)) : OpY P n env own X (.call { callee := .builtin .len, args := #[x], argTypes := #[t] }) (.int .i64 len) := by
  intro a W oper hop ha _
  simp [execOp, hop, resolve, invoke, builtin, Builtin.len_, run_underlying ht, ha.eval hx, goInt]
theorem op_lenStr {t : TypeId} {x : Operand} {s : ByteArray} (ht : P.underlying t = some .string) (hx : eev env x = some (.string s)) : OpY P n env own X (.call { callee := .builtin .len, args := #[x], argTypes := #[t] }) (.int .i64 s.size) := by
  intro a W oper hop ha _
  simp [execOp, hop, resolve, invoke, builtin, Builtin.len_, run_underlying ht, ha.eval hx, goInt]
theorem op_max {x y : Operand} {ts : Array TypeId} {k : IntKind} {p q r : Int} (hx : eev env x = some (.int k p)) (hy : eev env y = some (.int k q)) (hr : (if q > p then q else p) = r) : OpY P n env own X (.call { callee := .builtin .max, args := #[x, y], argTypes := ts }) (.int k r) := by
  intro a W oper hop ha _
  simp [execOp, hop, resolve, invoke, builtin, Builtin.max_, Builtin.max2, ha.eval hx, ha.eval hy, ← hr]
theorem op_min {x y : Operand} {ts : Array TypeId} {k : IntKind} {p q r : Int} (hx : eev env x = some (.int k p)) (hy : eev env y = some (.int k q)) (hr : (if q < p then q else p) = r) : OpY P n env own X (.call { callee := .builtin .min, args := #[x, y], argTypes := ts }) (.int k r) := by
  intro a W oper hop ha _
  simp [execOp, hop, resolve, invoke, builtin, Builtin.min_, Builtin.min2, ha.eval hx, ha.eval hy, ← hr]

def Enters (P : Program) (f : FuncId) : Prop := ∀ args W, (callFunc f args).run P W = .ok (.enter f args) W
theorem op_call {c : Operand} {f : FuncId} {xs : Array Operand} {ts : Array TypeId} {fs cs : Array Value} {vs : List Value} {Φ : Value → PMap → Prop} (he : Enters P f) (hc : eev env c = some (.func (.func f) fs cs)) (hx : xs.toList.map (eev env) = vs.map some)
    (h : Spec P f (fs.toList ++ vs ++ cs.toList) X Φ) : OpX P n w0 X0 env own X (.call { callee := .value c, args := xs, argTypes := ts }) true fun v own' X' => own = own' ∧ X.le X' ∧ Φ v X' := by
  intro a W oper K Q ro hop ha hs hK
  have all : ∀ (xs : List Operand) (vs : List Value), xs.map (eev env) = vs.map some → xs.map a.eval = vs := by
    intro xs
    induction xs with
    | nil => intro vs h; cases vs <;> simp_all
    | cons x xs ih =>
      intro vs h
      cases vs with
      | nil => simp at h
      | cons v vs =>
        simp only [List.map_cons, List.cons.injEq] at h
        simp [ha.eval h.1, ih vs h.2]
  have h1 : xs.map a.eval = vs.toArray := by apply Array.toList_inj.1; simp [all _ _ hx]
  have hex : (execOp a.eval oper).run P W = .ok (.enter f (fs.toList ++ vs ++ cs.toList).toArray) W := by
    have hargs : fs ++ vs.toArray ++ cs = (fs.toList ++ vs ++ cs.toList).toArray := by apply Array.toList_inj.1; simp
    simp only [execOp, hop, resolve, ha.eval hc, h1, Deferred.ofValue, invoke, Sem.run_bind, Sem.run_pure, Result.andThen_ok]
    rw [hargs]
    exact he _ _
  refine wp_enters (noDefer_spec (by rw [hop]; rfl)) hex ((h W hs.stab.pers).mono fun e w' hfin => ?_)
  obtain ⟨v, X', rfl, hb, hp, hk, hΦ⟩ := hfin
  refine ⟨v, rfl, ?_⟩
  exact hK v own X' w' ⟨rfl, fun q o hq => (hk q (hs.stab.pers.lt hq)).trans hq, hΦ⟩ (hs.call hb hp hk) fun _ => Grow.of_below hb
/-- A call of a function by its name. -/
theorem op_callF {f : FuncId} {xs : Array Operand} {ts : Array TypeId} {vs : List Value} {Φ : Value → PMap → Prop} (he : Enters P f) (hx : xs.toList.map (eev env) = vs.map some)
    (h : Spec P f vs X Φ) : OpX P n w0 X0 env own X (.call { callee := .value (.func f), args := xs, argTypes := ts }) true fun v own' X' => own = own' ∧ X.le X' ∧ Φ v X' :=
  op_call he rfl hx (by simpa using h)
end
end Go.Proofs.YtnpcilglilfajaaGreatDoor
namespace Go.Proofs.YtnpcilglilfajaaGreatDoor
open Go.RowKit
section
variable {P : Program} {n : NM} {w0 : Base} {X0 X : PMap} {own : Own} {env : Env}
/-- What is known of a slice's type: its element, the element's cells and bytes. -/
structure SlT (P : Program) (t e : TypeId) (size bytes : Nat) : Prop where
  und : P.underlying t = some (.slice e)
  info : ∃ i z, P.info? e = some i ∧ i.size = size ∧ i.bytes = bytes ∧ i.zero = some z ∧ z.cells.size = size ∧ 0 < size

/-- The slice value v has m elements, whose cells are news. -/
def Src (own : Own) (X : PMap) (v : Value) (m size : Nat) (news : List Value) : Prop :=
  news.length = m * size ∧ ∃ A c, v = .slice A m c ∧ (0 < m → ∃ b o, A = some ⟨b, o, none⟩ ∧ ∀ W, Stab own X W → ∀ j u, news[j]? = some u → W.cell? ⟨b, o + j, none⟩ = some u)
theorem Src.nil {A : Option Addr} {c size : Nat} : Src own X (.slice A 0 c) 0 size [] := ⟨by simp, A, c, rfl, fun h => absurd h (by omega)⟩
theorem Src.ofOwn0 {b m c size sz j : Nat} {cs : List Value} {ty : TypeId} (ho : AtO own b cs ty sz j) (hl : m * size = cs.length) : Src own X (.slice (some ⟨b, 0, none⟩) m c) m size cs :=
  ⟨hl.symm, _, _, rfl, fun _ => ⟨b, 0, rfl, fun W hW q u hu => by rw [Nat.zero_add]; exact (hW.own _ ho.mem).cell hu⟩⟩
theorem Src.ofExt {b o m c size : Nat} {cs : List Value} (ho : Blk X b cs) (hl : o + m * size ≤ cs.length) : Src own X (.slice (some ⟨b, o, none⟩) m c) m size ((cs.drop o).take (m * size)) := by
  refine ⟨by simp; omega, _, _, rfl, fun _ => ⟨b, o, rfl, fun W hW q u hu => ?_⟩⟩
  rw [List.getElem?_take] at hu
  split at hu
  · rw [List.getElem?_drop] at hu; exact ho.cell hW.pers hu
  · cases hu
theorem Src.ofExt0 {b m c size : Nat} {cs : List Value} (ho : Blk X b cs) (hl : m * size = cs.length) : Src own X (.slice (some ⟨b, 0, none⟩) m c) m size cs :=
  ⟨hl.symm, _, _, rfl, fun _ => ⟨b, 0, rfl, fun W hW q u hu => by rw [Nat.zero_add]; exact ho.cell hW.pers hu⟩⟩

/-- Only the block of row j may have changed, or a new one stands for it. -/
theorem SatC.regrow {w0 : World} {W W' : World} (h : SatC w0 X0 own X W) {b sz j : Nat} {cs : List Value} {ty : TypeId} (hj : own[j]? = some ⟨b, cs, ty, sz⟩) (hg : W.grownBy W' (some b)) {b' : Nat} (hb : b' = b ∨ b' = W.heap.size) {cs' : List Value} {ty' : TypeId} {sz' : Nat} (hin : Ow.In ⟨b', cs', ty', sz'⟩ W') :
    SatC w0 X0 (own.set j ⟨b', cs', ty', sz'⟩) X W' := by
  have hm : (⟨b, cs, ty, sz⟩ : Ow) ∈ own := List.mem_of_getElem? hj
  have hjl : j < own.length := by
    rcases Nat.lt_or_ge j own.length with h1 | h1
    · exact h1
    · rw [List.getElem?_eq_none h1] at hj; cases hj
  have hjv : own[j] = ⟨b, cs, ty, sz⟩ := by rw [List.getElem?_eq_getElem hjl] at hj; exact Option.some.inj hj
  have hb0 := h.new _ hm
  simp only at hb0
  have hother : ∀ k (hk : k < own.length), k ≠ j → own[k].b ≠ b := fun k hk hne => by
    have hp := List.pairwise_iff_getElem.1 h.nodup
    rcases Nat.lt_or_gt_of_ne hne with hlt | hgt
    · have := hp k j hk hjl hlt; rw [hjv] at this; exact this
    · have := hp j k hjl hk hgt; rw [hjv] at this; exact fun e => this e.symm
  have hnew : ∀ q ∈ own, q.b ≠ b → q.b ≠ b' := fun q hq hne => by
    rcases hb with rfl | rfl
    · exact hne
    · exact Nat.ne_of_lt (h.stab.own q hq).lt
  have hget : ∀ q ∈ own.set j ⟨b', cs', ty', sz'⟩, q = ⟨b', cs', ty', sz'⟩ ∨ (q ∈ own ∧ q.b ≠ b) := fun q hq => by
    obtain ⟨k, hk, rfl⟩ := List.getElem_of_mem hq
    have hk' : k < own.length := by simpa using hk
    by_cases e : j = k
    · subst e; left; simp
    · right
      rw [List.getElem_set_ne e]
      exact ⟨List.getElem_mem hk', hother k hk' (Ne.symm e)⟩
  have hXb' : X b' = none := by
    rcases hb with rfl | rfl
    · exact h.apart _ hm
    · exact h.stab.pers.fresh
  refine ⟨h.below.grown hg h.below.size (fun k e => by cases e; exact hb0), h.old, ⟨fun q hq => ?_, fun k o hk => ?_⟩, fun q hq => ?_, fun q hq => ?_, ?_⟩
  · rcases hget q hq with rfl | ⟨hq, hne⟩
    · exact hin
    · have hl := (h.stab.own q hq).lt
      obtain ⟨r, hr, hz⟩ := h.stab.own q hq
      exact ⟨r, (hg.block q.b hl (fun e => hne (by injection e))).trans hr, hz⟩
  · have hkb : k ≠ b := fun e => by subst e; rw [h.apart _ hm] at hk; cases hk
    exact (hg.block k (h.stab.pers.lt hk) (fun e => hkb (by injection e))).trans (h.stab.pers k o hk)
  · rcases hget q hq with rfl | ⟨hq, _⟩
    · rcases hb with rfl | rfl
      · exact hb0
      · exact h.below.size
    · exact h.new q hq
  · rcases hget q hq with rfl | ⟨hq, _⟩
    · exact hXb'
    · exact h.apart q hq
  · refine List.pairwise_iff_getElem.2 fun x y hx hy hxy => ?_
    have hx' : x < own.length := by simpa using hx
    have hy' : y < own.length := by simpa using hy
    have hp := List.pairwise_iff_getElem.1 h.nodup x y hx' hy' hxy
    by_cases ex : j = x
    · subst ex
      rw [List.getElem_set_self, List.getElem_set_ne (by omega)]
      exact fun e => hnew _ (List.getElem_mem hy') (hother y hy' (by omega)) e.symm
    · by_cases ey : j = y
      · subst ey
        rw [List.getElem_set_self, List.getElem_set_ne (by omega)]
        exact hnew _ (List.getElem_mem hx') (hother x hx' (by omega))
      · rw [List.getElem_set_ne ex, List.getElem_set_ne ey]; exact hp
/-- A new block, and nothing else has changed. -/
theorem SatC.newRow {w0 : World} {W W' : World} (h : SatC w0 X0 own X W) (hg : W.grownBy W' none) {b' : Nat} (hb : W.heap.size ≤ b') {cs' : List Value} {ty' : TypeId} {sz' : Nat} (hin : Ow.In ⟨b', cs', ty', sz'⟩ W') (hX : X b' = none) :
    SatC w0 X0 (⟨b', cs', ty', sz'⟩ :: own) X W' := by
  have hgr : Grow W W' := ⟨hg.size, fun k hk => hg.block k hk (by simp)⟩
  refine ⟨h.below.grown hg h.below.size (fun k e => by cases e), h.old, ⟨fun q hq => ?_, hgr.pin h.stab.pers⟩, fun q hq => ?_, fun q hq => ?_, .cons (fun q hq => ?_) h.nodup⟩
  · rcases List.mem_cons.1 hq with rfl | hq
    · exact hin
    · exact hgr.ow (h.stab.own q hq)
  · rcases List.mem_cons.1 hq with rfl | hq
    · exact Nat.le_trans h.below.size hb
    · exact h.new q hq
  · rcases List.mem_cons.1 hq with rfl | hq
    · exact hX
    · exact h.apart q hq
  · have := (h.stab.own q hq).lt
    simp only
    omega

theorem Sat.regrow {W W' : World} (h : Sat w0 X0 own X W) {b sz j : Nat} {cs : List Value} {ty : TypeId} (hj : own[j]? = some ⟨b, cs, ty, sz⟩) (hg : W.grownBy W' (some b)) {b' : Nat} (hb : b' = b ∨ b' = W.heap.size) {cs' : List Value} {ty' : TypeId} {sz' : Nat} (hin : Ow.In ⟨b', cs', ty', sz'⟩ W') :
    Sat w0 X0 (own.set j ⟨b', cs', ty', sz'⟩) X W' :=
  ⟨h.toSatC.regrow hj hg hb hin, fun p hp => by
    obtain ⟨h1, h2, h3, h4⟩ := h.res p hp
    have hbp : b ≠ p.1 := h3 _ (List.mem_of_getElem? hj)
    refine ⟨(hg.block p.1 (get_lt h1) (fun e => hbp (by injection e with e; exact e.symm))).trans h1, h2, fun q hq => ?_, h4⟩
    rcases set_b hq with rfl | hq
    · rcases hb with rfl | rfl
      · exact hbp
      · exact Ne.symm (Nat.ne_of_lt (get_lt h1))
    · exact h3 q hq⟩
theorem Sat.newRow {W W' : World} (h : Sat w0 X0 own X W) (hg : W.grownBy W' none) {b' : Nat} (hb : W.heap.size ≤ b') {cs' : List Value} {ty' : TypeId} {sz' : Nat} (hin : Ow.In ⟨b', cs', ty', sz'⟩ W') (hX : X b' = none) :
    Sat w0 X0 (⟨b', cs', ty', sz'⟩ :: own) X W' :=
  ⟨h.toSatC.newRow hg hb hin hX, fun p hp => by
    obtain ⟨h1, h2, h3, h4⟩ := h.res p hp
    refine ⟨(hg.block p.1 (get_lt h1) (by simp)).trans h1, h2, fun q hq => ?_, h4⟩
    rcases List.mem_cons.1 hq with rfl | hq
    · have := get_lt h1
      simp only
      omega
    · exact h3 q hq⟩
theorem run_append_none {t ty e : TypeId} {size bytes : Nat} (ht : SlT P t e size bytes) {W : World} {A : Option Addr} {m cap c : Nat} (h : A = none → m = 0) : (Builtin.append_ #[t, t] ty #[.slice A m cap, .slice none 0 c]).run P W = .ok (.slice A m (if m ≤ cap then cap else cap)) W ∨ ¬ m ≤ cap := by
  obtain ⟨i, z, h1, h2, h3, h4, h5, h6⟩ := ht.info
  by_cases hm : m ≤ cap
  · left
    cases A <;> simp [Builtin.append_, run_underlying ht.und, sizeOf, typeInfo, h1, Builtin.lenOf, Builtin.firstCells, hm, storeCells]
  · exact .inr hm

theorem execAppend {t : TypeId} {s x : Operand} {a : Act} {W W' : World} {oper : Oper} {v u v' : Value} (ho : oper.op = .call { callee := .builtin .append, args := #[s, x], argTypes := #[t, t] }) (hs : a.eval s = v) (hx : a.eval x = u)
    (h : (Builtin.append_ #[t, t] oper.type #[v, u]).run P W = .ok v' W') : (execOp a.eval oper).run P W = .ok (.value v') W' := by
  simp only [execOp, ho, resolve, invoke, builtin, Sem.run_bind, Sem.run_pure, Result.andThen_ok, List.map_toArray, List.map_cons, List.map_nil, hs, hx, h]

/-- append onto a row of the call's own. -/
theorem op_append {t e : TypeId} {s x : Operand} {b q cap sz j m size bytes : Nat} {cs news : List Value} {u : Value} (ht : SlT P t e size bytes) (hs : eev env s = some (.slice (some ⟨b, 0, none⟩) q cap)) (hx : eev env x = some u)
    (ho : AtO own b cs e sz j) (hsz : sz = cap * size) (hq : cs.length = q * size) (hqc : q ≤ cap) (hcap : cap ≤ maxLen) (hsrc : Src own X u m size news) (h1 : ∀ y ∈ news, y.oneCell' = true) (h63 : q + m ≤ maxLen) (hby : (q + m) * bytes ≤ 140737488355328) :
    OpX P n w0 X0 env own X (.call { callee := .builtin .append, args := #[s, x], argTypes := #[t, t] }) false fun v own' X' => ∃ b' cap', v = .slice (some ⟨b', 0, none⟩) (q + m) cap' ∧ own' = own.set j ⟨b', cs ++ news, e, cap' * size⟩ ∧ X = X' ∧ q + m ≤ cap' ∧ cap' ≤ maxLen := by
  intro a W oper K Q ro hop ha hsat hK
  obtain ⟨i, z, i1, i2, i3, i4, i5, i6⟩ := ht.info
  have hin := hsat.stab.own _ ho.mem
  have hb0 := hsat.new _ ho.mem
  obtain ⟨r, hr, hz⟩ := hin
  simp only at hr hz hb0
  have hrow : W.ownsRow w0.heap.size e size (.slice (some ⟨b, 0, none⟩) q cap) q cs :=
    ⟨hq, .inr ⟨b, cap, (cs ++ r).toArray, rfl, hb0, hr, hqc, hcap, by simp; omega, by simp [← hq]⟩⟩
  obtain ⟨hnl, A, c, rfl, hA⟩ := hsrc
  have fin : ∀ v' W', W'.ownsRow w0.heap.size e size v' (q + m) (cs ++ news) → W.grownBy W' (some b) → (∃ g, v'.ownBlock = some g ∧ (g = b ∨ g = W.heap.size)) → K (a.put oper.dst v') W' := by
    intro v' W' hown hg ⟨g, hg1, hg2⟩
    rcases hown.2 with ⟨rfl, _⟩ | ⟨g', cap', cur, rfl, hg0, hcur, hn, hmx, hsz', htk⟩
    · simp [Value.ownBlock] at hg1
    · have hgg : g' = g := by simpa [Value.ownBlock] using hg1
      subst hgg
      have hin' : Ow.In ⟨g', cs ++ news, e, cap' * size⟩ W' := by
        refine ⟨cur.toList.drop ((q + m) * size), ?_, ?_⟩
        · rw [← htk, List.take_append_drop]; exact hcur
        · have hmul : (q + m) * size ≤ cap' * size := Nat.mul_le_mul_right _ hn
          have hl := hown.1
          simp only at hl ⊢
          rw [hl, List.length_drop, Array.length_toList, hsz']; omega
      exact hK _ _ X W' ⟨g', cap', rfl, rfl, rfl, hn, hmx⟩ (hsat.regrow ho.get hg hg2 hin') (fun h => by cases h)
  have key : ∃ v' W', (Builtin.append_ #[t, t] oper.type #[.slice (some ⟨b, 0, none⟩) q cap, .slice A m c]).run P W = .ok v' W' ∧ W'.ownsRow w0.heap.size e size v' (q + m) (cs ++ news) ∧ W.grownBy W' (some b) ∧ ∃ g, v'.ownBlock = some g ∧ (g = b ∨ g = W.heap.size) := by
    have have0 : ∀ (ad : Addr), (∀ j u, news[j]? = some u → W.cell? (ad.add j) = some u) → ∃ v' W', (Builtin.append_ #[t, t] oper.type #[.slice (some ⟨b, 0, none⟩) q cap, .slice (some ad) m c]).run P W = .ok v' W' ∧ W'.ownsRow w0.heap.size e size v' (q + m) (cs ++ news) ∧ W.grownBy W' (some b) ∧ ∃ g, v'.ownBlock = some g ∧ (g = b ∨ g = W.heap.size) := fun ad had => by
      obtain ⟨v', W', r1, r2, r3, _, r5⟩ := run_append_own_at (P := P) W w0.heap.size t oper.type e i z size bytes ht.und i1 i4 i2 i3 i5 i6 _ q cs hrow ad m c news hnl had h1 h63 hby hsat.below.size
      refine ⟨v', W', r1, r2, r3, ?_⟩
      rcases r5 with r5 | r5
      · exact ⟨b, r5, .inl rfl⟩
      · exact ⟨_, r5, .inr rfl⟩
    rcases A with _ | ad
    · have hm : m = 0 := by
        rcases Nat.eq_zero_or_pos m with h0 | h0
        · exact h0
        · obtain ⟨_, _, h, _⟩ := hA h0; cases h
      subst hm
      have hn0 : news = [] := List.eq_nil_of_length_eq_zero (by simpa using hnl)
      subst hn0
      rcases run_append_none (P := P) (ty := oper.type) ht (W := W) (A := some ⟨b, 0, none⟩) (m := q) (cap := cap) (c := c) (fun h => by cases h) with h | h
      · refine ⟨_, W, h, ?_, World.grownBy.refl W _, b, by simp [Value.ownBlock], .inl rfl⟩
        simpa using hrow
      · exact absurd hqc h
    · refine have0 ad fun q' u hu => ?_
      have hm : 0 < m := by
        rcases Nat.eq_zero_or_pos m with h0 | h0
        · subst h0
          have hn0 : news = [] := List.eq_nil_of_length_eq_zero (by simpa using hnl)
          subst hn0; simp at hu
        · exact h0
      obtain ⟨b2, o2, hA2, hc2⟩ := hA hm
      cases hA2
      rw [Addr.add_mid]
      exact hc2 W hsat.stab _ _ hu
  obtain ⟨v', W', r1, r2, r3, r4⟩ := key
  refine wp_value (noDefer_spec (by rw [hop]; rfl)) (execAppend hop (ha.eval hs) (ha.eval hx) r1) ?_
  exact fin v' W' r2 r3 r4
/-- append onto nil: a new row. -/
theorem op_appendNil {t e : TypeId} {s x : Operand} {m size bytes : Nat} {news : List Value} {u : Value} (ht : SlT P t e size bytes) (hs : eev env s = some (.slice none 0 0)) (hx : eev env x = some u)
    (hsrc : Src own X u m size news) (hm : 0 < m) (h1 : ∀ y ∈ news, y.oneCell' = true) (h63 : m ≤ maxLen) (hby : m * bytes ≤ 140737488355328) :
    OpX P n w0 X0 env own X (.call { callee := .builtin .append, args := #[s, x], argTypes := #[t, t] }) true fun v own' X' => ∃ b' cap', v = .slice (some ⟨b', 0, none⟩) m cap' ∧ own' = ⟨b', news, e, cap' * size⟩ :: own ∧ X = X' ∧ m ≤ cap' ∧ cap' ≤ maxLen := by
  intro a W oper K Q ro hop ha hsat hK
  obtain ⟨i, z, i1, i2, i3, i4, i5, i6⟩ := ht.info
  obtain ⟨hnl, A, c, rfl, hA⟩ := hsrc
  obtain ⟨b2, o2, rfl, hc2⟩ := hA hm
  obtain ⟨v', W', r1, r2, r3, _, r5⟩ := run_append_own_at (P := P) W W.heap.size t oper.type e i z size bytes ht.und i1 i4 i2 i3 i5 i6 _ 0 [] (World.ownsRow_nil W _ e size) ⟨b2, o2, none⟩ m c news hnl (fun q u hu => by rw [Addr.add_mid]; exact hc2 W hsat.stab _ _ hu) h1 (by simpa using h63) (by simpa using hby) (Nat.le_refl _)
  rw [Nat.zero_add, List.nil_append] at r2
  refine wp_value (noDefer_spec (by rw [hop]; rfl)) (execAppend hop (ha.eval hs) (ha.eval hx) r1) ?_
  rcases r2.2 with ⟨_, h0⟩ | ⟨g', cap', cur, rfl, hg0, hcur, hn, hmx, hsz', htk⟩
  · omega
  · have hg3 : W.grownBy W' none := r3
    have hgs : g' = W.heap.size := by simpa [Value.ownBlock] using r5
    have hin' : Ow.In ⟨g', news, e, cap' * size⟩ W' := by
      refine ⟨cur.toList.drop (m * size), ?_, ?_⟩
      · rw [← htk, List.take_append_drop]; exact hcur
      · have hmul : m * size ≤ cap' * size := Nat.mul_le_mul_right _ hn
        simp only
        rw [hnl, List.length_drop, Array.length_toList, hsz']; omega
    subst hgs
    exact hK _ _ X W' ⟨_, cap', rfl, rfl, rfl, hn, hmx⟩ (hsat.newRow hg3 hg0 hin' hsat.stab.pers.fresh) (fun _ => ⟨hg3.size, fun k hk => hg3.block k hk (by simp)⟩)
/-- append of nothing onto nil. -/
theorem op_appendNil0 {t e : TypeId} {s x : Operand} {size bytes : Nat} {A : Option Addr} {c : Nat} (ht : SlT P t e size bytes) (hs : eev env s = some (.slice none 0 0)) (hx : eev env x = some (.slice A 0 c)) :
    OpY P n env own X (.call { callee := .builtin .append, args := #[s, x], argTypes := #[t, t] }) (.slice none 0 0) := by
  intro a W oper hop ha _
  obtain ⟨i, z, i1, i2, i3, i4, i5, i6⟩ := ht.info
  refine execAppend hop (ha.eval hs) (ha.eval hx) ?_
  have hl : ∀ (x : Addr), (loadCells x 0).run P W = .ok #[] W := fun x => by simpa using run_loadCells_list (P := P) W x [] (by simp)
  cases A <;> simp [Builtin.append_, run_underlying ht.und, sizeOf, typeInfo, i1, Builtin.lenOf, Builtin.firstCells, hl]
end
end Go.Proofs.YtnpcilglilfajaaGreatDoor
namespace Go.Proofs.YtnpcilglilfajaaGreatDoor
open Go.RowKit
section
variable {P : Program} {n : NM} {w0 : Base} {X0 X : PMap} {own : Own} {env : Env}
theorem madeCells_one (z : Value) (q : Nat) : madeCells #[z] q = (List.replicate q z).toArray := by
  apply Array.ext
  · simp [madeCells]
  · intro i h1 h2
    simp [madeCells, Nat.mod_one]
/-- make([]T, l, c), an element one cell. -/
theorem op_make {t e : TypeId} {x y : Operand} {bytes l c : Nat} {kl kc : IntKind} {z : Value} (ht : P.underlying t = some (.slice e)) (he : ∃ i, P.info? e = some i ∧ i.size = 1 ∧ i.bytes = bytes ∧ i.zero = some z) (hz : z.cells = #[z])
    (hx : eev env x = some (.int kl (l : Int))) (hy : eev env y = some (.int kc (c : Int))) (hlc : l ≤ c) (hb : bytes * c ≤ 140737488355328) (hc : c ≤ 9223372036854775807) :
    OpX P n w0 X0 env own X (.makeSlice t x y) true fun v own' X' => ∃ b, v = .slice (some ⟨b, 0, none⟩) l c ∧ own' = ⟨b, List.replicate l z, e, c⟩ :: own ∧ X = X' := by
  intro a W oper K Q ro hop ha hs hK
  obtain ⟨i, h1, h2, h3, h4⟩ := he
  have hbi : (i.bytes : Int) * (c : Int) ≤ 281474976710656 := by
    have : ((i.bytes * c : Nat) : Int) ≤ 281474976710656 := by rw [h3]; omega
    rwa [Int.natCast_mul] at this
  have hr := run_make (P := P) W t e i z ht h1 h4 kl kc (l : Int) (c : Int) (by omega) (by omega) hbi (by omega)
  simp only [Int.toNat_natCast, h2, Nat.mul_one, hz, madeCells_one] at hr
  refine wp_value (v := .slice (some ⟨W.heap.size, 0, none⟩) l c) (W' := W.alloc (.cells (List.replicate c z).toArray e)) (noDefer_spec (by rw [hop]; rfl)) ?_ (hK _ (⟨W.heap.size, List.replicate l z, e, c⟩ :: own) X _ ⟨_, rfl, rfl, rfl⟩ ?_ fun _ => Grow.alloc W _)
  · simp [execOp, hop, ha.eval hx, ha.eval hy, hr]
  · have h1 := hs.alloc (List.replicate c z) e
    have e1 : List.replicate c z = List.replicate l z ++ List.replicate (c - l) z := by rw [List.replicate_append_replicate]; congr 1; omega
    rw [List.length_replicate] at h1
    rw [show (⟨W.heap.size, List.replicate c z, e, c⟩ : Ow) = ⟨W.heap.size, List.replicate l z ++ List.replicate (c - l) z, e, c⟩ by rw [← e1]] at h1
    exact h1.forget

theorem op_slice {t e : TypeId} {x : Operand} {lo hi : Option Operand} {b o len cap size l h : Nat} {row : Bool} (ht : P.underlying t = some (.slice e)) (he : Ty P e row size) (hx : eev env x = some (.slice (some ⟨b, o, none⟩) len cap))
    (hl : ∀ q, lo = some q → ∃ k, eev env q = some (.int k (l : Int))) (hl0 : lo = none → l = 0) (hh : ∀ q, hi = some q → ∃ k, eev env q = some (.int k (h : Int))) (hh0 : hi = none → h = len) (h1 : l ≤ h) (h2 : h ≤ cap) :
    OpY P n env own X (.slice t x lo hi none) (.slice (some (if cap = l then ⟨b, o, none⟩ else ⟨b, o + l * size, none⟩)) (h - l) (cap - l)) := by
  intro a W oper hop ha _
  have hinf := he.info
  have hinf' : ∃ inf, P.info? e = some inf ∧ inf.size = size := by
    cases hq : P.info? e with
    | none => simp [hq] at hinf
    | some inf => exact ⟨inf, rfl, by simpa [hq] using hinf⟩
  obtain ⟨inf, hq, hsz⟩ := hinf'
  have hsl : ∀ (lo' hi' : Option Value), (∀ v, lo' = some v → ∃ k, v = .int k (l : Int)) → (lo' = none → l = 0) → (∀ v, hi' = some v → ∃ k, v = .int k (h : Int)) → (hi' = none → h = len) →
      (Instr.sliceAt t (.slice (some ⟨b, o, none⟩) len cap) lo' hi' none).run P W = .ok (.slice (some (if cap = l then ⟨b, o, none⟩ else ⟨b, o + l * size, none⟩)) (h - l) (cap - l)) W := by
    intro lo' hi' a1 a2 a3 a4
    have hb2 : (Instr.sliceBounds true len cap lo' hi' none).run P W = .ok (l, h, cap) W := by
      cases lo' with
      | none =>
        have := a2 rfl
        subst this
        cases hi' with
        | none => have := a4 rfl; subst this; simp [Instr.sliceBounds]
        | some v => obtain ⟨k, rfl⟩ := a3 v rfl; simp [Instr.sliceBounds, Instr.sliceBound, asIntOf, h2]
      | some u =>
        obtain ⟨k', rfl⟩ := a1 u rfl
        cases hi' with
        | none => have := a4 rfl; subst this; simp [Instr.sliceBounds, Instr.sliceBound, asIntOf, h1]
        | some v => obtain ⟨k, rfl⟩ := a3 v rfl; simp [Instr.sliceBounds, Instr.sliceBound, asIntOf, h2, h1]
    simp only [Instr.sliceAt, Sem.run_bind, run_underlying ht, Result.andThen_ok, Instr.slice, hb2, sizeOf, typeInfo]
    by_cases hc : cap = l <;> simp [hc, hq, hsz, Addr.add_mid]
  have := hsl (lo.map a.eval) (hi.map a.eval) (fun v hv => by
      cases lo with
      | none => simp at hv
      | some q => obtain ⟨k, hk⟩ := hl q rfl; simp only [Option.map_some, Option.some.injEq] at hv; exact ⟨k, by rw [← hv, ha.eval hk]⟩)
    (fun hv => hl0 (by cases lo <;> simp_all)) (fun v hv => by
      cases hi with
      | none => simp at hv
      | some q => obtain ⟨k, hk⟩ := hh q rfl; simp only [Option.map_some, Option.some.injEq] at hv; exact ⟨k, by rw [← hv, ha.eval hk]⟩)
    (fun hv => hh0 (by cases hi <;> simp_all))
  simp [execOp, hop, ha.eval hx, this]

/-- Fields written into zeros. -/
def bfill (fs : List (Nat × Nat)) : List Value → List (Nat × Value) → Option (List Value)
  | cells, [] => some cells
  | cells, (i, v) :: r =>
    match fs[i]? with
    | none => none
    | some (off, size) => bif Nat.beq (vcells v).length size && Nat.ble (off + size) cells.length then bfill fs (csets cells off (vcells v)) r else none
theorem csets_foldl (off : Nat) : ∀ (vs : List Value) (cs : Array Value) (q : Nat), (vs.zipIdx q).foldl (fun (cs : Array Value) (p : Value × Nat) => cs.setIfInBounds (off + p.2) p.1) cs = (csets cs.toList (off + q) vs).toArray
  | [], cs, q => by simp [csets]
  | v :: vs, cs, q => by
    rw [List.zipIdx_cons, List.foldl_cons, csets_foldl off vs _ (q + 1)]
    simp [csets, Nat.add_assoc]
theorem fill_bfill {fs : List (Nat × Nat)} : ∀ (parts : List (Nat × Value)) (cells : List Value) (out : List Value), bfill fs cells parts = some out → Instr.fill (fun i => fs[i]?) cells.toArray parts = some out.toArray
  | [], cells, out, h => by simp only [bfill, Option.some.injEq] at h; subst h; rfl
  | (i, v) :: r, cells, out, h => by
    simp only [bfill] at h
    simp only [Instr.fill]
    cases hf : fs[i]? with
    | none => rw [hf] at h; cases h
    | some os =>
      obtain ⟨off, size⟩ := os
      rw [hf] at h
      simp only at h ⊢
      cases hb : Nat.beq (vcells v).length size && Nat.ble (off + size) cells.length with
      | false => rw [hb] at h; cases h
      | true =>
        rw [hb] at h
        simp only [Bool.and_eq_true] at hb
        have e1 : (vcells v).length = size := Nat.eq_of_beq_eq_true hb.1
        have e2 : off + size ≤ cells.length := Nat.le_of_ble_eq_true hb.2
        have hvs : v.cells.size = size := by rw [← Array.length_toList, vcells_spec, e1]
        have hcond : (decide (v.cells.size ≠ size) || decide (off + v.cells.size > cells.toArray.size)) = false := by simp [hvs]; omega
        simp only [hcond, Bool.false_eq_true, if_false]
        have := csets_foldl off (vcells v) cells.toArray 0
        rw [Nat.add_zero] at this
        have hz : v.cells.zipIdx.foldl (fun (cs : Array Value) (p : Value × Nat) => cs.setIfInBounds (off + p.2) p.1) cells.toArray = (csets cells off (vcells v)).toArray := by
          rw [← this, ← vcells_spec]
          rw [← Array.foldl_toList]
          simp
        have hz' : (v.cells.zipIdx.foldl (fun cs (x : Value × Nat) => match x with | (c, j) => cs.setIfInBounds (off + j) c) cells.toArray) = (csets cells off (vcells v)).toArray := hz
        rw [hz']
        exact fill_bfill r _ out h

theorem evalParts {ps : Array (Nat × Operand)} {qs : List (Nat × Value)} {a : Act} (ha : EOk n env a) (h : ps.toList.map (fun p => (p.1, eev env p.2)) = qs.map fun p => (p.1, some p.2)) : (ps.map fun (p : Nat × Operand) => (p.1, a.eval p.2)) = qs.toArray := by
  have all : ∀ (xs : List (Nat × Operand)) (vs : List (Nat × Value)), xs.map (fun p => (p.1, eev env p.2)) = vs.map (fun p => (p.1, some p.2)) → xs.map (fun p => (p.1, a.eval p.2)) = vs := by
    intro xs
    induction xs with
    | nil => intro vs h; cases vs <;> simp_all
    | cons x xs ih =>
      intro vs h
      cases vs with
      | nil => simp at h
      | cons v vs =>
        simp only [List.map_cons, List.cons.injEq, Prod.mk.injEq] at h
        obtain ⟨⟨h1, h2⟩, h3⟩ := h
        simp only [List.map_cons, ha.eval h2, ih vs h3, h1]
  apply Array.toList_inj.1
  simp [all _ _ h]
/-- What is known of a struct's type. -/
structure StT (P : Program) (t : TypeId) (fs : List (Nat × Nat)) (zs : List Value) : Prop where
  out : ∃ fields : Array Field, P.underlying t = some (.struct fields) ∧ (∀ W, (fields.mapM fun (f : Field) => (do pure (f.offset, ← sizeOf f.type) : Sem (Nat × Nat))).run P W = .ok fs.toArray W) ∧ Zero P t zs
theorem op_build {t : TypeId} {ps : Array (Nat × Operand)} {qs : List (Nat × Value)} {fs : List (Nat × Nat)} {zs out : List Value} (ht : StT P t fs zs) (hp : ps.toList.map (fun p => (p.1, eev env p.2)) = qs.map fun p => (p.1, some p.2)) (hf : bfill fs zs qs = some out) :
    OpY P n env own X (.build t ps) (.agg out.toArray) := by
  intro a W oper hop ha _
  obtain ⟨fields, h1, h2, h3⟩ := ht.out
  obtain ⟨z, hc, hr⟩ := h3.run
  have hfl := fill_bfill qs zs out hf
  have hb : (Instr.build t qs.toArray).run P W = .ok (.agg out.toArray) W := by
    simp only [Instr.build, Sem.run_bind, hr, Result.andThen_ok, run_underlying h1, h2, hc, List.getElem?_toArray, hfl, Sem.run_pure]
  have he := evalParts ha hp
  simp only [execOp, hop]
  have he' : (ps.map fun (x : Nat × Operand) => match x with | (i, x) => (i, a.eval x)) = qs.toArray := he
  rw [he']
  simp [hb]
theorem rep_cells (zs : List Value) : ∀ (len : Nat), (List.range (len * zs.length)).map (fun i => zs[i % zs.length]!) = (List.replicate len zs).flatten
  | 0 => by simp
  | len + 1 => by
    have h := rep_cells zs len
    rw [Nat.add_mul, Nat.one_mul, List.range_add, List.map_append, h, List.replicate_succ', List.flatten_append]
    congr 1
    simp only [List.map_map, List.flatten_cons, List.flatten_nil, List.append_nil]
    apply List.ext_getElem
    · simp
    · intro i h1 h2
      have hi : (len * zs.length + i) % zs.length = i := by rw [Nat.mul_comm, Nat.mul_add_mod]; exact Nat.mod_eq_of_lt h2
      simp [hi, h2]
theorem op_buildSlice {t e : TypeId} {len size : Nat} {ps : Array (Nat × Operand)} {qs : List (Nat × Value)} {zs out : List Value} (ht : P.underlying t = some (.slice e)) (he : ∃ i z, P.info? e = some i ∧ i.size = size ∧ i.zero = some z ∧ z.cells = zs.toArray) (hp : ps.toList.map (fun p => (p.1, eev env p.2)) = qs.map fun p => (p.1, some p.2))
    (hlen : Nat.ble (len * size) 16777216 = true) (hf : bfill ((List.range len).map fun i => (i * size, size)) (List.replicate len zs).flatten qs = some out) (hzs : zs.length = size) (hlq : qs.all (fun p => Nat.blt p.1 len) = true) :
    OpX P n w0 X0 env own X (.buildSlice t len ps) true fun v own' X' => ∃ b, v = .slice (some ⟨b, 0, none⟩) len len ∧ own' = ⟨b, out, e, out.length⟩ :: own ∧ X = X' := by
  intro a W oper K Q ro hop ha hs hK
  obtain ⟨i, z, h1, h2, h4, h5⟩ := he
  have hle : len * size ≤ 16777216 := Nat.le_of_ble_eq_true hlen
  have hrep := rep_cells zs len
  rw [hzs] at hrep
  have hcells : ∀ zc : Array Value, (len * size = 0 → True) → (len * size ≠ 0 → zc = zs.toArray) → (Array.range (len * size)).map (zc[· % zc.size]!) = (List.replicate len zs).flatten.toArray := by
    intro zc _ hzc
    by_cases h0 : len * size = 0
    · rw [← hrep]; simp [h0]
    · rw [hzc h0, ← hrep]
      apply Array.toList_inj.1
      simp [hzs]
  have hfl := fill_bfill qs _ out hf
  have hfl2 : Instr.fill (fun i => some (i * size, size)) (List.replicate len zs).flatten.toArray qs = some out.toArray := by
    have key : ∀ (parts : List (Nat × Value)) (cells : Array Value), (∀ p ∈ parts, p.1 < len) → Instr.fill (fun i => some (i * size, size)) cells parts = Instr.fill (fun i => ((List.range len).map fun i => (i * size, size))[i]?) cells parts := by
      intro parts
      induction parts with
      | nil => intro cells _; rfl
      | cons p r ih =>
        intro cells hlt
        obtain ⟨i, v⟩ := p
        have hi : i < len := hlt (i, v) (by simp)
        simp only [Instr.fill]
        have hg : ((List.range len).map fun i => (i * size, size))[i]? = some (i * size, size) := by simp [hi]
        rw [hg]
        simp only
        split
        · rfl
        · exact ih _ fun p hp => hlt p (by simp [hp])
    rw [key qs _ fun p hp => Nat.le_of_ble_eq_true (List.all_eq_true.1 hlq p hp)]
    exact hfl
  have hb : (Instr.buildSlice t len qs.toArray).run P W = .ok (.slice (some ⟨W.heap.size, 0, none⟩) len len) (W.alloc (.cells out.toArray e)) := by
    have hn : ¬ (16777216 < len * size) := by omega
    simp only [Instr.buildSlice, Sem.run_bind, run_underlying ht, Result.andThen_ok]
    by_cases h0 : len * size = 0
    · have hc0 := hcells #[] (fun _ => trivial) (fun h => absurd h0 h)
      simp only [h0] at hc0
      simp [sizeOf, typeInfo, h1, h2, h0, newRow, newObj]
      simp at hc0
      rw [← hc0] at hfl2
      simp [hfl2, Sem.run, World.alloc_eq]
    · have hc0 := hcells z.cells (fun h => absurd h h0) (fun _ => h5)
      simp [sizeOf, typeInfo, h1, h2, h0, hn, zeroValue, h4, newRow, newObj, Sem.run, World.alloc_eq, hc0, hfl2]
  refine op_new (noDefer_spec (by rw [hop]; rfl)) hs (cs := out) (ty := e) (v := .slice (some ⟨W.heap.size, 0, none⟩) len len) ?_ ⟨_, rfl, rfl, rfl⟩ hK
  have he' : (ps.map fun (x : Nat × Operand) => match x with | (i, x) => (i, a.eval x)) = qs.toArray := evalParts ha hp
  simp only [execOp, hop]
  rw [he']
  simp [hb]

section
variable {t t' : TypeId} {x y : Operand}
theorem op_bits {op : BinOp} {k : IntKind} {p q r : Int} (hx : eev env x = some (.int k p)) (hy : eev env y = some (.int k q)) (ho : op = .and ∨ op = .or ∨ op = .xor ∨ op = .andNot) (hr : bits op k p q = r) : OpY P n env own X (.binOp op t x y t') (.int k r) := by
  intro a W oper hop ha _
  subst hr
  rcases ho with rfl | rfl | rfl | rfl <;> simp [execOp, hop, ha.eval hx, ha.eval hy, binOp, eqGuard, Op.intBits, bits]
theorem op_and {p q : Nat} (hx : eev env x = some (.int .u64 (p : Int))) (hy : eev env y = some (.int .u64 (q : Int))) (h1 : p < 18446744073709551616) (h2 : q < 18446744073709551616) : OpY P n env own X (.binOp .and t x y t') (.int .u64 ((p &&& q : Nat) : Int)) := op_bits hx hy (by simp) (u64_and_nat p q h1 h2)
theorem op_or {p q : Nat} (hx : eev env x = some (.int .u64 (p : Int))) (hy : eev env y = some (.int .u64 (q : Int))) (h1 : p < 18446744073709551616) (h2 : q < 18446744073709551616) : OpY P n env own X (.binOp .or t x y t') (.int .u64 ((p ||| q : Nat) : Int)) := op_bits hx hy (by simp) (u64_or_nat p q h1 h2)
theorem op_shl {k k' : IntKind} {p : Int} {q : Nat} (hx : eev env x = some (.int k p)) (hy : eev env y = some (.int k' (q : Int))) : OpY P n env own X (.binOp .shl t x y t') (.int k (k.wrap (p * 2 ^ (min q k.bits)))) := by
  intro a W oper hop ha _
  have hq : ¬ ((q : Int) < 0) := by omega
  simp [execOp, hop, ha.eval hx, ha.eval hy, binOp, eqGuard, Op.shift, hq]
theorem op_shr {k k' : IntKind} {p : Int} {q : Nat} (hx : eev env x = some (.int k p)) (hy : eev env y = some (.int k' (q : Int))) : OpY P n env own X (.binOp .shr t x y t') (.int k (p.fdiv (2 ^ (min q k.bits)))) := by
  intro a W oper hop ha _
  have hq : ¬ ((q : Int) < 0) := by omega
  simp [execOp, hop, ha.eval hx, ha.eval hy, binOp, eqGuard, Op.shift, hq]
/-- A mask to the right by fewer than 64. -/
theorem op_shrN {k' : IntKind} {p q : Nat} (hx : eev env x = some (.int .u64 (p : Int))) (hy : eev env y = some (.int k' (q : Int))) (hq : q < 64) : OpY P n env own X (.binOp .shr t x y t') (.int .u64 ((p >>> q : Nat) : Int)) := by
  have h := op_shr (P := P) (n := n) (own := own) (X := X) (t := t) (t' := t') hx hy
  have e : min q IntKind.u64.bits = q := Nat.min_eq_left (by show q ≤ 64; omega)
  rw [e] at h
  have e2 : (p : Int).fdiv (2 ^ q) = ((p >>> q : Nat) : Int) := by
    rw [Nat.shiftRight_eq_div_pow]
    have : ((2 : Int) ^ q) = ((2 ^ q : Nat) : Int) := by simp
    rw [this, Int.fdiv_eq_ediv_of_nonneg _ (Int.natCast_nonneg _)]
    simp
  rwa [e2] at h
/-- One to the left by fewer than 64. -/
theorem op_bit {k' : IntKind} {q : Nat} (hx : eev env x = some (.int .u64 1)) (hy : eev env y = some (.int k' (q : Int))) (hq : q < 64) : OpY P n env own X (.binOp .shl t x y t') (.int .u64 ((2 ^ q : Nat) : Int)) := by
  have h := op_shl (P := P) (n := n) (own := own) (X := X) (t := t) (t' := t') hx hy
  have e : min q IntKind.u64.bits = q := Nat.min_eq_left (by show q ≤ 64; omega)
  rw [e] at h
  have hlt : 2 ^ q < 18446744073709551616 := Nat.pow_lt_pow_right (a := 2) (by omega) hq
  have e2 : IntKind.u64.wrap (1 * 2 ^ q) = ((2 ^ q : Nat) : Int) := by
    have : ((1 : Int) * 2 ^ q) = ((2 ^ q : Nat) : Int) := by simp
    rw [this]
    generalize 2 ^ q = z at hlt
    simp [IntKind.wrap, IntKind.signed, IntKind.bits]
    omega
  rwa [e2] at h
theorem op_convert {src dst : TypeId} {k k' : IntKind} {p : Int} {d : TypeDesc} (hs : P.underlying src = some d) (hd : P.underlying dst = some (.int k)) (hx : eev env x = some (.int k' p)) : OpY P n env own X (.convert src dst x) (.int k (k.wrap p)) := by
  intro a W oper hop ha _
  simp [execOp, hop, ha.eval hx, convert, run_underlying hs, run_underlying hd, Conv.intToInt]
end
end
end Go.Proofs.YtnpcilglilfajaaGreatDoor
namespace Go.Proofs.YtnpcilglilfajaaGreatDoor
open Go.RowKit
section
variable {P : Program}
theorem zero_of {t : TypeId} {zs : List Value} (h : (P.info? t).map (fun i => i.zero.map fun z => z.cells) = some (some zs.toArray)) : ∃ i z, P.info? t = some i ∧ i.zero = some z ∧ z.cells = zs.toArray := by
  cases hi : P.info? t with
  | none => simp [hi] at h
  | some i =>
    cases hz : i.zero with
    | none => simp [hi, hz] at h
    | some z => exact ⟨i, z, rfl, hz, by simpa [hi, hz] using h⟩
theorem bs_of {e : TypeId} {size : Nat} {zs : List Value} (h : (P.info? e).map (fun i => (i.size, i.zero.map fun z => z.cells)) = some (size, some zs.toArray)) : ∃ i z, P.info? e = some i ∧ i.size = size ∧ i.zero = some z ∧ z.cells = zs.toArray := by
  cases hi : P.info? e with
  | none => simp [hi] at h
  | some i =>
    cases hz : i.zero with
    | none => simp [hi, hz] at h
    | some z =>
      simp only [hi, Option.map_some, hz, Option.some.injEq, Prod.mk.injEq] at h
      exact ⟨i, z, rfl, h.1, hz, h.2⟩
theorem mk_of {e : TypeId} {bytes : Nat} {z : Value} (h : (P.info? e).map (fun i => (i.size, i.bytes, i.zero)) = some (1, bytes, some z)) : ∃ i, P.info? e = some i ∧ i.size = 1 ∧ i.bytes = bytes ∧ i.zero = some z := by
  cases hi : P.info? e with
  | none => simp [hi] at h
  | some i =>
    simp only [hi, Option.map_some, Option.some.injEq, Prod.mk.injEq] at h
    exact ⟨i, rfl, h.1, h.2.1, h.2.2⟩
theorem sl_of {e : TypeId} {size bytes : Nat} (h : (P.info? e).map (fun i => (i.size, i.bytes, i.zero.map fun z => z.cells.size)) = some (size, bytes, some size)) (h0 : 0 < size) : ∃ i z, P.info? e = some i ∧ i.size = size ∧ i.bytes = bytes ∧ i.zero = some z ∧ z.cells.size = size ∧ 0 < size := by
  cases hi : P.info? e with
  | none => simp [hi] at h
  | some i =>
    cases hz : i.zero with
    | none => simp [hi, hz] at h
    | some z =>
      simp only [hi, Option.map_some, hz, Option.some.injEq, Prod.mk.injEq] at h
      exact ⟨i, z, rfl, h.1, h.2.1, hz, h.2.2, h0⟩
theorem fadr_mk {s : TypeId} {f off : Nat} {fields : Array Field} {fl : Field} (h1 : P.underlying s = some (.struct fields)) (h2 : fields[f]? = some fl) (h3 : fl.offset = off) (h4 : (P.info? fl.type).map (fun i => Nat.beq i.size 0) = some false) : FAdr P s f off := by
  cases hi : P.info? fl.type with
  | none => simp [hi] at h4
  | some i =>
    simp only [hi, Option.map_some, Option.some.injEq] at h4
    exact ⟨⟨fields, fl, i, h1, h2, h3, hi, Nat.ne_of_beq_eq_false h4⟩⟩
theorem enters_mk {f : FuncId} {fn : Func} (hf : P.funcs[f]? = some fn) (hn : (fn.name == "runtime.NumGoroutine") = false) (hb : fn.body.isNone = false) : Enters P f := by
  intro args W
  simp only [callFunc, program, Sem.run_bind, Sem.run, Result.andThen_ok, hf]
  rw [if_neg (by rw [hn]; simp), if_neg (by rw [hb]; simp)]
  rfl

variable {n : NM} {X : PMap} {own : Own} {env : Env} {t t' : TypeId} {x y : Operand} {k : IntKind}
theorem op_quoN {p q : Nat} {q' : Int} (hx : eev env x = some (.int .i64 (p : Int))) (hy : eev env y = some (.int .i64 q')) (hq' : q' = Int.ofNat q) (h1 : p ≤ 9223372036854775807) (hq : 0 < q) : OpY P n env own X (.binOp .quo t x y t') (.int .i64 ((p / q : Nat) : Int)) := by
  subst hq'
  have hy' : eev env y = some (.int .i64 (q : Int)) := hy
  have := op_quo (P := P) (n := n) (own := own) (X := X) (t := t) (t' := t') hx hy' (by omega) (by omega) (by omega)
  simpa using this
theorem op_remN {p q : Nat} {q' : Int} (hx : eev env x = some (.int k (p : Int))) (hy : eev env y = some (.int k q')) (hq' : q' = Int.ofNat q) (hq : 0 < q) : OpY P n env own X (.binOp .rem t x y t') (.int k ((p % q : Nat) : Int)) := by
  subst hq'
  have hy' : eev env y = some (.int k (q : Int)) := hy
  have := op_rem (P := P) (n := n) (own := own) (X := X) (t := t) (t' := t') hx hy' (by omega) (by omega)
  simpa using this
theorem op_maxN {p q : Nat} {ts : Array TypeId} (hx : eev env x = some (.int k (p : Int))) (hy : eev env y = some (.int k (q : Int))) : OpY P n env own X (.call { callee := .builtin .max, args := #[x, y], argTypes := ts }) (.int k ((max p q : Nat) : Int)) :=
  op_max hx hy (by split <;> omega)
theorem op_minN {p q : Nat} {ts : Array TypeId} (hx : eev env x = some (.int k (p : Int))) (hy : eev env y = some (.int k (q : Int))) : OpY P n env own X (.call { callee := .builtin .min, args := #[x, y], argTypes := ts }) (.int k ((min p q : Nat) : Int)) :=
  op_min hx hy (by split <;> omega)
theorem op_maxL {p q : Int} {ts : Array TypeId} (hx : eev env x = some (.int k p)) (hy : eev env y = some (.int k q)) (h : q ≤ p) : OpY P n env own X (.call { callee := .builtin .max, args := #[x, y], argTypes := ts }) (.int k p) := op_max hx hy (if_neg (by omega))
theorem op_maxR {p q : Int} {ts : Array TypeId} (hx : eev env x = some (.int k p)) (hy : eev env y = some (.int k q)) (h : p ≤ q) : OpY P n env own X (.call { callee := .builtin .max, args := #[x, y], argTypes := ts }) (.int k q) := op_max hx hy (by split <;> omega)
theorem op_minL {p q : Int} {ts : Array TypeId} (hx : eev env x = some (.int k p)) (hy : eev env y = some (.int k q)) (h : p ≤ q) : OpY P n env own X (.call { callee := .builtin .min, args := #[x, y], argTypes := ts }) (.int k p) := op_min hx hy (if_neg (by omega))
theorem op_minR {p q : Int} {ts : Array TypeId} (hx : eev env x = some (.int k p)) (hy : eev env y = some (.int k q)) (h : q ≤ p) : OpY P n env own X (.call { callee := .builtin .min, args := #[x, y], argTypes := ts }) (.int k q) := op_min hx hy (by split <;> omega)
end
/-- The slots that are named here hold what they are said to hold. -/
inductive Sub (env : Env) : Env → Prop
  | nil : Sub env []
  | cons {t : Nat} {v : Value} {r : Env} : eget env t = some v → Sub env r → Sub env ((t, v) :: r)
theorem Sub.get {env env' : Env} (h : Sub env env') : ∀ t v, eget env' t = some v → eget env t = some v := by
  induction h with
  | nil => intro t v h; cases h
  | cons h _ ih =>
    intro t v hv
    simp only [eget] at hv
    rename_i t0 v0 r0 _
    cases hb : Nat.beq t0 t with
    | true =>
      rw [hb] at hv
      simp only [cond_true, Option.some.injEq] at hv
      rw [← Nat.eq_of_beq_eq_true hb, ← hv]; exact h
    | false => rw [hb] at hv; exact ih t v hv
end Go.Proofs.YtnpcilglilfajaaGreatDoor
namespace Go.Proofs.YtnpcilglilfajaaGreatDoor
open Go.RowKit
section
variable {P : Program} {n : NM} {X : PMap} {own : Own} {env : Env} {t t' : TypeId} {x y : Operand} {k : IntKind}
theorem wrap_u64 {p : Nat} (h : p < 18446744073709551616) : IntKind.u64.wrap (p : Int) = (p : Int) := by simp [IntKind.wrap, IntKind.signed, IntKind.bits]; omega
theorem wrap_u64' (p : Nat) : IntKind.u64.wrap (p : Int) = ((p % 18446744073709551616 : Nat) : Int) := by simp [IntKind.wrap, IntKind.signed, IntKind.bits]
theorem wrap_u8 {p : Int} (h0 : 0 ≤ p) (h : p < 256) : IntKind.u8.wrap p = p := by simp [IntKind.wrap, IntKind.signed, IntKind.bits]; omega
theorem wrap_u64i {p : Int} (h0 : 0 ≤ p) (h : p < 18446744073709551616) : IntKind.u64.wrap p = p := by simp [IntKind.wrap, IntKind.signed, IntKind.bits]; omega
theorem op_addN {p q : Nat} (hx : eev env x = some (.int .i64 (p : Int))) (hy : eev env y = some (.int .i64 (q : Int))) (h : p + q ≤ 9223372036854775807) : OpY P n env own X (.binOp .add t x y t') (.int .i64 ((p + q : Nat) : Int)) := by
  have := op_add (P := P) (n := n) (own := own) (X := X) (t := t) (t' := t') hx hy (by omega) (by omega)
  simpa using this
theorem op_subN {p q : Nat} (hx : eev env x = some (.int .i64 (p : Int))) (hy : eev env y = some (.int .i64 (q : Int))) (h : q ≤ p) (h' : p ≤ 9223372036854775807) : OpY P n env own X (.binOp .sub t x y t') (.int .i64 ((p - q : Nat) : Int)) := by
  have := op_sub (P := P) (n := n) (own := own) (X := X) (t := t) (t' := t') hx hy (by omega) (by omega)
  rwa [show (p : Int) - (q : Int) = ((p - q : Nat) : Int) by omega] at this
theorem op_mulN {p q : Nat} (hx : eev env x = some (.int .i64 (p : Int))) (hy : eev env y = some (.int .i64 (q : Int))) (h : p * q ≤ 9223372036854775807) : OpY P n env own X (.binOp .mul t x y t') (.int .i64 ((p * q : Nat) : Int)) := by
  have e : (p : Int) * (q : Int) = ((p * q : Nat) : Int) := by simp
  have := op_mul (P := P) (n := n) (own := own) (X := X) (t := t) (t' := t') hx hy (by rw [e]; omega) (by rw [e]; omega)
  rwa [e] at this
theorem op_addU {p q : Nat} (hx : eev env x = some (.int .u64 (p : Int))) (hy : eev env y = some (.int .u64 (q : Int))) (h : p + q < 18446744073709551616) : OpY P n env own X (.binOp .add t x y t') (.int .u64 ((p + q : Nat) : Int)) := by
  have := op_addW (P := P) (n := n) (own := own) (X := X) (t := t) (t' := t') hx hy
  rwa [show (p : Int) + (q : Int) = ((p + q : Nat) : Int) by omega, wrap_u64 h] at this
theorem op_subU {p q : Nat} (hx : eev env x = some (.int .u64 (p : Int))) (hy : eev env y = some (.int .u64 (q : Int))) (h : q ≤ p) (h' : p < 18446744073709551616) : OpY P n env own X (.binOp .sub t x y t') (.int .u64 ((p - q : Nat) : Int)) := by
  have := op_subW (P := P) (n := n) (own := own) (X := X) (t := t) (t' := t') hx hy
  rwa [show (p : Int) - (q : Int) = ((p - q : Nat) : Int) by omega, wrap_u64 (by omega)] at this
theorem op_mulU {p q : Nat} (hx : eev env x = some (.int .u64 (p : Int))) (hy : eev env y = some (.int .u64 (q : Int))) : OpY P n env own X (.binOp .mul t x y t') (.int .u64 ((p * q % 18446744073709551616 : Nat) : Int)) := by
  have := op_mulW (P := P) (n := n) (own := own) (X := X) (t := t) (t' := t') hx hy
  rwa [show (p : Int) * (q : Int) = ((p * q : Nat) : Int) by simp, wrap_u64'] at this
theorem op_negU {p : Nat} (hx : eev env x = some (.int .u64 (p : Int))) (h0 : 0 < p) (h : p < 18446744073709551616) : OpY P n env own X (.unOp .neg t x) (.int .u64 ((18446744073709551616 - p : Nat) : Int)) := by
  intro a W oper ho ha _
  have e : IntKind.u64.wrap (0 - (p : Int)) = ((18446744073709551616 - p : Nat) : Int) := by simp [IntKind.wrap, IntKind.signed, IntKind.bits]; omega
  simp only [execOp, ho, ha.eval hx, Op.unary, Op.intArith]
  simp only [Int.zero_sub] at e
  simp [e]
theorem op_quo0 {p q : Nat} {q' : Int} (hx : eev env x = some (.int .i64 (p : Int))) (hy : eev env y = some (.int .i64 q')) (hq' : q' = Int.ofNat q) (h1 : p ≤ 9223372036854775807) (hq : p < q) : OpY P n env own X (.binOp .quo t x y t') (.int .i64 ((0 : Nat) : Int)) := by
  have := op_quoN (P := P) (n := n) (own := own) (X := X) (t := t) (t' := t') hx hy hq' h1 (by omega)
  rwa [Nat.div_eq_of_lt hq] at this
theorem op_remS {p q : Nat} {q' : Int} (hx : eev env x = some (.int k (p : Int))) (hy : eev env y = some (.int k q')) (hq' : q' = Int.ofNat q) (hq : p < q) : OpY P n env own X (.binOp .rem t x y t') (.int k (p : Int)) := by
  have := op_remN (P := P) (n := n) (own := own) (X := X) (t := t) (t' := t') hx hy hq' (by omega)
  rwa [Nat.mod_eq_of_lt hq] at this
theorem op_shrK {k' : IntKind} {p q : Nat} (hx : eev env x = some (.int k (p : Int))) (hy : eev env y = some (.int k' (q : Int))) (hq : q ≤ k.bits) : OpY P n env own X (.binOp .shr t x y t') (.int k ((p >>> q : Nat) : Int)) := by
  have h := op_shr (P := P) (n := n) (own := own) (X := X) (t := t) (t' := t') hx hy
  have e : min q k.bits = q := Nat.min_eq_left hq
  rw [e] at h
  have e2 : (p : Int).fdiv (2 ^ q) = ((p >>> q : Nat) : Int) := by
    rw [Nat.shiftRight_eq_div_pow]
    have : ((2 : Int) ^ q) = ((2 ^ q : Nat) : Int) := by simp
    rw [this, Int.fdiv_eq_ediv_of_nonneg _ (Int.natCast_nonneg _)]
    simp
  rwa [e2] at h
theorem op_indexA {e : TypeId} {ix : Operand} {b o len size : Nat} {row : Bool} {i : Nat} (ht : P.underlying t = some (.array len e)) (he : Ty P e row size) (hx : eev env x = some (.pointer (some ⟨b, o, none⟩))) (hi : eev env ix = some (.int k (i : Int))) (h1 : i < len) :
    OpY P n env own X (.indexAddr t x ix) (.pointer (some ⟨b, o + i * size, none⟩)) := by
  intro a W oper hop ha _
  have hinf := he.info
  cases hq : P.info? e with
  | none => simp [hq] at hinf
  | some inf =>
    have hsz : inf.size = size := by simpa [hq] using hinf
    have h1' : (i : Int) < (len : Int) := by omega
    simp [execOp, hop, ha.eval hx, ha.eval hi, Instr.indexAt, asIntOf, run_underlying ht, h1, sizeOf, typeInfo, hq, hsz, Addr.add_mid, Instr.sureAddr]
theorem op_convI64 {src dst : TypeId} {k' : IntKind} {p : Int} {d : TypeDesc} (hs : P.underlying src = some d) (hd : P.underlying dst = some (.int .i64)) (hx : eev env x = some (.int k' p)) (h0 : -9223372036854775808 ≤ p) (h1 : p ≤ 9223372036854775807) : OpY P n env own X (.convert src dst x) (.int .i64 p) := by
  have := op_convert (n := n) (own := own) (X := X) hs hd hx
  rwa [wrap_i64_in h0 h1] at this
theorem op_convU64 {src dst : TypeId} {k' : IntKind} {p : Int} {d : TypeDesc} (hs : P.underlying src = some d) (hd : P.underlying dst = some (.int .u64)) (hx : eev env x = some (.int k' p)) (h0 : 0 ≤ p) (h1 : p < 18446744073709551616) : OpY P n env own X (.convert src dst x) (.int .u64 p) := by
  have := op_convert (n := n) (own := own) (X := X) hs hd hx
  rwa [wrap_u64i h0 h1] at this
theorem op_convU8 {src dst : TypeId} {k' : IntKind} {p : Int} {d : TypeDesc} (hs : P.underlying src = some d) (hd : P.underlying dst = some (.int .u8)) (hx : eev env x = some (.int k' p)) (h0 : 0 ≤ p) (h1 : p < 256) : OpY P n env own X (.convert src dst x) (.int .u8 p) := by
  have := op_convert (n := n) (own := own) (X := X) hs hd hx
  rwa [wrap_u8 h0 h1] at this
end
section
variable {P : Program} {n : NM} {w0 : Base} {X0 X : PMap} {own : Own} {env : Env}
theorem opx_of {o : Op} {v : Value} (k : Value → Prop) (h : OpY P n env own X o v) (hk : k v) (hd : noDefer o = true) : OpX P n w0 X0 env own X o true (fun u own' X' => k u ∧ own = own' ∧ X = X') := by
  intro a W oper K Q ro hop ha hs hK
  exact wp_value (noDefer_spec (by rw [hop]; exact hd)) (h a W oper hop ha hs.stab) (hK v own X W ⟨hk, rfl, rfl⟩ hs fun _ => ⟨Nat.le_refl _, fun _ _ => rfl⟩)
def isU64 (v : Value) : Prop := ∃ r : Nat, r < 18446744073709551616 ∧ v = .int .u64 (r : Int)
theorem isU64_wrap (p : Int) : isU64 (.int .u64 (IntKind.u64.wrap p)) := by
  refine ⟨(p % 18446744073709551616).toNat, by omega, ?_⟩
  have : IntKind.u64.wrap p = p % 18446744073709551616 := by simp [IntKind.wrap, IntKind.signed, IntKind.bits]
  rw [this, Int.toNat_of_nonneg (by omega)]
theorem isU64_nat {r : Nat} (h : r < 18446744073709551616) : isU64 (.int .u64 (r : Int)) := ⟨r, h, rfl⟩
theorem and127 (p : Int) : ∃ k : Nat, k < 128 ∧ bits .and .i64 p 127 = (k : Int) := by
  refine ⟨(BitVec.ofInt 64 p).toNat &&& 127, Nat.lt_of_le_of_lt Nat.and_le_right (by omega), ?_⟩
  have h : (BitVec.ofInt 64 p).toNat &&& 127 ≤ 127 := Nat.and_le_right
  have e : (BitVec.ofInt 64 p &&& BitVec.ofInt 64 127).toNat = (BitVec.ofInt 64 p).toNat &&& 127 := by rw [BitVec.toNat_and]; rfl
  show IntKind.i64.wrap ((BitVec.ofInt 64 p &&& BitVec.ofInt 64 127).toNat : Int) = _
  rw [e]
  exact wrap_i64_in (by omega) (by omega)
end
section
variable {ro : Option Nat} {P : Program} {n : NM} {w0 : Base} {X0 X : PMap} {own : Own} {env : Env} {Q : Exit → Act → World → Prop}
theorem T.less {k : List It} {e : Option Nat} {own' : Own} (hs : own'.Sublist own) (h : T ro P n w0 X0 Q k e env own' X) : T ro P n w0 X0 Q k e env own X := fun a W ha hsat => h a W ha (hsat.sub hs)
theorem T.drop {k : List It} {e : Option Nat} (b : Nat) {cs : List Value} {ty : TypeId} {sz j : Nat} (_ : AtO own b cs ty sz j) (h : T ro P n w0 X0 Q k e env (own.eraseIdx j) X) : T ro P n w0 X0 Q k e env own X := T.less (List.eraseIdx_sublist ..) h
theorem T.loopW {c : Code} {k : List It} (I : Fam) (m : Nat) {env' : Env} (h0 : I m env' own X) (hw : Sub env env')
    (round : ∀ m env own X, I m env own X → T ro P n w0 X0 Q (.code c :: backTo n w0 X0 I m :: k) none env own X) : T ro P n w0 X0 Q (.code (.loop c) :: k) none env own X := T.weaken hw.get (T.loop I m h0 round)
theorem T.backW {I : Fam} {m : Nat} {k : List It} (m' : Nat) (hm : m' < m) {env' : Env} (hI : I m' env' own X) (hw : Sub env env') : T ro P n w0 X0 Q (backTo n w0 X0 I m :: k) none env own X := T.back m' hm hI hw.get
end
end Go.Proofs.YtnpcilglilfajaaGreatDoor
namespace Go.Proofs.YtnpcilglilfajaaGreatDoor
open Go.RowKit
def ints (l : List Nat) : List Value := l.map fun (i : Nat) => .int .i64 (i : Int)
/-- v is a slice of these cells, size cells an element. -/
def SliceR (X : PMap) (v : Value) (len : Nat) (cs : List Value) : Prop :=
  (len = 0 ∧ cs = [] ∧ ∃ A c, v = .slice A 0 c) ∨ (0 < len ∧ ∃ b c, v = .slice (some ⟨b, 0, none⟩) len c ∧ Blk X b cs)
theorem SliceR.mono {X X' : PMap} {v : Value} {len : Nat} {cs : List Value} (h : SliceR X v len cs) (hX : X.le X') : SliceR X' v len cs := by
  rcases h with h | ⟨h0, b, c, hv, hb⟩
  · exact .inl h
  · exact .inr ⟨h0, b, c, hv, hb.mono hX⟩
theorem ints_get (l : List Nat) (j : Nat) (h : j < l.length) : (ints l)[j]? = some (.int .i64 (l[j] : Int)) := by simp [ints, h]
theorem ints_some {l : List Nat} {i : Nat} {x : Value} (h : (ints l)[i]? = some x) : ∃ h : i < l.length, x = .int .i64 ((l[i] : Nat) : Int) := by
  have hl : i < l.length := by
    have := (List.getElem?_eq_some_iff.1 h).1
    simpa [ints] using this
  refine ⟨hl, ?_⟩
  rw [ints_get l i hl] at h
  exact (Option.some.inj h).symm
theorem ints_take_succ (l : List Nat) (i : Nat) (h : i < l.length) : ints (l.take (i + 1)) = ints (l.take i) ++ [.int .i64 ((l[i] : Nat) : Int)] := by
  unfold ints
  rw [List.take_succ_eq_append_getElem h, List.map_append]
  rfl
theorem ints_len (l : List Nat) : ints (l.take (ints l).length) = ints l := by simp [ints]
theorem cread1 {cs : List Value} {j : Nat} {v : Value} (h : cs[j]? = some v) : cread false 1 cs (0 + j * 1) = some v := by simpa [cread] using h
/-- A slice of the call's own that has grown from nil. -/
def GrowS (e : TypeId) (size : Nat) (v : Value) (len : Nat) (cs : List Value) (G : Own) : Prop :=
  (len = 0 ∧ cs = [] ∧ v = .slice none 0 0 ∧ G = []) ∨
  (∃ b cap, v = .slice (some ⟨b, 0, none⟩) len cap ∧ G = [⟨b, cs, e, cap * size⟩] ∧ len ≤ cap ∧ cap ≤ maxLen ∧ cs.length = len * size)
theorem GrowS.nil {e : TypeId} {size : Nat} : GrowS e size (.slice none 0 0) 0 [] [] := .inl ⟨rfl, rfl, rfl, rfl⟩
theorem GrowS.form {e : TypeId} {size len : Nat} {v : Value} {cs : List Value} {G : Own} (h : GrowS e size v len cs G) : ∃ A cap, v = .slice A len cap := by
  rcases h with ⟨rfl, _, rfl, _⟩ | ⟨b, cap, rfl, _⟩
  · exact ⟨_, _, rfl⟩
  · exact ⟨_, _, rfl⟩
theorem AtO.append {G : Own} {b : Nat} {cs : List Value} {ty : TypeId} {sz j : Nat} (h : AtO G b cs ty sz j) : ∀ (own0 : Own), AtO (own0 ++ G) b cs ty sz (own0.length + j)
  | [] => by simpa using h
  | o :: l => by
    have := AtO.there (o := o) (AtO.append h l)
    rw [show l.length + j + 1 = (o :: l).length + j by simp; omega] at this
    exact this

section
variable {ro : Option Nat} {P : Program} {n : NM} {w0 : Base} {X0 X : PMap} {own : Own} {env : Env} {Q : Exit → Act → World → Prop}
theorem OpX.weaken {o : Op} {g : Bool} {k k' : Value → Own → PMap → Prop} (h : OpX P n w0 X0 env own X o g k) (hk : ∀ v own' X', k v own' X' → ∃ (own'' mid : Own), k' v own'' X' ∧ mid.Sublist own' ∧ mid.Perm own'') : OpX P n w0 X0 env own X o false k' := by
  intro a W oper K Q ro hop ha hs hK
  refine h a W oper K Q ro hop ha hs fun v own' X' W' hkk hs' hg => ?_
  obtain ⟨own'', mid, h1, h2, h3⟩ := hk v own' X' hkk
  exact hK v own'' X' W' h1 ((hs'.sub h2).perm h3) fun h => by cases h
/-- append of one element, which was laid as a slice literal just before: that literal is forgotten. -/
theorem op_appendG {t e ty : TypeId} {s x : Operand} {v : Value} {B c1 sz len size bytes : Nat} {cs new : List Value} {own0 G : Own} (ht : SlT P t e size bytes) (hs : eev env s = some v) (hg : GrowS e size v len cs G) (hx : eev env x = some (.slice (some ⟨B, 0, none⟩) 1 c1))
    (hnew : new.length = size) (h1 : new.all (·.oneCell') = true) (hlen : len + 1 ≤ maxLen) (hby : (len + 1) * bytes ≤ 140737488355328) :
    OpX P n w0 X0 env (⟨B, new, ty, sz⟩ :: (own0 ++ G)) X (.call { callee := .builtin .append, args := #[s, x], argTypes := #[t, t] }) false fun v' own' X' => ∃ G', own' = own0 ++ G' ∧ X = X' ∧ GrowS e size v' (len + 1) (cs ++ new) G' := by
  have h1' : ∀ y ∈ new, y.oneCell' = true := List.all_eq_true.1 h1
  rcases hg with ⟨rfl, rfl, rfl, rfl⟩ | ⟨b, cap, rfl, rfl, hlc, hcm, hcl⟩
  · refine (op_appendNil (m := 1) (news := new) ht hs hx (Src.ofOwn0 AtO.here (by simp [hnew])) (by omega) h1' (by simpa using hlen) (by simpa using hby)).weaken ?_
    rintro v' own' X' ⟨b', cap', rfl, rfl, rfl, hc1, hc2⟩
    refine ⟨own0 ++ [⟨b', new, e, cap' * size⟩], ⟨b', new, e, cap' * size⟩ :: own0, ⟨_, rfl, rfl, .inr ⟨b', cap', by simp, by simp, by omega, hc2, by simp [hnew]⟩⟩, ?_, (List.perm_append_singleton ..).symm⟩
    rw [List.append_nil]
    exact List.Sublist.cons_cons _ (List.sublist_cons_self ..)
  · refine (op_append (m := 1) (news := new) (j := own0.length + 1) ht hs hx ?_ rfl hcl hlc hcm (Src.ofOwn0 AtO.here (by simp [hnew])) h1' (by simpa using hlen) (by simpa using hby)).weaken ?_
    · have := AtO.there (o := ⟨B, new, ty, sz⟩) ((AtO.here (l := []) (b := b) (cs := cs) (ty := e) (sz := cap * size)).append own0)
      simpa using this
    · rintro v' own' X' ⟨b', cap', rfl, rfl, rfl, hc1, hc2⟩
      refine ⟨own0 ++ [⟨b', cs ++ new, e, cap' * size⟩], _, ⟨_, rfl, rfl, .inr ⟨b', cap', rfl, rfl, hc1, hc2, by simp [hcl, hnew, Nat.add_mul]⟩⟩, ?_, .refl _⟩
      have e1 : (⟨B, new, ty, sz⟩ :: (own0 ++ [(⟨b, cs, e, cap * size⟩ : Ow)])).set (own0.length + 1) ⟨b', cs ++ new, e, cap' * size⟩ = ⟨B, new, ty, sz⟩ :: (own0 ++ [⟨b', cs ++ new, e, cap' * size⟩]) := by
        simp
      rw [e1]
      exact List.sublist_cons_self ..
/-- What has grown is laid for good. -/
theorem Sat.pubG {e : TypeId} {size len : Nat} {v : Value} {cs : List Value} {own0 G : Own} {W : World} (hg : GrowS e size v len cs G) (h : Sat w0 X0 (own0 ++ G) X W) : ∃ X', X.le X' ∧ SliceR X' v len cs ∧ Sat w0 X0 own0 X' W := by
  rcases hg with ⟨rfl, rfl, rfl, rfl⟩ | ⟨b, cap, rfl, rfl, hlc, hcm, hcl⟩
  · rw [List.append_nil] at h
    exact ⟨X, PMap.le_refl X, .inl ⟨rfl, rfl, _, _, rfl⟩, h⟩
  · have ha := (AtO.here (l := []) (b := b) (cs := cs) (ty := e) (sz := cap * size)).append own0
    obtain ⟨X', h1, h2, _, h4⟩ := h.pub ha
    refine ⟨X', h1, ?_, ?_⟩
    · rcases Nat.eq_zero_or_pos len with h0 | h0
      · subst h0
        have : cs = [] := List.eq_nil_of_length_eq_zero (by simpa using hcl)
        subst this
        exact .inl ⟨rfl, rfl, _, _, rfl⟩
      · exact .inr ⟨h0, b, cap, rfl, h2⟩
    · have e1 : (own0 ++ [(⟨b, cs, e, cap * size⟩ : Ow)]).eraseIdx (own0.length + 0) = own0 := by
        rw [List.eraseIdx_append_of_length_le (by omega)]
        simp
      rwa [e1] at h4
theorem T.pubG {k : List It} {ex : Option Nat} {e : TypeId} {size len : Nat} {v : Value} {cs : List Value} {own0 G : Own} (hg : GrowS e size v len cs G) (h : ∀ X', X.le X' → SliceR X' v len cs → T ro P n w0 X0 Q k ex env own0 X') : T ro P n w0 X0 Q k ex env (own0 ++ G) X := by
  intro a W ha hs
  obtain ⟨X', h1, h2, h3⟩ := hs.pubG hg
  exact h X' h1 h2 a W ha h3
theorem T.pubGAt {ops : Array Oper} {l : List Oper} {e : TypeId} {size len : Nat} {v : Value} {cs : List Value} {own0 G : Own} (hg : GrowS e size v len cs G) (h : ∀ X', X.le X' → SliceR X' v len cs → SL ro P n w0 X0 ops Q l env own0 X') : SL ro P n w0 X0 ops Q l env (own0 ++ G) X := by
  intro a W ha hs
  obtain ⟨X', h1, h2, h3⟩ := hs.pubG hg
  exact h X' h1 h2 a W ha h3
end
end Go.Proofs.YtnpcilglilfajaaGreatDoor
namespace Go.Proofs.YtnpcilglilfajaaGreatDoor
open Go.RowKit
section
variable {P : Program} {n : NM} {w0 : Base} {X0 X : PMap} {own : Own} {env : Env} {ops : Array Oper} {Q : Exit → Act → World → Prop} {ro : Option Nat}
theorem SL.v {l : List Oper} {d : Option Tmp} {op : Op} {ty : TypeId} {pos : String} {af : Array Edge} {g : Option (Nat × Bool)} {v : Value} (h : OpY P n env own X op v)
    (h' : SL ro P n w0 X0 ops Q l (eput env d v) own X) (hg : gwant ops env g = some true := by rfl) (hd : (dok n d && noDefer op) = true := by rfl) : SL ro P n w0 X0 ops Q (⟨d, op, ty, pos, af, g⟩ :: l) env own X := SL.y h hg hd h'
theorem SL.mv {l : List Oper} {d : Option Tmp} {x : Operand} {ty : TypeId} {pos : String} {af : Array Edge} {g : Option (Nat × Bool)} {v : Value} (h : eev env x = some v)
    (h' : SL ro P n w0 X0 ops Q l (eput env d v) own X) (hg : gwant ops env g = some true := by rfl) (hd : dok n d = true := by rfl) : SL ro P n w0 X0 ops Q (⟨d, .move x, ty, pos, af, g⟩ :: l) env own X := SL.y (op_move h) hg (by rw [hd]; rfl) h'
theorem SL.as {l : List Oper} {d : Option Tmp} {x : Operand} {ty : TypeId} {pos : String} {af : Array Edge} {g : Option (Nat × Bool)} {v : Value} (h : eev env x = some v)
    (h' : SL ro P n w0 X0 ops Q l (eput env d v) own X) (hg : gwant ops env g = some true := by rfl) (hd : dok n d = true := by rfl) : SL ro P n w0 X0 ops Q (⟨d, .assign x, ty, pos, af, g⟩ :: l) env own X := SL.y (op_assign h) hg (by rw [hd]; rfl) h'
theorem SL.w {l : List Oper} {d : Option Tmp} {op : Op} {ty : TypeId} {pos : String} {af : Array Edge} {g : Option (Nat × Bool)} {k : Value → Own → PMap → Prop} {gr : Bool} (h : OpX P n w0 X0 env own X op gr k)
    (h' : ∀ v own' X', k v own' X' → SL ro P n w0 X0 ops Q l (eput env d v) own' X') (hg : gwant ops env g = some true := by rfl) (hd : dok n d = true := by rfl) : SL ro P n w0 X0 ops Q (⟨d, op, ty, pos, af, g⟩ :: l) env own X := SL.x h hg hd h'
end
end Go.Proofs.YtnpcilglilfajaaGreatDoor
namespace Go.Proofs.YtnpcilglilfajaaGreatDoor
open Go.RowKit
theorem fr_room (ro : Option Nat) (m : Nat) : (FR ro).room m := by simp [Fence.room]
theorem wpIn_dep {ro : Option Nat} {m m' : Nat} {P : Program} {c : Code} {Q : Exit → Act → World → Prop} {a : Act} {w : World} (h : c.wpIn (FR ro) m P Q a w) : c.wpIn (FR ro) m' P Q a w :=
  fun b k cs h1 h2 _ => h b k cs h1 h2 (fr_room _ _)
theorem roundIn_dep {ro : Option Nat} {m m' : Nat} {P : Program} {l : Nat} {f : FuncId} {tmps : Array Value} {assign body : Code} {w : World} {R : Ending → World → Prop} (h : RoundIn (FR ro) m P l f tmps assign body w R) : RoundIn (FR ro) m' P l f tmps assign body w R :=
  ⟨h.1, fun c cs _ => h.2 c cs (fr_room _ _)⟩

/-- The function g hands the values xs to the loop's body, one after the other, and comes back. -/
def Seq (P : Program) (g : Nat) (lb : List Value) (xs : List Value) (X : PMap) : Prop :=
  ∀ (l : Nat) (J : Nat → World → Prop) (W : World), (∀ i A B, J i A → Below A.heap.size A B → J i B) → (∀ i A, J i A → PIn X A) →
    (∀ i x A, J i A → xs[i]? = some x → YieldAt (FR none) DEP P l #[x] A fun e B => e = .returned (.bool true) ∧ J (i + 1) B) →
    J 0 W → Calls P g (.func (.yield l) #[] #[] :: lb).toArray W fun e B => (∃ v, e = .returned v) ∧ J xs.length B

theorem Sat.hold {w : World} {res : List (Nat × Obj)} {X0 X : PMap} {own : Own} {W : World} (h : Sat ⟨w, res⟩ X0 own X W) (o : Obj) : Sat ⟨w, (W.heap.size, o) :: res⟩ X0 own X (W.alloc o) := by
  have hg := Grow.alloc W o
  refine ⟨⟨h.below.alloc h.below.size o, h.old, h.stab.grow hg, h.new, h.apart, h.nodup⟩, fun p hp => ?_⟩
  rcases List.mem_cons.1 hp with rfl | hp
  · exact ⟨heap_alloc_new W o, h.stab.pers.fresh, fun q hq => Nat.ne_of_lt (h.stab.own q hq).lt, h.below.size⟩
  · obtain ⟨h1, h2, h3, h4⟩ := h.res p hp
    exact ⟨(hg.same _ (get_lt h1)).trans h1, h2, h3, h4⟩
theorem Sat.putRes {w : World} {res : List (Nat × Obj)} {X0 X : PMap} {own : Own} {W : World} {l : Nat} {o : Obj} (h : Sat ⟨w, (l, o) :: res⟩ X0 own X W) (hl : ∀ p ∈ res, p.1 ≠ l) (o' : Obj) : Sat ⟨w, (l, o') :: res⟩ X0 own X (W.putObj l o') := by
  obtain ⟨g1, g2, g3, g4⟩ := h.res (l, o) (by simp)
  have hgb : W.grownBy (W.putObj l o') (some l) := grownBy_putObj' W l o'
  refine ⟨⟨h.below.grown hgb h.below.size (fun k e => by cases e; exact g4), h.old, ⟨fun q hq => ?_, fun k ob hk => ?_⟩, h.new, h.apart, h.nodup⟩, fun p hp => ?_⟩
  · obtain ⟨r, hr, hz⟩ := h.stab.own q hq
    exact ⟨r, (World.putObj_heap_other (g3 q hq)).trans hr, hz⟩
  · refine (World.putObj_heap_other (fun e => ?_)).trans (h.stab.pers k ob hk)
    subst e
    simp only at g2
    rw [g2] at hk; cases hk
  · rcases List.mem_cons.1 hp with rfl | hp
    · exact ⟨World.putObj_heap_same (get_lt g1), g2, g3, g4⟩
    · obtain ⟨h1, h2, h3, h4⟩ := h.res p (by simp [hp])
      exact ⟨(World.putObj_heap_other (hl p hp)).trans h1, h2, h3, h4⟩
theorem Sat.drop {w : World} {res : List (Nat × Obj)} {X0 X : PMap} {own : Own} {W : World} {p : Nat × Obj} (h : Sat ⟨w, p :: res⟩ X0 own X W) : Sat ⟨w, res⟩ X0 own X W := ⟨⟨h.below, h.old, h.stab, h.new, h.apart, h.nodup⟩, fun q hq => h.res q (by simp [hq])⟩

section
variable {P : Program} {n : NM} {w : World} {res : List (Nat × Obj)} {X0 X : PMap} {own : Own} {env : Env} {Q : Exit → Act → World → Prop}
/-- Where a round ends. -/
def RQ (w : World) (res : List (Nat × Obj)) (X0 : PMap) (I : Nat → Own → PMap → Prop) (i : Nat) : Exit → Act → World → Prop
  | .normal, _, W => ∃ own X, I i own X ∧ Sat ⟨w, res⟩ X0 own X W
  | _, _, _ => False
theorem T.roundEnd {ro : Option Nat} {I : Nat → Own → PMap → Prop} {i : Nat} (h : I i own X) : T ro P n ⟨w, res⟩ X0 (RQ w res X0 I i) [] none env own X := fun _ _ _ hs => ⟨own, X, h, hs⟩

theorem T.rangeFunc {g : Operand} {p d : Tmp} {id : Nat} {ty : TypeId} {pos : String} {af : Array Edge} {body : Code} {k : List It} {gf : Nat} {lb : List Value} {xs : List Value}
    (hg : eev env g = some (.func (.func gf) #[] lb.toArray)) (hE : Enters P gf) (hp : Nat.blt p n.size = true) (hd : Nat.blt d n.size = true) (hseq : Seq P gf lb xs X)
    (I : Nat → Own → PMap → Prop) (h0 : I 0 own X) (hX : ∀ i own' X', I i own' X' → X.le X')
    (round : ∀ i x own' X' l r D, xs[i]? = some x → I i own' X' → T (some l) P ⟨n.size, []⟩ ⟨w, (l, r) :: (D, MarkObj) :: res⟩ X0 (RQ w ((l, r) :: (D, MarkObj) :: res) X0 I (i + 1)) [.code body] none ((d, x) :: (p, x) :: env) own' X')
    (rest : ∀ D own' X', I xs.length own' X' → T none P ⟨n.size, markOf D :: n.marks⟩ ⟨w, (D, MarkObj) :: res⟩ X0 Q k none env own' X') :
    T none P n ⟨w, res⟩ X0 Q (.code (.rangeFunc g #[p] (.region id #[⟨some d, .assign (.tmp p), ty, pos, af, none⟩] false) body) :: k) none env own X := by
  intro a W ha hs
  refine runL_code (Go.wpIn_rangeFunc ?_)
  intro fn hfn
  obtain ⟨asg, hasg⟩ : ∃ c, c = Code.region id #[⟨some d, .assign (.tmp p), ty, pos, af, none⟩] false := ⟨_, rfl⟩
  rw [← hasg]
  obtain ⟨rec, hrec⟩ : ∃ rec : LoopState → Loop, rec = fun st => { state := st, pending := none, fn, tmps := a.tmps, params := #[p], assign := asg, body, defers := W.heap.size } := ⟨_, rfl⟩
  have hs1 := (hs.hold MarkObj).hold (.loop (rec .ready))
  have hsz : (W.alloc MarkObj).heap.size = W.heap.size + 1 := by simp
  rw [hsz] at hs1
  have hfar : ∀ q ∈ ((W.heap.size, MarkObj) :: res), q.1 ≠ W.heap.size + 1 := fun q hq => by
    rcases List.mem_cons.1 hq with rfl | hq
    · simp
    · have := get_lt (hs.res q hq).1
      omega
  have hev : a.eval g = .func (.func gf) #[] lb.toArray := ha.eval hg
  refine ⟨W.heap.size + 1, [markOf W.heap.size], (W.alloc MarkObj).alloc (.loop (rec .ready)), { target := .fn (.func gf) lb.toArray, args := #[.func (.yield (W.heap.size + 1)) #[] #[]] }, (W.alloc MarkObj).alloc (.loop (rec .ready)), gf,
    (Value.func (.yield (W.heap.size + 1)) #[] #[] :: lb).toArray, (W.alloc MarkObj).alloc (.loop (rec .ready)), ?_, ?_, fun _ _ => trivial, ?_, (fun h => by cases h), ?_⟩
  · rw [hrec]; exact run_enterLoop_outer _ _ _ _ _
  · simp only [resolve, hev]
    simp [go_sem]
  · have := hE (Value.func (.yield (W.heap.size + 1)) #[] #[] :: lb).toArray ((W.alloc MarkObj).alloc (.loop (rec .ready)))
    simp [invoke, go_sem, this]
  · refine fr_calls.2 ((hseq (W.heap.size + 1) (fun i A => ∃ own' X', I i own' X' ∧ Sat ⟨w, (W.heap.size + 1, .loop (rec .ready)) :: (W.heap.size, MarkObj) :: res⟩ X0 own' X' A) _ ?_ ?_ ?_ ⟨own, X, h0, hs1⟩).mono ?_)
    · rintro i A B ⟨own', X', hI, hA⟩ hb
      exact ⟨own', X', hI, hA.call hb ((Grow.of_below hb).pin hA.stab.pers) fun _ _ => rfl⟩
    · rintro i A ⟨own', X', hI, hA⟩ k o hk
      exact hA.stab.pers k o (hX i own' X' hI k o hk)
    · rintro i x A ⟨own', X', hI, hA⟩ hx
      have hl := (hA.res (W.heap.size + 1, .loop (rec .ready)) (by simp)).1
      have hy := run_yield (P := P) (args := #[x]) hl (by rw [hrec]; rfl)
      refine ⟨_, _, _, _, hy, roundIn_of_wpIn trivial ?_⟩
      have hps : (rec .ready).params = #[p] := by rw [hrec]
      have htm : (rec .ready).tmps = a.tmps := by rw [hrec]
      have has : (rec .ready).assign = asg := by rw [hrec]
      have hbd : (rec .ready).body = body := by rw [hrec]
      rw [hps, htm, has, hbd]
      have hz : ∀ F : Array Value → Tmp × Value → Array Value, (#[p].zip #[x]).foldl F a.tmps = F a.tmps (p, x) := fun F => by simp
      rw [hz]
      have he : EOk ⟨n.size, []⟩ ((p, x) :: env) { tmps := a.tmps.setIfInBounds p x, defers := [] } := by
        have h1 : EOk ⟨n.size, []⟩ env { tmps := a.tmps, defers := [] } := ⟨rfl, ha.size, ha.get⟩
        exact h1.put hp x
      have hAs : T (some (W.heap.size + 1)) P ⟨n.size, []⟩ ⟨w, (W.heap.size + 1, .loop (rec .ready)) :: (W.heap.size, MarkObj) :: res⟩ X0 (fun e a W2 => match e with
          | .normal => EOk ⟨n.size, []⟩ ((d, x) :: (p, x) :: env) a ∧ Sat ⟨w, (W.heap.size + 1, .loop (rec .ready)) :: (W.heap.size, MarkObj) :: res⟩ X0 own' X' W2
          | _ => False) [.code asg] none ((p, x) :: env) own' X' := by
        rw [hasg]
        refine T.region (ops := [_]) (SL.y (op_assign (v := x) ?_) rfl ?_ ?_)
        · simp [eev, eget]
        · simp [dok, noDefer]; exact Nat.le_of_ble_eq_true hd
        · exact fun a W2 ha hs => ⟨ha, hs⟩
      have hw := runL_code_iff.1 (hAs _ A he hA)
      refine wpIn_dep (m := DEP) (Code.wpIn_mono (fun e a2 W2 h => ?_) hw)
      cases e with
      | normal =>
        obtain ⟨ha2, hs2⟩ := h
        have hl2 := (hs2.res (W.heap.size + 1, .loop (rec .ready)) (by simp)).1
        refine ⟨_, run_beginRound hl2 (by rw [hrec]), ?_⟩
        have hs3 := hs2.putRes hfar (.loop { rec .ready with state := .busy })
        have hb := runL_code_iff.1 (round i x own' X' _ _ _ hx hI a2 _ ha2 hs3)
        refine wpIn_dep (m := DEP) (Code.wpIn_mono (fun e a4 W4 h => ?_) hb)
        cases e with
        | normal =>
          obtain ⟨own4, X4, hI4, hs4⟩ := h
          have hl4 := (hs4.res (W.heap.size + 1, .loop { rec .ready with state := .busy }) (by simp)).1
          refine ⟨_, _, run_endRound none hl4, rfl, own4, X4, hI4, ?_⟩
          have := hs4.putRes hfar (.loop (rec .ready))
          have e2 : ({ { rec .ready with state := .busy } with state := (if (none : Option Code).isNone then .ready else .done), pending := none } : Loop) = rec .ready := by rw [hrec]; rfl
          rw [e2]
          exact this
        | _ => exact h.elim
      | _ => exact h.elim
    · rintro e B ⟨⟨v, rfl⟩, own', X', hI, hB⟩
      have hl := (hB.res (W.heap.size + 1, .loop (rec .ready)) (by simp)).1
      have e3 : ({ rec .ready with state := .exhausted } : Loop) = rec .exhausted := by rw [hrec]
      have e4 : (rec .ready).pending = none := by rw [hrec]
      refine ⟨none, B.putObj (W.heap.size + 1) (.loop (rec .exhausted)), ?_, ?_⟩
      · have := run_endLoop (P := P) hl (by rw [hrec]; simp)
        rw [e3, e4] at this
        exact this
      have hs5 := (hB.putRes hfar (.loop (rec .exhausted))).drop
      have hr := rest W.heap.size own' X' hI { a with defers := [markOf W.heap.size] ++ a.defers } _ ⟨by simp [ha.defers], ha.size, ha.get⟩ hs5
      exact hr

theorem SL.yield {ops : Array Oper} {l' : List Oper} {d : Option Tmp} {c y : Operand} {ts : Array TypeId} {ty : TypeId} {pos : String} {af : Array Edge} {gd : Option (Nat × Bool)} {l : Nat} {x : Value} {J J' : World → Prop}
    (hc : eev env c = some (.func (.yield l) #[] #[])) (hx : eev env y = some x) (hg : gwant ops env gd = some true) (hd : dok n d = true)
    (hJ : ∀ W, Below w.heap.size w W → J W) (hY : ∀ A, J A → YieldAt (FR none) DEP P l #[x] A fun e B => e = .returned (.bool true) ∧ J' B) (hP : ∀ B, J' B → PIn X B)
    (h' : ∀ w1, J' w1 → PIn X w1 → SL none P n ⟨w1, []⟩ X ops Q l' (eput env d (.bool true)) [] X) :
    SL none P n ⟨w, []⟩ X0 ops Q (⟨d, .call { callee := .value c, args := #[y], argTypes := ts }, ty, pos, af, gd⟩ :: l') env [] X := by
  intro a W ha hs
  unfold wpListIn
  rw [if_pos (gwant_spec ha hg)]
  refine ⟨fun _ _ => trivial, ?_⟩
  rw [Oper.semAt_eq _ _ _ (fun _ => by simp)]
  obtain ⟨fn, tmps, assign, body, hy, hr⟩ := hY W (hJ W hs.below)
  have hex : (execOp a.eval ⟨d, .call { callee := .value c, args := #[y], argTypes := ts }, ty, pos, af, gd⟩).run P W = .ok (.round l fn tmps assign body) W := by
    simp only [execOp, resolve, ha.eval hc, Deferred.ofValue, invoke, Sem.run_bind, Sem.run_pure, Result.andThen_ok, List.map_toArray, List.map_cons, List.map_nil, ha.eval hx]
    simp [go_sem, hy]
  rw [hex, Oper.uponIn_round]
  refine ⟨fun h => (by cases h), roundIn_dep (m := DEP) (hr.mono fun e B h => ?_)⟩
  obtain ⟨rfl, hJ'⟩ := h
  exact h' B hJ' (hP B hJ') _ _ (ha.eput hd _) (Sat.start B (hP B hJ'))
/-- A loop of an iterator: each round begins in a world of its own. -/
def FamB := Nat → Env → World → Prop
def backToB (n : NM) (X : PMap) (I : FamB) (m : Nat) : It := .cut fun a W => ∃ m', m' < m ∧ ∃ env w1, I m' env w1 ∧ EOk n env a ∧ Sat ⟨w1, []⟩ X [] X W
theorem T.loopB {c : Code} {k : List It} (I : FamB) (m : Nat) {env' : Env} (h0 : I m env' w) (hw : Sub env env')
    (hX : X = X0) (round : ∀ m env w1, I m env w1 → T none P n ⟨w1, []⟩ X Q (.code c :: backToB n X I m :: k) none env [] X) : T none P n ⟨w, []⟩ X0 Q (.code (.loop c) :: k) none env [] X := by
  subst hX
  intro a W ha hs
  refine runL_code (loop_ghost (fun m a W => ∃ env w1, I m env w1 ∧ EOk n env a ∧ Sat ⟨w1, []⟩ X [] X W) ?_ m a W ⟨env', w, h0, ha.weaken hw.get, hs⟩)
  rintro m a W ⟨env, w1, hI, ha, hs⟩
  refine Code.wpIn_mono (fun e a w h => ?_) (runL_code_iff.1 (round m env w1 hI a W ha hs))
  cases e with
  | normal => exact h
  | exit id => exact h
  | _ => exact h
theorem T.backB {I : FamB} {m : Nat} {k : List It} (m' : Nat) (hm : m' < m) {env' : Env} (hI : I m' env' w) (hw : Sub env env') : T none P n ⟨w, []⟩ X Q (backToB n X I m :: k) none env [] X :=
  fun _ _ ha hs => ⟨m', hm, env', w, hI, ha.weaken hw.get, hs⟩
end
end Go.Proofs.YtnpcilglilfajaaGreatDoor
namespace Go.Proofs.YtnpcilglilfajaaGreatDoor
open Go.RowKit
/-- What a call leaves that hands over blocks. -/
def FinO (w0 : World) (X0 : PMap) (Φ : Value → Own → PMap → Prop) (e : Ending) (w' : World) : Prop :=
  ∃ v own X', e = .returned v ∧ SatC w0 X0 own X' w' ∧ Φ v own X'
def SpecO (P : Program) (f : FuncId) (args : List Value) (X0 : PMap) (Φ : Value → Own → PMap → Prop) : Prop := ∀ w, PIn X0 w → Calls P f args.toArray w (FinO w X0 Φ)
theorem SpecO.enter {P : Program} {f : FuncId} {fn : Func} {c : Code} {args : List Value} {X0 : PMap} {Φ : Value → Own → PMap → Prop} (hf : P.funcs[f]? = some fn) (hb : fn.body = some c) {n : Nat} (hn : fn.ntmps = n) (hl : Nat.ble args.length n = true)
    (h : ∀ w, PIn X0 w → T none P ⟨n, []⟩ ⟨w, []⟩ X0 (bodyQ P fn (FinO w X0 Φ)) [.code c] none (argEnv 0 args) [] X0) : SpecO P f args X0 Φ := fun w hw => Calls.enter hf hb hn hl hw (h w hw)
theorem Sat.callO {w0 : Base} {X0 : PMap} {own own1 : Own} {X X' : PMap} {W W' : World} (h : Sat w0 X0 own X W) (h1 : SatC W X own1 X' W') : Sat w0 X0 (own1 ++ own) X' W' := by
  have hg := Grow.of_below h1.below
  refine ⟨⟨h.below.trans (h1.below.mono h.below.size), fun k hk => (h1.old k (Nat.lt_of_lt_of_le hk h.below.size)).trans (h.old k hk), ⟨fun p hp => ?_, h1.stab.pers⟩, fun p hp => ?_, fun p hp => ?_, ?_⟩, fun p hp => ?_⟩
  · rcases List.mem_append.1 hp with hp | hp
    · exact h1.stab.own p hp
    · exact hg.ow (h.stab.own p hp)
  · rcases List.mem_append.1 hp with hp | hp
    · exact Nat.le_trans h.below.size (h1.new p hp)
    · exact h.new p hp
  · rcases List.mem_append.1 hp with hp | hp
    · exact h1.apart p hp
    · exact (h1.old _ (h.stab.own p hp).lt).trans (h.apart p hp)
  · refine List.pairwise_append.2 ⟨h1.nodup, h.nodup, fun a ha b hb => ?_⟩
    have := h1.new a ha
    have := (h.stab.own b hb).lt
    omega
  · obtain ⟨g1, g2, g3, g4⟩ := h.res p hp
    refine ⟨(hg.same _ (get_lt g1)).trans g1, (h1.old _ (get_lt g1)).trans g2, fun q hq => ?_, g4⟩
    rcases List.mem_append.1 hq with hq | hq
    · have := h1.new q hq
      have := get_lt g1
      omega
    · exact g3 q hq

section
variable {ro : Option Nat} {P : Program} {n : NM} {w0 : Base} {X0 X : PMap} {own : Own} {env : Env}
theorem op_callO {f : FuncId} {xs : Array Operand} {ts : Array TypeId} {vs : List Value} {Φ : Value → Own → PMap → Prop} (he : Enters P f) (hx : xs.toList.map (eev env) = vs.map some)
    (h : SpecO P f vs X Φ) : OpX P n w0 X0 env own X (.call { callee := .value (.func f), args := xs, argTypes := ts }) true fun v own' X' => ∃ own1, own' = own1 ++ own ∧ X.le X' ∧ Φ v own1 X' := by
  intro a W oper K Q ro hop ha hs hK
  have all : ∀ (xs : List Operand) (vs : List Value), xs.map (eev env) = vs.map some → xs.map a.eval = vs := by
    intro xs
    induction xs with
    | nil => intro vs h; cases vs <;> simp_all
    | cons x xs ih =>
      intro vs h
      cases vs with
      | nil => simp at h
      | cons v vs =>
        simp only [List.map_cons, List.cons.injEq] at h
        simp [ha.eval h.1, ih vs h.2]
  have h1 : xs.map a.eval = vs.toArray := by apply Array.toList_inj.1; simp [all _ _ hx]
  have hex : (execOp a.eval oper).run P W = .ok (.enter f vs.toArray) W := by
    have hc : a.eval (.func f) = .func (.func f) #[] #[] := ha.eval rfl
    simp only [execOp, hop, resolve, hc, h1, Deferred.ofValue, invoke, Sem.run_bind, Sem.run_pure, Result.andThen_ok]
    simpa using he vs.toArray W
  refine wp_enters (noDefer_spec (by rw [hop]; rfl)) hex ((h W hs.stab.pers).mono fun e w' hfin => ?_)
  obtain ⟨v, own1, X', rfl, hc, hΦ⟩ := hfin
  refine ⟨v, rfl, ?_⟩
  exact hK v _ X' w' ⟨own1, rfl, fun q o hq => (hc.old q (hs.stab.pers.lt hq)).trans hq, hΦ⟩ (hs.callO hc) fun _ => Grow.of_below hc.below
variable {fn : Func} {Φ : Value → Own → PMap → Prop}
theorem T.retO {w : World} {v : Value} {k : List It} {s : Nat} (hr : ∀ a W, EOk ⟨s, []⟩ env a → Stab own X W → (results fn a.tmps).run P W = .ok v W) (hΦ : Φ v own X) : T ro P ⟨s, []⟩ ⟨w, []⟩ X0 (bodyQ P fn (FinO w X0 Φ)) (.code .ret :: k) none env own X :=
  fun a W ha hs => runL_ret (by
    show LeavesInM (FR none) DEP P fn a.tmps _ a.defers .returning W
    rw [ha.defers]
    exact ⟨v, hr a W ha hs.stab, v, own, X, rfl, hs.toSatC, hΦ⟩)
theorem T.retO1 {w : World} {k : List It} {s : Nat} {r : ResultVar} {v : Value} (hr : fn.results = #[r]) (h : ResIs P env own r v) (hΦ : Φ v own X) : T ro P ⟨s, []⟩ ⟨w, []⟩ X0 (bodyQ P fn (FinO w X0 Φ)) (.code .ret :: k) none env own X := T.retO (fun _ _ ha hs => run_results1 hr h ha hs) hΦ
theorem T.perm {Q : Exit → Act → World → Prop} {k : List It} {e : Option Nat} {own' : Own} (hp : own.Perm own') (h : T ro P n w0 X0 Q k e env own' X) : T ro P n w0 X0 Q k e env own X := fun a W ha hs => h a W ha (hs.perm hp)
theorem SL.perm {ops : Array Oper} {Q : Exit → Act → World → Prop} {l : List Oper} {own' : Own} (hp : own.Perm own') (h : SL ro P n w0 X0 ops Q l env own' X) : SL ro P n w0 X0 ops Q l env own X := fun a W ha hs => h a W ha (hs.perm hp)
end
end Go.Proofs.YtnpcilglilfajaaGreatDoor
namespace Go.Proofs.YtnpcilglilfajaaGreatDoor
open Go.RowKit
section
variable {P : Program} {n : NM} {w0 : Base} {X0 X : PMap} {own : Own} {env : Env}
/-- The start of a slice of a slice. -/
def slA (A : Option Addr) (cap l size : Nat) : Option Addr := if cap = l then A else A.map (·.add (l * size))
theorem op_sliceA {t e : TypeId} {x : Operand} {lo hi : Option Operand} {A : Option Addr} {len cap size l h : Nat} {row : Bool} (ht : P.underlying t = some (.slice e)) (he : Ty P e row size) (hx : eev env x = some (.slice A len cap))
    (hl : ∀ q, lo = some q → ∃ k, eev env q = some (.int k (l : Int))) (hl0 : lo = none → l = 0) (hh : ∀ q, hi = some q → ∃ k, eev env q = some (.int k (h : Int))) (hh0 : hi = none → h = len) (h1 : l ≤ h) (h2 : h ≤ cap) :
    OpY P n env own X (.slice t x lo hi none) (.slice (slA A cap l size) (h - l) (cap - l)) := by
  intro a W oper hop ha _
  have hinf := he.info
  have hinf' : ∃ inf, P.info? e = some inf ∧ inf.size = size := by
    cases hq : P.info? e with
    | none => simp [hq] at hinf
    | some inf => exact ⟨inf, rfl, by simpa [hq] using hinf⟩
  obtain ⟨inf, hq, hsz⟩ := hinf'
  have hsl : ∀ (lo' hi' : Option Value), (∀ v, lo' = some v → ∃ k, v = .int k (l : Int)) → (lo' = none → l = 0) → (∀ v, hi' = some v → ∃ k, v = .int k (h : Int)) → (hi' = none → h = len) →
      (Instr.sliceAt t (.slice A len cap) lo' hi' none).run P W = .ok (.slice (slA A cap l size) (h - l) (cap - l)) W := by
    intro lo' hi' a1 a2 a3 a4
    have hb2 : (Instr.sliceBounds true len cap lo' hi' none).run P W = .ok (l, h, cap) W := by
      cases lo' with
      | none =>
        have := a2 rfl
        subst this
        cases hi' with
        | none => have := a4 rfl; subst this; simp [Instr.sliceBounds]
        | some v => obtain ⟨k, rfl⟩ := a3 v rfl; simp [Instr.sliceBounds, Instr.sliceBound, asIntOf, h2]
      | some u =>
        obtain ⟨k', rfl⟩ := a1 u rfl
        cases hi' with
        | none => have := a4 rfl; subst this; simp [Instr.sliceBounds, Instr.sliceBound, asIntOf, h1]
        | some v => obtain ⟨k, rfl⟩ := a3 v rfl; simp [Instr.sliceBounds, Instr.sliceBound, asIntOf, h2, h1]
    simp only [Instr.sliceAt, Sem.run_bind, run_underlying ht, Result.andThen_ok, Instr.slice, hb2, sizeOf, typeInfo, slA]
    by_cases hc : cap = l <;> simp [hc, hq, hsz]
  have := hsl (lo.map a.eval) (hi.map a.eval) (fun v hv => by
      cases lo with
      | none => simp at hv
      | some q => obtain ⟨k, hk⟩ := hl q rfl; simp only [Option.map_some, Option.some.injEq] at hv; exact ⟨k, by rw [← hv, ha.eval hk]⟩)
    (fun hv => hl0 (by cases lo <;> simp_all)) (fun v hv => by
      cases hi with
      | none => simp at hv
      | some q => obtain ⟨k, hk⟩ := hh q rfl; simp only [Option.map_some, Option.some.injEq] at hv; exact ⟨k, by rw [← hv, ha.eval hk]⟩)
    (fun hv => hh0 (by cases hi <;> simp_all))
  simp [execOp, hop, ha.eval hx, this]
theorem op_sliceLo {t e : TypeId} {x y : Operand} {A : Option Addr} {len cap size l : Nat} {row : Bool} {kk : IntKind} (ht : P.underlying t = some (.slice e)) (he : Ty P e row size) (hx : eev env x = some (.slice A len cap))
    (hy : eev env y = some (.int kk (l : Int))) (h1 : l ≤ len) (h2 : len ≤ cap) : OpY P n env own X (.slice t x (some y) none none) (.slice (slA A cap l size) (len - l) (cap - l)) :=
  op_sliceA ht he hx (fun q h => by cases h; exact ⟨kk, hy⟩) (fun h => by cases h) (fun _ h => by cases h) (fun _ => rfl) h1 h2
theorem op_sliceHi {t e : TypeId} {x y : Operand} {A : Option Addr} {len cap size l : Nat} {row : Bool} {kk : IntKind} (ht : P.underlying t = some (.slice e)) (he : Ty P e row size) (hx : eev env x = some (.slice A len cap))
    (hy : eev env y = some (.int kk (l : Int))) (h2 : l ≤ cap) : OpY P n env own X (.slice t x none (some y) none) (.slice (slA A cap 0 size) l cap) := by
  have := op_sliceA (n := n) (own := own) (X := X) (lo := none) (hi := some y) (l := 0) ht he hx (fun _ h => by cases h) (fun _ => rfl) (fun q h => by cases h; exact ⟨kk, hy⟩) (fun h => by cases h) (Nat.zero_le _) h2
  simpa using this
/-- The part of a slice from l on, read. -/
theorem Src.lo {s : Value} {len size l cap : Nat} {A : Option Addr} {cs : List Value} (h : SliceR X s len cs) (hs : s = .slice A len cap) (hc : cs.length = len * size) (h1 : l ≤ len) (h2 : len ≤ cap) : Src own X (.slice (slA A cap l size) (len - l) (cap - l)) (len - l) size (cs.drop (l * size)) := by
  subst hs
  rcases h with ⟨rfl, rfl, _⟩ | ⟨h0, b, c, hv, hb⟩
  · obtain rfl : l = 0 := by omega
    simpa using Src.nil
  · simp only [Value.slice.injEq, true_and] at hv
    obtain ⟨rfl, rfl⟩ := hv
    unfold slA
    by_cases he : cap = l
    · rw [if_pos he]
      have e : len = l := by omega
      rw [e, Nat.sub_self, List.drop_eq_nil_of_le (by rw [hc, e]; exact Nat.le_refl _)]
      exact Src.nil
    · rw [if_neg he]
      have hm : l * size + (len - l) * size = len * size := by rw [← Nat.add_mul]; congr 1; omega
      have := Src.ofExt (own := own) (m := len - l) (c := cap - l) (size := size) (o := l * size) hb (by omega)
      have e2 : (cs.drop (l * size)).take ((len - l) * size) = cs.drop (l * size) := List.take_of_length_le (by simp; omega)
      rw [e2] at this
      show Src own X (.slice (some (Addr.add ⟨b, 0, none⟩ (l * size))) _ _) _ _ _
      rw [Addr.add_mid, Nat.zero_add]
      exact this
/-- The first l elements of a slice, read. -/
theorem Src.hi {s : Value} {len size l cap : Nat} {A : Option Addr} {cs : List Value} (h : SliceR X s len cs) (hs : s = .slice A len cap) (hc : cs.length = len * size) (h1 : l ≤ len) : Src own X (.slice (slA A cap 0 size) l cap) l size (cs.take (l * size)) := by
  subst hs
  have hA : slA A cap 0 size = if cap = 0 then A else A.map (·.add 0) := by simp [slA]
  rcases h with ⟨rfl, rfl, _⟩ | ⟨h0, b, c, hv, hb⟩
  · obtain rfl : l = 0 := by omega
    simpa using Src.nil
  · simp only [Value.slice.injEq, true_and] at hv
    obtain ⟨rfl, rfl⟩ := hv
    have hle : l * size ≤ len * size := Nat.mul_le_mul_right _ h1
    have := Src.ofExt (own := own) (m := l) (c := cap) (size := size) (o := 0) hb (by omega)
    rw [hA]
    split <;> simpa [Addr.add] using this
end
end Go.Proofs.YtnpcilglilfajaaGreatDoor
namespace Go.Proofs.YtnpcilglilfajaaGreatDoor
open Go.RowKit
/-- What a call leaves that was lent blocks. -/
def FinM (w0 : Base) (X0 : PMap) (own0 : Own) (Φ : Value → Own → PMap → Prop) (e : Ending) (w' : World) : Prop :=
  ∃ v L' X', e = .returned v ∧ Sat w0 X0 (L' ++ own0) X' w' ∧ Φ v L' X'
def SpecM (P : Program) (f : FuncId) (args : List Value) (X : PMap) (L : Own) (Φ : Value → Own → PMap → Prop) : Prop :=
  ∀ (w0 : Base) (X0 : PMap) (own0 : Own) (W : World), Sat w0 X0 (L ++ own0) X W → Calls P f args.toArray W (FinM w0 X0 own0 fun v L' X' => X.le X' ∧ Φ v L' X')
theorem Calls.enterM {P : Program} {f : FuncId} {fn : Func} {c : Code} {args : List Value} {R : Ending → World → Prop} {w0 : Base} {X0 X : PMap} {own : Own} {W : World} (hf : P.funcs[f]? = some fn) (hb : fn.body = some c) {n : Nat} (hn : fn.ntmps = n) (hl : Nat.ble args.length n = true) (hs : Sat w0 X0 own X W)
    (h : T none P ⟨n, []⟩ w0 X0 (bodyQ P fn R) [.code c] none (argEnv 0 args) own X) : Calls P f args.toArray W R := by
  have hl' : args.length ≤ n := Nat.le_of_ble_eq_true hl
  refine (fr_calls (ro := none) (m := DEP)).1 (callsIn_of_wp_marks (F := FR none) hf hb trivial ?_)
  have := h { tmps := args.toArray ++ Array.replicate (fn.ntmps - args.toArray.size) undef, defers := [] } W ⟨rfl, by simp; omega, fun t v ht => ?_⟩ hs
  · refine Code.wpIn_mono (fun e a w h => bodyQ_post _ _ _ ?_) (runL_code_iff.1 this)
    cases e <;> exact h
  · obtain ⟨_, h2⟩ := eget_argEnv _ _ _ _ ht
    simp only [Nat.sub_zero] at h2
    have hlt : t < args.length := by
      rcases Nat.lt_or_ge t args.length with h1 | h1
      · exact h1
      · rw [List.getElem?_eq_none h1] at h2; cases h2
    rw [List.getElem?_eq_getElem hlt] at h2
    simp only [Option.some.injEq] at h2
    subst h2
    have : t < args.length + (n - args.length) := by omega
    simp [Array.getD, hn, this, hlt]
theorem SpecM.enter {P : Program} {f : FuncId} {fn : Func} {c : Code} {args : List Value} {X : PMap} {L : Own} {Φ : Value → Own → PMap → Prop} (hf : P.funcs[f]? = some fn) (hb : fn.body = some c) {n : Nat} (hn : fn.ntmps = n) (hl : Nat.ble args.length n = true)
    (h : ∀ w0 X0 own0, T none P ⟨n, []⟩ w0 X0 (bodyQ P fn (FinM w0 X0 own0 fun v L' X' => X.le X' ∧ Φ v L' X')) [.code c] none (argEnv 0 args) (L ++ own0) X) : SpecM P f args X L Φ :=
  fun w0 X0 own0 _ hs => Calls.enterM hf hb hn hl hs (h w0 X0 own0)
section
variable {ro : Option Nat} {P : Program} {n : NM} {w0 : Base} {X0 X : PMap} {own : Own} {env : Env}
theorem op_callM {f : FuncId} {xs : Array Operand} {ts : Array TypeId} {vs : List Value} {L own0 : Own} {Φ : Value → Own → PMap → Prop} (he : Enters P f) (hx : xs.toList.map (eev env) = vs.map some)
    (h : SpecM P f vs X L Φ) (hown : own = L ++ own0) : OpX P n w0 X0 env own X (.call { callee := .value (.func f), args := xs, argTypes := ts }) false fun v own' X' => ∃ L', own' = L' ++ own0 ∧ X.le X' ∧ Φ v L' X' := by
  subst hown
  intro a W oper K Q ro hop ha hs hK
  have all : ∀ (xs : List Operand) (vs : List Value), xs.map (eev env) = vs.map some → xs.map a.eval = vs := by
    intro xs
    induction xs with
    | nil => intro vs h; cases vs <;> simp_all
    | cons x xs ih =>
      intro vs h
      cases vs with
      | nil => simp at h
      | cons v vs =>
        simp only [List.map_cons, List.cons.injEq] at h
        simp [ha.eval h.1, ih vs h.2]
  have h1 : xs.map a.eval = vs.toArray := by apply Array.toList_inj.1; simp [all _ _ hx]
  have hex : (execOp a.eval oper).run P W = .ok (.enter f vs.toArray) W := by
    have hc : a.eval (.func f) = .func (.func f) #[] #[] := ha.eval rfl
    simp only [execOp, hop, resolve, hc, h1, Deferred.ofValue, invoke, Sem.run_bind, Sem.run_pure, Result.andThen_ok]
    simpa using he vs.toArray W
  refine wp_enters (noDefer_spec (by rw [hop]; rfl)) hex ((h w0 X0 own0 W hs).mono fun e w' hfin => ?_)
  obtain ⟨v, L', X', rfl, hc, hX, hΦ⟩ := hfin
  exact ⟨v, rfl, hK v _ X' w' ⟨L', rfl, hX, hΦ⟩ hc (fun h => by cases h)⟩
variable {fn : Func} {Φ : Value → Own → PMap → Prop}
theorem T.retM {v : Value} {k : List It} {s : Nat} {own0 L' : Own} (hr : ∀ a W, EOk ⟨s, []⟩ env a → Stab own X W → (results fn a.tmps).run P W = .ok v W) (hp : own.Perm (L' ++ own0)) (hΦ : Φ v L' X) : T ro P ⟨s, []⟩ w0 X0 (bodyQ P fn (FinM w0 X0 own0 Φ)) (.code .ret :: k) none env own X :=
  fun a W ha hs => runL_ret (by
    show LeavesInM (FR none) DEP P fn a.tmps _ a.defers .returning W
    rw [ha.defers]
    exact ⟨v, hr a W ha hs.stab, v, L', X, rfl, hs.perm hp, hΦ⟩)
theorem T.doneM {v : Value} {s : Nat} {own0 L' : Own} (hr : ∀ a W, EOk ⟨s, []⟩ env a → Stab own X W → (results fn a.tmps).run P W = .ok v W) (hp : own.Perm (L' ++ own0)) (hΦ : Φ v L' X) : T ro P ⟨s, []⟩ w0 X0 (bodyQ P fn (FinM w0 X0 own0 Φ)) [] none env own X :=
  fun a W ha hs => (by
    show LeavesInM (FR none) DEP P fn a.tmps _ a.defers .returning W
    rw [ha.defers]
    exact ⟨v, hr a W ha hs.stab, v, L', X, rfl, hs.perm hp, hΦ⟩)
theorem T.doneM0 {s : Nat} {own0 : Own} (L' : Own) (hr : fn.results = #[]) (hp : own.Perm (L' ++ own0)) (hΦ : Φ (.tuple #[]) L' X) : T ro P ⟨s, []⟩ w0 X0 (bodyQ P fn (FinM w0 X0 own0 Φ)) [] none env own X := T.doneM (fun _ _ _ _ => run_results0 hr) hp hΦ
theorem T.retM1 {k : List It} {s : Nat} {own0 : Own} (L' : Own) {r : ResultVar} {v : Value} (hr : fn.results = #[r]) (h : ResIs P env own r v) (hp : own.Perm (L' ++ own0)) (hΦ : Φ v L' X) : T ro P ⟨s, []⟩ w0 X0 (bodyQ P fn (FinM w0 X0 own0 Φ)) (.code .ret :: k) none env own X := T.retM (fun _ _ ha hs => run_results1 hr h ha hs) hp hΦ
theorem T.retM2 {k : List It} {s : Nat} {own0 : Own} (L' : Own) {r r' : ResultVar} {v v' : Value} (hr : fn.results = #[r, r']) (h : ResIs P env own r v) (h' : ResIs P env own r' v') (hp : own.Perm (L' ++ own0)) (hΦ : Φ (.tuple #[v, v']) L' X) : T ro P ⟨s, []⟩ w0 X0 (bodyQ P fn (FinM w0 X0 own0 Φ)) (.code .ret :: k) none env own X := T.retM (fun _ _ ha hs => run_results2 hr h h' ha hs) hp hΦ

theorem permA {a : Ow} {G O : Own} : ([a] ++ (G ++ O)).Perm ((a :: O) ++ G) := List.Perm.cons a (show (G ++ O).Perm (O ++ G) from List.perm_append_comm)
theorem permL {x a : Ow} {G O : Own} : (x :: ([a] ++ (G ++ O))).Perm (x :: ((a :: O) ++ G)) := List.Perm.cons x permA
theorem permC {a g : Ow} {O : Own} : ((a :: [g]) ++ O).Perm ((a :: O) ++ [g]) := List.Perm.cons a (show ([g] ++ O).Perm (O ++ [g]) from List.perm_append_comm)
theorem permD {a : Ow} {G O : Own} : ((a :: O) ++ G).Perm ((a :: G) ++ O) := List.Perm.cons a (show (O ++ G).Perm (G ++ O) from List.perm_append_comm)
theorem infoStr_of {e : TypeId} (h : (P.info? e).map (fun i => (i.size, i.bytes, i.zero)) = some (1, 1, some (.int .u8 0))) : ∃ i, P.info? e = some i ∧ i.zero = some (.int .u8 0) ∧ i.size = 1 ∧ i.bytes = 1 := by
  obtain ⟨i, h1, h2⟩ := Option.map_eq_some_iff.1 h
  simp only [Prod.mk.injEq] at h2
  exact ⟨i, h1, h2.2.2, h2.1, h2.2.1⟩
theorem Ow.In.shape {p : Ow} {W : World} (h : p.In W) : W.shape? p.b = some (p.ty, p.sz) := by
  obtain ⟨r, h, hz⟩ := h
  simp [World.shape?, h, hz]
/-- A pointer to a block of the call's own, as unsafe.Pointer. -/
theorem op_toUns {src dst t ty : TypeId} {x : Operand} {b sz j : Nat} {cs : List Value} (hs : P.underlying src = some (.pointer t)) (hd : P.underlying dst = some .unsafePointer) {size : Nat} (ht : (P.info? t).map (·.size) = some (size + 1)) (hx : eev env x = some (.pointer (some ⟨b, 0, none⟩)))
    (ho : AtO own b cs ty sz j) (h0 : 0 < sz) : OpY P n env own X (.convert src dst x) (.pointer (some ⟨b, 0, none⟩)) := by
  intro a W oper hop ha hst
  obtain ⟨i, hi, hz⟩ := Option.map_eq_some_iff.1 ht
  have := Lib.run_to_unsafe (P := P) W ⟨b, 0, none⟩ hs hd hi (by omega) ((hst.own _ ho.mem).shape) h0
  simp [execOp, hop, ha.eval hx, this]
theorem op_fromUns {src dst u ty : TypeId} {x : Operand} {b sz j : Nat} {cs : List Value} (hs : P.underlying src = some .unsafePointer) (hd : P.underlying dst = some (.pointer u)) {size : Nat} (hu : (P.info? u).map (·.size) = some size) (hx : eev env x = some (.pointer (some ⟨b, 0, none⟩)))
    (ho : AtO own b cs ty sz j) (hl : liesAt P P.depth ty (sz / P.cellsOf ty) 0 u 1 = true) : OpY P n env own X (.convert src dst x) (.pointer (some ⟨b, 0, none⟩)) := by
  intro a W oper hop ha hst
  obtain ⟨i, hi, hz⟩ := Option.map_eq_some_iff.1 hu
  have := Lib.run_from_unsafe (P := P) W ⟨b, 0, none⟩ hs hd hi ((hst.own _ ho.mem).shape) hl
  simp [execOp, hop, ha.eval hx, this]
/-- abi.NoEscape: the pointer as it is. -/
theorem op_noEsc {f : FuncId} {gn : Func} {x : Operand} {ts : Array TypeId} {v : Value} (hf : P.funcs[f]? = some gn) (h1 : (gn.name == "runtime.NumGoroutine") = false) (h2 : gn.body.isNone = true) (h3 : Extern.findNext gn = none) (h4 : Extern.find gn = some Extern.AbiNoEscape.same) (hx : eev env x = some v) :
    OpY P n env own X (.call { callee := .value (.func f), args := #[x], argTypes := ts }) v := by
  intro a W oper hop ha _
  have hc : a.eval (.func f) = .func (.func f) #[] #[] := ha.eval rfl
  have hr := run_callFunc_extern hf h1 h2 h3 h4 #[v] W
  rw [Lib.run_noEscape] at hr
  simp only [execOp, hop, resolve, hc, Deferred.ofValue, invoke, Sem.run_bind, Sem.run_pure, Result.andThen_ok]
  simpa [ha.eval hx] using hr
theorem op_neqSame {tp te : TypeId} {x y : Operand} {t' : TypeId} {A : Addr} {size : Nat} (hp : P.underlying tp = some (.pointer te)) (hte : (P.info? te).map (·.size) = some size) (hx : eev env x = some (.pointer (some A))) (hy : eev env y = some (.pointer (some A))) :
    OpY P n env own X (.binOp .neq tp x y t') (.bool false) := by
  intro a W oper hop ha _
  obtain ⟨i, hi, _⟩ := Option.map_eq_some_iff.1 hte
  have := Lib.run_neq_ptr_same (P := P) W A hp hi
  have h0 : ∀ (e : BinOp) (u v : Operand), eqGuard e tp u v (.pointer (some A)) (.pointer (some A)) = pure () := fun e u v => by cases e <;> rfl
  simp only [execOp, hop, ha.eval hx, ha.eval hy, h0, Sem.run_bind, Sem.run_pure, Result.andThen_ok, this]
theorem op_sliceData {x : Operand} {ts : Array TypeId} {b l c : Nat} (hx : eev env x = some (.slice (some ⟨b, 0, none⟩) l c)) (hc : c ≠ 0) : OpY P n env own X (.call { callee := .builtin .unsafeSliceData, args := #[x], argTypes := ts }) (.pointer (some ⟨b, 0, none⟩)) := by
  intro a W oper hop ha _
  have hr := Lib.run_unsafeSliceData_row (P := P) W ts oper.type ⟨b, 0, none⟩ l c hc
  simp only [execOp, hop, resolve, invoke, builtin, Sem.run_bind, Sem.run_pure, Result.andThen_ok, List.map_toArray, List.map_cons, List.map_nil, ha.eval hx, hr]
theorem freeze_far {W : World} {p : Addr} {m k : Nat} (h : k ≠ p.block) : (W.freeze p m).heap[k]? = W.heap[k]? := by
  unfold World.freeze
  split
  · rfl
  · simp [Array.getElem?_modify, Ne.symm h]
theorem SatC.freeze {w0 : World} {W : World} {b sz m : Nat} {cs : List Value} {ty : TypeId} (h : SatC w0 X0 (own ++ [⟨b, cs, ty, sz⟩]) X W) : SatC w0 X0 own X (W.freeze ⟨b, 0, none⟩ m) := by
  have hm : (⟨b, cs, ty, sz⟩ : Ow) ∈ own ++ [⟨b, cs, ty, sz⟩] := by simp
  have hne : ∀ q ∈ own, q.b ≠ b := fun q hq => (List.pairwise_append.1 h.nodup).2.2 q hq ⟨b, cs, ty, sz⟩ (by simp)
  refine ⟨Lib.below_freeze h.below (h.new _ hm) m, h.old, ⟨fun q hq => ?_, fun k o hk => ?_⟩, fun q hq => h.new q (List.mem_append_left _ hq), fun q hq => h.apart q (List.mem_append_left _ hq), (List.pairwise_append.1 h.nodup).1⟩
  · obtain ⟨r, h1, h2⟩ := h.stab.own q (List.mem_append_left _ hq)
    exact ⟨r, (freeze_far (hne q hq)).trans h1, h2⟩
  · have hkb : k ≠ b := fun e => by subst e; have := h.apart _ hm; simp only at this; rw [this] at hk; cases hk
    exact (freeze_far hkb).trans (h.stab.pers k o hk)
theorem Sat.freeze {W : World} {b sz m : Nat} {cs : List Value} {ty : TypeId} (h : Sat w0 X0 (own ++ [⟨b, cs, ty, sz⟩]) X W) : Sat w0 X0 own X (W.freeze ⟨b, 0, none⟩ m) :=
  ⟨h.toSatC.freeze, fun p hp => by
    obtain ⟨g1, g2, g3, g4⟩ := h.res p hp
    have hb : b ≠ p.1 := g3 ⟨b, cs, ty, sz⟩ (by simp)
    exact ⟨(freeze_far (Ne.symm hb)).trans g1, g2, fun q hq => g3 q (List.mem_append_left _ hq), g4⟩⟩
/-- unsafe.String over what has grown: the bytes; the row is given up. -/
theorem op_unsafeStr {x y : Operand} {pt it e : TypeId} {b cap : Nat} {l : List UInt8} (hp : P.underlying pt = some (.pointer e)) (hc : P.cellsOf e = 1) (hx : eev env x = some (.pointer (some ⟨b, 0, none⟩))) (hy : eev env y = some (.int .i64 (l.length : Int))) (h0 : l ≠ []) (hl : l.length ≤ cap) (hm : cap ≤ maxLen) :
    OpX P n w0 X0 env (own ++ [⟨b, Lib.byteCells l, e, cap * 1⟩]) X (.call { callee := .builtin .unsafeString, args := #[x, y], argTypes := #[pt, it] }) false fun v own' X' => v = .string ⟨l.toArray⟩ ∧ own' = own ∧ X = X' := by
  intro a W oper K Q ro hop ha hs hK
  have hin := hs.stab.own ⟨b, Lib.byteCells l, e, cap * 1⟩ (by simp)
  have hcell : ∀ j x, l[j]? = some x → W.cell? ((⟨b, 0, none⟩ : Addr).add j) = some (.int .u8 x.toNat) := fun j x hj => by
    rw [Addr.add_mid, Nat.zero_add]
    exact hin.cell (by simp [Lib.byteCells, hj])
  have hmx : maxLen = 9223372036854775807 := rfl
  have hr := Lib.run_unsafeString_row (P := P) W pt it oper.type e hp hc b (cap * 1) hin.shape l h0 (by omega) (by omega) hcell
  have hex : (execOp a.eval oper).run P W = .ok (.value (.string ⟨l.toArray⟩)) (W.freeze ⟨b, 0, none⟩ l.length) := by
    simp only [execOp, hop, resolve, invoke, builtin, Sem.run_bind, Sem.run_pure, Result.andThen_ok, List.map_toArray, List.map_cons, List.map_nil, ha.eval hx, ha.eval hy, hr]
  exact wp_value (noDefer_spec (by rw [hop]; rfl)) hex (hK _ _ X _ ⟨rfl, rfl, rfl⟩ hs.freeze (fun h => by cases h))
/-- append of a string onto what has grown. -/
theorem op_appendStr {t u e : TypeId} {s x : Operand} {b cap len : Nat} {cs : List Value} {str : ByteArray} (ht : P.underlying t = some (.slice e)) (hu : P.underlying u = some .string) (hi : ∃ i, P.info? e = some i ∧ i.zero = some (.int .u8 0) ∧ i.size = 1 ∧ i.bytes = 1) (hs : eev env s = some (.slice (some ⟨b, 0, none⟩) len cap)) (hx : eev env x = some (.string str))
    (hl : len ≤ cap) (hm : cap ≤ maxLen) (hcl : cs.length = len * 1) (hby : len + str.size ≤ 140737488355328) :
    OpX P n w0 X0 env (own ++ [⟨b, cs, e, cap * 1⟩]) X (.call { callee := .builtin .append, args := #[s, x], argTypes := #[t, u] }) false fun v own' X' => ∃ G', own' = own ++ G' ∧ X = X' ∧ GrowS e 1 v (len + str.size) (cs ++ Lib.strCells str) G' ∧ ∃ b' cap', v = .slice (some ⟨b', 0, none⟩) (len + str.size) cap' := by
  intro a W oper K Q ro hop ha hsat hK
  obtain ⟨i, i1, i2, i3, i4⟩ := hi
  have hj : (own ++ [(⟨b, cs, e, cap * 1⟩ : Ow)])[own.length]? = some ⟨b, cs, e, cap * 1⟩ := by simp
  have hin := hsat.stab.own ⟨b, cs, e, cap * 1⟩ (by simp)
  have hb0 := hsat.new ⟨b, cs, e, cap * 1⟩ (by simp)
  obtain ⟨r, hr, hz⟩ := hin
  simp only at hr hz hb0
  have hmx : maxLen = 9223372036854775807 := rfl
  have hrow : W.ownsRow w0.heap.size e 1 (.slice (some ⟨b, 0, none⟩) len cap) len cs :=
    ⟨hcl, .inr ⟨b, cap, (cs ++ r).toArray, rfl, hb0, hr, hl, hm, by simp; omega, by simp [hcl]⟩⟩
  obtain ⟨v', W', r1, r2, r3, r4⟩ := Lib.run_append_own_string (P := P) W w0.heap.size t u oper.type e i ht hu i1 i2 i3 i4 _ len cs hrow str (by omega) hby hsat.below.size
  have hat : v'.ownBlock = some b ∨ v'.ownBlock = some W.heap.size := by
    by_cases hroom : len + str.size ≤ cap
    · have := Lib.run_append_room_string (P := P) W t u oper.type e i ht hu i1 i3 b len cap (cs ++ r).toArray hr str hroom (by simp; omega)
      rw [this] at r1
      injection r1 with r1 _
      left; rw [← r1]; rfl
    · have holds : ∀ j u, cs[j]? = some u → W.cell? ((⟨b, 0, none⟩ : Addr).add j) = some u := hrow.cells (g := b) rfl
      have := Lib.run_append_grow_string (P := P) W t u oper.type e i (.int .u8 0) ht hu i1 i2 ⟨b, 0, none⟩ len cap cs (by rw [i3]; exact hcl) holds str (by omega) (by omega) (by rw [i4]; exact growslice_fits (by omega) (by omega))
      rw [this] at r1
      injection r1 with r1 _
      right; rw [← r1]; rfl
  have hex : (execOp a.eval oper).run P W = .ok (.value v') W' := by
    simp only [execOp, hop, resolve, invoke, builtin, Sem.run_bind, Sem.run_pure, Result.andThen_ok, List.map_toArray, List.map_cons, List.map_nil, ha.eval hs, ha.eval hx, r1]
  refine wp_value (noDefer_spec (by rw [hop]; rfl)) hex ?_
  rcases r2.2 with ⟨rfl, h0⟩ | ⟨g', cap', cur, rfl, hg0, hcur, hn, hmx', hsz', htk⟩
  · rcases hat with h | h <;> simp [Value.ownBlock] at h
  · have hgg : g' = b ∨ g' = W.heap.size := by simpa [Value.ownBlock] using hat
    have hin' : Ow.In ⟨g', cs ++ Lib.strCells str, e, cap' * 1⟩ W' := by
      refine ⟨cur.toList.drop ((len + str.size) * 1), ?_, ?_⟩
      · rw [← htk, List.take_append_drop]; exact hcur
      · have hl' := r2.1
        simp only at hl' ⊢
        rw [hl', List.length_drop, Array.length_toList, hsz']; omega
    have hreg := hsat.regrow hj r3 hgg hin'
    have e1 : (own ++ [(⟨b, cs, e, cap * 1⟩ : Ow)]).set own.length ⟨g', cs ++ Lib.strCells str, e, cap' * 1⟩ = own ++ [⟨g', cs ++ Lib.strCells str, e, cap' * 1⟩] := by simp
    rw [e1] at hreg
    exact hK _ _ X W' ⟨_, rfl, rfl, .inr ⟨g', cap', rfl, rfl, hn, hmx', r2.1⟩, g', cap', rfl⟩ hreg (fun h => by cases h)
end
end Go.Proofs.YtnpcilglilfajaaGreatDoor
namespace Go.Proofs.YtnpcilglilfajaaGreatDoor
open Go.RowKit
def bytesC (bs : List Nat) : List Value := bs.map fun (b : Nat) => .int .u8 (b : Int)
/-- v is a slice of these bytes, wherever it begins. -/
def BytesR (X : PMap) (v : Value) (bs : List Nat) : Prop :=
  (bs = [] ∧ ∃ A c, v = .slice A 0 c) ∨ (0 < bs.length ∧ ∃ b c pre, v = .slice (some ⟨b, pre.length, none⟩) bs.length c ∧ Blk X b (pre ++ bytesC bs))
theorem BytesR.mono {X X' : PMap} {v : Value} {bs : List Nat} (h : BytesR X v bs) (hX : X.le X') : BytesR X' v bs := by
  rcases h with h | ⟨h0, b, c, pre, hv, hb⟩
  · exact .inl h
  · exact .inr ⟨h0, b, c, pre, hv, hb.mono hX⟩
theorem BytesR.form {X : PMap} {v : Value} {bs : List Nat} (h : BytesR X v bs) : ∃ A cp, v = .slice A bs.length cp := by
  rcases h with ⟨rfl, A, c, rfl⟩ | ⟨h0, b, c, pre, rfl, hb⟩
  · exact ⟨_, _, rfl⟩
  · exact ⟨_, _, rfl⟩
theorem BytesR.blk {X : PMap} {A : Option Addr} {cp len : Nat} {bs : List Nat} (h : BytesR X (.slice A len cp) bs) (h0 : 0 < bs.length) : ∃ b pre, A = some ⟨b, pre.length, none⟩ ∧ Blk X b (pre ++ bytesC bs) := by
  rcases h with ⟨rfl, _⟩ | ⟨_, b, c, pre, hv, hb⟩
  · simp at h0
  · simp only [Value.slice.injEq] at hv
    exact ⟨b, pre, hv.1, hb⟩
theorem cread1k' {cs : List Value} {k k' : Nat} {v : Value} (h : cs[k]? = some v) (e : k' = k) : cread false 1 cs k' = some v := by
  subst e
  simpa [cread] using h
end Go.Proofs.YtnpcilglilfajaaGreatDoor
namespace Go.Proofs.YtnpcilglilfajaaGreatDoor
open Go.RowKit
/-- The map with all of the own blocks in it, as they are. -/
def PMap.lent (X : PMap) (own : Own) (W : World) : PMap := fun k => if own.any (fun p => Nat.beq p.b k) then W.heap[k]? else X k
section
variable {ro : Option Nat} {P : Program} {n : NM} {w0 : Base} {X0 X : PMap} {own : Own} {env : Env}
theorem OpX.mono {o : Op} {g : Bool} {k k' : Value → Own → PMap → Prop} (h : OpX P n w0 X0 env own X o g k) (hk : ∀ v own' X', k v own' X' → k' v own' X') : OpX P n w0 X0 env own X o g k' :=
  fun a W oper K Q ro hop ha hs hK => h a W oper K Q ro hop ha hs fun v own' X' W' hkk => hK v own' X' W' (hk v own' X' hkk)
theorem GrowS.pos {e : TypeId} {size len : Nat} {v : Value} {cs : List Value} {G : Own} (h : GrowS e size v len cs G) (h0 : 0 < len) : ∃ b cap, v = .slice (some ⟨b, 0, none⟩) len cap ∧ G = [⟨b, cs, e, cap * size⟩] ∧ len ≤ cap ∧ cap ≤ maxLen := by
  rcases h with ⟨h1, _⟩ | ⟨b, cap, h1, h2, h3, h4, _⟩
  · omega
  · exact ⟨b, cap, h1, h2, h3, h4⟩
end
end Go.Proofs.YtnpcilglilfajaaGreatDoor
namespace Go.Proofs.YtnpcilglilfajaaGreatDoor
open Go.RowKit
theorem rep_cellsA (zs : List Value) {c : Array Value} (m : Nat) (h : c = zs.toArray) : Builtin.zeroCells c m = ((List.replicate m zs).flatten).toArray := by
  subst h
  rw [← rep_cells]
  apply Array.ext'
  simp [Builtin.zeroCells]
section
variable {ro : Option Nat} {P : Program} {n : NM} {w0 : Base} {X0 X : PMap} {own : Own} {env : Env}
/-- A byte of a string. -/
theorem op_idxStr {t : TypeId} {x y : Operand} {k : IntKind} {ii : Int} {i : Nat} {s : ByteArray} {b : UInt8} (ht : P.underlying t = some .string) (hx : eev env x = some (.string s)) (hy : eev env y = some (.int k ii)) (hii : ii = (i : Int)) (hv : s[i]? = some b) :
    OpY P n env own X (.index t x y) (.int .u8 (b.toNat : Int)) := by
  intro a W oper hop ha _
  subst hii
  simp [execOp, hop, Instr.index, asIntOf, ha.eval hx, ha.eval hy, run_underlying ht, hv]
theorem op_sliceLoN {t e : TypeId} {x y : Operand} {b o len cap size l : Nat} {row : Bool} {kk : IntKind} {ll : Int} (ht : P.underlying t = some (.slice e)) (he : Ty P e row size) (hx : eev env x = some (.slice (some ⟨b, o, none⟩) len cap))
    (hy : eev env y = some (.int kk ll)) (hl : ll = (l : Int)) (h0 : l < cap) (h1 : l ≤ len) (h2 : len ≤ cap) : OpY P n env own X (.slice t x (some y) none none) (.slice (some ⟨b, o + l * size, none⟩) (len - l) (cap - l)) := by
  subst hl
  have := op_slice (n := n) (own := own) (X := X) (lo := some y) (hi := none) (h := len) ht he hx (fun q h => by cases h; exact ⟨kk, hy⟩) (fun h => by cases h) (fun _ h => by cases h) (fun _ => rfl) h1 h2
  rwa [if_neg (by omega)] at this
theorem op_sliceHiN {t e : TypeId} {x y : Operand} {b o len cap size l : Nat} {row : Bool} {kk : IntKind} {ll : Int} (ht : P.underlying t = some (.slice e)) (he : Ty P e row size) (hx : eev env x = some (.slice (some ⟨b, o, none⟩) len cap))
    (hy : eev env y = some (.int kk ll)) (hl : ll = (l : Int)) (h2 : l ≤ cap) : OpY P n env own X (.slice t x none (some y) none) (.slice (some ⟨b, o, none⟩) l cap) := by
  subst hl
  have := op_slice (n := n) (own := own) (X := X) (lo := none) (hi := some y) (l := 0) (h := l) ht he hx (fun _ h => by cases h) (fun _ => rfl) (fun q h => by cases h; exact ⟨kk, hy⟩) (fun h => by cases h) (Nat.zero_le _) h2
  simpa using this
end
end Go.Proofs.YtnpcilglilfajaaGreatDoor
namespace Go.Proofs.YtnpcilglilfajaaGreatDoor
open Go.RowKit
theorem SpecO.pubG {P : Program} {f : FuncId} {args : List Value} {X : PMap} {ty : TypeId} {size : Nat} {len : Nat} {cs : List Value} (h : SpecO P f args X fun u own1 _ => GrowS ty size u len cs own1) : Spec P f args X fun u X' => SliceR X' u len cs := fun w hw =>
  (h w hw).mono fun e w' ⟨v, own, X', he, hs, hG⟩ => by
    have hs' : Sat ⟨w, []⟩ X ([] ++ own) X' w' := ⟨by simpa using hs, fun p hp => by cases hp⟩
    obtain ⟨X2, h1, h2, h3⟩ := hs'.pubG hG
    exact ⟨v, X2, he, h3.below, h3.stab.pers, h3.old, h2⟩
end Go.Proofs.YtnpcilglilfajaaGreatDoor
namespace Go.Proofs.YtnpcilglilfajaaGreatDoor
open Go.RowKit
section
variable {P : Program}
theorem run_clearS (w : World) (t e ty : TypeId) (zs : List Value) (hu : P.underlying t = some (.slice e)) (hz : ∃ i z, P.info? e = some i ∧ i.zero = some z ∧ z.cells = zs.toArray) (b o m c : Nat) (h0 : 0 < m)
    (hc : ∀ j, j < m * zs.length → (w.cell? ⟨b, o + j, none⟩).isSome = true) (hf : ∀ j, j < m * zs.length → w.frozen? ⟨b, o + j, none⟩ = false) (h1 : ∀ v ∈ zs, v.oneCell' = true) :
    (Builtin.clear_ #[t] ty #[.slice (some ⟨b, o, none⟩) m c]).run P w = .ok (.tuple #[]) (w.setCells b o (List.replicate m zs).flatten) := by
  obtain ⟨i, z, i1, i2, i3⟩ := hz
  have hlen : ((List.replicate m zs).flatten).length = m * zs.length := by simp
  have hst := run_storeCells_cells (P := P) b o ((List.replicate m zs).flatten) 0 w (by rw [hlen]; simpa using hc) (by rw [hlen]; simpa using hf) (fun v hv => by
    obtain ⟨l, hl, hv⟩ := List.mem_flatten.1 hv
    rw [List.mem_replicate] at hl
    exact h1 v (hl.2 ▸ hv))
  have hzc := rep_cellsA zs m i3
  cases m with
  | zero => omega
  | succ m =>
    simp [Builtin.clear_, run_underlying hu, zeroValue, typeInfo, i1, i2, hzc] at hst ⊢
    rw [hst]; rfl
end
section
variable {ro : Option Nat} {P : Program} {n : NM} {w0 : Base} {X0 X : PMap} {own : Own} {env : Env}
/-- clear of elements of an own row. -/
theorem op_clear {t e : TypeId} {x : Operand} {b o m c sz j : Nat} {cs zs : List Value} {ty : TypeId} (ht : P.underlying t = some (.slice e)) (hz : ∃ i z, P.info? e = some i ∧ i.zero = some z ∧ z.cells = zs.toArray) (hx : eev env x = some (.slice (some ⟨b, o, none⟩) m c))
    (ho : AtO own b cs ty sz j) (h0 : 0 < m) (hfit : o + m * zs.length ≤ cs.length) (h1 : ∀ v ∈ zs, v.oneCell' = true) :
    OpX P n w0 X0 env own X (.call { callee := .builtin .clear, args := #[x], argTypes := #[t] }) false fun _ own' X' => own' = own.set j ⟨b, csets cs o (List.replicate m zs).flatten, ty, sz⟩ ∧ X = X' := by
  intro a W oper K Q ro hop ha hst hK
  have hin := hst.stab.own _ ho.mem
  have hr := run_clearS (P := P) W t e oper.type zs ht hz b o m c h0 (fun q hq => by
      have hlt : o + q < cs.length := by omega
      rw [hin.cell (v := cs[o + q]) (by simp [hlt])]; rfl)
    (fun q _ => hin.frozen _) h1
  have hex : (execOp a.eval oper).run P W = .ok (.value (.tuple #[])) (W.setCells b o (List.replicate m zs).flatten) := by
    simp only [execOp, hop, resolve, invoke, builtin, Sem.run_bind, Sem.run_pure, Result.andThen_ok, List.map_toArray, List.map_cons, List.map_nil, ha.eval hx, hr]
  refine wp_value (noDefer_spec (by rw [hop]; rfl)) hex ?_
  exact hK _ _ X _ ⟨rfl, rfl⟩ (hst.puts _ _ _ _ _ ho.get (by simp; omega)) (fun h => by cases h)
/-- Less is known of an own row. -/
theorem Sat.less {W : World} (h : Sat w0 X0 own X W) {j b sz : Nat} {cs ds : List Value} {ty : TypeId} (hj : own[j]? = some ⟨b, cs ++ ds, ty, sz⟩) : Sat w0 X0 (own.set j ⟨b, cs, ty, sz⟩) X W := by
  obtain ⟨r, hr, hz⟩ := h.stab.own _ (List.mem_of_getElem? hj)
  simp only at hr hz
  refine h.regrow hj ⟨rfl, rfl, rfl, Nat.le_refl _, fun _ _ _ => rfl⟩ (.inl rfl) ⟨ds ++ r, ?_, ?_⟩
  · rw [← List.append_assoc]; exact hr
  · simp only [List.length_append] at hz ⊢; omega
theorem SL.cut {Q : Exit → Act → World → Prop} {ops : Array Oper} {l : List Oper} {j b sz : Nat} {cs ds : List Value} {ty : TypeId} (hj : AtO own b (cs ++ ds) ty sz j)
    (h : SL ro P n w0 X0 ops Q l env (own.set j ⟨b, cs, ty, sz⟩) X) : SL ro P n w0 X0 ops Q l env own X := fun a W ha hs => h a W ha (hs.less hj.get)
theorem T.cut {Q : Exit → Act → World → Prop} {k : List It} {ex : Option Nat} {j b sz : Nat} {cs ds : List Value} {ty : TypeId} (hj : AtO own b (cs ++ ds) ty sz j)
    (h : T ro P n w0 X0 Q k ex env (own.set j ⟨b, cs, ty, sz⟩) X) : T ro P n w0 X0 Q k ex env own X := fun a W ha hs => h a W ha (hs.less hj.get)
end
end Go.Proofs.YtnpcilglilfajaaGreatDoor
namespace Go.Proofs.YtnpcilglilfajaaGreatDoor
set_option maxRecDepth 100000
end Go.Proofs.YtnpcilglilfajaaGreatDoor
