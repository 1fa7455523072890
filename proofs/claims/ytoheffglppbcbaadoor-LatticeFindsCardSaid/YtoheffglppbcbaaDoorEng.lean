/- THE ENGINE: a small separation logic over the walk's own predicates: known slots, blocks of the call's own, a persistent map of blocks. No program is named here. -/
import Derived.WalkKit
import Derived.OrdersHeld
import Derived.Deep.MidRow
import Derived.KernelRfl
namespace Go.Proofs.YtoheffglppbcbaaDoor
open Go.RowKit

/-! ## memory -/
abbrev PMap := Nat → Option Obj
def PMap.le (X Y : PMap) : Prop := ∀ k o, X k = some o → Y k = some o
theorem PMap.le_refl (X : PMap) : X.le X := fun _ _ h => h
theorem PMap.le.trans' {X Y Z : PMap} (h : X.le Y) (h' : Y.le Z) : X.le Z := fun k o hk => h' k o (h k o hk)
theorem PMap.le_trans {X Y Z : PMap} (h : X.le Y) (h' : Y.le Z) : X.le Z := fun k o hk => h' k o (h k o hk)
def PIn (X : PMap) (W : World) : Prop := ∀ k o, X k = some o → W.heap[k]? = some o
theorem PIn.lt {X : PMap} {W : World} (h : PIn X W) {k : Nat} {o : Obj} (hk : X k = some o) : k < W.heap.size := by
  have := h k o hk
  rcases Nat.lt_or_ge k W.heap.size with h1 | h1
  · exact h1
  · rw [Array.getElem?_eq_none h1] at this; cases this
theorem PIn.fresh {X : PMap} {W : World} (h : PIn X W) : X W.heap.size = none := by
  cases hx : X W.heap.size with
  | none => rfl
  | some o => exact absurd (h.lt hx) (Nat.lt_irrefl _)

/-- A block of the call's own: its first cells are known. -/
structure Ow where
  b : Nat
  cs : List Value
  ty : TypeId
  sz : Nat
abbrev Own := List Ow
def Ow.In (p : Ow) (W : World) : Prop := ∃ rest : List Value, W.heap[p.b]? = some (.cells (p.cs ++ rest).toArray p.ty (0, 0)) ∧ p.cs.length + rest.length = p.sz
theorem Ow.In.lt {p : Ow} {W : World} (h : p.In W) : p.b < W.heap.size := by
  obtain ⟨r, h, _⟩ := h
  rcases Nat.lt_or_ge p.b W.heap.size with h1 | h1
  · exact h1
  · rw [Array.getElem?_eq_none h1] at h; cases h
theorem Ow.In.cell {p : Ow} {W : World} (h : p.In W) {i : Nat} {v : Value} (hi : p.cs[i]? = some v) : W.cell? ⟨p.b, i, none⟩ = some v := by
  obtain ⟨r, h, _⟩ := h
  simp only [World.cell?, h]
  have hl : i < p.cs.length := by
    rcases Nat.lt_or_ge i p.cs.length with h1 | h1
    · exact h1
    · rw [List.getElem?_eq_none h1] at hi; cases hi
  simp [List.getElem?_append_left hl, hi]
theorem Ow.In.frozen {p : Ow} {W : World} (h : p.In W) (i : Nat) : W.frozen? ⟨p.b, i, none⟩ = false := by
  obtain ⟨r, h, _⟩ := h
  simp [World.frozen?, h]

/-- What a world keeps of another: no block that was there has changed. -/
structure Grow (W W' : World) : Prop where
  size : W.heap.size ≤ W'.heap.size
  same : ∀ k, k < W.heap.size → W'.heap[k]? = W.heap[k]?
theorem Grow.refl (W : World) : Grow W W := ⟨Nat.le_refl _, fun _ _ => rfl⟩
theorem Grow.trans {A B C : World} (h : Grow A B) (h' : Grow B C) : Grow A C := ⟨Nat.le_trans h.size h'.size, fun k hk => (h'.same k (Nat.lt_of_lt_of_le hk h.size)).trans (h.same k hk)⟩
theorem Grow.of_below {W W' : World} (h : Below W.heap.size W W') : Grow W W' := ⟨h.size, h.block⟩
theorem Grow.alloc (W : World) (o : Obj) : Grow W (W.alloc o) := ⟨by simp, fun k hk => Below.heap_alloc W o k hk⟩

theorem Grow.pin {X : PMap} {W W' : World} (h : Grow W W') (hp : PIn X W) : PIn X W' := fun k o hk => (h.same k (hp.lt hk)).trans (hp k o hk)
theorem Grow.ow {p : Ow} {W W' : World} (h : Grow W W') (hp : p.In W) : p.In W' := by
  have hl := hp.lt
  obtain ⟨r, hr, hz⟩ := hp
  exact ⟨r, (h.same _ hl).trans hr, hz⟩

/-- What an operation that only reads may lean on. -/
structure Stab (own : Own) (X : PMap) (W : World) : Prop where
  own : ∀ p ∈ own, p.In W
  pers : PIn X W
theorem Stab.grow {own : Own} {X : PMap} {W W' : World} (h : Stab own X W) (hg : Grow W W') : Stab own X W' := ⟨fun p hp => hg.ow (h.own p hp), hg.pin h.pers⟩

/-- The symbolic state of memory; w0: the world in which the call began. -/
structure SatC (w0 : World) (X0 : PMap) (own : Own) (X : PMap) (W : World) : Prop where
  below : Below w0.heap.size w0 W
  old : ∀ k, k < w0.heap.size → X k = X0 k
  stab : Stab own X W
  new : ∀ p ∈ own, w0.heap.size ≤ p.b
  apart : ∀ p ∈ own, X p.b = none
  nodup : own.Pairwise fun p q => p.b ≠ q.b

theorem SatC.start (w : World) {X : PMap} (h : PIn X w) : SatC w X [] X w := ⟨Below.refl _ _, (fun _ _ => rfl), ⟨(fun _ h => by cases h), h⟩, (fun _ h => by cases h), (fun _ h => by cases h), .nil⟩
theorem below_draw {B : Nat} {a w : World} (h : Below B a w) (n : Nat) : Below B a { w with drawn := n } := ⟨h.os, h.tape, h.output, h.size, h.block⟩
theorem SatC.draw {w0 : World} {X0 : PMap} {own : Own} {X : PMap} {W : World} (h : SatC w0 X0 own X W) (n : Nat) : SatC w0 X0 own X { W with drawn := n } :=
  ⟨below_draw h.below n, h.old, ⟨fun p hp => h.stab.own p hp, h.stab.pers⟩, h.new, h.apart, h.nodup⟩
/-- A new block of cells. -/
theorem SatC.alloc {w0 : World} {X0 : PMap} {own : Own} {X : PMap} {W : World} (h : SatC w0 X0 own X W) (cs : List Value) (ty : TypeId) :
    SatC w0 X0 (⟨W.heap.size, cs, ty, cs.length⟩ :: own) X (W.alloc (.cells cs.toArray ty)) where
  below := h.below.alloc h.below.size _
  old := h.old
  stab := by
    have hs := h.stab.grow (Grow.alloc W (.cells cs.toArray ty))
    refine ⟨fun p hp => ?_, hs.pers⟩
    rcases List.mem_cons.1 hp with rfl | hp
    · exact ⟨[], by rw [List.append_nil]; exact heap_alloc_new W _, rfl⟩
    · exact hs.own p hp
  new := fun p hp => by
    rcases List.mem_cons.1 hp with rfl | hp
    · exact h.below.size
    · exact h.new p hp
  apart := fun p hp => by
    rcases List.mem_cons.1 hp with rfl | hp
    · exact h.stab.pers.fresh
    · exact h.apart p hp
  nodup := .cons (fun q hq => Ne.symm (Nat.ne_of_lt (h.stab.own q hq).lt)) h.nodup
/-- Behind a call that changes nothing that was there. -/
theorem SatC.call {w0 : World} {X0 : PMap} {own : Own} {X X' : PMap} {W W' : World} (h : SatC w0 X0 own X W) (hb : Below W.heap.size W W') (hX : PIn X' W') (hn : ∀ k, k < W.heap.size → X' k = X k) : SatC w0 X0 own X' W' where
  below := h.below.trans (hb.mono h.below.size)
  old := fun k hk => (hn k (Nat.lt_of_lt_of_le hk h.below.size)).trans (h.old k hk)
  stab := ⟨fun p hp => (Grow.of_below hb).ow (h.stab.own p hp), hX⟩
  new := h.new
  apart := fun p hp => (hn _ (h.stab.own p hp).lt).trans (h.apart p hp)
  nodup := h.nodup
/-- One cell of an own block is written. -/
theorem Ow.In.set {p : Ow} {W : World} (h : p.In W) {i : Nat} (hi : i < p.cs.length) (v : Value) : Ow.In ⟨p.b, p.cs.set i v, p.ty, p.sz⟩ (W.setCell ⟨p.b, i, none⟩ v) := by
  obtain ⟨r, h, hz⟩ := h
  refine ⟨r, ?_, by simpa using hz⟩
  simp [World.setCell, Array.getElem?_modify, h, hi]
theorem Ow.In.far {p : Ow} {W : World} (h : p.In W) {a : Addr} (ha : p.b ≠ a.block) (v : Value) : p.In (W.setCell a v) := by
  obtain ⟨r, h, hz⟩ := h
  exact ⟨r, (Below.heap_setCell W a v p.b ha).trans h, hz⟩
/-- Own block number j replaced. -/
theorem SatC.put {w0 : World} {X0 : PMap} {own : Own} {X : PMap} {W : World} (h : SatC w0 X0 own X W) {j : Nat} {b : Nat} {cs : List Value} {ty : TypeId} {sz : Nat} (hj : own[j]? = some ⟨b, cs, ty, sz⟩) {i : Nat} (hi : i < cs.length) (v : Value) :
    SatC w0 X0 (own.set j ⟨b, cs.set i v, ty, sz⟩) X (W.setCell ⟨b, i, none⟩ v) := by
  have hm : (⟨b, cs, ty, sz⟩ : Ow) ∈ own := List.mem_of_getElem? hj
  have hjl : j < own.length := by
    rcases Nat.lt_or_ge j own.length with h1 | h1
    · exact h1
    · rw [List.getElem?_eq_none h1] at hj; cases hj
  have hjv : own[j] = ⟨b, cs, ty, sz⟩ := by rw [List.getElem?_eq_getElem hjl] at hj; exact Option.some.inj hj
  have hb0 := h.new _ hm
  have hother : ∀ k (hk : k < own.length), k ≠ j → own[k].b ≠ b := fun k hk hne => by
    have hp := List.pairwise_iff_getElem.1 h.nodup
    rcases Nat.lt_or_gt_of_ne hne with hlt | hgt
    · have := hp k j hk hjl hlt; rw [hjv] at this; exact this
    · have := hp j k hjl hk hgt; rw [hjv] at this; exact fun e => this e.symm
  have hget : ∀ q ∈ own.set j ⟨b, cs.set i v, ty, sz⟩, q = ⟨b, cs.set i v, ty, sz⟩ ∨ (q ∈ own ∧ q.b ≠ b) := fun q hq => by
    obtain ⟨k, hk, rfl⟩ := List.getElem_of_mem hq
    have hk' : k < own.length := by simpa using hk
    by_cases e : j = k
    · subst e; left; simp
    · right
      rw [List.getElem_set_ne e]
      exact ⟨List.getElem_mem hk', hother k hk' (Ne.symm e)⟩
  refine ⟨h.below.setCell (p := ⟨b, i, none⟩) hb0 v, h.old, ⟨fun q hq => ?_, fun k o hk => ?_⟩, fun q hq => ?_, fun q hq => ?_, ?_⟩
  · rcases hget q hq with rfl | ⟨hq, hne⟩
    · exact (h.stab.own _ hm).set hi v
    · exact (h.stab.own q hq).far hne v
  · have hkb : k ≠ b := fun e => by subst e; rw [h.apart _ hm] at hk; cases hk
    exact (Below.heap_setCell W ⟨b, i, none⟩ v k hkb).trans (h.stab.pers k o hk)
  · rcases hget q hq with rfl | ⟨hq, _⟩
    · exact hb0
    · exact h.new q hq
  · rcases hget q hq with rfl | ⟨hq, _⟩
    · exact h.apart ⟨b, cs, ty, sz⟩ hm
    · exact h.apart q hq
  · refine List.pairwise_iff_getElem.2 fun x y hx hy hxy => ?_
    have hx' : x < own.length := by simpa using hx
    have hy' : y < own.length := by simpa using hy
    have hp := List.pairwise_iff_getElem.1 h.nodup x y hx' hy' hxy
    by_cases ex : j = x
    · subst ex
      rw [List.getElem_set_self, List.getElem_set_ne (by omega)]
      exact fun e => hother y hy' (by omega) e.symm
    · by_cases ey : j = y
      · subst ey
        rw [List.getElem_set_self, List.getElem_set_ne (by omega)]
        exact hother x hx' (by omega)
      · rw [List.getElem_set_ne ex, List.getElem_set_ne ey]; exact hp

/-- Finding an own block by its number. -/
inductive AtO : Own → Nat → List Value → TypeId → Nat → Nat → Prop
  | here {l : Own} {b : Nat} {cs : List Value} {ty : TypeId} {sz : Nat} : AtO (⟨b, cs, ty, sz⟩ :: l) b cs ty sz 0
  | there {l : Own} {o : Ow} {b : Nat} {cs : List Value} {ty : TypeId} {sz : Nat} {j : Nat} : AtO l b cs ty sz j → AtO (o :: l) b cs ty sz (j + 1)
theorem AtO.get {l : Own} {b : Nat} {cs : List Value} {ty : TypeId} {sz : Nat} {j : Nat} (h : AtO l b cs ty sz j) : l[j]? = some ⟨b, cs, ty, sz⟩ := by
  induction h with
  | here => rfl
  | there _ ih => simpa using ih
theorem AtO.mem {l : Own} {b : Nat} {cs : List Value} {ty : TypeId} {sz : Nat} {j : Nat} (h : AtO l b cs ty sz j) : (⟨b, cs, ty, sz⟩ : Ow) ∈ l := List.mem_of_getElem? h.get

/-- Cells from i on replaced. -/
def csets : List Value → Nat → List Value → List Value
  | cs, _, [] => cs
  | cs, i, v :: vs => csets (cs.set i v) (i + 1) vs
theorem csets_length : ∀ (vs : List Value) (cs : List Value) (i : Nat), (csets cs i vs).length = cs.length
  | [], _, _ => rfl
  | v :: vs, cs, i => by rw [csets, csets_length vs]; simp
theorem SatC.puts {w0 : World} {X0 : PMap} {X : PMap} {j : Nat} {b : Nat} {ty : TypeId} {sz : Nat} : ∀ (vs : List Value) (own : Own) (cs : List Value) (i : Nat) (W : World), SatC w0 X0 own X W → own[j]? = some ⟨b, cs, ty, sz⟩ → i + vs.length ≤ cs.length →
    SatC w0 X0 (own.set j ⟨b, csets cs i vs, ty, sz⟩) X (W.setCells b i vs)
  | [], own, cs, i, W, h, hj, _ => by
    have : own.set j ⟨b, cs, ty, sz⟩ = own := by
      apply List.ext_getElem?
      intro k
      by_cases e : j = k
      · subst e
        have hjl : j < own.length := by
          rcases Nat.lt_or_ge j own.length with h1 | h1
          · exact h1
          · rw [List.getElem?_eq_none h1] at hj; cases hj
        rw [List.getElem?_set_self hjl, hj]
      · rw [List.getElem?_set_ne e]
    simpa [csets, World.setCells, this] using h
  | v :: vs, own, cs, i, W, h, hj, hl => by
    simp only [List.length_cons] at hl
    have hjl : j < own.length := by
      rcases Nat.lt_or_ge j own.length with h1 | h1
      · exact h1
      · rw [List.getElem?_eq_none h1] at hj; cases hj
    have h1 := h.put hj (i := i) (by omega) v
    have h2 := SatC.puts (j := j) vs _ (cs.set i v) (i + 1) _ h1 (List.getElem?_set_self hjl) (by simp; omega)
    simpa [csets, World.setCells] using h2

/-! ## what a call began with -/
/-- The world in which the call began; blocks that are held fast (the records of ranges over functions). -/
structure Base where
  w : World
  res : List (Nat × Obj)
abbrev Base.heap (b : Base) : Array Obj := b.w.heap
def ResOk (b : Base) (own : Own) (X : PMap) (W : World) : Prop := ∀ p ∈ b.res, W.heap[p.1]? = some p.2 ∧ X p.1 = none ∧ (∀ q ∈ own, q.b ≠ p.1) ∧ b.w.heap.size ≤ p.1
structure Sat (w0 : Base) (X0 : PMap) (own : Own) (X : PMap) (W : World) : Prop extends SatC w0.w X0 own X W where
  res : ResOk w0 own X W
theorem get_lt {W : World} {k : Nat} {o : Obj} (h : W.heap[k]? = some o) : k < W.heap.size := (Array.getElem?_eq_some_iff.1 h).1
theorem Sat.start (w : World) {X : PMap} (h : PIn X w) : Sat ⟨w, []⟩ X [] X w := ⟨SatC.start w h, fun _ h => by cases h⟩
theorem Sat.draw {w0 : Base} {X0 : PMap} {own : Own} {X : PMap} {W : World} (h : Sat w0 X0 own X W) (n : Nat) : Sat w0 X0 own X { W with drawn := n } := ⟨h.toSatC.draw n, fun p hp => h.res p hp⟩
theorem Sat.alloc {w0 : Base} {X0 : PMap} {own : Own} {X : PMap} {W : World} (h : Sat w0 X0 own X W) (cs : List Value) (ty : TypeId) :
    Sat w0 X0 (⟨W.heap.size, cs, ty, cs.length⟩ :: own) X (W.alloc (.cells cs.toArray ty)) :=
  ⟨h.toSatC.alloc cs ty, fun p hp => by
    obtain ⟨h1, h2, h3, h4⟩ := h.res p hp
    refine ⟨((Grow.alloc W _).same _ (get_lt h1)).trans h1, h2, fun q hq => ?_, h4⟩
    rcases List.mem_cons.1 hq with rfl | hq
    · exact Ne.symm (Nat.ne_of_lt (get_lt h1))
    · exact h3 q hq⟩
theorem Sat.call {w0 : Base} {X0 : PMap} {own : Own} {X X' : PMap} {W W' : World} (h : Sat w0 X0 own X W) (hb : Below W.heap.size W W') (hX : PIn X' W') (hn : ∀ k, k < W.heap.size → X' k = X k) : Sat w0 X0 own X' W' :=
  ⟨h.toSatC.call hb hX hn, fun p hp => by
    obtain ⟨h1, h2, h3, h4⟩ := h.res p hp
    exact ⟨((Grow.of_below hb).same _ (get_lt h1)).trans h1, (hn _ (get_lt h1)).trans h2, h3, h4⟩⟩
theorem set_b {own : Own} {j : Nat} {o q : Ow} (hq : q ∈ own.set j o) : q = o ∨ q ∈ own := by
  obtain ⟨k, hk, rfl⟩ := List.getElem_of_mem hq
  have hk' : k < own.length := by simpa using hk
  by_cases e : j = k
  · subst e; left; simp
  · right; rw [List.getElem_set_ne e]; exact List.getElem_mem hk'
theorem setCells_far : ∀ (vs : List Value) (W : World) (b i k : Nat), k ≠ b → (W.setCells b i vs).heap[k]? = W.heap[k]?
  | [], _, _, _, _, _ => rfl
  | v :: vs, W, b, i, k, h => by
    simp only [World.setCells]
    rw [setCells_far vs _ b (i + 1) k h]
    exact Below.heap_setCell W ⟨b, i, none⟩ v k h
theorem Sat.puts {w0 : Base} {X0 : PMap} {X : PMap} {j : Nat} {b : Nat} {ty : TypeId} {sz : Nat} (vs : List Value) (own : Own) (cs : List Value) (i : Nat) (W : World) (h : Sat w0 X0 own X W) (hj : own[j]? = some ⟨b, cs, ty, sz⟩) (hl : i + vs.length ≤ cs.length) :
    Sat w0 X0 (own.set j ⟨b, csets cs i vs, ty, sz⟩) X (W.setCells b i vs) :=
  ⟨SatC.puts vs own cs i W h.toSatC hj hl, fun p hp => by
    obtain ⟨h1, h2, h3, h4⟩ := h.res p hp
    have hb : b ≠ p.1 := h3 _ (List.mem_of_getElem? hj)
    refine ⟨(setCells_far vs W b i p.1 (Ne.symm hb)).trans h1, h2, fun q hq => ?_, h4⟩
    rcases set_b hq with rfl | hq
    · exact hb
    · exact h3 q hq⟩

/-- Own blocks are forgotten. -/
theorem Sat.sub {w0 : Base} {X0 : PMap} {own own' : Own} {X : PMap} {W : World} (h : Sat w0 X0 own X W) (hs : own'.Sublist own) : Sat w0 X0 own' X W :=
  ⟨⟨h.below, h.old, ⟨fun p hp => h.stab.own p (hs.subset hp), h.stab.pers⟩, fun p hp => h.new p (hs.subset hp), fun p hp => h.apart p (hs.subset hp), h.nodup.sublist hs⟩, fun p hp => by
    obtain ⟨h1, h2, h3, h4⟩ := h.res p hp
    exact ⟨h1, h2, fun q hq => h3 q (hs.subset hq), h4⟩⟩
/-- The order of own blocks does not matter. -/
theorem Sat.perm {w0 : Base} {X0 : PMap} {own own' : Own} {X : PMap} {W : World} (h : Sat w0 X0 own X W) (hs : own.Perm own') : Sat w0 X0 own' X W :=
  ⟨⟨h.below, h.old, ⟨fun p hp => h.stab.own p (hs.mem_iff.2 hp), h.stab.pers⟩, fun p hp => h.new p (hs.mem_iff.2 hp), fun p hp => h.apart p (hs.mem_iff.2 hp), hs.pairwise h.nodup fun {_ _} hxy => Ne.symm hxy⟩, fun p hp => by
    obtain ⟨h1, h2, h3, h4⟩ := h.res p hp
    exact ⟨h1, h2, fun q hq => h3 q (hs.mem_iff.2 hq), h4⟩⟩
/-- Less is known of the block that was laid last. -/
theorem Sat.forget {w0 : Base} {X0 : PMap} {own : Own} {X : PMap} {W : World} {b sz : Nat} {cs ds : List Value} {ty : TypeId} (h : Sat w0 X0 (⟨b, cs ++ ds, ty, sz⟩ :: own) X W) : Sat w0 X0 (⟨b, cs, ty, sz⟩ :: own) X W := by
  refine ⟨⟨h.below, h.old, ⟨fun p hp => ?_, h.stab.pers⟩, fun p hp => ?_, fun p hp => ?_, ?_⟩, fun p hp => ?_⟩
  · rcases List.mem_cons.1 hp with rfl | hp
    · obtain ⟨r, h1, h2⟩ := h.stab.own ⟨b, cs ++ ds, ty, sz⟩ (by simp)
      exact ⟨ds ++ r, by rw [← List.append_assoc]; exact h1, by simp at h2 ⊢; omega⟩
    · exact h.stab.own p (by simp [hp])
  · rcases List.mem_cons.1 hp with rfl | hp
    · exact h.new ⟨b, cs ++ ds, ty, sz⟩ (by simp)
    · exact h.new p (by simp [hp])
  · rcases List.mem_cons.1 hp with rfl | hp
    · exact h.apart ⟨b, cs ++ ds, ty, sz⟩ (by simp)
    · exact h.apart p (by simp [hp])
  · have := h.nodup
    rw [List.pairwise_cons] at this ⊢
    exact this
  · obtain ⟨h1, h2, h3, h4⟩ := h.res p hp
    refine ⟨h1, h2, fun q hq => ?_, h4⟩
    rcases List.mem_cons.1 hq with rfl | hq
    · exact h3 ⟨b, cs ++ ds, ty, sz⟩ (by simp)
    · exact h3 q (by simp [hq])
/-! ## slots -/
/-- How many slots; the marks that wait at the end. -/
structure NM where
  size : Nat
  marks : List Deferred
abbrev Env := List (Nat × Value)
def eget : Env → Nat → Option Value
  | [], _ => none
  | (t, v) :: e, s => bif Nat.beq t s then some v else eget e s
def eev (env : Env) : Operand → Option Value
  | .tmp t => eget env t
  | .const v => some v
  | .global g => some (.pointer (some ⟨g, 0, none⟩))
  | .func f => some (.func (.func f) #[] #[])
structure EOk (n : NM) (env : Env) (a : Act) : Prop where
  defers : a.defers = n.marks
  size : a.tmps.size = n.size
  get : ∀ t v, eget env t = some v → a.tmps.getD t undef = v
theorem EOk.eval {n : NM} {env : Env} {a : Act} (h : EOk n env a) {x : Operand} {v : Value} (hx : eev env x = some v) : a.eval x = v := by
  cases x with
  | tmp t => exact h.get t v hx
  | const u => simpa [eev, Act.eval] using hx
  | global g => simpa [eev, Act.eval] using hx
  | func f => simpa [eev, Act.eval] using hx
theorem EOk.put {n : NM} {env : Env} {a : Act} (h : EOk n env a) {d : Nat} (hd : Nat.blt d n.size = true) (v : Value) : EOk n ((d, v) :: env) (a.put (some d) v) := by
  have hd' : d < n.size := Nat.le_of_ble_eq_true hd
  refine ⟨h.defers, by simp [Act.put, h.size], fun t u ht => ?_⟩
  simp only [eget] at ht
  cases hb : Nat.beq d t with
  | true =>
    have : d = t := Nat.eq_of_beq_eq_true hb
    subst this
    have hv : v = u := by simpa using ht
    subst hv
    simp [Act.put, h.size, hd']
  | false =>
    have hne : d ≠ t := Nat.ne_of_beq_eq_false hb
    rw [hb] at ht
    rw [← h.get t u ht]
    simp [Act.put, Array.getElem?_setIfInBounds_ne hne]
theorem EOk.putNone {n : NM} {env : Env} {a : Act} (h : EOk n env a) (v : Value) : EOk n env (a.put none v) := h
/-- Fewer slots are known. -/
theorem EOk.weaken {n : NM} {env env' : Env} {a : Act} (h : EOk n env a) (hw : ∀ t v, eget env' t = some v → eget env t = some v) : EOk n env' a := ⟨h.defers, h.size, fun t v ht => h.get t v (hw t v ht)⟩
end Go.Proofs.YtoheffglppbcbaaDoor
