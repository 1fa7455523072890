/- strconv.Itoa of any number, slices.Sort of strings, by their contracts of the shelf. -/
import Derived.Test.YtaooojjhlngcmaaDoorShelf
import Derived.Test.YtaooojjhlngcmaaDoorSort
import Derived.Test.YtaooojjhlngcmaaDoorEx
import Derived.Sort.EveryDepth
namespace Go.Proofs.YtaooojjhlngcmaaDoor
open Go.RowKit
/-- The table of powers of ten lies as its initialiser lays it. -/
def Pow10 (X : PMap) : Prop := ∀ w, PIn X w → Lib.TabIs Tryd.prog w "internal/strconv.uint64pow10" .u64 Lib.pow10Tab
theorem Pow10.mono {X X' : PMap} (h : Pow10 X) (hX : X.le X') : Pow10 X' := fun w hw => h w fun k o hk => hw k o (hX k o hk)
theorem decG_lib : ∀ (f v : Nat), v < 10 ^ f → 0 < f → decG f v = Lib.decDigits v
  | 0, _, _, h => by omega
  | f + 1, v, h, _ => by
    rw [decG, Lib.decDigits]
    by_cases hv : v < 10
    · rw [if_pos hv, dif_pos hv]
    · rw [if_neg hv, dif_neg hv]
      have h1 : v / 10 < 10 ^ f := by rw [Nat.pow_succ] at h; omega
      rw [decG_lib f (v / 10) h1 (Nat.pos_of_ne_zero fun e => by subst e; simp at h1; omega)]
theorem itoaL_spec {X : PMap} (hP : Pow10 X) (v : Nat) (hv : v ≤ 9223372036854775807) : Spec Tryd.prog 82 [.int .i64 (v : Int)] X fun u _ => u = .string (decB v) := fun w hw => by
  have h := Any.strconv_Itoa lays171 (v : Int) (by omega) (by omega) w (hP w hw)
  refine h.mono ?_
  rintro e w' ⟨rfl, k, os, rfl⟩
  have e1 : (⟨(Lib.itoa (v : Int)).toArray⟩ : ByteArray) = decB v := by
    rw [Lib.itoa, if_neg (by omega), Int.toNat_natCast, decB, decG_lib 20 v (by omega) (by omega)]
  have hlt : ∀ k' : Nat, k' < w.heap.size → (Sort.grow (w.drewN k) os).heap[k']? = w.heap[k']? := fun k' hk => by
    show (w.heap ++ os)[k']? = _
    rw [Array.getElem?_append_left hk]
  refine ⟨_, X, rfl, ⟨rfl, rfl, rfl, ?_, hlt⟩, fun k' o hk => ?_, fun _ _ => rfl, by rw [e1]⟩
  · show w.heap.size ≤ (w.heap ++ os).size
    simp
  · rw [hlt k' (hw.lt hk)]; exact hw k' o hk
/-- The block that was laid last holds other cells; new blocks. -/
theorem Sat.redo {w0 : Base} {X0 X : PMap} {own0 : Own} {b sz : Nat} {cs cs' : List Value} {ty : TypeId} {W W' : World} (h : Sat w0 X0 (⟨b, cs, ty, sz⟩ :: own0) X W) (h1 : W'.os = W.os) (h2 : W'.tape = W.tape) (h3 : W'.output = W.output) (h4 : W.heap.size ≤ W'.heap.size)
    (h5 : ∀ k, k < W.heap.size → k ≠ b → W'.heap[k]? = W.heap[k]?) (h6 : Ow.In ⟨b, cs', ty, sz⟩ W') : Sat w0 X0 (⟨b, cs', ty, sz⟩ :: own0) X W' := by
  have hb0 := h.new ⟨b, cs, ty, sz⟩ (by simp)
  have hnd := List.pairwise_cons.1 h.nodup
  have hap := h.apart ⟨b, cs, ty, sz⟩ (by simp)
  simp only at hb0 hap
  refine ⟨⟨⟨h1.trans h.below.os, h2.trans h.below.tape, h3.trans h.below.output, Nat.le_trans h.below.size h4, fun k hk => (h5 k (Nat.lt_of_lt_of_le hk h.below.size) (by omega)).trans (h.below.block k hk)⟩, h.old, ⟨fun p hp => ?_, fun k o hk => ?_⟩, fun p hp => ?_, fun p hp => ?_, ?_⟩, fun p hp => ?_⟩
  · rcases List.mem_cons.1 hp with rfl | hp
    · exact h6
    · obtain ⟨r, hr, hz⟩ := h.stab.own p (by simp [hp])
      exact ⟨r, (h5 p.b (get_lt hr) (fun e => hnd.1 p hp e.symm)).trans hr, hz⟩
  · have hkb : k ≠ b := fun e => by subst e; rw [hap] at hk; cases hk
    exact (h5 k (h.stab.pers.lt hk) hkb).trans (h.stab.pers k o hk)
  · rcases List.mem_cons.1 hp with rfl | hp
    · exact hb0
    · exact h.new p (by simp [hp])
  · rcases List.mem_cons.1 hp with rfl | hp
    · exact hap
    · exact h.apart p (by simp [hp])
  · exact List.pairwise_cons.2 ⟨fun q hq => hnd.1 q hq, hnd.2⟩
  · obtain ⟨g1, g2, g3, g4⟩ := h.res p hp
    have hpb : p.1 ≠ b := fun e => g3 ⟨b, cs, ty, sz⟩ (by simp) e.symm
    refine ⟨(h5 p.1 (get_lt g1) hpb).trans g1, g2, fun q hq => ?_, g4⟩
    rcases List.mem_cons.1 hq with rfl | hq
    · exact fun e => hpb e.symm
    · exact g3 q (by simp [hq])
theorem ltS_iff (a b : ByteArray) : ltS a b = decide (a.data.toList < b.data.toList) := by
  rw [ltS, Go.Proofs.bytesLess_eq, Lib.toList_data, Lib.toList_data]
theorem strs_back (l : List ByteArray) : (l.map fun s => s.data.toList).map (fun x : List UInt8 => (⟨x.toArray⟩ : ByteArray)) = l := by
  rw [List.map_map]
  exact (List.map_congr_left fun s _ => by simp).trans (List.map_id l)
theorem sortAll_spec {X : PMap} {b cap : Nat} {l : List ByteArray} (hl : l.length < 1000000) : SpecM Tryd.prog 50 [.slice (some ⟨b, 0, none⟩) l.length cap] X [⟨b, strsC l, 9, cap * 1⟩] fun _ L' _ => ∃ l' : List ByteArray, L' = [⟨b, strsC l', 9, cap * 1⟩] ∧ l'.Perm l ∧ AscS l' := by
  intro w0 X0 own0 W hs
  let ss : List (List UInt8) := l.map fun s => s.data.toList
  let so : List (List UInt8) := ss.mergeSort fun x y => decide (x ≤ y)
  have hssl : ss.length = l.length := by simp [ss]
  have hin := hs.stab.own ⟨b, strsC l, 9, cap * 1⟩ (by simp)
  have hH : Sort.Holds encStr W b 0 ss.toArray := by
    intro j hj
    have hj' : j < l.length := by simpa [ss] using hj
    refine ⟨?_, hin.frozen _⟩
    have : (strsC l)[0 + j]? = some (encStr ss.toArray[j]!) := by
      rw [Nat.zero_add]
      have e1 : ss.toArray[j]! = (l[j]).data.toList := by simp [ss, hj']
      rw [e1]
      simp [strsC, hj', encStr]
    exact hin.cell this
  have hcall : Calls Tryd.prog 50 #[.slice (some ⟨b, 0, none⟩) ss.length cap] W fun e w' => e = .returned (.tuple #[]) ∧ ∃ n os, w' = Sort.grow (Sort.putRow encStr (Sort.ahead W n) b 0 so.toArray) os :=
    calls_of_every_depth fun D => AnyS.slices_Sort_string_in lays190 D b 0 cap ss W hH hin.lt (by rw [hssl]; omega)
  rw [hssl] at hcall
  refine hcall.mono ?_
  rintro e w' ⟨rfl, n, os, rfl⟩
  let l' : List ByteArray := so.map fun x => (⟨x.toArray⟩ : ByteArray)
  have hso : so.length = l.length := by simp [so, hssl]
  have hperm : l'.Perm l := by
    have h1 : so.Perm ss := List.mergeSort_perm _ _
    have h2 := h1.map fun x : List UInt8 => (⟨x.toArray⟩ : ByteArray)
    rw [strs_back] at h2
    exact h2
  have hasc : AscS l' := by
    have h1 := List.pairwise_mergeSort (le := fun x y : List UInt8 => decide (x ≤ y)) (fun a b c h h' => by simp only [decide_eq_true_eq] at h h' ⊢; exact List.le_trans h h') (fun a b => by simp only [Bool.or_eq_true, decide_eq_true_eq]; exact List.le_total a b) ss
    refine List.pairwise_map.2 (h1.imp fun {x y} h => ?_)
    rw [ltS_iff]
    simp only [decide_eq_true_eq] at h
    simpa using h
  refine ⟨_, [⟨b, strsC l', 9, cap * 1⟩], X, rfl, ?_, PMap.le_refl _, l', rfl, hperm, hasc⟩
  have hsz : (Sort.putRow encStr (Sort.ahead W n) b 0 so.toArray).heap.size = W.heap.size := by simp
  refine Sat.redo hs rfl rfl rfl ?_ ?_ ?_
  · rw [Sort.size_grow, hsz]; omega
  · intro k hk hkb
    show ((Sort.putRow encStr (Sort.ahead W n) b 0 so.toArray).heap ++ os)[k]? = _
    rw [Array.getElem?_append_left (by rw [hsz]; exact hk)]
    show (W.heap.modify b _)[k]? = _
    rw [Array.getElem?_modify, if_neg (Ne.symm hkb)]
  · obtain ⟨r, hr, hz⟩ := hin
    refine ⟨r, ?_, by simpa [strsC, l', hso] using hz⟩
    show ((Sort.putRow encStr (Sort.ahead W n) b 0 so.toArray).heap ++ os)[b]? = _
    rw [Array.getElem?_append_left (by rw [hsz]; exact get_lt hr)]
    show (W.heap.modify b _)[b]? = _
    rw [Array.getElem?_modify, if_pos rfl, hr]
    simp only [Option.map_some, Sort.onCells]
    congr 2
    apply Array.ext_getElem?
    intro k
    simp only [Sort.putCells, Array.getElem?_mapIdx, List.getElem?_toArray]
    rcases Nat.lt_or_ge k l.length with hkl | hkl
    · have e1 : (strsC l ++ r)[k]? = some (.string l[k]) := by rw [List.getElem?_append_left (by simpa [strsC] using hkl)]; simp [strsC, hkl]
      have e2 : (strsC l' ++ r)[k]? = some (.string ⟨so[k].toArray⟩) := by
        rw [List.getElem?_append_left (by simpa [strsC, l', hso] using hkl)]
        simp [strsC, l', hso, hkl]
      rw [e1, e2]
      simp only [Option.map_some, Nat.zero_le, Nat.zero_add, true_and, List.size_toArray, hso, hkl, if_true, Nat.sub_zero]
      congr 2
      have hk2 : k < so.length := by rw [hso]; exact hkl
      simp [hk2]
    · have e1 : (strsC l ++ r)[k]? = r[k - l.length]? := by rw [List.getElem?_append_right (by simpa [strsC] using hkl)]; simp [strsC]
      have e2 : (strsC l' ++ r)[k]? = r[k - l.length]? := by rw [List.getElem?_append_right (by simpa [strsC, l', hso] using hkl)]; simp [strsC, l', hso]
      rw [e1, e2]
      simp only [Nat.zero_le, Nat.zero_add, true_and, List.size_toArray, hso]
      cases r[k - l.length]? with
      | none => rfl
      | some v => simp [Nat.not_lt.2 hkl]
end Go.Proofs.YtaooojjhlngcmaaDoor
