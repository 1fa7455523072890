/- THE ENGINE: slices that grow; slices that are laid for good. No program is named here. -/
import Derived.Test.YtoheffglppbcbaaDoorHelp2
namespace Go.Proofs.YtoheffglppbcbaaDoor
open Go.RowKit
def ints (l : List Nat) : List Value := l.map fun (i : Nat) => .int .i64 (i : Int)
/-- v is a slice of these cells, size cells an element. -/
def SliceR (X : PMap) (v : Value) (len : Nat) (cs : List Value) : Prop :=
  (len = 0 ∧ cs = [] ∧ ∃ A c, v = .slice A 0 c) ∨ (0 < len ∧ ∃ b c, v = .slice (some ⟨b, 0, none⟩) len c ∧ Blk X b cs)
theorem SliceR.mono {X X' : PMap} {v : Value} {len : Nat} {cs : List Value} (h : SliceR X v len cs) (hX : X.le X') : SliceR X' v len cs := by
  rcases h with h | ⟨h0, b, c, hv, hb⟩
  · exact .inl h
  · exact .inr ⟨h0, b, c, hv, hb.mono hX⟩
theorem ints_get (l : List Nat) (j : Nat) (h : j < l.length) : (ints l)[j]? = some (.int .i64 (l[j] : Int)) := by simp [ints, h]
theorem ints_some {l : List Nat} {i : Nat} {x : Value} (h : (ints l)[i]? = some x) : ∃ h : i < l.length, x = .int .i64 ((l[i] : Nat) : Int) := by
  have hl : i < l.length := by
    have := (List.getElem?_eq_some_iff.1 h).1
    simpa [ints] using this
  refine ⟨hl, ?_⟩
  rw [ints_get l i hl] at h
  exact (Option.some.inj h).symm
theorem ints_take_succ (l : List Nat) (i : Nat) (h : i < l.length) : ints (l.take (i + 1)) = ints (l.take i) ++ [.int .i64 ((l[i] : Nat) : Int)] := by
  unfold ints
  rw [List.take_succ_eq_append_getElem h, List.map_append]
  rfl
theorem ints_len (l : List Nat) : ints (l.take (ints l).length) = ints l := by simp [ints]
theorem cread1 {cs : List Value} {j : Nat} {v : Value} (h : cs[j]? = some v) : cread false 1 cs (0 + j * 1) = some v := by simpa [cread] using h
theorem creadR1 {cs : List Value} {j : Nat} {v : Value} (h : cs[j]? = some v) : cread true 1 cs (0 + j * 1) = some (.agg #[v]) := by
  have hl := (List.getElem?_eq_some_iff.1 h).1
  have : (cs.drop j).take 1 = [v] := by
    apply List.ext_getElem?
    intro k
    rcases k with _ | k
    · simp [h]
    · simp
      omega
  have hb : Nat.ble (j + 1) cs.length = true := Nat.ble_eq_true_of_le hl
  simp [cread, hb, this]

/-- A slice of the call's own that has grown from nil. -/
def GrowS (e : TypeId) (size : Nat) (v : Value) (len : Nat) (cs : List Value) (G : Own) : Prop :=
  (len = 0 ∧ cs = [] ∧ v = .slice none 0 0 ∧ G = []) ∨
  (∃ b cap, v = .slice (some ⟨b, 0, none⟩) len cap ∧ G = [⟨b, cs, e, cap * size⟩] ∧ len ≤ cap ∧ cap ≤ maxLen ∧ cs.length = len * size)
theorem GrowS.nil {e : TypeId} {size : Nat} : GrowS e size (.slice none 0 0) 0 [] [] := .inl ⟨rfl, rfl, rfl, rfl⟩
theorem GrowS.form {e : TypeId} {size len : Nat} {v : Value} {cs : List Value} {G : Own} (h : GrowS e size v len cs G) : ∃ A cap, v = .slice A len cap := by
  rcases h with ⟨rfl, _, rfl, _⟩ | ⟨b, cap, rfl, _⟩
  · exact ⟨_, _, rfl⟩
  · exact ⟨_, _, rfl⟩
theorem AtO.append {G : Own} {b : Nat} {cs : List Value} {ty : TypeId} {sz j : Nat} (h : AtO G b cs ty sz j) : ∀ (own0 : Own), AtO (own0 ++ G) b cs ty sz (own0.length + j)
  | [] => by simpa using h
  | o :: l => by
    have := AtO.there (o := o) (AtO.append h l)
    rw [show l.length + j + 1 = (o :: l).length + j by simp; omega] at this
    exact this

section
variable {ro : Option Nat} {P : Program} {n : NM} {w0 : Base} {X0 X : PMap} {own : Own} {env : Env} {Q : Exit → Act → World → Prop}
theorem OpX.weaken {o : Op} {g : Bool} {k k' : Value → Own → PMap → Prop} (h : OpX P n w0 X0 env own X o g k) (hk : ∀ v own' X', k v own' X' → ∃ (own'' mid : Own), k' v own'' X' ∧ mid.Sublist own' ∧ mid.Perm own'') : OpX P n w0 X0 env own X o false k' := by
  intro a W oper K Q ro hop ha hs hK
  refine h a W oper K Q ro hop ha hs fun v own' X' W' hkk hs' hg => ?_
  obtain ⟨own'', mid, h1, h2, h3⟩ := hk v own' X' hkk
  exact hK v own'' X' W' h1 ((hs'.sub h2).perm h3) fun h => by cases h
/-- append of one element, which was laid as a slice literal just before: that literal is forgotten. -/
theorem op_appendG {t e ty : TypeId} {s x : Operand} {v : Value} {B c1 sz len size bytes : Nat} {cs new : List Value} {own0 G : Own} (ht : SlT P t e size bytes) (hs : eev env s = some v) (hg : GrowS e size v len cs G) (hx : eev env x = some (.slice (some ⟨B, 0, none⟩) 1 c1))
    (hnew : new.length = size) (h1 : new.all (·.oneCell') = true) (hlen : len + 1 ≤ maxLen) (hby : (len + 1) * bytes ≤ 140737488355328) :
    OpX P n w0 X0 env (⟨B, new, ty, sz⟩ :: (own0 ++ G)) X (.call { callee := .builtin .append, args := #[s, x], argTypes := #[t, t] }) false fun v' own' X' => ∃ G', own' = own0 ++ G' ∧ X = X' ∧ GrowS e size v' (len + 1) (cs ++ new) G' := by
  have h1' : ∀ y ∈ new, y.oneCell' = true := List.all_eq_true.1 h1
  rcases hg with ⟨rfl, rfl, rfl, rfl⟩ | ⟨b, cap, rfl, rfl, hlc, hcm, hcl⟩
  · refine (op_appendNil (m := 1) (news := new) ht hs hx (Src.ofOwn0 AtO.here (by simp [hnew])) (by omega) h1' (by simpa using hlen) (by simpa using hby)).weaken ?_
    rintro v' own' X' ⟨b', cap', rfl, rfl, rfl, hc1, hc2⟩
    refine ⟨own0 ++ [⟨b', new, e, cap' * size⟩], ⟨b', new, e, cap' * size⟩ :: own0, ⟨_, rfl, rfl, .inr ⟨b', cap', by simp, by simp, by omega, hc2, by simp [hnew]⟩⟩, ?_, (List.perm_append_singleton ..).symm⟩
    rw [List.append_nil]
    exact List.Sublist.cons_cons _ (List.sublist_cons_self ..)
  · refine (op_append (m := 1) (news := new) (j := own0.length + 1) ht hs hx ?_ rfl hcl hlc hcm (Src.ofOwn0 AtO.here (by simp [hnew])) h1' (by simpa using hlen) (by simpa using hby)).weaken ?_
    · have := AtO.there (o := ⟨B, new, ty, sz⟩) ((AtO.here (l := []) (b := b) (cs := cs) (ty := e) (sz := cap * size)).append own0)
      simpa using this
    · rintro v' own' X' ⟨b', cap', rfl, rfl, rfl, hc1, hc2⟩
      refine ⟨own0 ++ [⟨b', cs ++ new, e, cap' * size⟩], _, ⟨_, rfl, rfl, .inr ⟨b', cap', rfl, rfl, hc1, hc2, by simp [hcl, hnew, Nat.add_mul]⟩⟩, ?_, .refl _⟩
      have e1 : (⟨B, new, ty, sz⟩ :: (own0 ++ [(⟨b, cs, e, cap * size⟩ : Ow)])).set (own0.length + 1) ⟨b', cs ++ new, e, cap' * size⟩ = ⟨B, new, ty, sz⟩ :: (own0 ++ [⟨b', cs ++ new, e, cap' * size⟩]) := by
        simp
      rw [e1]
      exact List.sublist_cons_self ..
/-- What has grown is laid for good. -/
theorem Sat.pubG {e : TypeId} {size len : Nat} {v : Value} {cs : List Value} {own0 G : Own} {W : World} (hg : GrowS e size v len cs G) (h : Sat w0 X0 (own0 ++ G) X W) : ∃ X', X.le X' ∧ SliceR X' v len cs ∧ Sat w0 X0 own0 X' W := by
  rcases hg with ⟨rfl, rfl, rfl, rfl⟩ | ⟨b, cap, rfl, rfl, hlc, hcm, hcl⟩
  · rw [List.append_nil] at h
    exact ⟨X, PMap.le_refl X, .inl ⟨rfl, rfl, _, _, rfl⟩, h⟩
  · have ha := (AtO.here (l := []) (b := b) (cs := cs) (ty := e) (sz := cap * size)).append own0
    obtain ⟨X', h1, h2, _, h4⟩ := h.pub ha
    refine ⟨X', h1, ?_, ?_⟩
    · rcases Nat.eq_zero_or_pos len with h0 | h0
      · subst h0
        have : cs = [] := List.eq_nil_of_length_eq_zero (by simpa using hcl)
        subst this
        exact .inl ⟨rfl, rfl, _, _, rfl⟩
      · exact .inr ⟨h0, b, cap, rfl, h2⟩
    · have e1 : (own0 ++ [(⟨b, cs, e, cap * size⟩ : Ow)]).eraseIdx (own0.length + 0) = own0 := by
        rw [List.eraseIdx_append_of_length_le (by omega)]
        simp
      rwa [e1] at h4
theorem T.pubG {k : List It} {ex : Option Nat} {e : TypeId} {size len : Nat} {v : Value} {cs : List Value} {own0 G : Own} (hg : GrowS e size v len cs G) (h : ∀ X', X.le X' → SliceR X' v len cs → T ro P n w0 X0 Q k ex env own0 X') : T ro P n w0 X0 Q k ex env (own0 ++ G) X := by
  intro a W ha hs
  obtain ⟨X', h1, h2, h3⟩ := hs.pubG hg
  exact h X' h1 h2 a W ha h3
theorem T.pubGAt {ops : Array Oper} {l : List Oper} {e : TypeId} {size len : Nat} {v : Value} {cs : List Value} {own0 G : Own} (hg : GrowS e size v len cs G) (h : ∀ X', X.le X' → SliceR X' v len cs → SL ro P n w0 X0 ops Q l env own0 X') : SL ro P n w0 X0 ops Q l env (own0 ++ G) X := by
  intro a W ha hs
  obtain ⟨X', h1, h2, h3⟩ := hs.pubG hg
  exact h X' h1 h2 a W ha h3
end
end Go.Proofs.YtoheffglppbcbaaDoor
