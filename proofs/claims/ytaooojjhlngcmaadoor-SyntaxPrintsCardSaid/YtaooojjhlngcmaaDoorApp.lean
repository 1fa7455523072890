/- append of whatever length onto what has grown; returns of nothing; rows as sources. No program is named here. -/
import Derived.Test.YtaooojjhlngcmaaDoorWire
import Derived.Test.YtaooojjhlngcmaaDoorRows2
namespace Go.Proofs.YtaooojjhlngcmaaDoor
open Go.RowKit
section
variable {ro : Option Nat} {P : Program} {n : NM} {w0 : Base} {X0 X : PMap} {own : Own} {env : Env} {fn : Func} {Φ : Value → Own → PMap → Prop}
theorem T.retM0 {k : List It} {s : Nat} {own0 : Own} (L' : Own) (hr : fn.results = #[]) (hp : own.Perm (L' ++ own0)) (hΦ : Φ (.tuple #[]) L' X) : T ro P ⟨s, []⟩ w0 X0 (bodyQ P fn (FinM w0 X0 own0 Φ)) (.code .ret :: k) none env own X := T.retM (fun _ _ _ _ => run_results0 hr) hp hΦ
/-- A result that lies in a block of the call's own, which is left behind. -/
theorem T.retM1S {k : List It} {s : Nat} {own0 : Own} (L' mid : Own) {r : ResultVar} {v : Value} (hr : fn.results = #[r]) (h : ResIs P env own r v) (hm : mid.Sublist own) (hp : mid.Perm (L' ++ own0)) (hΦ : Φ v L' X) : T ro P ⟨s, []⟩ w0 X0 (bodyQ P fn (FinM w0 X0 own0 Φ)) (.code .ret :: k) none env own X :=
  fun a W ha hs => runL_ret (by
    show LeavesInM (FR none) DEP P fn a.tmps _ a.defers .returning W
    rw [ha.defers]
    exact ⟨v, run_results1 hr h ha hs.stab, v, L', X, rfl, (hs.sub hm).perm hp, hΦ⟩)
theorem SD.perm {ops : Array Oper} {Q : Exit → Act → World → Prop} {nh : Nat} {st : Option Nat} {ownS own' : Own} {XS : PMap} {pl : List Pl} (hp : own.Perm own') (h : SD ro P n w0 X0 ops Q nh st ownS XS pl env own' X) : SD ro P n w0 X0 ops Q nh st ownS XS pl env own X :=
  fun listed a W h1 h2 h3 h4 h5 h6 hs hst => h listed a W h1 h2 h3 h4 h5 h6 (hs.perm hp) hst
/-- What the branches of a code have in common. -/
theorem T.meet {Q : Exit → Act → World → Prop} {c : Code} {k : List It} (J : Fam) (h1 : T ro P n w0 X0 Q (.code c :: backTo n w0 X0 J 1 :: k) none env own X) (h2 : ∀ m env own X, J m env own X → T ro P n w0 X0 Q k none env own X) : T ro P n w0 X0 Q (.code c :: k) none env own X := by
  intro a W ha hs
  refine runL_code (Code.wpIn_mono (fun e a w h => ?_) (runL_code_iff.1 (h1 a W ha hs)))
  cases e with
  | normal =>
    obtain ⟨m', _, env', own', X', hI, ha', hs'⟩ := h
    exact h2 m' env' own' X' hI a w ha' hs'
  | exit id => exact h
  | _ => exact h
theorem Src.zero {v : Value} {size : Nat} {news : List Value} (h : Src own X v 0 size news) : news = [] ∧ ∃ A c, v = .slice A 0 c := by
  obtain ⟨h1, A, c, rfl, _⟩ := h
  exact ⟨List.eq_nil_of_length_eq_zero (by simpa using h1), A, c, rfl⟩
theorem OpY.toX {o : Op} {v : Value} (hn : noDefer o = true) (h : OpY P n env own X o v) : OpX P n w0 X0 env own X o false fun v' own' X' => v' = v ∧ own' = own ∧ X' = X := by
  intro a W oper K Q ro hop ha hs hK
  exact wp_value (noDefer_spec (by rw [hop]; exact hn)) (h a W _ hop ha hs.stab) (hK _ _ _ _ ⟨rfl, rfl, rfl⟩ hs fun h => by cases h)
/-- An empty slice is laid. -/
theorem op_build0 {t e : TypeId} {size : Nat} {zs : List Value} (ht : P.underlying t = some (.slice e)) (he : ∃ i z, P.info? e = some i ∧ i.size = size ∧ i.zero = some z ∧ z.cells = zs.toArray) (hz : zs.length = size) :
    OpX P n w0 X0 env own X (.buildSlice t 0 #[]) true fun v own' X' => ∃ b, v = .slice (some ⟨b, 0, none⟩) 0 0 ∧ own' = ⟨b, [], e, 0⟩ :: own ∧ X = X' :=
  op_buildSlice (size := size) (qs := []) ht he rfl (by simp [Nat.ble]) (by simp [bfill]) hz rfl
/-- append of a slice onto an empty one. -/
theorem op_append0 {t e : TypeId} {s x : Operand} {b j m size bytes : Nat} {news : List Value} {u : Value} (ht : SlT P t e size bytes) (hs : eev env s = some (.slice (some ⟨b, 0, none⟩) 0 0)) (hx : eev env x = some u)
    (ho : AtO own b [] e 0 j) (hsrc : Src own X u m size news) (h1 : ∀ y ∈ news, y.oneCell' = true) (h63 : m ≤ maxLen) (hby : m * bytes ≤ 140737488355328) :
    OpX P n w0 X0 env own X (.call { callee := .builtin .append, args := #[s, x], argTypes := #[t, t] }) false fun v own' X' => ∃ b' cap', v = .slice (some ⟨b', 0, none⟩) m cap' ∧ own' = own.set j ⟨b', news, e, cap' * size⟩ ∧ X = X' ∧ m ≤ cap' ∧ cap' ≤ maxLen := by
  have := op_append (P := P) (n := n) (env := env) (own := own) (X := X) (w0 := w0) (X0 := X0) (q := 0) (cap := 0) (sz := 0) (cs := []) ht hs hx ho (by simp) (by simp) (Nat.zero_le _) (Nat.zero_le _) hsrc h1 (by omega) (by simpa using hby)
  simpa using this
/-- append of a slice, empty or not, onto what has grown. -/
theorem op_appendGA {t e : TypeId} {s x : Operand} {v u : Value} {len m size bytes : Nat} {cs news : List Value} {own0 G : Own} (ht : SlT P t e size bytes) (hs : eev env s = some v) (hg : GrowS e size v len cs G) (hx : eev env x = some u)
    (hsrc : Src (own0 ++ G) X u m size news) (h1 : ∀ y ∈ news, y.oneCell' = true) (hlen : len + m ≤ maxLen) (hby : (len + m) * bytes ≤ 140737488355328) :
    OpX P n w0 X0 env (own0 ++ G) X (.call { callee := .builtin .append, args := #[s, x], argTypes := #[t, t] }) false fun v' own' X' => ∃ G', own' = own0 ++ G' ∧ X = X' ∧ GrowS e size v' (len + m) (cs ++ news) G' := by
  rcases Nat.eq_zero_or_pos m with rfl | hm
  · obtain ⟨rfl, A, c, rfl⟩ := hsrc.zero
    rcases hg with ⟨rfl, rfl, rfl, rfl⟩ | ⟨b, cap, rfl, rfl, hlc, hcm, hcl⟩
    · refine (OpY.toX rfl (op_appendNil0 ht hs hx)).weaken ?_
      rintro v' own' X' ⟨rfl, rfl, rfl⟩
      exact ⟨own0 ++ [], own0 ++ [], ⟨[], rfl, rfl, by simpa using GrowS.nil⟩, List.Sublist.refl _, .refl _⟩
    · refine (op_append (m := 0) (news := []) (j := own0.length + 0) ht hs hx ((AtO.here (l := []) (b := b) (cs := cs) (ty := e) (sz := cap * size)).append own0) rfl hcl hlc hcm hsrc h1 hlen hby).weaken ?_
      rintro v' own' X' ⟨b', cap', rfl, rfl, rfl, hc1, hc2⟩
      refine ⟨own0 ++ [⟨b', cs ++ [], e, cap' * size⟩], _, ⟨_, rfl, rfl, .inr ⟨b', cap', rfl, rfl, hc1, hc2, by simp [hcl]⟩⟩, ?_, .refl _⟩
      have e1 : (own0 ++ [(⟨b, cs, e, cap * size⟩ : Ow)]).set (own0.length + 0) ⟨b', cs ++ [], e, cap' * size⟩ = own0 ++ [⟨b', cs ++ [], e, cap' * size⟩] := by
        simp
      rw [e1]
      exact List.Sublist.refl _
  · exact op_appendGM ht hs hg hx hsrc hm h1 hlen hby
/-- Rows as a source. -/
theorem Src.ofRow {α : Type} {rc : α → List Value} {sz : Nat} (hrc : ∀ x, (rc x).length = sz) {v : Value} {rs : List α} (h : RowR rc X v rs) : Src own X v rs.length sz ((rs.map rc).flatten) := by
  rcases h with ⟨rfl, A, c, rfl⟩ | ⟨h0, b, c, pre, rfl, hB, _⟩
  · exact Src.nil
  · have hl := rows_len hrc rs
    have := Src.ofExt (own := own) (m := rs.length) (c := c) (size := sz) (o := pre.length) hB (by rw [List.length_append, hl]; omega)
    rwa [List.drop_left, List.take_of_length_le (by rw [hl]; omega)] at this
end
/-- Rows from the place k on. -/
theorem RowR.drop {α : Type} {rc : α → List Value} {X : PMap} {A : Option Addr} {cp sz : Nat} (hrc : ∀ x, (rc x).length = sz) {rs : List α} (h : RowR rc X (.slice A rs.length cp) rs) {k : Nat} (hk : k ≤ rs.length) : RowR rc X (.slice (slA A cp k sz) (rs.length - k) (cp - k)) (rs.drop k) := by
  rcases Nat.eq_or_lt_of_le hk with rfl | h0
  · exact .inl ⟨by simp, _, _, by rw [Nat.sub_self]⟩
  · obtain ⟨b, pre, rfl, hB⟩ := h.blk (by omega)
    obtain ⟨hc, hm⟩ := h.cap (by omega)
    refine .inr ⟨by simp; omega, b, cp - k, pre ++ ((rs.take k).map rc).flatten, ?_, ?_, by rw [List.length_drop]; omega, by omega⟩
    · rw [slA, if_neg (by omega), List.length_append, rows_len hrc, List.length_take, Nat.min_eq_left hk, List.length_drop]; simp [Addr.add]
    · rwa [List.append_assoc, ← List.flatten_append, ← List.map_append, List.take_append_drop]
end Go.Proofs.YtaooojjhlngcmaaDoor
