/- What the law's proof rests on: the engine, a small separation logic over the kit's walk, and contracts of the functions that the law reaches. Part 3. -/
import Derived.Laws.Externs
import Derived.MapKept
import Derived.Laws.IdiomStrings
import Derived.Test.YtnabbnhefjfegaaGreatDoorPart1
import Derived.Test.YtnabbnhefjfegaaGreatDoorPart2
namespace Go.Proofs.YtnabbnhefjfegaaGreatDoor
open Go.RowKit
abbrev bl (s : ByteArray) : List UInt8 := s.data.toList
theorem bl_app (a b : ByteArray) : bl (a ++ b) = bl a ++ bl b := by simp [bl]
theorem bl_size (s : ByteArray) : (bl s).length = s.size := by simp [bl]
theorem bl_mk (s : ByteArray) : (⟨(bl s).toArray⟩ : ByteArray) = s := by simp [bl]
theorem bl_inj {a b : ByteArray} (h : bl a = bl b) : a = b := by rw [← bl_mk a, h, bl_mk]
/-- What may stand behind a word or a number. -/
def ndel : List UInt8 → Prop
  | [] => True
  | b :: _ => innB b = false
/-- A piece of a text, and its tokens by the offset at which it begins; behind it stands nothing that would go on with its last word. -/
def LxW (t : List UInt8) (ts : Nat → List Tk) : Prop := ∀ N r, ndel r → (t ++ r).length ≤ N → scanL N (t ++ r) = appR (ts (N - (t ++ r).length)) (scanL N r)
/-- The same, whatever stands behind. -/
def LxS (t : List UInt8) (ts : Nat → List Tk) : Prop := ∀ N r, (t ++ r).length ≤ N → scanL N (t ++ r) = appR (ts (N - (t ++ r).length)) (scanL N r)
theorem LxS.w {t : List UInt8} {ts : Nat → List Tk} (h : LxS t ts) : LxW t ts := fun N r _ => h N r
theorem appR_app (a b : List Tk) (x : Except Nat (List Tk)) : appR a (appR b x) = appR (a ++ b) x := by cases x <;> simp [appR]
theorem appR_one (t : Tk) (x : Except Nat (List Tk)) : consR t x = appR [t] x := by cases x <;> simp [appR, consR]
theorem appR_nil (x : Except Nat (List Tk)) : appR [] x = x := by cases x <;> simp [appR]
section
variable {t t' : List UInt8} {ts ts' : Nat → List Tk}
theorem LxS.app (h : LxS t ts) (h' : LxS t' ts') : LxS (t ++ t') (fun o => ts o ++ ts' (o + t.length)) := fun N r hN => by
  rw [List.append_assoc] at hN ⊢
  rw [h N _ hN, h' N r (by simp only [List.length_append] at hN ⊢; omega), appR_app]
  congr 3
  simp only [List.length_append] at hN ⊢; omega
theorem LxS.appW (h : LxS t ts) (h' : LxW t' ts') : LxW (t ++ t') (fun o => ts o ++ ts' (o + t.length)) := fun N r hr hN => by
  rw [List.append_assoc] at hN ⊢
  rw [h N _ hN, h' N r hr (by simp only [List.length_append] at hN ⊢; omega), appR_app]
  congr 3
  simp only [List.length_append] at hN ⊢; omega
theorem LxW.app (h : LxW t ts) (h' : LxW t' ts') (hd : ∀ r, ndel r → ndel (t' ++ r)) : LxW (t ++ t') (fun o => ts o ++ ts' (o + t.length)) := fun N r hr hN => by
  rw [List.append_assoc] at hN ⊢
  rw [h N _ (hd r hr) hN, h' N r hr (by simp only [List.length_append] at hN ⊢; omega), appR_app]
  congr 3
  simp only [List.length_append] at hN ⊢; omega
theorem LxW.appS (h : LxW t ts) (h' : LxS t' ts') (hd : ∀ r, ndel (t' ++ r)) : LxS (t ++ t') (fun o => ts o ++ ts' (o + t.length)) := fun N r hN => by
  rw [List.append_assoc] at hN ⊢
  rw [h N _ (hd r) hN, h' N r (by simp only [List.length_append] at hN ⊢; omega), appR_app]
  congr 3
  simp only [List.length_append] at hN ⊢; omega
end
theorem takeWhile_all {f : UInt8 → Bool} : ∀ {t r : List UInt8}, (∀ b ∈ t, f b = true) → (∀ b l, r = b :: l → f b = false) → (t ++ r).takeWhile f = t
  | [], [], _, _ => rfl
  | [], b :: r, _, h => by rw [List.nil_append, List.takeWhile_cons_of_neg (by simp [h b r rfl])]
  | b :: t, r, h, h' => by rw [List.cons_append, List.takeWhile_cons_of_pos (h b (by simp)), takeWhile_all (fun x hx => h x (by simp [hx])) h']
theorem ndel_of {r : List UInt8} (h : ndel r) : ∀ b l, r = b :: l → innB b = false := fun b l e => by subst e; exact h
theorem let_blk {b : UInt8} (h : letB b = true) : blkB b = false ∧ b.toNat ≠ 35 := by simp only [letB, blkB, decide_eq_true_eq, decide_eq_false_iff_not] at h ⊢; omega
theorem dig_blk {b : UInt8} (h : digB b = true) : blkB b = false ∧ b.toNat ≠ 35 ∧ letB b = false ∧ innB b = true := by simp only [digB, letB, innB, blkB, decide_eq_true_eq, decide_eq_false_iff_not] at h ⊢; omega
/-- A word. -/
theorem lx_word {s : ByteArray} {b : UInt8} {l : List UInt8} (hs : bl s = b :: l) (hb : letB b = true) (ha : ∀ c ∈ bl s, innB c = true) : LxW (bl s) (fun o => [wT s o]) := fun N r hr hN => by
  obtain ⟨k1, k2⟩ := let_blk hb
  have ht : tok1 (bl s ++ r) = some (1, bl s, 0) := by
    have := takeWhile_all (f := innB) (t := bl s) ha (ndel_of hr)
    rw [hs, List.cons_append] at this ⊢
    rw [tok1, if_pos hb, this]
  rw [scan_one (b := b) (r := l ++ r) (by rw [hs]; rfl) k1 k2 ht, bl_mk, List.drop_left, appR_one]; rfl
theorem valid_bytes {s : ByteArray} (h : validS s) : ∃ b l, bl s = b :: l ∧ letB b = true ∧ ∀ c ∈ bl s, innB c = true := by
  obtain ⟨h1, _, _, h4⟩ := h
  have get : ∀ (k : Nat) (b : UInt8), (bl s)[k]? = some b → s[k]? = some b := fun k b hk => by
    obtain ⟨hlt, he⟩ := List.getElem?_eq_some_iff.1 hk
    have hlt2 : k < s.size := by rw [← bl_size]; exact hlt
    rw [getElem?_pos s k hlt2]
    congr 1
  cases hb : bl s with
  | nil => exact absurd (by rw [← bl_size, hb]; rfl) h1
  | cons b l =>
    have hall : ∀ c ∈ bl s, innB c = true := fun c hc => by
      obtain ⟨k, hk⟩ := List.mem_iff_getElem?.1 hc
      exact (h4 k c (Nat.zero_le _) (get k c hk)).1
    refine ⟨b, l, rfl, (h4 0 b (Nat.le_refl _) (get 0 b (by rw [hb]; rfl))).2 rfl, ?_⟩
    rw [← hb]; exact hall
theorem lx_name {s : ByteArray} (h : validS s) : LxW (bl s) (fun o => [wT s o]) := by
  obtain ⟨b, l, h1, h2, h3⟩ := valid_bytes h
  exact lx_word h1 h2 h3
theorem lx_true : LxW (bl wTrue) (fun o => [wT wTrue o]) := lx_word rfl (by decide) (by decide)
theorem lx_false : LxW (bl wFalse) (fun o => [wT wFalse o]) := lx_word rfl (by decide) (by decide)
theorem lx_count : LxW (bl wCount) (fun o => [wT wCount o]) := lx_word rfl (by decide) (by decide)
theorem lx_members : LxW (bl wMembers) (fun o => [wT wMembers o]) := lx_word rfl (by decide) (by decide)
theorem lx_notw : LxW (bl wNot) (fun o => [wT wNot o]) := lx_word rfl (by decide) (by decide)
theorem lx_blank : LxS [32] (fun _ => []) := fun N r _ => by rw [appR_nil]; exact scan_blank
theorem lx_sym {s : List UInt8} {b : UInt8} {l : List UInt8} (hs : s = b :: l) (h1 : blkB b = false) (h2 : b.toNat ≠ 35) (ht : ∀ r, tok1 (s ++ r) = some (3, s, 0)) : LxS s (fun o => [sT ⟨s.toArray⟩ o]) := fun N r _ => by
  rw [scan_one (b := b) (r := l ++ r) (by rw [hs]; rfl) h1 h2 (ht r), List.drop_left, appR_one]; rfl
theorem lx_lp : LxS [40] (fun o => [sT wLp o]) := lx_sym rfl (by decide) (by decide) fun _ => rfl
theorem lx_rp : LxS [41] (fun o => [sT wRp o]) := lx_sym rfl (by decide) (by decide) fun _ => rfl
theorem lx_comma : LxS [44] (fun o => [sT wComma o]) := lx_sym rfl (by decide) (by decide) fun _ => rfl
/-- An operator between blanks. -/
theorem lx_op {op : Nat} (h1 : 8 ≤ op) (h2 : op ≤ 16) : LxS (bl (wordB op)) (fun o => [opK op (o + 1)]) := by
  have key : ∀ {s : List UInt8} {b : UInt8} {l : List UInt8} {k : Nat}, s = b :: l → blkB b = false → b.toNat ≠ 35 → (∀ r, tok1 (s ++ 32 :: r) = some (k, s, 0)) → LxS (32 :: (s ++ [32])) (fun o => [⟨k, ⟨s.toArray⟩, 0, o + 1⟩]) := by
    intro s b l k hs k1 k2 ht N r hN
    rw [List.cons_append, scan_blank, List.append_assoc, List.singleton_append, scan_one (b := b) (r := l ++ 32 :: r) (by rw [hs]; rfl) k1 k2 (ht r), List.drop_left, scan_blank, appR_one]
    simp only [List.length_append, List.length_cons, List.length_nil] at hN ⊢
    rw [show N - (s.length + (r.length + 1)) = N - (s.length + (r.length + 1) + 1) + 1 by omega]
  rcases (by omega : op = 8 ∨ op = 9 ∨ op = 10 ∨ op = 11 ∨ op = 12 ∨ op = 13 ∨ op = 14 ∨ op = 15 ∨ op = 16) with rfl | rfl | rfl | rfl | rfl | rfl | rfl | rfl | rfl
  · exact key (s := [97, 110, 100]) rfl (by decide) (by decide) fun _ => rfl
  · exact key (s := [111, 114]) rfl (by decide) (by decide) fun _ => rfl
  · exact key (s := [45, 62]) rfl (by decide) (by decide) fun _ => rfl
  · exact key (s := [60, 61]) rfl (by decide) (by decide) fun _ => rfl
  · exact key (s := [60]) rfl (by decide) (by decide) fun _ => rfl
  · exact key (s := [62, 61]) rfl (by decide) (by decide) fun _ => rfl
  · exact key (s := [62]) rfl (by decide) (by decide) fun _ => rfl
  · exact key (s := [61, 61]) rfl (by decide) (by decide) fun _ => rfl
  · exact key (s := [43]) rfl (by decide) (by decide) fun _ => rfl
theorem op_ndel {op : Nat} (h1 : 8 ≤ op) (h2 : op ≤ 16) : ∀ r, ndel (bl (wordB op) ++ r) := by
  rcases (by omega : op = 8 ∨ op = 9 ∨ op = 10 ∨ op = 11 ∨ op = 12 ∨ op = 13 ∨ op = 14 ∨ op = 15 ∨ op = 16) with rfl | rfl | rfl | rfl | rfl | rfl | rfl | rfl | rfl <;> exact fun _ => (by decide : innB 32 = false)
theorem digit_of {v : Nat} (h : v < 10) : digB (UInt8.ofNat (48 + v)) = true ∧ (UInt8.ofNat (48 + v)).toNat = 48 + v := by
  have : (UInt8.ofNat (48 + v)).toNat = 48 + v := by rw [UInt8.toNat_ofNat']; omega
  exact ⟨by simp only [digB, this, decide_eq_true_eq]; omega, this⟩
theorem decG_dig : ∀ (f v : Nat), ∀ b ∈ decG f v, digB b = true
  | 0, _, b, h => by simp [decG] at h
  | f + 1, v, b, h => by
    rw [decG] at h
    split at h
    · rename_i hv
      rw [List.mem_singleton] at h
      subst h
      exact (digit_of hv).1
    · rcases List.mem_append.1 h with h | h
      · exact decG_dig f _ b h
      · rw [List.mem_singleton] at h
        subst h
        exact (digit_of (Nat.mod_lt _ (by omega))).1
theorem valL_snoc (l : List UInt8) (c : UInt8) : valL (l ++ [c]) = 10 * valL l + (c.toNat - 48) := by simp [valL]
theorem decG_val : ∀ (f v : Nat), v < 10 ^ f → valL (decG f v) = v
  | 0, v, h => by simp at h; subst h; rfl
  | f + 1, v, h => by
    rw [decG]
    split
    · rename_i hv
      simp [valL]
      omega
    · rw [valL_snoc, decG_val f (v / 10) (by rw [Nat.pow_succ] at h; omega), (digit_of (Nat.mod_lt _ (by omega))).2]; omega
theorem decG_length : ∀ (f v k : Nat), v < 10 ^ k → 1 ≤ k → (decG f v).length ≤ k
  | 0, _, _, _, _ => by simp [decG]
  | f + 1, v, k, h, hk => by
    rw [decG]
    split
    · simpa using hk
    · rename_i hv
      obtain ⟨k, rfl⟩ : ∃ q, k = q + 1 := ⟨k - 1, by omega⟩
      have h1 : v / 10 < 10 ^ k := by rw [Nat.pow_succ] at h; omega
      have hk0 : 1 ≤ k := Nat.pos_of_ne_zero fun e => by subst e; simp at h1; omega
      have := decG_length f (v / 10) k h1 hk0
      rw [List.length_append]; simp; omega
theorem decG_head : ∀ (f v : Nat), 0 < v → v < 10 ^ f → ∃ b l, decG f v = b :: l ∧ b ≠ 48
  | 0, v, h, h' => by simp at h'; omega
  | f + 1, v, h, h' => by
    rw [decG]
    split
    · rename_i hv
      refine ⟨_, [], rfl, fun e => ?_⟩
      have := (digit_of hv).2
      rw [e] at this
      have h48 : (48 : UInt8).toNat = 48 := rfl
      omega
    · obtain ⟨b, l, e, hb⟩ := decG_head f (v / 10) (by omega) (by rw [Nat.pow_succ] at h'; omega)
      exact ⟨b, l ++ [_], by rw [e]; rfl, hb⟩
theorem decG_pos (f v : Nat) : 0 < (decG (f + 1) v).length := by
  rw [decG]
  split
  · simp
  · simp
theorem lx_num {v : Nat} (hv : v ≤ 999999) : LxW (bl (decB v)) (fun o => [⟨2, decB v, v, o⟩]) := fun N r hr hN => by
  have e : bl (decB v) = decG 20 v := by simp [bl, decB]
  have hdig := decG_dig 20 v
  have hval := decG_val 20 v (by omega)
  have hlen := decG_length 20 v 6 (by omega) (by omega)
  have hrd : ∀ b l, r = b :: l → digB b = false := fun b l h => by
    have := ndel_of hr b l h
    simp only [innB, digB, decide_eq_false_iff_not] at this ⊢; omega
  have htw : (decG 20 v ++ r).takeWhile digB = decG 20 v := takeWhile_all hdig hrd
  have hpos := decG_pos 19 v
  obtain ⟨b, l, hbl⟩ : ∃ b l, decG 20 v = b :: l := by
    cases h : decG 20 v with
    | nil => rw [h] at hpos; simp at hpos
    | cons b l => exact ⟨b, l, rfl⟩
  have hb : digB b = true := hdig b (by rw [hbl]; simp)
  obtain ⟨k1, k2, k3, k4⟩ := dig_blk hb
  have hz : ¬(1 < (decG 20 v).length ∧ (decG 20 v ++ r).head? = some 48) := fun ⟨h1, h2⟩ => by
    have hv0 : 0 < v := Nat.pos_of_ne_zero fun h0 => by subst h0; simp [decG] at h1
    obtain ⟨b2, l2, e2, hne⟩ := decG_head 20 v hv0 (by omega)
    rw [e2, List.cons_append, List.head?_cons] at h2
    exact hne (Option.some.inj h2)
  have hg : glued r = false := by
    cases r with
    | nil => rfl
    | cons c r =>
      have := ndel_of hr c r rfl
      simp only [innB, decide_eq_false_iff_not] at this
      simp only [glued, letB, Bool.or_eq_false_iff, decide_eq_false_iff_not, beq_eq_false_iff_ne]
      omega
  have ht : tok1 (decG 20 v ++ r) = some (2, decG 20 v, v) := by
    have hnum : numT (decG 20 v ++ r) = some (decG 20 v) := by
      rw [numT, htw, List.drop_left]
      rw [if_neg]
      rintro (h | h | h)
      · omega
      · exact hz h
      · rw [hg] at h; cases h
    rw [hbl, List.cons_append] at hnum ⊢
    rw [tok1, if_neg (by simp [k3]), if_pos hb, hnum, ← hbl]
    simp [hval]
  rw [e] at hN ⊢
  rw [scan_one (b := b) (r := l ++ r) (by rw [hbl]; rfl) k1 k2 ht, List.drop_left, appR_one]; rfl
theorem LxW.of {t t' : List UInt8} {ts ts' : Nat → List Tk} (h : LxW t ts) (ht : t' = t) (e : ∀ o, ts' o = ts o) : LxW t' ts' := by
  subst ht
  rw [show ts' = ts from funext e]; exact h
theorem LxS.of {t t' : List UInt8} {ts ts' : Nat → List Tk} (h : LxS t ts) (ht : t' = t) (e : ∀ o, ts' o = ts o) : LxS t' ts' := by
  subst ht
  rw [show ts' = ts from funext e]; exact h
theorem lx_commas : ∀ {l : List ByteArray}, (∀ s ∈ l, validS s) → LxW (l.map fun t => [44, 32] ++ bl t).flatten (commasK l)
  | [], _ => fun N r _ _ => by simp [commasK, appR_nil]
  | s :: l, h => by
    have h1 := ((lx_comma.app lx_blank).appW (lx_name (h s (by simp)))).app (lx_commas (l := l) fun x hx => h x (List.mem_cons_of_mem _ hx)) fun r hr => by
      cases l with
      | nil => exact hr
      | cons x l => exact (by decide : innB 44 = false)
    refine h1.of (by simp) fun o => ?_
    rw [commasK]
    simp only [List.length_cons, List.length_nil, List.append_nil, List.cons_append, List.nil_append, bl_size]
    rw [show o + (s.size + 1 + 1) = o + 2 + s.size by omega]
theorem lx_names {l : List ByteArray} (h : ∀ s ∈ l, validS s) (h0 : 0 < l.length) : LxW (bl (joinB l)) (namesK l) := by
  match l, h0 with
  | s :: l, _ =>
    have h1 := (lx_name (h s (by simp))).app (lx_commas (l := l) fun x hx => h x (List.mem_cons_of_mem _ hx)) fun r hr => by
      cases l with
      | nil => exact hr
      | cons x l => exact (by decide : innB 44 = false)
    refine h1.of (by simp [bl, joinB, joinG]) fun o => ?_
    rw [namesK, bl_size]; rfl
/-- An operand, with its parentheses. -/
theorem lx_par {s least : Nat} {t : ByteArray} {ts : Nat → List Tk} (h : LxW (bl t) ts) : LxW (bl (parB s t least)) (parK s least t.size ts) := by
  by_cases hc : s < least
  · have h1 := (lx_lp.appW h).appS lx_rp fun _ => (by decide : innB 41 = false)
    refine h1.w.of (by rw [parB, if_pos hc, bl_app, bl_app]) fun o => ?_
    rw [parK, if_pos hc]
    simp only [List.length_cons, List.length_nil, List.cons_append, List.nil_append, bl_size]
    rw [show o + (t.size + 1) = o + 1 + t.size by omega]
  · exact h.of (by rw [parB, if_neg hc]) fun o => by rw [parK, if_neg hc]
/-- THE TEXT OF AN ACCEPTED TREE. -/
theorem lx_text : ∀ (n : Nat) (e : Ex), sizE e ≤ n → nodeE e = 0 → LxW (bl (textE e)) (toksE e) := by
  intro n
  induction n with
  | zero => intro e h; cases e; rw [sizE] at h; omega
  | succ n ih =>
    intro e hsz hnode
    cases e with
    | mk op v ns al =>
    obtain ⟨hown, hargs⟩ := node_ok hnode
    obtain ⟨o1, o2, o3, o4, o5, o6, o7, o8, o9⟩ := own_ok hown
    rw [sizE] at hsz
    by_cases c1 : op = 1
    · obtain ⟨q, rfl⟩ := Int.eq_ofNat_of_zero_le o8
      exact (lx_num (v := q) (by omega)).of (by rw [textE, if_pos c1]; rfl) fun o => by rw [toksE, if_pos c1]; rfl
    by_cases c2 : op = 2
    · exact lx_true.of (by rw [textE, if_neg c1, if_pos c2]) fun o => by rw [toksE, if_neg c1, if_pos c2]
    by_cases c3 : op = 3
    · exact lx_false.of (by rw [textE, if_neg c1, if_neg c2, if_pos c3]) fun o => by rw [toksE, if_neg c1, if_neg c2, if_pos c3]
    by_cases c4 : op = 4
    · obtain ⟨s, rfl⟩ : ∃ s, ns = [s] := by
        have hl1 : ns.length = 1 := by simpa [namN, c4] using o5
        match ns, hl1 with
        | [s], _ => exact ⟨s, rfl⟩
      exact (lx_name (o6 s (by simp))).of (by rw [textE, if_neg c1, if_neg c2, if_neg c3, if_pos c4]; rfl) fun o => by rw [toksE, if_neg c1, if_neg c2, if_neg c3, if_pos c4]; rfl
    by_cases c5 : op = 5
    · have hl1 : 1 ≤ ns.length ∧ ns.length ≤ 8 := by simpa [namN, c5] using o5
      have h1 := ((lx_count.appS lx_lp fun _ => (by decide : innB 40 = false)).appW (lx_names o6 hl1.1)).appS lx_rp fun _ => (by decide : innB 41 = false)
      refine h1.w.of (by rw [textE, if_neg c1, if_neg c2, if_neg c3, if_neg c4, if_pos c5, bl_app, bl_app]; rfl) fun o => ?_
      rw [toksE, if_neg c1, if_neg c2, if_neg c3, if_neg c4, if_pos c5]
      simp only [List.length_append, List.length_cons, List.length_nil, List.cons_append, List.nil_append, bl_size]
      rw [show o + wCount.size = o + 5 from rfl, show o + (wCount.size + (0 + 1)) = o + 6 from rfl, show o + (wCount.size + (0 + 1) + (joinB ns).size) = o + 6 + (joinB ns).size by rw [show wCount.size = 5 from rfl]; omega]
    by_cases c6 : op = 6
    · obtain ⟨s, rfl⟩ : ∃ s, ns = [s] := by
        have hl1 : ns.length = 1 := by simpa [namN, c6] using o5
        match ns, hl1 with
        | [s], _ => exact ⟨s, rfl⟩
      have h1 := ((lx_members.appS lx_lp fun _ => (by decide : innB 40 = false)).appW (lx_name (o6 s (by simp)))).appS lx_rp fun _ => (by decide : innB 41 = false)
      refine h1.w.of (by rw [textE, if_neg c1, if_neg c2, if_neg c3, if_neg c4, if_neg c5, if_pos c6, bl_app, bl_app]; rfl) fun o => ?_
      rw [toksE, if_neg c1, if_neg c2, if_neg c3, if_neg c4, if_neg c5, if_pos c6]
      simp only [List.length_append, List.length_cons, List.length_nil, List.cons_append, List.nil_append, bl_size, List.headD_cons]
      rw [show o + wMembers.size = o + 7 from rfl, show o + (wMembers.size + (0 + 1)) = o + 8 from rfl, show o + (wMembers.size + (0 + 1) + s.size) = o + 8 + s.size by rw [show wMembers.size = 7 from rfl]; omega]
    by_cases c7 : op = 7
    · obtain ⟨a, rfl⟩ : ∃ a, al = [a] := by
        have hl1 : al.length = 1 := by rw [o3, c7]; rfl
        match al, hl1 with
        | [a], _ => exact ⟨a, rfl⟩
      have ha := ih a (by rw [sizL, sizL] at hsz; omega) (nodeL_zero hargs a (by simp))
      have h1 := (lx_notw.appS lx_blank fun _ => (by decide : innB 32 = false)).appW (lx_par (s := strN a.op) (least := 4) ha)
      refine h1.of (by rw [textE, if_neg c1, if_neg c2, if_neg c3, if_neg c4, if_neg c5, if_neg c6, textL, textL, bl_app]; rfl) fun o => ?_
      rw [toksE, if_neg c1, if_neg c2, if_neg c3, if_neg c4, if_neg c5, if_neg c6, toksL, toksL]
      rfl
    obtain ⟨a, b, rfl⟩ : ∃ a b, al = [a, b] := by
      have hl1 : al.length = 2 := by rw [o3, argN, if_neg (by omega), if_neg c7]
      match al, hl1 with
      | [a, b], _ => exact ⟨a, b, rfl⟩
    have ha := ih a (by rw [sizL, sizL, sizL] at hsz; omega) (nodeL_zero hargs a (by simp))
    have hb := ih b (by rw [sizL, sizL, sizL] at hsz; omega) (nodeL_zero hargs b (by simp))
    have h1 := ((lx_par (s := strN a.op) (least := lefN op) ha).appS (lx_op (op := op) (by omega) o2) (op_ndel (by omega) o2)).appW (lx_par (s := strN b.op) (least := rigN op) hb)
    refine h1.of (by rw [textE, if_neg c1, if_neg c2, if_neg c3, if_neg c4, if_neg c5, if_neg c6, textL, textL, textL]; simp only [bl_app]) fun o => ?_
    rw [toksE, if_neg c1, if_neg c2, if_neg c3, if_neg c4, if_neg c5, if_neg c6, toksL, toksL, toksL]
    simp only [List.append_assoc, List.singleton_append, List.length_append, bl_size]
    rw [Nat.add_assoc o (parB _ _ _).size (wordB op).size]
end Go.Proofs.YtnabbnhefjfegaaGreatDoor
namespace Go.Proofs.YtnabbnhefjfegaaGreatDoor
open Go.RowKit
theorem bl_get (s : ByteArray) (i : Nat) : (bl s)[i]? = s[i]? := by simp only [bl, Array.getElem?_toList]; rfl
theorem drop_cons' {s : ByteArray} {i : Nat} {b : UInt8} (h : s[i]? = some b) : (bl s).drop i = b :: (bl s).drop (i + 1) := by
  rw [← bl_get] at h
  obtain ⟨h1, h2⟩ := List.getElem?_eq_some_iff.1 h
  rw [List.drop_eq_getElem_cons h1, h2]
theorem drop_none {s : ByteArray} {i : Nat} (h : s.size ≤ i) : (bl s).drop i = [] := List.drop_eq_nil_of_le (by rw [bl_size]; exact h)
theorem get_some {s : ByteArray} {i : Nat} (h : i < s.size) : ∃ b, s[i]? = some b := by
  rw [← bl_get]
  exact ⟨_, List.getElem?_eq_getElem (by rw [bl_size]; exact h)⟩
/-- The place behind the bytes from i on of which f is true. -/
def whl (s : ByteArray) (f : UInt8 → Bool) (i : Nat) : Nat := i + (((bl s).drop i).takeWhile f).length
section
variable {s : ByteArray} {f : UInt8 → Bool} {i : Nat} {b : UInt8}
theorem whl_go (h : s[i]? = some b) (hf : f b = true) : whl s f i = whl s f (i + 1) := by
  rw [whl, whl, drop_cons' h, List.takeWhile_cons_of_pos hf, List.length_cons]; omega
theorem whl_stop (h : s[i]? = some b) (hf : f b = false) : whl s f i = i := by
  rw [whl, drop_cons' h, List.takeWhile_cons_of_neg (by rw [hf]; decide), List.length_nil]; rfl
theorem whl_end (h : s.size ≤ i) : whl s f i = i := by rw [whl, drop_none h]; rfl
theorem tw_len (l : List UInt8) : (l.takeWhile f).length ≤ l.length := by
  have := congrArg List.length (List.takeWhile_append_dropWhile (p := f) (l := l))
  rw [List.length_append] at this; omega
theorem whl_le (h : i ≤ s.size) : whl s f i ≤ s.size := by
  have := tw_len (f := f) ((bl s).drop i)
  rw [List.length_drop, bl_size] at this
  rw [whl]; omega
theorem whl_ge : i ≤ whl s f i := Nat.le_add_right _ _
theorem take_tw : ∀ l : List UInt8, l.take (l.takeWhile f).length = l.takeWhile f
  | [] => rfl
  | b :: l => by
    rw [List.takeWhile_cons]
    split
    · rw [List.length_cons, List.take_succ_cons, take_tw l]
    · rfl
theorem ext_bl (l h : Nat) : bl (s.extract l h) = ((bl s).drop l).take (h - l) := by
  simp only [bl, ByteArray.data_extract, Array.toList_extract]
theorem whl_text : bl (s.extract i (whl s f i)) = ((bl s).drop i).takeWhile f := by
  rw [ext_bl, whl, Nat.add_sub_cancel_left, take_tw]
theorem whl_drop : (bl s).drop (whl s f i) = ((bl s).drop i).drop (((bl s).drop i).takeWhile f).length := by rw [whl, List.drop_drop]
end
theorem skip_suf : ∀ (c : Bool) (l : List UInt8), ∃ k, skipL c l = l.drop k
  | _, [] => ⟨0, by simp [skipL]⟩
  | true, b :: l => by
    rw [skipL]
    obtain ⟨k, hk⟩ := skip_suf false l
    obtain ⟨k', hk'⟩ := skip_suf true l
    split
    · exact ⟨k + 1, by rw [hk]; rfl⟩
    · exact ⟨k' + 1, by rw [hk']; rfl⟩
  | false, b :: l => by
    rw [skipL]
    obtain ⟨k, hk⟩ := skip_suf false l
    obtain ⟨k', hk'⟩ := skip_suf true l
    split
    · exact ⟨k + 1, by rw [hk]; rfl⟩
    · split
      · exact ⟨k' + 1, by rw [hk']; rfl⟩
      · exact ⟨0, rfl⟩
/-- The place behind blanks and comments. -/
def skp (s : ByteArray) (i : Nat) : Nat := s.size - (skipL false ((bl s).drop i)).length
def nnl (b : UInt8) : Bool := !decide (b.toNat = 10)
section
variable {s : ByteArray} {i : Nat} {b : UInt8}
theorem skp_le : skp s i ≤ s.size := Nat.sub_le _ _
theorem skp_drop : (bl s).drop (skp s i) = skipL false ((bl s).drop i) := by
  obtain ⟨k, hk⟩ := skip_suf false ((bl s).drop i)
  rw [List.drop_drop] at hk
  have hl : (skipL false ((bl s).drop i)).length = s.size - (i + k) := by rw [hk, List.length_drop, bl_size]
  rcases Nat.lt_or_ge (i + k) s.size with h | h
  · rw [skp, hl, show s.size - (s.size - (i + k)) = i + k by omega, hk]
  · rw [skp, hl, show s.size - (s.size - (i + k)) = s.size by omega, hk, drop_none h, drop_none (Nat.le_refl _)]
theorem skp_blank (h : s[i]? = some b) (hb : blkB b = true) : skp s i = skp s (i + 1) := by
  rw [skp, skp, drop_cons' h, skipL, if_pos hb]
theorem skp_stop (hi : i ≤ s.size) (h : s[i]? = some b) (hb : blkB b = false) (h2 : b.toNat ≠ 35) : skp s i = i := by
  rw [skp, drop_cons' h, skipL, if_neg (by rw [hb]; decide), if_neg h2, ← drop_cons' h, List.length_drop, bl_size]; omega
theorem skp_end (h : s.size ≤ i) : skp s i = s.size := by rw [skp, drop_none h]; simp [skipL]
theorem skipL_true : ∀ l : List UInt8, skipL true l = skipL false (l.drop (l.takeWhile nnl).length)
  | [] => by simp [skipL]
  | b :: l => by
    rw [skipL, List.takeWhile_cons]
    by_cases h : b.toNat = 10
    · have hn : nnl b = false := by simp [nnl, h]
      rw [if_pos h, hn, if_neg (by decide), List.length_nil, List.drop_zero, skipL, if_pos (by simp [blkB, h])]
    · have hn : nnl b = true := by simp [nnl, h]
      rw [if_neg h, hn, if_pos rfl, List.length_cons, List.drop_succ_cons, skipL_true l]
theorem skp_hash (h : s[i]? = some b) (hb : b.toNat = 35) : skp s i = skp s (whl s nnl i) := by
  have hb1 : blkB b = false := by simp [blkB, hb]
  have hn : nnl b = true := by simp [nnl, hb]
  rw [whl_go h hn, skp, skp, drop_cons' h, skipL, if_neg (by rw [hb1]; decide), if_pos hb, skipL_true, whl_drop]
end
end Go.Proofs.YtnabbnhefjfegaaGreatDoor
namespace Go.Proofs.YtnabbnhefjfegaaGreatDoor
open Go.RowKit Go.MapKept
section
variable {P : Program} {n : NM} {w0 : Base} {X0 X : PMap} {own : Own} {env : Env}
theorem PMap.add_at {b : Nat} {o : Obj} : X.add b o b = some o := by simp [PMap.add]
theorem PMap.add_ne {b k : Nat} {o : Obj} (h : k ≠ b) : X.add b o k = X k := by simp [PMap.add, h]
theorem PMap.le_add {b : Nat} {o : Obj} {Y : PMap} (h : Y.le X) (hb : Y b = none) : Y.le (X.add b o) := fun k q hk => by
  have hne : k ≠ b := fun e => by rw [e, hb] at hk; cases hk
  rw [PMap.add_ne hne]; exact h k q hk
/-- A new block of any kind, public at once. -/
theorem Sat.lay {W : World} (h : Sat w0 X0 own X W) (o : Obj) : Sat w0 X0 own (X.add W.heap.size o) (W.alloc o) := by
  refine h.call ((Below.refl _ W).alloc (Nat.le_refl _) _) (fun k q hk => ?_) fun k hk => PMap.add_ne (Nat.ne_of_lt hk)
  by_cases e : k = W.heap.size
  · subst e; rw [PMap.add_at] at hk; cases hk; exact (heap_alloc W _).1
  · rw [PMap.add_ne e] at hk; exact (Grow.alloc W _).pin h.stab.pers k q hk
end
end Go.Proofs.YtnabbnhefjfegaaGreatDoor
namespace Go.Proofs.YtnabbnhefjfegaaGreatDoor
open Go.RowKit
section
variable {P : Program} {n : NM} {w0 : Base} {X0 X : PMap} {own : Own} {env : Env}
theorem op_sliceStrLo {t : TypeId} {x lo : Operand} {s : ByteArray} {l : Nat} {k : IntKind} (ht : P.underlying t = some .string) (hx : eev env x = some (.string s)) (hl : eev env lo = some (.int k (l : Int))) (h1 : l ≤ s.size) :
    OpY P n env own X (.slice t x (some lo) none none) (.string (s.extract l s.size)) := by
  intro a W oper hop ha _
  have hb : (Instr.sliceBounds false s.size s.size (some (.int k (l : Int))) none none).run P W = .ok (l, s.size, s.size) W := by
    simp [Instr.sliceBounds, Instr.sliceBound, asIntOf, h1]
  have : (Instr.sliceAt t (.string s) (some (.int k (l : Int))) none none).run P W = .ok (.string (s.extract l s.size)) W := by
    simp only [Instr.sliceAt, Sem.run_bind, run_underlying ht, Result.andThen_ok, Instr.slice]
    simp [hb]
  simp [execOp, hop, ha.eval hx, ha.eval hl, this]
theorem op_sliceStrHi {t : TypeId} {x hi : Operand} {s : ByteArray} {h : Nat} {k' : IntKind} (ht : P.underlying t = some .string) (hx : eev env x = some (.string s)) (hh : eev env hi = some (.int k' (h : Int))) (h2 : h ≤ s.size) :
    OpY P n env own X (.slice t x none (some hi) none) (.string (s.extract 0 h)) := by
  intro a W oper hop ha _
  have hb : (Instr.sliceBounds false s.size s.size none (some (.int k' (h : Int))) none).run P W = .ok (0, h, s.size) W := by
    simp [Instr.sliceBounds, Instr.sliceBound, asIntOf, h2]
  have : (Instr.sliceAt t (.string s) none (some (.int k' (h : Int))) none).run P W = .ok (.string (s.extract 0 h)) W := by
    simp only [Instr.sliceAt, Sem.run_bind, run_underlying ht, Result.andThen_ok, Instr.slice]
    simp [hb]
  simp [execOp, hop, ha.eval hx, ha.eval hh, this]
def byteC (s : ByteArray) : List Value := s.data.toList.map fun b => .int .u8 (b.toNat : Int)
/-- []byte(s): a row that nobody writes. -/
theorem op_bytesOf {src dst e : TypeId} {x : Operand} {s : ByteArray} (hs : P.underlying src = some .string) (hd : P.underlying dst = some (.slice e)) (he : P.underlying e = some (.int .u8)) (hx : eev env x = some (.string s)) :
    OpX P n w0 X0 env own X (.convert src dst x) true fun u own' X' => ∃ b cap, u = .slice (some ⟨b, 0, none⟩) s.size cap ∧ own = own' ∧ X.le X' ∧ Blk X' b (byteC s) := by
  intro a W oper K Q ro hop ha hsat hK
  have hr := run_bytes_of_string (P := P) W src dst e s hs hd he
  have hex : (execOp a.eval oper).run P W = .ok (.value (.slice (some ⟨W.heap.size, 0, none⟩) s.size (grownCap W s.size 0 e))) (W.drew.alloc (.cells (bytesRow s (grownCap W s.size 0 e)) e ((bytesRow s (grownCap W s.size 0 e)).size, (bytesRow s (grownCap W s.size 0 e)).size + 1))) := by
    simp [execOp, hop, ha.eval hx, hr]
  have h1 := hsat.draw (W.drawn + 1)
  have h2 := h1.lay (.cells (bytesRow s (grownCap W s.size 0 e)) e ((bytesRow s (grownCap W s.size 0 e)).size, (bytesRow s (grownCap W s.size 0 e)).size + 1))
  refine wp_value (noDefer_spec (by rw [hop]; rfl)) hex (hK _ _ _ _ ⟨_, _, rfl, rfl, PMap.le_add (PMap.le_refl _) hsat.stab.pers.fresh, ?_⟩ h2 fun _ => ?_)
  · have e1 : bytesRow s (grownCap W s.size 0 e) = (byteC s ++ List.replicate (grownCap W s.size 0 e - s.size) (Value.int .u8 0)).toArray := by
      apply Array.ext'
      simp [bytesRow, byteC]
    refine ⟨List.replicate (grownCap W s.size 0 e - s.size) (Value.int .u8 0), e, ((bytesRow s (grownCap W s.size 0 e)).size, (bytesRow s (grownCap W s.size 0 e)).size + 1), ?_⟩
    rw [← e1]
    exact PMap.add_at
  · have := Grow.alloc W.drew (.cells (bytesRow s (grownCap W s.size 0 e)) e ((bytesRow s (grownCap W s.size 0 e)).size, (bytesRow s (grownCap W s.size 0 e)).size + 1))
    exact ⟨this.size, this.same⟩
end
end Go.Proofs.YtnabbnhefjfegaaGreatDoor
namespace Go.Proofs.YtnabbnhefjfegaaGreatDoor
section
set_option maxRecDepth 100000
theorem en127 : Enters Tryz.prog 127 := enters_mk Tryz.func127 (by kernel_rfl) rfl
theorem en68 : Enters Tryz.prog 68 := enters_mk Tryz.func68 (by kernel_rfl) rfl
theorem en69 : Enters Tryz.prog 69 := enters_mk Tryz.func69 (by kernel_rfl) rfl
theorem en71 : Enters Tryz.prog 71 := enters_mk Tryz.func71 (by kernel_rfl) rfl
end
open Go.RowKit
theorem letB_ge {b : UInt8} : letB b = true ↔ 97 ≤ b.toNat ∧ b.toNat ≤ 122 := by simp [letB]
theorem digB_ge {b : UInt8} : digB b = true ↔ 48 ≤ b.toNat ∧ b.toNat ≤ 57 := by simp [digB]
theorem tletter_spec {X : PMap} (b : UInt8) : Spec Tryz.prog 68 [.int .u8 (b.toNat : Int)] X fun u _ => u = .bool (letB b) := by
  by_cases h1 : 97 ≤ b.toNat
  · by_cases h2 : b.toNat ≤ 122
    · refine Spec.enter Tryz.func68 rfl Tryz.ntmps68 rfl ?_
      intro w0 hw0
      refine T.seq <| T.region <| SL.as rfl <| SL.nil <| T.seq <| T.region <| SL.mv rfl <| SL.v (op_geqT rfl rfl (by omega)) ?_
      refine SL.mv rfl <| SL.mv rfl <| SL.v (op_leqT rfl rfl (by omega)) ?_
      refine SL.v (op_pickT rfl rfl) <| SL.as rfl <| SL.nil <| T.ret1 rfl (ResIs.tmp rfl) ?_
      rw [letB_ge.2 ⟨h1, h2⟩]
    · refine Spec.enter Tryz.func68 rfl Tryz.ntmps68 rfl ?_
      intro w0 hw0
      refine T.seq <| T.region <| SL.as rfl <| SL.nil <| T.seq <| T.region <| SL.mv rfl <| SL.v (op_geqT rfl rfl (by omega)) ?_
      refine SL.mv rfl <| SL.mv rfl <| SL.v (op_leqF rfl rfl (by omega)) ?_
      refine SL.v (op_pickT rfl rfl) <| SL.as rfl <| SL.nil <| T.ret1 rfl (ResIs.tmp rfl) ?_
      rw [show letB b = false by simp [letB, h2]]
  · refine Spec.enter Tryz.func68 rfl Tryz.ntmps68 rfl ?_
    intro w0 hw0
    refine T.seq <| T.region <| SL.as rfl <| SL.nil <| T.seq <| T.region <| SL.mv rfl <| SL.v (op_geqF rfl rfl (by omega)) ?_
    refine SL.mv rfl <| SL.skip rfl rfl ?_
    refine SL.skip rfl rfl ?_
    refine SL.v (op_pickF rfl rfl) <| SL.as rfl <| SL.nil <| T.ret1 rfl (ResIs.tmp rfl) ?_
    rw [show letB b = false by simp [letB, h1]]
theorem tdigit_spec {X : PMap} (b : UInt8) : Spec Tryz.prog 71 [.int .u8 (b.toNat : Int)] X fun u _ => u = .bool (digB b) := by
  by_cases h1 : 48 ≤ b.toNat
  · by_cases h2 : b.toNat ≤ 57
    · refine Spec.enter Tryz.func71 rfl Tryz.ntmps71 rfl ?_
      intro w0 hw0
      refine T.seq <| T.region <| SL.as rfl <| SL.nil <| T.seq <| T.region <| SL.mv rfl <| SL.v (op_geqT rfl rfl (by omega)) ?_
      refine SL.mv rfl <| SL.mv rfl <| SL.v (op_leqT rfl rfl (by omega)) ?_
      refine SL.v (op_pickT rfl rfl) <| SL.as rfl <| SL.nil <| T.ret1 rfl (ResIs.tmp rfl) ?_
      rw [digB_ge.2 ⟨h1, h2⟩]
    · refine Spec.enter Tryz.func71 rfl Tryz.ntmps71 rfl ?_
      intro w0 hw0
      refine T.seq <| T.region <| SL.as rfl <| SL.nil <| T.seq <| T.region <| SL.mv rfl <| SL.v (op_geqT rfl rfl (by omega)) ?_
      refine SL.mv rfl <| SL.mv rfl <| SL.v (op_leqF rfl rfl (by omega)) ?_
      refine SL.v (op_pickT rfl rfl) <| SL.as rfl <| SL.nil <| T.ret1 rfl (ResIs.tmp rfl) ?_
      rw [show digB b = false by simp [digB, h2]]
  · refine Spec.enter Tryz.func71 rfl Tryz.ntmps71 rfl ?_
    intro w0 hw0
    refine T.seq <| T.region <| SL.as rfl <| SL.nil <| T.seq <| T.region <| SL.mv rfl <| SL.v (op_geqF rfl rfl (by omega)) ?_
    refine SL.mv rfl <| SL.skip rfl rfl ?_
    refine SL.skip rfl rfl ?_
    refine SL.v (op_pickF rfl rfl) <| SL.as rfl <| SL.nil <| T.ret1 rfl (ResIs.tmp rfl) ?_
    rw [show digB b = false by simp [digB, h1]]
theorem innB_or (b : UInt8) : innB b = (letB b || digB b || decide (b.toNat = 95)) := by
  simp only [innB, letB, digB]
  rw [Bool.eq_iff_iff]
  simp only [decide_eq_true_eq, Bool.or_eq_true]
  omega
theorem tinner_spec {X : PMap} (b : UInt8) : Spec Tryz.prog 70 [.int .u8 (b.toNat : Int)] X fun u _ => u = .bool (innB b) := by
  rw [innB_or]
  refine Spec.enter Tryz.func70 rfl Tryz.ntmps70 rfl ?_
  intro w0 hw0
  refine T.seq <| T.region <| SL.as rfl <| SL.nil <| T.seq <| T.region <| SL.mv rfl <| SL.w (op_callF en68 (vs := [_]) rfl (tletter_spec b)) ?_
  rintro _ _ X1 ⟨rfl, hX1, rfl⟩
  cases hl : letB b with
  | true =>
    refine SL.mv rfl <| SL.skip rfl rfl ?_
    refine SL.skip rfl rfl ?_
    refine SL.v (op_pickT rfl rfl) <| SL.mv rfl <| SL.skip rfl rfl ?_
    refine SL.skip rfl rfl ?_
    refine SL.v (op_pickT rfl rfl) <| SL.as rfl <| SL.nil <| T.ret1 rfl (ResIs.tmp rfl) ?_
    rfl
  | false =>
    refine SL.mv rfl <| SL.mv rfl <| SL.w (op_callF en71 (vs := [_]) rfl (tdigit_spec b)) ?_
    rintro _ _ X2 ⟨rfl, hX2, rfl⟩
    cases hd : digB b with
    | true =>
      refine SL.v (op_pickF rfl rfl) <| SL.mv rfl <| SL.skip rfl rfl ?_
      refine SL.skip rfl rfl ?_
      refine SL.v (op_pickT rfl rfl) <| SL.as rfl <| SL.nil <| T.ret1 rfl (ResIs.tmp rfl) ?_
      rfl
    | false =>
      by_cases h : b.toNat = 95
      · skip
        refine SL.v (op_pickF rfl rfl) <| SL.mv rfl <| SL.mv rfl <| SL.v (op_eqlT rfl rfl (by omega)) ?_
        refine SL.v (op_pickF rfl rfl) <| SL.as rfl <| SL.nil <| T.ret1 rfl (ResIs.tmp rfl) ?_
        rw [decide_eq_true h]; rfl
      · refine SL.v (op_pickF rfl rfl) <| SL.mv rfl <| SL.mv rfl <| SL.v (op_eqlF rfl rfl (by omega)) ?_
        refine SL.v (op_pickF rfl rfl) <| SL.as rfl <| SL.nil <| T.ret1 rfl (ResIs.tmp rfl) ?_
        rw [decide_eq_false h]; rfl
theorem tnnl_spec {X : PMap} (b : UInt8) : Spec Tryz.prog 127 [.int .u8 (b.toNat : Int)] X fun u _ => u = .bool (nnl b) := by
  by_cases h : b.toNat = 10
  · refine Spec.enter Tryz.func127 rfl Tryz.ntmps127 rfl ?_
    intro w0 hw0
    refine T.seq <| T.region <| SL.as rfl <| SL.nil <| T.seq <| T.region <| SL.mv rfl <| SL.v (op_neqF rfl rfl (by omega)) ?_
    refine SL.as rfl <| SL.nil <| T.ret1 rfl (ResIs.tmp rfl) ?_
    rw [show nnl b = false by simp [nnl, h]]
  · refine Spec.enter Tryz.func127 rfl Tryz.ntmps127 rfl ?_
    intro w0 hw0
    refine T.seq <| T.region <| SL.as rfl <| SL.nil <| T.seq <| T.region <| SL.mv rfl <| SL.v (op_neqT rfl rfl (by omega)) ?_
    refine SL.as rfl <| SL.nil <| T.ret1 rfl (ResIs.tmp rfl) ?_
    rw [show nnl b = true by simp [nnl, h]]
theorem while_spec {X : PMap} {g : Nat} {f : UInt8 → Bool} {s : ByteArray} {i : Nat} (en : Enters Tryz.prog g) (hg : ∀ {X : PMap} (b : UInt8), Spec Tryz.prog g [.int .u8 (b.toNat : Int)] X fun u _ => u = .bool (f b)) (hi : i ≤ s.size) (hs : s.size < 1000000000) :
    Spec Tryz.prog 69 [.string s, .int .i64 (i : Int), .func (.func g) #[] #[]] X fun u _ => u = .int .i64 (whl s f i : Int) := by
  refine Spec.enter Tryz.func69 rfl Tryz.ntmps69 rfl ?_
  intro w0 hw0
  refine T.seq <| T.region <| SL.v (op_assign (v := .int .i64 ((0 : Nat) : Int)) rfl) <| SL.nil <| T.seq <| T.block <| T.loopW (fun m env own X' => ∃ q : Nat, m = s.size - q ∧ q ≤ s.size ∧ X.le X' ∧ whl s f i = whl s f q ∧ env = [(0, .string s), (1, .int .i64 (q : Int)), (2, .func (.func g) #[] #[])] ∧ own = []) (s.size - i) ⟨i, rfl, hi, PMap.le_refl _, rfl, rfl, rfl⟩ (by repeat (first | exact Sub.nil | refine Sub.cons rfl ?_)) ?_
  rintro m _ _ X1 ⟨q, rfl, hq, hX1, hw, rfl, rfl⟩
  rcases Nat.lt_or_ge q s.size with hql | hql
  · obtain ⟨b, hb⟩ := get_some hql
    refine T.seq <| T.seq <| T.region <| SL.mv rfl <| SL.mv rfl <| SL.v (op_lenStr Tryz.underlying9 rfl) <| SL.v (op_lssT rfl rfl (by omega)) ?_
    refine SL.mv rfl <| SL.mv rfl <| SL.mv rfl <| SL.mv rfl <| SL.v (op_idxStr Tryz.underlying9 rfl rfl rfl hb) <| SL.w (op_call en rfl (vs := [_]) rfl (hg b)) ?_
    rintro _ _ X2 ⟨rfl, hX2, rfl⟩
    cases hf : f b with
    | true =>
      refine SL.v (op_pickT rfl rfl) <| SL.nil <| T.condT rfl <| T.skip <| T.block <| T.region <| SL.mv rfl <| SL.v (op_addN (q := 1) rfl rfl (by omega)) ?_
      refine SL.as rfl <| SL.nil <| T.blk ?_
      exact T.backW (s.size - (q + 1)) (by omega) ⟨q + 1, rfl, by omega, hX1.trans' hX2, by rw [hw, whl_go hb hf], rfl, rfl⟩ (by repeat (first | exact Sub.nil | refine Sub.cons rfl ?_))
    | false =>
      refine SL.v (op_pickT rfl rfl) <| SL.nil <| T.condF rfl ?_
      refine T.exit (T.exitCode (T.exitCut (T.exitBlk ?_)))
      refine T.seq <| T.region <| SL.mv rfl <| SL.as rfl <| SL.nil <| T.ret1 rfl (ResIs.tmp rfl) ?_
      rw [hw, whl_stop hb hf]
  · refine T.seq <| T.seq <| T.region <| SL.mv rfl <| SL.mv rfl <| SL.v (op_lenStr Tryz.underlying9 rfl) <| SL.v (op_lssF rfl rfl (by omega)) ?_
    refine SL.mv rfl <| SL.skip rfl rfl ?_
    refine SL.skip rfl rfl ?_
    refine SL.skip rfl rfl ?_
    refine SL.skip rfl rfl ?_
    refine SL.skip rfl rfl ?_
    refine SL.v (op_pickF rfl rfl) <| SL.nil <| T.condF rfl ?_
    refine T.exit (T.exitCode (T.exitCut (T.exitBlk ?_)))
    refine T.seq <| T.region <| SL.mv rfl <| SL.as rfl <| SL.nil <| T.ret1 rfl (ResIs.tmp rfl) ?_
    rw [hw, whl_end hql]
theorem skip_spec {X : PMap} {s : ByteArray} {i : Nat} (hi : i ≤ s.size) (hs : s.size < 1000000000) : Spec Tryz.prog 67 [.string s, .int .i64 (i : Int)] X fun u _ => u = .int .i64 (skp s i : Int) := by
  refine Spec.enter Tryz.func67 rfl Tryz.ntmps67 rfl ?_
  intro w0 hw0
  refine T.seq <| T.region <| SL.v (op_assign (v := .int .i64 ((0 : Nat) : Int)) rfl) <| SL.nil <| T.seq <| T.block <| T.loopW (fun m env own X' => ∃ q : Nat, m = s.size - q ∧ q ≤ s.size ∧ X.le X' ∧ skp s i = skp s q ∧ env = [(0, .string s), (1, .int .i64 (q : Int))] ∧ own = []) (s.size - i) ⟨i, rfl, hi, PMap.le_refl _, rfl, rfl, rfl⟩ (by repeat (first | exact Sub.nil | refine Sub.cons rfl ?_)) ?_
  rintro m _ _ X1 ⟨q, rfl, hq, hX1, hw, rfl, rfl⟩
  rcases Nat.lt_or_ge q s.size with hql | hql
  · obtain ⟨b, hb⟩ := get_some hql
    by_cases hbl : blkB b = true
    · have hb4 : b.toNat = 32 ∨ b.toNat = 9 ∨ b.toNat = 10 ∨ b.toNat = 13 := by simpa [blkB] using hbl
      have hn : skp s i = skp s (q + 1) := by rw [hw, skp_blank hb hbl]
      rcases hb4 with h | h | h | h
      · skip
        refine T.seq <| T.seq <| T.region <| SL.mv rfl <| SL.mv rfl <| SL.v (op_lenStr Tryz.underlying9 rfl) <| SL.v (op_lssT rfl rfl (by omega)) ?_
        refine SL.nil <| T.condT rfl <| T.skip <| T.block <| T.block <| T.seq <| T.region <| SL.mv rfl <| SL.mv rfl <| SL.v (op_idxStr Tryz.underlying9 rfl rfl rfl (by assumption)) ?_
        refine SL.v (op_eqlT rfl rfl (by omega)) ?_
        refine SL.mv rfl <| SL.skip rfl rfl ?_
        refine SL.skip rfl rfl ?_
        refine SL.skip rfl rfl ?_
        refine SL.skip rfl rfl ?_
        refine SL.v (op_pickT rfl rfl) <| SL.mv rfl <| SL.skip rfl rfl ?_
        refine SL.skip rfl rfl ?_
        refine SL.skip rfl rfl ?_
        refine SL.skip rfl rfl ?_
        refine SL.v (op_pickT rfl rfl) <| SL.mv rfl <| SL.skip rfl rfl ?_
        refine SL.skip rfl rfl ?_
        refine SL.skip rfl rfl ?_
        refine SL.skip rfl rfl ?_
        refine SL.v (op_pickT rfl rfl) <| SL.as rfl <| SL.nil <| T.condT rfl <| T.region <| SL.mv rfl <| SL.v (op_addN (q := 1) rfl rfl (by omega)) ?_
        refine SL.as rfl <| SL.nil <| T.blk <| T.blk ?_
        exact T.backW (s.size - (q + 1)) (by omega) ⟨q + 1, rfl, by omega, hX1, hn, rfl, rfl⟩ (by repeat (first | exact Sub.nil | refine Sub.cons rfl ?_))
      · skip
        refine T.seq <| T.seq <| T.region <| SL.mv rfl <| SL.mv rfl <| SL.v (op_lenStr Tryz.underlying9 rfl) <| SL.v (op_lssT rfl rfl (by omega)) ?_
        refine SL.nil <| T.condT rfl <| T.skip <| T.block <| T.block <| T.seq <| T.region <| SL.mv rfl <| SL.mv rfl <| SL.v (op_idxStr Tryz.underlying9 rfl rfl rfl (by assumption)) ?_
        refine SL.v (op_eqlF rfl rfl (by omega)) ?_
        refine SL.mv rfl <| SL.mv rfl <| SL.mv rfl <| SL.v (op_idxStr Tryz.underlying9 rfl rfl rfl (by assumption)) ?_
        refine SL.v (op_eqlT rfl rfl (by omega)) ?_
        refine SL.v (op_pickF rfl rfl) <| SL.mv rfl <| SL.skip rfl rfl ?_
        refine SL.skip rfl rfl ?_
        refine SL.skip rfl rfl ?_
        refine SL.skip rfl rfl ?_
        refine SL.v (op_pickT rfl rfl) <| SL.mv rfl <| SL.skip rfl rfl ?_
        refine SL.skip rfl rfl ?_
        refine SL.skip rfl rfl ?_
        refine SL.skip rfl rfl ?_
        refine SL.v (op_pickT rfl rfl) <| SL.as rfl <| SL.nil <| T.condT rfl <| T.region <| SL.mv rfl <| SL.v (op_addN (q := 1) rfl rfl (by omega)) ?_
        refine SL.as rfl <| SL.nil <| T.blk <| T.blk ?_
        exact T.backW (s.size - (q + 1)) (by omega) ⟨q + 1, rfl, by omega, hX1, hn, rfl, rfl⟩ (by repeat (first | exact Sub.nil | refine Sub.cons rfl ?_))
      · skip
        refine T.seq <| T.seq <| T.region <| SL.mv rfl <| SL.mv rfl <| SL.v (op_lenStr Tryz.underlying9 rfl) <| SL.v (op_lssT rfl rfl (by omega)) ?_
        refine SL.nil <| T.condT rfl <| T.skip <| T.block <| T.block <| T.seq <| T.region <| SL.mv rfl <| SL.mv rfl <| SL.v (op_idxStr Tryz.underlying9 rfl rfl rfl (by assumption)) ?_
        refine SL.v (op_eqlF rfl rfl (by omega)) ?_
        refine SL.mv rfl <| SL.mv rfl <| SL.mv rfl <| SL.v (op_idxStr Tryz.underlying9 rfl rfl rfl (by assumption)) ?_
        refine SL.v (op_eqlF rfl rfl (by omega)) ?_
        refine SL.v (op_pickF rfl rfl) <| SL.mv rfl <| SL.mv rfl <| SL.mv rfl <| SL.v (op_idxStr Tryz.underlying9 rfl rfl rfl (by assumption)) ?_
        refine SL.v (op_eqlT rfl rfl (by omega)) ?_
        refine SL.v (op_pickF rfl rfl) <| SL.mv rfl <| SL.skip rfl rfl ?_
        refine SL.skip rfl rfl ?_
        refine SL.skip rfl rfl ?_
        refine SL.skip rfl rfl ?_
        refine SL.v (op_pickT rfl rfl) <| SL.as rfl <| SL.nil <| T.condT rfl <| T.region <| SL.mv rfl <| SL.v (op_addN (q := 1) rfl rfl (by omega)) ?_
        refine SL.as rfl <| SL.nil <| T.blk <| T.blk ?_
        exact T.backW (s.size - (q + 1)) (by omega) ⟨q + 1, rfl, by omega, hX1, hn, rfl, rfl⟩ (by repeat (first | exact Sub.nil | refine Sub.cons rfl ?_))
      · skip
        refine T.seq <| T.seq <| T.region <| SL.mv rfl <| SL.mv rfl <| SL.v (op_lenStr Tryz.underlying9 rfl) <| SL.v (op_lssT rfl rfl (by omega)) ?_
        refine SL.nil <| T.condT rfl <| T.skip <| T.block <| T.block <| T.seq <| T.region <| SL.mv rfl <| SL.mv rfl <| SL.v (op_idxStr Tryz.underlying9 rfl rfl rfl (by assumption)) ?_
        refine SL.v (op_eqlF rfl rfl (by omega)) ?_
        refine SL.mv rfl <| SL.mv rfl <| SL.mv rfl <| SL.v (op_idxStr Tryz.underlying9 rfl rfl rfl (by assumption)) ?_
        refine SL.v (op_eqlF rfl rfl (by omega)) ?_
        refine SL.v (op_pickF rfl rfl) <| SL.mv rfl <| SL.mv rfl <| SL.mv rfl <| SL.v (op_idxStr Tryz.underlying9 rfl rfl rfl (by assumption)) ?_
        refine SL.v (op_eqlF rfl rfl (by omega)) ?_
        refine SL.v (op_pickF rfl rfl) <| SL.mv rfl <| SL.mv rfl <| SL.mv rfl <| SL.v (op_idxStr Tryz.underlying9 rfl rfl rfl (by assumption)) ?_
        refine SL.v (op_eqlT rfl rfl (by omega)) ?_
        refine SL.v (op_pickF rfl rfl) <| SL.as rfl <| SL.nil <| T.condT rfl <| T.region <| SL.mv rfl <| SL.v (op_addN (q := 1) rfl rfl (by omega)) ?_
        refine SL.as rfl <| SL.nil <| T.blk <| T.blk ?_
        exact T.backW (s.size - (q + 1)) (by omega) ⟨q + 1, rfl, by omega, hX1, hn, rfl, rfl⟩ (by repeat (first | exact Sub.nil | refine Sub.cons rfl ?_))
    · have hb4 : b.toNat ≠ 32 ∧ b.toNat ≠ 9 ∧ b.toNat ≠ 10 ∧ b.toNat ≠ 13 := by simpa [blkB] using hbl
      obtain ⟨g1, g2, g3, g4⟩ := hb4
      by_cases h35 : b.toNat = 35
      · have hnn : nnl b = true := by simp [nnl, h35]
        have hlt : q + 1 ≤ whl s nnl q := by rw [whl_go hb hnn]; exact whl_ge
        have hle : whl s nnl q ≤ s.size := whl_le hq
        refine T.seq <| T.seq <| T.region <| SL.mv rfl <| SL.mv rfl <| SL.v (op_lenStr Tryz.underlying9 rfl) <| SL.v (op_lssT rfl rfl (by omega)) ?_
        refine SL.nil <| T.condT rfl <| T.skip <| T.block <| T.block <| T.seq <| T.region <| SL.mv rfl <| SL.mv rfl <| SL.v (op_idxStr Tryz.underlying9 rfl rfl rfl (by assumption)) ?_
        refine SL.v (op_eqlF rfl rfl (by omega)) ?_
        refine SL.mv rfl <| SL.mv rfl <| SL.mv rfl <| SL.v (op_idxStr Tryz.underlying9 rfl rfl rfl (by assumption)) ?_
        refine SL.v (op_eqlF rfl rfl (by omega)) ?_
        refine SL.v (op_pickF rfl rfl) <| SL.mv rfl <| SL.mv rfl <| SL.mv rfl <| SL.v (op_idxStr Tryz.underlying9 rfl rfl rfl (by assumption)) ?_
        refine SL.v (op_eqlF rfl rfl (by omega)) ?_
        refine SL.v (op_pickF rfl rfl) <| SL.mv rfl <| SL.mv rfl <| SL.mv rfl <| SL.v (op_idxStr Tryz.underlying9 rfl rfl rfl (by assumption)) ?_
        refine SL.v (op_eqlF rfl rfl (by omega)) ?_
        refine SL.v (op_pickF rfl rfl) <| SL.as rfl <| SL.nil <| T.condF rfl <| T.seq <| T.region <| SL.mv rfl <| SL.mv rfl <| SL.v (op_idxStr Tryz.underlying9 rfl rfl rfl (by assumption)) ?_
        refine SL.v (op_eqlT rfl rfl (by omega)) ?_
        refine SL.as rfl <| SL.nil <| T.condT rfl <| T.region <| SL.mv rfl <| SL.mv rfl <| SL.w (op_callF en69 (vs := [_, _, _]) rfl (while_spec en127 tnnl_spec hq hs)) ?_
        rintro _ _ X2 ⟨rfl, hX2, rfl⟩
        refine SL.as rfl <| SL.nil <| T.blk <| T.blk ?_
        exact T.backW (s.size - whl s nnl q) (by omega) ⟨whl s nnl q, rfl, hle, hX1.trans' hX2, by rw [hw, skp_hash hb h35], rfl, rfl⟩ (by repeat (first | exact Sub.nil | refine Sub.cons rfl ?_))
      · skip
        refine T.seq <| T.seq <| T.region <| SL.mv rfl <| SL.mv rfl <| SL.v (op_lenStr Tryz.underlying9 rfl) <| SL.v (op_lssT rfl rfl (by omega)) ?_
        refine SL.nil <| T.condT rfl <| T.skip <| T.block <| T.block <| T.seq <| T.region <| SL.mv rfl <| SL.mv rfl <| SL.v (op_idxStr Tryz.underlying9 rfl rfl rfl (by assumption)) ?_
        refine SL.v (op_eqlF rfl rfl (by omega)) ?_
        refine SL.mv rfl <| SL.mv rfl <| SL.mv rfl <| SL.v (op_idxStr Tryz.underlying9 rfl rfl rfl (by assumption)) ?_
        refine SL.v (op_eqlF rfl rfl (by omega)) ?_
        refine SL.v (op_pickF rfl rfl) <| SL.mv rfl <| SL.mv rfl <| SL.mv rfl <| SL.v (op_idxStr Tryz.underlying9 rfl rfl rfl (by assumption)) ?_
        refine SL.v (op_eqlF rfl rfl (by omega)) ?_
        refine SL.v (op_pickF rfl rfl) <| SL.mv rfl <| SL.mv rfl <| SL.mv rfl <| SL.v (op_idxStr Tryz.underlying9 rfl rfl rfl (by assumption)) ?_
        refine SL.v (op_eqlF rfl rfl (by omega)) ?_
        refine SL.v (op_pickF rfl rfl) <| SL.as rfl <| SL.nil <| T.condF rfl <| T.seq <| T.region <| SL.mv rfl <| SL.mv rfl <| SL.v (op_idxStr Tryz.underlying9 rfl rfl rfl (by assumption)) ?_
        refine SL.v (op_eqlF rfl rfl (by omega)) ?_
        refine SL.as rfl <| SL.nil <| T.condF rfl <| T.seq <| T.region <| SL.mv rfl <| SL.as rfl <| SL.nil <| T.ret1 rfl (ResIs.tmp rfl) ?_
        rw [hw, skp_stop hq hb (by simpa using hbl) h35]
  · refine T.seq <| T.seq <| T.region <| SL.mv rfl <| SL.mv rfl <| SL.v (op_lenStr Tryz.underlying9 rfl) <| SL.v (op_lssF rfl rfl (by omega)) ?_
    refine SL.nil <| T.condF rfl ?_
    refine T.exit (T.exitCode (T.exitCut (T.exitBlk ?_)))
    refine T.seq <| T.region <| SL.mv rfl <| SL.as rfl <| SL.nil <| T.ret1 rfl (ResIs.tmp rfl) ?_
    rw [hw, skp_end hql]
    obtain rfl : q = s.size := by omega
    rfl
end Go.Proofs.YtnabbnhefjfegaaGreatDoor
namespace Go.Proofs.YtnabbnhefjfegaaGreatDoor
open Go.RowKit
theorem skip_idem : ∀ (c : Bool) (l : List UInt8), skipL false (skipL c l) = skipL c l
  | _, [] => by simp [skipL]
  | true, b :: l => by
    rw [skipL]
    split
    · exact skip_idem false l
    · exact skip_idem true l
  | false, b :: l => by
    rw [skipL]
    by_cases h1 : blkB b = true
    · rw [if_pos h1]; exact skip_idem false l
    · rw [if_neg h1]
      by_cases h2 : b.toNat = 35
      · rw [if_pos h2]; exact skip_idem true l
      · rw [if_neg h2, skipL, if_neg h1, if_neg h2]
def symF (s : ByteArray) (i : Nat) : Option (List UInt8) := symsL.find? fun x => x.isPrefixOf ((bl s).drop i)
theorem tok1_at {s : ByteArray} {p : Nat} {b : UInt8} (h : s[p]? = some b) : tok1 ((bl s).drop p) = if letB b then some (1, ((bl s).drop p).takeWhile innB, 0) else if digB b then (numT ((bl s).drop p)).map fun d => (2, d, valL d) else (symF s p).map fun x => (3, x, 0) := by
  rw [symF, drop_cons' h, tok1]
theorem tok1_len {l : List UInt8} {k n : Nat} {t : List UInt8} (h : tok1 l = some (k, t, n)) : t.length ≤ l.length := by
  cases l with
  | nil => cases h
  | cons b l =>
    rw [tok1] at h
    split at h
    · simp only [Option.some.injEq, Prod.mk.injEq] at h
      rw [← h.2.1]; exact tw_len _
    · split at h
      · unfold numT at h
        split at h
        · cases h
        · simp only [Option.map_some, Option.some.injEq, Prod.mk.injEq] at h
          rw [← h.2.1]; exact tw_len _
      · cases hf : symsL.find? fun s => s.isPrefixOf (b :: l) with
        | none => rw [hf] at h; cases h
        | some s =>
          rw [hf] at h
          simp only [Option.map_some, Option.some.injEq, Prod.mk.injEq] at h
          rw [← h.2.1]
          exact (List.isPrefixOf_iff_prefix.1 (List.find?_some (p := fun s : List UInt8 => s.isPrefixOf (b :: l)) hf)).length_le
theorem scan_at {s : ByteArray} {p : Nat} (hp : p < s.size) (hsk : skipL false ((bl s).drop p) = (bl s).drop p) :
    scanL s.size ((bl s).drop p) = match tok1 ((bl s).drop p) with | none => .error p | some (k, t, n) => consR ⟨k, ⟨t.toArray⟩, n, p⟩ (scanL s.size ((bl s).drop (skp s (p + t.length)))) := by
  obtain ⟨b, hb⟩ := get_some hp
  have hl : ((bl s).drop p).length = s.size - p := by rw [List.length_drop, bl_size]
  rw [scan_eq, hsk, drop_cons' hb] 
  rw [drop_cons' hb] at hl
  simp only [hl, show s.size - (s.size - p) = p by omega]
  cases ht : tok1 (b :: (bl s).drop (p + 1)) with
  | none => rfl
  | some x =>
    obtain ⟨k, t, n⟩ := x
    simp only
    congr 1
    rw [← drop_cons' hb, List.drop_drop]
    exact scan_skip (by rw [skp_drop, skip_idem])
theorem scan_none {s : ByteArray} {p : Nat} (hp : s.size ≤ p) : scanL s.size ((bl s).drop p) = .ok [⟨0, ⟨#[]⟩, 0, s.size⟩] := by rw [drop_none hp, scan_end]
theorem skp_ge {s : ByteArray} {i : Nat} (h : i ≤ s.size) : i ≤ skp s i := by
  have := skip_len false ((bl s).drop i)
  rw [List.length_drop, bl_size] at this
  rw [skp]; omega
theorem skp_skip {s : ByteArray} {i : Nat} : skipL false ((bl s).drop (skp s i)) = (bl s).drop (skp s i) := by rw [skp_drop, skip_idem]
theorem scan_skp {s : ByteArray} {i : Nat} : scanL s.size ((bl s).drop i) = scanL s.size ((bl s).drop (skp s i)) := scan_skip (by rw [skp_drop, skip_idem])
end Go.Proofs.YtnabbnhefjfegaaGreatDoor
namespace Go.Proofs.YtnabbnhefjfegaaGreatDoor
section
set_option maxRecDepth 100000
theorem en131 : Enters Tryz.prog 131 := enters_mk Tryz.func131 (by kernel_rfl) rfl
theorem en76 : Enters Tryz.prog 76 := enters_mk Tryz.func76 (by kernel_rfl) rfl
theorem z70 : Zero Tryz.prog 70 [.int .u8 0, .string ⟨#[]⟩, .int .i64 0, .int .i64 0] := ⟨zero_of (by kernel_rfl)⟩
theorem st70 : StT Tryz.prog 70 [(0, 1), (1, 1), (2, 1), (3, 1)] [.int .u8 0, .string ⟨#[]⟩, .int .i64 0, .int .i64 0] := ⟨⟨_, Tryz.underlying70, fun _ => by kernel_rfl, z70⟩⟩
theorem ty70 : Ty Tryz.prog 70 true 4 := ⟨⟨_, Tryz.underlying70, rfl⟩, by kernel_rfl⟩
end
open Go.RowKit
section
variable {P : Program} {n : NM} {own : Own} {X : PMap} {env : Env} {t t' : TypeId} {x y : Operand}
theorem op_sub8 {p q : Nat} (hx : eev env x = some (.int .u8 (p : Int))) (hy : eev env y = some (.int .u8 (q : Int))) (h : q ≤ p) (h' : p < 256) : OpY P n env own X (.binOp .sub t x y t') (.int .u8 ((p - q : Nat) : Int)) := by
  have := op_subW (P := P) (n := n) (own := own) (X := X) (t := t) (t' := t') hx hy
  rwa [show (p : Int) - (q : Int) = ((p - q : Nat) : Int) by omega, wrap_u8 (by omega) (by omega)] at this
end
theorem pre_iff {s t : ByteArray} : (bl t).isPrefixOf (bl s) = true ↔ s.extract 0 t.size = t := by
  rw [List.isPrefixOf_iff_prefix, List.prefix_iff_eq_take]
  have e : bl (s.extract 0 t.size) = (bl s).take (bl t).length := by rw [ext_bl, List.drop_zero, Nat.sub_zero, bl_size]
  rw [← e]
  exact ⟨fun h => (bl_inj h).symm, fun h => by rw [h]⟩
theorem hasPre_spec {X : PMap} {s t : ByteArray} : Spec Tryz.prog 131 [.string s, .string t] X fun u _ => u = .bool ((bl t).isPrefixOf (bl s)) := by
  by_cases h : t.size ≤ s.size
  · refine Spec.enter Tryz.func131 rfl Tryz.ntmps131 rfl ?_
    intro w0 hw0
    refine T.seq <| T.region <| SL.as rfl <| SL.nil <| T.seq <| T.region <| SL.mv rfl <| SL.v (op_lenStr Tryz.underlying9 rfl) <| SL.mv rfl <| SL.v (op_lenStr Tryz.underlying9 rfl) <| SL.v (op_geqT rfl rfl (by omega)) ?_
    refine SL.mv rfl <| SL.mv rfl <| SL.mv rfl <| SL.v (op_lenStr Tryz.underlying9 rfl) <| SL.v (op_sliceStrHi Tryz.underlying9 rfl rfl h) <| SL.mv rfl <| SL.v (op_eqlStrD (s := s.extract 0 t.size) (s' := t) rfl rfl) ?_
    rw [show decide (s.extract 0 t.size = t) = (bl t).isPrefixOf (bl s) by rw [Bool.eq_iff_iff, decide_eq_true_eq]; exact pre_iff.symm]
    refine SL.v (op_pickT rfl rfl) <| SL.as rfl <| SL.nil <| T.ret1 rfl (ResIs.tmp rfl) ?_
    rfl
  · have hn : (bl t).isPrefixOf (bl s) = false := by
      cases hq : (bl t).isPrefixOf (bl s) with
      | false => rfl
      | true =>
        have := (List.isPrefixOf_iff_prefix.1 hq).length_le
        rw [bl_size, bl_size] at this; omega
    refine Spec.enter Tryz.func131 rfl Tryz.ntmps131 rfl ?_
    intro w0 hw0
    refine T.seq <| T.region <| SL.as rfl <| SL.nil <| T.seq <| T.region <| SL.mv rfl <| SL.v (op_lenStr Tryz.underlying9 rfl) <| SL.mv rfl <| SL.v (op_lenStr Tryz.underlying9 rfl) <| SL.v (op_geqF rfl rfl (by omega)) ?_
    refine SL.mv rfl <| SL.skip rfl rfl ?_
    refine SL.skip rfl rfl ?_
    refine SL.skip rfl rfl ?_
    refine SL.skip rfl rfl ?_
    refine SL.skip rfl rfl ?_
    refine SL.skip rfl rfl ?_
    refine SL.v (op_pickF rfl rfl) <| SL.as rfl <| SL.nil <| T.ret1 rfl (ResIs.tmp rfl) ?_
    rw [hn]
theorem hasPrefix_spec {X : PMap} {s t : ByteArray} : Spec Tryz.prog 76 [.string s, .string t] X fun u _ => u = .bool ((bl t).isPrefixOf (bl s)) := by
  refine Spec.enter Tryz.func76 rfl Tryz.ntmps76 rfl ?_
  intro w0 hw0
  refine T.seq <| T.region <| SL.as rfl <| SL.nil <| T.seq <| T.region <| SL.mv rfl <| SL.mv rfl <| SL.w (op_callF en131 (vs := [_, _]) rfl (hasPre_spec)) ?_
  rintro _ _ X1 ⟨rfl, hX1, rfl⟩
  refine SL.as rfl <| SL.nil <| T.ret1 rfl (ResIs.tmp rfl) ?_
  rfl
theorem ext_lo {s : ByteArray} {i : Nat} : bl (s.extract i s.size) = (bl s).drop i := by
  rw [ext_bl, List.take_of_length_le (by rw [List.length_drop, bl_size]; exact Nat.le_refl _)]
def syms13 : List ByteArray := symsL.map fun l => ⟨l.toArray⟩
theorem syms_at {q : Nat} {x : ByteArray} (h : syms13[q]? = some x) : symsL[q]? = some (bl x) := by
  unfold syms13 at h
  rw [List.getElem?_map] at h
  obtain ⟨l, hl, rfl⟩ := Option.map_eq_some_iff.1 h
  rw [hl]
theorem find_step {f : List UInt8 → Bool} {l : List (List UInt8)} {q : Nat} {x : List UInt8} (h : (l.take q).find? f = none) (hx : l[q]? = some x) : (f x = true → l.find? f = some x) ∧ (f x = false → (l.take (q + 1)).find? f = none) := by
  constructor
  · intro hf
    have hl : l = l.take q ++ x :: l.drop (q + 1) := by
      obtain ⟨h1, h2⟩ := List.getElem?_eq_some_iff.1 hx
      rw [← h2, ← List.drop_eq_getElem_cons h1, List.take_append_drop]
    rw [hl, List.find?_append, h, List.find?_cons_of_pos hf]; rfl
  · intro hf
    rw [List.take_add_one, hx, List.find?_append, h]
    simp [hf]
def tkV (k : Nat) (t : ByteArray) (n o : Nat) : Value := .agg #[.int .u8 (k : Int), .string t, .int .i64 (n : Int), .int .i64 (o : Int)]
theorem symbol_spec {X : PMap} {s : ByteArray} {i : Nat} (hi : i ≤ s.size) : Spec Tryz.prog 73 [.string s, .int .i64 (i : Int)] X fun u _ => u = match symF s i with | some x => .tuple #[tkV 3 ⟨x.toArray⟩ 0 i, .bool true] | none => .tuple #[tkV 0 ⟨#[]⟩ 0 0, .bool false] := by
  refine Spec.enter Tryz.func73 rfl Tryz.ntmps73 rfl ?_
  intro w0 hw0
  refine T.seq <| T.region <| SL.w (op_alloc z70) ?_
  rintro _ _ _ ⟨B4, rfl, rfl, rfl⟩
  refine SL.as rfl <| SL.nil <| T.seq <| T.seq <| T.region <| SL.w (op_buildSlice Tryz.underlying37 bs9 (qs := [(0, _), (1, _), (2, _), (3, _), (4, _), (5, _), (6, _), (7, _), (8, _), (9, _), (10, _), (11, _), (12, _)]) rfl rfl rfl rfl rfl) ?_
  rintro _ _ _ ⟨B8, rfl, rfl, rfl⟩
  refine SL.v (op_lenS Tryz.underlying37 rfl) <| SL.v (op_move (v := .int .i64 ((0 : Nat) : Int)) rfl) <| SL.nil <| T.block <| T.pub B8 (by repeat constructor) ?_
  intro X1 hX1 hB8 _
  refine T.loopW (fun m env own X' => ∃ q : Nat, m = syms13.length - q ∧ q ≤ syms13.length ∧ X1.le X' ∧ ((symsL.take q).find? fun x => x.isPrefixOf ((bl s).drop i)) = none ∧ env = [(0, .string s), (1, .int .i64 (i : Int)), (4, .pointer (some ⟨B4, 0, none⟩)), (5, .bool false), (8, .slice (some ⟨B8, 0, none⟩) syms13.length 13), (9, .int .i64 (syms13.length : Int)), (10, .int .i64 (q : Int))] ∧ own = [⟨B4, [.int .u8 0, .string ⟨#[]⟩, .int .i64 0, .int .i64 0], 70, 4⟩]) syms13.length ⟨0, rfl, by omega, PMap.le_refl _, rfl, rfl, rfl⟩ (by repeat (first | exact Sub.nil | refine Sub.cons rfl ?_)) ?_
  rintro m _ _ X2 ⟨q, rfl, hq, hX2, hf, rfl, rfl⟩
  have h13 : syms13.length = 13 := rfl
  rcases Nat.lt_or_ge q syms13.length with hql | hql
  · obtain ⟨x, hx⟩ : ∃ x, syms13[q]? = some x := ⟨_, List.getElem?_eq_getElem hql⟩
    obtain ⟨hstep1, hstep2⟩ := find_step hf (syms_at hx)
    have hbA : Blk X1 B8 ([] ++ (syms13.map strC).flatten) := hB8
    refine T.seq <| T.region <| SL.v (op_lssT rfl rfl (by omega)) ?_
    refine SL.nil <| T.seq <| T.condT rfl <| T.skip <| T.seq <| T.block <| T.seq <| T.region <| SL.v (op_indexN Tryz.underlying37 ty9 rfl rfl (by omega)) ?_
    refine SL.v (op_loadX ty9 rfl (hbA.mono hX2) (str_read hx (by simp))) ?_
    refine SL.as rfl <| SL.nil <| T.seq <| T.region <| SL.mv rfl <| SL.mv rfl <| SL.v (op_sliceStrLo Tryz.underlying9 rfl rfl hi) <| SL.mv rfl <| SL.w (op_callF en76 (vs := [_, _]) rfl (hasPrefix_spec)) ?_
    rintro _ _ X3 ⟨rfl, hX3, rfl⟩
    rw [ext_lo]
    cases hp : (bl x).isPrefixOf ((bl s).drop i) with
    | true =>
      refine SL.nil <| T.condT rfl <| T.seq <| T.region <| SL.mv rfl <| SL.mv rfl <| SL.v (op_build st70 (qs := [(0, _), (1, _), (2, _), (3, _)]) rfl rfl) <| SL.w (op_store ty70 rfl rfl (by repeat constructor) rfl rfl rfl) ?_
      rintro _ _ _ ⟨rfl, rfl⟩
      refine SL.as rfl <| SL.nil <| T.ret2 rfl (ResIs.cell rfl ty70 (by repeat constructor) rfl) (ResIs.tmp rfl) ?_
      rw [symF, hstep1 hp]
      simp only [bl_mk]
      rfl
    | false =>
      refine SL.nil <| T.condF rfl <| T.skip <| T.blk <| T.region <| SL.v (op_addN (q := 1) rfl rfl (by omega)) ?_
      refine SL.mv rfl <| SL.nil ?_
      exact T.backW (syms13.length - (q + 1)) (by omega) ⟨q + 1, rfl, by omega, hX2.trans' hX3, hstep2 hp, rfl, rfl⟩ (by repeat (first | exact Sub.nil | refine Sub.cons rfl ?_))
  · refine T.seq <| T.region <| SL.v (op_lssF rfl rfl (by omega)) ?_
    refine SL.nil <| T.seq <| T.condF rfl ?_
    refine T.exit (T.exitCode (T.exitCut (T.exitBlk ?_)))
    refine T.seq <| T.region <| SL.v (op_build st70 (qs := []) rfl rfl) <| SL.w (op_store ty70 rfl rfl (by repeat constructor) rfl rfl rfl) ?_
    rintro _ _ _ ⟨rfl, rfl⟩
    refine SL.as rfl <| SL.nil <| T.ret2 rfl (ResIs.cell rfl ty70 (by repeat constructor) rfl) (ResIs.tmp rfl) ?_
    rw [List.take_of_length_le (by simpa [syms13] using hql)] at hf
    rw [symF, hf]
    rfl
theorem tw_mem {f : UInt8 → Bool} {b : UInt8} : ∀ {l : List UInt8}, b ∈ l.takeWhile f → f b = true
  | [], h => by cases h
  | c :: l, h => by
    rw [List.takeWhile_cons] at h
    split at h
    · rcases List.mem_cons.1 h with rfl | h
      · assumption
      · exact tw_mem h
    · cases h
theorem valL_lt : ∀ (k : Nat) (l : List UInt8), l.length = k → (∀ b ∈ l, digB b = true) → valL l < 10 ^ k
  | 0, l, h, _ => by rw [List.eq_nil_of_length_eq_zero h]; decide
  | k + 1, l, h, hd => by
    have hne : l ≠ [] := fun e => by rw [e] at h; cases h
    have hl : l = l.dropLast ++ [l.getLast hne] := (List.dropLast_concat_getLast hne).symm
    have ih := valL_lt k l.dropLast (by rw [List.length_dropLast, h]; rfl) fun b hb => hd b (List.dropLast_subset l hb)
    have hc := digB_ge.1 (hd _ (List.getLast_mem hne))
    rw [hl, valL_snoc, Nat.pow_succ]
    omega
theorem glued_at {s : ByteArray} {e : Nat} {b : UInt8} (h : s[e]? = some b) : glued ((bl s).drop e) = (letB b || b.toNat == 95) := by rw [drop_cons' h]; rfl
theorem glued_end {s : ByteArray} {e : Nat} (h : s.size ≤ e) : glued ((bl s).drop e) = false := by rw [drop_none h]; rfl
theorem head_at {s : ByteArray} {i : Nat} {b : UInt8} (h : s[i]? = some b) : ((bl s).drop i).head? = some b := by rw [drop_cons' h]; rfl
theorem whl_len {s : ByteArray} {f : UInt8 → Bool} {i : Nat} : whl s f i - i = (((bl s).drop i).takeWhile f).length := by rw [whl]; omega
theorem number_spec17 {X : PMap} {s : ByteArray} {i : Nat} {b0 : UInt8} (hb0 : s[i]? = some b0) (hi : i < s.size) (hs : s.size < 1000000000) : Spec Tryz.prog 72 [.string s, .int .i64 (i : Int)] X fun u _ => u = match numT ((bl s).drop i) with | some d => .tuple #[tkV 2 ⟨d.toArray⟩ (valL d) i, .bool true] | none => .tuple #[tkV 0 ⟨#[]⟩ 0 0, .bool false] := by
  have hle : whl s digB i ≤ s.size := whl_le (by omega)
  have hge : i ≤ whl s digB i := whl_ge
  have hlen := whl_len (s := s) (f := digB) (i := i)
  have hdr := whl_drop (s := s) (f := digB) (i := i)
  have htx := whl_text (s := s) (f := digB) (i := i)
  have hdig : ∀ b ∈ ((bl s).drop i).takeWhile digB, digB b = true := fun b => tw_mem
  have hhd := head_at hb0
  generalize he : whl s digB i = e at *
  generalize hd : ((bl s).drop i).takeWhile digB = d at *
  have hnum : ∀ x, numT ((bl s).drop i) = x ↔ (if 6 < d.length ∨ (1 < d.length ∧ some b0 = some 48) ∨ glued ((bl s).drop e) = true then none else some d) = x := fun x => by
    rw [numT, hd, hhd, hdr]
  refine Spec.enter Tryz.func72 rfl Tryz.ntmps72 rfl ?_
  intro w0 hw0
  refine T.seq <| T.region <| SL.w (op_alloc z70) ?_
  rintro _ _ _ ⟨B4, rfl, rfl, rfl⟩
  refine SL.as rfl <| SL.nil <| T.seq <| T.region <| SL.mv rfl <| SL.mv rfl <| SL.w (op_callF en69 (vs := [_, _, _]) rfl (while_spec en71 tdigit_spec (by omega) hs)) ?_
  rintro _ _ X1 ⟨rfl, hX1, rfl⟩
  rw [he]
  refine SL.as rfl <| SL.nil <| T.seq <| T.meet (fun _ env own X' => (numT ((bl s).drop i) = some d ∧ d.length ≤ 6) ∧ X1.le X' ∧ env = [(0, .string s), (1, .int .i64 (i : Int)), (4, .pointer (some ⟨B4, 0, none⟩)), (6, .int .i64 (e : Int))] ∧ own = [⟨B4, [.int .u8 0, .string ⟨#[]⟩, .int .i64 0, .int .i64 0], 70, 4⟩]) ?_ ?_
  · by_cases h1 : 6 < e - i
    · have hn : numT ((bl s).drop i) = none := (hnum _).2 (if_pos (.inl (by omega)))
      refine T.seq <| T.region <| SL.mv rfl <| SL.mv rfl <| SL.v (op_subN rfl rfl (by omega) (by omega)) ?_
      refine SL.v (op_gtrT rfl rfl (by omega)) ?_
      refine SL.mv rfl <| SL.skip rfl rfl ?_
      refine SL.skip rfl rfl ?_
      refine SL.skip rfl rfl ?_
      refine SL.skip rfl rfl ?_
      refine SL.skip rfl rfl ?_
      refine SL.skip rfl rfl ?_
      refine SL.skip rfl rfl ?_
      refine SL.skip rfl rfl ?_
      refine SL.skip rfl rfl ?_
      refine SL.skip rfl rfl ?_
      refine SL.v (op_pickT rfl rfl) <| SL.mv rfl <| SL.skip rfl rfl ?_
      refine SL.skip rfl rfl ?_
      refine SL.skip rfl rfl ?_
      refine SL.skip rfl rfl ?_
      refine SL.skip rfl rfl ?_
      refine SL.skip rfl rfl ?_
      refine SL.skip rfl rfl ?_
      refine SL.skip rfl rfl ?_
      refine SL.skip rfl rfl ?_
      refine SL.skip rfl rfl ?_
      refine SL.skip rfl rfl ?_
      refine SL.skip rfl rfl ?_
      refine SL.skip rfl rfl ?_
      refine SL.skip rfl rfl ?_
      refine SL.skip rfl rfl ?_
      refine SL.skip rfl rfl ?_
      refine SL.v (op_pickT rfl rfl) <| SL.nil <| T.condT rfl <| T.seq <| T.region <| SL.v (op_build st70 (qs := []) rfl rfl) <| SL.w (op_store ty70 rfl rfl (by repeat constructor) rfl rfl rfl) ?_
      rintro _ _ _ ⟨rfl, rfl⟩
      refine SL.as rfl <| SL.nil <| T.ret2 rfl (ResIs.cell rfl ty70 (by repeat constructor) rfl) (ResIs.tmp rfl) ?_
      rw [hn]
      rfl
    by_cases h2 : b0.toNat = 48 ∧ 1 < e - i
    · obtain ⟨h2, h3⟩ := h2
      have hb48 : b0 = 48 := UInt8.toNat_inj.1 h2
      have hn : numT ((bl s).drop i) = none := (hnum _).2 (if_pos (.inr (.inl ⟨by omega, by rw [hb48]⟩)))
      refine T.seq <| T.region <| SL.mv rfl <| SL.mv rfl <| SL.v (op_subN rfl rfl (by omega) (by omega)) ?_
      refine SL.v (op_gtrF rfl rfl (by omega)) ?_
      refine SL.mv rfl <| SL.mv rfl <| SL.mv rfl <| SL.v (op_idxStr Tryz.underlying9 rfl rfl rfl (by assumption)) ?_
      refine SL.v (op_eqlT rfl rfl (by omega)) ?_
      refine SL.mv rfl <| SL.mv rfl <| SL.mv rfl <| SL.v (op_subN rfl rfl (by omega) (by omega)) ?_
      refine SL.v (op_gtrT rfl rfl (by omega)) ?_
      refine SL.v (op_pickT rfl rfl) <| SL.v (op_pickF rfl rfl) <| SL.mv rfl <| SL.skip rfl rfl ?_
      refine SL.skip rfl rfl ?_
      refine SL.skip rfl rfl ?_
      refine SL.skip rfl rfl ?_
      refine SL.skip rfl rfl ?_
      refine SL.skip rfl rfl ?_
      refine SL.skip rfl rfl ?_
      refine SL.skip rfl rfl ?_
      refine SL.skip rfl rfl ?_
      refine SL.skip rfl rfl ?_
      refine SL.skip rfl rfl ?_
      refine SL.skip rfl rfl ?_
      refine SL.skip rfl rfl ?_
      refine SL.skip rfl rfl ?_
      refine SL.skip rfl rfl ?_
      refine SL.skip rfl rfl ?_
      refine SL.v (op_pickT rfl rfl) <| SL.nil <| T.condT rfl <| T.seq <| T.region <| SL.v (op_build st70 (qs := []) rfl rfl) <| SL.w (op_store ty70 rfl rfl (by repeat constructor) rfl rfl rfl) ?_
      rintro _ _ _ ⟨rfl, rfl⟩
      refine SL.as rfl <| SL.nil <| T.ret2 rfl (ResIs.cell rfl ty70 (by repeat constructor) rfl) (ResIs.tmp rfl) ?_
      rw [hn]
      rfl
    have hno : ∀ (hg : glued ((bl s).drop e) = false), numT ((bl s).drop i) = some d ∧ d.length ≤ 6 := fun hg => ⟨(hnum _).2 (if_neg (by
      rintro (h | ⟨h, h48⟩ | h)
      · omega
      · exact h2 ⟨by rw [Option.some.inj h48]; rfl, by omega⟩
      · rw [hg] at h; cases h)), by omega⟩
    have h12 : b0.toNat ≠ 48 ∨ (b0.toNat = 48 ∧ ¬(1 < e - i)) := by
      by_cases hx : b0.toNat = 48
      · exact .inr ⟨hx, fun h => h2 ⟨hx, h⟩⟩
      · exact .inl hx
    rcases Nat.lt_or_ge e s.size with hel | hel
    · obtain ⟨b, hb⟩ := get_some hel
      have hgl := glued_at hb
      rcases h12 with h12 | ⟨h12, h13⟩
      · skip
        refine T.seq <| T.region <| SL.mv rfl <| SL.mv rfl <| SL.v (op_subN rfl rfl (by omega) (by omega)) ?_
        refine SL.v (op_gtrF rfl rfl (by omega)) ?_
        refine SL.mv rfl <| SL.mv rfl <| SL.mv rfl <| SL.v (op_idxStr Tryz.underlying9 rfl rfl rfl (by assumption)) ?_
        refine SL.v (op_eqlF rfl rfl (by omega)) ?_
        refine SL.mv rfl <| SL.skip rfl rfl ?_
        refine SL.skip rfl rfl ?_
        refine SL.skip rfl rfl ?_
        refine SL.skip rfl rfl ?_
        refine SL.v (op_pickF rfl rfl) <| SL.v (op_pickF rfl rfl) <| SL.mv rfl <| SL.mv rfl <| SL.mv rfl <| SL.v (op_lenStr Tryz.underlying9 rfl) <| SL.v (op_lssT rfl rfl (by omega)) ?_
        refine SL.mv rfl <| SL.mv rfl <| SL.mv rfl <| SL.v (op_idxStr Tryz.underlying9 rfl rfl rfl (by assumption)) ?_
        refine SL.w (op_callF en68 (vs := [_]) rfl (tletter_spec b)) ?_
        rintro _ _ X2 ⟨rfl, hX2, rfl⟩
        cases hlb : letB b with
        | true =>
          have hn : numT ((bl s).drop i) = none := (hnum _).2 (if_pos (.inr (.inr (by rw [hgl, hlb]; rfl))))
          refine SL.mv rfl <| SL.skip rfl rfl ?_
          refine SL.skip rfl rfl ?_
          refine SL.skip rfl rfl ?_
          refine SL.skip rfl rfl ?_
          refine SL.v (op_pickT rfl rfl) <| SL.v (op_pickT rfl rfl) <| SL.v (op_pickF rfl rfl) <| SL.nil <| T.condT rfl <| T.seq <| T.region <| SL.v (op_build st70 (qs := []) rfl rfl) <| SL.w (op_store ty70 rfl rfl (by repeat constructor) rfl rfl rfl) ?_
          rintro _ _ _ ⟨rfl, rfl⟩
          refine SL.as rfl <| SL.nil <| T.ret2 rfl (ResIs.cell rfl ty70 (by repeat constructor) rfl) (ResIs.tmp rfl) ?_
          rw [hn]
          rfl
        | false =>
          by_cases h95 : b.toNat = 95
          · have hn : numT ((bl s).drop i) = none := (hnum _).2 (if_pos (.inr (.inr (by rw [hgl, h95]; simp))))
            refine SL.mv rfl <| SL.mv rfl <| SL.mv rfl <| SL.v (op_idxStr Tryz.underlying9 rfl rfl rfl (by assumption)) ?_
            refine SL.v (op_eqlT rfl rfl (by omega)) ?_
            refine SL.v (op_pickF rfl rfl) <| SL.v (op_pickT rfl rfl) <| SL.v (op_pickF rfl rfl) <| SL.nil <| T.condT rfl <| T.seq <| T.region <| SL.v (op_build st70 (qs := []) rfl rfl) <| SL.w (op_store ty70 rfl rfl (by repeat constructor) rfl rfl rfl) ?_
            rintro _ _ _ ⟨rfl, rfl⟩
            refine SL.as rfl <| SL.nil <| T.ret2 rfl (ResIs.cell rfl ty70 (by repeat constructor) rfl) (ResIs.tmp rfl) ?_
            rw [hn]
            rfl
          · refine SL.mv rfl <| SL.mv rfl <| SL.mv rfl <| SL.v (op_idxStr Tryz.underlying9 rfl rfl rfl (by assumption)) ?_
            refine SL.v (op_eqlF rfl rfl (by omega)) ?_
            refine SL.v (op_pickF rfl rfl) <| SL.v (op_pickT rfl rfl) <| SL.v (op_pickF rfl rfl) <| SL.nil <| T.condF rfl <| T.skip ?_
            exact T.backW 0 (by omega) ⟨hno (by rw [hgl, hlb]; simp [h95]), hX2, rfl, rfl⟩ (by repeat (first | exact Sub.nil | refine Sub.cons rfl ?_))
      · skip
        refine T.seq <| T.region <| SL.mv rfl <| SL.mv rfl <| SL.v (op_subN rfl rfl (by omega) (by omega)) ?_
        refine SL.v (op_gtrF rfl rfl (by omega)) ?_
        refine SL.mv rfl <| SL.mv rfl <| SL.mv rfl <| SL.v (op_idxStr Tryz.underlying9 rfl rfl rfl (by assumption)) ?_
        refine SL.v (op_eqlT rfl rfl (by omega)) ?_
        refine SL.mv rfl <| SL.mv rfl <| SL.mv rfl <| SL.v (op_subN rfl rfl (by omega) (by omega)) ?_
        refine SL.v (op_gtrF rfl rfl (by omega)) ?_
        refine SL.v (op_pickT rfl rfl) <| SL.v (op_pickF rfl rfl) <| SL.mv rfl <| SL.mv rfl <| SL.mv rfl <| SL.v (op_lenStr Tryz.underlying9 rfl) <| SL.v (op_lssT rfl rfl (by omega)) ?_
        refine SL.mv rfl <| SL.mv rfl <| SL.mv rfl <| SL.v (op_idxStr Tryz.underlying9 rfl rfl rfl (by assumption)) ?_
        refine SL.w (op_callF en68 (vs := [_]) rfl (tletter_spec b)) ?_
        rintro _ _ X2 ⟨rfl, hX2, rfl⟩
        cases hlb : letB b with
        | true =>
          have hn : numT ((bl s).drop i) = none := (hnum _).2 (if_pos (.inr (.inr (by rw [hgl, hlb]; rfl))))
          refine SL.mv rfl <| SL.skip rfl rfl ?_
          refine SL.skip rfl rfl ?_
          refine SL.skip rfl rfl ?_
          refine SL.skip rfl rfl ?_
          refine SL.v (op_pickT rfl rfl) <| SL.v (op_pickT rfl rfl) <| SL.v (op_pickF rfl rfl) <| SL.nil <| T.condT rfl <| T.seq <| T.region <| SL.v (op_build st70 (qs := []) rfl rfl) <| SL.w (op_store ty70 rfl rfl (by repeat constructor) rfl rfl rfl) ?_
          rintro _ _ _ ⟨rfl, rfl⟩
          refine SL.as rfl <| SL.nil <| T.ret2 rfl (ResIs.cell rfl ty70 (by repeat constructor) rfl) (ResIs.tmp rfl) ?_
          rw [hn]
          rfl
        | false =>
          by_cases h95 : b.toNat = 95
          · have hn : numT ((bl s).drop i) = none := (hnum _).2 (if_pos (.inr (.inr (by rw [hgl, h95]; simp))))
            refine SL.mv rfl <| SL.mv rfl <| SL.mv rfl <| SL.v (op_idxStr Tryz.underlying9 rfl rfl rfl (by assumption)) ?_
            refine SL.v (op_eqlT rfl rfl (by omega)) ?_
            refine SL.v (op_pickF rfl rfl) <| SL.v (op_pickT rfl rfl) <| SL.v (op_pickF rfl rfl) <| SL.nil <| T.condT rfl <| T.seq <| T.region <| SL.v (op_build st70 (qs := []) rfl rfl) <| SL.w (op_store ty70 rfl rfl (by repeat constructor) rfl rfl rfl) ?_
            rintro _ _ _ ⟨rfl, rfl⟩
            refine SL.as rfl <| SL.nil <| T.ret2 rfl (ResIs.cell rfl ty70 (by repeat constructor) rfl) (ResIs.tmp rfl) ?_
            rw [hn]
            rfl
          · refine SL.mv rfl <| SL.mv rfl <| SL.mv rfl <| SL.v (op_idxStr Tryz.underlying9 rfl rfl rfl (by assumption)) ?_
            refine SL.v (op_eqlF rfl rfl (by omega)) ?_
            refine SL.v (op_pickF rfl rfl) <| SL.v (op_pickT rfl rfl) <| SL.v (op_pickF rfl rfl) <| SL.nil <| T.condF rfl <| T.skip ?_
            exact T.backW 0 (by omega) ⟨hno (by rw [hgl, hlb]; simp [h95]), hX2, rfl, rfl⟩ (by repeat (first | exact Sub.nil | refine Sub.cons rfl ?_))
    · have hgl := glued_end hel
      rcases h12 with h12 | ⟨h12, h13⟩
      · skip
        refine T.seq <| T.region <| SL.mv rfl <| SL.mv rfl <| SL.v (op_subN rfl rfl (by omega) (by omega)) ?_
        refine SL.v (op_gtrF rfl rfl (by omega)) ?_
        refine SL.mv rfl <| SL.mv rfl <| SL.mv rfl <| SL.v (op_idxStr Tryz.underlying9 rfl rfl rfl (by assumption)) ?_
        refine SL.v (op_eqlF rfl rfl (by omega)) ?_
        refine SL.mv rfl <| SL.skip rfl rfl ?_
        refine SL.skip rfl rfl ?_
        refine SL.skip rfl rfl ?_
        refine SL.skip rfl rfl ?_
        refine SL.v (op_pickF rfl rfl) <| SL.v (op_pickF rfl rfl) <| SL.mv rfl <| SL.mv rfl <| SL.mv rfl <| SL.v (op_lenStr Tryz.underlying9 rfl) <| SL.v (op_lssF rfl rfl (by omega)) ?_
        refine SL.mv rfl <| SL.skip rfl rfl ?_
        refine SL.skip rfl rfl ?_
        refine SL.skip rfl rfl ?_
        refine SL.skip rfl rfl ?_
        refine SL.skip rfl rfl ?_
        refine SL.skip rfl rfl ?_
        refine SL.skip rfl rfl ?_
        refine SL.skip rfl rfl ?_
        refine SL.skip rfl rfl ?_
        refine SL.skip rfl rfl ?_
        refine SL.v (op_pickF rfl rfl) <| SL.v (op_pickF rfl rfl) <| SL.nil <| T.condF rfl <| T.skip ?_
        exact T.backW 0 (by omega) ⟨hno hgl, PMap.le_refl _, rfl, rfl⟩ (by repeat (first | exact Sub.nil | refine Sub.cons rfl ?_))
      · refine T.seq <| T.region <| SL.mv rfl <| SL.mv rfl <| SL.v (op_subN rfl rfl (by omega) (by omega)) ?_
        refine SL.v (op_gtrF rfl rfl (by omega)) ?_
        refine SL.mv rfl <| SL.mv rfl <| SL.mv rfl <| SL.v (op_idxStr Tryz.underlying9 rfl rfl rfl (by assumption)) ?_
        refine SL.v (op_eqlT rfl rfl (by omega)) ?_
        refine SL.mv rfl <| SL.mv rfl <| SL.mv rfl <| SL.v (op_subN rfl rfl (by omega) (by omega)) ?_
        refine SL.v (op_gtrF rfl rfl (by omega)) ?_
        refine SL.v (op_pickT rfl rfl) <| SL.v (op_pickF rfl rfl) <| SL.mv rfl <| SL.mv rfl <| SL.mv rfl <| SL.v (op_lenStr Tryz.underlying9 rfl) <| SL.v (op_lssF rfl rfl (by omega)) ?_
        refine SL.mv rfl <| SL.skip rfl rfl ?_
        refine SL.skip rfl rfl ?_
        refine SL.skip rfl rfl ?_
        refine SL.skip rfl rfl ?_
        refine SL.skip rfl rfl ?_
        refine SL.skip rfl rfl ?_
        refine SL.skip rfl rfl ?_
        refine SL.skip rfl rfl ?_
        refine SL.skip rfl rfl ?_
        refine SL.skip rfl rfl ?_
        refine SL.v (op_pickF rfl rfl) <| SL.v (op_pickF rfl rfl) <| SL.nil <| T.condF rfl <| T.skip ?_
        exact T.backW 0 (by omega) ⟨hno hgl, PMap.le_refl _, rfl, rfl⟩ (by repeat (first | exact Sub.nil | refine Sub.cons rfl ?_))
  rintro _ _ _ X3 ⟨⟨hn, hd6⟩, hX3, rfl, rfl⟩
  have htxt : s.extract i e = ⟨d.toArray⟩ := bl_inj htx
  have hds : (⟨d.toArray⟩ : ByteArray).size = d.length := rfl
  refine T.seq <| T.region <| SL.v (op_assign (v := .int .i64 ((0 : Nat) : Int)) rfl) <| SL.nil <| T.seq <| T.seq <| T.region <| SL.mv rfl <| SL.mv rfl <| SL.mv rfl <| SL.v (op_sliceStr Tryz.underlying9 rfl rfl rfl hge hle) ?_
  rw [htxt]
  refine SL.w (op_bytesOf Tryz.underlying9 Tryz.underlying64 Tryz.underlying5 rfl) ?_
  rintro _ _ X4 ⟨b52, c52, rfl, rfl, hX4, hB52⟩
  rw [hds]
  refine SL.v (op_lenS Tryz.underlying64 rfl) <| SL.v (op_move (v := .int .i64 ((0 : Nat) : Int)) rfl) <| SL.nil <| T.block <| T.loopW (fun m env own X' => ∃ q : Nat, m = d.length - q ∧ q ≤ d.length ∧ X4.le X' ∧ env = [(0, .string s), (1, .int .i64 (i : Int)), (4, .pointer (some ⟨B4, 0, none⟩)), (6, .int .i64 (e : Int)), (7, .int .i64 (valL (d.take q) : Int)), (52, .slice (some ⟨b52, 0, none⟩) d.length c52), (53, .int .i64 (d.length : Int)), (54, .int .i64 (q : Int))] ∧ own = [⟨B4, [.int .u8 0, .string ⟨#[]⟩, .int .i64 0, .int .i64 0], 70, 4⟩]) d.length ⟨0, rfl, by omega, PMap.le_refl _, rfl, rfl⟩ (by repeat (first | exact Sub.nil | refine Sub.cons rfl ?_)) ?_
  rintro m _ _ X5 ⟨q, rfl, hq, hX5, rfl, rfl⟩
  have hvq := valL_lt q (d.take q) (by rw [List.length_take]; omega) fun b hb => hdig b (List.mem_of_mem_take hb)
  have hv6 : valL (d.take q) < 1000000 := Nat.lt_of_lt_of_le hvq (Nat.le_trans (Nat.pow_le_pow_right (by decide) (show q ≤ 6 by omega)) (by decide))
  rcases Nat.lt_or_ge q d.length with hql | hql
  · obtain ⟨c, hc⟩ : ∃ c, d[q]? = some c := ⟨_, List.getElem?_eq_getElem hql⟩
    have hcd := digB_ge.1 (hdig c (List.mem_of_getElem? hc))
    have hbc : (byteC ⟨d.toArray⟩)[q]? = some (.int .u8 (c.toNat : Int)) := by simp [byteC, hc]
    have hval : valL (d.take (q + 1)) = 10 * valL (d.take q) + (c.toNat - 48) := by rw [List.take_add_one, hc]; exact valL_snoc _ _
    refine T.seq <| T.region <| SL.v (op_lssT rfl rfl (by omega)) ?_
    refine SL.nil <| T.seq <| T.condT rfl <| T.skip <| T.seq <| T.block <| T.seq <| T.region <| SL.v (op_indexN Tryz.underlying64 ty5 rfl rfl (by omega)) ?_
    refine SL.v (op_loadX ty5 rfl (hB52.mono hX5) (cread1k' hbc (by omega))) ?_
    refine SL.as rfl <| SL.nil <| T.region <| SL.mv rfl <| SL.v (op_mulN (p := 10) (q := valL (d.take q)) rfl rfl (by omega)) ?_
    refine SL.mv rfl <| SL.v (op_sub8 (p := c.toNat) (q := 48) rfl rfl (by omega) (by omega)) ?_
    refine SL.v (op_convI64 Tryz.underlying5 Tryz.underlying3 rfl (by omega) (by omega)) ?_
    refine SL.v (op_addN (p := 10 * valL (d.take q)) (q := c.toNat - 48) rfl rfl (by omega)) ?_
    rw [← hval]
    refine SL.as rfl <| SL.nil <| T.blk <| T.region <| SL.v (op_addN (q := 1) rfl rfl (by omega)) ?_
    refine SL.mv rfl <| SL.nil ?_
    exact T.backW (d.length - (q + 1)) (by omega) ⟨q + 1, rfl, by omega, hX5, rfl, rfl⟩ (by repeat (first | exact Sub.nil | refine Sub.cons rfl ?_))
  · rw [List.take_of_length_le hql]
    refine T.seq <| T.region <| SL.v (op_lssF rfl rfl (by omega)) ?_
    refine SL.nil <| T.seq <| T.condF rfl ?_
    refine T.exit (T.exitCode (T.exitCut (T.exitBlk ?_)))
    refine T.seq <| T.region <| SL.mv rfl <| SL.mv rfl <| SL.mv rfl <| SL.v (op_sliceStr Tryz.underlying9 rfl rfl rfl hge hle) ?_
    rw [htxt]
    refine SL.mv rfl <| SL.mv rfl <| SL.v (op_build st70 (qs := [(0, _), (1, _), (2, _), (3, _)]) rfl rfl) <| SL.w (op_store ty70 rfl rfl (by repeat constructor) rfl rfl rfl) ?_
    rintro _ _ _ ⟨rfl, rfl⟩
    refine SL.as rfl <| SL.nil <| T.ret2 rfl (ResIs.cell rfl ty70 (by repeat constructor) rfl) (ResIs.tmp rfl) ?_
    rw [hn]
    rfl
end Go.Proofs.YtnabbnhefjfegaaGreatDoor
namespace Go.Proofs.YtnabbnhefjfegaaGreatDoor
section
set_option maxRecDepth 100000
theorem bs70 : ∃ i z, Tryz.prog.info? 70 = some i ∧ i.size = 4 ∧ i.zero = some z ∧ z.cells = ([.int .u8 0, .string ⟨#[]⟩, .int .i64 0, .int .i64 0] : List Value).toArray := bs_of (by kernel_rfl)
theorem en67 : Enters Tryz.prog 67 := enters_mk Tryz.func67 (by kernel_rfl) rfl
theorem en70 : Enters Tryz.prog 70 := enters_mk Tryz.func70 (by kernel_rfl) rfl
theorem en72 : Enters Tryz.prog 72 := enters_mk Tryz.func72 (by kernel_rfl) rfl
theorem en73 : Enters Tryz.prog 73 := enters_mk Tryz.func73 (by kernel_rfl) rfl
theorem fa70_1 : FAdr Tryz.prog 70 1 1 := fadr_mk Tryz.underlying70 rfl rfl (by kernel_rfl)
theorem sl65 : SlT Tryz.prog 65 70 4 40 := ⟨Tryz.underlying65, sl_of (by kernel_rfl) (by decide)⟩
end
open Go.RowKit
def rcT (t : Tk) : List Value := [.int .u8 (t.kind : Int), .string t.text, .int .i64 (t.num : Int), .int .i64 (t.off : Int)]
theorem rcT_len (t : Tk) : (rcT t).length = 4 := rfl
abbrev TkO (b : Nat) (cs : List Value) : Ow := ⟨b, cs, 70, 4⟩
def zT : List Value := [.int .u8 0, .string ⟨#[]⟩, .int .i64 0, .int .i64 0]
/-- What the cells hold of the token at this place. -/
def TokAt (s : ByteArray) (p : Nat) (ok : Bool) (cs : List Value) : Prop := match tok1 ((bl s).drop p) with
  | some (k, t, n) => ok = true ∧ cs = rcT ⟨k, ⟨t.toArray⟩, n, p⟩
  | none => ok = false ∧ cs = zT
theorem scan_spec {X : PMap} {s : ByteArray} (hs : s.size < 1000000000) : Spec Tryz.prog 32 [.string s] X fun u X' => if 8000 < s.size then u = .tuple #[.slice none 0 0, .int .i64 0, .int .i64 3] else match scanL s.size (bl s) with
    | .ok ts => ∃ v, u = .tuple #[v, .int .i64 0, .int .i64 0] ∧ RowR rcT X' v ts
    | .error o => u = .tuple #[.slice none 0 0, .int .i64 (o : Int), .int .i64 8] := by
  by_cases h8 : 8000 < s.size
  · refine Spec.enter Tryz.func32 rfl Tryz.ntmps32 rfl ?_
    intro w0 hw0
    refine T.seq <| T.region <| SL.as rfl <| SL.v (op_assign (v := .int .i64 ((0 : Nat) : Int)) rfl) <| SL.v (op_assign (v := .int .i64 ((0 : Nat) : Int)) rfl) <| SL.nil <| T.seq <| T.seq <| T.region <| SL.mv rfl <| SL.v (op_lenStr Tryz.underlying9 rfl) <| SL.v (op_gtrT rfl rfl (by omega)) ?_
    refine SL.nil <| T.condT rfl <| T.seq <| T.region <| SL.as rfl <| SL.v (op_assign (v := .int .i64 ((0 : Nat) : Int)) rfl) <| SL.v (op_assign (v := .int .i64 ((3 : Nat) : Int)) rfl) <| SL.nil <| T.ret3 rfl rfl rfl rfl ?_
    rw [if_pos h8]
    rfl
  simp only [if_neg h8]
  have hmx : maxLen = 9223372036854775807 := rfl
  refine Spec.enter Tryz.func32 rfl Tryz.ntmps32 rfl ?_
  intro w0 hw0
  refine T.seq <| T.region <| SL.as rfl <| SL.v (op_assign (v := .int .i64 ((0 : Nat) : Int)) rfl) <| SL.v (op_assign (v := .int .i64 ((0 : Nat) : Int)) rfl) <| SL.nil <| T.seq <| T.seq <| T.region <| SL.mv rfl <| SL.v (op_lenStr Tryz.underlying9 rfl) <| SL.v (op_gtrF rfl rfl (by omega)) ?_
  refine SL.nil <| T.condF rfl <| T.skip <| T.seq <| T.region <| SL.as rfl <| SL.nil <| T.seq <| T.seq <| T.region <| SL.mv rfl <| SL.w (op_callF en67 (vs := [_, _]) rfl (skip_spec (i := 0) (Nat.zero_le _) hs)) ?_
  rintro _ _ X0 ⟨rfl, hX0, rfl⟩
  refine SL.as rfl <| SL.nil <| T.block <| T.loopW (fun m env own X' => ∃ (p : Nat) (ts : List Tk) (v : Value), m = s.size - p ∧ p ≤ s.size ∧ ts.length ≤ p ∧ X.le X' ∧ skipL false ((bl s).drop p) = (bl s).drop p ∧ scanL s.size (bl s) = appR ts (scanL s.size ((bl s).drop p)) ∧ GrowS 70 4 v ts.length (ts.map rcT).flatten own ∧ env = [(0, .string s), (5, v), (6, .int .i64 (p : Int))]) (s.size - skp s 0) ⟨skp s 0, [], _, rfl, skp_le, Nat.zero_le _, hX0, skp_skip, by rw [appR_nil, ← scan_skp]; rfl, GrowS.nil, rfl⟩ (by repeat (first | exact Sub.nil | refine Sub.cons rfl ?_)) ?_
  rintro m _ G X1 ⟨p, ts, v, rfl, hp, htl, hX1, hsk, hsc, hG, rfl⟩
  rcases Nat.lt_or_ge p s.size with hpl | hpl
  · obtain ⟨b, hb⟩ := get_some hpl
    have ht1 := tok1_at hb
    obtain ⟨A, c, rfl⟩ := hG.form
    refine T.seq <| T.seq <| T.region <| SL.mv rfl <| SL.mv rfl <| SL.v (op_lenStr Tryz.underlying9 rfl) <| SL.v (op_lssT rfl rfl (by omega)) ?_
    refine SL.nil <| T.condT rfl <| T.skip <| T.seq <| T.block <| T.seq <| T.region <| SL.w (op_alloc z70) ?_
    rintro _ _ _ ⟨B7, rfl, rfl, rfl⟩
    refine SL.nil <| T.seq <| T.region <| SL.as rfl <| SL.nil <| T.seq <| T.meet (fun _ env own X' => ∃ (ok : Bool) (cs : List Value), TokAt s p ok cs ∧ X1.le X' ∧ env = [(0, .string s), (5, .slice A ts.length c), (6, .int .i64 (p : Int)), (7, .pointer (some ⟨B7, 0, none⟩)), (8, .bool ok)] ∧ own = TkO B7 cs :: G) ?_ ?_
    · skip
      refine T.block <| T.seq <| T.region <| SL.mv rfl <| SL.mv rfl <| SL.v (op_idxStr Tryz.underlying9 rfl rfl rfl (by assumption)) ?_
      refine SL.w (op_callF en68 (vs := [_]) rfl (tletter_spec b)) ?_
      rintro _ _ X2 ⟨rfl, hX2, rfl⟩
      cases hlb : letB b with
      | true =>
        refine SL.as rfl <| SL.nil <| T.condT rfl <| T.region <| SL.mv rfl <| SL.mv rfl <| SL.mv rfl <| SL.mv rfl <| SL.w (op_callF en69 (vs := [_, _, _]) rfl (while_spec en70 tinner_spec (Nat.le_of_lt hpl) hs)) ?_
        rintro _ _ X3 ⟨rfl, hX3, rfl⟩
        refine SL.v (op_sliceStr Tryz.underlying9 rfl rfl rfl whl_ge (whl_le (Nat.le_of_lt hpl))) <| SL.mv rfl <| SL.v (op_build st70 (qs := [(0, _), (1, _), (2, _), (3, _)]) rfl rfl) <| SL.w (op_store ty70 rfl rfl (by repeat constructor) rfl rfl rfl) ?_
        rintro _ _ _ ⟨rfl, rfl⟩
        refine SL.nil <| T.blk ?_
        rw [show s.extract p (whl s innB p) = ⟨(((bl s).drop p).takeWhile innB).toArray⟩ from bl_inj whl_text]
        exact T.backW 0 (by omega) ⟨true, _, by rw [TokAt, ht1, hlb, if_pos rfl]; exact ⟨rfl, rfl⟩, hX2.trans' hX3, rfl, rfl⟩ (by repeat (first | exact Sub.nil | refine Sub.cons rfl ?_))
      | false =>
        rw [hlb, if_neg (by decide)] at ht1
        refine SL.as rfl <| SL.nil <| T.condF rfl <| T.seq <| T.region <| SL.mv rfl <| SL.mv rfl <| SL.v (op_idxStr Tryz.underlying9 rfl rfl rfl (by assumption)) ?_
        refine SL.w (op_callF en71 (vs := [_]) rfl (tdigit_spec b)) ?_
        rintro _ _ X3 ⟨rfl, hX3, rfl⟩
        cases hdb : digB b with
        | true =>
          rw [hdb, if_pos rfl] at ht1
          refine SL.as rfl <| SL.nil <| T.condT rfl <| T.region <| SL.mv rfl <| SL.mv rfl <| SL.w (op_callF en72 (vs := [_, _]) rfl (number_spec17 hb hpl hs)) ?_
          rintro _ _ X4 ⟨rfl, hX4, rfl⟩
          cases hn : numT ((bl s).drop p) with
          | none =>
            refine SL.mv rfl <| SL.v (op_extract rfl rfl) <| SL.v (op_extract rfl rfl) <| SL.w (op_store ty70 rfl rfl (by repeat constructor) rfl rfl rfl) ?_
            rintro _ _ _ ⟨rfl, rfl⟩
            refine SL.as rfl <| SL.nil <| T.blk ?_
            exact T.backW 0 (by omega) ⟨false, _, by rw [TokAt, ht1, hn]; exact ⟨rfl, rfl⟩, (hX2.trans' hX3).trans' hX4, rfl, rfl⟩ (by repeat (first | exact Sub.nil | refine Sub.cons rfl ?_))
          | some d =>
            refine SL.mv rfl <| SL.v (op_extract rfl rfl) <| SL.v (op_extract rfl rfl) <| SL.w (op_store ty70 rfl rfl (by repeat constructor) rfl rfl rfl) ?_
            rintro _ _ _ ⟨rfl, rfl⟩
            refine SL.as rfl <| SL.nil <| T.blk ?_
            exact T.backW 0 (by omega) ⟨true, _, by rw [TokAt, ht1, hn]; exact ⟨rfl, rfl⟩, (hX2.trans' hX3).trans' hX4, rfl, rfl⟩ (by repeat (first | exact Sub.nil | refine Sub.cons rfl ?_))
        | false =>
          rw [hdb, if_neg (by decide)] at ht1
          refine SL.as rfl <| SL.nil <| T.condF rfl <| T.region <| SL.mv rfl <| SL.mv rfl <| SL.w (op_callF en73 (vs := [_, _]) rfl (symbol_spec hp)) ?_
          rintro _ _ X4 ⟨rfl, hX4, rfl⟩
          cases hn : symF s p with
          | none =>
            refine SL.mv rfl <| SL.v (op_extract rfl rfl) <| SL.v (op_extract rfl rfl) <| SL.w (op_store ty70 rfl rfl (by repeat constructor) rfl rfl rfl) ?_
            rintro _ _ _ ⟨rfl, rfl⟩
            refine SL.as rfl <| SL.nil <| T.blk ?_
            exact T.backW 0 (by omega) ⟨false, _, by rw [TokAt, ht1, hn]; exact ⟨rfl, rfl⟩, (hX2.trans' hX3).trans' hX4, rfl, rfl⟩ (by repeat (first | exact Sub.nil | refine Sub.cons rfl ?_))
          | some x =>
            refine SL.mv rfl <| SL.v (op_extract rfl rfl) <| SL.v (op_extract rfl rfl) <| SL.w (op_store ty70 rfl rfl (by repeat constructor) rfl rfl rfl) ?_
            rintro _ _ _ ⟨rfl, rfl⟩
            refine SL.as rfl <| SL.nil <| T.blk ?_
            exact T.backW 0 (by omega) ⟨true, _, by rw [TokAt, ht1, hn]; exact ⟨rfl, rfl⟩, (hX2.trans' hX3).trans' hX4, rfl, rfl⟩ (by repeat (first | exact Sub.nil | refine Sub.cons rfl ?_))
    rintro _ _ _ X5 ⟨ok, cs, hTA, hX5, rfl, rfl⟩
    have hsa := scan_at hpl hsk
    unfold TokAt at hTA
    cases ht : tok1 ((bl s).drop p) with
    | none =>
      rw [ht] at hTA hsa
      obtain ⟨rfl, rfl⟩ := hTA
      simp only at hsa
      refine T.seq <| T.seq <| T.region <| SL.mv rfl <| SL.v (op_not rfl) <| SL.nil <| T.condT rfl <| T.seq <| T.region <| SL.mv rfl <| SL.as rfl <| SL.as rfl <| SL.v (op_assign (v := .int .i64 ((8 : Nat) : Int)) rfl) <| SL.nil <| T.ret3 rfl rfl rfl rfl ?_
      rw [hsc, hsa]
      rfl
    | some x =>
      obtain ⟨k, t, n⟩ := x
      rw [ht] at hTA hsa
      obtain ⟨rfl, rfl⟩ := hTA
      simp only at hsa
      have htp := tok1_pos ht
      have htle := tok1_len ht
      rw [List.length_drop, bl_size] at htle
      have hgs : p + t.length ≤ skp s (p + t.length) := skp_ge (by omega)
      have hls : skp s (p + t.length) ≤ s.size := skp_le
      have hsz : (⟨t.toArray⟩ : ByteArray).size = t.length := rfl
      unfold rcT
      refine T.seq <| T.seq <| T.region <| SL.mv rfl <| SL.v (op_not rfl) <| SL.nil <| T.condF rfl <| T.skip <| T.seq <| T.region <| SL.mv rfl <| SL.v (op_load ty70 rfl (by repeat constructor) rfl) ?_
      refine SL.w (op_buildSlice Tryz.underlying65 bs70 (qs := [(0, _)]) rfl rfl rfl rfl rfl) ?_
      rintro _ _ _ ⟨B56, rfl, rfl, rfl⟩
      refine SL.w (op_appendG (own0 := [_]) sl65 rfl hG rfl rfl rfl (by omega) (by omega)) ?_
      rintro v2 _ _ ⟨G2, rfl, rfl, hG2⟩
      have hG2 : GrowS 70 4 v2 (ts ++ [(⟨k, ⟨t.toArray⟩, n, p⟩ : Tk)]).length ((ts ++ [(⟨k, ⟨t.toArray⟩, n, p⟩ : Tk)]).map rcT).flatten G2 := by
        rw [List.length_append, List.map_append, List.flatten_append]; exact hG2
      refine SL.as rfl <| SL.nil <| T.region <| SL.mv rfl <| SL.v (op_fieldAddr fa70_1 rfl) <| SL.v (op_load ty9 rfl (by repeat constructor) rfl) ?_
      refine SL.v (op_lenStr Tryz.underlying9 rfl) ?_
      rw [hsz]
      refine SL.v (op_addN rfl rfl (by omega)) ?_
      refine SL.as rfl <| SL.nil <| T.blk <| T.region <| SL.mv rfl <| SL.mv rfl <| SL.w (op_callF en67 (vs := [_, _]) rfl (skip_spec (i := p + t.length) (by omega) hs)) ?_
      rintro _ _ X6 ⟨rfl, hX6, rfl⟩
      refine SL.as rfl <| SL.nil <| T.drop B7 (by repeat constructor) ?_
      exact T.backW (s.size - skp s (p + t.length)) (by omega) ⟨skp s (p + t.length), ts ++ [(⟨k, ⟨t.toArray⟩, n, p⟩ : Tk)], v2, rfl, hls, by rw [List.length_append]; simp; omega, (hX1.trans' hX5).trans' hX6, skp_skip, by rw [hsc, hsa, appR_one, appR_app], hG2, rfl⟩ (by repeat (first | exact Sub.nil | refine Sub.cons rfl ?_))
  · obtain rfl : p = s.size := by omega
    rw [scan_none (Nat.le_refl _)] at hsc
    obtain ⟨A, c, rfl⟩ := hG.form
    refine T.seq <| T.seq <| T.region <| SL.mv rfl <| SL.mv rfl <| SL.v (op_lenStr Tryz.underlying9 rfl) <| SL.v (op_lssF rfl rfl (by omega)) ?_
    refine SL.nil <| T.condF rfl ?_
    refine T.exit (T.exitCode (T.exitCut (T.exitBlk ?_)))
    refine T.seq <| T.region <| SL.mv rfl <| SL.mv rfl <| SL.v (op_lenStr Tryz.underlying9 rfl) <| SL.v (op_build st70 (qs := [(0, _), (1, _), (2, _), (3, _)]) rfl rfl) <| SL.w (op_buildSlice Tryz.underlying65 bs70 (qs := [(0, _)]) rfl rfl rfl rfl rfl) ?_
    rintro _ _ _ ⟨B67, rfl, rfl, rfl⟩
    refine SL.w (op_appendG (own0 := []) sl65 rfl hG rfl rfl rfl (by omega) (by omega)) ?_
    rintro v2 G2 _ ⟨_, rfl, rfl, hG2⟩
    have hG2 : GrowS 70 4 v2 (ts ++ [(⟨0, ⟨#[]⟩, 0, s.size⟩ : Tk)]).length ((ts ++ [(⟨0, ⟨#[]⟩, 0, s.size⟩ : Tk)]).map rcT).flatten G2 := by
      rw [List.length_append, List.map_append, List.flatten_append]; exact hG2
    refine SL.as rfl <| SL.v (op_assign (v := .int .i64 ((0 : Nat) : Int)) rfl) <| SL.v (op_assign (v := .int .i64 ((0 : Nat) : Int)) rfl) <| SL.nil <| T.pubG (own0 := []) hG2 ?_
    intro X9 hX9 hS9
    refine T.ret3 rfl rfl rfl rfl ?_
    rw [hsc]
    exact ⟨_, rfl, RowR.ofG hG2 hS9⟩
end Go.Proofs.YtnabbnhefjfegaaGreatDoor
namespace Go.Proofs.YtnabbnhefjfegaaGreatDoor
section
set_option maxRecDepth 100000
theorem en136 : Enters Tryz.prog 136 := enters_mk Tryz.func136 (by kernel_rfl) rfl
theorem en45 : Enters Tryz.prog 45 := enters_mk Tryz.func45 (by kernel_rfl) rfl
theorem en88 : Enters Tryz.prog 88 := enters_mk Tryz.func88 (by kernel_rfl) rfl
theorem en89 : Enters Tryz.prog 89 := enters_mk Tryz.func89 (by kernel_rfl) rfl
theorem en95 : Enters Tryz.prog 95 := enters_mk Tryz.func95 (by kernel_rfl) rfl
theorem fa151_0 : FAdr Tryz.prog 151 0 0 := fadr_mk Tryz.underlying151 rfl rfl (by kernel_rfl)
theorem fa151_1 : FAdr Tryz.prog 151 1 1 := fadr_mk Tryz.underlying151 rfl rfl (by kernel_rfl)
theorem fa151_2 : FAdr Tryz.prog 151 2 2 := fadr_mk Tryz.underlying151 rfl rfl (by kernel_rfl)
theorem fa151_3 : FAdr Tryz.prog 151 3 3 := fadr_mk Tryz.underlying151 rfl rfl (by kernel_rfl)
theorem fa70_0 : FAdr Tryz.prog 70 0 0 := fadr_mk Tryz.underlying70 rfl rfl (by kernel_rfl)
theorem fa98_0 : FAdr Tryz.prog 98 0 0 := fadr_mk Tryz.underlying98 rfl rfl (by kernel_rfl)
theorem ty68 : Ty Tryz.prog 68 false 1 := ⟨⟨_, Tryz.underlying68, rfl⟩, by kernel_rfl⟩
theorem fv70_0 : FVal Tryz.prog 70 0 0 false 1 := ⟨⟨_, _, Tryz.underlying70, rfl, rfl, ty68⟩⟩
theorem fv70_3 : FVal Tryz.prog 70 3 3 false 1 := ⟨⟨_, _, Tryz.underlying70, rfl, rfl, ty3⟩⟩
theorem ty29 : Ty Tryz.prog 29 false 1 := ⟨⟨_, Tryz.underlying29, rfl⟩, by kernel_rfl⟩
theorem ty65 : Ty Tryz.prog 65 false 1 := ⟨⟨_, Tryz.underlying65, rfl⟩, by kernel_rfl⟩
theorem ty96 : Ty Tryz.prog 96 false 1 := ⟨⟨_, Tryz.underlying96, rfl⟩, by kernel_rfl⟩
end
open Go.RowKit
abbrev rdC (v : Value) (i off : Nat) (e : Int) : List Value := [v, .int .i64 (i : Int), .int .i64 (off : Int), .int .i64 e]
abbrev RdO (b : Nat) (v : Value) (i off : Nat) (e : Int) : Ow := ⟨b, rdC v i off e, 151, 4⟩
def endT : Tk := ⟨0, ⟨#[]⟩, 0, 0⟩
def pk (e : Int) (t : Tk) : Tk := if e = 0 then t else endT
def isK (w : ByteArray) (t : Tk) : Bool := (t.kind == 1 || t.kind == 3) && decide (t.text = w)
section
variable {X : PMap} {v : Value} {ts : List Tk} {rb i off : Nat} {e : Int} {t : Tk}
theorem here_spec (hR : RowR rcT X v ts) (hl : ts.length < 1000000) (hB : Blk X rb (rdC v i off e)) (ht : ts[i]? = some t) : Spec Tryz.prog 136 [.pointer (some ⟨rb, 0, none⟩)] X fun u _ => u = .agg (rcT t).toArray := by
  obtain ⟨A, c, rfl⟩ := hR.form
  obtain ⟨hi, _⟩ := List.getElem?_eq_some_iff.1 ht
  obtain ⟨bA, pre, rfl, hbA⟩ := hR.blk (by omega)
  refine Spec.enter Tryz.func136 rfl Tryz.ntmps136 rfl ?_
  intro w0 hw0
  refine T.seq <| T.region <| SL.w (op_alloc z70) ?_
  rintro _ _ _ ⟨B2, rfl, rfl, rfl⟩
  refine SL.nil <| T.seq <| T.seq <| T.draw (by kernel_rfl) 10 [.t 0, .t 1, .t 2, .t 3, .t 4, .t 5, .t 6, .t 7, .t 8, .t 9] (by kernel_rfl) ?_
  refine SD.take rfl panicBody (op_move rfl) rfl rfl ?_
  refine SD.take rfl panicBody (op_nil rfl) rfl rfl ?_
  refine SD.take rfl panicBody (op_fieldAddr fa151_1 rfl) rfl rfl ?_
  refine SD.take rfl panicBody (op_loadX ty3 rfl (by assumption) rfl) rfl rfl ?_
  refine SD.take rfl panicBody (op_move rfl) rfl rfl ?_
  refine SD.take rfl panicBody (op_nil rfl) rfl rfl ?_
  refine SD.take rfl panicBody (op_fieldAddr fa151_0 rfl) rfl rfl ?_
  refine SD.take rfl panicBody (op_loadX ty65 rfl (by assumption) rfl) rfl rfl ?_
  refine SD.take rfl panicBody (op_lenS Tryz.underlying65 rfl) rfl rfl ?_
  refine SD.take rfl panicBody (op_lssT rfl rfl (by omega)) rfl rfl ?_
  refine SD.nil ?_
  show SL _ _ _ _ _ _ _ [] _ _ _
  refine SL.nil <| T.condT rfl <| T.seq <| T.draw (by kernel_rfl) 10 [.t 0, .t 1, .t 2, .t 3, .t 4, .t 5, .t 6, .t 7, .t 8, .t 9] (by kernel_rfl) ?_
  refine SD.take rfl panicBody (op_move rfl) rfl rfl ?_
  refine SD.take rfl panicBody (op_nil rfl) rfl rfl ?_
  refine SD.take rfl panicBody (op_fieldAddr fa151_0 rfl) rfl rfl ?_
  refine SD.take rfl panicBody (op_loadX ty65 rfl (by assumption) rfl) rfl rfl ?_
  refine SD.take rfl panicBody (op_move rfl) rfl rfl ?_
  refine SD.take rfl panicBody (op_nil rfl) rfl rfl ?_
  refine SD.take rfl panicBody (op_fieldAddr fa151_1 rfl) rfl rfl ?_
  refine SD.take rfl panicBody (op_loadX ty3 rfl (by assumption) rfl) rfl rfl ?_
  refine SD.take rfl panicBody (op_indexN Tryz.underlying65 ty70 rfl rfl (by omega)) rfl rfl ?_
  refine SD.take rfl panicBody (op_loadX ty70 rfl hbA (row_read rcT_len ht (by omega))) rfl rfl ?_
  refine SD.nil ?_
  show SL _ _ _ _ _ _ _ [_] _ _ _
  refine SL.w (op_store ty70 rfl rfl (by repeat constructor) rfl rfl rfl) ?_
  rintro _ _ _ ⟨rfl, rfl⟩
  refine SL.nil <| T.ret1 rfl (ResIs.cell rfl ty70 (by repeat constructor) rfl) ?_
  rfl
theorem offset_spec (hR : RowR rcT X v ts) (hl : ts.length < 1000000) (hB : Blk X rb (rdC v i off e)) (ht : ts[i]? = some t) : Spec Tryz.prog 96 [.pointer (some ⟨rb, 0, none⟩)] X fun u _ => u = .int .i64 (t.off : Int) := by
  obtain ⟨A, c, rfl⟩ := hR.form
  obtain ⟨hi, _⟩ := List.getElem?_eq_some_iff.1 ht
  refine Spec.enter Tryz.func96 rfl Tryz.ntmps96 rfl ?_
  intro w0 hw0
  refine T.seq <| T.region <| SL.v (op_assign (v := .int .i64 ((0 : Nat) : Int)) rfl) <| SL.nil <| T.seq <| T.seq <| T.draw (by kernel_rfl) 18 [.t 0, .t 1, .t 2, .t 3, .t 4, .t 5, .t 6, .t 7, .t 8, .t 9, .t 10, .t 11, .t 12, .t 13, .t 14, .t 15, .t 16, .t 17] (by kernel_rfl) ?_
  refine SD.take rfl panicBody (op_move rfl) rfl rfl ?_
  refine SD.take rfl panicBody (op_nil rfl) rfl rfl ?_
  refine SD.take rfl panicBody (op_fieldAddr fa151_1 rfl) rfl rfl ?_
  refine SD.take rfl panicBody (op_loadX ty3 rfl (by assumption) rfl) rfl rfl ?_
  refine SD.take rfl panicBody (op_move rfl) rfl rfl ?_
  refine SD.take rfl panicBody (op_nil rfl) rfl rfl ?_
  refine SD.take rfl panicBody (op_fieldAddr fa151_0 rfl) rfl rfl ?_
  refine SD.take rfl panicBody (op_loadX ty65 rfl (by assumption) rfl) rfl rfl ?_
  refine SD.take rfl panicBody (op_lenS Tryz.underlying65 rfl) rfl rfl ?_
  refine SD.take rfl panicBody (op_geqF rfl rfl (by omega)) rfl rfl ?_
  refine SD.take rfl panicBody (op_move rfl) rfl rfl ?_
  refine SD.skip rfl panicBody rfl rfl ?_
  refine SD.skip rfl panicBody rfl rfl ?_
  refine SD.skip rfl panicBody rfl rfl ?_
  refine SD.skip rfl panicBody rfl rfl ?_
  refine SD.skip rfl panicBody rfl rfl ?_
  refine SD.skip rfl panicBody rfl rfl ?_
  refine SD.take rfl panicBody (op_pickF rfl rfl) rfl rfl ?_
  refine SD.nil ?_
  show SL _ _ _ _ _ _ _ [] _ _ _
  refine SL.nil <| T.condF rfl <| T.skip <| T.seq <| T.region <| SL.mv rfl <| SL.w (op_callF en136 (vs := [_]) rfl (here_spec hR hl hB ht)) ?_
  rintro _ _ X1 ⟨rfl, hX1, rfl⟩
  unfold rcT
  refine SL.v (op_field1 fv70_3 rfl rfl) <| SL.as rfl <| SL.nil <| T.ret1 rfl (ResIs.tmp rfl) ?_
  rfl
theorem ok_spec (hB : Blk X rb (rdC v i off e)) : Spec Tryz.prog 95 [.pointer (some ⟨rb, 0, none⟩)] X fun u _ => u = .bool (decide (e = 0)) := by
  by_cases h : e = 0
  · refine Spec.enter Tryz.func95 rfl Tryz.ntmps95 rfl ?_
    intro w0 hw0
    refine T.seq <| T.region <| SL.as rfl <| SL.nil <| T.seq <| T.region <| SL.mv rfl <| SL.v (op_neqNil Tryz.underlying96 rfl rfl) <| SL.mv rfl <| SL.mv rfl <| SL.v (op_nil rfl) <| SL.v (op_fieldAddr fa151_3 rfl) <| SL.v (op_loadX ty29 rfl (by assumption) rfl) ?_
    refine SL.v (op_eqlT rfl rfl (by omega)) ?_
    refine SL.v (op_pickT rfl rfl) <| SL.as rfl <| SL.nil <| T.ret1 rfl (ResIs.tmp rfl) ?_
    rw [decide_eq_true h]
  · refine Spec.enter Tryz.func95 rfl Tryz.ntmps95 rfl ?_
    intro w0 hw0
    refine T.seq <| T.region <| SL.as rfl <| SL.nil <| T.seq <| T.region <| SL.mv rfl <| SL.v (op_neqNil Tryz.underlying96 rfl rfl) <| SL.mv rfl <| SL.mv rfl <| SL.v (op_nil rfl) <| SL.v (op_fieldAddr fa151_3 rfl) <| SL.v (op_loadX ty29 rfl (by assumption) rfl) ?_
    refine SL.v (op_eqlF rfl rfl (by omega)) ?_
    refine SL.v (op_pickT rfl rfl) <| SL.as rfl <| SL.nil <| T.ret1 rfl (ResIs.tmp rfl) ?_
    rw [decide_eq_false h]
theorem peek_spec (hR : RowR rcT X v ts) (hl : ts.length < 1000000) (hB : Blk X rb (rdC v i off e)) (ht : ts[i]? = some t) : Spec Tryz.prog 89 [.pointer (some ⟨rb, 0, none⟩)] X fun u _ => u = .agg (rcT (pk e t)).toArray := by
  by_cases h : e = 0
  · refine Spec.enter Tryz.func89 rfl Tryz.ntmps89 rfl ?_
    intro w0 hw0
    refine T.seq <| T.region <| SL.w (op_alloc z70) ?_
    rintro _ _ _ ⟨B2, rfl, rfl, rfl⟩
    refine SL.nil <| T.seq <| T.seq <| T.region <| SL.mv rfl <| SL.w (op_callF en95 (vs := [_]) rfl (ok_spec hB)) ?_
    rintro _ _ X1 ⟨rfl, hX1, rfl⟩
    rw [decide_eq_true h]
    refine SL.v (op_not rfl) <| SL.nil <| T.condF rfl <| T.skip <| T.seq <| T.region <| SL.mv rfl <| SL.w (op_callF en136 (vs := [_]) rfl (here_spec (hR.mono hX1) hl (hB.mono hX1) ht)) ?_
    rintro _ _ X2 ⟨rfl, hX2, rfl⟩
    unfold rcT
    refine SL.w (op_store ty70 rfl rfl (by repeat constructor) rfl rfl rfl) ?_
    rintro _ _ _ ⟨rfl, rfl⟩
    refine SL.nil <| T.ret1 rfl (ResIs.cell rfl ty70 (by repeat constructor) rfl) ?_
    rw [pk, if_pos h]
    rfl
  · refine Spec.enter Tryz.func89 rfl Tryz.ntmps89 rfl ?_
    intro w0 hw0
    refine T.seq <| T.region <| SL.w (op_alloc z70) ?_
    rintro _ _ _ ⟨B2, rfl, rfl, rfl⟩
    refine SL.nil <| T.seq <| T.seq <| T.region <| SL.mv rfl <| SL.w (op_callF en95 (vs := [_]) rfl (ok_spec hB)) ?_
    rintro _ _ X1 ⟨rfl, hX1, rfl⟩
    rw [decide_eq_false h]
    refine SL.v (op_not rfl) <| SL.nil <| T.condT rfl <| T.seq <| T.region <| SL.v (op_build st70 (qs := []) rfl rfl) <| SL.w (op_store ty70 rfl rfl (by repeat constructor) rfl rfl rfl) ?_
    rintro _ _ _ ⟨rfl, rfl⟩
    refine SL.nil <| T.ret1 rfl (ResIs.cell rfl ty70 (by repeat constructor) rfl) ?_
    rw [pk, if_neg h]
    rfl
theorem is_spec (hR : RowR rcT X v ts) (hl : ts.length < 1000000) (hB : Blk X rb (rdC v i off e)) (ht : ts[i]? = some t) {w : ByteArray} : Spec Tryz.prog 137 [.pointer (some ⟨rb, 0, none⟩), .string w] X fun u _ => u = .bool (isK w (pk e t)) := by
  refine Spec.enter Tryz.func137 rfl Tryz.ntmps137 rfl ?_
  intro w0 hw0
  refine T.seq <| T.region <| SL.as rfl <| SL.nil <| T.seq <| T.region <| SL.mv rfl <| SL.w (op_callF en89 (vs := [_]) rfl (peek_spec hR hl hB ht)) ?_
  rintro _ _ X1 ⟨rfl, hX1, rfl⟩
  generalize pk e t = t
  obtain ⟨k, x, n, o⟩ := t
  rw [show (rcT ⟨k, x, n, o⟩).toArray = #[.int .u8 (k : Int), .string x, .int .i64 (n : Int), .int .i64 (o : Int)] from rfl]
  by_cases h1 : k = 1
  · subst h1
    refine SL.w (op_alloc z70) ?_
    rintro _ _ _ ⟨B5, rfl, rfl, rfl⟩
    refine SL.w (op_store ty70 rfl rfl (by repeat constructor) rfl rfl rfl) ?_
    rintro _ _ _ ⟨rfl, rfl⟩
    refine SL.nil <| T.seq <| T.region <| SL.v (op_fieldAddr fa70_0 rfl) <| SL.v (op_load ty68 rfl (by repeat constructor) rfl) ?_
    refine SL.v (op_eqlT rfl rfl (by omega)) ?_
    refine SL.mv rfl <| SL.skip rfl rfl ?_
    refine SL.skip rfl rfl ?_
    refine SL.skip rfl rfl ?_
    refine SL.v (op_pickT rfl rfl) <| SL.mv rfl <| SL.v (op_fieldAddr fa70_1 rfl) <| SL.v (op_load ty9 rfl (by repeat constructor) rfl) ?_
    refine SL.mv rfl <| SL.v (op_eqlStrD (s := x) (s' := w) rfl rfl) <| SL.v (op_pickT rfl rfl) <| SL.as rfl <| SL.nil <| T.ret1 rfl (ResIs.tmp rfl) ?_
    simp [isK]
  by_cases h3 : k = 3
  · subst h3
    refine SL.w (op_alloc z70) ?_
    rintro _ _ _ ⟨B5, rfl, rfl, rfl⟩
    refine SL.w (op_store ty70 rfl rfl (by repeat constructor) rfl rfl rfl) ?_
    rintro _ _ _ ⟨rfl, rfl⟩
    refine SL.nil <| T.seq <| T.region <| SL.v (op_fieldAddr fa70_0 rfl) <| SL.v (op_load ty68 rfl (by repeat constructor) rfl) ?_
    refine SL.v (op_eqlF rfl rfl (by omega)) ?_
    refine SL.mv rfl <| SL.v (op_fieldAddr fa70_0 rfl) <| SL.v (op_load ty68 rfl (by repeat constructor) rfl) ?_
    refine SL.v (op_eqlT rfl rfl (by omega)) ?_
    refine SL.v (op_pickF rfl rfl) <| SL.mv rfl <| SL.v (op_fieldAddr fa70_1 rfl) <| SL.v (op_load ty9 rfl (by repeat constructor) rfl) ?_
    refine SL.mv rfl <| SL.v (op_eqlStrD (s := x) (s' := w) rfl rfl) <| SL.v (op_pickT rfl rfl) <| SL.as rfl <| SL.nil <| T.ret1 rfl (ResIs.tmp rfl) ?_
    simp [isK]
  refine SL.w (op_alloc z70) ?_
  rintro _ _ _ ⟨B5, rfl, rfl, rfl⟩
  refine SL.w (op_store ty70 rfl rfl (by repeat constructor) rfl rfl rfl) ?_
  rintro _ _ _ ⟨rfl, rfl⟩
  refine SL.nil <| T.seq <| T.region <| SL.v (op_fieldAddr fa70_0 rfl) <| SL.v (op_load ty68 rfl (by repeat constructor) rfl) ?_
  refine SL.v (op_eqlF rfl rfl (by omega)) ?_
  refine SL.mv rfl <| SL.v (op_fieldAddr fa70_0 rfl) <| SL.v (op_load ty68 rfl (by repeat constructor) rfl) ?_
  refine SL.v (op_eqlF rfl rfl (by omega)) ?_
  refine SL.v (op_pickF rfl rfl) <| SL.mv rfl <| SL.skip rfl rfl ?_
  refine SL.skip rfl rfl ?_
  refine SL.skip rfl rfl ?_
  refine SL.skip rfl rfl ?_
  refine SL.v (op_pickF rfl rfl) <| SL.as rfl <| SL.nil <| T.ret1 rfl (ResIs.tmp rfl) ?_
  simp [isK, h1, h3]
theorem err_spec (hB : Blk X rb (rdC v i off e)) : Spec Tryz.prog 45 [.pointer (some ⟨rb, 0, none⟩)] X fun u _ => u = .tuple #[.int .i64 (off : Int), .int .i64 e] := by
  refine Spec.enter Tryz.func45 rfl Tryz.ntmps45 rfl ?_
  intro w0 hw0
  refine T.seq <| T.region <| SL.v (op_assign (v := .int .i64 ((0 : Nat) : Int)) rfl) <| SL.v (op_assign (v := .int .i64 ((0 : Nat) : Int)) rfl) <| SL.nil <| T.seq <| T.seq <| T.region <| SL.mv rfl <| SL.v (op_eqlNil Tryz.underlying96 rfl rfl) <| SL.nil <| T.condF rfl <| T.skip <| T.seq <| T.draw (by kernel_rfl) 10 [.t 0, .t 1, .t 2, .t 3, .t 4, .t 5, .t 6, .t 7, .t 8, .t 9] (by kernel_rfl) ?_
  refine SD.take rfl panicBody (op_move rfl) rfl rfl ?_
  refine SD.take rfl panicBody (op_nil rfl) rfl rfl ?_
  refine SD.take rfl panicBody (op_fieldAddr fa151_2 rfl) rfl rfl ?_
  refine SD.take rfl panicBody (op_loadX ty3 rfl (by assumption) rfl) rfl rfl ?_
  refine SD.take rfl panicBody (op_move rfl) rfl rfl ?_
  refine SD.take rfl panicBody (op_nil rfl) rfl rfl ?_
  refine SD.take rfl panicBody (op_fieldAddr fa151_3 rfl) rfl rfl ?_
  refine SD.take rfl panicBody (op_loadX ty29 rfl (by assumption) rfl) rfl rfl ?_
  refine SD.take rfl panicBody (op_assign rfl) rfl rfl ?_
  refine SD.take rfl panicBody (op_assign rfl) rfl rfl ?_
  refine SD.nil ?_
  show SL _ _ _ _ _ _ _ [] _ _ _
  refine SL.nil <| T.ret2 rfl (ResIs.tmp rfl) (ResIs.tmp rfl) ?_
  rfl
theorem failed_spec {pb : Nat} (hP : Blk X pb [.pointer (some ⟨rb, 0, none⟩)]) (hB : Blk X rb (rdC v i off e)) : Spec Tryz.prog 88 [.pointer (some ⟨pb, 0, none⟩)] X fun u _ => u = .bool (decide (e ≠ 0)) := by
  refine Spec.enter Tryz.func88 rfl Tryz.ntmps88 rfl ?_
  intro w0 hw0
  refine T.seq <| T.region <| SL.as rfl <| SL.nil <| T.seq <| T.region <| SL.mv rfl <| SL.v (op_nil rfl) <| SL.v (op_fieldAddr fa98_0 rfl) <| SL.v (op_loadX ty96 rfl (by assumption) rfl) ?_
  refine SL.w (op_callF en45 (vs := [_]) rfl (err_spec hB)) ?_
  rintro _ _ X1 ⟨rfl, hX1, rfl⟩
  refine SL.mv rfl <| SL.v (op_extract rfl rfl) <| SL.v (op_extract rfl rfl) <| SL.as rfl <| SL.as rfl <| SL.nil <| T.seq <| T.region <| SL.mv rfl <| SL.v (op_neq rfl rfl) <| SL.as rfl <| SL.nil <| T.ret1 rfl (ResIs.tmp rfl) ?_
  rfl
theorem done_spec {pb : Nat} (hP : Blk X pb [.pointer (some ⟨rb, 0, none⟩)]) (hR : RowR rcT X v ts) (hl : ts.length < 1000000) (hB : Blk X rb (rdC v i off e)) (ht : ts[i]? = some t) : Spec Tryz.prog 43 [.pointer (some ⟨pb, 0, none⟩)] X fun u _ => u = .bool (decide (e ≠ 0 ∨ t.kind = 0)) := by
  by_cases h : e = 0
  · refine Spec.enter Tryz.func43 rfl Tryz.ntmps43 rfl ?_
    intro w0 hw0
    refine T.seq <| T.region <| SL.as rfl <| SL.nil <| T.seq <| T.region <| SL.mv rfl <| SL.w (op_callF en88 (vs := [_]) rfl (failed_spec hP hB)) ?_
    rintro _ _ X1 ⟨rfl, hX1, rfl⟩
    have hP := hP.mono hX1
    rw [decide_eq_false (show ¬(e ≠ 0) from fun hh => hh h)]
    refine SL.mv rfl <| SL.mv rfl <| SL.v (op_nil rfl) <| SL.v (op_fieldAddr fa98_0 rfl) <| SL.v (op_loadX ty96 rfl (by assumption) rfl) ?_
    refine SL.w (op_callF en89 (vs := [_]) rfl (peek_spec (hR.mono hX1) hl (hB.mono hX1) ht)) ?_
    rintro _ _ X2 ⟨rfl, hX2, rfl⟩
    rw [pk, if_pos h]
    unfold rcT
    by_cases hk : t.kind = 0
    · skip
      refine SL.v (op_field1 fv70_0 rfl rfl) <| SL.v (op_eqlT rfl rfl (by omega)) ?_
      refine SL.v (op_pickF rfl rfl) <| SL.as rfl <| SL.nil <| T.ret1 rfl (ResIs.tmp rfl) ?_
      rw [decide_eq_true (.inr hk)]
    · refine SL.v (op_field1 fv70_0 rfl rfl) <| SL.v (op_eqlF rfl rfl (by omega)) ?_
      refine SL.v (op_pickF rfl rfl) <| SL.as rfl <| SL.nil <| T.ret1 rfl (ResIs.tmp rfl) ?_
      rw [decide_eq_false (by simp [h, hk])]
  · refine Spec.enter Tryz.func43 rfl Tryz.ntmps43 rfl ?_
    intro w0 hw0
    refine T.seq <| T.region <| SL.as rfl <| SL.nil <| T.seq <| T.region <| SL.mv rfl <| SL.w (op_callF en88 (vs := [_]) rfl (failed_spec hP hB)) ?_
    rintro _ _ X1 ⟨rfl, hX1, rfl⟩
    rw [decide_eq_true (show e ≠ 0 from h)]
    refine SL.mv rfl <| SL.skip rfl rfl ?_
    refine SL.skip rfl rfl ?_
    refine SL.skip rfl rfl ?_
    refine SL.skip rfl rfl ?_
    refine SL.skip rfl rfl ?_
    refine SL.skip rfl rfl ?_
    refine SL.skip rfl rfl ?_
    refine SL.v (op_pickT rfl rfl) <| SL.as rfl <| SL.nil <| T.ret1 rfl (ResIs.tmp rfl) ?_
    rw [decide_eq_true (.inl h)]
end
end Go.Proofs.YtnabbnhefjfegaaGreatDoor
namespace Go.Proofs.YtnabbnhefjfegaaGreatDoor
section
set_option maxRecDepth 100000
theorem en137 : Enters Tryz.prog 137 := enters_mk Tryz.func137 (by kernel_rfl) rfl
theorem en96 : Enters Tryz.prog 96 := enters_mk Tryz.func96 (by kernel_rfl) rfl
end
open Go.RowKit
section
variable {X : PMap} {v : Value} {ts : List Tk} {rb i off : Nat} {e : Int} {t : Tk}
theorem accept_spec (hR : RowR rcT X v ts) (hl : ts.length < 1000000) (ht : ts[i]? = some t) {w : ByteArray} : SpecM Tryz.prog 90 [.pointer (some ⟨rb, 0, none⟩), .string w] X [RdO rb v i off e] fun u L' _ => u = .bool (isK w (pk e t)) ∧ L' = [RdO rb v (if isK w (pk e t) then i + 1 else i) off e] := by
  obtain ⟨hi, _⟩ := List.getElem?_eq_some_iff.1 ht
  refine SpecM.enter Tryz.func90 rfl Tryz.ntmps90 rfl ?_
  intro w0 X0 own0
  refine T.seq <| T.region <| SL.as rfl <| SL.nil <| T.seq <| T.region <| SL.mv rfl <| SL.mv rfl <| SL.w (op_callLend en137 (vs := [_, _]) rfl ((fun X1 h1 h2 => (is_spec (w := w) (hR.mono h1) hl (h2 (RdO rb v i off e) (by simp)) ht : Spec _ _ _ _ fun u _ => u = .bool (isK w (pk e t)))))) ?_
  rintro _ _ _ ⟨rfl, rfl, rfl⟩
  cases hk : isK w (pk e t) with
  | true =>
    refine SL.as rfl <| SL.nil <| T.seq <| T.seq <| T.region <| SL.mv rfl <| SL.nil <| T.condT rfl <| T.region <| SL.mv rfl <| SL.v (op_nil rfl) <| SL.v (op_fieldAddr fa151_1 rfl) <| SL.v (op_load ty3 rfl (by repeat constructor) rfl) ?_
    refine SL.v (op_addN (q := 1) rfl rfl (by omega)) ?_
    refine SL.v (op_nil rfl) <| SL.v (op_fieldAddr fa151_1 rfl) <| SL.w (op_store ty3 rfl rfl (by repeat constructor) rfl rfl rfl) ?_
    rintro _ _ _ ⟨rfl, rfl⟩
    refine SL.nil <| T.seq <| T.region <| SL.mv rfl <| SL.as rfl <| SL.nil <| T.retM1 [RdO rb v (i + 1) off e] rfl (ResIs.tmp rfl) (List.Perm.refl _) ?_
    exact ⟨PMap.le_refl _, rfl, rfl⟩
  | false =>
    refine SL.as rfl <| SL.nil <| T.seq <| T.seq <| T.region <| SL.mv rfl <| SL.nil <| T.condF rfl <| T.skip <| T.seq <| T.region <| SL.mv rfl <| SL.as rfl <| SL.nil <| T.retM1 [RdO rb v i off e] rfl (ResIs.tmp rfl) (List.Perm.refl _) ?_
    exact ⟨PMap.le_refl _, rfl, rfl⟩
theorem fail_spec (hR : RowR rcT X v ts) (hl : ts.length < 1000000) (ht : ts[i]? = some t) {c : Int} (hc : c ≠ 0) : SpecM Tryz.prog 47 [.pointer (some ⟨rb, 0, none⟩), .int .i64 c] X [RdO rb v i off e] fun _ L' _ => L' = [if e = 0 then RdO rb v i t.off c else RdO rb v i off e] := by
  refine SpecM.enter Tryz.func47 rfl Tryz.ntmps47 rfl ?_
  intro w0 X0 own0
  refine T.seq <| T.region <| SL.mv rfl <| SL.w (op_callLend en95 (vs := [_]) rfl ((fun X1 h1 h2 => (ok_spec (h2 (RdO rb v i off e) (by simp)) : Spec _ _ _ _ fun u _ => u = .bool (decide (e = 0)))))) ?_
  rintro _ _ _ ⟨rfl, rfl, rfl⟩
  by_cases h : e = 0
  · rw [decide_eq_true h, if_pos h]
    refine SL.mv rfl <| SL.mv rfl <| SL.v (op_neqT rfl rfl (by omega)) ?_
    refine SL.v (op_pickT rfl rfl) <| SL.nil <| T.condT rfl <| T.region <| SL.mv rfl <| SL.mv rfl <| SL.mv rfl <| SL.w (op_callLend en96 (vs := [_]) rfl ((fun X1 h1 h2 => (offset_spec (hR.mono h1) hl (h2 (RdO rb v i off e) (by simp)) ht : Spec _ _ _ _ fun u _ => u = .int .i64 (t.off : Int))))) ?_
    rintro _ _ _ ⟨rfl, rfl, rfl⟩
    refine SL.mv rfl <| SL.v (op_nil rfl) <| SL.v (op_fieldAddr fa151_2 rfl) <| SL.w (op_store ty3 rfl rfl (by repeat constructor) rfl rfl rfl) ?_
    rintro _ _ _ ⟨rfl, rfl⟩
    refine SL.v (op_nil rfl) <| SL.v (op_fieldAddr fa151_3 rfl) <| SL.w (op_store ty29 rfl rfl (by repeat constructor) rfl rfl rfl) ?_
    rintro _ _ _ ⟨rfl, rfl⟩
    refine SL.nil <| T.doneM0 [RdO rb v i t.off c] rfl (List.Perm.refl _) ?_
    exact ⟨PMap.le_refl _, rfl⟩
  · rw [decide_eq_false h, if_neg h]
    refine SL.mv rfl <| SL.skip rfl rfl ?_
    refine SL.skip rfl rfl ?_
    refine SL.v (op_pickF rfl rfl) <| SL.nil <| T.condF rfl <| T.skip <| T.doneM0 [RdO rb v i off e] rfl (List.Perm.refl _) ?_
    exact ⟨PMap.le_refl _, rfl⟩
end
end Go.Proofs.YtnabbnhefjfegaaGreatDoor
namespace Go.Proofs.YtnabbnhefjfegaaGreatDoor
open Go.RowKit
theorem cons_erase {α : Type} : ∀ (l : List α) (j : Nat) (h : j < l.length), (l[j] :: l.eraseIdx j).Perm l
  | [], j, h => by cases h
  | a :: l, 0, _ => List.Perm.refl _
  | a :: l, j + 1, h => by
    rw [List.eraseIdx_cons_succ, List.getElem_cons_succ]
    exact (List.Perm.swap _ _ _).trans (List.Perm.cons a (cons_erase l j (by simpa using h)))
section
variable {P : Program} {n : NM} {w0 : Base} {X0 X : PMap} {own : Own} {env : Env}
/-- A call that changes one of the call's own blocks, whichever stands where. -/
theorem op_callJ {c : Operand} {f : FuncId} {xs : Array Operand} {ts : Array TypeId} {fs cs : Array Value} {vs : List Value} {x : Ow} {j : Nat} {Φ : Value → Ow → PMap → Prop} (he : Enters P f) (hc : eev env c = some (.func (.func f) fs cs)) (hx : xs.toList.map (eev env) = vs.map some)
    (h : SpecM P f (fs.toList ++ vs ++ cs.toList) X [x] fun u L' X' => ∃ x', L' = [x'] ∧ Φ u x' X') (hj : AtO own x.b x.cs x.ty x.sz j) : OpX P n w0 X0 env own X (.call { callee := .value c, args := xs, argTypes := ts }) false fun v own' X' => ∃ x', own' = own.set j x' ∧ X.le X' ∧ Φ v x' X' := by
  intro a W oper K Q ro hop ha hs hK
  have all : ∀ (xs : List Operand) (vs : List Value), xs.map (eev env) = vs.map some → xs.map a.eval = vs := by
    intro xs
    induction xs with
    | nil => intro vs h; cases vs <;> simp_all
    | cons x xs ih =>
      intro vs h
      cases vs with
      | nil => simp at h
      | cons v vs =>
        simp only [List.map_cons, List.cons.injEq] at h
        simp [ha.eval h.1, ih vs h.2]
  have h1 : xs.map a.eval = vs.toArray := by apply Array.toList_inj.1; simp [all _ _ hx]
  have hex : (execOp a.eval oper).run P W = .ok (.enter f (fs.toList ++ vs ++ cs.toList).toArray) W := by
    have hargs : fs ++ vs.toArray ++ cs = (fs.toList ++ vs ++ cs.toList).toArray := by apply Array.toList_inj.1; simp
    simp only [execOp, hop, resolve, ha.eval hc, h1, Deferred.ofValue, invoke, Sem.run_bind, Sem.run_pure, Result.andThen_ok]
    rw [hargs]
    exact he _ _
  obtain ⟨hjl, hjx⟩ := List.getElem?_eq_some_iff.1 hj.get
  have hp : own.Perm ([x] ++ own.eraseIdx j) := by
    have := cons_erase own j hjl
    rw [hjx] at this
    exact this.symm
  refine wp_enters (noDefer_spec (by rw [hop]; rfl)) hex ((h w0 X0 (own.eraseIdx j) W (hs.perm hp)).mono fun e w' hfin => ?_)
  obtain ⟨v, L', X', rfl, hsat, hX, x', rfl, hΦ⟩ := hfin
  have hp' : ([x'] ++ own.eraseIdx j).Perm (own.set j x') := by
    have hl : j < (own.set j x').length := by rw [List.length_set]; exact hjl
    have := cons_erase (own.set j x') j hl
    rw [List.getElem_set_self, List.eraseIdx_set_eq] at this
    exact this
  exact ⟨v, rfl, hK v _ X' w' ⟨x', rfl, hX, hΦ⟩ (hsat.perm hp') (fun h => by cases h)⟩
end
abbrev RSt := Except (Nat × Int) (List Tk)
/-- The tokens of a source, in a row. -/
structure Tks (X : PMap) (v : Value) (ts : List Tk) : Prop where
  row : RowR rcT X v ts
  len : ts.length < 1000000
  fin : ∀ t, ts[ts.length - 1]? = some t → t.kind = 0
theorem Tks.mono {X X' : PMap} {v : Value} {ts : List Tk} (h : Tks X v ts) (hX : X.le X') : Tks X' v ts := ⟨h.row.mono hX, h.len, h.fin⟩
def RdS (ts : List Tk) (st : RSt) (i off : Nat) (e : Int) : Prop := i < ts.length ∧ match st with | .ok l => off = 0 ∧ e = 0 ∧ l = ts.drop i | .error x => off = x.1 ∧ e = x.2 ∧ x.2 ≠ 0
def accM (w : ByteArray) : RSt → Bool × RSt
  | .ok l => if isT w l then (true, .ok l.tail) else (false, .ok l)
  | .error x => (false, .error x)
def expM (w : ByteArray) : RSt → RSt
  | .ok l => if isT w l then .ok l.tail else .error (offT l, 8)
  | .error x => .error x
noncomputable def namM : RSt → ByteArray × RSt
  | .ok l => match nameT l with
    | .ok (s, l') => (s, .ok l')
    | .error x => (⟨#[]⟩, .error x)
  | .error x => (⟨#[]⟩, .error x)
/-- What is left is no longer than before. -/
def Sh (st st' : RSt) : Prop := ∀ l', st' = .ok l' → ∃ l, st = .ok l ∧ l'.length ≤ l.length
theorem Sh.refl (st : RSt) : Sh st st := fun l h => ⟨l, h, Nat.le_refl _⟩
theorem Sh.trans {a b c : RSt} (h : Sh a b) (h' : Sh b c) : Sh a c := fun l hl => by
  obtain ⟨l1, h1, h2⟩ := h' l hl
  obtain ⟨l2, h3, h4⟩ := h l1 h1
  exact ⟨l2, h3, Nat.le_trans h2 h4⟩
section
variable {ts : List Tk} {st : RSt} {i off : Nat} {e : Int}
theorem RdS.tok (h : RdS ts st i off e) : ∃ t, ts[i]? = some t := ⟨_, List.getElem?_eq_getElem h.1⟩
theorem drop_tok {t : Tk} (ht : ts[i]? = some t) : ts.drop i = t :: ts.drop (i + 1) := by
  obtain ⟨h1, h2⟩ := List.getElem?_eq_some_iff.1 ht
  rw [List.drop_eq_getElem_cons h1, h2]
theorem isT_cons {w : ByteArray} {t : Tk} {l : List Tk} : isT w (t :: l) = isK w t := rfl
theorem isK_end {w : ByteArray} : isK w endT = false := rfl
theorem isK_kind {w : ByteArray} {t : Tk} (h : isK w t = true) : t.kind ≠ 0 := by
  intro h0
  simp [isK, h0] at h
theorem next_lt (hf : ∀ t, ts[ts.length - 1]? = some t → t.kind = 0) {t : Tk} (ht : ts[i]? = some t) (hk : t.kind ≠ 0) : i + 1 < ts.length := by
  obtain ⟨h1, h2⟩ := List.getElem?_eq_some_iff.1 ht
  rcases Nat.lt_or_ge (i + 1) ts.length with h | h
  · exact h
  · exact absurd (hf t (by rw [show ts.length - 1 = i by omega]; exact ht)) hk
theorem RdS.acc (hf : ∀ t, ts[ts.length - 1]? = some t → t.kind = 0) (h : RdS ts st i off e) {t : Tk} (ht : ts[i]? = some t) (w : ByteArray) : isK w (pk e t) = (accM w st).1 ∧ RdS ts (accM w st).2 (if isK w (pk e t) then i + 1 else i) off e ∧ Sh st (accM w st).2 := by
  obtain ⟨h1, h2⟩ := h
  cases st with
  | error x =>
    obtain ⟨rfl, rfl, h3⟩ := h2
    have hp : pk x.2 t = endT := by rw [pk, if_neg h3]
    rw [hp, isK_end]
    exact ⟨rfl, ⟨h1, rfl, rfl, h3⟩, Sh.refl _⟩
  | ok l =>
    obtain ⟨rfl, rfl, rfl⟩ := h2
    have hp : pk 0 t = t := by rw [pk, if_pos rfl]
    rw [hp]
    have hd := drop_tok ht
    have hi : isT w (ts.drop i) = isK w t := by rw [hd, isT_cons]
    unfold accM
    simp only [hi]
    cases hk : isK w t with
    | true =>
      have hlt := next_lt hf ht (isK_kind hk)
      exact ⟨rfl, ⟨hlt, rfl, rfl, by rw [hd]; rfl⟩, fun l' hl' => ⟨_, rfl, by
        have := Except.ok.inj hl'
        subst this
        rw [List.length_tail]; omega⟩⟩
    | false => exact ⟨rfl, ⟨h1, rfl, rfl, rfl⟩, Sh.refl _⟩
end
end Go.Proofs.YtnabbnhefjfegaaGreatDoor
namespace Go.Proofs.YtnabbnhefjfegaaGreatDoor
section
set_option maxRecDepth 100000
theorem en47 : Enters Tryz.prog 47 := enters_mk Tryz.func47 (by kernel_rfl) rfl
theorem en90 : Enters Tryz.prog 90 := enters_mk Tryz.func90 (by kernel_rfl) rfl
end
open Go.RowKit
theorem SpecM.mono {P : Program} {f : FuncId} {vs : List Value} {X : PMap} {L : Own} {Φ Ψ : Value → Own → PMap → Prop} (h : SpecM P f vs X L Φ) (hk : ∀ v L' X', X.le X' → Φ v L' X' → Ψ v L' X') : SpecM P f vs X L Ψ :=
  fun w0 X0 own0 W hs => (h w0 X0 own0 W hs).mono fun _ _ ⟨v, L', X', he, hsat, hX, hΦ⟩ => ⟨v, L', X', he, hsat, hX, hk v L' X' hX hΦ⟩
def failM (c : Int) : RSt → RSt
  | .ok l => .error (offT l, c)
  | .error x => .error x
/-- A function that moves the cursor. -/
def SpecR (P : Program) (f : FuncId) (vs : List Value) (X : PMap) (ts : List Tk) (rb : Nat) (v : Value) (i off : Nat) (e : Int) (Ψ : Value → RSt → PMap → Prop) : Prop :=
  SpecM P f vs X [RdO rb v i off e] fun u L' X' => ∃ x', L' = [x'] ∧ ∃ (i' off' : Nat) (e' : Int) (st' : RSt), x' = RdO rb v i' off' e' ∧ RdS ts st' i' off' e' ∧ Ψ u st' X'
section
variable {X : PMap} {v : Value} {ts : List Tk} {rb i off : Nat} {e : Int} {st : RSt}
theorem acc_spec (hT : Tks X v ts) (hS : RdS ts st i off e) {w : ByteArray} : SpecR Tryz.prog 90 [.pointer (some ⟨rb, 0, none⟩), .string w] X ts rb v i off e fun u st' _ => u = .bool (accM w st).1 ∧ st' = (accM w st).2 := by
  obtain ⟨t, ht⟩ := hS.tok
  obtain ⟨h1, h2, _⟩ := hS.acc hT.fin ht w
  exact (accept_spec hT.row hT.len ht).mono fun u L' X' _ ⟨hu, hL⟩ => ⟨_, hL, _, _, _, _, rfl, h2, by rw [hu, h1], rfl⟩
theorem RdS.fail (h : RdS ts st i off e) {t : Tk} (ht : ts[i]? = some t) {c : Int} (hc : c ≠ 0) : ∃ i' off' e', (if e = 0 then RdO rb v i t.off c else RdO rb v i off e) = RdO rb v i' off' e' ∧ RdS ts (failM c st) i' off' e' := by
  obtain ⟨h1, h2⟩ := h
  cases st with
  | error x =>
    obtain ⟨rfl, rfl, h3⟩ := h2
    rw [if_neg h3]
    exact ⟨i, x.1, x.2, rfl, h1, rfl, rfl, h3⟩
  | ok l =>
    obtain ⟨rfl, rfl, rfl⟩ := h2
    rw [if_pos rfl]
    exact ⟨i, t.off, c, rfl, h1, by rw [drop_tok ht]; rfl, rfl, hc⟩
theorem failR_spec (hT : Tks X v ts) (hS : RdS ts st i off e) {c : Int} (hc : c ≠ 0) : SpecR Tryz.prog 47 [.pointer (some ⟨rb, 0, none⟩), .int .i64 c] X ts rb v i off e fun _ st' _ => st' = failM c st := by
  obtain ⟨t, ht⟩ := hS.tok
  obtain ⟨i', off', e', h1, h2⟩ := hS.fail (rb := rb) (v := v) ht hc
  exact (fail_spec hT.row hT.len ht hc).mono fun u L' X' _ hL => ⟨_, hL, i', off', e', _, h1, h2, rfl⟩
theorem exp_spec (hT : Tks X v ts) (hS : RdS ts st i off e) {w : ByteArray} : SpecR Tryz.prog 91 [.pointer (some ⟨rb, 0, none⟩), .string w] X ts rb v i off e fun _ st' _ => st' = expM w st := by
  obtain ⟨t, ht⟩ := hS.tok
  obtain ⟨h1, h2, _⟩ := hS.acc hT.fin ht w
  refine SpecM.enter Tryz.func91 rfl Tryz.ntmps91 rfl ?_
  intro w0 X0 own0
  refine T.seq <| T.region <| SL.mv rfl <| SL.mv rfl <| SL.w (op_callJ en90 rfl (vs := [_, _]) rfl (acc_spec hT hS) (by repeat constructor)) ?_
  rintro _ _ X1 ⟨_, rfl, hX1, i1, off1, e1, _, rfl, hS1, rfl, rfl⟩
  cases ha : (accM w st).1 with
  | true =>
    refine SL.v (op_not rfl) <| SL.nil <| T.condF rfl <| T.skip <| T.doneM0 [RdO rb v i1 off1 e1] rfl (List.Perm.refl _) ?_
    refine ⟨hX1, _, rfl, i1, off1, e1, _, rfl, hS1, ?_⟩
    cases st with
    | error x => cases ha
    | ok l =>
      cases hk : isT w l with
      | true => simp only [accM, expM, hk]; rfl
      | false => simp only [accM, hk] at ha; cases ha
  | false =>
    have hst : (accM w st).2 = st ∧ expM w st = failM 8 st := by
      cases st with
      | error x => exact ⟨rfl, rfl⟩
      | ok l =>
        cases hk : isT w l with
        | true => simp only [accM, hk] at ha; cases ha
        | false => simp only [accM, expM, hk]; exact ⟨rfl, rfl⟩
    rw [hst.1] at hS1
    refine SL.v (op_not rfl) <| SL.nil <| T.condT rfl <| T.region <| SL.mv rfl <| SL.w (op_callJ en47 rfl (vs := [_, _]) rfl (failR_spec (hT.mono hX1) hS1 (by decide)) (by repeat constructor)) ?_
    rintro _ _ X2 ⟨_, rfl, hX2, i2, off2, e2, _, rfl, hS2, rfl⟩
    refine SL.nil <| T.doneM0 [RdO rb v i2 off2 e2] rfl (List.Perm.refl _) ?_
    exact ⟨hX1.trans' hX2, _, rfl, i2, off2, e2, _, rfl, hS2, hst.2.symm⟩
theorem nam_spec (hT : Tks X v ts) (hS : RdS ts st i off e) : SpecR Tryz.prog 92 [.pointer (some ⟨rb, 0, none⟩)] X ts rb v i off e fun u st' _ => u = .string (namM st).1 ∧ st' = (namM st).2 := by
  obtain ⟨t, ht⟩ := hS.tok
  refine SpecM.enter Tryz.func92 rfl Tryz.ntmps92 rfl ?_
  intro w0 X0 own0
  refine T.seq <| T.region <| SL.as rfl <| SL.nil <| T.seq <| T.region <| SL.mv rfl <| SL.w (op_callLend en89 (vs := [_]) rfl ((fun X1 h1 h2 => (peek_spec (hT.row.mono h1) hT.len (h2 (RdO rb v i off e) (by simp)) ht : Spec _ _ _ _ fun u _ => u = .agg (rcT (pk e t)).toArray)))) ?_
  rintro _ _ _ ⟨rfl, rfl, rfl⟩
  generalize hpt : pk e t = q
  obtain ⟨k, x, n, o⟩ := q
  rw [show (rcT ⟨k, x, n, o⟩).toArray = #[.int .u8 (k : Int), .string x, .int .i64 (n : Int), .int .i64 (o : Int)] from rfl]
  by_cases hk : k = 1
  case neg =>
    have hm : namM st = (⟨#[]⟩, failM 8 st) := by
      obtain ⟨h1, h2⟩ := hS
      cases st with
      | error x => rfl
      | ok l =>
        obtain ⟨rfl, rfl, rfl⟩ := h2
        rw [pk, if_pos rfl] at hpt
        subst hpt
        simp only [namM, failM, drop_tok ht, nameT]
        rw [if_pos (.inl hk)]
        rfl
    refine SL.w (op_alloc z70) ?_
    rintro _ _ _ ⟨B3, rfl, rfl, rfl⟩
    refine SL.w (op_store ty70 rfl rfl (by repeat constructor) rfl rfl rfl) ?_
    rintro _ _ _ ⟨rfl, rfl⟩
    refine SL.nil <| T.seq <| T.block <| T.seq <| T.draw (by kernel_rfl) 10 [.t 0, .t 1, .t 2, .t 3, .t 5, .t 6, .r 4, .r 7, .t 8, .t 9] (by kernel_rfl) ?_
    refine SD.take rfl panicBody (op_fieldAddr fa70_0 rfl) rfl rfl ?_
    refine SD.take rfl panicBody (op_load ty68 rfl (by repeat constructor) rfl) rfl rfl ?_
    refine SD.take rfl panicBody (op_neqT rfl rfl (by omega)) rfl rfl ?_
    refine SD.take rfl panicBody (op_move rfl) rfl rfl ?_
    refine SD.skip rfl panicBody rfl rfl ?_
    refine SD.skip rfl panicBody rfl rfl ?_
    refine SD.skipF rfl rfl rfl ?_
    refine SD.skipF rfl rfl rfl ?_
    refine SD.take rfl panicBody (op_pickT rfl rfl) rfl rfl ?_
    refine SD.take rfl panicBody (op_assign rfl) rfl rfl ?_
    refine SD.nil ?_
    show SL _ _ _ _ _ _ _ [] _ _ _
    refine SL.nil <| T.condT rfl <| T.seq <| T.region <| SL.mv rfl <| SL.w (op_callJ en47 rfl (vs := [_, _]) rfl (failR_spec hT hS (by decide)) (by repeat constructor)) ?_
    rintro _ _ X2 ⟨_, rfl, hX2, i2, off2, e2, _, rfl, hS2, rfl⟩
    refine SL.nil <| T.seq <| T.region <| SL.as rfl <| SL.nil <| T.drop B3 (by repeat constructor) ?_
    refine T.retM1 [RdO rb v i2 off2 e2] rfl (ResIs.tmp rfl) (List.Perm.refl _) ?_
    exact ⟨hX2, _, rfl, i2, off2, e2, _, rfl, hS2, by rw [hm], by rw [hm]⟩
  subst hk
  have he : e = 0 := by
    by_cases h : e = 0
    · exact h
    · rw [pk, if_neg h] at hpt; cases hpt
  obtain ⟨l, rfl⟩ : ∃ l, st = .ok l := by
    obtain ⟨_, h2⟩ := hS
    cases st with
    | error x => obtain ⟨_, h3, h4⟩ := h2; exact absurd (h3.symm.trans he) h4
    | ok l => exact ⟨l, rfl⟩
  have hl : l = ⟨1, x, n, o⟩ :: ts.drop (i + 1) := by
    rw [pk, if_pos he] at hpt
    subst hpt
    rw [hS.2.2.2]; exact drop_tok ht
  have hlt : i + 1 < ts.length := by
    rw [pk, if_pos he] at hpt
    exact next_lt hT.fin ht (by rw [hpt]; exact fun h => by cases h)
  refine SL.w (op_alloc z70) ?_
  rintro _ _ _ ⟨B3, rfl, rfl, rfl⟩
  refine SL.w (op_store ty70 rfl rfl (by repeat constructor) rfl rfl rfl) ?_
  rintro _ _ _ ⟨rfl, rfl⟩
  refine SL.nil <| T.seq <| T.block <| T.seq <| T.draw (by kernel_rfl) 10 [.t 0, .t 1, .t 2, .t 3, .t 5, .t 6, .r 4, .r 7, .t 8, .t 9] (by kernel_rfl) ?_
  refine SD.take rfl panicBody (op_fieldAddr fa70_0 rfl) rfl rfl ?_
  refine SD.take rfl panicBody (op_load ty68 rfl (by repeat constructor) rfl) rfl rfl ?_
  refine SD.take rfl panicBody (op_neqF rfl rfl (by omega)) rfl rfl ?_
  refine SD.take rfl panicBody (op_move rfl) rfl rfl ?_
  refine SD.take rfl panicBody (op_fieldAddr fa70_1 rfl) rfl rfl ?_
  refine SD.take rfl panicBody (op_load ty9 rfl (by repeat constructor) rfl) rfl rfl ?_
  refine SD.run rfl (op_callF en82 (vs := []) rfl (keyws_spec)) rfl rfl ?_
  rintro kv _ X1 ⟨rfl, hX1, hkv⟩
  obtain ⟨Ak, ck, rfl⟩ := hkv.form
  refine SD.run rfl (op_callF en81 (vs := [_, _]) rfl (scontains_spec hkv)) rfl rfl ?_
  rintro _ _ X2 ⟨rfl, hX2, rfl⟩
  have hT := (hT.mono hX1).mono hX2
  by_cases h3 : x ∈ keyws
  · have hm : namM (.ok l) = (⟨#[]⟩, failM 8 (.ok l)) := by
      subst hl
      simp only [namM, failM, nameT]
      rw [if_pos (.inr h3)]
      rfl
    rw [decide_eq_true h3]
    refine SD.take rfl panicBody (op_pickF rfl rfl) rfl rfl ?_
    refine SD.take rfl panicBody (op_assign rfl) rfl rfl ?_
    refine SD.nil ?_
    show SL _ _ _ _ _ _ _ [] _ _ _
    refine SL.nil <| T.condT rfl <| T.seq <| T.region <| SL.mv rfl <| SL.w (op_callJ en47 rfl (vs := [_, _]) rfl (failR_spec hT hS (by decide)) (by repeat constructor)) ?_
    rintro _ _ X3 ⟨_, rfl, hX3, i2, off2, e2, _, rfl, hS2, rfl⟩
    refine SL.nil <| T.seq <| T.region <| SL.as rfl <| SL.nil <| T.drop B3 (by repeat constructor) ?_
    refine T.retM1 [RdO rb v i2 off2 e2] rfl (ResIs.tmp rfl) (List.Perm.refl _) ?_
    exact ⟨(hX1.trans' hX2).trans' hX3, _, rfl, i2, off2, e2, _, rfl, hS2, by rw [hm], by rw [hm]⟩
  rw [decide_eq_false h3]
  refine SD.take rfl panicBody (op_pickF rfl rfl) rfl rfl ?_
  refine SD.take rfl panicBody (op_assign rfl) rfl rfl ?_
  refine SD.nil ?_
  show SL _ _ _ _ _ _ _ [] _ _ _
  refine SL.nil <| T.condF rfl <| T.seq <| T.region <| SL.v (op_fieldAddr fa70_1 rfl) <| SL.v (op_load ty9 rfl (by repeat constructor) rfl) ?_
  refine SL.w (op_callF en38 (vs := [_]) rfl (nvalid_spec)) ?_
  rintro _ _ X3 ⟨rfl, hX3, rfl⟩
  have hT := hT.mono hX3
  by_cases h4 : validS x
  case neg =>
    have hm : namM (.ok l) = (⟨#[]⟩, failM 9 (.ok l)) := by
      subst hl
      simp only [namM, failM, nameT]
      rw [if_neg (fun h => h.elim (fun h => h rfl) h3), if_pos h4]
      rfl
    rw [decide_eq_false h4]
    refine SL.v (op_not rfl) <| SL.as rfl <| SL.nil <| T.condT rfl <| T.seq <| T.region <| SL.mv rfl <| SL.w (op_callJ en47 rfl (vs := [_, _]) rfl (failR_spec hT hS (by decide)) (by repeat constructor)) ?_
    rintro _ _ X4 ⟨_, rfl, hX4, i2, off2, e2, _, rfl, hS2, rfl⟩
    refine SL.nil <| T.seq <| T.region <| SL.as rfl <| SL.nil <| T.drop B3 (by repeat constructor) ?_
    refine T.retM1 [RdO rb v i2 off2 e2] rfl (ResIs.tmp rfl) (List.Perm.refl _) ?_
    exact ⟨((hX1.trans' hX2).trans' hX3).trans' hX4, _, rfl, i2, off2, e2, _, rfl, hS2, by rw [hm], by rw [hm]⟩
  have hm : namM (.ok l) = (x, .ok (ts.drop (i + 1))) := by
    subst hl
    simp only [namM, nameT]
    rw [if_neg (fun h => h.elim (fun h => h rfl) h3), if_neg (fun h => h h4)]
  have hlen := hT.len
  rw [decide_eq_true h4]
  refine SL.v (op_not rfl) <| SL.as rfl <| SL.nil <| T.condF rfl <| T.skip <| T.blk <| T.seq <| T.region <| SL.mv rfl <| SL.v (op_nil rfl) <| SL.v (op_fieldAddr fa151_1 rfl) <| SL.v (op_load ty3 rfl (by repeat constructor) rfl) ?_
  refine SL.v (op_addN (q := 1) rfl rfl (by omega)) ?_
  refine SL.v (op_nil rfl) <| SL.v (op_fieldAddr fa151_1 rfl) <| SL.w (op_store ty3 rfl rfl (by repeat constructor) rfl rfl rfl) ?_
  rintro _ _ _ ⟨rfl, rfl⟩
  refine SL.nil <| T.seq <| T.region <| SL.v (op_fieldAddr fa70_1 rfl) <| SL.v (op_load ty9 rfl (by repeat constructor) rfl) ?_
  refine SL.as rfl <| SL.nil <| T.drop B3 (by repeat constructor) ?_
  refine T.retM1 [RdO rb v (i + 1) off e] rfl (ResIs.tmp rfl) (List.Perm.refl _) ?_
  exact ⟨(hX1.trans' hX2).trans' hX3, _, rfl, i + 1, off, e, .ok (ts.drop (i + 1)), rfl, ⟨hlt, hS.2.1, hS.2.2.1, rfl⟩, by rw [hm], by rw [hm]⟩
end
end Go.Proofs.YtnabbnhefjfegaaGreatDoor
namespace Go.Proofs.YtnabbnhefjfegaaGreatDoor
open Go.RowKit
/-- A way to read, from a state on. -/
def runM {α : Type} (p : List Tk → Res α) : RSt → Res α
  | .ok l => p l
  | .error x => .error x
def Out {α : Type} (R : Res α) (st : RSt) (e : α) : Prop := match R with
  | .ok y => e = y.1 ∧ st = .ok y.2
  | .error x => st = .error x
section
variable {α β : Type} {st : RSt}
theorem runM_exp {w : ByteArray} {q : List Tk → Res β} : runM (fun l => bindR (expT w l) fun _ l1 => q l1) st = runM q (expM w st) := by
  cases st with
  | error x => rfl
  | ok l =>
    simp only [runM, expT, expM]
    cases isT w l <;> rfl
theorem runM_nam {q : ByteArray → List Tk → Res β} : runM (fun l => bindR (nameT l) q) st = runM (q (namM st).1) (namM st).2 := by
  cases st with
  | error x => rfl
  | ok l =>
    simp only [runM, namM]
    cases nameT l with
    | error x => rfl
    | ok y => rfl
theorem accM_t {w : ByteArray} {l : List Tk} (h : isT w l = true) : accM w (.ok l) = (true, .ok l.tail) := by rw [accM, h]; rfl
theorem accM_f {w : ByteArray} {l : List Tk} (h : isT w l = false) : accM w (.ok l) = (false, .ok l) := by rw [accM, h]; rfl
theorem runM_acc {w : ByteArray} {q1 q2 : List Tk → Res β} : runM (fun l => if isT w l then q1 l.tail else q2 l) st = if (accM w st).1 then runM q1 (accM w st).2 else runM q2 (accM w st).2 := by
  cases st with
  | error x => rfl
  | ok l =>
    cases hk : isT w l with
    | true => rw [accM_t hk, runM, hk]; rfl
    | false => rw [accM_f hk, runM, hk]; rfl
theorem runM_par {p : List Tk → Res α} {q : α → List Tk → Res β} {st' : RSt} {e : α} (h : Out (runM p st) st' e) : runM (fun l => bindR (p l) q) st = runM (q e) st' := by
  cases st with
  | error x => simp only [runM, Out] at h; subst h; rfl
  | ok l =>
    simp only [runM] at h ⊢
    cases hp : p l with
    | error x => rw [hp] at h; simp only [Out] at h; subst h; rfl
    | ok y => rw [hp] at h; obtain ⟨rfl, rfl⟩ := h; rfl
theorem out_ok {p : List Tk → Res α} {e : α} (h : p = fun l => .ok (e, l)) : Out (runM p st) st e := by
  subst h
  cases st with
  | error x => rfl
  | ok l => exact ⟨rfl, rfl⟩
theorem tail_sh {l : List Tk} : Sh (.ok l) (.ok l.tail) := fun l' h => ⟨l, rfl, by have := Except.ok.inj h; subst this; rw [List.length_tail]; omega⟩
theorem err_sh {x : Nat × Int} : Sh st (.error x) := fun l' h => by cases h
theorem accM_sh {w : ByteArray} : Sh st (accM w st).2 := by
  cases st with
  | error x => exact Sh.refl _
  | ok l =>
    cases hk : isT w l with
    | true => rw [accM_t hk]; exact tail_sh
    | false => rw [accM_f hk]; exact Sh.refl _
theorem accM_lt {w : ByteArray} (h : (accM w st).1 = true) : ∃ l, st = .ok l ∧ (accM w st).2 = .ok l.tail ∧ 0 < l.length := by
  cases st with
  | error x => cases h
  | ok l =>
    cases hk : isT w l with
    | false => rw [accM_f hk] at h; cases h
    | true =>
      refine ⟨l, rfl, by rw [accM_t hk], ?_⟩
      cases l with
      | nil => cases hk
      | cons t l => simp
theorem expM_sh {w : ByteArray} : Sh st (expM w st) := by
  cases st with
  | error x => exact Sh.refl _
  | ok l =>
    rw [expM]
    split
    · exact tail_sh
    · exact err_sh
theorem namM_sh : Sh st (namM st).2 := by
  cases st with
  | error x => exact Sh.refl _
  | ok l =>
    unfold namM
    cases l with
    | nil => exact fun l' h => by cases h
    | cons t l =>
      simp only [nameT]
      split
      · rename_i h1
        split at h1
        · cases h1
        · split at h1
          · cases h1
          · simp only [Except.ok.injEq, Prod.mk.injEq] at h1
            obtain ⟨rfl, rfl⟩ := h1
            exact fun l' h => ⟨t :: l, rfl, by have := Except.ok.inj h; subst this; simp⟩
      · exact fun l' h => by cases h
end
/-- A function of the parser reads as p does. -/
def SpecP (P : Program) (g : FuncId) (p : ParP) (f : Nat) : Prop :=
  ∀ {X : PMap} {v : Value} {ts : List Tk} {rb pb i off : Nat} {e : Int} {st : RSt}, Tks X v ts → Blk X pb [.pointer (some ⟨rb, 0, none⟩)] → RdS ts st i off e → (∀ l, st = .ok l → l.length < f) →
    SpecR P g [.pointer (some ⟨pb, 0, none⟩)] X ts rb v i off e fun u st' X' => ∃ (ex : Ex) (r : Row4), u = .agg #[r.1, r.2.1, r.2.2.1, r.2.2.2] ∧ ExR .u8 X' ex r ∧ Out (runM p st) st' ex ∧ Sh st st'
theorem two_spec {X : PMap} {op : Nat} {a b : Ex} {r r' : Row4} (ha : ExR .u8 X a r) (hb : ExR .u8 X b r') : Spec Tryz.prog 94 [.int .u8 (op : Int), .agg #[r.1, r.2.1, r.2.2.1, r.2.2.2], .agg #[r'.1, r'.2.1, r'.2.2.1, r'.2.2.2]] X fun u X' => ∃ r2 : Row4, u = .agg #[r2.1, r2.2.1, r2.2.2.1, r2.2.2.2] ∧ ExR .u8 X' (two op a b) r2 := by
  refine Spec.enter Tryz.func94 rfl Tryz.ntmps94 rfl ?_
  intro w0 hw0
  refine T.seq <| T.region <| SL.w (op_box rfl) ?_
  rintro _ _ _ ⟨B4, rfl, rfl, rfl⟩
  refine SL.w (op_box rfl) ?_
  rintro _ _ _ ⟨B5, rfl, rfl, rfl⟩
  refine SL.w (op_alloc z40) ?_
  rintro _ _ _ ⟨B6, rfl, rfl, rfl⟩
  refine SL.nil <| T.seq <| T.region <| SL.mv rfl <| SL.v (op_load ty40 rfl (by repeat constructor) rfl) ?_
  refine SL.v (op_load ty40 rfl (by repeat constructor) rfl) ?_
  refine SL.w (op_buildSlice Tryz.underlying38 bs40 (qs := [(0, _), (1, _)]) rfl rfl rfl rfl rfl) ?_
  rintro _ _ _ ⟨B10, rfl, rfl, rfl⟩
  refine SL.v (op_build st40 (qs := [(0, _), (3, _)]) rfl rfl) <| SL.w (op_store ty40 rfl rfl (by repeat constructor) rfl rfl rfl) ?_
  rintro _ _ _ ⟨rfl, rfl⟩
  refine SL.nil <| T.pub B10 (by repeat constructor) ?_
  intro X1 hX1 hB10 _
  refine T.ret1 rfl (ResIs.cell rfl ty40 (by repeat constructor) rfl) ?_
  exact ⟨(_, _, _, _), rfl, .mk (.inl ⟨rfl, _, _, rfl⟩) (rows := [r, r']) (.inr ⟨by simp, B10, 2, [], rfl, hB10, by simp, by decide⟩) rfl fun i x y hx hy => by
    match i with
    | 0 => cases hx; cases hy; exact ha.mono hX1
    | 1 => cases hx; cases hy; exact hb.mono hX1
    | i + 2 => cases hx⟩
end Go.Proofs.YtnabbnhefjfegaaGreatDoor
namespace Go.Proofs.YtnabbnhefjfegaaGreatDoor
section
set_option maxRecDepth 100000
theorem en91 : Enters Tryz.prog 91 := enters_mk Tryz.func91 (by kernel_rfl) rfl
theorem en92 : Enters Tryz.prog 92 := enters_mk Tryz.func92 (by kernel_rfl) rfl
end
open Go.RowKit
def lenS : RSt → Nat
  | .ok l => l.length
  | .error _ => 0
theorem Sh.len {a b : RSt} (h : Sh a b) : lenS b ≤ lenS a := by
  cases b with
  | error x => exact Nat.zero_le _
  | ok l =>
    obtain ⟨l0, rfl, hl⟩ := h l rfl
    exact hl
theorem RdS.lenS {ts : List Tk} {st : RSt} {i off : Nat} {e : Int} (h : RdS ts st i off e) : lenS st ≤ ts.length := by
  obtain ⟨_, h2⟩ := h
  cases st with
  | error x => exact Nat.zero_le _
  | ok l => obtain ⟨_, _, rfl⟩ := h2; show (ts.drop i).length ≤ _; rw [List.length_drop]; omega
theorem accM_dec {w : ByteArray} {st : RSt} (h : (accM w st).1 = true) : lenS (accM w st).2 + 1 ≤ lenS st := by
  obtain ⟨l, rfl, h2, h3⟩ := accM_lt h
  rw [h2]
  show l.tail.length + 1 ≤ l.length
  rw [List.length_tail]; omega
theorem accM_same {w : ByteArray} {st : RSt} (h : (accM w st).1 = false) : (accM w st).2 = st := by
  cases st with
  | error x => rfl
  | ok l =>
    cases hk : isT w l with
    | true => rw [accM_t hk] at h; cases h
    | false => rw [accM_f hk]
section
variable {α : Type} {st : RSt} {k : Nat} {ns : List ByteArray} {Q : List ByteArray → List Tk → Res α}
theorem namesG_stop (h : (accM wComma st).1 = false ∨ k = 0) : runM (fun l => bindR (namesG k ns l) Q) st = runM (Q ns) st := by
  cases st with
  | error x => rfl
  | ok l =>
    cases k with
    | zero => rfl
    | succ k =>
      rcases h with h | h
      · cases hk : isT wComma l with
        | true => rw [accM_t hk] at h; cases h
        | false => simp only [runM, namesG, hk]; rfl
      · cases h
theorem namesG_step (h : (accM wComma st).1 = true) : runM (fun l => bindR (namesG (k + 1) ns l) Q) st = runM (fun l => bindR (namesG k (ns ++ [(namM (accM wComma st).2).1]) l) Q) (namM (accM wComma st).2).2 := by
  obtain ⟨l, rfl, h2, h3⟩ := accM_lt h
  rw [h2]
  have hk : isT wComma l = true := by
    cases hk : isT wComma l with
    | true => rfl
    | false => rw [accM_f hk] at h; cases h
  rw [← runM_nam (q := fun s l1 => bindR (namesG k (ns ++ [s]) l1) Q)]
  show bindR (namesG (k + 1) ns l) Q = bindR (nameT l.tail) fun s l1 => bindR (namesG k (ns ++ [s]) l1) Q
  rw [namesG, if_pos hk]
  cases nameT l.tail with
  | error x => rfl
  | ok y => rfl
end
/-- What is left to read of names in parentheses. -/
noncomputable def rpQ (op : Nat) (ns : List ByteArray) (l3 : List Tk) : Res Ex := bindR (expT wRp l3) fun _ l4 => .ok (.mk op 0 ns [], l4)
noncomputable def namesQ (op : Nat) (several : Bool) : ParP := fun l => bindR (namesP several l) fun ns l' => .ok (.mk op 0 ns [], l')
theorem namesQ_start {op : Nat} {several : Bool} {st : RSt} : runM (namesQ op several) st = runM (fun l => bindR (namesG (if several then lenS (namM (expM wLp st)).2 else 0) [(namM (expM wLp st)).1] l) (rpQ op)) (namM (expM wLp st)).2 := by
  have e : namesQ op several = fun l => bindR (expT wLp l) fun _ l1 => bindR (nameT l1) fun s l2 => bindR (namesG (if several then l2.length else 0) [s] l2) (rpQ op) := by
    funext l
    simp only [namesQ, namesP]
    cases expT wLp l with
    | error x => rfl
    | ok y =>
      obtain ⟨_, l1⟩ := y
      simp only [bindR_ok]
      cases nameT l1 with
      | error x => rfl
      | ok z =>
        obtain ⟨s, l2⟩ := z
        simp only [bindR_ok]
        cases namesG (if several then l2.length else 0) [s] l2 with
        | error x => rfl
        | ok w =>
          obtain ⟨ns, l3⟩ := w
          simp only [bindR_ok, rpQ]
          cases expT wRp l3 with
          | error x => rfl
          | ok y => rfl
  rw [e, runM_exp, runM_nam]
  cases (namM (expM wLp st)).2 with
  | error x => rfl
  | ok l => rfl
abbrev E0 (b : Nat) : Ow := ⟨b, [.int .u8 0, .int .i64 0, .slice none 0 0, .slice none 0 0], 40, 4⟩
abbrev W1 (b : Nat) (s : ByteArray) : Ow := ⟨b, [.string s], 9, 1⟩
section
variable {X : PMap} {v : Value} {ts : List Tk} {rb pb i off : Nat} {e : Int} {st : RSt}
theorem pnames_spec (hT : Tks X v ts) (hP : Blk X pb [.pointer (some ⟨rb, 0, none⟩)]) (hS : RdS ts st i off e) {op : Nat} {several : Bool} :
    SpecR Tryz.prog 198 [.pointer (some ⟨pb, 0, none⟩), .int .u8 (op : Int), .bool several] X ts rb v i off e fun u st' X' => ∃ (ex : Ex) (r : Row4), u = .agg #[r.1, r.2.1, r.2.2.1, r.2.2.2] ∧ ExR .u8 X' ex r ∧ Out (runM (namesQ op several) st) st' ex ∧ Sh st st' := by
  have hmx : maxLen = 9223372036854775807 := rfl
  have hlen := hT.len
  refine SpecM.enter Tryz.func198 rfl Tryz.ntmps198 rfl ?_
  intro w0 X0 own0
  refine T.seq <| T.region <| SL.w (op_alloc z40) ?_
  rintro _ _ _ ⟨B6, rfl, rfl, rfl⟩
  refine SL.nil <| T.seq <| T.region <| SL.mv rfl <| SL.v (op_nil rfl) <| SL.v (op_fieldAddr fa98_0 rfl) <| SL.v (op_loadX ty96 rfl (by assumption) rfl) ?_
  refine SL.w (op_callJ en91 rfl (vs := [_, _]) rfl (exp_spec hT hS) (by repeat constructor)) ?_
  rintro _ _ X1 ⟨_, rfl, hX1, i1, off1, e1, _, rfl, hS1, rfl⟩
  have hP := hP.mono hX1
  have hT := hT.mono hX1
  refine SL.nil <| T.seq <| T.region <| SL.mv rfl <| SL.v (op_nil rfl) <| SL.v (op_fieldAddr fa98_0 rfl) <| SL.v (op_loadX ty96 rfl (by assumption) rfl) ?_
  refine SL.w (op_callJ en92 rfl (vs := [_]) rfl (nam_spec hT hS1) (by repeat constructor)) ?_
  rintro _ _ X2 ⟨_, rfl, hX2, i2, off2, e2, _, rfl, hS2, rfl, rfl⟩
  have hP := hP.mono hX2
  have hT := hT.mono hX2
  have hl2 := hS2.lenS
  have h0 := namesQ_start (op := op) (several := several) (st := st)
  have hsh := (expM_sh (w := wLp) (st := st)).trans namM_sh
  generalize (namM (expM wLp st)).1 = s0 at *
  generalize (namM (expM wLp st)).2 = sw at *
  refine SL.w (op_buildSlice Tryz.underlying37 bs9 (qs := [(0, _)]) rfl rfl rfl rfl rfl) ?_
  rintro _ _ _ ⟨B18, rfl, rfl, rfl⟩
  refine SL.as rfl <| SL.nil <| T.seq <| T.block <| T.perm (own' := E0 B6 :: RdO rb v i2 off2 e2 :: (own0 ++ [W1 B18 s0])) (show (W1 B18 s0 :: E0 B6 :: RdO rb v i2 off2 e2 :: own0).Perm _ from (List.perm_append_singleton (W1 B18 s0) (E0 B6 :: RdO rb v i2 off2 e2 :: own0)).symm) ?_
  refine T.loopW (fun m env own X' => ∃ (ns : List ByteArray) (vs : Value) (G : Own) (i off : Nat) (e : Int) (sa : RSt) (k : Nat), m = lenS sa ∧ X2.le X' ∧ RdS ts sa i off e ∧ Sh st sa ∧ ns.length + lenS sa ≤ 2000000 ∧ (several = false → k = 0) ∧ (several = true → lenS sa ≤ k) ∧ runM (namesQ op several) st = runM (fun l => bindR (namesG k ns l) (rpQ op)) sa ∧ GrowS 9 1 vs ns.length (strsC ns) G ∧ env = [(0, .pointer (some ⟨pb, 0, none⟩)), (1, .int .u8 (op : Int)), (2, .bool several), (6, .pointer (some ⟨B6, 0, none⟩)), (7, vs)] ∧ own = E0 B6 :: RdO rb v i off e :: (own0 ++ G)) (lenS sw) ⟨[s0], _, _, i2, off2, e2, sw, _, rfl, PMap.le_refl _, hS2, hsh, by simp; omega, fun h => by rw [h]; rfl, fun h => by rw [h]; exact Nat.le_refl _, h0, grow1 rfl (by omega), rfl, rfl⟩ (by repeat (first | exact Sub.nil | refine Sub.cons rfl ?_)) ?_
  rintro m _ _ X3 ⟨ns, vs, G, i3, off3, e3, sa, k, rfl, hX3, hS3, hsh3, hns, hk0, hk1, heq, hG, rfl, rfl⟩
  cases several with
  | false =>
    obtain rfl := hk0 rfl
    obtain ⟨Av, cv, rfl⟩ := hG.form
    have hP := hP.mono hX3
    refine T.seq <| T.seq <| T.region <| SL.mv rfl <| SL.mv rfl <| SL.skip rfl rfl ?_
    refine SL.skip rfl rfl ?_
    refine SL.skip rfl rfl ?_
    refine SL.skip rfl rfl ?_
    refine SL.skip rfl rfl ?_
    refine SL.v (op_pickF rfl rfl) <| SL.nil <| T.condF rfl ?_
    refine T.exit (T.exitCode (T.exitCut (T.exitBlk ?_)))
    refine T.seq <| T.region <| SL.mv rfl <| SL.v (op_nil rfl) <| SL.v (op_fieldAddr fa98_0 rfl) <| SL.v (op_loadX ty96 rfl (by assumption) rfl) ?_
    refine SL.w (op_callJ en91 rfl (vs := [_, _]) rfl (exp_spec (hT.mono hX3) hS3) (by repeat constructor)) ?_
    rintro _ _ X5 ⟨_, rfl, hX5, i5, off5, e5, _, rfl, hS5, rfl⟩
    refine SL.nil <| T.seq <| T.region <| SL.mv rfl <| SL.mv rfl <| SL.v (op_build st40 (qs := [(0, _), (2, _)]) rfl rfl) <| SL.w (op_store ty40 rfl rfl (by repeat constructor) rfl rfl rfl) ?_
    rintro _ _ _ ⟨rfl, rfl⟩
    refine SL.nil <| T.pubG (own0 := _ :: _ :: own0) hG ?_
    intro X9 hX9 hS9
    refine T.retM1S [_] _ rfl (ResIs.cell rfl ty40 (by repeat constructor) rfl) (List.sublist_cons_self _ _) (List.Perm.refl _) ?_
    refine ⟨(((hX1.trans' hX2).trans' hX3).trans' hX5).trans' hX9, _, rfl, i5, off5, e5, _, rfl, hS5, _, (_, _, _, _), rfl, .mk (RowR.ofG (rc := strC) (by rw [strsC_flat]; exact hG) (by rw [strsC_flat]; exact hS9)) (.inl ⟨rfl, _, _, rfl⟩) (rows := []) (al := []) rfl (fun i a r h => absurd h (by simp)), ?_, hsh3.trans expM_sh⟩
    rw [heq, namesG_stop (.inr rfl)]
    show Out (runM (fun l => bindR (expT wRp l) fun _ l4 => .ok (Ex.mk op 0 ns [], l4)) _) _ _
    rw [runM_exp]
    exact out_ok rfl
  | true =>
    have hk1 := hk1 rfl
    have hP := hP.mono hX3
    have hT := hT.mono hX3
    obtain ⟨Av, cv, rfl⟩ := hG.form
    refine T.seq <| T.seq <| T.region <| SL.mv rfl <| SL.mv rfl <| SL.mv rfl <| SL.v (op_nil rfl) <| SL.v (op_fieldAddr fa98_0 rfl) <| SL.v (op_loadX ty96 rfl (by assumption) rfl) ?_
    refine SL.w (op_callJ en90 rfl (vs := [_, _]) rfl (acc_spec hT hS3) (by repeat constructor)) ?_
    rintro _ _ X4 ⟨_, rfl, hX4, i4, off4, e4, _, rfl, hS4, rfl, rfl⟩
    have hP := hP.mono hX4
    have hT := hT.mono hX4
    have hsh4 := hsh3.trans (accM_sh (w := wComma))
    cases ha : (accM wComma sa).1 with
    | true =>
      have hdec := accM_dec ha
      obtain ⟨k, rfl⟩ : ∃ q, k = q + 1 := ⟨k - 1, by omega⟩
      rw [namesG_step ha] at heq
      refine SL.v (op_pickT rfl rfl) <| SL.nil <| T.condT rfl <| T.skip <| T.block <| T.region <| SL.mv rfl <| SL.mv rfl <| SL.v (op_nil rfl) <| SL.v (op_fieldAddr fa98_0 rfl) <| SL.v (op_loadX ty96 rfl (by assumption) rfl) ?_
      refine SL.w (op_callJ en92 rfl (vs := [_]) rfl (nam_spec hT hS4) (by repeat constructor)) ?_
      rintro _ _ X5 ⟨_, rfl, hX5, i5, off5, e5, _, rfl, hS5, rfl, rfl⟩
      have hd2 := (namM_sh (st := (accM wComma sa).2)).len
      have hsh5 := hsh4.trans namM_sh
      generalize (namM (accM wComma sa).2).1 = s5 at *
      generalize (namM (accM wComma sa).2).2 = sb at *
      refine SL.w (op_buildSlice Tryz.underlying37 bs9 (qs := [(0, _)]) rfl rfl rfl rfl rfl) ?_
      rintro _ _ _ ⟨B33, rfl, rfl, rfl⟩
      refine SL.w (op_appendG (own0 := _ :: _ :: own0) sl37 rfl hG rfl rfl rfl (by omega) (by omega)) ?_
      rintro vn _ _ ⟨G2, rfl, rfl, hG2⟩
      have hG2 : GrowS 9 1 vn (ns ++ [s5]).length (strsC (ns ++ [s5])) G2 := by rw [List.length_append, strsC_app]; exact hG2
      refine SL.as rfl <| SL.nil <| T.blk ?_
      exact T.backW (lenS sb) (by omega) ⟨ns ++ [s5], vn, G2, i5, off5, e5, sb, k, rfl, (hX3.trans' hX4).trans' hX5, hS5, hsh5, by rw [List.length_append]; simp; omega, fun h => (by cases h), fun _ => by omega, heq, hG2, rfl, rfl⟩ (by repeat (first | exact Sub.nil | refine Sub.cons rfl ?_))
    | false =>
      rw [accM_same ha] at hS4 hsh4
      refine SL.v (op_pickT rfl rfl) <| SL.nil <| T.condF rfl ?_
      refine T.exit (T.exitCode (T.exitCut (T.exitBlk ?_)))
      refine T.seq <| T.region <| SL.mv rfl <| SL.v (op_nil rfl) <| SL.v (op_fieldAddr fa98_0 rfl) <| SL.v (op_loadX ty96 rfl (by assumption) rfl) ?_
      refine SL.w (op_callJ en91 rfl (vs := [_, _]) rfl (exp_spec hT hS4) (by repeat constructor)) ?_
      rintro _ _ X5 ⟨_, rfl, hX5, i5, off5, e5, _, rfl, hS5, rfl⟩
      refine SL.nil <| T.seq <| T.region <| SL.mv rfl <| SL.mv rfl <| SL.v (op_build st40 (qs := [(0, _), (2, _)]) rfl rfl) <| SL.w (op_store ty40 rfl rfl (by repeat constructor) rfl rfl rfl) ?_
      rintro _ _ _ ⟨rfl, rfl⟩
      refine SL.nil <| T.pubG (own0 := _ :: _ :: own0) hG ?_
      intro X9 hX9 hS9
      refine T.retM1S [_] _ rfl (ResIs.cell rfl ty40 (by repeat constructor) rfl) (List.sublist_cons_self _ _) (List.Perm.refl _) ?_
      refine ⟨((((hX1.trans' hX2).trans' hX3).trans' hX4).trans' hX5).trans' hX9, _, rfl, i5, off5, e5, _, rfl, hS5, _, (_, _, _, _), rfl, .mk (RowR.ofG (rc := strC) (by rw [strsC_flat]; exact hG) (by rw [strsC_flat]; exact hS9)) (.inl ⟨rfl, _, _, rfl⟩) (rows := []) (al := []) rfl (fun i a r h => absurd h (by simp)), ?_, hsh4.trans expM_sh⟩
      rw [heq, namesG_stop (.inl ha)]
      show Out (runM (fun l => bindR (expT wRp l) fun _ l4 => .ok (Ex.mk op 0 ns [], l4)) _) _ _
      rw [runM_exp]
      exact out_ok rfl
end
end Go.Proofs.YtnabbnhefjfegaaGreatDoor
namespace Go.Proofs.YtnabbnhefjfegaaGreatDoor
section
set_option maxRecDepth 100000
theorem en197 : Enters Tryz.prog 197 := enters_mk Tryz.func197 (by kernel_rfl) rfl
theorem en198 : Enters Tryz.prog 198 := enters_mk Tryz.func198 (by kernel_rfl) rfl
theorem en46 : Enters Tryz.prog 46 := enters_mk Tryz.func46 (by kernel_rfl) rfl
theorem fa70_2 : FAdr Tryz.prog 70 2 2 := fadr_mk Tryz.underlying70 rfl rfl (by kernel_rfl)
end
open Go.RowKit
section
variable {X : PMap} {v : Value} {ts : List Tk} {rb pb i off : Nat} {e : Int} {st : RSt}
theorem nextR_spec {l : List Tk} (hT : Tks X v ts) (hS : RdS ts (.ok l) i off e) {t : Tk} {r : List Tk} (hl : l = t :: r) (hk : t.kind ≠ 0) : SpecR Tryz.prog 197 [.pointer (some ⟨rb, 0, none⟩)] X ts rb v i off e fun _ st' _ => st' = .ok r := by
  obtain ⟨t', ht⟩ := hS.tok
  obtain ⟨h1, rfl, rfl, h4⟩ := hS
  obtain ⟨rfl, rfl⟩ : t' = t ∧ ts.drop (i + 1) = r := by
    rw [hl, drop_tok ht] at h4
    cases h4; exact ⟨rfl, rfl⟩
  have hlt := next_lt hT.fin ht hk
  have hlen := hT.len
  refine SpecM.enter Tryz.func197 rfl Tryz.ntmps197 rfl ?_
  intro w0 X0 own0
  refine T.seq <| T.region <| SL.w (op_alloc z70) ?_
  rintro _ _ _ ⟨B2, rfl, rfl, rfl⟩
  refine SL.nil <| T.seq <| T.region <| SL.mv rfl <| SL.w (op_callLend en89 (vs := [_]) rfl ((fun X1 h1 h2 => (peek_spec (hT.row.mono h1) hT.len (h2 (RdO rb v i 0 0) (by simp)) ht : Spec _ _ _ _ fun u _ => u = .agg (rcT (pk 0 t')).toArray)))) ?_
  rintro _ _ _ ⟨rfl, rfl, rfl⟩
  rw [pk, if_pos rfl, show (rcT t').toArray = #[.int .u8 (t'.kind : Int), .string t'.text, .int .i64 (t'.num : Int), .int .i64 (t'.off : Int)] from rfl]
  refine SL.w (op_alloc z70) ?_
  rintro _ _ _ ⟨B3, rfl, rfl, rfl⟩
  refine SL.w (op_store ty70 rfl rfl (by repeat constructor) rfl rfl rfl) ?_
  rintro _ _ _ ⟨rfl, rfl⟩
  refine SL.nil <| T.seq <| T.seq <| T.region <| SL.v (op_fieldAddr fa70_0 rfl) <| SL.v (op_load ty68 rfl (by repeat constructor) rfl) ?_
  refine SL.v (op_neqT rfl rfl (by omega)) ?_
  refine SL.nil <| T.condT rfl <| T.region <| SL.mv rfl <| SL.v (op_nil rfl) <| SL.v (op_fieldAddr fa151_1 rfl) <| SL.v (op_load ty3 rfl (by repeat constructor) rfl) ?_
  refine SL.v (op_addN (q := 1) rfl rfl (by omega)) ?_
  refine SL.v (op_nil rfl) <| SL.v (op_fieldAddr fa151_1 rfl) <| SL.w (op_store ty3 rfl rfl (by repeat constructor) rfl rfl rfl) ?_
  rintro _ _ _ ⟨rfl, rfl⟩
  refine SL.nil <| T.seq <| T.region <| SL.v (op_load ty70 rfl (by repeat constructor) rfl) ?_
  refine SL.w (op_store ty70 rfl rfl (by repeat constructor) rfl rfl rfl) ?_
  rintro _ _ _ ⟨rfl, rfl⟩
  refine SL.nil <| T.drop B3 (by repeat constructor) ?_
  refine T.retM1S [_] _ rfl (ResIs.cell rfl ty70 (by repeat constructor) rfl) (List.sublist_cons_self _ _) (List.Perm.refl _) ?_
  exact ⟨PMap.le_refl _, _, rfl, i + 1, 0, 0, .ok (ts.drop (i + 1)), rfl, ⟨hlt, rfl, rfl, rfl⟩, rfl⟩
end
theorem primP_eq {ex : ParP} {t : Tk} {r : List Tk} : primP ex (t :: r) = if t.kind = 2 then .ok (.mk 1 (t.num : Int) [] [], r)
    else if isT wTrue (t :: r) then .ok (.mk 2 0 [] [], r) else if isT wFalse (t :: r) then .ok (.mk 3 0 [] [], r)
    else if isT wCount (t :: r) then namesQ 5 true r
    else if isT wMembers (t :: r) then namesQ 6 false r
    else if isT wLp (t :: r) then bindR (ex r) fun x l' => bindR (expT wRp l') fun _ l'' => .ok (x, l'')
    else bindR (nameT (t :: r)) fun s l' => .ok (.mk 4 0 [s] [], l') := rfl
theorem zeroR {X : PMap} {op : Nat} {n : Int} : ExR .u8 X (.mk op n [] []) (.int .u8 (op : Int), .int .i64 n, .slice none 0 0, .slice none 0 0) := .mk (.inl ⟨rfl, _, _, rfl⟩) (.inl ⟨rfl, _, _, rfl⟩) (rows := []) (al := []) rfl (fun i a r h => absurd h (by simp))
/-- The same, where there is no error yet. -/
def SpecPo (P : Program) (g : FuncId) (p : ParP) (f : Nat) : Prop :=
  ∀ {X : PMap} {v : Value} {ts : List Tk} {rb pb i off : Nat} {e : Int} {l : List Tk}, Tks X v ts → Blk X pb [.pointer (some ⟨rb, 0, none⟩)] → RdS ts (.ok l) i off e → l.length < f →
    SpecR P g [.pointer (some ⟨pb, 0, none⟩)] X ts rb v i off e fun u st' X' => ∃ (ex : Ex) (r : Row4), u = .agg #[r.1, r.2.1, r.2.2.1, r.2.2.2] ∧ ExR .u8 X' ex r ∧ Out (runM p (.ok l)) st' ex ∧ Sh (.ok l) st'
theorem SpecP.o {P : Program} {g : FuncId} {p : ParP} {f : Nat} (h : SpecP P g p f) : SpecPo P g p f := fun {_ _ _ _ _ _ _ _ _} hT hP hS hf => h hT hP hS (fun l hl => by cases hl; exact hf)
theorem primary_spec {f : Nat} {ex : ParP} (hex : SpecPo Tryz.prog 46 ex f) : SpecP Tryz.prog 192 (primP ex) (f + 1) := by
  intro X v ts rb pb i off e st hT hP hS hf
  obtain ⟨t, ht⟩ := hS.tok
  have hdt := drop_tok ht
  refine SpecM.enter Tryz.func192 rfl Tryz.ntmps192 rfl ?_
  intro w0 X0 own0
  refine T.seq <| T.region <| SL.w (op_alloc z40) ?_
  rintro _ _ _ ⟨B2, rfl, rfl, rfl⟩
  refine SL.nil <| T.seq <| T.seq <| T.region <| SL.mv rfl <| SL.w (op_callLend en88 (vs := [_]) rfl ((fun X1 h1 h2 => (failed_spec (hP.mono h1) (h2 (RdO rb v i off e) (by simp)) : Spec _ _ _ _ fun u _ => u = .bool (decide (e ≠ 0)))))) ?_
  rintro _ _ _ ⟨rfl, rfl, rfl⟩
  by_cases he : e ≠ 0
  · obtain ⟨x, rfl⟩ : ∃ x, st = .error x := by
      obtain ⟨_, h2⟩ := hS
      cases st with
      | error x => exact ⟨x, rfl⟩
      | ok l => exact absurd h2.2.1 he
    rw [decide_eq_true he]
    refine SL.nil <| T.condT rfl <| T.seq <| T.region <| SL.v (op_build st40 (qs := []) rfl rfl) <| SL.w (op_store ty40 rfl rfl (by repeat constructor) rfl rfl rfl) ?_
    rintro _ _ _ ⟨rfl, rfl⟩
    refine SL.nil <| T.retM1S [_] _ rfl (ResIs.cell rfl ty40 (by repeat constructor) rfl) (List.sublist_cons_self _ _) (List.Perm.refl _) ?_
    exact ⟨PMap.le_refl _, _, rfl, i, off, e, _, rfl, hS, _, (_, _, _, _), rfl, zeroR (op := 0), rfl, Sh.refl _⟩
  rw [decide_eq_false he]
  have he0 : e = 0 := by simpa using he
  obtain ⟨l, rfl⟩ : ∃ l, st = .ok l := by
    obtain ⟨_, h2⟩ := hS
    cases st with
    | error x => exact absurd (h2.2.1.symm.trans he0) h2.2.2
    | ok l => exact ⟨l, rfl⟩
  have hl : l = t :: ts.drop (i + 1) := by rw [hS.2.2.2]; exact hdt
  generalize hrr : ts.drop (i + 1) = r at *
  subst hl
  have hfr : r.length < f := by have := hf _ rfl; rw [List.length_cons] at this; omega
  have htl : ∀ w, isT w (t :: r) = true → accM w (.ok (t :: r)) = (true, .ok r) := fun w h => accM_t h
  have htf : ∀ w, isT w (t :: r) = false → accM w (.ok (t :: r)) = (false, .ok (t :: r)) := fun w h => accM_f h
  have hshr : Sh (.ok (t :: r)) (.ok r) := tail_sh (l := t :: r)
  refine SL.nil <| T.condF rfl <| T.skip <| T.seq <| T.seq <| T.region <| SL.mv rfl <| SL.v (op_nil rfl) <| SL.v (op_fieldAddr fa98_0 rfl) <| SL.v (op_loadX ty96 rfl (by assumption) rfl) ?_
  refine SL.w (op_callLend en89 (vs := [_]) rfl ((fun X1 h1 h2 => (peek_spec (hT.row.mono h1) hT.len (h2 (RdO rb v i off e) (by simp)) ht : Spec _ _ _ _ fun u _ => u = .agg (rcT (pk e t)).toArray)))) ?_
  rintro _ _ _ ⟨rfl, rfl, rfl⟩
  rw [pk, if_pos he0, show (rcT t).toArray = #[.int .u8 (t.kind : Int), .string t.text, .int .i64 (t.num : Int), .int .i64 (t.off : Int)] from rfl]
  by_cases hk2 : t.kind = 2
  · skip
    refine SL.w (op_alloc z70) ?_
    rintro _ _ _ ⟨B3, rfl, rfl, rfl⟩
    refine SL.w (op_store ty70 rfl rfl (by repeat constructor) rfl rfl rfl) ?_
    rintro _ _ _ ⟨rfl, rfl⟩
    refine SL.nil <| T.seq <| T.region <| SL.v (op_fieldAddr fa70_0 rfl) <| SL.v (op_load ty68 rfl (by repeat constructor) rfl) ?_
    refine SL.v (op_eqlT rfl rfl (by omega)) ?_
    refine SL.nil <| T.condT rfl <| T.seq <| T.region <| SL.mv rfl <| SL.v (op_nil rfl) <| SL.v (op_fieldAddr fa98_0 rfl) <| SL.v (op_loadX ty96 rfl (by assumption) rfl) ?_
    refine SL.w (op_callJ en197 rfl (vs := [_]) rfl (nextR_spec hT hS rfl (by rw [hk2]; decide)) (by repeat constructor)) ?_
    rintro _ _ X1 ⟨_, rfl, hX1, i1, off1, e1, _, rfl, hS1, rfl⟩
    refine SL.nil <| T.seq <| T.region <| SL.v (op_fieldAddr fa70_2 rfl) <| SL.v (op_load ty3 rfl (by repeat constructor) rfl) ?_
    refine SL.v (op_build st40 (qs := [(0, _), (1, _)]) rfl rfl) <| SL.w (op_store ty40 rfl rfl (by repeat constructor) rfl rfl rfl) ?_
    rintro _ _ _ ⟨rfl, rfl⟩
    refine SL.nil <| T.retM1S [_] _ rfl (ResIs.cell rfl ty40 (by repeat constructor) rfl) (.cons _ (.cons _ (.refl _))) (List.Perm.refl _) ?_
    exact ⟨hX1, _, rfl, i1, off1, e1, _, rfl, hS1, _, (_, _, _, _), rfl, zeroR (op := 1), by rw [runM, primP_eq, if_pos hk2]; exact ⟨rfl, rfl⟩, hshr⟩
  have hpe := primP_eq (ex := ex) (t := t) (r := r)
  rw [if_neg hk2] at hpe
  refine SL.w (op_alloc z70) ?_
  rintro _ _ _ ⟨B3, rfl, rfl, rfl⟩
  refine SL.w (op_store ty70 rfl rfl (by repeat constructor) rfl rfl rfl) ?_
  rintro _ _ _ ⟨rfl, rfl⟩
  refine SL.nil <| T.seq <| T.region <| SL.v (op_fieldAddr fa70_0 rfl) <| SL.v (op_load ty68 rfl (by repeat constructor) rfl) ?_
  refine SL.v (op_eqlF rfl rfl (by omega)) ?_
  refine SL.nil <| T.condF rfl <| T.skip <| T.seq <| T.block <| T.seq <| T.region <| SL.mv rfl <| SL.v (op_nil rfl) <| SL.v (op_fieldAddr fa98_0 rfl) <| SL.v (op_loadX ty96 rfl (by assumption) rfl) ?_
  refine T.dropAt B3 (by repeat constructor) ?_
  refine SL.w (op_callJ en90 rfl (vs := [_, _]) rfl (acc_spec hT hS) (by repeat constructor)) ?_
  rintro _ _ X1 ⟨_, rfl, hX1, i1, off1, e1, _, rfl, hS1, rfl, rfl⟩
  have hP := hP.mono hX1
  have hT := hT.mono hX1
  by_cases h1 : isT wTrue (t :: r) = true
  · rw [htl wTrue h1] at hS1 ⊢
    rw [if_pos h1] at hpe
    refine SL.as rfl <| SL.nil <| T.condT rfl <| T.seq <| T.region <| SL.v (op_build st40 (qs := [(0, _)]) rfl rfl) <| SL.w (op_store ty40 rfl rfl (by repeat constructor) rfl rfl rfl) ?_
    rintro _ _ _ ⟨rfl, rfl⟩
    refine SL.nil <| T.retM1S [_] _ rfl (ResIs.cell rfl ty40 (by repeat constructor) rfl) (List.sublist_cons_self _ _) (List.Perm.refl _) ?_
    exact ⟨hX1, _, rfl, i1, off1, e1, _, rfl, hS1, _, (_, _, _, _), rfl, zeroR (op := 2), by rw [runM, hpe]; exact ⟨rfl, rfl⟩, hshr⟩
  have h1 : isT wTrue (t :: r) = false := by simpa using h1
  rw [htf wTrue h1] at hS1 ⊢
  rw [if_neg (by rw [h1]; decide)] at hpe
  refine SL.as rfl <| SL.nil <| T.condF rfl <| T.seq <| T.region <| SL.mv rfl <| SL.v (op_nil rfl) <| SL.v (op_fieldAddr fa98_0 rfl) <| SL.v (op_loadX ty96 rfl (by assumption) rfl) ?_
  refine SL.w (op_callJ en90 rfl (vs := [_, _]) rfl (acc_spec hT hS1) (by repeat constructor)) ?_
  rintro _ _ X2 ⟨_, rfl, hX2, i2, off2, e2, _, rfl, hS2, rfl, rfl⟩
  have hP := hP.mono hX2
  have hT := hT.mono hX2
  by_cases h2 : isT wFalse (t :: r) = true
  · rw [htl wFalse h2] at hS2 ⊢
    rw [if_pos h2] at hpe
    refine SL.as rfl <| SL.nil <| T.condT rfl <| T.seq <| T.region <| SL.v (op_build st40 (qs := [(0, _)]) rfl rfl) <| SL.w (op_store ty40 rfl rfl (by repeat constructor) rfl rfl rfl) ?_
    rintro _ _ _ ⟨rfl, rfl⟩
    refine SL.nil <| T.retM1S [_] _ rfl (ResIs.cell rfl ty40 (by repeat constructor) rfl) (List.sublist_cons_self _ _) (List.Perm.refl _) ?_
    exact ⟨(hX1.trans' hX2), _, rfl, i2, off2, e2, _, rfl, hS2, _, (_, _, _, _), rfl, zeroR (op := 3), by rw [runM, hpe]; exact ⟨rfl, rfl⟩, hshr⟩
  have h2 : isT wFalse (t :: r) = false := by simpa using h2
  rw [htf wFalse h2] at hS2 ⊢
  rw [if_neg (by rw [h2]; decide)] at hpe
  refine SL.as rfl <| SL.nil <| T.condF rfl <| T.seq <| T.region <| SL.mv rfl <| SL.v (op_nil rfl) <| SL.v (op_fieldAddr fa98_0 rfl) <| SL.v (op_loadX ty96 rfl (by assumption) rfl) ?_
  refine SL.w (op_callJ en90 rfl (vs := [_, _]) rfl (acc_spec hT hS2) (by repeat constructor)) ?_
  rintro _ _ X3 ⟨_, rfl, hX3, i3, off3, e3, _, rfl, hS3, rfl, rfl⟩
  have hP := hP.mono hX3
  have hT := hT.mono hX3
  by_cases h3 : isT wCount (t :: r) = true
  · rw [htl wCount h3] at hS3 ⊢
    rw [if_pos h3] at hpe
    refine SL.as rfl <| SL.nil <| T.condT rfl <| T.seq <| T.region <| SL.mv rfl <| SL.w (op_callJ en198 rfl (vs := [_, _, _]) rfl (pnames_spec hT hP hS3 (op := 5) (several := true)) (by repeat constructor)) ?_
    rintro _ _ Y1 ⟨_, rfl, hY1, j1, off9, e9, _, rfl, hS9, x9, r9, rfl, hx9, hO9, hsh9⟩
    obtain ⟨o9, n9, a9, b9, l9, c9, m9, d9, rfl⟩ := hx9.form
    refine SL.w (op_store ty40 rfl rfl (by repeat constructor) rfl rfl rfl) ?_
    rintro _ _ _ ⟨rfl, rfl⟩
    refine SL.nil <| T.retM1S [_] _ rfl (ResIs.cell rfl ty40 (by repeat constructor) rfl) (List.sublist_cons_self _ _) (List.Perm.refl _) ?_
    exact ⟨((hX1.trans' hX2).trans' hX3).trans' hY1, _, rfl, j1, off9, e9, _, rfl, hS9, x9, (_, _, _, _), rfl, hx9, by rw [runM, hpe]; exact hO9, hshr.trans hsh9⟩
  have h3 : isT wCount (t :: r) = false := by simpa using h3
  rw [htf wCount h3] at hS3 ⊢
  rw [if_neg (by rw [h3]; decide)] at hpe
  refine SL.as rfl <| SL.nil <| T.condF rfl <| T.seq <| T.region <| SL.mv rfl <| SL.v (op_nil rfl) <| SL.v (op_fieldAddr fa98_0 rfl) <| SL.v (op_loadX ty96 rfl (by assumption) rfl) ?_
  refine SL.w (op_callJ en90 rfl (vs := [_, _]) rfl (acc_spec hT hS3) (by repeat constructor)) ?_
  rintro _ _ X4 ⟨_, rfl, hX4, i4, off4, e4, _, rfl, hS4, rfl, rfl⟩
  have hP := hP.mono hX4
  have hT := hT.mono hX4
  by_cases h4 : isT wMembers (t :: r) = true
  · rw [htl wMembers h4] at hS4 ⊢
    rw [if_pos h4] at hpe
    refine SL.as rfl <| SL.nil <| T.condT rfl <| T.seq <| T.region <| SL.mv rfl <| SL.w (op_callJ en198 rfl (vs := [_, _, _]) rfl (pnames_spec hT hP hS4 (op := 6) (several := false)) (by repeat constructor)) ?_
    rintro _ _ Y1 ⟨_, rfl, hY1, j1, off9, e9, _, rfl, hS9, x9, r9, rfl, hx9, hO9, hsh9⟩
    obtain ⟨o9, n9, a9, b9, l9, c9, m9, d9, rfl⟩ := hx9.form
    refine SL.w (op_store ty40 rfl rfl (by repeat constructor) rfl rfl rfl) ?_
    rintro _ _ _ ⟨rfl, rfl⟩
    refine SL.nil <| T.retM1S [_] _ rfl (ResIs.cell rfl ty40 (by repeat constructor) rfl) (List.sublist_cons_self _ _) (List.Perm.refl _) ?_
    exact ⟨(((hX1.trans' hX2).trans' hX3).trans' hX4).trans' hY1, _, rfl, j1, off9, e9, _, rfl, hS9, x9, (_, _, _, _), rfl, hx9, by rw [runM, hpe]; exact hO9, hshr.trans hsh9⟩
  have h4 : isT wMembers (t :: r) = false := by simpa using h4
  rw [htf wMembers h4] at hS4 ⊢
  rw [if_neg (by rw [h4]; decide)] at hpe
  refine SL.as rfl <| SL.nil <| T.condF rfl <| T.seq <| T.region <| SL.mv rfl <| SL.v (op_nil rfl) <| SL.v (op_fieldAddr fa98_0 rfl) <| SL.v (op_loadX ty96 rfl (by assumption) rfl) ?_
  refine SL.w (op_callJ en90 rfl (vs := [_, _]) rfl (acc_spec hT hS4) (by repeat constructor)) ?_
  rintro _ _ X5 ⟨_, rfl, hX5, i5, off5, e5, _, rfl, hS5, rfl, rfl⟩
  have hP := hP.mono hX5
  have hT := hT.mono hX5
  by_cases h5 : isT wLp (t :: r) = true
  · rw [htl wLp h5] at hS5 ⊢
    rw [if_pos h5] at hpe
    refine SL.as rfl <| SL.nil <| T.condT rfl <| T.seq <| T.region <| SL.mv rfl <| SL.w (op_callJ en46 rfl (vs := [_]) rfl (hex hT hP hS5 hfr) (by repeat constructor)) ?_
    rintro _ _ Y1 ⟨_, rfl, hY1, j1, off9, e9, sa, rfl, hS9, x9, r9, rfl, hx9, hO9, hsh9⟩
    obtain ⟨o9, n9, a9, b9, l9, c9, m9, d9, rfl⟩ := hx9.form
    have hP := hP.mono hY1
    have hT := hT.mono hY1
    refine SL.w (op_alloc z40) ?_
    rintro _ _ _ ⟨B4, rfl, rfl, rfl⟩
    refine SL.w (op_store ty40 rfl rfl (by repeat constructor) rfl rfl rfl) ?_
    rintro _ _ _ ⟨rfl, rfl⟩
    refine SL.nil <| T.seq <| T.region <| SL.mv rfl <| SL.v (op_nil rfl) <| SL.v (op_fieldAddr fa98_0 rfl) <| SL.v (op_loadX ty96 rfl (by assumption) rfl) ?_
    refine SL.w (op_callJ en91 rfl (vs := [_, _]) rfl (exp_spec hT hS9) (by repeat constructor)) ?_
    rintro _ _ Y2 ⟨_, rfl, hY2, j2, off8, e8, _, rfl, hS8, rfl⟩
    refine SL.nil <| T.seq <| T.region <| SL.v (op_load ty40 rfl (by repeat constructor) rfl) ?_
    refine SL.w (op_store ty40 rfl rfl (by repeat constructor) rfl rfl rfl) ?_
    rintro _ _ _ ⟨rfl, rfl⟩
    refine SL.nil <| T.drop B4 (by repeat constructor) ?_
    refine T.retM1S [_] _ rfl (ResIs.cell rfl ty40 (by repeat constructor) rfl) (List.sublist_cons_self _ _) (List.Perm.refl _) ?_
    refine ⟨(((((hX1.trans' hX2).trans' hX3).trans' hX4).trans' hX5).trans' hY1).trans' hY2, _, rfl, j2, off8, e8, _, rfl, hS8, x9, (_, _, _, _), rfl, hx9.mono hY2, ?_, (hshr.trans hsh9).trans expM_sh⟩
    rw [runM, hpe]
    show Out (runM (fun l => bindR (ex l) fun x l' => bindR (expT wRp l') fun _ l'' => Except.ok (x, l'')) (Except.ok r)) _ _
    rw [runM_par hO9, runM_exp]
    exact out_ok rfl
  have h5 : isT wLp (t :: r) = false := by simpa using h5
  rw [htf wLp h5] at hS5 ⊢
  rw [if_neg (by rw [h5]; decide)] at hpe
  refine SL.as rfl <| SL.nil <| T.condF rfl <| T.skip <| T.blk <| T.seq <| T.region <| SL.mv rfl <| SL.v (op_nil rfl) <| SL.v (op_fieldAddr fa98_0 rfl) <| SL.v (op_loadX ty96 rfl (by assumption) rfl) ?_
  refine SL.w (op_callJ en92 rfl (vs := [_]) rfl (nam_spec hT hS5) (by repeat constructor)) ?_
  rintro _ _ Y1 ⟨_, rfl, hY1, j1, off9, e9, _, rfl, hS9, rfl, rfl⟩
  refine SL.w (op_buildSlice Tryz.underlying37 bs9 (qs := [(0, _)]) rfl rfl rfl rfl rfl) ?_
  rintro _ _ _ ⟨B73, rfl, rfl, rfl⟩
  refine SL.v (op_build st40 (qs := [(0, _), (2, _)]) rfl rfl) <| SL.w (op_store ty40 rfl rfl (by repeat constructor) rfl rfl rfl) ?_
  rintro _ _ _ ⟨rfl, rfl⟩
  refine SL.nil <| T.perm (List.Perm.swap _ _ _) ?_
  refine T.pub B73 (by repeat constructor) ?_
  intro Y2 hY2 hB73 _
  refine T.retM1S [_] _ rfl (ResIs.cell rfl ty40 (by repeat constructor) rfl) (List.sublist_cons_self _ _) (List.Perm.refl _) ?_
  refine ⟨(((((hX1.trans' hX2).trans' hX3).trans' hX4).trans' hX5).trans' hY1).trans' hY2, _, rfl, j1, off9, e9, _, rfl, hS9, _, (_, _, _, _), rfl, .mk (ns := [(namM (.ok (t :: r))).1]) (.inr ⟨by simp, B73, 1, [], rfl, hB73, by simp, by decide⟩) (.inl ⟨rfl, _, _, rfl⟩) (rows := []) (al := []) rfl (fun i a r h => absurd h (by simp)), ?_, namM_sh⟩
  rw [runM, hpe]
  show Out (runM (fun l => bindR (nameT l) fun s l' => Except.ok (Ex.mk 4 0 [s] [], l')) (Except.ok (t :: r))) _ _
  rw [runM_nam]
  exact out_ok rfl
end Go.Proofs.YtnabbnhefjfegaaGreatDoor
namespace Go.Proofs.YtnabbnhefjfegaaGreatDoor
section
set_option maxRecDepth 100000
theorem en94 : Enters Tryz.prog 94 := enters_mk Tryz.func94 (by kernel_rfl) rfl
end
open Go.RowKit
theorem Sh.lt {a b : RSt} {f : Nat} (h : Sh a b) (hf : ∀ l, a = .ok l → l.length < f) : ∀ l, b = .ok l → l.length < f := fun l hl => by
  obtain ⟨l0, h0, hle⟩ := h l hl
  exact Nat.lt_of_le_of_lt hle (hf l0 h0)
section
variable {w : ByteArray} {op k : Nat} {p : ParP} {x : Ex} {st : RSt}
theorem leftP_start {sa : RSt} (h : Out (runM p st) sa x) : runM (leftP w op p) st = runM (fun l => leftG w op p (lenS sa) x l) sa := by
  have e : leftP w op p = fun l => bindR (p l) fun x l' => leftG w op p l'.length x l' := rfl
  rw [e, runM_par h]
  cases sa <;> rfl
theorem leftG_halt (h : (accM w st).1 = false) : Out (runM (fun l => leftG w op p k x l) st) st x := by
  cases st with
  | error y => rfl
  | ok l =>
    have hk : isT w l = false := by
      cases hk : isT w l with
      | false => rfl
      | true => rw [accM_t hk] at h; cases h
    rw [runM, leftG_stop hk]
    exact ⟨rfl, rfl⟩
theorem leftG_more {sa : RSt} {y : Ex} (h : (accM w st).1 = true) (ho : Out (runM p (accM w st).2) sa y) : runM (fun l => leftG w op p (k + 1) x l) st = runM (fun l => leftG w op p k (two op x y) l) sa := by
  obtain ⟨l, rfl, h2, h3⟩ := accM_lt h
  have hk : isT w l = true := by
    cases hk : isT w l with
    | true => rfl
    | false => rw [accM_f hk] at h; cases h
  rw [h2] at ho
  rw [← runM_par (q := fun y l' => leftG w op p k (two op x y) l') ho]
  show leftG w op p (k + 1) x l = bindR (p l.tail) _
  rw [leftG, if_pos hk]
end
abbrev EO (b : Nat) (r : Row4) : Ow := ⟨b, [r.1, r.2.1, r.2.2.1, r.2.2.2], 40, 4⟩
theorem keep2 {a b c c' : Ow} {l : Own} : ∀ p ∈ [a, b], p ∈ (a :: b :: c :: l).set 2 c' := by
  intro p hp
  simp only [List.mem_cons, List.not_mem_nil, or_false] at hp
  rcases hp with rfl | rfl <;> simp
theorem left_spec {f g : Nat} {p : ParP} {w : ByteArray} {op : Nat} (en : Enters Tryz.prog g) (hg : SpecP Tryz.prog g p f)
    {X : PMap} {v : Value} {ts : List Tk} {rb pb i off : Nat} {e : Int} {st : RSt} (hT : Tks X v ts) (hP : Blk X pb [.pointer (some ⟨rb, 0, none⟩)]) (hS : RdS ts st i off e) (hf : ∀ l, st = .ok l → l.length < f) :
    SpecR Tryz.prog 138 [.pointer (some ⟨pb, 0, none⟩), .string w, .int .u8 (op : Int), .func (.func g) #[.pointer (some ⟨pb, 0, none⟩)] #[]] X ts rb v i off e fun u st' X' => ∃ (ex : Ex) (r : Row4), u = .agg #[r.1, r.2.1, r.2.2.1, r.2.2.2] ∧ ExR .u8 X' ex r ∧ Out (runM (leftP w op p) st) st' ex ∧ Sh st st' := by
  refine SpecM.enter Tryz.func138 rfl Tryz.ntmps138 rfl ?_
  intro w0 X0 own0
  refine T.seq <| T.region <| SL.w (op_alloc z40) ?_
  rintro _ _ _ ⟨B8, rfl, rfl, rfl⟩
  refine SL.nil <| T.seq <| T.region <| SL.mv rfl <| SL.w (op_callJ en rfl (vs := []) rfl (hg hT hP hS hf) (by repeat constructor)) ?_
  rintro _ _ X1 ⟨_, rfl, hX1, i1, off1, e1, sa, rfl, hS1, x0, q0, rfl, hx0, hO0, hsh0⟩
  obtain ⟨o0, n0, a0, b0, l0, c0, m0, d0, rfl⟩ := hx0.form
  refine SL.w (op_alloc z40) ?_
  rintro _ _ _ ⟨B9, rfl, rfl, rfl⟩
  refine SL.w (op_store ty40 rfl rfl (by repeat constructor) rfl rfl rfl) ?_
  rintro _ _ _ ⟨rfl, rfl⟩
  refine SL.nil <| T.seq <| T.block <| T.loopW (fun m env own X' => ∃ (x : Ex) (r : Row4) (i off : Nat) (e : Int) (sa : RSt) (k : Nat), m = lenS sa ∧ X1.le X' ∧ RdS ts sa i off e ∧ Sh st sa ∧ ExR .u8 X' x r ∧ lenS sa ≤ k ∧ runM (leftP w op p) st = runM (fun l => leftG w op p k x l) sa ∧ env = [(0, .pointer (some ⟨pb, 0, none⟩)), (1, .string w), (2, .int .u8 (op : Int)), (3, .func (.func g) #[.pointer (some ⟨pb, 0, none⟩)] #[]), (8, .pointer (some ⟨B8, 0, none⟩)), (9, .pointer (some ⟨B9, 0, none⟩))] ∧ own = EO B9 r :: E0 B8 :: RdO rb v i off e :: own0) (lenS sa) ⟨x0, (_, _, _, _), i1, off1, e1, sa, lenS sa, rfl, PMap.le_refl _, hS1, hsh0, hx0, Nat.le_refl _, leftP_start hO0, rfl, rfl⟩ (by repeat (first | exact Sub.nil | refine Sub.cons rfl ?_)) ?_
  rintro m _ _ X2 ⟨x, q, i2, off2, e2, sb, k, rfl, hX2, hS2, hsh2, hx, hk, heq, rfl, rfl⟩
  obtain ⟨o1, n1, a1, b1, l1, c1, m1, d1, rfl⟩ := hx.form
  have hP := (hP.mono hX1).mono hX2
  have hT := (hT.mono hX1).mono hX2
  refine T.seq <| T.seq <| T.region <| SL.mv rfl <| SL.v (op_nil rfl) <| SL.v (op_fieldAddr fa98_0 rfl) <| SL.v (op_loadX ty96 rfl (by assumption) rfl) ?_
  refine SL.mv rfl <| SL.w (op_callJ en90 rfl (vs := [_, _]) rfl (acc_spec hT hS2) (by repeat constructor)) ?_
  rintro _ _ X3 ⟨_, rfl, hX3, i3, off3, e3, _, rfl, hS3, rfl, rfl⟩
  have hP := hP.mono hX3
  have hT := hT.mono hX3
  cases ha : (accM w sb).1 with
  | true =>
    have hdec := accM_dec ha
    obtain ⟨k, rfl⟩ : ∃ q, k = q + 1 := ⟨k - 1, by omega⟩
    have hsh3 := hsh2.trans (accM_sh (w := w))
    refine SL.nil <| T.condT rfl <| T.skip <| T.block <| T.drawG (own0 := [_, _]) (by kernel_rfl) 5 [.t 0, .t 1, .t 2, .r 3, .r 4] (by kernel_rfl) ?_
    refine SD.take rfl panicBody (op_move rfl) rfl rfl ?_
    refine SD.take rfl panicBody (op_load ty40 rfl (by repeat constructor) rfl) rfl rfl ?_
    refine SD.take rfl panicBody (op_move rfl) rfl rfl ?_
    refine SD.runK rfl (op_callJ en rfl (vs := []) rfl (hg hT hP hS3 (hsh3.lt hf)) (.there (.there .here))) (by rintro _ _ _ ⟨_, rfl, hX4, _⟩; exact ⟨keep2, hX4⟩) rfl rfl ?_
    rintro _ _ X4 ⟨_, rfl, hX4, i4, off4, e4, sc, rfl, hS4, y, q4, rfl, hy, hO4, hsh4⟩
    obtain ⟨o4, n4, a4, b4, l4, c4, m4, d4, rfl⟩ := hy.form
    have hc := two_spec (op := op) ((hx.mono hX3).mono hX4) hy
    try simp only at hc
    refine SD.run rfl (op_callF en94 (vs := [_, _, _]) rfl (hc)) rfl rfl ?_
    rintro _ _ X5 ⟨rfl, hX5, q5, rfl, hq5⟩
    refine SD.nil ?_
    show SL _ _ _ _ _ _ _ [_] _ _ _
    obtain ⟨o5, n5, a5, b5, l5, c5, m5, d5, rfl⟩ := hq5.form
    have hd4 := hsh4.len
    refine SL.w (op_store ty40 rfl rfl (by repeat constructor) rfl rfl rfl) ?_
    rintro _ _ _ ⟨rfl, rfl⟩
    refine SL.nil <| T.blk ?_
    exact T.backW (lenS sc) (by omega) ⟨two op x y, (_, _, _, _), i4, off4, e4, sc, k, rfl, ((hX2.trans' hX3).trans' hX4).trans' hX5, hS4, hsh3.trans hsh4, hq5, by omega, by rw [heq]; exact leftG_more ha hO4, rfl, rfl⟩ (by repeat (first | exact Sub.nil | refine Sub.cons rfl ?_))
  | false =>
    rw [accM_same ha] at hS3
    refine SL.nil <| T.condF rfl ?_
    refine T.exit (T.exitCode (T.exitCut (T.exitBlk ?_)))
    refine T.seq <| T.region <| SL.v (op_load ty40 rfl (by repeat constructor) rfl) ?_
    refine SL.w (op_store ty40 rfl rfl (by repeat constructor) rfl rfl rfl) ?_
    rintro _ _ _ ⟨rfl, rfl⟩
    refine SL.nil <| T.drop B9 (by repeat constructor) ?_
    refine T.retM1S [_] _ rfl (ResIs.cell rfl ty40 (by repeat constructor) rfl) (List.sublist_cons_self _ _) (List.Perm.refl _) ?_
    exact ⟨(hX1.trans' hX2).trans' hX3, _, rfl, i3, off3, e3, sb, rfl, hS3, x, (_, _, _, _), rfl, hx.mono hX3, by rw [heq]; exact leftG_halt ha, hsh2⟩
end Go.Proofs.YtnabbnhefjfegaaGreatDoor
namespace Go.Proofs.YtnabbnhefjfegaaGreatDoor
section
set_option maxRecDepth 100000
theorem en138 : Enters Tryz.prog 138 := enters_mk Tryz.func138 (by kernel_rfl) rfl
theorem en179 : Enters Tryz.prog 179 := enters_mk Tryz.func179 (by kernel_rfl) rfl
theorem en180 : Enters Tryz.prog 180 := enters_mk Tryz.func180 (by kernel_rfl) rfl
theorem en192 : Enters Tryz.prog 192 := enters_mk Tryz.func192 (by kernel_rfl) rfl
end
open Go.RowKit
theorem sum_spec {f : Nat} {p : ParP} (hp : SpecP Tryz.prog 192 p f) : SpecP Tryz.prog 179 (sumP p) f := by
  intro X v ts rb pb i off e st hT hP hS hf
  refine SpecM.enter Tryz.func179 rfl Tryz.ntmps179 rfl ?_
  intro w0 X0 own0
  refine T.seq <| T.region <| SL.w (op_alloc z40) ?_
  rintro _ _ _ ⟨B2, rfl, rfl, rfl⟩
  refine SL.nil <| T.seq <| T.region <| SL.mv rfl <| SL.mv rfl <| SL.v (op_makeFunc (vs := [_]) (us := []) rfl rfl) <| SL.w (op_callJ en138 rfl (vs := [_, _, _, _]) rfl (left_spec en192 hp hT hP hS hf) (by repeat constructor)) ?_
  rintro _ _ X1 ⟨_, rfl, hX1, i1, off1, e1, sa, rfl, hS1, x, q, rfl, hx, hO, hsh⟩
  obtain ⟨o9, n9, a9, b9, l9, c9, m9, d9, rfl⟩ := hx.form
  refine SL.w (op_store ty40 rfl rfl (by repeat constructor) rfl rfl rfl) ?_
  rintro _ _ _ ⟨rfl, rfl⟩
  refine SL.nil <| T.retM1S [_] _ rfl (ResIs.cell rfl ty40 (by repeat constructor) rfl) (List.sublist_cons_self _ _) (List.Perm.refl _) ?_
  exact ⟨hX1, _, rfl, i1, off1, e1, sa, rfl, hS1, x, (_, _, _, _), rfl, hx, hO, hsh⟩
/-- The operator of a comparison. -/
def oprM (st : RSt) : Option Nat × RSt := match st with
  | .ok l => match cmps.find? fun c => isT c.1 l with
    | some c => (some c.2, .ok l.tail)
    | none => (none, .ok l)
  | .error x => (none, .error x)
theorem oprM_hit {st : RSt} {pre post : List (ByteArray × Nat)} {c : ByteArray × Nat} (hc : cmps = pre ++ c :: post) (hp : ∀ d ∈ pre, (accM d.1 st).1 = false) (h : (accM c.1 st).1 = true) : oprM st = (some c.2, (accM c.1 st).2) := by
  obtain ⟨l, rfl, h2, h3⟩ := accM_lt h
  have hk : isT c.1 l = true := by
    cases hk : isT c.1 l with
    | true => rfl
    | false => rw [accM_f hk] at h; cases h
  have hf : cmps.find? (fun c => isT c.1 l) = some c := by
    rw [hc, List.find?_append, List.find?_eq_none.2, Option.none_or, List.find?_cons_of_pos (p := fun c : ByteArray × Nat => isT c.1 l) hk]
    intro d hd
    have := hp d hd
    cases hk : isT d.1 l with
    | true => rw [accM_t hk] at this; cases this
    | false => simp
  rw [h2]
  show (match cmps.find? (fun c : ByteArray × Nat => isT c.1 l) with | some c => (some c.2, (.ok l.tail : RSt)) | none => (none, .ok l)) = _
  rw [hf]
theorem oprM_miss {st : RSt} (hp : ∀ d ∈ cmps, (accM d.1 st).1 = false) : oprM st = (none, st) := by
  cases st with
  | error x => rfl
  | ok l =>
    have hf : cmps.find? (fun c => isT c.1 l) = none := List.find?_eq_none.2 fun d hd => by
      have := hp d hd
      cases hk : isT d.1 l with
      | true => rw [accM_t hk] at this; cases this
      | false => simp
    show (match cmps.find? (fun c : ByteArray × Nat => isT c.1 l) with | some c => (some c.2, (.ok l.tail : RSt)) | none => (none, .ok l)) = _
    rw [hf]
section
variable {X : PMap} {v : Value} {ts : List Tk} {rb pb i off : Nat} {e : Int} {st : RSt}
theorem oper_spec (hT : Tks X v ts) (hP : Blk X pb [.pointer (some ⟨rb, 0, none⟩)]) (hS : RdS ts st i off e) :
    SpecR Tryz.prog 180 [.pointer (some ⟨pb, 0, none⟩)] X ts rb v i off e fun u st' _ => st' = (oprM st).2 ∧ u = match (oprM st).1 with | some o => .tuple #[.int .u8 (o : Int), .bool true] | none => .tuple #[.int .u8 0, .bool false] := by
  refine SpecM.enter Tryz.func180 rfl Tryz.ntmps180 rfl ?_
  intro w0 X0 own0
  refine T.seq <| T.region <| SL.v (op_assign (v := .int .u8 ((0 : Nat) : Int)) rfl) <| SL.as rfl <| SL.nil <| T.seq <| T.block <| T.seq <| T.region <| SL.mv rfl <| SL.v (op_nil rfl) <| SL.v (op_fieldAddr fa98_0 rfl) <| SL.v (op_loadX ty96 rfl (by assumption) rfl) ?_
  refine SL.w (op_callJ en90 rfl (vs := [_, _]) rfl (acc_spec hT hS) (by repeat constructor)) ?_
  rintro _ _ X1 ⟨_, rfl, hX1, i1, off1, e1, _, rfl, hS1, rfl, rfl⟩
  have hP := hP.mono hX1
  have hT := hT.mono hX1
  cases h1 : (accM wLe st).1 with
  | true =>
    have ho := oprM_hit (st := st) (pre := []) (c := (wLe, 11)) (post := [(wLt, 12), (wGe, 13), (wGt, 14), (wEq, 15)]) rfl (fun d hd => by cases hd) h1
    refine SL.as rfl <| SL.nil <| T.condT rfl <| T.seq <| T.region <| SL.v (op_assign (v := .int .u8 ((11 : Nat) : Int)) rfl) <| SL.as rfl <| SL.nil <| T.retM2 [RdO rb v i1 off1 e1] rfl (ResIs.tmp rfl) (ResIs.tmp rfl) (List.Perm.refl _) ?_
    exact ⟨hX1, _, rfl, i1, off1, e1, _, rfl, hS1, by rw [ho], by rw [ho]⟩
  | false =>
  rw [accM_same h1] at hS1
  refine SL.as rfl <| SL.nil <| T.condF rfl <| T.seq <| T.region <| SL.mv rfl <| SL.v (op_nil rfl) <| SL.v (op_fieldAddr fa98_0 rfl) <| SL.v (op_loadX ty96 rfl (by assumption) rfl) ?_
  refine SL.w (op_callJ en90 rfl (vs := [_, _]) rfl (acc_spec hT hS1) (by repeat constructor)) ?_
  rintro _ _ X2 ⟨_, rfl, hX2, i2, off2, e2, _, rfl, hS2, rfl, rfl⟩
  have hP := hP.mono hX2
  have hT := hT.mono hX2
  cases h2 : (accM wLt st).1 with
  | true =>
    have ho := oprM_hit (st := st) (pre := [(wLe, 11)]) (c := (wLt, 12)) (post := [(wGe, 13), (wGt, 14), (wEq, 15)]) rfl (by intro d hd; simp only [List.mem_cons, List.not_mem_nil, or_false] at hd; rcases hd with rfl <;> assumption) h2
    refine SL.as rfl <| SL.nil <| T.condT rfl <| T.seq <| T.region <| SL.v (op_assign (v := .int .u8 ((12 : Nat) : Int)) rfl) <| SL.as rfl <| SL.nil <| T.retM2 [RdO rb v i2 off2 e2] rfl (ResIs.tmp rfl) (ResIs.tmp rfl) (List.Perm.refl _) ?_
    exact ⟨(hX1.trans' hX2), _, rfl, i2, off2, e2, _, rfl, hS2, by rw [ho], by rw [ho]⟩
  | false =>
  rw [accM_same h2] at hS2
  refine SL.as rfl <| SL.nil <| T.condF rfl <| T.seq <| T.region <| SL.mv rfl <| SL.v (op_nil rfl) <| SL.v (op_fieldAddr fa98_0 rfl) <| SL.v (op_loadX ty96 rfl (by assumption) rfl) ?_
  refine SL.w (op_callJ en90 rfl (vs := [_, _]) rfl (acc_spec hT hS2) (by repeat constructor)) ?_
  rintro _ _ X3 ⟨_, rfl, hX3, i3, off3, e3, _, rfl, hS3, rfl, rfl⟩
  have hP := hP.mono hX3
  have hT := hT.mono hX3
  cases h3 : (accM wGe st).1 with
  | true =>
    have ho := oprM_hit (st := st) (pre := [(wLe, 11), (wLt, 12)]) (c := (wGe, 13)) (post := [(wGt, 14), (wEq, 15)]) rfl (by intro d hd; simp only [List.mem_cons, List.not_mem_nil, or_false] at hd; rcases hd with rfl | rfl <;> assumption) h3
    refine SL.as rfl <| SL.nil <| T.condT rfl <| T.seq <| T.region <| SL.v (op_assign (v := .int .u8 ((13 : Nat) : Int)) rfl) <| SL.as rfl <| SL.nil <| T.retM2 [RdO rb v i3 off3 e3] rfl (ResIs.tmp rfl) (ResIs.tmp rfl) (List.Perm.refl _) ?_
    exact ⟨((hX1.trans' hX2).trans' hX3), _, rfl, i3, off3, e3, _, rfl, hS3, by rw [ho], by rw [ho]⟩
  | false =>
  rw [accM_same h3] at hS3
  refine SL.as rfl <| SL.nil <| T.condF rfl <| T.seq <| T.region <| SL.mv rfl <| SL.v (op_nil rfl) <| SL.v (op_fieldAddr fa98_0 rfl) <| SL.v (op_loadX ty96 rfl (by assumption) rfl) ?_
  refine SL.w (op_callJ en90 rfl (vs := [_, _]) rfl (acc_spec hT hS3) (by repeat constructor)) ?_
  rintro _ _ X4 ⟨_, rfl, hX4, i4, off4, e4, _, rfl, hS4, rfl, rfl⟩
  have hP := hP.mono hX4
  have hT := hT.mono hX4
  cases h4 : (accM wGt st).1 with
  | true =>
    have ho := oprM_hit (st := st) (pre := [(wLe, 11), (wLt, 12), (wGe, 13)]) (c := (wGt, 14)) (post := [(wEq, 15)]) rfl (by intro d hd; simp only [List.mem_cons, List.not_mem_nil, or_false] at hd; rcases hd with rfl | rfl | rfl <;> assumption) h4
    refine SL.as rfl <| SL.nil <| T.condT rfl <| T.seq <| T.region <| SL.v (op_assign (v := .int .u8 ((14 : Nat) : Int)) rfl) <| SL.as rfl <| SL.nil <| T.retM2 [RdO rb v i4 off4 e4] rfl (ResIs.tmp rfl) (ResIs.tmp rfl) (List.Perm.refl _) ?_
    exact ⟨(((hX1.trans' hX2).trans' hX3).trans' hX4), _, rfl, i4, off4, e4, _, rfl, hS4, by rw [ho], by rw [ho]⟩
  | false =>
  rw [accM_same h4] at hS4
  refine SL.as rfl <| SL.nil <| T.condF rfl <| T.seq <| T.region <| SL.mv rfl <| SL.v (op_nil rfl) <| SL.v (op_fieldAddr fa98_0 rfl) <| SL.v (op_loadX ty96 rfl (by assumption) rfl) ?_
  refine SL.w (op_callJ en90 rfl (vs := [_, _]) rfl (acc_spec hT hS4) (by repeat constructor)) ?_
  rintro _ _ X5 ⟨_, rfl, hX5, i5, off5, e5, _, rfl, hS5, rfl, rfl⟩
  have hP := hP.mono hX5
  have hT := hT.mono hX5
  cases h5 : (accM wEq st).1 with
  | true =>
    have ho := oprM_hit (st := st) (pre := [(wLe, 11), (wLt, 12), (wGe, 13), (wGt, 14)]) (c := (wEq, 15)) (post := []) rfl (by intro d hd; simp only [List.mem_cons, List.not_mem_nil, or_false] at hd; rcases hd with rfl | rfl | rfl | rfl <;> assumption) h5
    refine SL.as rfl <| SL.nil <| T.condT rfl <| T.seq <| T.region <| SL.v (op_assign (v := .int .u8 ((15 : Nat) : Int)) rfl) <| SL.as rfl <| SL.nil <| T.retM2 [RdO rb v i5 off5 e5] rfl (ResIs.tmp rfl) (ResIs.tmp rfl) (List.Perm.refl _) ?_
    exact ⟨((((hX1.trans' hX2).trans' hX3).trans' hX4).trans' hX5), _, rfl, i5, off5, e5, _, rfl, hS5, by rw [ho], by rw [ho]⟩
  | false =>
  rw [accM_same h5] at hS5
  have ho := oprM_miss (st := st) (by intro d hd; simp only [cmps, List.mem_cons, List.not_mem_nil, or_false] at hd; rcases hd with rfl | rfl | rfl | rfl | rfl <;> assumption)
  refine SL.as rfl <| SL.nil <| T.condF rfl <| T.skip <| T.blk <| T.seq <| T.region <| SL.v (op_assign (v := .int .u8 ((0 : Nat) : Int)) rfl) <| SL.as rfl <| SL.nil <| T.retM2 [RdO rb v i5 off5 e5] rfl (ResIs.tmp rfl) (ResIs.tmp rfl) (List.Perm.refl _) ?_
  exact ⟨((((hX1.trans' hX2).trans' hX3).trans' hX4).trans' hX5), _, rfl, i5, off5, e5, _, rfl, hS5, by rw [ho], by rw [ho]; rfl⟩
end
theorem cmpP_run {pr : ParP} {st sa : RSt} {x : Ex} (h : Out (runM (sumP pr) st) sa x) : runM (cmpP pr) st = match (oprM sa).1 with
    | some o => runM (fun l => bindR (sumP pr l) fun y l' => .ok (two o x y, l')) (oprM sa).2
    | none => runM (fun l => .ok (x, l)) (oprM sa).2 := by
  have e : cmpP pr = fun l => bindR (sumP pr l) fun x l' => match cmps.find? fun c : ByteArray × Nat => isT c.1 l' with
    | some c => bindR (sumP pr l'.tail) fun y l'' => .ok (two c.2 x y, l'')
    | none => .ok (x, l') := rfl
  rw [e, runM_par h]
  cases sa with
  | error y => rfl
  | ok l =>
    simp only [oprM, runM]
    cases cmps.find? fun c : ByteArray × Nat => isT c.1 l with
    | none => rfl
    | some c => rfl
theorem oprM_sh {st : RSt} : Sh st (oprM st).2 := by
  cases st with
  | error x => exact Sh.refl _
  | ok l =>
    show Sh (.ok l) (match cmps.find? (fun c : ByteArray × Nat => isT c.1 l) with | some c => (some c.2, (.ok l.tail : RSt)) | none => (none, .ok l)).2
    cases cmps.find? fun c : ByteArray × Nat => isT c.1 l with
    | none => exact Sh.refl _
    | some c => exact tail_sh
theorem comparison_spec {f : Nat} {p : ParP} (hp : SpecP Tryz.prog 192 p f) : SpecP Tryz.prog 162 (cmpP p) f := by
  intro X v ts rb pb i off e st hT hP hS hf
  refine SpecM.enter Tryz.func162 rfl Tryz.ntmps162 rfl ?_
  intro w0 X0 own0
  refine T.seq <| T.region <| SL.w (op_alloc z40) ?_
  rintro _ _ _ ⟨B2, rfl, rfl, rfl⟩
  refine SL.nil <| T.seq <| T.region <| SL.mv rfl <| SL.w (op_callJ en179 rfl (vs := [_]) rfl (sum_spec hp hT hP hS hf) (by repeat constructor)) ?_
  rintro _ _ X1 ⟨_, rfl, hX1, i1, off1, e1, sa, rfl, hS1, x, q, rfl, hx, hO, hsh⟩
  obtain ⟨o9, n9, a9, b9, l9, c9, m9, d9, rfl⟩ := hx.form
  have hP := hP.mono hX1
  have hT := hT.mono hX1
  have hrun := cmpP_run hO
  refine SL.w (op_alloc z40) ?_
  rintro _ _ _ ⟨B3, rfl, rfl, rfl⟩
  refine SL.w (op_store ty40 rfl rfl (by repeat constructor) rfl rfl rfl) ?_
  rintro _ _ _ ⟨rfl, rfl⟩
  refine SL.nil <| T.seq <| T.seq <| T.region <| SL.mv rfl <| SL.w (op_callJ en180 rfl (vs := [_]) rfl (oper_spec hT hP hS1) (by repeat constructor)) ?_
  rintro _ _ X2 ⟨_, rfl, hX2, i2, off2, e2, _, rfl, hS2, rfl, rfl⟩
  have hP := hP.mono hX2
  have hT := hT.mono hX2
  have hsh2 := hsh.trans (oprM_sh (st := sa))
  cases ho : (oprM sa).1 with
  | none =>
    rw [ho] at hrun
    refine SL.mv rfl <| SL.v (op_extract rfl rfl) <| SL.v (op_extract rfl rfl) <| SL.as rfl <| SL.as rfl <| SL.nil <| T.seq <| T.region <| SL.mv rfl <| SL.nil <| T.condF rfl <| T.skip <| T.seq <| T.region <| SL.v (op_load ty40 rfl (by repeat constructor) rfl) ?_
    refine SL.w (op_store ty40 rfl rfl (by repeat constructor) rfl rfl rfl) ?_
    rintro _ _ _ ⟨rfl, rfl⟩
    refine SL.nil <| T.drop B3 (by repeat constructor) ?_
    refine T.retM1S [_] _ rfl (ResIs.cell rfl ty40 (by repeat constructor) rfl) (List.sublist_cons_self _ _) (List.Perm.refl _) ?_
    exact ⟨hX1.trans' hX2, _, rfl, i2, off2, e2, _, rfl, hS2, x, (_, _, _, _), rfl, hx.mono hX2, by rw [hrun]; exact out_ok rfl, hsh2⟩
  | some o =>
    rw [ho] at hrun
    refine SL.mv rfl <| SL.v (op_extract rfl rfl) <| SL.v (op_extract rfl rfl) <| SL.as rfl <| SL.as rfl <| SL.nil <| T.seq <| T.region <| SL.mv rfl <| SL.nil <| T.condT rfl <| T.seq <| T.drawG (own0 := [_, _]) (by kernel_rfl) 5 [.t 0, .t 1, .t 2, .r 3, .r 4] (by kernel_rfl) ?_
    refine SD.take rfl panicBody (op_move rfl) rfl rfl ?_
    refine SD.take rfl panicBody (op_load ty40 rfl (by repeat constructor) rfl) rfl rfl ?_
    refine SD.take rfl panicBody (op_move rfl) rfl rfl ?_
    refine SD.runK rfl (op_callJ en179 rfl (vs := [_]) rfl (sum_spec hp hT hP hS2 (hsh2.lt hf)) (.there (.there .here))) (by rintro _ _ _ ⟨_, rfl, hX4, _⟩; exact ⟨keep2, hX4⟩) rfl rfl ?_
    rintro _ _ X4 ⟨_, rfl, hX4, i4, off4, e4, sc, rfl, hS4, y, q4, rfl, hy, hO4, hsh4⟩
    obtain ⟨o4, n4, a4, b4, l4, c4, m4, d4, rfl⟩ := hy.form
    have hc := two_spec (op := o) ((hx.mono hX2).mono hX4) hy
    try simp only at hc
    refine SD.run rfl (op_callF en94 (vs := [_, _, _]) rfl (hc)) rfl rfl ?_
    rintro _ _ X5 ⟨rfl, hX5, q5, rfl, hq5⟩
    refine SD.nil ?_
    show SL _ _ _ _ _ _ _ [_] _ _ _
    obtain ⟨o5, n5, a5, b5, l5, c5, m5, d5, rfl⟩ := hq5.form
    refine SL.w (op_store ty40 rfl rfl (by repeat constructor) rfl rfl rfl) ?_
    rintro _ _ _ ⟨rfl, rfl⟩
    refine SL.nil <| T.retM1S [_] _ rfl (ResIs.cell rfl ty40 (by repeat constructor) rfl) (.cons _ (.cons _ (.refl _))) (List.Perm.refl _) ?_
    exact ⟨((hX1.trans' hX2).trans' hX4).trans' hX5, _, rfl, i4, off4, e4, sc, rfl, hS4, two o x y, (_, _, _, _), rfl, hq5, by rw [hrun]; simp only; rw [runM_par hO4]; exact out_ok rfl, hsh2.trans hsh4⟩
end Go.Proofs.YtnabbnhefjfegaaGreatDoor
namespace Go.Proofs.YtnabbnhefjfegaaGreatDoor
section
set_option maxRecDepth 100000
theorem en139 : Enters Tryz.prog 139 := enters_mk Tryz.func139 (by kernel_rfl) rfl
theorem en154 : Enters Tryz.prog 154 := enters_mk Tryz.func154 (by kernel_rfl) rfl
theorem en162 : Enters Tryz.prog 162 := enters_mk Tryz.func162 (by kernel_rfl) rfl
end
open Go.RowKit
def wrapN : Nat → Ex → Ex
  | 0, x => x
  | n + 1, x => wrapN n (.mk 7 0 [] [x])
theorem wrapN_out : ∀ (n : Nat) (x : Ex), Ex.mk 7 0 [] [wrapN n x] = wrapN (n + 1) x
  | 0, _ => rfl
  | n + 1, x => by rw [wrapN, wrapN_out n]; rfl
def outW (n : Nat) (R : Res Ex) : Res Ex := bindR R fun x l => .ok (wrapN n x, l)
noncomputable def negA (pr : ParP) : ParP := fun l => negP pr (l.length + 1) l
section
variable {pr : ParP} {st : RSt} {n k : Nat}
theorem negA_start : runM (negA pr) st = outW 0 (runM (fun l => negP pr (lenS st + 1) l) st) := by
  cases st with
  | error x => rfl
  | ok l =>
    show negP pr (l.length + 1) l = bindR (negP pr (l.length + 1) l) _
    cases negP pr (l.length + 1) l with
    | error x => rfl
    | ok y => rfl
theorem neg_more (h : (accM wNot st).1 = true) : outW n (runM (fun l => negP pr (k + 1) l) st) = outW (n + 1) (runM (fun l => negP pr k l) (accM wNot st).2) := by
  obtain ⟨l, rfl, h2, h3⟩ := accM_lt h
  have hk : isT wNot l = true := by
    cases hk : isT wNot l with
    | true => rfl
    | false => rw [accM_f hk] at h; cases h
  rw [h2]
  show outW n (negP pr (k + 1) l) = outW (n + 1) (negP pr k l.tail)
  rw [negP_succ, if_pos hk]
  cases negP pr k l.tail with
  | error x => rfl
  | ok y => rfl
theorem neg_halt (h : (accM wNot st).1 = false) : outW n (runM (fun l => negP pr (k + 1) l) st) = outW n (runM (cmpP pr) st) := by
  cases st with
  | error x => rfl
  | ok l =>
    have hk : isT wNot l = false := by
      cases hk : isT wNot l with
      | false => rfl
      | true => rw [accM_t hk] at h; cases h
    show outW n (negP pr (k + 1) l) = _
    rw [negP_succ, hk]
    rfl
theorem outW_out {R : Res Ex} {sa : RSt} {x : Ex} (h : Out R sa x) : Out (outW n R) sa (wrapN n x) := by
  cases R with
  | error y => exact h
  | ok y => obtain ⟨rfl, rfl⟩ := h; exact ⟨rfl, rfl⟩
end
theorem notR {X : PMap} {x : Ex} {r : Row4} {b : Nat} (h : ExR .u8 X x r) (hb : Blk X b [r.1, r.2.1, r.2.2.1, r.2.2.2]) : ExR .u8 X (.mk 7 0 [] [x]) (.int .u8 7, .int .i64 0, .slice none 0 0, .slice (some ⟨b, 0, none⟩) 1 1) :=
  .mk (.inl ⟨rfl, _, _, rfl⟩) (rows := [r]) (.inr ⟨by simp, b, 1, [], rfl, hb, by simp, by decide⟩) rfl fun i a q ha hq => by
    match i with
    | 0 => cases ha; cases hq; exact h
    | i + 1 => cases ha
theorem negation_spec {f : Nat} {p : ParP} (hp : SpecP Tryz.prog 192 p f) : SpecP Tryz.prog 154 (negA p) f := by
  intro X v ts rb pb i off e st hT hP hS hf
  have hlen := hT.len
  have hls := hS.lenS
  refine SpecM.enter Tryz.func154 rfl Tryz.ntmps154 rfl ?_
  intro w0 X0 own0
  refine T.seq <| T.region <| SL.w (op_alloc z40) ?_
  rintro _ _ _ ⟨B2, rfl, rfl, rfl⟩
  refine SL.nil <| T.seq <| T.region <| SL.v (op_assign (v := .int .i64 ((0 : Nat) : Int)) rfl) <| SL.nil <| T.seq <| T.block <| T.loopW (fun m env own X' => ∃ (n : Nat) (i off : Nat) (e : Int) (sa : RSt) (k : Nat), m = lenS sa ∧ X.le X' ∧ RdS ts sa i off e ∧ Sh st sa ∧ n + lenS sa ≤ 1000000 ∧ lenS sa ≤ k ∧ runM (negA p) st = outW n (runM (fun l => negP p (k + 1) l) sa) ∧ env = [(0, .pointer (some ⟨pb, 0, none⟩)), (2, .pointer (some ⟨B2, 0, none⟩)), (3, .int .i64 (n : Int))] ∧ own = E0 B2 :: RdO rb v i off e :: own0) (lenS st) ⟨0, i, off, e, st, lenS st, rfl, PMap.le_refl _, hS, Sh.refl _, by omega, Nat.le_refl _, negA_start, rfl, rfl⟩ (by repeat (first | exact Sub.nil | refine Sub.cons rfl ?_)) ?_
  rintro m _ _ X1 ⟨n, i1, off1, e1, sa, k, rfl, hX1, hS1, hsh1, hn, hk, heq, rfl, rfl⟩
  have hP := hP.mono hX1
  have hT := hT.mono hX1
  refine T.seq <| T.seq <| T.region <| SL.mv rfl <| SL.v (op_nil rfl) <| SL.v (op_fieldAddr fa98_0 rfl) <| SL.v (op_loadX ty96 rfl (by assumption) rfl) ?_
  refine SL.w (op_callJ en90 rfl (vs := [_, _]) rfl (acc_spec hT hS1) (by repeat constructor)) ?_
  rintro _ _ X2 ⟨_, rfl, hX2, i2, off2, e2, _, rfl, hS2, rfl, rfl⟩
  have hP := hP.mono hX2
  have hT := hT.mono hX2
  cases ha : (accM wNot sa).1 with
  | true =>
    have hdec := accM_dec ha
    obtain ⟨k, rfl⟩ : ∃ q, k = q + 1 := ⟨k - 1, by omega⟩
    rw [neg_more ha] at heq
    refine SL.nil <| T.condT rfl <| T.skip <| T.block <| T.region <| SL.mv rfl <| SL.v (op_addN (q := 1) rfl rfl (by omega)) ?_
    refine SL.as rfl <| SL.nil <| T.blk ?_
    exact T.backW (lenS (accM wNot sa).2) (by omega) ⟨n + 1, i2, off2, e2, (accM wNot sa).2, k, rfl, hX1.trans' hX2, hS2, hsh1.trans accM_sh, by omega, by omega, heq, rfl, rfl⟩ (by repeat (first | exact Sub.nil | refine Sub.cons rfl ?_))
  | false =>
    rw [accM_same ha] at hS2
    rw [neg_halt ha] at heq
    refine SL.nil <| T.condF rfl ?_
    refine T.exit (T.exitCode (T.exitCut (T.exitBlk ?_)))
    refine T.seq <| T.region <| SL.mv rfl <| SL.w (op_callJ en162 rfl (vs := [_]) rfl (comparison_spec hp hT hP hS2 (hsh1.lt hf)) (by repeat constructor)) ?_
    rintro _ _ X3 ⟨_, rfl, hX3, i3, off3, e3, sb, rfl, hS3, x, q, rfl, hx, hO, hsh3⟩
    obtain ⟨o9, n9, a9, b9, l9, c9, m9, d9, rfl⟩ := hx.form
    refine SL.w (op_alloc z40) ?_
    rintro _ _ _ ⟨B4, rfl, rfl, rfl⟩
    refine SL.w (op_store ty40 rfl rfl (by repeat constructor) rfl rfl rfl) ?_
    rintro _ _ _ ⟨rfl, rfl⟩
    refine SL.nil <| T.seq <| T.seq <| T.region <| SL.mv rfl <| SL.v (op_move (v := .int .i64 ((0 : Nat) : Int)) rfl) <| SL.nil <| T.block <| T.loopW (fun m env own X' => ∃ (j : Nat) (r : Row4), m = n - j ∧ j ≤ n ∧ X3.le X' ∧ ExR .u8 X' (wrapN j x) r ∧ env = [(2, .pointer (some ⟨B2, 0, none⟩)), (4, .pointer (some ⟨B4, 0, none⟩)), (14, .int .i64 (n : Int)), (15, .int .i64 (j : Int))] ∧ own = EO B4 r :: E0 B2 :: RdO rb v i3 off3 e3 :: own0) n ⟨0, (_, _, _, _), rfl, Nat.zero_le _, PMap.le_refl _, hx, rfl, rfl⟩ (by repeat (first | exact Sub.nil | refine Sub.cons rfl ?_)) ?_
    rintro m _ _ X4 ⟨j, r, rfl, hj, hX4, hr, rfl, rfl⟩
    obtain ⟨o8, n8, a8, b8, l8, c8, m8, d8, rfl⟩ := hr.form
    rcases Nat.lt_or_ge j n with hjn | hjn
    · skip
      refine T.seq <| T.region <| SL.v (op_lssT rfl rfl (by omega)) ?_
      refine SL.nil <| T.seq <| T.condT rfl <| T.skip <| T.seq <| T.block <| T.region <| SL.v (op_load ty40 rfl (by repeat constructor) rfl) ?_
      refine SL.w (op_buildSlice Tryz.underlying38 bs40 (qs := [(0, _)]) rfl rfl rfl rfl rfl) ?_
      rintro _ _ _ ⟨B18, rfl, rfl, rfl⟩
      refine SL.v (op_build st40 (qs := [(0, _), (3, _)]) rfl rfl) <| SL.w (op_store ty40 rfl rfl (by repeat constructor) rfl rfl rfl) ?_
      rintro _ _ _ ⟨rfl, rfl⟩
      refine SL.nil <| T.blk <| T.region <| SL.v (op_addN (q := 1) rfl rfl (by omega)) ?_
      refine SL.mv rfl <| SL.nil <| T.pub B18 (by repeat constructor) ?_
      intro X5 hX5 hB18 _
      exact T.backW (n - (j + 1)) (by omega) ⟨j + 1, (.int .u8 7, .int .i64 0, .slice none 0 0, .slice (some ⟨B18, 0, none⟩) 1 1), rfl, by omega, hX4.trans' hX5, by rw [← wrapN_out]; exact notR (hr.mono hX5) hB18, rfl, rfl⟩ (by repeat (first | exact Sub.nil | refine Sub.cons rfl ?_))
    · obtain rfl : j = n := by omega
      refine T.seq <| T.region <| SL.v (op_lssF rfl rfl (by omega)) ?_
      refine SL.nil <| T.seq <| T.condF rfl ?_
      refine T.exit (T.exitCode (T.exitCut (T.exitBlk ?_)))
      refine T.seq <| T.region <| SL.v (op_load ty40 rfl (by repeat constructor) rfl) ?_
      refine SL.w (op_store ty40 rfl rfl (by repeat constructor) rfl rfl rfl) ?_
      rintro _ _ _ ⟨rfl, rfl⟩
      refine SL.nil <| T.drop B4 (by repeat constructor) ?_
      refine T.retM1S [_] _ rfl (ResIs.cell rfl ty40 (by repeat constructor) rfl) (List.sublist_cons_self _ _) (List.Perm.refl _) ?_
      exact ⟨((hX1.trans' hX2).trans' hX3).trans' hX4, _, rfl, i3, off3, e3, sb, rfl, hS3, wrapN j x, (_, _, _, _), rfl, hr, by rw [heq]; exact outW_out hO, hsh1.trans hsh3⟩
theorem conj_spec {f : Nat} {p : ParP} (hp : SpecP Tryz.prog 192 p f) : SpecP Tryz.prog 139 (conjP p) f := by
  intro X v ts rb pb i off e st hT hP hS hf
  refine SpecM.enter Tryz.func139 rfl Tryz.ntmps139 rfl ?_
  intro w0 X0 own0
  refine T.seq <| T.region <| SL.w (op_alloc z40) ?_
  rintro _ _ _ ⟨B2, rfl, rfl, rfl⟩
  refine SL.nil <| T.seq <| T.region <| SL.mv rfl <| SL.mv rfl <| SL.v (op_makeFunc (vs := [_]) (us := []) rfl rfl) <| SL.w (op_callJ en138 rfl (vs := [_, _, _, _]) rfl (left_spec en154 (negation_spec hp) hT hP hS hf) (by repeat constructor)) ?_
  rintro _ _ X1 ⟨_, rfl, hX1, i1, off1, e1, sa, rfl, hS1, x, q, rfl, hx, hO, hsh⟩
  obtain ⟨o9, n9, a9, b9, l9, c9, m9, d9, rfl⟩ := hx.form
  refine SL.w (op_store ty40 rfl rfl (by repeat constructor) rfl rfl rfl) ?_
  rintro _ _ _ ⟨rfl, rfl⟩
  refine SL.nil <| T.retM1S [_] _ rfl (ResIs.cell rfl ty40 (by repeat constructor) rfl) (List.sublist_cons_self _ _) (List.Perm.refl _) ?_
  exact ⟨hX1, _, rfl, i1, off1, e1, sa, rfl, hS1, x, (_, _, _, _), rfl, hx, hO, hsh⟩
theorem disj_spec {f : Nat} {p : ParP} (hp : SpecP Tryz.prog 192 p f) : SpecP Tryz.prog 93 (disjP p) f := by
  intro X v ts rb pb i off e st hT hP hS hf
  refine SpecM.enter Tryz.func93 rfl Tryz.ntmps93 rfl ?_
  intro w0 X0 own0
  refine T.seq <| T.region <| SL.w (op_alloc z40) ?_
  rintro _ _ _ ⟨B2, rfl, rfl, rfl⟩
  refine SL.nil <| T.seq <| T.region <| SL.mv rfl <| SL.mv rfl <| SL.v (op_makeFunc (vs := [_]) (us := []) rfl rfl) <| SL.w (op_callJ en138 rfl (vs := [_, _, _, _]) rfl (left_spec en139 (conj_spec hp) hT hP hS hf) (by repeat constructor)) ?_
  rintro _ _ X1 ⟨_, rfl, hX1, i1, off1, e1, sa, rfl, hS1, x, q, rfl, hx, hO, hsh⟩
  obtain ⟨o9, n9, a9, b9, l9, c9, m9, d9, rfl⟩ := hx.form
  refine SL.w (op_store ty40 rfl rfl (by repeat constructor) rfl rfl rfl) ?_
  rintro _ _ _ ⟨rfl, rfl⟩
  refine SL.nil <| T.retM1S [_] _ rfl (ResIs.cell rfl ty40 (by repeat constructor) rfl) (List.sublist_cons_self _ _) (List.Perm.refl _) ?_
  exact ⟨hX1, _, rfl, i1, off1, e1, sa, rfl, hS1, x, (_, _, _, _), rfl, hx, hO, hsh⟩
end Go.Proofs.YtnabbnhefjfegaaGreatDoor
namespace Go.Proofs.YtnabbnhefjfegaaGreatDoor
section
set_option maxRecDepth 100000
theorem en93 : Enters Tryz.prog 93 := enters_mk Tryz.func93 (by kernel_rfl) rfl
theorem z1 : Zero Tryz.prog 1 [.nilFunc] := ⟨zero_of (by kernel_rfl)⟩
theorem z2 : Zero Tryz.prog 2 [.int .i64 0] := ⟨zero_of (by kernel_rfl)⟩
end
open Go.RowKit
noncomputable def implA (pr : ParP) : ParP := fun l => implP pr (l.length + 1) l
noncomputable def tailI (pr : ParP) (k : Nat) (x : Ex) : ParP := fun l => if isT wArrow l then bindR (implP pr k l.tail) fun y l' => .ok (two 10 x y, l') else .ok (x, l)
def wrapI (ps : List Ex) (R : Res Ex) : Res Ex := bindR R fun y l => .ok (ps.foldr (two 10) y, l)
section
variable {pr : ParP} {st sa : RSt} {x y : Ex} {k : Nat} {ps : List Ex}
theorem implP_eq {l : List Tk} : implP pr (k + 1) l = bindR (disjP pr l) fun x l' => tailI pr k x l' := rfl
theorem implA_start (h : Out (runM (disjP pr) st) sa x) : runM (implA pr) st = wrapI [] (runM (tailI pr (lenS st) x) sa) := by
  have e : wrapI [] (runM (tailI pr (lenS st) x) sa) = runM (tailI pr (lenS st) x) sa := by
    unfold wrapI
    cases runM (tailI pr (lenS st) x) sa with
    | error z => rfl
    | ok z => rfl
  rw [e, ← runM_par (q := fun x l' => tailI pr (lenS st) x l') h]
  cases st with
  | error z => rfl
  | ok l => rfl
theorem impl_more (h : (accM wArrow st).1 = true) (ho : Out (runM (disjP pr) (accM wArrow st).2) sa y) : wrapI ps (runM (tailI pr (k + 1) x) st) = wrapI (ps ++ [x]) (runM (tailI pr k y) sa) := by
  obtain ⟨l, rfl, h2, h3⟩ := accM_lt h
  have hk : isT wArrow l = true := by
    cases hk : isT wArrow l with
    | true => rfl
    | false => rw [accM_f hk] at h; cases h
  rw [h2] at ho
  rw [← runM_par (q := fun y l' => tailI pr k y l') ho]
  show wrapI ps (tailI pr (k + 1) x l) = wrapI (ps ++ [x]) (bindR (disjP pr l.tail) fun y l' => tailI pr k y l')
  rw [tailI, if_pos hk, implP_eq]
  unfold wrapI
  cases disjP pr l.tail with
  | error z => rfl
  | ok z =>
    obtain ⟨z1, z2⟩ := z
    show bindR (bindR (tailI pr k z1 z2) _) _ = bindR (tailI pr k z1 z2) _
    cases tailI pr k z1 z2 with
    | error u => rfl
    | ok u =>
      obtain ⟨u1, u2⟩ := u
      simp only [bindR, List.foldr_append]
      rfl
theorem impl_halt (h : (accM wArrow st).1 = false) : Out (wrapI ps (runM (tailI pr k x) st)) st (ps.foldr (two 10) x) := by
  cases st with
  | error z => rfl
  | ok l =>
    have hk : isT wArrow l = false := by
      cases hk : isT wArrow l with
      | false => rfl
      | true => rw [accM_t hk] at h; cases h
    show Out (wrapI ps (tailI pr k x l)) _ _
    rw [tailI, hk]
    exact ⟨rfl, rfl⟩
end
/-- Rows of these trees. -/
def PartsR (X : PMap) (xs : List Ex) (qs : List Row4) : Prop := qs.length = xs.length ∧ ∀ (i : Nat) (x : Ex) (q : Row4), xs[i]? = some x → qs[i]? = some q → ExR .u8 X x q
theorem PartsR.mono {X X' : PMap} {xs : List Ex} {qs : List Row4} (h : PartsR X xs qs) (hX : X.le X') : PartsR X' xs qs := ⟨h.1, fun i x q a b => (h.2 i x q a b).mono hX⟩
theorem PartsR.snoc {X : PMap} {xs : List Ex} {qs : List Row4} {x : Ex} {q : Row4} (h : PartsR X xs qs) (hx : ExR .u8 X x q) : PartsR X (xs ++ [x]) (qs ++ [q]) :=
  ⟨by rw [List.length_append, List.length_append, h.1]; rfl, rows_snoc (R := fun X x q => ExR .u8 X x q) h.1 h.2 hx⟩
theorem expression_spec {f : Nat} {p : ParP} (hp : SpecP Tryz.prog 192 p f) : SpecP Tryz.prog 46 (implA p) f := by
  intro X v ts rb pb i off e st hT hP hS hf
  have hmx : maxLen = 9223372036854775807 := rfl
  have hlen := hT.len
  refine SpecM.enter Tryz.func46 rfl Tryz.ntmps46 rfl ?_
  intro w0 X0 own0
  refine T.seq <| T.region <| SL.w (op_alloc z40) ?_
  rintro _ _ _ ⟨B2, rfl, rfl, rfl⟩
  refine SL.nil <| T.seq <| T.region <| SL.mv rfl <| SL.w (op_callJ en93 rfl (vs := [_]) rfl (disj_spec hp hT hP hS hf) (by repeat constructor)) ?_
  rintro _ _ X1 ⟨_, rfl, hX1, i1, off1, e1, sa, rfl, hS1, x0, q0, rfl, hx0, hO0, hsh0⟩
  obtain ⟨o9, n9, a9, b9, l9, c9, m9, d9, rfl⟩ := hx0.form
  have hl1 := hS1.lenS
  have hsl := hsh0.len
  refine SL.w (op_buildSlice Tryz.underlying38 bs40 (qs := [(0, _)]) rfl rfl rfl rfl rfl) ?_
  rintro _ _ _ ⟨B8, rfl, rfl, rfl⟩
  refine SL.as rfl <| SL.nil <| T.seq <| T.block <| T.perm (own' := E0 B2 :: RdO rb v i1 off1 e1 :: (own0 ++ [EO B8 (.int .u8 (o9 : Int), .int .i64 n9, .slice a9 l9 c9, .slice b9 m9 d9)])) (show (EO B8 (.int .u8 (o9 : Int), .int .i64 n9, .slice a9 l9 c9, .slice b9 m9 d9) :: E0 B2 :: RdO rb v i1 off1 e1 :: own0).Perm _ from (List.perm_append_singleton (EO B8 _) (E0 B2 :: RdO rb v i1 off1 e1 :: own0)).symm) ?_
  refine T.loopW (fun m env own X' => ∃ (ps : List Ex) (x : Ex) (qs : List Row4) (vs : Value) (G : Own) (i off : Nat) (e : Int) (sa : RSt) (k : Nat), m = lenS sa ∧ X1.le X' ∧ RdS ts sa i off e ∧ Sh st sa ∧ ps.length + lenS sa ≤ 1000000 ∧ lenS sa ≤ k ∧ PartsR X' (ps ++ [x]) qs ∧ runM (implA p) st = wrapI ps (runM (tailI p k x) sa) ∧ GrowS 40 4 vs qs.length (qs.map rc4).flatten G ∧ env = [(0, .pointer (some ⟨pb, 0, none⟩)), (2, .pointer (some ⟨B2, 0, none⟩)), (3, vs)] ∧ own = E0 B2 :: RdO rb v i off e :: (own0 ++ G)) (lenS sa) ⟨[], x0, [_], _, _, i1, off1, e1, sa, lenS st, rfl, PMap.le_refl _, hS1, hsh0, by simp; omega, hsl, (PartsR.snoc (xs := []) (qs := []) ⟨rfl, fun i x q h => by cases h⟩ hx0), implA_start hO0, grow1 rfl (by omega), rfl, rfl⟩ (by repeat (first | exact Sub.nil | refine Sub.cons rfl ?_)) ?_
  rintro m _ _ X2 ⟨ps, x, qs, vs, G, i2, off2, e2, sb, k, rfl, hX2, hS2, hsh2, hn, hk, hPR, heq, hG, rfl, rfl⟩
  have hP := (hP.mono hX1).mono hX2
  have hT := (hT.mono hX1).mono hX2
  have hql := hPR.1
  rw [List.length_append, List.length_singleton] at hql
  obtain ⟨Av, cv, rfl⟩ := hG.form
  refine T.seq <| T.seq <| T.region <| SL.mv rfl <| SL.v (op_nil rfl) <| SL.v (op_fieldAddr fa98_0 rfl) <| SL.v (op_loadX ty96 rfl (by assumption) rfl) ?_
  refine SL.w (op_callJ en90 rfl (vs := [_, _]) rfl (acc_spec hT hS2) (by repeat constructor)) ?_
  rintro _ _ X3 ⟨_, rfl, hX3, i3, off3, e3, _, rfl, hS3, rfl, rfl⟩
  have hP := hP.mono hX3
  have hT := hT.mono hX3
  cases ha : (accM wArrow sb).1 with
  | true =>
    have hdec := accM_dec ha
    obtain ⟨k, rfl⟩ : ∃ q, k = q + 1 := ⟨k - 1, by omega⟩
    have hsh3 := hsh2.trans (accM_sh (w := wArrow))
    refine SL.nil <| T.condT rfl <| T.skip <| T.block <| T.region <| SL.mv rfl <| SL.mv rfl <| SL.w (op_callJ en93 rfl (vs := [_]) rfl (disj_spec hp hT hP hS3 (hsh3.lt hf)) (by repeat constructor)) ?_
    rintro _ _ X4 ⟨_, rfl, hX4, i4, off4, e4, sc, rfl, hS4, y, q4, rfl, hy, hO4, hsh4⟩
    obtain ⟨o4, n4, a4, b4, l4, c4, m4, d4, rfl⟩ := hy.form
    have hd4 : lenS sc ≤ lenS (accM wArrow sb).2 := hsh4.len
    rw [impl_more ha hO4] at heq
    refine SL.w (op_buildSlice Tryz.underlying38 bs40 (qs := [(0, _)]) rfl rfl rfl rfl rfl) ?_
    rintro _ _ _ ⟨B17, rfl, rfl, rfl⟩
    refine SL.w (op_appendG (own0 := _ :: _ :: own0) sl38 rfl hG rfl rfl rfl (by omega) (by omega)) ?_
    rintro vn _ _ ⟨G2, rfl, rfl, hG2⟩
    have hG2 : GrowS 40 4 vn (qs ++ [(Value.int .u8 (o4 : Int), Value.int .i64 n4, Value.slice a4 l4 c4, Value.slice b4 m4 d4)]).length ((qs ++ [(Value.int .u8 (o4 : Int), Value.int .i64 n4, Value.slice a4 l4 c4, Value.slice b4 m4 d4)]).map rc4).flatten G2 := by rw [List.length_append, List.map_append, List.flatten_append]; exact hG2
    refine SL.as rfl <| SL.nil <| T.blk ?_
    exact T.backW (lenS sc) (by omega) ⟨ps ++ [x], y, _, vn, G2, i4, off4, e4, sc, k, rfl, (hX2.trans' hX3).trans' hX4, hS4, hsh3.trans hsh4, by rw [List.length_append]; simp; omega, by omega, ((hPR.mono hX3).mono hX4).snoc hy, heq, hG2, rfl, rfl⟩ (by repeat (first | exact Sub.nil | refine Sub.cons rfl ?_))
  | false =>
    rw [accM_same ha] at hS3
    refine SL.nil <| T.condF rfl ?_
    refine T.exit (T.exitCode (T.exitCut (T.exitBlk ?_)))
    refine T.pubG (own0 := _ :: _ :: own0) hG ?_
    intro X9 hX9 hS9
    have hRow : RowR rc4 X9 (.slice Av qs.length cv) qs := RowR.ofG hG hS9
    have hPR := (hPR.mono hX3).mono hX9
    obtain ⟨q0, hq0⟩ : ∃ q, qs[ps.length]? = some q := ⟨_, List.getElem?_eq_getElem (by omega)⟩
    have hx9 := hPR.2 ps.length x q0 (by rw [List.getElem?_append_right (Nat.le_refl _), Nat.sub_self]; rfl) hq0
    obtain ⟨bA, pre, rfl, hbA⟩ := hRow.blk (by omega)
    obtain ⟨o8, n8, a8, b8, l8, c8, m8, d8, rfl⟩ := hx9.form
    refine T.seq <| T.region <| SL.mv rfl <| SL.mv rfl <| SL.v (op_lenS Tryz.underlying38 rfl) <| SL.v (op_subN (p := qs.length) (q := 1) rfl rfl (by omega) (by omega)) ?_
    refine SL.v (op_indexN Tryz.underlying38 ty40 rfl rfl (by omega)) ?_
    refine SL.v (op_loadX ty40 rfl hbA (row_read rc4_len hq0 (by omega))) ?_
    refine SL.w (op_alloc z40) ?_
    rintro _ _ _ ⟨B4, rfl, rfl, rfl⟩
    refine SL.w (op_store ty40 rfl rfl (by repeat constructor) rfl rfl rfl) ?_
    rintro _ _ _ ⟨rfl, rfl⟩
    refine SL.nil <| T.seq <| T.seq <| T.region <| SL.mv rfl <| SL.v (op_lenS Tryz.underlying38 rfl) <| SL.v (op_sub (p := (qs.length : Int)) (q := 2) rfl rfl (by omega) (by omega)) ?_
    rw [show (qs.length : Int) - 2 = (ps.length : Int) - 1 by omega]
    refine SL.as rfl <| SL.nil <| T.block <| T.loopW (fun m env own X' => ∃ (j : Nat) (r : Row4), j = m ∧ j ≤ ps.length ∧ X9.le X' ∧ ExR .u8 X' ((ps.drop j).foldr (two 10) x) r ∧ env = [(2, .pointer (some ⟨B2, 0, none⟩)), (3, .slice (some ⟨bA, pre.length, none⟩) qs.length cv), (4, .pointer (some ⟨B4, 0, none⟩)), (5, .int .i64 ((j : Int) - 1))] ∧ own = EO B4 r :: E0 B2 :: RdO rb v i3 off3 e3 :: own0) ps.length ⟨ps.length, (_, _, _, _), rfl, Nat.le_refl _, PMap.le_refl _, by rw [List.drop_length]; exact hx9, rfl, rfl⟩ (by repeat (first | exact Sub.nil | refine Sub.cons rfl ?_)) ?_
    rintro m _ _ X5 ⟨j, r, rfl, hj, hX5, hr, rfl, rfl⟩
    obtain ⟨o7, n7, a7, b7, l7, c7, m7, d7, rfl⟩ := hr.form
    cases j with
    | succ j =>
      rw [show ((j + 1 : Nat) : Int) - 1 = (j : Int) by omega]
      obtain ⟨y, hy⟩ : ∃ y, ps[j]? = some y := ⟨_, List.getElem?_eq_getElem (by omega)⟩
      obtain ⟨qj, hqj⟩ : ∃ q, qs[j]? = some q := ⟨_, List.getElem?_eq_getElem (by omega)⟩
      have hyq := (hPR.2 j y qj (by rw [List.getElem?_append_left (by omega)]; exact hy) hqj).mono hX5
      obtain ⟨o6, n6, a6, b6, l6, c6, m6, d6, rfl⟩ := hyq.form
      have hdr : (ps.drop j).foldr (two 10) x = two 10 y ((ps.drop (j + 1)).foldr (two 10) x) := by
        obtain ⟨h1, h2⟩ := List.getElem?_eq_some_iff.1 hy
        rw [List.drop_eq_getElem_cons h1, h2]; rfl
      have hc := two_spec (op := 10) hyq hr
      try simp only at hc
      refine T.seq <| T.seq <| T.region <| SL.mv rfl <| SL.v (op_geqT rfl rfl (by omega)) ?_
      refine SL.nil <| T.condT rfl <| T.skip <| T.seq <| T.block <| T.draw (by kernel_rfl) 6 [.t 0, .t 1, .t 2, .t 3, .t 4, .r 5] (by kernel_rfl) ?_
      refine SD.take rfl panicBody (op_move rfl) rfl rfl ?_
      refine SD.take rfl panicBody (op_move rfl) rfl rfl ?_
      refine SD.take rfl panicBody (op_indexN Tryz.underlying38 ty40 rfl rfl (by omega)) rfl rfl ?_
      refine SD.take rfl panicBody (op_loadX ty40 rfl (hbA.mono hX5) (row_read rc4_len hqj (by omega))) rfl rfl ?_
      refine SD.take rfl panicBody (op_load ty40 rfl (by repeat constructor) rfl) rfl rfl ?_
      refine SD.run rfl (op_callF en94 (vs := [_, _, _]) rfl (hc)) rfl rfl ?_
      rintro _ _ X6 ⟨rfl, hX6, q6, rfl, hq6⟩
      refine SD.nil ?_
      show SL _ _ _ _ _ _ _ [_] _ _ _
      obtain ⟨o5, n5, a5, b5, l5, c5, m5, d5, rfl⟩ := hq6.form
      refine SL.w (op_store ty40 rfl rfl (by repeat constructor) rfl rfl rfl) ?_
      rintro _ _ _ ⟨rfl, rfl⟩
      refine SL.nil <| T.blk <| T.region <| SL.mv rfl <| SL.v (op_sub rfl rfl (by omega) (by omega)) ?_
      refine SL.as rfl <| SL.nil ?_
      exact T.backW j (by omega) ⟨j, (_, _, _, _), rfl, by omega, hX5.trans' hX6, by rw [hdr]; exact hq6, rfl, rfl⟩ (by repeat (first | exact Sub.nil | refine Sub.cons rfl ?_))
    | zero =>
      refine T.seq <| T.seq <| T.region <| SL.mv rfl <| SL.v (op_geqF rfl rfl (by omega)) ?_
      refine SL.nil <| T.condF rfl ?_
      refine T.exit (T.exitCode (T.exitCut (T.exitBlk ?_)))
      refine T.seq <| T.region <| SL.v (op_load ty40 rfl (by repeat constructor) rfl) ?_
      refine SL.w (op_store ty40 rfl rfl (by repeat constructor) rfl rfl rfl) ?_
      rintro _ _ _ ⟨rfl, rfl⟩
      refine SL.nil <| T.drop B4 (by repeat constructor) ?_
      refine T.retM1S [_] _ rfl (ResIs.cell rfl ty40 (by repeat constructor) rfl) (List.sublist_cons_self _ _) (List.Perm.refl _) ?_
      exact ⟨(((hX1.trans' hX2).trans' hX3).trans' hX9).trans' hX5, _, rfl, i3, off3, e3, sb, rfl, hS3, ps.foldr (two 10) x, (_, _, _, _), rfl, hr, by rw [heq]; exact impl_halt ha, hsh2⟩
theorem expr_all : ∀ f : Nat, SpecP Tryz.prog 46 (exprP (f + 1)) (f + 1)
  | 0 => expression_spec (primary_spec (f := 0) fun {_ _ _ _ _ _ _ _ _} _ _ _ h => absurd h (Nat.not_lt_zero _))
  | f + 1 => expression_spec (primary_spec fun {_ _ _ _ _ _ _ _ _} hT hP hS hf => expr_all f hT hP hS fun l hl => by cases hl; exact hf)
end Go.Proofs.YtnabbnhefjfegaaGreatDoor
namespace Go.Proofs.YtnabbnhefjfegaaGreatDoor
open Go.RowKit
abbrev wEnforce : ByteArray := ⟨#[101, 110, 102, 111, 114, 99, 101]⟩
abbrev wDeclare : ByteArray := ⟨#[100, 101, 99, 108, 97, 114, 101]⟩
abbrev wStatic : ByteArray := ⟨#[115, 116, 97, 116, 105, 99]⟩
abbrev wDynamic : ByteArray := ⟨#[100, 121, 110, 97, 109, 105, 99]⟩
abbrev wUsers : ByteArray := ⟨#[117, 115, 101, 114, 115]⟩
abbrev wColon : ByteArray := ⟨#[58]⟩
abbrev wSemi : ByteArray := ⟨#[59]⟩
noncomputable def conK2 (ex : ParP) (en : Bool) (k : Nat) : List Tk → Res Con := fun l2 => bindR (nameT l2) fun s l3 => bindR (expT wColon l3) fun _ l4 => bindR (ex l4) fun x l5 => bindR (expT wSemi l5) fun _ l6 => .ok (⟨en, k, s, x⟩, l6)
noncomputable def conK1 (ex : ParP) (en : Bool) : List Tk → Res Con := fun l => if isT wStatic l then conK2 ex en 1 l.tail else if isT wDynamic l then conK2 ex en 2 l.tail else bindR (expT wUsers l) fun _ l' => conK2 ex en 3 l'
/-- A constraint of tokens. -/
noncomputable def conP (ex : ParP) : List Tk → Res Con := fun l => if isT wEnforce l then conK1 ex true l.tail else bindR (expT wDeclare l) fun _ l' => conK1 ex false l'
section
variable {ex : ParP} {st : RSt} {en : Bool}
theorem enf_run : runM (conP ex) st = if (accM wEnforce st).1 then runM (conK1 ex true) (accM wEnforce st).2 else runM (conK1 ex false) (expM wDeclare st) := by
  have h := runM_acc (st := st) (w := wEnforce) (q1 := conK1 ex true) (q2 := fun l => bindR (expT wDeclare l) fun _ l' => conK1 ex false l')
  rw [show runM (conP ex) st = _ from h]
  cases ha : (accM wEnforce st).1 with
  | true => rfl
  | false => rw [accM_same ha, runM_exp]
theorem kind_run : runM (conK1 ex en) st = if (accM wStatic st).1 then runM (conK2 ex en 1) (accM wStatic st).2 else if (accM wDynamic st).1 then runM (conK2 ex en 2) (accM wDynamic st).2 else runM (conK2 ex en 3) (expM wUsers st) := by
  have h := runM_acc (st := st) (w := wStatic) (q1 := conK2 ex en 1) (q2 := fun l => if isT wDynamic l then conK2 ex en 2 l.tail else bindR (expT wUsers l) fun _ l' => conK2 ex en 3 l')
  rw [show runM (conK1 ex en) st = _ from h]
  cases ha : (accM wStatic st).1 with
  | true => rfl
  | false =>
    rw [accM_same ha]
    have h := runM_acc (st := st) (w := wDynamic) (q1 := conK2 ex en 2) (q2 := fun l => bindR (expT wUsers l) fun _ l' => conK2 ex en 3 l')
    rw [h]
    cases hb : (accM wDynamic st).1 with
    | true => rfl
    | false => rw [accM_same hb, runM_exp]
theorem expM_dec {w : ByteArray} (h : 0 < lenS st) : lenS (expM w st) < lenS st := by
  cases st with
  | error x => exact absurd h (Nat.lt_irrefl 0)
  | ok l =>
    rw [expM]
    split
    · show l.tail.length < l.length
      have : 0 < l.length := h
      rw [List.length_tail]; omega
    · exact h
end
abbrev CO (b : Nat) (en : Bool) (k : Nat) (s : ByteArray) (r : Row4) : Ow := ⟨b, rc7 (en, k, s, r), 82, 7⟩
abbrev r0 : Row4 := (.int .u8 0, .int .i64 0, .slice none 0 0, .slice none 0 0)
theorem con_spec {f : Nat} {X : PMap} {v : Value} {ts : List Tk} {rb pb i off : Nat} {e : Int} {st : RSt} (hT : Tks X v ts) (hP : Blk X pb [.pointer (some ⟨rb, 0, none⟩)]) (hS : RdS ts st i off e) (hf : ∀ l, st = .ok l → l.length < f + 1) :
    SpecR Tryz.prog 44 [.pointer (some ⟨pb, 0, none⟩)] X ts rb v i off e fun u st' X' => ∃ (c : Con) (r : Row7), u = .agg (rc7 r).toArray ∧ ConR X' c r ∧ Out (runM (conP (exprP (f + 1))) st) st' c ∧ (0 < lenS st → lenS st' < lenS st) := by
  have h0 := enf_run (ex := exprP (f + 1)) (st := st)
  refine SpecM.enter Tryz.func44 rfl Tryz.ntmps44 rfl ?_
  intro w0 X0 own0
  refine T.seq <| T.region <| SL.w (op_alloc z82) ?_
  rintro _ _ _ ⟨B2, rfl, rfl, rfl⟩
  refine SL.nil <| T.seq <| T.region <| SL.w (op_alloc z82) ?_
  rintro _ _ _ ⟨B3, rfl, rfl, rfl⟩
  refine SL.nil <| T.seq <| T.meet (fun _ env own X' => ∃ (en : Bool) (i off : Nat) (e : Int) (sa : RSt), X.le X' ∧ RdS ts sa i off e ∧ Sh st sa ∧ (0 < lenS st → lenS sa < lenS st) ∧ runM (conP (exprP (f + 1))) st = runM (conK1 (exprP (f + 1)) en) sa ∧ env = [(0, .pointer (some ⟨pb, 0, none⟩)), (2, .pointer (some ⟨B2, 0, none⟩)), (3, .pointer (some ⟨B3, 0, none⟩))] ∧ own = CO B3 en 0 ⟨#[]⟩ r0 :: CO B2 false 0 ⟨#[]⟩ r0 :: RdO rb v i off e :: own0) ?_ ?_
  · skip
    refine T.seq <| T.region <| SL.mv rfl <| SL.v (op_nil rfl) <| SL.v (op_fieldAddr fa98_0 rfl) <| SL.v (op_loadX ty96 rfl (by assumption) rfl) ?_
    refine SL.w (op_callJ en90 rfl (vs := [_, _]) rfl (acc_spec hT hS) (by repeat constructor)) ?_
    rintro _ _ X1 ⟨_, rfl, hX1, i1, off1, e1, _, rfl, hS1, rfl, rfl⟩
    have hP := hP.mono hX1
    have hT := hT.mono hX1
    cases ha : (accM wEnforce st).1 with
    | true =>
      rw [ha, if_pos rfl] at h0
      have hdec := accM_dec ha
      refine SL.v (op_fieldAddr fa82_0 rfl) <| SL.w (op_store ty4 rfl rfl (by repeat constructor) rfl rfl rfl) ?_
      rintro _ _ _ ⟨rfl, rfl⟩
      refine SL.nil <| T.seq <| T.region <| SL.v (op_fieldAddr fa82_0 rfl) <| SL.v (op_load ty4 rfl (by repeat constructor) rfl) ?_
      refine SL.v (op_not rfl) <| SL.nil <| T.condF rfl <| T.skip ?_
      exact T.backW 0 (by omega) ⟨true, i1, off1, e1, _, hX1, hS1, accM_sh, fun _ => hdec, h0, rfl, rfl⟩ (by repeat (first | exact Sub.nil | refine Sub.cons rfl ?_))
    | false =>
      rw [ha, if_neg (by decide)] at h0
      rw [accM_same ha] at hS1
      refine SL.v (op_fieldAddr fa82_0 rfl) <| SL.w (op_store ty4 rfl rfl (by repeat constructor) rfl rfl rfl) ?_
      rintro _ _ _ ⟨rfl, rfl⟩
      refine SL.nil <| T.seq <| T.region <| SL.v (op_fieldAddr fa82_0 rfl) <| SL.v (op_load ty4 rfl (by repeat constructor) rfl) ?_
      refine SL.v (op_not rfl) <| SL.nil <| T.condT rfl <| T.region <| SL.mv rfl <| SL.v (op_nil rfl) <| SL.v (op_fieldAddr fa98_0 rfl) <| SL.v (op_loadX ty96 rfl (by assumption) rfl) ?_
      refine SL.w (op_callJ en91 rfl (vs := [_, _]) rfl (exp_spec hT hS1) (by repeat constructor)) ?_
      rintro _ _ X2 ⟨_, rfl, hX2, i2, off2, e2, _, rfl, hS2, rfl⟩
      refine SL.nil ?_
      exact T.backW 0 (by omega) ⟨false, i2, off2, e2, _, hX1.trans' hX2, hS2, expM_sh, expM_dec, h0, rfl, rfl⟩ (by repeat (first | exact Sub.nil | refine Sub.cons rfl ?_))
  rintro _ _ _ X3 ⟨en, i3, off3, e3, sa, hX3, hS3, hsh3, hd3, heq3, rfl, rfl⟩
  have hP := hP.mono hX3
  have hT := hT.mono hX3
  have h1 := kind_run (ex := exprP (f + 1)) (st := sa) (en := en)
  refine T.seq <| T.meet (fun _ env own X' => ∃ (k : Nat) (i off : Nat) (e : Int) (sb : RSt), X3.le X' ∧ RdS ts sb i off e ∧ Sh sa sb ∧ runM (conK1 (exprP (f + 1)) en) sa = runM (conK2 (exprP (f + 1)) en k) sb ∧ env = [(0, .pointer (some ⟨pb, 0, none⟩)), (2, .pointer (some ⟨B2, 0, none⟩)), (3, .pointer (some ⟨B3, 0, none⟩))] ∧ own = CO B3 en k ⟨#[]⟩ r0 :: CO B2 false 0 ⟨#[]⟩ r0 :: RdO rb v i off e :: own0) ?_ ?_
  · skip
    refine T.block <| T.seq <| T.region <| SL.mv rfl <| SL.v (op_nil rfl) <| SL.v (op_fieldAddr fa98_0 rfl) <| SL.v (op_loadX ty96 rfl (by assumption) rfl) ?_
    refine SL.w (op_callJ en90 rfl (vs := [_, _]) rfl (acc_spec hT hS3) (by repeat constructor)) ?_
    rintro _ _ X4 ⟨_, rfl, hX4, i4, off4, e4, _, rfl, hS4, rfl, rfl⟩
    have hP := hP.mono hX4
    have hT := hT.mono hX4
    cases ha : (accM wStatic sa).1 with
    | true =>
      rw [ha, if_pos rfl] at h1
      refine SL.as rfl <| SL.nil <| T.condT rfl <| T.region <| SL.v (op_fieldAddr fa82_1 rfl) <| SL.w (op_store ty80 rfl rfl (by repeat constructor) rfl rfl rfl) ?_
      rintro _ _ _ ⟨rfl, rfl⟩
      refine SL.nil <| T.blk ?_
      exact T.backW 0 (by omega) ⟨1, i4, off4, e4, _, hX4, hS4, accM_sh, h1, rfl, rfl⟩ (by repeat (first | exact Sub.nil | refine Sub.cons rfl ?_))
    | false =>
      rw [ha, if_neg (by decide)] at h1
      rw [accM_same ha] at hS4
      refine SL.as rfl <| SL.nil <| T.condF rfl <| T.seq <| T.region <| SL.mv rfl <| SL.v (op_nil rfl) <| SL.v (op_fieldAddr fa98_0 rfl) <| SL.v (op_loadX ty96 rfl (by assumption) rfl) ?_
      refine SL.w (op_callJ en90 rfl (vs := [_, _]) rfl (acc_spec hT hS4) (by repeat constructor)) ?_
      rintro _ _ X5 ⟨_, rfl, hX5, i5, off5, e5, _, rfl, hS5, rfl, rfl⟩
      have hP := hP.mono hX5
      have hT := hT.mono hX5
      cases hb : (accM wDynamic sa).1 with
      | true =>
        rw [hb, if_pos rfl] at h1
        refine SL.as rfl <| SL.nil <| T.condT rfl <| T.region <| SL.v (op_fieldAddr fa82_1 rfl) <| SL.w (op_store ty80 rfl rfl (by repeat constructor) rfl rfl rfl) ?_
        rintro _ _ _ ⟨rfl, rfl⟩
        refine SL.nil <| T.blk ?_
        exact T.backW 0 (by omega) ⟨2, i5, off5, e5, _, hX4.trans' hX5, hS5, accM_sh, h1, rfl, rfl⟩ (by repeat (first | exact Sub.nil | refine Sub.cons rfl ?_))
      | false =>
        rw [hb, if_neg (by decide)] at h1
        rw [accM_same hb] at hS5
        refine SL.as rfl <| SL.nil <| T.condF rfl <| T.seq <| T.region <| SL.mv rfl <| SL.v (op_nil rfl) <| SL.v (op_fieldAddr fa98_0 rfl) <| SL.v (op_loadX ty96 rfl (by assumption) rfl) ?_
        refine SL.w (op_callJ en91 rfl (vs := [_, _]) rfl (exp_spec hT hS5) (by repeat constructor)) ?_
        rintro _ _ X6 ⟨_, rfl, hX6, i6, off6, e6, _, rfl, hS6, rfl⟩
        refine SL.nil <| T.region <| SL.v (op_fieldAddr fa82_1 rfl) <| SL.w (op_store ty80 rfl rfl (by repeat constructor) rfl rfl rfl) ?_
        rintro _ _ _ ⟨rfl, rfl⟩
        refine SL.nil <| T.blk ?_
        exact T.backW 0 (by omega) ⟨3, i6, off6, e6, _, (hX4.trans' hX5).trans' hX6, hS6, expM_sh, h1, rfl, rfl⟩ (by repeat (first | exact Sub.nil | refine Sub.cons rfl ?_))
  rintro _ _ _ X7 ⟨k, i7, off7, e7, sb, hX7, hS7, hsh7, heq7, rfl, rfl⟩
  have hP := hP.mono hX7
  have hT := hT.mono hX7
  rw [heq7] at heq3
  have h2 : runM (conK2 (exprP (f + 1)) en k) sb = runM (fun l4 => bindR (exprP (f + 1) l4) fun x l5 => bindR (expT wSemi l5) fun _ l6 => .ok ((⟨en, k, (namM sb).1, x⟩ : Con), l6)) (expM wColon (namM sb).2) := by
    rw [← runM_exp]
    exact runM_nam (st := sb) (q := fun s l3 => bindR (expT wColon l3) fun _ l4 => bindR (exprP (f + 1) l4) fun x l5 => bindR (expT wSemi l5) fun _ l6 => .ok ((⟨en, k, s, x⟩ : Con), l6))
  refine T.seq <| T.region <| SL.mv rfl <| SL.v (op_nil rfl) <| SL.v (op_fieldAddr fa98_0 rfl) <| SL.v (op_loadX ty96 rfl (by assumption) rfl) ?_
  refine SL.w (op_callJ en92 rfl (vs := [_]) rfl (nam_spec hT hS7) (by repeat constructor)) ?_
  rintro _ _ X8 ⟨_, rfl, hX8, i8, off8, e8, _, rfl, hS8, rfl, rfl⟩
  have hP := hP.mono hX8
  have hT := hT.mono hX8
  refine SL.v (op_fieldAddr fa82_2 rfl) <| SL.w (op_store ty9 rfl rfl (by repeat constructor) rfl rfl rfl) ?_
  rintro _ _ _ ⟨rfl, rfl⟩
  refine SL.nil <| T.seq <| T.region <| SL.mv rfl <| SL.v (op_nil rfl) <| SL.v (op_fieldAddr fa98_0 rfl) <| SL.v (op_loadX ty96 rfl (by assumption) rfl) ?_
  refine SL.w (op_callJ en91 rfl (vs := [_, _]) rfl (exp_spec hT hS8) (by repeat constructor)) ?_
  rintro _ _ X9 ⟨_, rfl, hX9, i9, off9, e9, _, rfl, hS9, rfl⟩
  have hP := hP.mono hX9
  have hT := hT.mono hX9
  have hsh9 := ((hsh3.trans hsh7).trans (namM_sh (st := sb))).trans (expM_sh (w := wColon))
  have hlt9 := ((hsh7.trans (namM_sh (st := sb))).trans (expM_sh (w := wColon))).len
  refine SL.nil <| T.seq <| T.region <| SL.mv rfl <| SL.w (op_callJ en46 rfl (vs := [_]) rfl (expr_all f hT hP hS9 (hsh9.lt hf)) (by repeat constructor)) ?_
  rintro _ _ Y1 ⟨_, rfl, hY1, j1, of1, er1, sc, rfl, hSc, x, q, rfl, hx, hO, hshc⟩
  obtain ⟨o8, n8, a8, b8, l8, c8, m8, d8, rfl⟩ := hx.form
  have hP := hP.mono hY1
  have hT := hT.mono hY1
  rw [runM_par hO, runM_exp] at h2
  have hlc := hshc.len
  refine SL.v (op_fieldAddr fa82_3 rfl) <| SL.w (op_store ty40 rfl rfl (by repeat constructor) rfl rfl rfl) ?_
  rintro _ _ _ ⟨rfl, rfl⟩
  refine SL.nil <| T.seq <| T.region <| SL.mv rfl <| SL.v (op_nil rfl) <| SL.v (op_fieldAddr fa98_0 rfl) <| SL.v (op_loadX ty96 rfl (by assumption) rfl) ?_
  refine SL.w (op_callJ en91 rfl (vs := [_, _]) rfl (exp_spec hT hSc) (by repeat constructor)) ?_
  rintro _ _ Y2 ⟨_, rfl, hY2, j2, of2, er2, _, rfl, hSd, rfl⟩
  have hld := (expM_sh (st := sc) (w := wSemi)).len
  refine SL.nil <| T.seq <| T.region <| SL.v (op_load ty82 rfl (by repeat constructor) rfl) ?_
  refine SL.w (op_store ty82 rfl rfl (by repeat constructor) rfl rfl rfl) ?_
  rintro _ _ _ ⟨rfl, rfl⟩
  refine SL.nil <| T.drop B3 (by repeat constructor) ?_
  refine T.retM1S [_] _ rfl (ResIs.cell rfl ty82 (by repeat constructor) rfl) (List.sublist_cons_self _ _) (List.Perm.refl _) ?_
  exact ⟨((((hX3.trans' hX7).trans' hX8).trans' hX9).trans' hY1).trans' hY2, _, rfl, j2, of2, er2, _, rfl, hSd, ⟨en, k, (namM sb).1, x⟩, (en, k, (namM sb).1, _, _, _, _), rfl, ⟨rfl, rfl, rfl, hx.mono hY2⟩, by rw [heq3, h2]; exact out_ok rfl, fun h => Nat.lt_of_le_of_lt (Nat.le_trans (Nat.le_trans hld hlc) hlt9) (hd3 h)⟩
end Go.Proofs.YtnabbnhefjfegaaGreatDoor
namespace Go.Proofs.YtnabbnhefjfegaaGreatDoor
open Go.RowKit
theorem scanG_fin (N : Nat) : ∀ (f : Nat) (l : List UInt8) (ts : List Tk), scanG N f l = .ok ts → ∃ ts0 : List Tk, ts = ts0 ++ [⟨0, ⟨#[]⟩, 0, N⟩] ∧ ts0.length ≤ l.length ∧ ∀ t ∈ ts0, 1 ≤ t.kind ∧ t.kind ≤ 3
  | 0, l, ts, h => by cases h
  | f + 1, l, ts, h => by
    rw [scanG] at h
    have hs := skip_len false l
    cases hk : skipL false l with
    | nil =>
      rw [hk] at h
      simp only [Except.ok.injEq] at h
      exact ⟨[], by rw [← h]; rfl, Nat.zero_le _, fun t ht => by cases ht⟩
    | cons b r =>
      rw [hk] at h hs
      simp only at h
      cases ht : tok1 (b :: r) with
      | none => rw [ht] at h; cases h
      | some x =>
        obtain ⟨k, t, n⟩ := x
        rw [ht] at h
        simp only at h
        have hp := tok1_pos ht
        have hkk : 1 ≤ k ∧ k ≤ 3 := by
          rw [tok1] at ht
          split at ht
          · simp only [Option.some.injEq, Prod.mk.injEq] at ht
            rw [← ht.1]; decide
          · split at ht
            · cases hn : numT (b :: r) with
              | none => rw [hn] at ht; cases ht
              | some d =>
                rw [hn] at ht
                simp only [Option.map_some, Option.some.injEq, Prod.mk.injEq] at ht
                rw [← ht.1]; decide
            · cases hf : symsL.find? fun s => s.isPrefixOf (b :: r) with
              | none => rw [hf] at ht; cases ht
              | some d =>
                rw [hf] at ht
                simp only [Option.map_some, Option.some.injEq, Prod.mk.injEq] at ht
                rw [← ht.1]; decide
        cases hr : scanG N f ((b :: r).drop t.length) with
        | error o => rw [hr] at h; cases h
        | ok us =>
          rw [hr] at h
          simp only [consR, Except.ok.injEq] at h
          obtain ⟨ts0, h1, h2, h3⟩ := scanG_fin N f _ us hr
          refine ⟨⟨k, ⟨t.toArray⟩, n, N - (b :: r).length⟩ :: ts0, by rw [← h, h1]; rfl, ?_, fun u hu => ?_⟩
          · rw [List.length_drop] at h2
            rw [List.length_cons]
            simp only [List.length_cons] at h2 hs ⊢
            omega
          · rcases List.mem_cons.1 hu with rfl | hu
            · exact hkk
            · exact h3 u hu
theorem scanL_fin {N : Nat} {l : List UInt8} {ts : List Tk} (h : scanL N l = .ok ts) : ∃ ts0 : List Tk, ts = ts0 ++ [⟨0, ⟨#[]⟩, 0, N⟩] ∧ ts0.length ≤ l.length ∧ ∀ t ∈ ts0, 1 ≤ t.kind ∧ t.kind ≤ 3 := scanG_fin N _ l ts h
end Go.Proofs.YtnabbnhefjfegaaGreatDoor
namespace Go.Proofs.YtnabbnhefjfegaaGreatDoor
section
set_option maxRecDepth 100000
theorem en135 : Enters Tryz.prog 135 := enters_mk Tryz.func135 (by kernel_rfl) rfl
theorem en32 : Enters Tryz.prog 32 := enters_mk Tryz.func32 (by kernel_rfl) rfl
theorem en87 : Enters Tryz.prog 87 := enters_mk Tryz.func87 (by kernel_rfl) rfl
theorem z151 : Zero Tryz.prog 151 [.slice none 0 0, .int .i64 0, .int .i64 0, .int .i64 0] := ⟨zero_of (by kernel_rfl)⟩
theorem st151 : StT Tryz.prog 151 [(0, 1), (1, 1), (2, 1), (3, 1)] [.slice none 0 0, .int .i64 0, .int .i64 0, .int .i64 0] := ⟨⟨_, Tryz.underlying151, fun _ => by kernel_rfl, z151⟩⟩
theorem z98 : Zero Tryz.prog 98 [.pointer none] := ⟨zero_of (by kernel_rfl)⟩
theorem st98 : StT Tryz.prog 98 [(0, 1)] [.pointer none] := ⟨⟨_, Tryz.underlying98, fun _ => by kernel_rfl, z98⟩⟩
end
open Go.RowKit
section
variable {ro : Option Nat} {P : Program} {n : NM} {w0 : Base} {X0 X : PMap} {own : Own} {env : Env} {fn : Func}
theorem run_results3C {r : ResultVar} {t' t'' : Tmp} {v v' v'' : Value} (hr : fn.results = #[r, .tmp t', .tmp t'']) (h : ResIs P env own r v) (h' : ResIs P env own (.tmp t') v') (h'' : ResIs P env own (.tmp t'') v'') {a : Act} {W : World} (ha : EOk n env a) (hs : Stab own X W) : (results fn a.tmps).run P W = .ok (.tuple #[v, v', v'']) W := by
  cases h' with
  | tmp h' =>
    cases h'' with
    | tmp h'' =>
      have h1 := ha.get _ _ h'
      have h2 := ha.get _ _ h''
      rw [Array.getD_eq_getD_getElem?] at h1 h2
      cases h with
      | tmp h =>
        have h0 := ha.get _ _ h
        rw [Array.getD_eq_getD_getElem?] at h0
        simp [results, hr, h0, h1, h2]
      | cell hp ht ho hv =>
        obtain ⟨h3, h4⟩ := run_cell ha hs hp ht ho hv
        rw [Array.getD_eq_getD_getElem?] at h3
        simp [results, hr, h1, h2, h3, asAddr, h4, Result.andThen]
theorem T.retO3 {Φ : Value → Own → PMap → Prop} {w : World} {k : List It} {s : Nat} {r : ResultVar} {t' t'' : Tmp} {v v' v'' : Value} (hr : fn.results = #[r, .tmp t', .tmp t'']) (h : ResIs P env own r v) (h' : ResIs P env own (.tmp t') v') (h'' : ResIs P env own (.tmp t'') v'') (hΦ : Φ (.tuple #[v, v', v'']) own X) : T ro P ⟨s, []⟩ ⟨w, []⟩ X0 (bodyQ P fn (FinO w X0 Φ)) (.code .ret :: k) none env own X := T.retO (fun _ _ ha hs => run_results3C hr h h' h'' ha hs) hΦ
theorem T.ret3C {Φ : Value → PMap → Prop} {k : List It} {r : ResultVar} {t' t'' : Tmp} {v v' v'' : Value} (hr : fn.results = #[r, .tmp t', .tmp t'']) (h : ResIs P env own r v) (h' : ResIs P env own (.tmp t') v') (h'' : ResIs P env own (.tmp t'') v'') (hΦ : Φ (.tuple #[v, v', v'']) X) (hM : Marks n w0 := by first | exact ⟨[], rfl, rfl, .nil⟩ | exact ⟨[_], rfl, rfl, by simp⟩) : T ro P n w0 X0 (bodyQ P fn (Fin w0.w X0 Φ)) (.code .ret :: k) none env own X := T.ret (fun _ _ ha hs => run_results3C hr h h' h'' ha hs) hΦ hM
end
theorem rcT_one (l : List Tk) : ∀ y ∈ (l.map rcT).flatten, y.oneCell' = true := fun y hy => by
  obtain ⟨c, hc, hyc⟩ := List.mem_flatten.1 hy
  obtain ⟨t, _, rfl⟩ := List.mem_map.1 hc
  simp only [rcT, List.mem_cons, List.not_mem_nil, or_false] at hyc
  rcases hyc with rfl | rfl | rfl | rfl <;> rfl
theorem tclone_spec {X : PMap} {v : Value} {l : List Tk} (h : RowR rcT X v l) (hl : l.length < 100000) : SpecO Tryz.prog 135 [v] X fun u own1 _ => GrowS 70 4 u l.length (l.map rcT).flatten own1 := by
  obtain ⟨A, cp, rfl⟩ := h.form
  have hcl := rows_len rcT_len l
  rcases A with _ | ad
  · have hn : l = [] := by
      rcases h with ⟨h1, _⟩ | ⟨_, b, c, pre, hv, _⟩
      · exact h1
      · cases hv
    subst hn
    refine SpecO.enter Tryz.func135 rfl Tryz.ntmps135 rfl ?_
    intro w0 hw0
    refine T.seq <| T.region <| SL.as rfl <| SL.nil <| T.seq <| T.seq <| T.region <| SL.mv rfl <| SL.v (op_eqlSNil Tryz.underlying65 rfl rfl) <| SL.nil <| T.condT rfl <| T.seq <| T.region <| SL.as rfl <| SL.nil ?_
    refine T.retO1 rfl (ResIs.tmp rfl) ?_
    exact .inl ⟨rfl, rfl, rfl, rfl⟩
  · refine SpecO.enter Tryz.func135 rfl Tryz.ntmps135 rfl ?_
    intro w0 hw0
    refine T.seq <| T.region <| SL.as rfl <| SL.nil <| T.seq <| T.seq <| T.region <| SL.mv rfl <| SL.v (op_eqlSNil Tryz.underlying65 rfl rfl) <| SL.nil <| T.condF rfl <| T.skip <| T.seq <| T.region <| SL.w (op_buildSlice Tryz.underlying65 bs70 (qs := []) rfl rfl rfl rfl rfl) ?_
    rintro _ _ _ ⟨B5, rfl, rfl, rfl⟩
    refine SL.mv rfl <| SL.w (op_append (m := l.length) (news := (l.map rcT).flatten) sl65 rfl rfl (by repeat constructor) rfl rfl (Nat.le_refl _) (by decide) (Src.ofRow rcT_len h) (rcT_one l) (by (have : maxLen = 9223372036854775807 := rfl); omega) (by omega)) ?_
    rintro _ _ _ ⟨b7, cap7, rfl, rfl, rfl, hc7, hm7⟩
    refine SL.as rfl <| SL.nil <| T.retO1 rfl (ResIs.tmp rfl) ?_
    exact .inr ⟨b7, cap7, by rw [Nat.zero_add], rfl, by omega, hm7, hcl⟩
theorem newReader_spec {X : PMap} {v : Value} {l : List Tk} (h : RowR rcT X v l) (hl : l.length < 100000) : SpecO Tryz.prog 87 [v] X fun u own1 X' => ∃ (rb : Nat) (v' : Value), u = .pointer (some ⟨rb, 0, none⟩) ∧ own1 = [RdO rb v' 0 0 0] ∧ RowR rcT X' v' l := by
  obtain ⟨A, cp, rfl⟩ := h.form
  refine SpecO.enter Tryz.func87 rfl Tryz.ntmps87 rfl ?_
  intro w0 hw0
  refine T.seq <| T.region <| SL.as rfl <| SL.nil <| T.seq <| T.region <| SL.mv rfl <| SL.w (op_callO en135 (vs := [_]) rfl (tclone_spec h hl)) ?_
  rintro vt _ X1 ⟨G, rfl, hX1, hG⟩
  obtain ⟨A1, c1, rfl⟩ := hG.form
  refine SL.v (op_build st151 (qs := [(0, _)]) rfl rfl) <| SL.w (op_box rfl) ?_
  rintro _ _ _ ⟨B6, rfl, rfl, rfl⟩
  refine SL.as rfl <| SL.nil <| T.perm (own' := [_] ++ G) (by rw [List.append_nil]; exact List.Perm.refl _) ?_
  refine T.pubG (own0 := [_]) hG ?_
  intro X9 hX9 hS9
  refine T.retO1 rfl (ResIs.tmp rfl) ?_
  exact ⟨B6, _, rfl, rfl, RowR.ofG hG hS9⟩
/-- The state at the beginning of a text. -/
def begM (s : ByteArray) : RSt := if 8000 < s.size then .error (0, 3) else match scanL s.size (bl s) with
  | .ok ts => .ok ts
  | .error o => .error (o, 8)
theorem begin_spec {X : PMap} {s : ByteArray} (hs : s.size < 1000000000) : SpecO Tryz.prog 42 [.string s] X fun u own1 X' => match begM s with
    | .error x => u = .tuple #[.pointer none, .int .i64 (x.1 : Int), .int .i64 x.2] ∧ own1 = []
    | .ok ts => ∃ (pb rb : Nat) (v : Value), u = .tuple #[.pointer (some ⟨pb, 0, none⟩), .int .i64 0, .int .i64 0] ∧ own1 = [RdO rb v 0 0 0] ∧ Blk X' pb [.pointer (some ⟨rb, 0, none⟩)] ∧ Tks X' v ts ∧ 0 < ts.length ∧ ts.length ≤ 8001 := by
  by_cases h8 : 8000 < s.size
  · have hb : begM s = .error (0, 3) := if_pos h8
    refine SpecO.enter Tryz.func42 rfl Tryz.ntmps42 rfl ?_
    intro w0 hw0
    refine T.seq <| T.region <| SL.as rfl <| SL.v (op_assign (v := .int .i64 ((0 : Nat) : Int)) rfl) <| SL.v (op_assign (v := .int .i64 ((0 : Nat) : Int)) rfl) <| SL.nil <| T.seq <| T.region <| SL.mv rfl <| SL.w (op_callF en32 (vs := [_]) rfl (scan_spec hs)) ?_
    rintro u1 _ X1 ⟨rfl, hX1, hu1⟩
    rw [if_pos h8] at hu1
    subst hu1
    refine SL.mv rfl <| SL.v (op_extract rfl rfl) <| SL.v (op_extract rfl rfl) <| SL.v (op_extract rfl rfl) <| SL.as rfl <| SL.as rfl <| SL.as rfl <| SL.nil <| T.seq <| T.seq <| T.region <| SL.mv rfl <| SL.v (op_neqT rfl rfl (by omega)) ?_
    refine SL.nil <| T.condT rfl <| T.seq <| T.region <| SL.mv rfl <| SL.mv rfl <| SL.as rfl <| SL.as rfl <| SL.as rfl <| SL.nil <| T.retO3 rfl (ResIs.tmp rfl) (ResIs.tmp rfl) (ResIs.tmp rfl) ?_
    rw [hb]
    exact ⟨rfl, rfl⟩
  · cases hsc : scanL s.size (bl s) with
    | error o =>
      have hb : begM s = .error (o, 8) := by rw [begM, if_neg h8, hsc]
      refine SpecO.enter Tryz.func42 rfl Tryz.ntmps42 rfl ?_
      intro w0 hw0
      refine T.seq <| T.region <| SL.as rfl <| SL.v (op_assign (v := .int .i64 ((0 : Nat) : Int)) rfl) <| SL.v (op_assign (v := .int .i64 ((0 : Nat) : Int)) rfl) <| SL.nil <| T.seq <| T.region <| SL.mv rfl <| SL.w (op_callF en32 (vs := [_]) rfl (scan_spec hs)) ?_
      rintro u1 _ X1 ⟨rfl, hX1, hu1⟩
      rw [if_neg h8, hsc] at hu1
      simp only at hu1
      subst hu1
      refine SL.mv rfl <| SL.v (op_extract rfl rfl) <| SL.v (op_extract rfl rfl) <| SL.v (op_extract rfl rfl) <| SL.as rfl <| SL.as rfl <| SL.as rfl <| SL.nil <| T.seq <| T.seq <| T.region <| SL.mv rfl <| SL.v (op_neqT rfl rfl (by omega)) ?_
      refine SL.nil <| T.condT rfl <| T.seq <| T.region <| SL.mv rfl <| SL.mv rfl <| SL.as rfl <| SL.as rfl <| SL.as rfl <| SL.nil <| T.retO3 rfl (ResIs.tmp rfl) (ResIs.tmp rfl) (ResIs.tmp rfl) ?_
      rw [hb]
      exact ⟨rfl, rfl⟩
    | ok ts =>
      have hb : begM s = .ok ts := by rw [begM, if_neg h8, hsc]
      obtain ⟨ts0, rfl, hl0, hk0⟩ := scanL_fin hsc
      rw [bl_size] at hl0
      have hll : (ts0 ++ [(⟨0, ⟨#[]⟩, 0, s.size⟩ : Tk)]).length = ts0.length + 1 := by simp
      refine SpecO.enter Tryz.func42 rfl Tryz.ntmps42 rfl ?_
      intro w0 hw0
      refine T.seq <| T.region <| SL.as rfl <| SL.v (op_assign (v := .int .i64 ((0 : Nat) : Int)) rfl) <| SL.v (op_assign (v := .int .i64 ((0 : Nat) : Int)) rfl) <| SL.nil <| T.seq <| T.region <| SL.mv rfl <| SL.w (op_callF en32 (vs := [_]) rfl (scan_spec hs)) ?_
      rintro u1 _ X1 ⟨rfl, hX1, hu1⟩
      rw [if_neg h8, hsc] at hu1
      simp only at hu1
      obtain ⟨v1, rfl, hR⟩ := hu1
      refine SL.mv rfl <| SL.v (op_extract rfl rfl) <| SL.v (op_extract rfl rfl) <| SL.v (op_extract rfl rfl) <| SL.as rfl <| SL.as rfl <| SL.as rfl <| SL.nil <| T.seq <| T.seq <| T.region <| SL.mv rfl <| SL.v (op_neqF rfl rfl (by omega)) ?_
      refine SL.nil <| T.condF rfl <| T.skip <| T.seq <| T.region <| SL.mv rfl <| SL.w (op_callO en87 (vs := [_]) rfl (newReader_spec hR (by omega))) ?_
      rintro _ _ X2 ⟨_, rfl, hX2, rb, v2, rfl, rfl, hR2⟩
      refine SL.v (op_build st98 (qs := [(0, _)]) rfl rfl) <| SL.w (op_box rfl) ?_
      rintro _ _ _ ⟨B21, rfl, rfl, rfl⟩
      refine SL.as rfl <| SL.v (op_assign (v := .int .i64 ((0 : Nat) : Int)) rfl) <| SL.v (op_assign (v := .int .i64 ((0 : Nat) : Int)) rfl) <| SL.nil <| T.pub B21 (by repeat constructor) ?_
      intro X3 hX3 hB21 _
      refine T.retO3 rfl (ResIs.tmp rfl) (ResIs.tmp rfl) (ResIs.tmp rfl) ?_
      rw [hb]
      exact ⟨B21, rb, v2, rfl, rfl, hB21, ⟨hR2.mono hX3, by omega, fun t ht => by
        rw [hll, Nat.add_sub_cancel, List.getElem?_append_right (Nat.le_refl _), Nat.sub_self] at ht
        cases ht; rfl⟩, by omega, by omega⟩
end Go.Proofs.YtnabbnhefjfegaaGreatDoor
namespace Go.Proofs.YtnabbnhefjfegaaGreatDoor
open Go.RowKit
/-- Each token that is read weighs at most 14. -/
def Wt (p : ParP) : Prop := ∀ l e l', p l = .ok (e, l') → wtE e + 14 * l'.length ≤ 14 * l.length
theorem isT_len {w : ByteArray} {l : List Tk} (h : isT w l = true) : l.tail.length + 1 = l.length := by
  cases l with
  | nil => cases h
  | cons t l => rfl
theorem wt_two (op : Nat) (x y : Ex) : wtE (two op x y) = wtE x + wtE y + 1 := by simp [two, wtE, wtL, wtS]
theorem nameT_wt {l l' : List Tk} {s : ByteArray} (h : nameT l = .ok (s, l')) : s.size ≤ 12 ∧ l'.length + 1 = l.length := by
  cases l with
  | nil => cases h
  | cons t l =>
    rw [nameT] at h
    split at h
    · cases h
    · split at h
      · cases h
      · rename_i hv
        simp only [Except.ok.injEq, Prod.mk.injEq] at h
        obtain ⟨rfl, rfl⟩ := h
        exact ⟨(Decidable.not_not.1 hv).2.1, rfl⟩
theorem expT_wt {w : ByteArray} {l l' : List Tk} {u : Unit} (h : expT w l = .ok (u, l')) : l'.length + 1 = l.length := by
  rw [expT] at h
  split at h
  · rename_i hk
    simp only [Except.ok.injEq, Prod.mk.injEq] at h
    rw [← h.2]; exact isT_len hk
  · cases h
theorem bind_ok {α β : Type} {x : Res α} {f : α → List Tk → Res β} {r : β × List Tk} (h : bindR x f = .ok r) : ∃ a l, x = .ok (a, l) ∧ f a l = .ok r := by
  cases x with
  | error e => cases h
  | ok y => exact ⟨y.1, y.2, rfl, h⟩
theorem leftG_wt {w : ByteArray} {op : Nat} {p : ParP} (hp : Wt p) : ∀ (k : Nat) (x : Ex) (l : List Tk) (e : Ex) (l' : List Tk), leftG w op p k x l = .ok (e, l') → wtE e + 14 * l'.length ≤ wtE x + 14 * l.length
  | 0, x, l, e, l', h => by
    simp only [leftG, Except.ok.injEq, Prod.mk.injEq] at h
    obtain ⟨rfl, rfl⟩ := h; exact Nat.le_refl _
  | k + 1, x, l, e, l', h => by
    rw [leftG] at h
    split at h
    · rename_i hk
      obtain ⟨y, l1, h1, h2⟩ := bind_ok h
      have h3 := leftG_wt hp k _ _ _ _ h2
      have h4 := hp _ _ _ h1
      have h5 := isT_len hk
      rw [wt_two] at h3
      omega
    · simp only [Except.ok.injEq, Prod.mk.injEq] at h
      obtain ⟨rfl, rfl⟩ := h; exact Nat.le_refl _
theorem leftP_wt {w : ByteArray} {op : Nat} {p : ParP} (hp : Wt p) : Wt (leftP w op p) := fun l e l' h => by
  obtain ⟨x, l1, h1, h2⟩ := bind_ok h
  have := leftG_wt hp _ _ _ _ _ h2
  have := hp _ _ _ h1
  omega
theorem cmpP_wt {p : ParP} (hp : Wt p) : Wt (cmpP p) := fun l e l' h => by
  have hs : Wt (sumP p) := leftP_wt hp
  rw [cmpP_eq] at h
  obtain ⟨x, l1, h1, h2⟩ := bind_ok h
  have h3 := hs _ _ _ h1
  cases hf : cmps.find? fun c => isT c.1 l1 with
  | none =>
    rw [hf] at h2
    simp only [Except.ok.injEq, Prod.mk.injEq] at h2
    obtain ⟨rfl, rfl⟩ := h2; exact h3
  | some c =>
    rw [hf] at h2
    obtain ⟨y, l2, h4, h5⟩ := bind_ok h2
    simp only [Except.ok.injEq, Prod.mk.injEq] at h5
    obtain ⟨rfl, rfl⟩ := h5
    have h6 := hs _ _ _ h4
    have h7 := isT_len (List.find?_some (p := fun c : ByteArray × Nat => isT c.1 l1) hf)
    rw [wt_two]; omega
theorem negP_wt {p : ParP} (hp : Wt p) : ∀ k, Wt (negP p k)
  | 0 => fun l e l' h => by cases h
  | k + 1 => fun l e l' h => by
    rw [negP_succ] at h
    split at h
    · rename_i hk
      obtain ⟨y, l1, h1, h2⟩ := bind_ok h
      simp only [Except.ok.injEq, Prod.mk.injEq] at h2
      obtain ⟨rfl, rfl⟩ := h2
      have h3 := negP_wt hp k _ _ _ h1
      have h4 := isT_len hk
      simp only [wtE, wtL, wtS, List.map_nil, List.sum_nil]
      omega
    · exact cmpP_wt hp _ _ _ h
theorem disjP_wt {p : ParP} (hp : Wt p) : Wt (disjP p) := leftP_wt (leftP_wt fun _ _ _ h => negP_wt hp _ _ _ _ h)
theorem implP_wt {p : ParP} (hp : Wt p) : ∀ k, Wt (implP p k)
  | 0 => fun l e l' h => by cases h
  | k + 1 => fun l e l' h => by
    rw [implP_succ] at h
    obtain ⟨x, l1, h1, h2⟩ := bind_ok h
    have h3 := disjP_wt hp _ _ _ h1
    split at h2
    · rename_i hk
      obtain ⟨y, l2, h4, h5⟩ := bind_ok h2
      simp only [Except.ok.injEq, Prod.mk.injEq] at h5
      obtain ⟨rfl, rfl⟩ := h5
      have h6 := implP_wt hp k _ _ _ h4
      have h7 := isT_len hk
      rw [wt_two]; omega
    · simp only [Except.ok.injEq, Prod.mk.injEq] at h2
      obtain ⟨rfl, rfl⟩ := h2; exact h3
theorem wtS_one (a : List ByteArray) (s : ByteArray) : wtS (a ++ [s]) = wtS a + s.size + 1 := by simp [wtS]; omega
theorem namesG_wt : ∀ (k : Nat) (ns : List ByteArray) (l : List Tk) (ms : List ByteArray) (l' : List Tk), namesG k ns l = .ok (ms, l') → wtS ms + 14 * l'.length ≤ wtS ns + 14 * l.length
  | 0, ns, l, ms, l', h => by
    simp only [namesG, Except.ok.injEq, Prod.mk.injEq] at h
    obtain ⟨rfl, rfl⟩ := h; exact Nat.le_refl _
  | k + 1, ns, l, ms, l', h => by
    rw [namesG] at h
    split at h
    · rename_i hk
      obtain ⟨s, l1, h1, h2⟩ := bind_ok h
      have h3 := namesG_wt k _ _ _ _ h2
      have h4 := nameT_wt h1
      have h5 := isT_len hk
      rw [wtS_one] at h3
      omega
    · simp only [Except.ok.injEq, Prod.mk.injEq] at h
      obtain ⟨rfl, rfl⟩ := h; exact Nat.le_refl _
theorem namesP_wt {several : Bool} {l l' : List Tk} {ns : List ByteArray} (h : namesP several l = .ok (ns, l')) : wtS ns + 14 * l'.length + 1 ≤ 14 * l.length := by
  obtain ⟨_, l1, h1, h⟩ := bind_ok h
  obtain ⟨s, l2, h2, h⟩ := bind_ok h
  obtain ⟨ms, l3, h3, h⟩ := bind_ok h
  obtain ⟨_, l4, h4, h⟩ := bind_ok h
  simp only [Except.ok.injEq, Prod.mk.injEq] at h
  obtain ⟨rfl, rfl⟩ := h
  have a1 := expT_wt h1
  have a2 := nameT_wt h2
  have a3 := namesG_wt _ _ _ _ _ h3
  have a4 := expT_wt h4
  have a5 : wtS [s] = s.size + 1 := by simp [wtS]
  omega
theorem primP_wt {ex : ParP} (hx : Wt ex) : Wt (primP ex) := fun l e l' h => by
  cases l with
  | nil => cases h
  | cons t r =>
    rw [primP] at h
    rw [List.length_cons]
    split at h
    · simp only [Except.ok.injEq, Prod.mk.injEq] at h
      obtain ⟨rfl, rfl⟩ := h
      simp only [wtE, wtL, wtS, List.map_nil, List.sum_nil]; omega
    · split at h
      · simp only [Except.ok.injEq, Prod.mk.injEq] at h
        obtain ⟨rfl, rfl⟩ := h
        simp only [wtE, wtL, wtS, List.map_nil, List.sum_nil]; omega
      · split at h
        · simp only [Except.ok.injEq, Prod.mk.injEq] at h
          obtain ⟨rfl, rfl⟩ := h
          simp only [wtE, wtL, wtS, List.map_nil, List.sum_nil]; omega
        · split at h
          · obtain ⟨ns, l1, h1, h2⟩ := bind_ok h
            simp only [Except.ok.injEq, Prod.mk.injEq] at h2
            obtain ⟨rfl, rfl⟩ := h2
            have := namesP_wt h1
            rw [wtE, wtL]; omega
          · split at h
            · obtain ⟨ns, l1, h1, h2⟩ := bind_ok h
              simp only [Except.ok.injEq, Prod.mk.injEq] at h2
              obtain ⟨rfl, rfl⟩ := h2
              have := namesP_wt h1
              rw [wtE, wtL]; omega
            · split at h
              · obtain ⟨x, l1, h1, h2⟩ := bind_ok h
                obtain ⟨_, l2, h3, h4⟩ := bind_ok h2
                simp only [Except.ok.injEq, Prod.mk.injEq] at h4
                obtain ⟨rfl, rfl⟩ := h4
                have := hx _ _ _ h1
                have := expT_wt h3
                omega
              · obtain ⟨s, l1, h1, h2⟩ := bind_ok h
                simp only [Except.ok.injEq, Prod.mk.injEq] at h2
                obtain ⟨rfl, rfl⟩ := h2
                have a1 := nameT_wt h1
                rw [List.length_cons] at a1
                have a5 : wtS [s] = s.size + 1 := by simp [wtS]
                rw [wtE, wtL]; omega
theorem exprP_wt : ∀ f, Wt (exprP f)
  | 0 => fun l e l' h => by cases h
  | f + 1 => fun l e l' h => implP_wt (primP_wt (exprP_wt f)) _ _ _ _ h
end Go.Proofs.YtnabbnhefjfegaaGreatDoor
namespace Go.Proofs.YtnabbnhefjfegaaGreatDoor
section
set_option maxRecDepth 100000
theorem en42 : Enters Tryz.prog 42 := enters_mk Tryz.func42 (by kernel_rfl) rfl
theorem en43 : Enters Tryz.prog 43 := enters_mk Tryz.func43 (by kernel_rfl) rfl
end
open Go.RowKit
def hdK : List Tk → Nat
  | [] => 0
  | t :: _ => t.kind
/-- The end must have come. -/
def endM : RSt → RSt
  | .ok l => if hdK l = 0 then .ok l else .error (offT l, 8)
  | .error x => .error x
/-- The expression that a text is, or the error with its offset. -/
noncomputable def exprM (s : ByteArray) : Except (Nat × Int) Ex := match begM s with
  | .error x => .error x
  | .ok ts => match exprP (ts.length + 1) ts with
    | .error x => .error x
    | .ok y => match endM (.ok y.2) with
      | .error x => .error x
      | .ok _ => if chkE y.1 = 0 then .ok y.1 else .error (0, chkE y.1)
theorem RdS.zero {ts : List Tk} (h : 0 < ts.length) : RdS ts (.ok ts) 0 0 0 := ⟨h, rfl, rfl, rfl⟩
theorem begM_err {s : ByteArray} {x : Nat × Int} (h : begM s = .error x) : x.2 ≠ 0 := by
  rw [begM] at h
  split at h
  · simp only [Except.error.injEq] at h
    rw [← h]; decide
  · split at h
    · cases h
    · simp only [Except.error.injEq] at h
      rw [← h]; exact fun h => by cases h
theorem exprM_run {s : ByteArray} {ts : List Tk} {sa : RSt} {x : Ex} (hb : begM s = .ok ts) (hO : Out (runM (exprP (ts.length + 1)) (.ok ts)) sa x) : exprM s = match endM sa with
    | .error x => .error x
    | .ok _ => if chkE x = 0 then .ok x else .error (0, chkE x) := by
  rw [exprM, hb]
  simp only [runM] at hO
  cases he : exprP (ts.length + 1) ts with
  | error y => rw [he] at hO; simp only [Out] at hO; subst hO; simp only [he]; rfl
  | ok y => rw [he] at hO; obtain ⟨rfl, rfl⟩ := hO; simp only [he]
theorem expr17_spec {X : PMap} {s : ByteArray} (hs : s.size < 1000000000) : Spec Tryz.prog 20 [.string s] X fun u X' => match exprM s with
    | .error x => u = .tuple #[.agg #[.int .u8 0, .int .i64 0, .slice none 0 0, .slice none 0 0], .int .i64 (x.1 : Int), .int .i64 x.2]
    | .ok e => ∃ r : Row4, u = .tuple #[.agg #[r.1, r.2.1, r.2.2.1, r.2.2.2], .int .i64 0, .int .i64 0] ∧ ExR .u8 X' e r := by
  cases hb : begM s with
  | error x =>
    have hm : exprM s = .error x := by rw [exprM, hb]
    have hx2 := begM_err hb
    obtain ⟨o, c⟩ := x
    simp only at hx2
    refine Spec.enter Tryz.func20 rfl Tryz.ntmps20 rfl ?_
    intro w0 hw0
    refine T.seq <| T.region <| SL.w (op_alloc z40) ?_
    rintro _ _ _ ⟨B2, rfl, rfl, rfl⟩
    refine SL.v (op_assign (v := .int .i64 ((0 : Nat) : Int)) rfl) <| SL.v (op_assign (v := .int .i64 ((0 : Nat) : Int)) rfl) <| SL.nil <| T.seq <| T.region <| SL.mv rfl <| SL.w (op_callO en42 (vs := [_]) rfl (begin_spec hs)) ?_
    rintro u1 _ X1 ⟨own1, rfl, hX1, hu1⟩
    rw [hb] at hu1
    obtain ⟨rfl, rfl⟩ := hu1
    refine SL.mv rfl <| SL.v (op_extract rfl rfl) <| SL.v (op_extract rfl rfl) <| SL.v (op_extract rfl rfl) <| SL.as rfl <| SL.as rfl <| SL.as rfl <| SL.nil <| T.seq <| T.seq <| T.region <| SL.mv rfl <| SL.v (op_neqT rfl rfl (by omega)) ?_
    refine SL.nil <| T.condT rfl <| T.seq <| T.region <| SL.v (op_build st40 (qs := []) rfl rfl) <| SL.mv rfl <| SL.mv rfl <| SL.w (op_store ty40 rfl rfl (by repeat constructor) rfl rfl rfl) ?_
    rintro _ _ _ ⟨rfl, rfl⟩
    refine SL.as rfl <| SL.as rfl <| SL.nil <| T.ret3C rfl (ResIs.cell rfl ty40 (by repeat constructor) rfl) (ResIs.tmp rfl) (ResIs.tmp rfl) ?_
    rw [hm]
    rfl
  | ok ts =>
    refine Spec.enter Tryz.func20 rfl Tryz.ntmps20 rfl ?_
    intro w0 hw0
    refine T.seq <| T.region <| SL.w (op_alloc z40) ?_
    rintro _ _ _ ⟨B2, rfl, rfl, rfl⟩
    refine SL.v (op_assign (v := .int .i64 ((0 : Nat) : Int)) rfl) <| SL.v (op_assign (v := .int .i64 ((0 : Nat) : Int)) rfl) <| SL.nil <| T.seq <| T.region <| SL.mv rfl <| SL.w (op_callO en42 (vs := [_]) rfl (begin_spec hs)) ?_
    rintro u1 _ X1 ⟨own1, rfl, hX1, hu1⟩
    rw [hb] at hu1
    obtain ⟨pb, rb, v, rfl, rfl, hP, hT, h0, hl8⟩ := hu1
    refine SL.mv rfl <| SL.v (op_extract rfl rfl) <| SL.v (op_extract rfl rfl) <| SL.v (op_extract rfl rfl) <| SL.as rfl <| SL.as rfl <| SL.as rfl <| SL.nil <| T.seq <| T.seq <| T.region <| SL.mv rfl <| SL.v (op_neqF rfl rfl (by omega)) ?_
    refine SL.nil <| T.condF rfl <| T.skip <| T.seq <| T.region <| SL.mv rfl <| SL.w (op_callJ en46 rfl (vs := [_]) rfl (expr_all ts.length hT hP (RdS.zero h0) (fun l h => by cases h; exact Nat.lt_succ_self _)) (by repeat constructor)) ?_
    rintro _ _ X2 ⟨_, rfl, hX2, i2, off2, e2, sa, rfl, hS2, x, q, rfl, hx, hO, hsh⟩
    obtain ⟨o9, n9, a9, b9, l9, c9, m9, d9, rfl⟩ := hx.form
    have hP := hP.mono hX2
    have hT := hT.mono hX2
    obtain ⟨t, ht⟩ := hS2.tok
    have hrun := exprM_run hb hO
    refine SL.w (op_alloc z40) ?_
    rintro _ _ _ ⟨B8, rfl, rfl, rfl⟩
    refine SL.w (op_store ty40 rfl rfl (by repeat constructor) rfl rfl rfl) ?_
    rintro _ _ _ ⟨rfl, rfl⟩
    refine SL.nil <| T.seq <| T.meet (fun _ env own X' => ∃ (i off : Nat) (e : Int), X2.le X' ∧ RdS ts (endM sa) i off e ∧ env = [(2, .pointer (some ⟨B2, 0, none⟩)), (5, .pointer (some ⟨pb, 0, none⟩)), (8, .pointer (some ⟨B8, 0, none⟩))] ∧ own = EO B8 (.int .u8 (o9 : Int), .int .i64 n9, .slice a9 l9 c9, .slice b9 m9 d9) :: RdO rb v i off e :: [E0 B2]) ?_ ?_
    · skip
      refine T.seq <| T.region <| SL.mv rfl <| SL.w (op_callLend en43 (vs := [_]) rfl ((fun X1 h1 h2 => (done_spec (hP.mono h1) (hT.row.mono h1) hT.len (h2 (RdO rb v i2 off2 e2) (by simp)) ht : Spec _ _ _ _ fun u _ => u = .bool (decide (e2 ≠ 0 ∨ t.kind = 0)))))) ?_
      rintro _ _ _ ⟨rfl, rfl, rfl⟩
      by_cases hd : e2 ≠ 0 ∨ t.kind = 0
      · have he : endM sa = sa := by
          obtain ⟨_, h2⟩ := hS2
          cases sa with
          | error y => rfl
          | ok l =>
            obtain ⟨_, h3, rfl⟩ := h2
            rcases hd with hd | hd
            · exact absurd h3 hd
            · rw [endM, drop_tok ht]; exact if_pos hd
        rw [decide_eq_true hd]
        refine SL.v (op_not rfl) <| SL.nil <| T.condF rfl <| T.skip ?_
        exact T.backW 0 (by omega) ⟨i2, off2, e2, PMap.le_refl _, by rw [he]; exact hS2, rfl, rfl⟩ (by repeat (first | exact Sub.nil | refine Sub.cons rfl ?_))
      · have he : endM sa = failM 8 sa := by
          obtain ⟨_, h2⟩ := hS2
          cases sa with
          | error y => rfl
          | ok l =>
            obtain ⟨_, h3, rfl⟩ := h2
            rw [endM, drop_tok ht]; exact if_neg fun h => hd (.inr h)
        rw [decide_eq_false hd]
        refine SL.v (op_not rfl) <| SL.nil <| T.condT rfl <| T.region <| SL.mv rfl <| SL.v (op_nil rfl) <| SL.v (op_fieldAddr fa98_0 rfl) <| SL.v (op_loadX ty96 rfl (by assumption) rfl) ?_
        refine SL.w (op_callJ en47 rfl (vs := [_, _]) rfl (failR_spec hT hS2 (by decide)) (by repeat constructor)) ?_
        rintro _ _ X3 ⟨_, rfl, hX3, i3, off3, e3, _, rfl, hS3, rfl⟩
        refine SL.nil ?_
        exact T.backW 0 (by omega) ⟨i3, off3, e3, hX3, by rw [he]; exact hS3, rfl, rfl⟩ (by repeat (first | exact Sub.nil | refine Sub.cons rfl ?_))
    rintro _ _ _ X4 ⟨i4, off4, e4, hX4, hS4, rfl, rfl⟩
    have hP := hP.mono hX4
    refine T.seq <| T.seq <| T.region <| SL.mv rfl <| SL.v (op_nil rfl) <| SL.v (op_fieldAddr fa98_0 rfl) <| SL.v (op_loadX ty96 rfl (by assumption) rfl) ?_
    refine SL.w (op_callLend en45 (vs := [_]) rfl ((fun X1 h1 h2 => (err_spec (h2 (RdO rb v i4 off4 e4) (by simp)) : Spec _ _ _ _ fun u _ => u = .tuple #[.int .i64 (off4 : Int), .int .i64 e4])))) ?_
    rintro _ _ _ ⟨rfl, rfl, rfl⟩
    cases hen : endM sa with
    | error y =>
      rw [hen] at hS4 hrun
      obtain ⟨_, rfl, rfl, hy⟩ := hS4
      obtain ⟨o, c⟩ := y
      simp only at hy
      refine SL.mv rfl <| SL.v (op_extract rfl rfl) <| SL.v (op_extract rfl rfl) <| SL.as rfl <| SL.as rfl <| SL.nil <| T.seq <| T.region <| SL.mv rfl <| SL.v (op_neqT rfl rfl (by omega)) ?_
      refine SL.nil <| T.condT rfl <| T.seq <| T.region <| SL.v (op_build st40 (qs := []) rfl rfl) <| SL.mv rfl <| SL.mv rfl <| SL.w (op_store ty40 rfl rfl (by repeat constructor) rfl rfl rfl) ?_
      rintro _ _ _ ⟨rfl, rfl⟩
      refine SL.as rfl <| SL.as rfl <| SL.nil <| T.ret3C rfl (ResIs.cell rfl ty40 (by repeat constructor) rfl) (ResIs.tmp rfl) (ResIs.tmp rfl) ?_
      rw [hrun]
      rfl
    | ok l =>
      rw [hen] at hS4 hrun
      obtain ⟨_, rfl, rfl, _⟩ := hS4
      have hwx : wtE x < 100000000 := by
        simp only [runM] at hO
        cases he : exprP (ts.length + 1) ts with
        | error y => rw [he] at hO; simp only [Out] at hO; subst hO; cases hen
        | ok y =>
          rw [he] at hO
          obtain ⟨rfl, rfl⟩ := hO
          have := exprP_wt _ _ _ _ he
          omega
      have hc := chk_spec hwx (hx.mono hX4)
      try simp only at hc
      refine SL.mv rfl <| SL.v (op_extract rfl rfl) <| SL.v (op_extract rfl rfl) <| SL.as rfl <| SL.as rfl <| SL.nil <| T.seq <| T.region <| SL.mv rfl <| SL.v (op_neqF rfl rfl (by omega)) ?_
      refine SL.nil <| T.condF rfl <| T.skip <| T.seq <| T.seq <| T.region <| SL.v (op_load ty40 rfl (by repeat constructor) rfl) ?_
      refine SL.w (op_callF en25 (vs := [_]) rfl (hc)) ?_
      rintro _ _ X5 ⟨rfl, hX5, rfl⟩
      by_cases hcz : chkE x = 0
      · skip
        refine SL.as rfl <| SL.nil <| T.seq <| T.region <| SL.mv rfl <| SL.v (op_neqF rfl rfl (by omega)) ?_
        refine SL.nil <| T.condF rfl <| T.skip <| T.seq <| T.region <| SL.v (op_load ty40 rfl (by repeat constructor) rfl) ?_
        refine SL.w (op_store ty40 rfl rfl (by repeat constructor) rfl rfl rfl) ?_
        rintro _ _ _ ⟨rfl, rfl⟩
        refine SL.v (op_assign (v := .int .i64 ((0 : Nat) : Int)) rfl) <| SL.v (op_assign (v := .int .i64 ((0 : Nat) : Int)) rfl) <| SL.nil <| T.ret3C rfl (ResIs.cell rfl ty40 (by repeat constructor) rfl) (ResIs.tmp rfl) (ResIs.tmp rfl) ?_
        rw [hrun, if_pos hcz]
        exact ⟨(_, _, _, _), rfl, (hx.mono hX4).mono hX5⟩
      · refine SL.as rfl <| SL.nil <| T.seq <| T.region <| SL.mv rfl <| SL.v (op_neqT rfl rfl (by omega)) ?_
        refine SL.nil <| T.condT rfl <| T.seq <| T.region <| SL.v (op_build st40 (qs := []) rfl rfl) <| SL.mv rfl <| SL.w (op_store ty40 rfl rfl (by repeat constructor) rfl rfl rfl) ?_
        rintro _ _ _ ⟨rfl, rfl⟩
        refine SL.v (op_assign (v := .int .i64 ((0 : Nat) : Int)) rfl) <| SL.as rfl <| SL.nil <| T.ret3C rfl (ResIs.cell rfl ty40 (by repeat constructor) rfl) (ResIs.tmp rfl) (ResIs.tmp rfl) ?_
        rw [hrun, if_neg hcz]
        rfl
end Go.Proofs.YtnabbnhefjfegaaGreatDoor
