/- What the law's proof rests on: the engine, a small separation logic over the kit's walk, and contracts of the functions that the law reaches. Part 3. -/
import Derived.ChangeArms
import Derived.Laws.Externs
import Derived.MapKept
import Derived.Laws.IdiomStrings
import Derived.Test.YtnpcilglilfajaaGreatDoorPart1
import Derived.Test.YtnpcilglilfajaaGreatDoorPart2
namespace Go.Proofs.YtnpcilglilfajaaGreatDoor
open Go.RowKit
inductive Fm where
  | mk (op : Nat) (n : Int) (rs : List Nat) (al : List Fm)
def Fm.op : Fm → Nat
  | .mk op _ _ _ => op
def Fm.al : Fm → List Fm
  | .mk _ _ _ al => al
mutual
def depF : Fm → Nat
  | .mk _ _ _ al => depFL al + 1
def depFL : List Fm → Nat
  | [] => 0
  | a :: al => max (depF a) (depFL al)
end
mutual
def sizF : Fm → Nat
  | .mk _ _ _ al => sizFL al + 1
def sizFL : List Fm → Nat
  | [] => 0
  | a :: al => sizF a + sizFL al
end
mutual
/-- Room in memory. -/
def wtF : Fm → Nat
  | .mk _ _ rs al => rs.length + wtFL al + 1
def wtFL : List Fm → Nat
  | [] => 0
  | a :: al => wtF a + wtFL al
end
theorem depFL_snoc (a : Fm) : ∀ l : List Fm, depFL (l ++ [a]) = max (depFL l) (depF a)
  | [] => by simp [depFL]
  | b :: l => by rw [List.cons_append, depFL, depFL, depFL_snoc a l]; omega
theorem sizFL_snoc (a : Fm) : ∀ l : List Fm, sizFL (l ++ [a]) = sizFL l + sizF a
  | [] => by simp [sizFL]
  | b :: l => by rw [List.cons_append, sizFL, sizFL, sizFL_snoc a l]; omega
theorem wtFL_app (b : List Fm) : ∀ l : List Fm, wtFL (l ++ b) = wtFL l + wtFL b
  | [] => by simp [wtFL]
  | a :: l => by rw [List.cons_append, wtFL, wtFL, wtFL_app b l]; omega
theorem wtFL_snoc (a : Fm) (l : List Fm) : wtFL (l ++ [a]) = wtFL l + wtF a := by rw [wtFL_app]; simp [wtFL]
theorem wtFL_mem {a : Fm} : ∀ {l : List Fm}, a ∈ l → wtF a ≤ wtFL l
  | b :: l, h => by
    rw [wtFL]
    rcases List.mem_cons.1 h with rfl | h
    · omega
    · have := wtFL_mem h; omega
theorem wtF_pos (f : Fm) : 1 ≤ wtF f := by cases f; rw [wtF]; omega
theorem wtFL_len : ∀ l : List Fm, l.length ≤ wtFL l
  | [] => Nat.zero_le _
  | a :: l => by rw [wtFL, List.length_cons]; have := wtFL_len l; have := wtF_pos a; omega
mutual
theorem dep_wtF : ∀ f : Fm, depF f ≤ wtF f
  | .mk _ _ _ al => by rw [depF, wtF]; have := dep_wtFL al; omega
theorem dep_wtFL : ∀ l : List Fm, depFL l ≤ wtFL l
  | [] => Nat.zero_le _
  | a :: l => by rw [depFL, wtFL]; have := dep_wtF a; have := dep_wtFL l; omega
end
mutual
theorem siz_wtF : ∀ f : Fm, sizF f ≤ wtF f
  | .mk _ _ _ al => by rw [sizF, wtF]; have := siz_wtFL al; omega
theorem siz_wtFL : ∀ l : List Fm, sizFL l ≤ wtFL l
  | [] => Nat.zero_le _
  | a :: l => by rw [sizFL, wtFL]; have := siz_wtF a; have := siz_wtFL l; omega
end
def argF (op : Nat) : Nat := if op < 7 then 0 else if op = 7 then 1 else 2
def leaF (op : Nat) : Nat := if op = 4 ∨ op = 5 ∨ op = 6 then 1 else 0
def mosF (op : Nat) : Nat := if op = 4 ∨ op = 6 then 1 else if op = 5 then 8 else 0
/-- The error of an operator without its operands. -/
def ownF (op : Nat) (n : Int) (rs : List Nat) (k : Nat) : Int :=
  if op < 1 ∨ 16 < op ∨ k ≠ argF op then 1 else if (op ≠ 1 ∧ n ≠ 0) ∨ rs.length < leaF op ∨ mosF op < rs.length then 6 else if n < 0 ∨ 999999 < n then 2 else if ∃ r ∈ rs, r < 1 ∨ 63 < r then 2 else if ¬rs.Nodup then 5 else 0
/-- Operators that a kind does not take; 0: any kind. -/
def kinF (kind op : Nat) : Prop := (kind = 3 ∧ (op = 4 ∨ op = 5)) ∨ (kind ≠ 0 ∧ kind ≠ 3 ∧ op = 6)
instance (kind op : Nat) : Decidable (kinF kind op) := inferInstanceAs (Decidable (_ ∨ _))
mutual
/-- The first error of the operators. -/
def insF (kind : Nat) : Fm → Int
  | .mk op n rs al => if ownF op n rs al.length ≠ 0 then ownF op n rs al.length else if kinF kind op then 10 else insFL kind al
def insFL (kind : Nat) : List Fm → Int
  | [] => 0
  | a :: al => if insF kind a ≠ 0 then insF kind a else insFL kind al
end
def resT (op : Nat) : Nat := if op = 1 ∨ op = 5 ∨ op = 6 ∨ op = 16 then 2 else 1
def wanT (op : Nat) : Nat := if 11 ≤ op then 2 else 1
mutual
/-- Whether all operands have the types that their operators need. -/
def fitF : Fm → Bool
  | .mk op _ _ al => fitFL (wanT op) al
def fitFL (w : Nat) : List Fm → Bool
  | [] => true
  | a :: al => decide (resT a.op = w) && fitF a && fitFL w al
end
def lookF (kind : Nat) (f : Fm) : Int := if 10 < depF f ∨ 200 < sizF f then 3 else insF kind f
def typF (f : Fm) : Nat × Int := if lookF 0 f ≠ 0 then (0, lookF 0 f) else if fitF f = false then (0, 10) else (resT f.op, 0)
/-- The numbers of a list, as a set. -/
def mskF (l : List Nat) : Nat := l.foldl (fun m i => m ||| 2 ^ i) 0
mutual
def menF : Fm → Nat
  | .mk _ _ rs al => mskF rs ||| menFL al
def menFL : List Fm → Nat
  | [] => 0
  | a :: al => menF a ||| menFL al
end
def chkF (kind : Nat) (f : Fm) : Int := if kind < 1 ∨ 3 < kind then 1 else if lookF kind f ≠ 0 then lookF kind f else if fitF f = false ∨ resT f.op ≠ 1 then 10 else if kind ≠ 3 ∧ 8 < cntB 64 (menF f) then 3 else 0
theorem insFL_app (kind : Nat) (b : List Fm) : ∀ l : List Fm, insFL kind (l ++ b) = if insFL kind l ≠ 0 then insFL kind l else insFL kind b
  | [] => by simp [insFL]
  | a :: l => by
    rw [List.cons_append, insFL, insFL, insFL_app kind b l]
    by_cases h : insF kind a ≠ 0
    · rw [if_pos h, if_pos h, if_pos h]
    · rw [if_neg h, if_neg h]
theorem fitFL_app (w : Nat) (b : List Fm) : ∀ l : List Fm, fitFL w (l ++ b) = (fitFL w l && fitFL w b)
  | [] => by simp [fitFL]
  | a :: l => by rw [List.cons_append, fitFL, fitFL, fitFL_app w b l]; simp only [Bool.and_assoc]
theorem menFL_app (b : List Fm) : ∀ l : List Fm, menFL (l ++ b) = menFL l ||| menFL b
  | [] => by simp [menFL]
  | a :: l => by rw [List.cons_append, menFL, menFL, menFL_app b l, Nat.or_assoc]
/-- The bit of a set. -/
theorem mskF_bit (l : List Nat) (j : Nat) : (mskF l).testBit j = decide (j ∈ l) := by
  have key : ∀ (l : List Nat) (m : Nat), (l.foldl (fun m i => m ||| 2 ^ i) m).testBit j = (m.testBit j || decide (j ∈ l)) := by
    intro l
    induction l with
    | nil => intro m; simp
    | cons i l ih =>
      intro m
      rw [List.foldl_cons, ih, Nat.testBit_or, Nat.testBit_two_pow]
      by_cases h : i = j
      · subst h; simp
      · have h' : j ≠ i := fun e => h e.symm
        simp [h, h']
  rw [mskF, key]
  simp
/-- As many members as numbers: exactly if no number stands twice. -/
theorem cnt_msk {l : List Nat} (h : ∀ r ∈ l, r < 64) : cntB 64 (mskF l) = l.length ↔ l.Nodup := by
  have e : cntB 64 (mskF l) = ((List.range 64).filter fun i => decide (i ∈ l)).length := by
    rw [cntB, List.countP_eq_length_filter]
    congr 2
    funext i
    exact mskF_bit l i
  rw [e]
  have hn : ((List.range 64).filter fun i => decide (i ∈ l)).Nodup := List.Pairwise.filter _ List.nodup_range
  have hsub : ∀ i ∈ (List.range 64).filter (fun i => decide (i ∈ l)), i ∈ l := fun i hi => by simpa using (List.mem_filter.1 hi).2
  have hsup : ∀ i ∈ l, i ∈ (List.range 64).filter (fun i => decide (i ∈ l)) := fun i hi => List.mem_filter.2 ⟨List.mem_range.2 (h i hi), by simpa using hi⟩
  generalize (List.range 64).filter (fun i => decide (i ∈ l)) = q at *
  clear e
  constructor
  · intro hlen
    clear h
    induction l generalizing q with
    | nil => exact List.nodup_nil
    | cons a l ih =>
      have ha := hsup a (by simp)
      have hql : (q.erase a).length = l.length := by
        have := List.length_erase_of_mem ha
        rw [List.length_cons] at hlen; omega
      have h1 : ∀ i ∈ q.erase a, i ∈ l := fun i hi => by
        obtain ⟨h1, h2⟩ := hn.mem_erase_iff.1 hi
        rcases List.mem_cons.1 (hsub i h2) with e | e
        · exact absurd e h1
        · exact e
      have hal : a ∉ l := fun hal => by
        have hpig : ∀ (q l : List Nat), q.Nodup → (∀ i ∈ q, i ∈ l) → q.length ≤ l.length := by
          intro q
          induction q with
          | nil => intro l _ _; exact Nat.zero_le _
          | cons b q ihq =>
            intro l hn hs
            have hb := hs b (by simp)
            have := ihq (l.erase b) (List.nodup_cons.1 hn).2 fun i hi => (List.mem_erase_of_ne (fun e => (List.nodup_cons.1 hn).1 (by rw [← e]; exact hi))).2 (hs i (by simp [hi]))
            rw [List.length_erase_of_mem hb] at this
            have := List.length_pos_of_mem hb
            rw [List.length_cons]; omega
        have := hpig q l hn fun i hi => by
          rcases List.mem_cons.1 (hsub i hi) with e | e
          · exact e ▸ hal
          · exact e
        rw [List.length_cons] at hlen; omega
      have h2 : ∀ i ∈ l, i ∈ q.erase a := fun i hi => (List.mem_erase_of_ne (fun e => hal (by rw [← e]; exact hi))).2 (hsup i (by simp [hi]))
      exact List.nodup_cons.2 ⟨hal, ih (q.erase a) (hn.erase a) h1 h2 hql⟩
  · intro hl
    have hperm : ∀ (q l : List Nat), q.Nodup → l.Nodup → (∀ i ∈ q, i ∈ l) → q.length ≤ l.length := by
      intro q
      induction q with
      | nil => intro l _ _ _; exact Nat.zero_le _
      | cons b q ihq =>
        intro l hn hl hs
        have hb := hs b (by simp)
        have := ihq (l.erase b) (List.nodup_cons.1 hn).2 (hl.erase b) fun i hi => (List.mem_erase_of_ne (fun e => (List.nodup_cons.1 hn).1 (by rw [← e]; exact hi))).2 (hs i (by simp [hi]))
        rw [List.length_erase_of_mem hb] at this
        have := List.length_pos_of_mem hb
        rw [List.length_cons]; omega
    have a1 := hperm q l hn hl hsub
    have a2 := hperm l q hl hn hsup
    omega
theorem ownF_ok {op k : Nat} {n : Int} {rs : List Nat} (h : ownF op n rs k = 0) : 1 ≤ op ∧ op ≤ 16 ∧ k = argF op ∧ (op ≠ 1 → n = 0) ∧ leaF op ≤ rs.length ∧ rs.length ≤ mosF op ∧ 0 ≤ n ∧ n ≤ 999999 ∧ (∀ r ∈ rs, 1 ≤ r ∧ r ≤ 63) ∧ rs.Nodup := by
  unfold ownF at h
  split at h
  · cases h
  · rename_i c1
    split at h
    · cases h
    · rename_i c2
      split at h
      · cases h
      · rename_i c3
        split at h
        · cases h
        · rename_i c4
          split at h
          · cases h
          · rename_i c5
            refine ⟨by omega, by omega, by omega, fun ho => ?_, by omega, by omega, by omega, by omega, fun r hr => ?_, Classical.not_not.1 c5⟩
            · rcases Classical.em (n = 0) with hn | hn
              · exact hn
              · exact absurd (.inl ⟨ho, hn⟩) c2
            · have h7 : ¬(r < 1 ∨ 63 < r) := fun hh => c4 ⟨r, hr, hh⟩
              omega
theorem insF_ok {kind op : Nat} {n : Int} {rs : List Nat} {al : List Fm} (h : insF kind (.mk op n rs al) = 0) : ownF op n rs al.length = 0 ∧ ¬kinF kind op ∧ insFL kind al = 0 := by
  rw [insF] at h
  split at h
  · rename_i hc; exact absurd h hc
  · rename_i hc
    split at h
    · cases h
    · rename_i hk; exact ⟨Classical.not_not.1 hc, hk, h⟩
theorem insFL_zero {kind : Nat} : ∀ {l : List Fm}, insFL kind l = 0 → ∀ a ∈ l, insF kind a = 0
  | b :: l, h, a, ha => by
    rw [insFL] at h
    split at h
    · rename_i hc; exact absurd h hc
    · rename_i hc
      rcases List.mem_cons.1 ha with rfl | ha
      · exact Classical.not_not.1 hc
      · exact insFL_zero h a ha
end Go.Proofs.YtnpcilglilfajaaGreatDoor
namespace Go.Proofs.YtnpcilglilfajaaGreatDoor
open Go.RowKit
end Go.Proofs.YtnpcilglilfajaaGreatDoor
namespace Go.Proofs.YtnpcilglilfajaaGreatDoor
open Go.RowKit
def numGo (v k : Nat) : List Nat → Nat × Nat
  | [] => (0, 0)
  | b :: bs => if k = 0 ∧ b = 128 ∨ 144115188075855871 < v then (0, 0) else if b < 128 then (v * 128 + b % 128, k + 1) else numGo (v * 128 + b % 128) (k + 1) bs
def numR (bs : List Nat) : Nat × Nat := numGo 0 0 bs
theorem numGo_lt : ∀ (bs : List Nat) (v k : Nat), (numGo v k bs).1 < 18446744073709551616
  | [], _, _ => by simp [numGo]
  | b :: bs, v, k => by
    rw [numGo]
    split
    · simp
    · split
      · simp only; omega
      · exact numGo_lt bs _ _
/-- What is read is the encoding of the number. -/
theorem numGo_enc : ∀ (bs : List Nat) (v k : Nat), (∀ b ∈ bs, b < 256) → (k = 0 → v = 0) → (0 < k → 0 < v) → (numGo v k bs).2 ≠ 0 → k < (numGo v k bs).2 ∧ (numGo v k bs).2 - k ≤ bs.length ∧ numHi v ++ bs.take ((numGo v k bs).2 - k) = numB (numGo v k bs).1
  | [], _, _, _, _, _, h => by simp [numGo] at h
  | b :: bs, v, k, hb, h0, h1, h => by
    rw [numGo] at h ⊢
    by_cases hc : k = 0 ∧ b = 128 ∨ 144115188075855871 < v
    · rw [if_pos hc] at h; simp at h
    · rw [if_neg hc] at h ⊢
      have hb0 := hb b (by simp)
      by_cases hl : b < 128
      · rw [if_pos hl]
        refine ⟨by simp, by simp, ?_⟩
        simp only [Nat.add_sub_cancel_left, List.take_succ_cons, List.take_zero]
        rw [numB, show (v * 128 + b % 128) / 128 = v by omega, show (v * 128 + b % 128) % 128 = b by omega]
      · rw [if_neg hl] at h ⊢
        have hv' : v * 128 + b % 128 ≠ 0 := by
          rcases Nat.eq_zero_or_pos k with hk | hk
          · have := h0 hk; omega
          · have := h1 hk; omega
        obtain ⟨g1, g2, g3⟩ := numGo_enc bs (v * 128 + b % 128) (k + 1) (fun x hx => hb x (by simp [hx])) (by omega) (by omega) h
        refine ⟨by omega, by simp only [List.length_cons]; omega, ?_⟩
        rw [← g3, numHi_pos hv', show (v * 128 + b % 128) / 128 = v by omega, show 128 + (v * 128 + b % 128) % 128 = b by omega]
        obtain ⟨d, hd⟩ : ∃ d, (numGo (v * 128 + b % 128) (k + 1) bs).2 - k = d + 1 := ⟨(numGo (v * 128 + b % 128) (k + 1) bs).2 - k - 1, by omega⟩
        rw [hd, List.take_succ_cons, show (numGo (v * 128 + b % 128) (k + 1) bs).2 - (k + 1) = d by omega]
        simp
theorem numR_enc {bs : List Nat} (hb : ∀ b ∈ bs, b < 256) (h : (numR bs).2 ≠ 0) : (numR bs).2 ≤ bs.length ∧ bs.take (numR bs).2 = numB (numR bs).1 := by
  obtain ⟨_, h2, h3⟩ := numGo_enc bs 0 0 hb (fun _ => rfl) (fun h => by omega) h
  rw [numHi_zero, List.nil_append, Nat.sub_zero] at h3
  exact ⟨by simpa [numR] using h2, h3⟩
theorem numR_lt (bs : List Nat) : (numR bs).1 < 18446744073709551616 := numGo_lt bs 0 0
/-- A number up to most is read; c: the error where it is greater. -/
def rdU (c : Int) (most : Nat) (e : Int) (bs : List Nat) : Nat × Int × List Nat :=
  if e ≠ 0 then (0, e, bs) else if (numR bs).2 = 0 then (0, 6, bs) else if most < (numR bs).1 then (0, c, bs) else ((numR bs).1, 0, bs.drop (numR bs).2)
theorem rdU_err {c e : Int} {most : Nat} {bs : List Nat} (h : e ≠ 0) : rdU c most e bs = (0, e, bs) := by rw [rdU, if_pos h]
theorem rdU_le {c e : Int} {most : Nat} {bs : List Nat} : (rdU c most e bs).1 ≤ most := by
  rw [rdU]
  split
  · simp
  · split
    · simp
    · split
      · simp
      · simp only; omega
theorem rdU_sub {c e : Int} {most : Nat} {bs : List Nat} : ∃ k, (rdU c most e bs).2.2 = bs.drop k := by
  rw [rdU]
  split
  · exact ⟨0, rfl⟩
  · split
    · exact ⟨0, rfl⟩
    · split
      · exact ⟨0, rfl⟩
      · exact ⟨_, rfl⟩
/-- What was read without an error. -/
theorem rdU_ok {c e : Int} {most : Nat} {bs : List Nat} (hb : ∀ b ∈ bs, b < 256) (hc : c ≠ 0) (h : (rdU c most e bs).2.1 = 0) : e = 0 ∧ bs = numB (rdU c most e bs).1 ++ (rdU c most e bs).2.2 ∧ (rdU c most e bs).1 < 18446744073709551616 := by
  by_cases he : e ≠ 0
  · rw [rdU_err he] at h; exact absurd h he
  · have he0 : e = 0 := Decidable.not_not.1 he
    rw [rdU, if_neg he] at h ⊢
    by_cases h1 : (numR bs).2 = 0
    · rw [if_pos h1] at h; cases h
    · rw [if_neg h1] at h ⊢
      by_cases h2 : most < (numR bs).1
      · rw [if_pos h2] at h; exact absurd h hc
      · rw [if_neg h2]
        refine ⟨he0, ?_, numR_lt bs⟩
        simp only
        rw [← (numR_enc hb h1).2, List.take_append_drop]
theorem numB_lt {n : Nat} : ∀ b ∈ numB n, b < 256 := by
  have hh : ∀ n, ∀ b ∈ numHi n, b < 256 := by
    intro n
    induction n using Nat.strongRecOn with
    | _ n ih =>
      intro b hb
      rcases Nat.eq_zero_or_pos n with rfl | h0
      · rw [numHi_zero] at hb; cases hb
      · rw [numHi_pos (by omega), List.mem_append] at hb
        rcases hb with hb | hb
        · exact ih _ (by omega) b hb
        · simp at hb; omega
  intro b hb
  rw [numB, List.mem_append] at hb
  rcases hb with hb | hb
  · exact hh _ b hb
  · simp at hb; omega
end Go.Proofs.YtnpcilglilfajaaGreatDoor
namespace Go.Proofs.YtnpcilglilfajaaGreatDoor
section
set_option maxRecDepth 100000
theorem en134 : Enters Tryz.prog 134 := enters_mk Tryz.func134 (by kernel_rfl) rfl
theorem en135 : Enters Tryz.prog 135 := enters_mk Tryz.func135 (by kernel_rfl) rfl
theorem en136 : Enters Tryz.prog 136 := enters_mk Tryz.func136 (by kernel_rfl) rfl
theorem en137 : Enters Tryz.prog 137 := enters_mk Tryz.func137 (by kernel_rfl) rfl
theorem en138 : Enters Tryz.prog 138 := enters_mk Tryz.func138 (by kernel_rfl) rfl
theorem en140 : Enters Tryz.prog 140 := enters_mk Tryz.func140 (by kernel_rfl) rfl
theorem en142 : Enters Tryz.prog 142 := enters_mk Tryz.func142 (by kernel_rfl) rfl
theorem en180 : Enters Tryz.prog 180 := enters_mk Tryz.func180 (by kernel_rfl) rfl
theorem fa222_0 : FAdr Tryz.prog 222 0 0 := fadr_mk Tryz.underlying222 rfl rfl (by kernel_rfl)
theorem fa222_1 : FAdr Tryz.prog 222 1 1 := fadr_mk Tryz.underlying222 rfl rfl (by kernel_rfl)
theorem z222 : Zero Tryz.prog 222 [.slice none 0 0, .int .i64 0] := ⟨zero_of (by kernel_rfl)⟩
theorem st222 : StT Tryz.prog 222 [(0, 1), (1, 1)] [.slice none 0 0, .int .i64 0] := ⟨⟨_, Tryz.underlying222, fun _ => by kernel_rfl, z222⟩⟩
theorem ty30 : Ty Tryz.prog 30 false 1 := ⟨⟨_, Tryz.underlying30, rfl⟩, by kernel_rfl⟩
end
open Go.RowKit
section
variable {P : Program} {n : NM} {own : Own} {X : PMap} {env : Env} {t t' : TypeId} {x y : Operand}
theorem op_shl7 {p : Nat} (hx : eev env x = some (.int .u64 (p : Int))) {k' : IntKind} (hy : eev env y = some (.int k' 7)) (h : p < 144115188075855872) : OpY P n env own X (.binOp .shl t x y t') (.int .u64 ((p * 128 : Nat) : Int)) := by
  have := op_shl (P := P) (n := n) (own := own) (X := X) (t := t) (t' := t') (q := 7) hx hy
  rwa [show ((p : Int) * 2 ^ (min 7 IntKind.u64.bits)) = ((p * 128 : Nat) : Int) by rw [show min 7 IntKind.u64.bits = 7 from rfl]; omega, wrap_u64 (by omega)] at this
theorem op_or7 {p q : Nat} (hx : eev env x = some (.int .u64 ((p * 128 : Nat) : Int))) (hy : eev env y = some (.int .u64 (q : Int))) (h : p < 144115188075855872) (h2 : q < 128) : OpY P n env own X (.binOp .or t x y t') (.int .u64 ((p * 128 + q : Nat) : Int)) := by
  have := op_or (P := P) (n := n) (own := own) (X := X) (t := t) (t' := t') hx hy (by omega) (by omega)
  have e := Nat.two_pow_add_eq_or_of_lt (i := 7) (b := q) (by omega) p
  rwa [show p * 128 ||| q = p * 128 + q by rw [show p * 128 = 2 ^ 7 * p by omega, e]] at this
end
theorem BytesR.take {X : PMap} {A : Option Addr} {cp : Nat} {bs : List Nat} (h : BytesR X (.slice A bs.length cp) bs) (hc : bs.length ≤ cp) {k : Nat} (hk : k ≤ bs.length) : BytesR X (.slice (slA A cp 0 1) k cp) (bs.take k) := by
  rcases Nat.eq_zero_or_pos k with rfl | h0
  · exact .inl ⟨by simp, _, _, rfl⟩
  · obtain ⟨b, pre, rfl, hB⟩ := h.blk (by omega)
    refine .inr ⟨by simp; omega, b, cp, pre, ?_, ?_⟩
    · rw [slA, if_neg (by omega), List.length_take, Nat.min_eq_left hk]; simp [Addr.add]
    · obtain ⟨rest, ty, fr, hx⟩ := hB
      refine ⟨bytesC (bs.drop k) ++ rest, ty, fr, ?_⟩
      have e : bytesC bs = bytesC (bs.take k) ++ bytesC (bs.drop k) := by rw [← bytesC_append, List.take_append_drop]
      rw [hx, e]
      simp
theorem BytesR.drop {X : PMap} {A : Option Addr} {cp : Nat} {bs : List Nat} (h : BytesR X (.slice A bs.length cp) bs) (hc : bs.length ≤ cp) {k : Nat} (hk : k ≤ bs.length) : BytesR X (.slice (slA A cp k 1) (bs.length - k) (cp - k)) (bs.drop k) := by
  rcases Nat.eq_or_lt_of_le hk with rfl | h0
  · exact .inl ⟨by simp, _, _, by rw [Nat.sub_self]⟩
  · obtain ⟨b, pre, rfl, hB⟩ := h.blk (by omega)
    refine .inr ⟨by simp; omega, b, cp - k, pre ++ bytesC (bs.take k), ?_, ?_⟩
    · rw [slA, if_neg (by omega), List.length_append, bytesC_len, List.length_take, Nat.min_eq_left hk, List.length_drop]; simp [Addr.add]
    · rwa [List.append_assoc, ← bytesC_append, List.take_append_drop]
abbrev RdO (b : Nat) (sv : Value) (e : Int) : Ow := ⟨b, [sv, .int .i64 e], 222, 2⟩
/-- A slice of bytes that can be cut. -/
def CutR (X : PMap) (v : Value) (bs : List Nat) : Prop := BytesR X v bs ∧ (∃ A cp, v = .slice A bs.length cp ∧ bs.length ≤ cp) ∧ ∀ b ∈ bs, b < 256
theorem CutR.mono {X X' : PMap} {v : Value} {bs : List Nat} (h : CutR X v bs) (hX : X.le X') : CutR X' v bs := ⟨h.1.mono hX, h.2⟩
section
variable {X : PMap} {b : Nat} {sv : Value} {e : Int}
theorem rok_spec : SpecM Tryz.prog 135 [.pointer (some ⟨b, 0, none⟩)] X [RdO b sv e] fun u L' _ => u = .bool (decide (e = 0)) ∧ L' = [RdO b sv e] := by
  refine SpecM.enter Tryz.func135 rfl Tryz.ntmps135 rfl ?_
  intro w0 X0 own0
  refine T.seq <| T.region <| SL.as rfl <| SL.nil <| T.seq <| T.region <| SL.mv rfl <| SL.v (op_neqNil Tryz.underlying172 rfl rfl) <| SL.mv rfl <| SL.mv rfl <| SL.v (op_nil rfl) <| SL.v (op_fieldAddr fa222_1 rfl) <| SL.v (op_load ty30 rfl (by repeat constructor) rfl) ?_
  refine SL.v (op_eql rfl rfl) <| SL.v (op_pickT rfl rfl) <| SL.as rfl <| SL.nil <| T.retM1 [RdO b sv e] rfl (ResIs.tmp rfl) (List.Perm.refl _) ?_
  exact ⟨PMap.le_refl _, rfl, rfl⟩
theorem rerr_spec : SpecM Tryz.prog 142 [.pointer (some ⟨b, 0, none⟩)] X [RdO b sv e] fun u L' _ => u = .int .i64 e ∧ L' = [RdO b sv e] := by
  refine SpecM.enter Tryz.func142 rfl Tryz.ntmps142 rfl ?_
  intro w0 X0 own0
  refine T.seq <| T.region <| SL.v (op_assign (v := .int .i64 ((0 : Nat) : Int)) rfl) <| SL.nil <| T.seq <| T.seq <| T.region <| SL.mv rfl <| SL.v (op_eqlNil Tryz.underlying172 rfl rfl) <| SL.nil <| T.condF rfl <| T.skip <| T.seq <| T.region <| SL.mv rfl ?_
  refine SL.v (op_nil rfl) <| SL.v (op_fieldAddr fa222_1 rfl) <| SL.v (op_load ty30 rfl (by repeat constructor) rfl) ?_
  refine SL.as rfl <| SL.nil <| T.retM1 [RdO b sv e] rfl (ResIs.tmp rfl) (List.Perm.refl _) ?_
  exact ⟨PMap.le_refl _, rfl, rfl⟩
theorem rfail_spec (c : Int) : SpecM Tryz.prog 140 [.pointer (some ⟨b, 0, none⟩), .int .i64 c] X [RdO b sv e] fun _ L' _ => L' = [RdO b sv (if e = 0 then c else e)] := by
  refine SpecM.enter Tryz.func140 rfl Tryz.ntmps140 rfl ?_
  intro w0 X0 own0
  refine T.seq <| T.region <| SL.mv rfl <| SL.w (op_callM en135 (vs := [_]) rfl (rok_spec) rfl) ?_
  rintro _ _ X1 ⟨_, rfl, hX1, rfl, rfl⟩
  by_cases he : e = 0
  · rw [decide_eq_true he, if_pos he]
    refine SL.nil <| T.condT rfl <| T.region <| SL.mv rfl <| SL.mv rfl <| SL.v (op_nil rfl) <| SL.v (op_fieldAddr fa222_1 rfl) <| SL.w (op_store ty30 rfl rfl (by repeat constructor) rfl rfl rfl) ?_
    rintro _ _ _ ⟨rfl, rfl⟩
    refine SL.nil <| T.doneM0 [RdO b sv c] rfl (List.Perm.refl _) ?_
    exact ⟨hX1, rfl⟩
  · rw [decide_eq_false he, if_neg he]
    refine SL.nil <| T.condF rfl <| T.skip <| T.doneM0 [RdO b sv e] rfl (List.Perm.refl _) ?_
    exact ⟨hX1, rfl⟩
theorem rrefuse_spec (bad : Bool) (c : Int) : SpecM Tryz.prog 136 [.pointer (some ⟨b, 0, none⟩), .bool bad, .int .i64 c] X [RdO b sv 0] fun u L' _ => u = .bool (!bad) ∧ L' = [RdO b sv (if bad = true then c else 0)] := by
  refine SpecM.enter Tryz.func136 rfl Tryz.ntmps136 rfl ?_
  intro w0 X0 own0
  cases bad with
  | true =>
    refine T.seq <| T.region <| SL.as rfl <| SL.nil <| T.seq <| T.seq <| T.region <| SL.mv rfl <| SL.nil <| T.condT rfl <| T.region <| SL.mv rfl <| SL.mv rfl <| SL.w (op_callM en140 (vs := [_, _]) rfl (rfail_spec c) rfl) ?_
    rintro _ _ X1 ⟨_, rfl, hX1, rfl⟩
    refine SL.nil <| T.seq <| T.region <| SL.mv rfl <| SL.v (op_not rfl) <| SL.as rfl <| SL.nil <| T.retM1 [RdO b sv c] rfl (ResIs.tmp rfl) (List.Perm.refl _) ?_
    exact ⟨hX1, rfl, rfl⟩
  | false =>
    refine T.seq <| T.region <| SL.as rfl <| SL.nil <| T.seq <| T.seq <| T.region <| SL.mv rfl <| SL.nil <| T.condF rfl <| T.skip <| T.seq <| T.region <| SL.mv rfl <| SL.v (op_not rfl) ?_
    refine SL.as rfl <| SL.nil <| T.retM1 [RdO b sv 0] rfl (ResIs.tmp rfl) (List.Perm.refl _) ?_
    exact ⟨PMap.le_refl _, rfl, rfl⟩
theorem rnumber_spec {bs : List Nat} (h : CutR X sv bs) (hl : bs.length < 1000000) : SpecM Tryz.prog 180 [.pointer (some ⟨b, 0, none⟩)] X [RdO b sv e] fun u L' _ => u = .tuple #[.int .u64 ((numR bs).1 : Int), .int .i64 ((numR bs).2 : Int)] ∧ L' = [RdO b sv e] := by
  obtain ⟨h1, ⟨A, cp, rfl, hcp⟩, hb⟩ := h
  refine SpecM.enter Tryz.func180 rfl Tryz.ntmps180 rfl ?_
  intro w0 X0 own0
  refine T.seq <| T.region <| SL.v (op_assign (v := .int .u64 ((0 : Nat) : Int)) rfl) <| SL.v (op_assign (v := .int .i64 ((0 : Nat) : Int)) rfl) <| SL.nil <| T.seq <| T.region <| SL.v (op_assign (v := .int .u64 ((0 : Nat) : Int)) rfl) <| SL.nil <| T.seq <| T.seq <| T.region <| SL.mv rfl <| SL.v (op_nil rfl) <| SL.v (op_fieldAddr fa222_0 rfl) ?_
  refine SL.v (op_load ty44 rfl (by repeat constructor) rfl) ?_
  refine SL.v (op_lenS Tryz.underlying44 rfl) <| SL.v (op_move (v := .int .i64 ((0 : Nat) : Int)) rfl) <| SL.nil <| T.block <| T.loopW (fun m env own X' => ∃ (k v : Nat), m = bs.length - k ∧ k ≤ bs.length ∧ X.le X' ∧ v < 18446744073709551616 ∧ numGo v k (bs.drop k) = numR bs ∧ env = [(4, .int .u64 (v : Int)), (10, .slice A bs.length cp), (11, .int .i64 (bs.length : Int)), (12, .int .i64 (k : Int))] ∧ own = [RdO b (.slice A bs.length cp) e] ++ own0) bs.length ⟨0, 0, by simp, by omega, PMap.le_refl _, by omega, by simp [numR], rfl, rfl⟩ (by repeat (first | exact Sub.nil | refine Sub.cons rfl ?_)) ?_
  rintro m _ _ X1 ⟨k, v, rfl, hk, hX1, hv, hgo, rfl, rfl⟩
  rcases Nat.lt_or_ge k bs.length with hkl | hkl
  · obtain ⟨b2, pre, rfl, hB⟩ := h1.blk (by omega)
    have hB1 := hB.mono hX1
    obtain ⟨c, hc⟩ : ∃ c, bs[k]? = some c := ⟨_, List.getElem?_eq_getElem hkl⟩
    have hc256 := hb c (List.mem_of_getElem? hc)
    have g : (pre ++ bytesC bs)[pre.length + k]? = some (.int .u8 (c : Int)) := by
      rw [List.getElem?_append_right (by omega), Nat.add_sub_cancel_left]; exact bytesC_at hc
    have hgo2 := hgo
    rw [List.drop_eq_getElem_cons hkl, (List.getElem?_eq_some_iff.1 hc).2, numGo] at hgo2
    have hcm : c % 128 < 128 := Nat.mod_lt _ (by omega)
    refine T.seq <| T.region <| SL.v (op_lssT rfl rfl (by omega)) ?_
    refine SL.nil <| T.seq <| T.condT rfl <| T.skip <| T.seq <| T.block <| T.seq <| T.region <| SL.mv rfl <| SL.v (op_indexN Tryz.underlying44 ty5 rfl rfl (by omega)) ?_
    refine SL.v (op_loadX ty5 rfl hB1 (cread1k' g (by omega))) ?_
    by_cases hs : k = 0 ∧ c = 128
    · rw [if_pos (.inl hs)] at hgo2
      obtain ⟨hs1, hs2⟩ := hs
      refine SL.as rfl <| SL.as rfl <| SL.nil <| T.seq <| T.seq <| T.region <| SL.mv rfl <| SL.v (op_eqlT rfl rfl (by omega)) ?_
      refine SL.mv rfl <| SL.mv rfl <| SL.v (op_eqlT rfl rfl (by omega)) ?_
      refine SL.v (op_pickT rfl rfl) <| SL.mv rfl <| SL.skip rfl rfl ?_
      refine SL.skip rfl rfl ?_
      refine SL.v (op_pickT rfl rfl) <| SL.nil <| T.condT rfl <| T.seq <| T.region <| SL.v (op_assign (v := .int .u64 ((0 : Nat) : Int)) rfl) <| SL.v (op_assign (v := .int .i64 ((0 : Nat) : Int)) rfl) <| SL.nil <| T.retM2 [RdO b (.slice (some ⟨b2, pre.length, none⟩) bs.length cp) e] rfl (ResIs.tmp rfl) (ResIs.tmp rfl) (List.Perm.refl _) ?_
      exact ⟨hX1, by rw [← hgo2], rfl⟩
    · have hcond : (decide ((k : Int) = 0) = true ∧ decide ((c : Int) = 128) = true) → False := fun ⟨h1, h2⟩ => hs ⟨by simpa using h1, by simp at h2; omega⟩
      have hq : ∃ q, q = decide ((c : Int) = 128) := ⟨_, rfl⟩
      by_cases ho : 144115188075855871 < v
      · rw [if_pos (.inr ho)] at hgo2
        rcases Nat.eq_zero_or_pos k with hk0 | hk0
        · have hc128 : c ≠ 128 := fun h => hs ⟨hk0, h⟩
          refine SL.as rfl <| SL.as rfl <| SL.nil <| T.seq <| T.seq <| T.region <| SL.mv rfl <| SL.v (op_eqlT rfl rfl (by omega)) ?_
          refine SL.mv rfl <| SL.mv rfl <| SL.v (op_eqlF rfl rfl (by omega)) ?_
          refine SL.v (op_pickT rfl rfl) <| SL.mv rfl <| SL.mv rfl <| SL.v (op_gtrT rfl rfl (by omega)) ?_
          refine SL.v (op_pickF rfl rfl) <| SL.nil <| T.condT rfl <| T.seq <| T.region <| SL.v (op_assign (v := .int .u64 ((0 : Nat) : Int)) rfl) <| SL.v (op_assign (v := .int .i64 ((0 : Nat) : Int)) rfl) <| SL.nil <| T.retM2 [RdO b (.slice (some ⟨b2, pre.length, none⟩) bs.length cp) e] rfl (ResIs.tmp rfl) (ResIs.tmp rfl) (List.Perm.refl _) ?_
          exact ⟨hX1, by rw [← hgo2], rfl⟩
        · skip
          refine SL.as rfl <| SL.as rfl <| SL.nil <| T.seq <| T.seq <| T.region <| SL.mv rfl <| SL.v (op_eqlF rfl rfl (by omega)) ?_
          refine SL.mv rfl <| SL.skip rfl rfl ?_
          refine SL.skip rfl rfl ?_
          refine SL.v (op_pickF rfl rfl) <| SL.mv rfl <| SL.mv rfl <| SL.v (op_gtrT rfl rfl (by omega)) ?_
          refine SL.v (op_pickF rfl rfl) <| SL.nil <| T.condT rfl <| T.seq <| T.region <| SL.v (op_assign (v := .int .u64 ((0 : Nat) : Int)) rfl) <| SL.v (op_assign (v := .int .i64 ((0 : Nat) : Int)) rfl) <| SL.nil <| T.retM2 [RdO b (.slice (some ⟨b2, pre.length, none⟩) bs.length cp) e] rfl (ResIs.tmp rfl) (ResIs.tmp rfl) (List.Perm.refl _) ?_
          exact ⟨hX1, by rw [← hgo2], rfl⟩
      · rw [if_neg (by rintro (h | h); exact hs h; exact ho h)] at hgo2
        have hvs : v < 144115188075855872 := by omega
        rcases Nat.eq_zero_or_pos k with hk0 | hk0
        · have hc128 : c ≠ 128 := fun h => hs ⟨hk0, h⟩
          refine SL.as rfl <| SL.as rfl <| SL.nil <| T.seq <| T.seq <| T.region <| SL.mv rfl <| SL.v (op_eqlT rfl rfl (by omega)) ?_
          refine SL.mv rfl <| SL.mv rfl <| SL.v (op_eqlF rfl rfl (by omega)) ?_
          refine SL.v (op_pickT rfl rfl) <| SL.mv rfl <| SL.mv rfl <| SL.v (op_gtrF rfl rfl (by omega)) ?_
          refine SL.v (op_pickF rfl rfl) <| SL.nil <| T.condF rfl <| T.skip <| T.seq <| T.region <| SL.mv rfl <| SL.v (op_shl7 rfl rfl hvs) <| SL.mv rfl <| SL.v (op_and127 rfl rfl hc256) <| SL.v (op_convU64 Tryz.underlying5 Tryz.underlying58 rfl (by omega) (by omega)) ?_
          refine SL.v (op_or7 rfl rfl hvs hcm) ?_
          by_cases hlt : c < 128
          · rw [if_pos hlt] at hgo2
            refine SL.as rfl <| SL.nil <| T.seq <| T.region <| SL.mv rfl <| SL.v (op_lssT rfl rfl (by omega)) ?_
            refine SL.nil <| T.condT rfl <| T.seq <| T.region <| SL.mv rfl <| SL.mv rfl <| SL.v (op_addN (q := 1) rfl rfl (by omega)) ?_
            refine SL.as rfl <| SL.as rfl <| SL.nil <| T.retM2 [RdO b (.slice (some ⟨b2, pre.length, none⟩) bs.length cp) e] rfl (ResIs.tmp rfl) (ResIs.tmp rfl) (List.Perm.refl _) ?_
            exact ⟨hX1, by rw [← hgo2], rfl⟩
          · rw [if_neg hlt] at hgo2
            refine SL.as rfl <| SL.nil <| T.seq <| T.region <| SL.mv rfl <| SL.v (op_lssF rfl rfl (by omega)) ?_
            refine SL.nil <| T.condF rfl <| T.skip <| T.blk <| T.region <| SL.v (op_addN (q := 1) rfl rfl (by omega)) ?_
            refine SL.mv rfl <| SL.nil ?_
            exact T.backW (bs.length - (k + 1)) (by omega) ⟨k + 1, v * 128 + c % 128, rfl, by omega, hX1, by omega, hgo2, rfl, rfl⟩ (by repeat (first | exact Sub.nil | refine Sub.cons rfl ?_))
        · refine SL.as rfl <| SL.as rfl <| SL.nil <| T.seq <| T.seq <| T.region <| SL.mv rfl <| SL.v (op_eqlF rfl rfl (by omega)) ?_
          refine SL.mv rfl <| SL.skip rfl rfl ?_
          refine SL.skip rfl rfl ?_
          refine SL.v (op_pickF rfl rfl) <| SL.mv rfl <| SL.mv rfl <| SL.v (op_gtrF rfl rfl (by omega)) ?_
          refine SL.v (op_pickF rfl rfl) <| SL.nil <| T.condF rfl <| T.skip <| T.seq <| T.region <| SL.mv rfl <| SL.v (op_shl7 rfl rfl hvs) <| SL.mv rfl <| SL.v (op_and127 rfl rfl hc256) <| SL.v (op_convU64 Tryz.underlying5 Tryz.underlying58 rfl (by omega) (by omega)) ?_
          refine SL.v (op_or7 rfl rfl hvs hcm) ?_
          by_cases hlt : c < 128
          · rw [if_pos hlt] at hgo2
            refine SL.as rfl <| SL.nil <| T.seq <| T.region <| SL.mv rfl <| SL.v (op_lssT rfl rfl (by omega)) ?_
            refine SL.nil <| T.condT rfl <| T.seq <| T.region <| SL.mv rfl <| SL.mv rfl <| SL.v (op_addN (q := 1) rfl rfl (by omega)) ?_
            refine SL.as rfl <| SL.as rfl <| SL.nil <| T.retM2 [RdO b (.slice (some ⟨b2, pre.length, none⟩) bs.length cp) e] rfl (ResIs.tmp rfl) (ResIs.tmp rfl) (List.Perm.refl _) ?_
            exact ⟨hX1, by rw [← hgo2], rfl⟩
          · rw [if_neg hlt] at hgo2
            refine SL.as rfl <| SL.nil <| T.seq <| T.region <| SL.mv rfl <| SL.v (op_lssF rfl rfl (by omega)) ?_
            refine SL.nil <| T.condF rfl <| T.skip <| T.blk <| T.region <| SL.v (op_addN (q := 1) rfl rfl (by omega)) ?_
            refine SL.mv rfl <| SL.nil ?_
            exact T.backW (bs.length - (k + 1)) (by omega) ⟨k + 1, v * 128 + c % 128, rfl, by omega, hX1, by omega, hgo2, rfl, rfl⟩ (by repeat (first | exact Sub.nil | refine Sub.cons rfl ?_))
  · obtain rfl : k = bs.length := by omega
    refine T.seq <| T.region <| SL.v (op_lssF rfl rfl (by omega)) ?_
    refine SL.nil <| T.seq <| T.condF rfl ?_
    refine T.exit (T.exitCode (T.exitCut (T.exitBlk ?_)))
    refine T.seq <| T.region <| SL.v (op_assign (v := .int .u64 ((0 : Nat) : Int)) rfl) <| SL.v (op_assign (v := .int .i64 ((0 : Nat) : Int)) rfl) <| SL.nil <| T.retM2 [RdO b (.slice A bs.length cp) e] rfl (ResIs.tmp rfl) (ResIs.tmp rfl) (List.Perm.refl _) ?_
    rw [List.drop_length] at hgo
    exact ⟨hX1, by rw [← hgo]; rfl, rfl⟩
theorem rtake_spec {bs : List Nat} (h : CutR X sv bs) (hl : bs.length < 1000000) {k : Nat} (hk : k ≤ bs.length) : SpecM Tryz.prog 137 [.pointer (some ⟨b, 0, none⟩), .int .i64 (k : Int)] X [RdO b sv e] fun u L' X' => CutR X' u (bs.take k) ∧ ∃ sv', L' = [RdO b sv' e] ∧ CutR X' sv' (bs.drop k) := by
  obtain ⟨h1, ⟨A, cp, rfl, hcp⟩, hb⟩ := h
  have hd := h1.drop hcp hk
  have ht := h1.take hcp hk
  have htl : (bs.take k).length = k := by rw [List.length_take]; omega
  refine SpecM.enter Tryz.func137 rfl Tryz.ntmps137 rfl ?_
  intro w0 X0 own0
  refine T.seq <| T.region <| SL.as rfl <| SL.nil <| T.seq <| T.region <| SL.mv rfl <| SL.v (op_nil rfl) <| SL.v (op_fieldAddr fa222_0 rfl) <| SL.v (op_load ty44 rfl (by repeat constructor) rfl) ?_
  refine SL.mv rfl <| SL.v (op_sliceHi Tryz.underlying44 ty5 rfl rfl (by omega)) ?_
  refine SL.w (op_callO en134 (vs := [_]) rfl (bclone_spec ht (by omega))) ?_
  rintro u _ X1 ⟨G, rfl, hX1, hG⟩
  refine SL.perm (own' := ([RdO b (.slice A bs.length cp) e] ++ own0) ++ G) List.perm_append_comm ?_
  refine T.pubGAt (own0 := [RdO b (.slice A bs.length cp) e] ++ own0) hG ?_
  intro X2 hX2 hS
  obtain ⟨Au, cu, hu, hcu⟩ : ∃ A cp, u = .slice A k cp ∧ k ≤ cp := by
    rcases hG with ⟨h1, _, rfl, _⟩ | ⟨bg, cg, rfl, _, hcg, _⟩
    · rw [htl] at h1; subst h1; exact ⟨_, _, rfl, by omega⟩
    · rw [htl] at hcg ⊢; exact ⟨_, _, rfl, hcg⟩
  subst hu
  refine SL.as rfl <| SL.nil <| T.seq <| T.region <| SL.mv rfl <| SL.mv rfl <| SL.v (op_nil rfl) <| SL.v (op_fieldAddr fa222_0 rfl) <| SL.v (op_load ty44 rfl (by repeat constructor) rfl) ?_
  refine SL.mv rfl <| SL.v (op_sliceLo Tryz.underlying44 ty5 rfl rfl (by omega) hcp) ?_
  refine SL.v (op_nil rfl) <| SL.v (op_fieldAddr fa222_0 rfl) <| SL.w (op_store ty44 rfl rfl (by repeat constructor) rfl rfl rfl) ?_
  rintro _ _ _ ⟨rfl, rfl⟩
  refine SL.nil <| T.seq <| T.region <| SL.mv rfl <| SL.as rfl <| SL.nil <| T.retM1 [RdO b (.slice (slA A cp k 1) (bs.length - k) (cp - k)) e] rfl (ResIs.tmp rfl) (List.Perm.refl _) ?_
  have hX02 := hX1.trans' hX2
  refine ⟨hX02, ⟨BytesR.ofS hS, ⟨_, _, by rw [htl], by omega⟩, fun b hb' => hb b (List.mem_of_mem_take hb')⟩, _, rfl, hd.mono hX02, ⟨_, _, by rw [List.length_drop], by rw [List.length_drop]; omega⟩, fun b hb' => hb b (List.mem_of_mem_drop hb')⟩
end
section
variable {X : PMap} {b : Nat} {sv : Value} {e : Int}
theorem CutR.len {X : PMap} {v : Value} {bs : List Nat} (_ : CutR X v bs) {k : Nat} (h : (numR bs).2 ≠ 0) (hk : k = (numR bs).2) (hb : ∀ b ∈ bs, b < 256) : k ≤ bs.length := by subst hk; exact (numR_enc hb h).1
theorem ruint_spec {bs : List Nat} (h : CutR X sv bs) (hl : bs.length < 1000000) {most : Nat} (_hm : most < 18446744073709551616) : SpecM Tryz.prog 138 [.pointer (some ⟨b, 0, none⟩), .int .u64 (most : Int)] X [RdO b sv e] fun u L' X' => u = .int .u64 ((rdU 2 most e bs).1 : Int) ∧ ∃ sv', L' = [RdO b sv' (rdU 2 most e bs).2.1] ∧ CutR X' sv' (rdU 2 most e bs).2.2 := by
  refine SpecM.enter Tryz.func138 rfl Tryz.ntmps138 rfl ?_
  intro w0 X0 own0
  refine T.seq <| T.region <| SL.v (op_assign (v := .int .u64 ((0 : Nat) : Int)) rfl) <| SL.nil <| T.seq <| T.seq <| T.region <| SL.mv rfl <| SL.w (op_callM en135 (vs := [_]) rfl (rok_spec) rfl) ?_
  rintro _ _ X1 ⟨_, rfl, hX1, rfl, rfl⟩
  by_cases he : e = 0
  · subst he
    rw [decide_eq_true rfl]
    have h1 := h.mono hX1
    refine SL.v (op_not rfl) <| SL.nil <| T.condF rfl <| T.skip <| T.seq <| T.region <| SL.mv rfl <| SL.w (op_callM en180 (vs := [_]) rfl (rnumber_spec h1 hl) rfl) ?_
    rintro _ _ X2 ⟨_, rfl, hX2, rfl, rfl⟩
    have h2 := h1.mono hX2
    have hX02 := hX1.trans' hX2
    rw [rdU, if_neg (by simp)]
    have hlen := h2.len (k := (numR bs).2)
    have hnl := numR_lt bs
    generalize (numR bs).1 = v at *
    generalize hnn : (numR bs).2 = n at *
    by_cases hn0 : n = 0
    · rw [if_pos hn0]
      refine SL.mv rfl <| SL.v (op_extract rfl rfl) <| SL.v (op_extract rfl rfl) <| SL.as rfl <| SL.as rfl <| SL.nil <| T.seq <| T.seq <| T.region <| SL.mv rfl <| SL.mv rfl <| SL.v (op_eqlT rfl rfl (by omega)) ?_
      refine SL.w (op_callM en136 (vs := [_, _, _]) rfl (rrefuse_spec true 6) rfl) ?_
      rintro _ _ X3 ⟨_, rfl, hX3, rfl, rfl⟩
      refine SL.v (op_not rfl) <| SL.mv rfl <| SL.skip rfl rfl ?_
      refine SL.skip rfl rfl ?_
      refine SL.skip rfl rfl ?_
      refine SL.skip rfl rfl ?_
      refine SL.skip rfl rfl ?_
      refine SL.skip rfl rfl ?_
      refine SL.v (op_pickT rfl rfl) <| SL.nil <| T.condT rfl <| T.seq <| T.region <| SL.v (op_assign (v := .int .u64 ((0 : Nat) : Int)) rfl) <| SL.nil <| T.retM1 [RdO b sv 6] rfl (ResIs.tmp rfl) (List.Perm.refl _) ?_
      exact ⟨hX02.trans' hX3, rfl, sv, rfl, h2.mono hX3⟩
    · rw [if_neg hn0]
      refine SL.mv rfl <| SL.v (op_extract rfl rfl) <| SL.v (op_extract rfl rfl) <| SL.as rfl <| SL.as rfl <| SL.nil <| T.seq <| T.seq <| T.region <| SL.mv rfl <| SL.mv rfl <| SL.v (op_eqlF rfl rfl (by omega)) ?_
      refine SL.w (op_callM en136 (vs := [_, _, _]) rfl (rrefuse_spec false 6) rfl) ?_
      rintro _ _ X3 ⟨_, rfl, hX3, rfl, rfl⟩
      by_cases hv : most < v
      · rw [if_pos hv]
        refine SL.v (op_not rfl) <| SL.mv rfl <| SL.mv rfl <| SL.mv rfl <| SL.mv rfl <| SL.v (op_gtrT rfl rfl (by omega)) ?_
        refine SL.w (op_callM en136 (vs := [_, _, _]) rfl (rrefuse_spec true 2) rfl) ?_
        rintro _ _ X4 ⟨_, rfl, hX4, rfl, rfl⟩
        refine SL.v (op_not rfl) <| SL.v (op_pickF rfl rfl) <| SL.nil <| T.condT rfl <| T.seq <| T.region <| SL.v (op_assign (v := .int .u64 ((0 : Nat) : Int)) rfl) <| SL.nil <| T.retM1 [RdO b sv 2] rfl (ResIs.tmp rfl) (List.Perm.refl _) ?_
        exact ⟨(hX02.trans' hX3).trans' hX4, rfl, sv, rfl, (h2.mono hX3).mono hX4⟩
      · rw [if_neg hv]
        refine SL.v (op_not rfl) <| SL.mv rfl <| SL.mv rfl <| SL.mv rfl <| SL.mv rfl <| SL.v (op_gtrF rfl rfl (by omega)) ?_
        refine SL.w (op_callM en136 (vs := [_, _, _]) rfl (rrefuse_spec false 2) rfl) ?_
        rintro _ _ X4 ⟨_, rfl, hX4, rfl, rfl⟩
        refine SL.v (op_not rfl) <| SL.v (op_pickF rfl rfl) <| SL.nil <| T.condF rfl <| T.skip <| T.seq <| T.region <| SL.mv rfl <| SL.mv rfl <| SL.w (op_callM en137 (vs := [_, _]) rfl (rtake_spec ((h2.mono hX3).mono hX4) hl (hlen hn0 rfl h.2.2)) rfl) ?_
        rintro u5 _ X5 ⟨_, rfl, hX5, hu5, sv5, rfl, h5⟩
        refine SL.nil <| T.seq <| T.region <| SL.mv rfl <| SL.as rfl <| SL.nil <| T.retM1 [RdO b sv5 0] rfl (ResIs.tmp rfl) (List.Perm.refl _) ?_
        exact ⟨((hX02.trans' hX3).trans' hX4).trans' hX5, rfl, sv5, rfl, h5⟩
  · rw [decide_eq_false he, rdU_err he]
    refine SL.v (op_not rfl) <| SL.nil <| T.condT rfl <| T.seq <| T.region <| SL.v (op_assign (v := .int .u64 ((0 : Nat) : Int)) rfl) <| SL.nil <| T.retM1 [RdO b sv e] rfl (ResIs.tmp rfl) (List.Perm.refl _) ?_
    exact ⟨hX1, rfl, sv, rfl, h.mono hX1⟩
theorem rnum_spec {bs : List Nat} (h : CutR X sv bs) (hl : bs.length < 1000000) {most : Nat} (hm : most < 1000000000) : SpecM Tryz.prog 89 [.pointer (some ⟨b, 0, none⟩), .int .i64 (most : Int)] X [RdO b sv e] fun u L' X' => u = .int .i64 ((rdU 2 most e bs).1 : Int) ∧ ∃ sv', L' = [RdO b sv' (rdU 2 most e bs).2.1] ∧ CutR X' sv' (rdU 2 most e bs).2.2 := by
  refine SpecM.enter Tryz.func89 rfl Tryz.ntmps89 rfl ?_
  intro w0 X0 own0
  refine T.seq <| T.region <| SL.v (op_assign (v := .int .i64 ((0 : Nat) : Int)) rfl) <| SL.nil <| T.seq <| T.seq <| T.region <| SL.mv rfl <| SL.w (op_callM en135 (vs := [_]) rfl (rok_spec) rfl) ?_
  rintro _ _ X1 ⟨_, rfl, hX1, rfl, rfl⟩
  by_cases he : e = 0
  · subst he
    rw [decide_eq_true rfl]
    have hle := rdU_le (c := 2) (e := 0) (most := most) (bs := bs)
    refine SL.v (op_not rfl) <| SL.mv rfl <| SL.mv rfl <| SL.mv rfl <| SL.v (op_lssF rfl rfl (by omega)) ?_
    refine SL.w (op_callM en136 (vs := [_, _, _]) rfl (rrefuse_spec false 1) rfl) ?_
    rintro _ _ X2 ⟨_, rfl, hX2, rfl, rfl⟩
    refine SL.v (op_not rfl) <| SL.v (op_pickF rfl rfl) <| SL.nil <| T.condF rfl <| T.skip <| T.seq <| T.region <| SL.mv rfl <| SL.mv rfl <| SL.v (op_convU64 Tryz.underlying3 Tryz.underlying58 rfl (by omega) (by omega)) ?_
    refine SL.w (op_callM en138 (vs := [_, _]) rfl (ruint_spec (e := 0) ((h.mono hX1).mono hX2) hl (by omega)) rfl) ?_
    rintro _ _ X3 ⟨_, rfl, hX3, rfl, sv3, rfl, h3⟩
    refine SL.v (op_convI64 Tryz.underlying58 Tryz.underlying3 rfl (by omega) (by omega)) ?_
    refine SL.as rfl <| SL.nil <| T.retM1 [RdO b sv3 (rdU 2 most 0 bs).2.1] rfl (ResIs.tmp rfl) (List.Perm.refl _) ?_
    exact ⟨(hX1.trans' hX2).trans' hX3, rfl, sv3, rfl, h3⟩
  · rw [decide_eq_false he, rdU_err he]
    refine SL.v (op_not rfl) <| SL.mv rfl <| SL.skip rfl rfl ?_
    refine SL.skip rfl rfl ?_
    refine SL.skip rfl rfl ?_
    refine SL.skip rfl rfl ?_
    refine SL.skip rfl rfl ?_
    refine SL.v (op_pickT rfl rfl) <| SL.nil <| T.condT rfl <| T.seq <| T.region <| SL.v (op_assign (v := .int .i64 ((0 : Nat) : Int)) rfl) <| SL.nil <| T.retM1 [RdO b sv e] rfl (ResIs.tmp rfl) (List.Perm.refl _) ?_
    exact ⟨hX1, rfl, sv, rfl, h.mono hX1⟩
theorem rcount_spec {bs : List Nat} (h : CutR X sv bs) (hl : bs.length < 1000000) {most : Nat} (hm : most < 1000000000) : SpecM Tryz.prog 141 [.pointer (some ⟨b, 0, none⟩), .int .i64 (most : Int)] X [RdO b sv e] fun u L' X' => u = .int .i64 ((rdU 3 most e bs).1 : Int) ∧ ∃ sv', L' = [RdO b sv' (rdU 3 most e bs).2.1] ∧ CutR X' sv' (rdU 3 most e bs).2.2 := by
  refine SpecM.enter Tryz.func141 rfl Tryz.ntmps141 rfl ?_
  intro w0 X0 own0
  refine T.seq <| T.region <| SL.v (op_assign (v := .int .i64 ((0 : Nat) : Int)) rfl) <| SL.nil <| T.seq <| T.seq <| T.region <| SL.mv rfl <| SL.w (op_callM en135 (vs := [_]) rfl (rok_spec) rfl) ?_
  rintro _ _ X1 ⟨_, rfl, hX1, rfl, rfl⟩
  by_cases he : e = 0
  · subst he
    rw [decide_eq_true rfl]
    have h0 := h.mono hX1
    refine SL.v (op_not rfl) <| SL.mv rfl <| SL.mv rfl <| SL.mv rfl <| SL.v (op_lssF rfl rfl (by omega)) ?_
    refine SL.w (op_callM en136 (vs := [_, _, _]) rfl (rrefuse_spec false 1) rfl) ?_
    rintro _ _ Xa ⟨_, rfl, hXa, rfl, rfl⟩
    have h1 := h0.mono hXa
    refine SL.v (op_not rfl) <| SL.v (op_pickF rfl rfl) <| SL.nil <| T.condF rfl <| T.skip <| T.seq <| T.region <| SL.mv rfl <| SL.w (op_callM en180 (vs := [_]) rfl (rnumber_spec h1 hl) rfl) ?_
    rintro _ _ X2 ⟨_, rfl, hX2, rfl, rfl⟩
    have h2 := h1.mono hX2
    have hX02 := (hX1.trans' hXa).trans' hX2
    rw [rdU, if_neg (by simp)]
    have hlen := h2.len (k := (numR bs).2)
    have hnl := numR_lt bs
    generalize (numR bs).1 = v at *
    generalize hnn : (numR bs).2 = n at *
    by_cases hn0 : n = 0
    · rw [if_pos hn0]
      refine SL.mv rfl <| SL.v (op_extract rfl rfl) <| SL.v (op_extract rfl rfl) <| SL.as rfl <| SL.as rfl <| SL.nil <| T.seq <| T.seq <| T.region <| SL.mv rfl <| SL.mv rfl <| SL.v (op_eqlT rfl rfl (by omega)) ?_
      refine SL.w (op_callM en136 (vs := [_, _, _]) rfl (rrefuse_spec true 6) rfl) ?_
      rintro _ _ X3 ⟨_, rfl, hX3, rfl, rfl⟩
      refine SL.v (op_not rfl) <| SL.mv rfl <| SL.skip rfl rfl ?_
      refine SL.skip rfl rfl ?_
      refine SL.skip rfl rfl ?_
      refine SL.skip rfl rfl ?_
      refine SL.skip rfl rfl ?_
      refine SL.skip rfl rfl ?_
      refine SL.skip rfl rfl ?_
      refine SL.v (op_pickT rfl rfl) <| SL.nil <| T.condT rfl <| T.seq <| T.region <| SL.v (op_assign (v := .int .i64 ((0 : Nat) : Int)) rfl) <| SL.nil <| T.retM1 [RdO b sv 6] rfl (ResIs.tmp rfl) (List.Perm.refl _) ?_
      exact ⟨hX02.trans' hX3, rfl, sv, rfl, h2.mono hX3⟩
    · rw [if_neg hn0]
      refine SL.mv rfl <| SL.v (op_extract rfl rfl) <| SL.v (op_extract rfl rfl) <| SL.as rfl <| SL.as rfl <| SL.nil <| T.seq <| T.seq <| T.region <| SL.mv rfl <| SL.mv rfl <| SL.v (op_eqlF rfl rfl (by omega)) ?_
      refine SL.w (op_callM en136 (vs := [_, _, _]) rfl (rrefuse_spec false 6) rfl) ?_
      rintro _ _ X3 ⟨_, rfl, hX3, rfl, rfl⟩
      by_cases hv : most < v
      · rw [if_pos hv]
        refine SL.v (op_not rfl) <| SL.mv rfl <| SL.mv rfl <| SL.mv rfl <| SL.mv rfl <| SL.v (op_convU64 Tryz.underlying3 Tryz.underlying58 rfl (by omega) (by omega)) ?_
        refine SL.v (op_gtrT rfl rfl (by omega)) ?_
        refine SL.w (op_callM en136 (vs := [_, _, _]) rfl (rrefuse_spec true 3) rfl) ?_
        rintro _ _ X4 ⟨_, rfl, hX4, rfl, rfl⟩
        refine SL.v (op_not rfl) <| SL.v (op_pickF rfl rfl) <| SL.nil <| T.condT rfl <| T.seq <| T.region <| SL.v (op_assign (v := .int .i64 ((0 : Nat) : Int)) rfl) <| SL.nil <| T.retM1 [RdO b sv 3] rfl (ResIs.tmp rfl) (List.Perm.refl _) ?_
        exact ⟨(hX02.trans' hX3).trans' hX4, rfl, sv, rfl, (h2.mono hX3).mono hX4⟩
      · rw [if_neg hv]
        refine SL.v (op_not rfl) <| SL.mv rfl <| SL.mv rfl <| SL.mv rfl <| SL.mv rfl <| SL.v (op_convU64 Tryz.underlying3 Tryz.underlying58 rfl (by omega) (by omega)) ?_
        refine SL.v (op_gtrF rfl rfl (by omega)) ?_
        refine SL.w (op_callM en136 (vs := [_, _, _]) rfl (rrefuse_spec false 3) rfl) ?_
        rintro _ _ X4 ⟨_, rfl, hX4, rfl, rfl⟩
        refine SL.v (op_not rfl) <| SL.v (op_pickF rfl rfl) <| SL.nil <| T.condF rfl <| T.skip <| T.seq <| T.region <| SL.mv rfl <| SL.mv rfl <| SL.w (op_callM en137 (vs := [_, _]) rfl (rtake_spec ((h2.mono hX3).mono hX4) hl (hlen hn0 rfl h.2.2)) rfl) ?_
        rintro u5 _ X5 ⟨_, rfl, hX5, hu5, sv5, rfl, h5⟩
        refine SL.nil <| T.seq <| T.region <| SL.mv rfl <| SL.v (op_convI64 Tryz.underlying58 Tryz.underlying3 rfl (by omega) (by omega)) ?_
        refine SL.as rfl <| SL.nil <| T.retM1 [RdO b sv5 0] rfl (ResIs.tmp rfl) (List.Perm.refl _) ?_
        exact ⟨((hX02.trans' hX3).trans' hX4).trans' hX5, rfl, sv5, rfl, h5⟩
  · rw [decide_eq_false he, rdU_err he]
    refine SL.v (op_not rfl) <| SL.mv rfl <| SL.skip rfl rfl ?_
    refine SL.skip rfl rfl ?_
    refine SL.skip rfl rfl ?_
    refine SL.skip rfl rfl ?_
    refine SL.skip rfl rfl ?_
    refine SL.v (op_pickT rfl rfl) <| SL.nil <| T.condT rfl <| T.seq <| T.region <| SL.v (op_assign (v := .int .i64 ((0 : Nat) : Int)) rfl) <| SL.nil <| T.retM1 [RdO b sv e] rfl (ResIs.tmp rfl) (List.Perm.refl _) ?_
    exact ⟨hX1, rfl, sv, rfl, h.mono hX1⟩
/-- The end of the reading. -/
def endE (e : Int) (bs : List Nat) : Int := if e = 0 ∧ bs ≠ [] then 6 else e
theorem rend_spec {bs : List Nat} (h : CutR X sv bs) : SpecM Tryz.prog 92 [.pointer (some ⟨b, 0, none⟩)] X [RdO b sv e] fun u L' _ => u = .int .i64 (endE e bs) ∧ L' = [RdO b sv e] := by
  obtain ⟨h1, ⟨A, cp, rfl, hcp⟩, hb⟩ := h
  refine SpecM.enter Tryz.func92 rfl Tryz.ntmps92 rfl ?_
  intro w0 X0 own0
  refine T.seq <| T.region <| SL.v (op_assign (v := .int .i64 ((0 : Nat) : Int)) rfl) <| SL.nil <| T.seq <| T.seq <| T.region <| SL.mv rfl <| SL.w (op_callM en135 (vs := [_]) rfl (rok_spec) rfl) ?_
  rintro _ _ X1 ⟨_, rfl, hX1, rfl, rfl⟩
  by_cases he : e = 0
  · rw [decide_eq_true he]
    rcases Nat.eq_zero_or_pos bs.length with h0 | h0
    · skip
      refine SL.mv rfl <| SL.mv rfl <| SL.v (op_nil rfl) <| SL.v (op_fieldAddr fa222_0 rfl) <| SL.v (op_load ty44 rfl (by repeat constructor) rfl) ?_
      refine SL.v (op_lenS Tryz.underlying44 rfl) <| SL.v (op_gtrF rfl rfl (by omega)) ?_
      refine SL.v (op_pickT rfl rfl) <| SL.nil <| T.condF rfl <| T.skip <| T.seq <| T.region <| SL.mv rfl <| SL.w (op_callM en142 (vs := [_]) rfl (rerr_spec) rfl) ?_
      rintro _ _ X2 ⟨_, rfl, hX2, rfl, rfl⟩
      refine SL.as rfl <| SL.nil <| T.retM1 [RdO b (.slice A bs.length cp) e] rfl (ResIs.tmp rfl) (List.Perm.refl _) ?_
      exact ⟨hX1.trans' hX2, by rw [endE, if_neg (fun h => h.2 (List.eq_nil_of_length_eq_zero h0))], rfl⟩
    · skip
      refine SL.mv rfl <| SL.mv rfl <| SL.v (op_nil rfl) <| SL.v (op_fieldAddr fa222_0 rfl) <| SL.v (op_load ty44 rfl (by repeat constructor) rfl) ?_
      refine SL.v (op_lenS Tryz.underlying44 rfl) <| SL.v (op_gtrT rfl rfl (by omega)) ?_
      refine SL.v (op_pickT rfl rfl) <| SL.nil <| T.condT rfl <| T.seq <| T.region <| SL.v (op_assign (v := .int .i64 ((6 : Nat) : Int)) rfl) <| SL.nil <| T.retM1 [RdO b (.slice A bs.length cp) e] rfl (ResIs.tmp rfl) (List.Perm.refl _) ?_
      exact ⟨hX1, by rw [endE, if_pos ⟨he, fun h => by rw [h] at h0; simp at h0⟩]; rfl, rfl⟩
  · rw [decide_eq_false he]
    refine SL.mv rfl <| SL.skip rfl rfl ?_
    refine SL.skip rfl rfl ?_
    refine SL.skip rfl rfl ?_
    refine SL.skip rfl rfl ?_
    refine SL.skip rfl rfl ?_
    refine SL.skip rfl rfl ?_
    refine SL.v (op_pickF rfl rfl) <| SL.nil <| T.condF rfl <| T.skip <| T.seq <| T.region <| SL.mv rfl <| SL.w (op_callM en142 (vs := [_]) rfl (rerr_spec) rfl) ?_
    rintro _ _ X2 ⟨_, rfl, hX2, rfl, rfl⟩
    refine SL.as rfl <| SL.nil <| T.retM1 [RdO b (.slice A bs.length cp) e] rfl (ResIs.tmp rfl) (List.Perm.refl _) ?_
    exact ⟨hX1.trans' hX2, by rw [endE, if_neg (fun h => he h.1)], rfl⟩
end
theorem newR_spec {X : PMap} {v : Value} {bs : List Nat} (h : BytesR X v bs) (hl : bs.length < 1000000) (hb : ∀ b ∈ bs, b < 256) : SpecO Tryz.prog 87 [v] X fun u own1 X' => ∃ b sv, u = .pointer (some ⟨b, 0, none⟩) ∧ own1 = [RdO b sv 0] ∧ CutR X' sv bs := by
  obtain ⟨A, cp, rfl⟩ := h.form
  refine SpecO.enter Tryz.func87 rfl Tryz.ntmps87 rfl ?_
  intro w0 hw0
  refine T.seq <| T.region <| SL.as rfl <| SL.nil <| T.seq <| T.region <| SL.mv rfl <| SL.w (op_callO en134 (vs := [_]) rfl (bclone_spec h hl)) ?_
  rintro u _ X1 ⟨G, rfl, hX1, hG⟩
  refine SL.perm (own' := [] ++ G) (by simp) ?_
  refine T.pubGAt (own0 := []) hG ?_
  intro X2 hX2 hS
  obtain ⟨Au, cu, hu, hcu⟩ : ∃ A cp, u = .slice A bs.length cp ∧ bs.length ≤ cp := by
    rcases hG with ⟨h1, _, rfl, _⟩ | ⟨bg, cg, rfl, _, hcg, _⟩
    · rw [h1]; exact ⟨_, _, rfl, by omega⟩
    · exact ⟨_, _, rfl, hcg⟩
  subst hu
  refine SL.v (op_build st222 (qs := [(0, _)]) rfl rfl) <| SL.w (op_box rfl) ?_
  rintro _ _ _ ⟨B6, rfl, rfl, rfl⟩
  refine SL.as rfl <| SL.nil <| T.retO1 rfl (ResIs.tmp rfl) ?_
  exact ⟨B6, _, rfl, rfl, BytesR.ofS hS, ⟨_, _, rfl, hcu⟩, hb⟩
end Go.Proofs.YtnpcilglilfajaaGreatDoor
namespace Go.Proofs.YtnpcilglilfajaaGreatDoor
open Go.ChangeShapes Go.WideShapes Go.ChangeAt Go.RowKit Go.Joins Go.Deep
section
variable {H : Type} {enc : TypeId × Value → H} {W : World}
theorem okWide_struct {P : Program} {W : World} {base : Nat} {t : TypeId} {fs : Array Field} {v : Value} (ht : P.underlying t = some (.struct fs)) (h : Value.okWide P W .any base t v) : ∃ cs : Array Value, v = .agg cs ∧ cs.size = P.cellsOf t := by
  simp only [Value.okWide, ht] at h
  obtain ⟨cs, h1, h2, _⟩ := h
  exact ⟨cs, h1, h2⟩
theorem cells_spot : Tryz.prog.cellsOf 113 = 2 := by kernel_rfl
set_option maxRecDepth 100000 in
theorem open_spot {base : Nat} {v : Value} {d : DataW H} {p : List MemPlace} (hval : Value.okWide Tryz.prog W .any base 113 v) (h : DataW.Trod enc Tryz.prog W 0 (fun _ => true) true 113 v d p) : ∃ a b : Nat, v = .agg #[.int .u8 (a : Int), .int .u8 (b : Int)] ∧ a < 256 ∧ b < 256 :=
  (open_u8x2 Tryz.underlying113 Tryz.underlying5 cells5 cells_spot hval h).1
theorem u8_flat : ∀ bs : List Nat, (bs.map fun (b : Nat) => [Value.int .u8 (b : Int)]).flatten = bytesC bs
  | [] => rfl
  | b :: bs => by rw [List.map_cons, List.flatten_cons, u8_flat bs]; rfl
set_option maxRecDepth 100000 in
theorem u8_el {n : Nat} {cs : List Value} {y : DataW H × List MemPlace} (h : DataW.trod enc Tryz.prog W 0 (fun _ => true) true n 5 cs = some y) : ∃ b : Nat, cs = [.int .u8 (b : Int)] ∧ b < 256 := by
  obtain ⟨z, e, _, w⟩ := DataW.trod_int Tryz.underlying5 h
  obtain ⟨b, rfl, hb⟩ := u8_of w
  exact ⟨b, e, hb⟩
set_option maxRecDepth 100000 in
theorem open_bytes {base : Nat} {v : Value} {d : DataW H} {p : List MemPlace} (hval : Value.okWide Tryz.prog W .any base 44 v) (h : DataW.Trod enc Tryz.prog W 0 (fun _ => true) true 44 v d p) : ∃ bs, CutR (heapX W) v bs := by
  obtain ⟨rs, h1, h2⟩ := open_rows (rc := fun b : Nat => [.int .u8 (b : Int)]) (ok := fun b => b < 256) Tryz.underlying44 cells5 (by omega) (fun _ => rfl) (fun _ h => u8_el h) (okWide_slice Tryz.underlying44 hval) h
  have hw := okWide_slice Tryz.underlying44 hval
  rcases h2 with ⟨rfl, A, c, rfl⟩ | ⟨h0, b, c, pre, rfl, hB, hc, _⟩
  · exact ⟨[], .inl ⟨rfl, _, _, rfl⟩, ⟨_, _, rfl, by simp⟩, fun _ h => by cases h⟩
  · rw [u8_flat] at hB
    exact ⟨rs, .inr ⟨h0, b, c, pre, rfl, hB⟩, ⟨_, _, rfl, hc⟩, h1⟩
theorem cut_row {X : PMap} {c : Value} {rs : List Nat} (h1 : ∀ b ∈ rs, b < 256) (h2 : RowR (fun b : Nat => [Value.int .u8 (b : Int)]) X c rs) : CutR X c rs := by
  rcases h2 with ⟨rfl, A, c, rfl⟩ | ⟨h0, b, c, pre, rfl, hB, hc, _⟩
  · exact ⟨.inl ⟨rfl, _, _, rfl⟩, ⟨_, _, rfl, by simp⟩, fun _ h => by cases h⟩
  · rw [u8_flat] at hB
    exact ⟨.inr ⟨h0, b, c, pre, rfl, hB⟩, ⟨_, _, rfl, hc⟩, h1⟩
theorem rw18_cells : Tryz.prog.cellsOf 46 = 2 := by kernel_rfl
set_option maxRecDepth 100000 in
theorem rw18_el {n : Nat} {cs : List Value} {y : DataW H × List MemPlace} (hl : cs.length = 2) (h : DataW.trod enc Tryz.prog W 0 (fun _ => true) true n 46 cs = some y) : ∃ (w : Value) (bs : List Nat) (k : Nat), cs = [w, .int .u8 (k : Int)] ∧ CutR (heapX W) w bs ∧ k < 256 := by
  obtain ⟨xs, m, _, rfl, _, hlen, hf⟩ := DataW.trod_struct Tryz.underlying46 h
  match cs, hl with
  | [a, b], _ =>
    have f0 : DataW.trod enc Tryz.prog W 0 (fun _ => true) true m 44 (List.take (Tryz.prog.cellsOf 44) (List.drop 0 [a, b])) = xs[0]? := hf 0 _ rfl
    have f1 : DataW.trod enc Tryz.prog W 0 (fun _ => true) true m 5 (List.take (Tryz.prog.cellsOf 5) (List.drop 1 [a, b])) = xs[1]? := hf 1 _ rfl
    rw [cells5] at f1
    rw [show Tryz.prog.cellsOf 44 = 1 by kernel_rfl] at f0
    match xs, hlen with
    | [x0, x1], _ =>
      obtain ⟨zb, e1, _, w1⟩ := DataW.trod_int Tryz.underlying5 f1
      obtain ⟨nb, rfl, hb⟩ := u8_of w1
      obtain ⟨rs, hok, hr⟩ := open_field (rc := fun b : Nat => [.int .u8 (b : Int)]) (ok := fun b => b < 256) (c := a) Tryz.underlying44 cells5 (by omega) (fun _ => rfl) (fun _ h => u8_el h) f0
      simp at e1
      subst e1
      exact ⟨a, rs, nb, rfl, cut_row hok hr, hb⟩
theorem nm18_cells : Tryz.prog.cellsOf 96 = 4 := by kernel_rfl
set_option maxRecDepth 100000 in
theorem nm18_el {n : Nat} {cs : List Value} {y : DataW H × List MemPlace} (hl : cs.length = 4) (h : DataW.trod enc Tryz.prog W 0 (fun _ => true) true n 96 cs = some y) : ∃ (e : Bool) (m : Nat) (w : Value) (bs : List Nat) (k : Nat), cs = [.bool e, .int .u8 (m : Int), w, .int .u8 (k : Int)] ∧ CutR (heapX W) w bs ∧ m < 256 ∧ k < 256 := by
  obtain ⟨xs, m, _, rfl, _, hlen, hf⟩ := DataW.trod_struct Tryz.underlying96 h
  match cs, hl with
  | [a, b, c, d], _ =>
    have f0 : DataW.trod enc Tryz.prog W 0 (fun _ => true) true m 4 (List.take (Tryz.prog.cellsOf 4) (List.drop 0 [a, b, c, d])) = xs[0]? := hf 0 _ rfl
    have f1 : DataW.trod enc Tryz.prog W 0 (fun _ => true) true m 5 (List.take (Tryz.prog.cellsOf 5) (List.drop 1 [a, b, c, d])) = xs[1]? := hf 1 _ rfl
    have f2 : DataW.trod enc Tryz.prog W 0 (fun _ => true) true m 46 (List.take (Tryz.prog.cellsOf 46) (List.drop 2 [a, b, c, d])) = xs[2]? := hf 2 _ rfl
    rw [cells5] at f1
    rw [show Tryz.prog.cellsOf 4 = 1 by kernel_rfl] at f0
    rw [rw18_cells] at f2
    match xs, hlen with
    | [x0, x1, x2], _ =>
      obtain ⟨za, e0, _⟩ := DataW.trod_bool Tryz.underlying4 f0
      obtain ⟨zb, e1, _, w1⟩ := DataW.trod_int Tryz.underlying5 f1
      obtain ⟨nb, rfl, hb⟩ := u8_of w1
      obtain ⟨w, bs, k, e2, h1, h2⟩ := rw18_el rfl f2
      simp at e0 e1 e2
      obtain ⟨rfl, rfl⟩ := e2
      subst e0 e1
      exact ⟨za, nb, c, bs, k, rfl, h1, hb, h2⟩
set_option maxRecDepth 100000 in
theorem open_nm18 {base : Nat} {v : Value} {d : DataW H} {p : List MemPlace} (hval : Value.okWide Tryz.prog W .any base 96 v) (h : DataW.Trod enc Tryz.prog W 0 (fun _ => true) true 96 v d p) : ∃ (e : Bool) (m : Nat) (w : Value) (bs : List Nat) (k : Nat), v = .agg #[.bool e, .int .u8 (m : Int), w, .int .u8 (k : Int)] ∧ CutR (heapX W) w bs ∧ m < 256 ∧ k < 256 := by
  obtain ⟨cs, rfl, hsz⟩ := okWide_struct Tryz.underlying96 hval
  obtain ⟨fuel, hf⟩ := h
  obtain ⟨e, m, w, bs, k, hx, h1, h2, h3⟩ := nm18_el (cs := cs.toList) (by simp [hsz, nm18_cells]) (by simpa [Value.cells] using hf)
  refine ⟨e, m, w, bs, k, ?_, h1, h2, h3⟩
  congr 1
  apply Array.ext'
  exact hx
end
end Go.Proofs.YtnpcilglilfajaaGreatDoor
namespace Go.Proofs.YtnpcilglilfajaaGreatDoor
open Go.RowKit
theorem and127n {p : Nat} (h : p < 9223372036854775808) : bits .and .i64 (p : Int) 127 = ((p % 128 : Nat) : Int) := by
  have e : (BitVec.ofInt 64 (p : Int) &&& BitVec.ofInt 64 127).toNat = p % 128 := by
    rw [BitVec.toNat_and, BitVec.toNat_ofInt, BitVec.toNat_ofInt, show (127 : Int) % ((2 ^ 64 : Nat) : Int) = ((127 : Nat) : Int) from rfl, Int.toNat_natCast, show (p : Int) % ((2 ^ 64 : Nat) : Int) = (p : Int) by omega, Int.toNat_natCast, show (127 : Nat) = 2 ^ 7 - 1 from rfl, Nat.and_two_pow_sub_one_eq_mod]
  show IntKind.i64.wrap ((BitVec.ofInt 64 (p : Int) &&& BitVec.ofInt 64 127).toNat : Int) = _
  rw [e]
  exact wrap_i64_in (by omega) (by omega)
theorem ones_exact {X : PMap} {m : Nat} (hlt : m < 18446744073709551616) : Spec Tryz.prog 70 [.int .u64 (m : Int)] X fun u _ => u = .int .i64 (cntB 64 m : Int) := by
  obtain ⟨a, b, c, e1, ha, e2, hb, hb2, e3, hc1, hc2, hc3, hfin, hle⟩ := swar hlt
  have hc0 : c < 18446744073709551616 := by omega
  refine Spec.enter Tryz.func70 rfl Tryz.ntmps70 rfl ?_
  intro w0 hw0
  refine T.seq <| T.region <| SL.v (op_assign (v := .int .i64 ((0 : Nat) : Int)) rfl) <| SL.nil <| T.seq <| T.region <| SL.mv rfl <| SL.v (op_shrN (q := 1) rfl rfl (by omega)) ?_
  refine SL.v (op_and (q := 6148914691236517205) rfl rfl (Nat.lt_of_le_of_lt (Nat.shiftRight_le ..) hlt) (by decide)) ?_
  refine SL.mv rfl <| SL.v (op_and (q := 6148914691236517205) rfl rfl hlt (by decide)) ?_
  refine SL.v (op_addU rfl rfl (by rw [e1]; exact ha)) ?_
  rw [e1]
  refine SL.as rfl <| SL.nil <| T.seq <| T.region <| SL.mv rfl <| SL.v (op_shrN (q := 2) rfl rfl (by omega)) ?_
  refine SL.v (op_and (q := 3689348814741910323) rfl rfl (Nat.lt_of_le_of_lt (Nat.shiftRight_le ..) ha) (by decide)) ?_
  refine SL.mv rfl <| SL.v (op_and (q := 3689348814741910323) rfl rfl ha (by decide)) ?_
  refine SL.v (op_addU rfl rfl (by rw [e2]; exact hb)) ?_
  rw [e2]
  refine SL.as rfl <| SL.nil <| T.seq <| T.region <| SL.mv rfl <| SL.v (op_shrN (q := 4) rfl rfl (by omega)) ?_
  refine SL.mv rfl <| SL.v (op_addU rfl rfl hb2) <| SL.v (op_and (q := 1085102592571150095) rfl rfl hb2 (by decide)) ?_
  rw [e3]
  refine SL.as rfl <| SL.nil <| T.seq <| T.region <| SL.mv rfl <| SL.mv rfl <| SL.v (op_shrN (q := 8) rfl rfl (by omega)) ?_
  refine SL.v (op_addU rfl rfl hc1) <| SL.as rfl <| SL.nil <| T.seq <| T.region <| SL.mv rfl <| SL.mv rfl <| SL.v (op_shrN (q := 16) rfl rfl (by omega)) ?_
  refine SL.v (op_addU rfl rfl hc2) <| SL.as rfl <| SL.nil <| T.seq <| T.region <| SL.mv rfl <| SL.mv rfl <| SL.v (op_shrN (q := 32) rfl rfl (by omega)) ?_
  refine SL.v (op_addU rfl rfl (by omega)) ?_
  generalize ((c + c >>> 8) + (c + c >>> 8) >>> 16) + ((c + c >>> 8) + (c + c >>> 8) >>> 16) >>> 32 = f at *
  refine SL.as rfl <| SL.nil <| T.seq <| T.region <| SL.mv rfl <| SL.v (op_convI64 Tryz.underlying58 Tryz.underlying3 rfl (by omega) (by omega)) ?_
  refine SL.v (op_bits (op := .and) rfl rfl (by simp) (and127n hc3)) ?_
  refine SL.as rfl <| SL.nil <| T.ret1 rfl (ResIs.tmp rfl) ?_
  rw [hfin]
theorem len_exact {X : PMap} {v : Value} {m : Nat} (h : SetR X v m) : Spec Tryz.prog 22 [v] X fun u _ => u = .int .i64 ((mem64 m).length : Int) := by
  have hcnt : ∀ m, (mem64 m).length = cntB 64 m := fun m => by rw [mem64, cntB, List.countP_eq_length_filter]
  rcases h with ⟨rfl, A, c, rfl⟩ | ⟨_, h1, b, c, rest, rfl, hB⟩
  · refine Spec.enter Tryz.func22 rfl Tryz.ntmps22 rfl ?_
    intro w0 hw0
    refine T.seq <| T.region <| SL.w (op_box rfl) ?_
    rintro _ _ _ ⟨B1, rfl, rfl, rfl⟩
    refine SL.v (op_assign (v := .int .i64 ((0 : Nat) : Int)) rfl) <| SL.nil <| T.seq <| T.region <| SL.v (op_assign (v := .int .i64 ((0 : Nat) : Int)) rfl) <| SL.nil <| T.seq <| T.seq <| T.region <| SL.v (op_fieldAddr fa53_0 rfl) <| SL.v (op_load ty51 rfl (by repeat constructor) rfl) ?_
    refine SL.v (op_lenS Tryz.underlying51 rfl) <| SL.v (op_move (v := .int .i64 ((0 : Nat) : Int)) rfl) <| SL.nil <| T.block <| T.unrollStart 1 ?_
    refine T.unroll ?_
    refine T.seq <| T.region <| SL.v (op_lssF rfl rfl (by omega)) ?_
    refine SL.nil <| T.seq <| T.condF rfl ?_
    refine T.exit (T.exitCode (T.exitMore (T.exitBlk ?_)))
    refine T.seq <| T.region <| SL.mv rfl <| SL.as rfl <| SL.nil <| T.ret1 rfl (ResIs.tmp rfl) ?_
    rw [mem64_zero]
    rfl
  · have hle := cnt_le m
    refine Spec.enter Tryz.func22 rfl Tryz.ntmps22 rfl ?_
    intro w0 hw0
    refine T.seq <| T.region <| SL.w (op_box rfl) ?_
    rintro _ _ _ ⟨B1, rfl, rfl, rfl⟩
    refine SL.v (op_assign (v := .int .i64 ((0 : Nat) : Int)) rfl) <| SL.nil <| T.seq <| T.region <| SL.v (op_assign (v := .int .i64 ((0 : Nat) : Int)) rfl) <| SL.nil <| T.seq <| T.seq <| T.region <| SL.v (op_fieldAddr fa53_0 rfl) <| SL.v (op_load ty51 rfl (by repeat constructor) rfl) ?_
    refine SL.v (op_lenS Tryz.underlying51 rfl) <| SL.v (op_move (v := .int .i64 ((0 : Nat) : Int)) rfl) <| SL.nil <| T.block <| T.unrollStart 2 ?_
    refine T.unroll ?_
    refine T.seq <| T.region <| SL.v (op_lssT rfl rfl (by omega)) ?_
    refine SL.nil <| T.seq <| T.condT rfl <| T.skip <| T.seq <| T.block <| T.seq <| T.region <| SL.v (op_indexN Tryz.underlying51 ty58 rfl rfl (by omega)) ?_
    refine SL.v (op_loadX ty58 rfl (by assumption) rfl) ?_
    refine SL.as rfl <| SL.nil <| T.region <| SL.mv rfl <| SL.mv rfl <| SL.w (op_callF en70 (vs := [_]) rfl (ones_exact h1)) ?_
    rintro _ _ X1 ⟨rfl, hX1, rfl⟩
    refine SL.v (op_addN rfl rfl (by omega)) ?_
    refine SL.as rfl <| SL.nil <| T.blk <| T.region <| SL.v (op_addN (q := 1) rfl rfl (by omega)) ?_
    refine SL.mv rfl <| SL.nil <| T.unroll ?_
    refine T.seq <| T.region <| SL.v (op_lssF rfl rfl (by omega)) ?_
    refine SL.nil <| T.seq <| T.condF rfl ?_
    refine T.exit (T.exitCode (T.exitMore (T.exitBlk ?_)))
    refine T.seq <| T.region <| SL.mv rfl <| SL.as rfl <| SL.nil <| T.ret1 rfl (ResIs.tmp rfl) ?_
    rw [hcnt, Nat.zero_add]
end Go.Proofs.YtnpcilglilfajaaGreatDoor
namespace Go.Proofs.YtnpcilglilfajaaGreatDoor
section
set_option maxRecDepth 100000
theorem en112 : Enters Tryz.prog 112 := enters_mk Tryz.func112 (by kernel_rfl) rfl
theorem fa36_3 : FAdr Tryz.prog 36 3 3 := fadr_mk Tryz.underlying36 rfl rfl (by kernel_rfl)
theorem ty34 : Ty Tryz.prog 34 false 1 := ⟨⟨_, Tryz.underlying34, rfl⟩, by kernel_rfl⟩
theorem ty36 : Ty Tryz.prog 36 true 4 := ⟨⟨_, Tryz.underlying36, rfl⟩, by kernel_rfl⟩
theorem z36 : Zero Tryz.prog 36 [.int .u8 0, .int .i64 0, .slice none 0 0, .slice none 0 0] := ⟨zero_of (by kernel_rfl)⟩
end
open Go.RowKit
/-- A slice of small numbers. -/
def IntsR (X : PMap) (v : Value) (rs : List Nat) : Prop := SliceR X v rs.length (ints rs) ∧ ∃ A c, v = .slice A rs.length c ∧ rs.length ≤ c
theorem IntsR.mono {X X' : PMap} {v : Value} {rs : List Nat} (h : IntsR X v rs) (hX : X.le X') : IntsR X' v rs := ⟨h.1.mono hX, h.2⟩
theorem IntsR.form {X : PMap} {v : Value} {rs : List Nat} (h : IntsR X v rs) : ∃ A c, v = .slice A rs.length c := by
  obtain ⟨_, A, c, hv, _⟩ := h
  exact ⟨A, c, hv⟩
theorem IntsR.cap {X : PMap} {A : Option Addr} {l c : Nat} {rs : List Nat} (h : IntsR X (.slice A l c) rs) : rs.length ≤ c := by
  obtain ⟨_, A', c', hv, hc⟩ := h
  cases hv
  exact hc
theorem IntsR.blk {X : PMap} {A : Option Addr} {c : Nat} {rs : List Nat} (h : IntsR X (.slice A rs.length c) rs) (h0 : 0 < rs.length) : ∃ b, A = some ⟨b, 0, none⟩ ∧ Blk X b (ints rs) := SliceR.blk h.1 h0
theorem IntsR.nil {X : PMap} {A : Option Addr} {c : Nat} : IntsR X (.slice A 0 c) [] := ⟨.inl ⟨rfl, rfl, _, _, rfl⟩, _, _, rfl, Nat.zero_le _⟩
theorem IntsR.ofG {X : PMap} {e : TypeId} {v : Value} {rs : List Nat} {G : Own} (hg : GrowS e 1 v rs.length (ints rs) G) (h : SliceR X v rs.length (ints rs)) : IntsR X v rs := by
  refine ⟨h, ?_⟩
  rcases hg with ⟨h0, _, hv, _⟩ | ⟨b, cap, hv, _, h2, _⟩
  · exact ⟨_, _, by rw [hv, h0], by omega⟩
  · exact ⟨_, _, hv, h2⟩
/-- The four fields of a formula whose operator is of kind k. -/
inductive FmR (k : IntKind) (X : PMap) : Fm → Row4 → Prop
  | mk {op : Nat} {n : Int} {rs : List Nat} {al : List Fm} {vn va : Value} {rows : List Row4} (hn : IntsR X vn rs) (ha : RowR rc4 X va rows) (hl : rows.length = al.length)
      (hr : ∀ (i : Nat) (a : Fm) (r : Row4), al[i]? = some a → rows[i]? = some r → FmR k X a r) : FmR k X (.mk op n rs al) (.int k (op : Int), .int .i64 n, vn, va)
theorem FmR.mono {k : IntKind} {X X' : PMap} {e : Fm} {r : Row4} (h : FmR k X e r) (hX : X.le X') : FmR k X' e r := by
  induction h with
  | mk hn ha hl hr ih => exact .mk (hn.mono hX) (ha.mono hX) hl ih
theorem FmR.form {k : IntKind} {X : PMap} {e : Fm} {r : Row4} (h : FmR k X e r) : ∃ (o : Nat) (n : Int) (A B : Option Addr) (l c l' c' : Nat), r = (.int k (o : Int), .int .i64 n, .slice A l c, .slice B l' c') := by
  cases h with
  | mk hn ha hl hr =>
    obtain ⟨A, c, rfl⟩ := hn.form
    obtain ⟨B, c', rfl⟩ := ha.form
    exact ⟨_, _, _, _, _, _, _, _, rfl⟩
theorem FmR.op {k : IntKind} {X : PMap} {e : Fm} {r : Row4} (h : FmR k X e r) : r.1 = .int k (e.op : Int) := by
  cases h; rfl
theorem fmeas_spec (N : Nat) : ∀ {X : PMap} {e : Fm} {r : Row4}, wtF e ≤ N → N < 4000000000000 → FmR .u8 X e r → Spec Tryz.prog 112 [.agg #[r.1, r.2.1, r.2.2.1, r.2.2.2]] X fun u _ => u = .tuple #[.int .i64 (depF e : Int), .int .i64 (sizF e : Int)] := by
  induction N with
  | zero => intro X e r h; have := wtF_pos e; omega
  | succ N ih =>
    intro X e r hN hB h
    cases h with
    | @mk op n rs al vn va rows hn ha hl hr =>
    obtain ⟨Aa, ca, rfl⟩ := ha.form
    have hlen := wtFL_len al
    rw [wtF] at hN
    refine Spec.enter Tryz.func112 rfl Tryz.ntmps112 rfl ?_
    intro w0 hw0
    refine T.seq <| T.region <| SL.w (op_box rfl) ?_
    rintro _ _ _ ⟨B1, rfl, rfl, rfl⟩
    refine SL.v (op_assign (v := .int .i64 ((0 : Nat) : Int)) rfl) <| SL.v (op_assign (v := .int .i64 ((0 : Nat) : Int)) rfl) <| SL.nil <| T.seq <| T.seq <| T.region <| SL.v (op_fieldAddr fa36_3 rfl) <| SL.v (op_load ty34 rfl (by repeat constructor) rfl) ?_
    refine SL.v (op_lenS Tryz.underlying34 rfl) <| SL.v (op_move (v := .int .i64 ((0 : Nat) : Int)) rfl) <| SL.nil <| T.block <| T.drop B1 (by repeat constructor) ?_
    refine T.loopW (fun m env own X' => ∃ i : Nat, m = rows.length - i ∧ i ≤ rows.length ∧ X.le X' ∧ env = [(2, .int .i64 (depFL (al.take i) : Int)), (3, .int .i64 (sizFL (al.take i) : Int)), (9, .slice Aa rows.length ca), (10, .int .i64 (rows.length : Int)), (11, .int .i64 (i : Int))] ∧ own = []) rows.length ⟨0, by simp, by omega, PMap.le_refl _, rfl, rfl⟩ (by repeat (first | exact Sub.nil | refine Sub.cons rfl ?_)) ?_
    rintro m _ _ X1 ⟨i, rfl, hi, hX1, rfl, rfl⟩
    rcases Nat.lt_or_ge i rows.length with hil | hil
    · obtain ⟨r2, hr2⟩ : ∃ r2, rows[i]? = some r2 := ⟨_, List.getElem?_eq_getElem hil⟩
      obtain ⟨a, ha2⟩ : ∃ a, al[i]? = some a := ⟨_, List.getElem?_eq_getElem (by omega)⟩
      have hra := hr i a r2 ha2 hr2
      obtain ⟨bA, pre, rfl, hbA⟩ := ha.blk (by omega)
      obtain ⟨_, _, _, _, _, _, _, _, rfl⟩ := hra.form
      have hwa := wtFL_mem (List.mem_of_getElem? ha2)
      have hts := take_snoc ha2
      have hw1 : wtFL (al.take (i + 1)) ≤ wtFL al := by
        have := wtFL_app (al.drop (i + 1)) (al.take (i + 1))
        rw [List.take_append_drop] at this; omega
      have hw2 : wtFL (al.take (i + 1)) = wtFL (al.take i) + wtF a := by rw [hts, wtFL_snoc]
      have q1 := siz_wtFL (al.take i)
      have q2 := siz_wtF a
      have q3 := dep_wtFL (al.take i)
      have q4 := dep_wtF a
      refine T.seq <| T.region <| SL.v (op_lssT rfl rfl (by omega)) ?_
      refine SL.nil <| T.seq <| T.condT rfl <| T.skip <| T.seq <| T.block <| T.seq <| T.region <| SL.v (op_indexN Tryz.underlying34 ty36 rfl rfl (by omega)) ?_
      refine SL.v (op_loadX ty36 rfl (hbA.mono hX1) (row_read rc4_len hr2 (by omega))) ?_
      refine SL.w (op_alloc z36) ?_
      rintro _ _ _ ⟨B5, rfl, rfl, rfl⟩
      refine SL.w (op_store ty36 rfl rfl (by repeat constructor) rfl rfl rfl) ?_
      rintro _ _ _ ⟨rfl, rfl⟩
      refine SL.nil <| T.seq <| T.region <| SL.v (op_load ty36 rfl (by repeat constructor) rfl) ?_
      refine SL.w (op_callF en112 (vs := [_]) rfl (ih (by omega) (by omega) (hra.mono hX1))) ?_
      rintro _ _ X2 ⟨rfl, hX2, rfl⟩
      refine SL.mv rfl <| SL.v (op_extract rfl rfl) <| SL.v (op_extract rfl rfl) <| SL.as rfl <| SL.as rfl <| SL.nil <| T.region <| SL.mv rfl <| SL.mv rfl <| SL.v (op_maxN rfl rfl) ?_
      rw [show max (depFL (al.take i)) (depF a) = depFL (al.take (i + 1)) by rw [hts, depFL_snoc]]
      refine SL.mv rfl <| SL.mv rfl <| SL.v (op_addN (p := sizFL (al.take i)) (q := sizF a) rfl rfl (by omega)) ?_
      rw [show sizFL (al.take i) + sizF a = sizFL (al.take (i + 1)) by rw [hts, sizFL_snoc]]
      refine SL.as rfl <| SL.as rfl <| SL.nil <| T.blk <| T.region <| SL.v (op_addN (q := 1) rfl rfl (by omega)) ?_
      refine SL.mv rfl <| SL.nil <| T.drop B5 (by repeat constructor) ?_
      exact T.backW (rows.length - (i + 1)) (by omega) ⟨i + 1, rfl, by omega, hX1.trans' hX2, rfl, rfl⟩ (by repeat (first | exact Sub.nil | refine Sub.cons rfl ?_))
    · obtain rfl : i = rows.length := by omega
      rw [show al.take rows.length = al from List.take_of_length_le (by omega)]
      have q1 := siz_wtFL al
      have q3 := dep_wtFL al
      refine T.seq <| T.region <| SL.v (op_lssF rfl rfl (by omega)) ?_
      refine SL.nil <| T.seq <| T.condF rfl ?_
      refine T.exit (T.exitCode (T.exitCut (T.exitBlk ?_)))
      refine T.seq <| T.region <| SL.mv rfl <| SL.v (op_addN (q := 1) rfl rfl (by omega)) ?_
      refine SL.mv rfl <| SL.v (op_addN (q := 1) rfl rfl (by omega)) ?_
      refine SL.as rfl <| SL.as rfl <| SL.nil <| T.ret2 rfl (ResIs.tmp rfl) (ResIs.tmp rfl) ?_
      rw [depF, sizF]
end Go.Proofs.YtnpcilglilfajaaGreatDoor
namespace Go.Proofs.YtnpcilglilfajaaGreatDoor
section
set_option maxRecDepth 100000
theorem en190 : Enters Tryz.prog 190 := enters_mk Tryz.func190 (by kernel_rfl) rfl
theorem fa36_0 : FAdr Tryz.prog 36 0 0 := fadr_mk Tryz.underlying36 rfl rfl (by kernel_rfl)
theorem fa36_1 : FAdr Tryz.prog 36 1 1 := fadr_mk Tryz.underlying36 rfl rfl (by kernel_rfl)
theorem fa36_2 : FAdr Tryz.prog 36 2 2 := fadr_mk Tryz.underlying36 rfl rfl (by kernel_rfl)
end
open Go.RowKit
theorem arity_spec {X : PMap} {op : Nat} : Spec Tryz.prog 190 [.int .u8 (op : Int)] X fun u _ => u = .tuple #[.int .i64 (argF op : Int), .int .i64 (leaF op : Int), .int .i64 (mosF op : Int)] := by
  unfold argF leaF mosF
  by_cases c8 : 8 ≤ op
  · rw [if_neg (by omega), if_neg (by omega), if_neg (by omega), if_neg (by omega), if_neg (by omega)]
    refine Spec.enter Tryz.func190 rfl Tryz.ntmps190 rfl ?_
    intro w0 hw0
    refine T.seq <| T.region <| SL.v (op_assign (v := .int .i64 ((0 : Nat) : Int)) rfl) <| SL.v (op_assign (v := .int .i64 ((0 : Nat) : Int)) rfl) <| SL.v (op_assign (v := .int .i64 ((0 : Nat) : Int)) rfl) <| SL.nil <| T.seq <| T.block <| T.seq <| T.region <| SL.mv rfl <| SL.v (op_geqT rfl rfl (by omega)) ?_
    refine SL.as rfl <| SL.nil <| T.condT rfl <| T.seq <| T.region <| SL.v (op_assign (v := .int .i64 ((2 : Nat) : Int)) rfl) <| SL.v (op_assign (v := .int .i64 ((0 : Nat) : Int)) rfl) <| SL.v (op_assign (v := .int .i64 ((0 : Nat) : Int)) rfl) <| SL.nil <| T.ret3 rfl rfl rfl rfl ?_
    rfl
  by_cases c7 : op = 7
  · rw [if_neg (by omega), if_pos c7, if_neg (by omega), if_neg (by omega), if_neg (by omega)]
    refine Spec.enter Tryz.func190 rfl Tryz.ntmps190 rfl ?_
    intro w0 hw0
    refine T.seq <| T.region <| SL.v (op_assign (v := .int .i64 ((0 : Nat) : Int)) rfl) <| SL.v (op_assign (v := .int .i64 ((0 : Nat) : Int)) rfl) <| SL.v (op_assign (v := .int .i64 ((0 : Nat) : Int)) rfl) <| SL.nil <| T.seq <| T.block <| T.seq <| T.region <| SL.mv rfl <| SL.v (op_geqF rfl rfl (by omega)) ?_
    refine SL.as rfl <| SL.nil <| T.condF rfl <| T.seq <| T.region <| SL.mv rfl <| SL.v (op_eqlT rfl rfl (by omega)) ?_
    refine SL.as rfl <| SL.nil <| T.condT rfl <| T.seq <| T.region <| SL.v (op_assign (v := .int .i64 ((1 : Nat) : Int)) rfl) <| SL.v (op_assign (v := .int .i64 ((0 : Nat) : Int)) rfl) <| SL.v (op_assign (v := .int .i64 ((0 : Nat) : Int)) rfl) <| SL.nil <| T.ret3 rfl rfl rfl rfl ?_
    rfl
  rw [if_pos (by omega)]
  by_cases c4 : op = 4
  · rw [if_pos (by omega), if_pos (by omega)]
    refine Spec.enter Tryz.func190 rfl Tryz.ntmps190 rfl ?_
    intro w0 hw0
    refine T.seq <| T.region <| SL.v (op_assign (v := .int .i64 ((0 : Nat) : Int)) rfl) <| SL.v (op_assign (v := .int .i64 ((0 : Nat) : Int)) rfl) <| SL.v (op_assign (v := .int .i64 ((0 : Nat) : Int)) rfl) <| SL.nil <| T.seq <| T.block <| T.seq <| T.region <| SL.mv rfl <| SL.v (op_geqF rfl rfl (by omega)) ?_
    refine SL.as rfl <| SL.nil <| T.condF rfl <| T.seq <| T.region <| SL.mv rfl <| SL.v (op_eqlF rfl rfl (by omega)) ?_
    refine SL.as rfl <| SL.nil <| T.condF rfl <| T.seq <| T.region <| SL.mv rfl <| SL.v (op_eqlT rfl rfl (by omega)) ?_
    refine SL.mv rfl <| SL.skip rfl rfl ?_
    refine SL.skip rfl rfl ?_
    refine SL.v (op_pickT rfl rfl) <| SL.as rfl <| SL.nil <| T.condT rfl <| T.seq <| T.region <| SL.v (op_assign (v := .int .i64 ((0 : Nat) : Int)) rfl) <| SL.v (op_assign (v := .int .i64 ((1 : Nat) : Int)) rfl) <| SL.v (op_assign (v := .int .i64 ((1 : Nat) : Int)) rfl) <| SL.nil <| T.ret3 rfl rfl rfl rfl ?_
    rfl
  by_cases c6 : op = 6
  · rw [if_pos (by omega), if_pos (by omega)]
    refine Spec.enter Tryz.func190 rfl Tryz.ntmps190 rfl ?_
    intro w0 hw0
    refine T.seq <| T.region <| SL.v (op_assign (v := .int .i64 ((0 : Nat) : Int)) rfl) <| SL.v (op_assign (v := .int .i64 ((0 : Nat) : Int)) rfl) <| SL.v (op_assign (v := .int .i64 ((0 : Nat) : Int)) rfl) <| SL.nil <| T.seq <| T.block <| T.seq <| T.region <| SL.mv rfl <| SL.v (op_geqF rfl rfl (by omega)) ?_
    refine SL.as rfl <| SL.nil <| T.condF rfl <| T.seq <| T.region <| SL.mv rfl <| SL.v (op_eqlF rfl rfl (by omega)) ?_
    refine SL.as rfl <| SL.nil <| T.condF rfl <| T.seq <| T.region <| SL.mv rfl <| SL.v (op_eqlF rfl rfl (by omega)) ?_
    refine SL.mv rfl <| SL.mv rfl <| SL.v (op_eqlT rfl rfl (by omega)) ?_
    refine SL.v (op_pickF rfl rfl) <| SL.as rfl <| SL.nil <| T.condT rfl <| T.seq <| T.region <| SL.v (op_assign (v := .int .i64 ((0 : Nat) : Int)) rfl) <| SL.v (op_assign (v := .int .i64 ((1 : Nat) : Int)) rfl) <| SL.v (op_assign (v := .int .i64 ((1 : Nat) : Int)) rfl) <| SL.nil <| T.ret3 rfl rfl rfl rfl ?_
    rfl
  by_cases c5 : op = 5
  · rw [if_pos (by omega), if_neg (by omega), if_pos c5]
    refine Spec.enter Tryz.func190 rfl Tryz.ntmps190 rfl ?_
    intro w0 hw0
    refine T.seq <| T.region <| SL.v (op_assign (v := .int .i64 ((0 : Nat) : Int)) rfl) <| SL.v (op_assign (v := .int .i64 ((0 : Nat) : Int)) rfl) <| SL.v (op_assign (v := .int .i64 ((0 : Nat) : Int)) rfl) <| SL.nil <| T.seq <| T.block <| T.seq <| T.region <| SL.mv rfl <| SL.v (op_geqF rfl rfl (by omega)) ?_
    refine SL.as rfl <| SL.nil <| T.condF rfl <| T.seq <| T.region <| SL.mv rfl <| SL.v (op_eqlF rfl rfl (by omega)) ?_
    refine SL.as rfl <| SL.nil <| T.condF rfl <| T.seq <| T.region <| SL.mv rfl <| SL.v (op_eqlF rfl rfl (by omega)) ?_
    refine SL.mv rfl <| SL.mv rfl <| SL.v (op_eqlF rfl rfl (by omega)) ?_
    refine SL.v (op_pickF rfl rfl) <| SL.as rfl <| SL.nil <| T.condF rfl <| T.seq <| T.region <| SL.mv rfl <| SL.v (op_eqlT rfl rfl (by omega)) ?_
    refine SL.as rfl <| SL.nil <| T.condT rfl <| T.seq <| T.region <| SL.v (op_assign (v := .int .i64 ((0 : Nat) : Int)) rfl) <| SL.v (op_assign (v := .int .i64 ((1 : Nat) : Int)) rfl) <| SL.v (op_assign (v := .int .i64 ((8 : Nat) : Int)) rfl) <| SL.nil <| T.ret3 rfl rfl rfl rfl ?_
    rfl
  rw [if_neg (by omega), if_neg (by omega), if_neg c5]
  refine Spec.enter Tryz.func190 rfl Tryz.ntmps190 rfl ?_
  intro w0 hw0
  refine T.seq <| T.region <| SL.v (op_assign (v := .int .i64 ((0 : Nat) : Int)) rfl) <| SL.v (op_assign (v := .int .i64 ((0 : Nat) : Int)) rfl) <| SL.v (op_assign (v := .int .i64 ((0 : Nat) : Int)) rfl) <| SL.nil <| T.seq <| T.block <| T.seq <| T.region <| SL.mv rfl <| SL.v (op_geqF rfl rfl (by omega)) ?_
  refine SL.as rfl <| SL.nil <| T.condF rfl <| T.seq <| T.region <| SL.mv rfl <| SL.v (op_eqlF rfl rfl (by omega)) ?_
  refine SL.as rfl <| SL.nil <| T.condF rfl <| T.seq <| T.region <| SL.mv rfl <| SL.v (op_eqlF rfl rfl (by omega)) ?_
  refine SL.mv rfl <| SL.mv rfl <| SL.v (op_eqlF rfl rfl (by omega)) ?_
  refine SL.v (op_pickF rfl rfl) <| SL.as rfl <| SL.nil <| T.condF rfl <| T.seq <| T.region <| SL.mv rfl <| SL.v (op_eqlF rfl rfl (by omega)) ?_
  refine SL.as rfl <| SL.nil <| T.condF rfl <| T.skip <| T.blk <| T.seq <| T.region <| SL.v (op_assign (v := .int .i64 ((0 : Nat) : Int)) rfl) <| SL.v (op_assign (v := .int .i64 ((0 : Nat) : Int)) rfl) <| SL.v (op_assign (v := .int .i64 ((0 : Nat) : Int)) rfl) <| SL.nil <| T.ret3 rfl rfl rfl rfl ?_
  rfl
theorem result_spec {X : PMap} {op : Nat} : Spec Tryz.prog 61 [.int .u8 (op : Int)] X fun u _ => u = .int .u8 (resT op : Int) := by
  unfold resT
  by_cases c1 : op = 1
  · rw [if_pos (by omega)]
    refine Spec.enter Tryz.func61 rfl Tryz.ntmps61 rfl ?_
    intro w0 hw0
    refine T.seq <| T.region <| SL.v (op_assign (v := .int .u8 ((0 : Nat) : Int)) rfl) <| SL.nil <| T.seq <| T.seq <| T.region <| SL.mv rfl <| SL.nil <| T.block <| T.seq <| T.seq <| T.region <| SL.v (op_eqlT rfl rfl (by omega)) ?_
    refine SL.as rfl <| SL.nil <| T.condT rfl <| T.skip <| T.condT rfl <| T.seq <| T.region <| SL.v (op_assign (v := .int .u8 ((2 : Nat) : Int)) rfl) <| SL.nil <| T.ret1 rfl (ResIs.tmp rfl) ?_
    rfl
  by_cases c5 : op = 5
  · rw [if_pos (by omega)]
    refine Spec.enter Tryz.func61 rfl Tryz.ntmps61 rfl ?_
    intro w0 hw0
    refine T.seq <| T.region <| SL.v (op_assign (v := .int .u8 ((0 : Nat) : Int)) rfl) <| SL.nil <| T.seq <| T.seq <| T.region <| SL.mv rfl <| SL.nil <| T.block <| T.seq <| T.seq <| T.region <| SL.v (op_eqlF rfl rfl (by omega)) ?_
    refine SL.as rfl <| SL.nil <| T.condF rfl <| T.seq <| T.region <| SL.v (op_eqlT rfl rfl (by omega)) ?_
    refine SL.as rfl <| SL.nil <| T.condT rfl <| T.skip <| T.condT rfl <| T.seq <| T.region <| SL.v (op_assign (v := .int .u8 ((2 : Nat) : Int)) rfl) <| SL.nil <| T.ret1 rfl (ResIs.tmp rfl) ?_
    rfl
  by_cases c6 : op = 6
  · rw [if_pos (by omega)]
    refine Spec.enter Tryz.func61 rfl Tryz.ntmps61 rfl ?_
    intro w0 hw0
    refine T.seq <| T.region <| SL.v (op_assign (v := .int .u8 ((0 : Nat) : Int)) rfl) <| SL.nil <| T.seq <| T.seq <| T.region <| SL.mv rfl <| SL.nil <| T.block <| T.seq <| T.seq <| T.region <| SL.v (op_eqlF rfl rfl (by omega)) ?_
    refine SL.as rfl <| SL.nil <| T.condF rfl <| T.seq <| T.region <| SL.v (op_eqlF rfl rfl (by omega)) ?_
    refine SL.as rfl <| SL.nil <| T.condF rfl <| T.seq <| T.region <| SL.v (op_eqlT rfl rfl (by omega)) ?_
    refine SL.as rfl <| SL.nil <| T.condT rfl <| T.skip <| T.condT rfl <| T.seq <| T.region <| SL.v (op_assign (v := .int .u8 ((2 : Nat) : Int)) rfl) <| SL.nil <| T.ret1 rfl (ResIs.tmp rfl) ?_
    rfl
  by_cases c16 : op = 16
  · rw [if_pos (by omega)]
    refine Spec.enter Tryz.func61 rfl Tryz.ntmps61 rfl ?_
    intro w0 hw0
    refine T.seq <| T.region <| SL.v (op_assign (v := .int .u8 ((0 : Nat) : Int)) rfl) <| SL.nil <| T.seq <| T.seq <| T.region <| SL.mv rfl <| SL.nil <| T.block <| T.seq <| T.seq <| T.region <| SL.v (op_eqlF rfl rfl (by omega)) ?_
    refine SL.as rfl <| SL.nil <| T.condF rfl <| T.seq <| T.region <| SL.v (op_eqlF rfl rfl (by omega)) ?_
    refine SL.as rfl <| SL.nil <| T.condF rfl <| T.seq <| T.region <| SL.v (op_eqlF rfl rfl (by omega)) ?_
    refine SL.as rfl <| SL.nil <| T.condF rfl <| T.region <| SL.v (op_eqlT rfl rfl (by omega)) ?_
    refine SL.as rfl <| SL.nil <| T.condT rfl <| T.seq <| T.region <| SL.v (op_assign (v := .int .u8 ((2 : Nat) : Int)) rfl) <| SL.nil <| T.ret1 rfl (ResIs.tmp rfl) ?_
    rfl
  rw [if_neg (by omega)]
  refine Spec.enter Tryz.func61 rfl Tryz.ntmps61 rfl ?_
  intro w0 hw0
  refine T.seq <| T.region <| SL.v (op_assign (v := .int .u8 ((0 : Nat) : Int)) rfl) <| SL.nil <| T.seq <| T.seq <| T.region <| SL.mv rfl <| SL.nil <| T.block <| T.seq <| T.seq <| T.region <| SL.v (op_eqlF rfl rfl (by omega)) ?_
  refine SL.as rfl <| SL.nil <| T.condF rfl <| T.seq <| T.region <| SL.v (op_eqlF rfl rfl (by omega)) ?_
  refine SL.as rfl <| SL.nil <| T.condF rfl <| T.seq <| T.region <| SL.v (op_eqlF rfl rfl (by omega)) ?_
  refine SL.as rfl <| SL.nil <| T.condF rfl <| T.region <| SL.v (op_eqlF rfl rfl (by omega)) ?_
  refine SL.as rfl <| SL.nil <| T.condF rfl <| T.skip <| T.blk <| T.seq <| T.region <| SL.v (op_assign (v := .int .u8 ((1 : Nat) : Int)) rfl) <| SL.nil <| T.ret1 rfl (ResIs.tmp rfl) ?_
  rfl
theorem maskOf_msk : maskOf = mskF := rfl
theorem cnt_mem (m : Nat) : (mem64 m).length = cntB 64 m := by rw [mem64, cntB, List.countP_eq_length_filter]
theorem fnode_spec {X : PMap} {op : Nat} {n : Int} {rs : List Nat} {al : List Fm} {r : Row4} (hrl : rs.length < 1000000) (_hal : al.length < 1000000) (h : FmR .u8 X (.mk op n rs al) r) : Spec Tryz.prog 158 [.agg #[r.1, r.2.1, r.2.2.1, r.2.2.2]] X fun u _ => u = .int .i64 (ownF op n rs al.length) := by
  cases h with
  | @mk _ _ _ _ vn va rows hn ha hl hr =>
  obtain ⟨Aa, ca, rfl⟩ := ha.form
  obtain ⟨An, cn, rfl⟩ := hn.form
  have harg : argF op ≤ 2 := by unfold argF; split <;> (try split) <;> omega
  have hmos : mosF op ≤ 8 := by unfold mosF; split <;> (try split) <;> omega
  have hlea : leaF op ≤ 1 := by unfold leaF; split <;> omega
  rw [← hl] at _hal ⊢
  by_cases c1 : op < 1 ∨ 16 < op ∨ rows.length ≠ argF op
  · have e : ownF op n rs rows.length = 1 := by rw [ownF, if_pos c1]
    rw [e]
    by_cases d1 : op < 1
    · refine Spec.enter Tryz.func158 rfl Tryz.ntmps158 rfl ?_
      intro w0 hw0
      refine T.seq <| T.region <| SL.w (op_box rfl) ?_
      rintro _ _ _ ⟨B1, rfl, rfl, rfl⟩
      refine SL.v (op_assign (v := .int .i64 ((0 : Nat) : Int)) rfl) <| SL.nil <| T.seq <| T.region <| SL.v (op_fieldAddr fa36_0 rfl) <| SL.v (op_load ty33 rfl (by repeat constructor) rfl) ?_
      refine SL.w (op_callF en190 (vs := [_]) rfl (arity_spec)) ?_
      rintro _ _ X1 ⟨rfl, hX1, rfl⟩
      refine SL.mv rfl <| SL.v (op_extract rfl rfl) <| SL.v (op_extract rfl rfl) <| SL.v (op_extract rfl rfl) <| SL.as rfl <| SL.as rfl <| SL.as rfl <| SL.nil <| T.seq <| T.seq <| T.region <| SL.v (op_fieldAddr fa36_0 rfl) <| SL.v (op_load ty33 rfl (by repeat constructor) rfl) ?_
      refine SL.v (op_lssT rfl rfl (by omega)) ?_
      refine SL.mv rfl <| SL.skip rfl rfl ?_
      refine SL.skip rfl rfl ?_
      refine SL.skip rfl rfl ?_
      refine SL.v (op_pickT rfl rfl) <| SL.mv rfl <| SL.skip rfl rfl ?_
      refine SL.skip rfl rfl ?_
      refine SL.skip rfl rfl ?_
      refine SL.skip rfl rfl ?_
      refine SL.skip rfl rfl ?_
      refine SL.v (op_pickT rfl rfl) <| SL.nil <| T.condT rfl <| T.seq <| T.region <| SL.v (op_assign (v := .int .i64 ((1 : Nat) : Int)) rfl) <| SL.nil <| T.ret1 rfl (ResIs.tmp rfl) ?_
      rfl
    by_cases d2 : 16 < op
    · refine Spec.enter Tryz.func158 rfl Tryz.ntmps158 rfl ?_
      intro w0 hw0
      refine T.seq <| T.region <| SL.w (op_box rfl) ?_
      rintro _ _ _ ⟨B1, rfl, rfl, rfl⟩
      refine SL.v (op_assign (v := .int .i64 ((0 : Nat) : Int)) rfl) <| SL.nil <| T.seq <| T.region <| SL.v (op_fieldAddr fa36_0 rfl) <| SL.v (op_load ty33 rfl (by repeat constructor) rfl) ?_
      refine SL.w (op_callF en190 (vs := [_]) rfl (arity_spec)) ?_
      rintro _ _ X1 ⟨rfl, hX1, rfl⟩
      refine SL.mv rfl <| SL.v (op_extract rfl rfl) <| SL.v (op_extract rfl rfl) <| SL.v (op_extract rfl rfl) <| SL.as rfl <| SL.as rfl <| SL.as rfl <| SL.nil <| T.seq <| T.seq <| T.region <| SL.v (op_fieldAddr fa36_0 rfl) <| SL.v (op_load ty33 rfl (by repeat constructor) rfl) ?_
      refine SL.v (op_lssF rfl rfl (by omega)) ?_
      refine SL.mv rfl <| SL.v (op_fieldAddr fa36_0 rfl) <| SL.v (op_load ty33 rfl (by repeat constructor) rfl) ?_
      refine SL.v (op_gtrT rfl rfl (by omega)) ?_
      refine SL.v (op_pickF rfl rfl) <| SL.mv rfl <| SL.skip rfl rfl ?_
      refine SL.skip rfl rfl ?_
      refine SL.skip rfl rfl ?_
      refine SL.skip rfl rfl ?_
      refine SL.skip rfl rfl ?_
      refine SL.v (op_pickT rfl rfl) <| SL.nil <| T.condT rfl <| T.seq <| T.region <| SL.v (op_assign (v := .int .i64 ((1 : Nat) : Int)) rfl) <| SL.nil <| T.ret1 rfl (ResIs.tmp rfl) ?_
      rfl
    have d3 : rows.length ≠ argF op := by omega
    refine Spec.enter Tryz.func158 rfl Tryz.ntmps158 rfl ?_
    intro w0 hw0
    refine T.seq <| T.region <| SL.w (op_box rfl) ?_
    rintro _ _ _ ⟨B1, rfl, rfl, rfl⟩
    refine SL.v (op_assign (v := .int .i64 ((0 : Nat) : Int)) rfl) <| SL.nil <| T.seq <| T.region <| SL.v (op_fieldAddr fa36_0 rfl) <| SL.v (op_load ty33 rfl (by repeat constructor) rfl) ?_
    refine SL.w (op_callF en190 (vs := [_]) rfl (arity_spec)) ?_
    rintro _ _ X1 ⟨rfl, hX1, rfl⟩
    refine SL.mv rfl <| SL.v (op_extract rfl rfl) <| SL.v (op_extract rfl rfl) <| SL.v (op_extract rfl rfl) <| SL.as rfl <| SL.as rfl <| SL.as rfl <| SL.nil <| T.seq <| T.seq <| T.region <| SL.v (op_fieldAddr fa36_0 rfl) <| SL.v (op_load ty33 rfl (by repeat constructor) rfl) ?_
    refine SL.v (op_lssF rfl rfl (by omega)) ?_
    refine SL.mv rfl <| SL.v (op_fieldAddr fa36_0 rfl) <| SL.v (op_load ty33 rfl (by repeat constructor) rfl) ?_
    refine SL.v (op_gtrF rfl rfl (by omega)) ?_
    refine SL.v (op_pickF rfl rfl) <| SL.mv rfl <| SL.v (op_fieldAddr fa36_3 rfl) <| SL.v (op_load ty34 rfl (by repeat constructor) rfl) ?_
    refine SL.v (op_lenS Tryz.underlying34 rfl) <| SL.mv rfl <| SL.v (op_neqT rfl rfl (by omega)) ?_
    refine SL.v (op_pickF rfl rfl) <| SL.nil <| T.condT rfl <| T.seq <| T.region <| SL.v (op_assign (v := .int .i64 ((1 : Nat) : Int)) rfl) <| SL.nil <| T.ret1 rfl (ResIs.tmp rfl) ?_
    rfl
  have c1a : ¬op < 1 := fun h => c1 (.inl h)
  have c1b : ¬16 < op := fun h => c1 (.inr (.inl h))
  have c1c : rows.length = argF op := by omega
  by_cases c2 : (op ≠ 1 ∧ n ≠ 0) ∨ rs.length < leaF op ∨ mosF op < rs.length
  · have e : ownF op n rs rows.length = 6 := by rw [ownF, if_neg c1, if_pos c2]
    rw [e]
    by_cases d1 : op = 1
    · by_cases d2 : rs.length < leaF op
      · refine Spec.enter Tryz.func158 rfl Tryz.ntmps158 rfl ?_
        intro w0 hw0
        refine T.seq <| T.region <| SL.w (op_box rfl) ?_
        rintro _ _ _ ⟨B1, rfl, rfl, rfl⟩
        refine SL.v (op_assign (v := .int .i64 ((0 : Nat) : Int)) rfl) <| SL.nil <| T.seq <| T.region <| SL.v (op_fieldAddr fa36_0 rfl) <| SL.v (op_load ty33 rfl (by repeat constructor) rfl) ?_
        refine SL.w (op_callF en190 (vs := [_]) rfl (arity_spec)) ?_
        rintro _ _ X1 ⟨rfl, hX1, rfl⟩
        refine SL.mv rfl <| SL.v (op_extract rfl rfl) <| SL.v (op_extract rfl rfl) <| SL.v (op_extract rfl rfl) <| SL.as rfl <| SL.as rfl <| SL.as rfl <| SL.nil <| T.seq <| T.seq <| T.region <| SL.v (op_fieldAddr fa36_0 rfl) <| SL.v (op_load ty33 rfl (by repeat constructor) rfl) ?_
        refine SL.v (op_lssF rfl rfl (by omega)) ?_
        refine SL.mv rfl <| SL.v (op_fieldAddr fa36_0 rfl) <| SL.v (op_load ty33 rfl (by repeat constructor) rfl) ?_
        refine SL.v (op_gtrF rfl rfl (by omega)) ?_
        refine SL.v (op_pickF rfl rfl) <| SL.mv rfl <| SL.v (op_fieldAddr fa36_3 rfl) <| SL.v (op_load ty34 rfl (by repeat constructor) rfl) ?_
        refine SL.v (op_lenS Tryz.underlying34 rfl) <| SL.mv rfl <| SL.v (op_neqF rfl rfl (by omega)) ?_
        refine SL.v (op_pickF rfl rfl) <| SL.nil <| T.condF rfl <| T.skip <| T.seq <| T.seq <| T.region <| SL.v (op_fieldAddr fa36_0 rfl) <| SL.v (op_load ty33 rfl (by repeat constructor) rfl) ?_
        refine SL.v (op_neqF rfl rfl (by omega)) ?_
        refine SL.mv rfl <| SL.skip rfl rfl ?_
        refine SL.skip rfl rfl ?_
        refine SL.skip rfl rfl ?_
        refine SL.v (op_pickF rfl rfl) <| SL.mv rfl <| SL.v (op_fieldAddr fa36_2 rfl) <| SL.v (op_load ty24 rfl (by repeat constructor) rfl) ?_
        refine SL.v (op_lenS Tryz.underlying24 rfl) <| SL.mv rfl <| SL.v (op_lssT rfl rfl (by omega)) ?_
        refine SL.v (op_pickF rfl rfl) <| SL.mv rfl <| SL.skip rfl rfl ?_
        refine SL.skip rfl rfl ?_
        refine SL.skip rfl rfl ?_
        refine SL.skip rfl rfl ?_
        refine SL.skip rfl rfl ?_
        refine SL.v (op_pickT rfl rfl) <| SL.nil <| T.condT rfl <| T.seq <| T.region <| SL.v (op_assign (v := .int .i64 ((6 : Nat) : Int)) rfl) <| SL.nil <| T.ret1 rfl (ResIs.tmp rfl) ?_
        rfl
      · have d3 : mosF op < rs.length := by omega
        refine Spec.enter Tryz.func158 rfl Tryz.ntmps158 rfl ?_
        intro w0 hw0
        refine T.seq <| T.region <| SL.w (op_box rfl) ?_
        rintro _ _ _ ⟨B1, rfl, rfl, rfl⟩
        refine SL.v (op_assign (v := .int .i64 ((0 : Nat) : Int)) rfl) <| SL.nil <| T.seq <| T.region <| SL.v (op_fieldAddr fa36_0 rfl) <| SL.v (op_load ty33 rfl (by repeat constructor) rfl) ?_
        refine SL.w (op_callF en190 (vs := [_]) rfl (arity_spec)) ?_
        rintro _ _ X1 ⟨rfl, hX1, rfl⟩
        refine SL.mv rfl <| SL.v (op_extract rfl rfl) <| SL.v (op_extract rfl rfl) <| SL.v (op_extract rfl rfl) <| SL.as rfl <| SL.as rfl <| SL.as rfl <| SL.nil <| T.seq <| T.seq <| T.region <| SL.v (op_fieldAddr fa36_0 rfl) <| SL.v (op_load ty33 rfl (by repeat constructor) rfl) ?_
        refine SL.v (op_lssF rfl rfl (by omega)) ?_
        refine SL.mv rfl <| SL.v (op_fieldAddr fa36_0 rfl) <| SL.v (op_load ty33 rfl (by repeat constructor) rfl) ?_
        refine SL.v (op_gtrF rfl rfl (by omega)) ?_
        refine SL.v (op_pickF rfl rfl) <| SL.mv rfl <| SL.v (op_fieldAddr fa36_3 rfl) <| SL.v (op_load ty34 rfl (by repeat constructor) rfl) ?_
        refine SL.v (op_lenS Tryz.underlying34 rfl) <| SL.mv rfl <| SL.v (op_neqF rfl rfl (by omega)) ?_
        refine SL.v (op_pickF rfl rfl) <| SL.nil <| T.condF rfl <| T.skip <| T.seq <| T.seq <| T.region <| SL.v (op_fieldAddr fa36_0 rfl) <| SL.v (op_load ty33 rfl (by repeat constructor) rfl) ?_
        refine SL.v (op_neqF rfl rfl (by omega)) ?_
        refine SL.mv rfl <| SL.skip rfl rfl ?_
        refine SL.skip rfl rfl ?_
        refine SL.skip rfl rfl ?_
        refine SL.v (op_pickF rfl rfl) <| SL.mv rfl <| SL.v (op_fieldAddr fa36_2 rfl) <| SL.v (op_load ty24 rfl (by repeat constructor) rfl) ?_
        refine SL.v (op_lenS Tryz.underlying24 rfl) <| SL.mv rfl <| SL.v (op_lssF rfl rfl (by omega)) ?_
        refine SL.v (op_pickF rfl rfl) <| SL.mv rfl <| SL.v (op_fieldAddr fa36_2 rfl) <| SL.v (op_load ty24 rfl (by repeat constructor) rfl) ?_
        refine SL.v (op_lenS Tryz.underlying24 rfl) <| SL.mv rfl <| SL.v (op_gtrT rfl rfl (by omega)) ?_
        refine SL.v (op_pickF rfl rfl) <| SL.nil <| T.condT rfl <| T.seq <| T.region <| SL.v (op_assign (v := .int .i64 ((6 : Nat) : Int)) rfl) <| SL.nil <| T.ret1 rfl (ResIs.tmp rfl) ?_
        rfl
    · by_cases d0 : n = 0
      · by_cases d2 : rs.length < leaF op
        · refine Spec.enter Tryz.func158 rfl Tryz.ntmps158 rfl ?_
          intro w0 hw0
          refine T.seq <| T.region <| SL.w (op_box rfl) ?_
          rintro _ _ _ ⟨B1, rfl, rfl, rfl⟩
          refine SL.v (op_assign (v := .int .i64 ((0 : Nat) : Int)) rfl) <| SL.nil <| T.seq <| T.region <| SL.v (op_fieldAddr fa36_0 rfl) <| SL.v (op_load ty33 rfl (by repeat constructor) rfl) ?_
          refine SL.w (op_callF en190 (vs := [_]) rfl (arity_spec)) ?_
          rintro _ _ X1 ⟨rfl, hX1, rfl⟩
          refine SL.mv rfl <| SL.v (op_extract rfl rfl) <| SL.v (op_extract rfl rfl) <| SL.v (op_extract rfl rfl) <| SL.as rfl <| SL.as rfl <| SL.as rfl <| SL.nil <| T.seq <| T.seq <| T.region <| SL.v (op_fieldAddr fa36_0 rfl) <| SL.v (op_load ty33 rfl (by repeat constructor) rfl) ?_
          refine SL.v (op_lssF rfl rfl (by omega)) ?_
          refine SL.mv rfl <| SL.v (op_fieldAddr fa36_0 rfl) <| SL.v (op_load ty33 rfl (by repeat constructor) rfl) ?_
          refine SL.v (op_gtrF rfl rfl (by omega)) ?_
          refine SL.v (op_pickF rfl rfl) <| SL.mv rfl <| SL.v (op_fieldAddr fa36_3 rfl) <| SL.v (op_load ty34 rfl (by repeat constructor) rfl) ?_
          refine SL.v (op_lenS Tryz.underlying34 rfl) <| SL.mv rfl <| SL.v (op_neqF rfl rfl (by omega)) ?_
          refine SL.v (op_pickF rfl rfl) <| SL.nil <| T.condF rfl <| T.skip <| T.seq <| T.seq <| T.region <| SL.v (op_fieldAddr fa36_0 rfl) <| SL.v (op_load ty33 rfl (by repeat constructor) rfl) ?_
          refine SL.v (op_neqT rfl rfl (by omega)) ?_
          refine SL.mv rfl <| SL.v (op_fieldAddr fa36_1 rfl) <| SL.v (op_load ty3 rfl (by repeat constructor) rfl) ?_
          refine SL.v (op_neqF rfl rfl (by omega)) ?_
          refine SL.v (op_pickT rfl rfl) <| SL.mv rfl <| SL.v (op_fieldAddr fa36_2 rfl) <| SL.v (op_load ty24 rfl (by repeat constructor) rfl) ?_
          refine SL.v (op_lenS Tryz.underlying24 rfl) <| SL.mv rfl <| SL.v (op_lssT rfl rfl (by omega)) ?_
          refine SL.v (op_pickF rfl rfl) <| SL.mv rfl <| SL.skip rfl rfl ?_
          refine SL.skip rfl rfl ?_
          refine SL.skip rfl rfl ?_
          refine SL.skip rfl rfl ?_
          refine SL.skip rfl rfl ?_
          refine SL.v (op_pickT rfl rfl) <| SL.nil <| T.condT rfl <| T.seq <| T.region <| SL.v (op_assign (v := .int .i64 ((6 : Nat) : Int)) rfl) <| SL.nil <| T.ret1 rfl (ResIs.tmp rfl) ?_
          rfl
        · have d3 : mosF op < rs.length := by omega
          refine Spec.enter Tryz.func158 rfl Tryz.ntmps158 rfl ?_
          intro w0 hw0
          refine T.seq <| T.region <| SL.w (op_box rfl) ?_
          rintro _ _ _ ⟨B1, rfl, rfl, rfl⟩
          refine SL.v (op_assign (v := .int .i64 ((0 : Nat) : Int)) rfl) <| SL.nil <| T.seq <| T.region <| SL.v (op_fieldAddr fa36_0 rfl) <| SL.v (op_load ty33 rfl (by repeat constructor) rfl) ?_
          refine SL.w (op_callF en190 (vs := [_]) rfl (arity_spec)) ?_
          rintro _ _ X1 ⟨rfl, hX1, rfl⟩
          refine SL.mv rfl <| SL.v (op_extract rfl rfl) <| SL.v (op_extract rfl rfl) <| SL.v (op_extract rfl rfl) <| SL.as rfl <| SL.as rfl <| SL.as rfl <| SL.nil <| T.seq <| T.seq <| T.region <| SL.v (op_fieldAddr fa36_0 rfl) <| SL.v (op_load ty33 rfl (by repeat constructor) rfl) ?_
          refine SL.v (op_lssF rfl rfl (by omega)) ?_
          refine SL.mv rfl <| SL.v (op_fieldAddr fa36_0 rfl) <| SL.v (op_load ty33 rfl (by repeat constructor) rfl) ?_
          refine SL.v (op_gtrF rfl rfl (by omega)) ?_
          refine SL.v (op_pickF rfl rfl) <| SL.mv rfl <| SL.v (op_fieldAddr fa36_3 rfl) <| SL.v (op_load ty34 rfl (by repeat constructor) rfl) ?_
          refine SL.v (op_lenS Tryz.underlying34 rfl) <| SL.mv rfl <| SL.v (op_neqF rfl rfl (by omega)) ?_
          refine SL.v (op_pickF rfl rfl) <| SL.nil <| T.condF rfl <| T.skip <| T.seq <| T.seq <| T.region <| SL.v (op_fieldAddr fa36_0 rfl) <| SL.v (op_load ty33 rfl (by repeat constructor) rfl) ?_
          refine SL.v (op_neqT rfl rfl (by omega)) ?_
          refine SL.mv rfl <| SL.v (op_fieldAddr fa36_1 rfl) <| SL.v (op_load ty3 rfl (by repeat constructor) rfl) ?_
          refine SL.v (op_neqF rfl rfl (by omega)) ?_
          refine SL.v (op_pickT rfl rfl) <| SL.mv rfl <| SL.v (op_fieldAddr fa36_2 rfl) <| SL.v (op_load ty24 rfl (by repeat constructor) rfl) ?_
          refine SL.v (op_lenS Tryz.underlying24 rfl) <| SL.mv rfl <| SL.v (op_lssF rfl rfl (by omega)) ?_
          refine SL.v (op_pickF rfl rfl) <| SL.mv rfl <| SL.v (op_fieldAddr fa36_2 rfl) <| SL.v (op_load ty24 rfl (by repeat constructor) rfl) ?_
          refine SL.v (op_lenS Tryz.underlying24 rfl) <| SL.mv rfl <| SL.v (op_gtrT rfl rfl (by omega)) ?_
          refine SL.v (op_pickF rfl rfl) <| SL.nil <| T.condT rfl <| T.seq <| T.region <| SL.v (op_assign (v := .int .i64 ((6 : Nat) : Int)) rfl) <| SL.nil <| T.ret1 rfl (ResIs.tmp rfl) ?_
          rfl
      · refine Spec.enter Tryz.func158 rfl Tryz.ntmps158 rfl ?_
        intro w0 hw0
        refine T.seq <| T.region <| SL.w (op_box rfl) ?_
        rintro _ _ _ ⟨B1, rfl, rfl, rfl⟩
        refine SL.v (op_assign (v := .int .i64 ((0 : Nat) : Int)) rfl) <| SL.nil <| T.seq <| T.region <| SL.v (op_fieldAddr fa36_0 rfl) <| SL.v (op_load ty33 rfl (by repeat constructor) rfl) ?_
        refine SL.w (op_callF en190 (vs := [_]) rfl (arity_spec)) ?_
        rintro _ _ X1 ⟨rfl, hX1, rfl⟩
        refine SL.mv rfl <| SL.v (op_extract rfl rfl) <| SL.v (op_extract rfl rfl) <| SL.v (op_extract rfl rfl) <| SL.as rfl <| SL.as rfl <| SL.as rfl <| SL.nil <| T.seq <| T.seq <| T.region <| SL.v (op_fieldAddr fa36_0 rfl) <| SL.v (op_load ty33 rfl (by repeat constructor) rfl) ?_
        refine SL.v (op_lssF rfl rfl (by omega)) ?_
        refine SL.mv rfl <| SL.v (op_fieldAddr fa36_0 rfl) <| SL.v (op_load ty33 rfl (by repeat constructor) rfl) ?_
        refine SL.v (op_gtrF rfl rfl (by omega)) ?_
        refine SL.v (op_pickF rfl rfl) <| SL.mv rfl <| SL.v (op_fieldAddr fa36_3 rfl) <| SL.v (op_load ty34 rfl (by repeat constructor) rfl) ?_
        refine SL.v (op_lenS Tryz.underlying34 rfl) <| SL.mv rfl <| SL.v (op_neqF rfl rfl (by omega)) ?_
        refine SL.v (op_pickF rfl rfl) <| SL.nil <| T.condF rfl <| T.skip <| T.seq <| T.seq <| T.region <| SL.v (op_fieldAddr fa36_0 rfl) <| SL.v (op_load ty33 rfl (by repeat constructor) rfl) ?_
        refine SL.v (op_neqT rfl rfl (by omega)) ?_
        refine SL.mv rfl <| SL.v (op_fieldAddr fa36_1 rfl) <| SL.v (op_load ty3 rfl (by repeat constructor) rfl) ?_
        refine SL.v (op_neqT rfl rfl (by omega)) ?_
        refine SL.v (op_pickT rfl rfl) <| SL.mv rfl <| SL.skip rfl rfl ?_
        refine SL.skip rfl rfl ?_
        refine SL.skip rfl rfl ?_
        refine SL.skip rfl rfl ?_
        refine SL.skip rfl rfl ?_
        refine SL.v (op_pickT rfl rfl) <| SL.mv rfl <| SL.skip rfl rfl ?_
        refine SL.skip rfl rfl ?_
        refine SL.skip rfl rfl ?_
        refine SL.skip rfl rfl ?_
        refine SL.skip rfl rfl ?_
        refine SL.v (op_pickT rfl rfl) <| SL.nil <| T.condT rfl <| T.seq <| T.region <| SL.v (op_assign (v := .int .i64 ((6 : Nat) : Int)) rfl) <| SL.nil <| T.ret1 rfl (ResIs.tmp rfl) ?_
        rfl
  have c2a : ¬rs.length < leaF op := fun h => c2 (.inr (.inl h))
  have c2b : ¬mosF op < rs.length := fun h => c2 (.inr (.inr h))
  refine Spec.enter Tryz.func158 rfl Tryz.ntmps158 rfl ?_
  intro w0 hw0
  refine T.seq <| T.region <| SL.w (op_box rfl) ?_
  rintro _ _ _ ⟨B1, rfl, rfl, rfl⟩
  refine SL.v (op_assign (v := .int .i64 ((0 : Nat) : Int)) rfl) <| SL.nil <| T.seq <| T.region <| SL.v (op_fieldAddr fa36_0 rfl) <| SL.v (op_load ty33 rfl (by repeat constructor) rfl) ?_
  refine SL.w (op_callF en190 (vs := [_]) rfl (arity_spec)) ?_
  rintro _ _ X1 ⟨rfl, hX1, rfl⟩
  refine SL.mv rfl <| SL.v (op_extract rfl rfl) <| SL.v (op_extract rfl rfl) <| SL.v (op_extract rfl rfl) <| SL.as rfl <| SL.as rfl <| SL.as rfl <| SL.nil <| T.seq <| T.seq <| T.region <| SL.v (op_fieldAddr fa36_0 rfl) <| SL.v (op_load ty33 rfl (by repeat constructor) rfl) ?_
  refine SL.v (op_lssF rfl rfl (by omega)) ?_
  refine SL.mv rfl <| SL.v (op_fieldAddr fa36_0 rfl) <| SL.v (op_load ty33 rfl (by repeat constructor) rfl) ?_
  refine SL.v (op_gtrF rfl rfl (by omega)) ?_
  refine SL.v (op_pickF rfl rfl) <| SL.mv rfl <| SL.v (op_fieldAddr fa36_3 rfl) <| SL.v (op_load ty34 rfl (by repeat constructor) rfl) ?_
  refine SL.v (op_lenS Tryz.underlying34 rfl) <| SL.mv rfl <| SL.v (op_neqF rfl rfl (by omega)) ?_
  refine SL.v (op_pickF rfl rfl) <| SL.nil <| T.condF rfl <| T.skip <| T.seq <| T.meet (fun _ env own X' => X1.le X' ∧ env = [(1, .pointer (some ⟨B1, 0, none⟩))] ∧ own = [⟨B1, [.int .u8 (op : Int), .int .i64 n, .slice An rs.length cn, .slice Aa rows.length ca], 36, 4⟩]) ?_ ?_
  · by_cases d1 : op = 1
    · skip
      refine T.seq <| T.region <| SL.v (op_fieldAddr fa36_0 rfl) <| SL.v (op_load ty33 rfl (by repeat constructor) rfl) ?_
      refine SL.v (op_neqF rfl rfl (by omega)) ?_
      refine SL.mv rfl <| SL.skip rfl rfl ?_
      refine SL.skip rfl rfl ?_
      refine SL.skip rfl rfl ?_
      refine SL.v (op_pickF rfl rfl) <| SL.mv rfl <| SL.v (op_fieldAddr fa36_2 rfl) <| SL.v (op_load ty24 rfl (by repeat constructor) rfl) ?_
      refine SL.v (op_lenS Tryz.underlying24 rfl) <| SL.mv rfl <| SL.v (op_lssF rfl rfl (by omega)) ?_
      refine SL.v (op_pickF rfl rfl) <| SL.mv rfl <| SL.v (op_fieldAddr fa36_2 rfl) <| SL.v (op_load ty24 rfl (by repeat constructor) rfl) ?_
      refine SL.v (op_lenS Tryz.underlying24 rfl) <| SL.mv rfl <| SL.v (op_gtrF rfl rfl (by omega)) ?_
      refine SL.v (op_pickF rfl rfl) <| SL.nil <| T.condF rfl <| T.skip ?_
      exact T.backW 0 (by omega) ⟨PMap.le_refl _, rfl, rfl⟩ (by repeat (first | exact Sub.nil | refine Sub.cons rfl ?_))
    · have d0 : n = 0 := Classical.byContradiction fun h => c2 (.inl ⟨d1, h⟩)
      refine T.seq <| T.region <| SL.v (op_fieldAddr fa36_0 rfl) <| SL.v (op_load ty33 rfl (by repeat constructor) rfl) ?_
      refine SL.v (op_neqT rfl rfl (by omega)) ?_
      refine SL.mv rfl <| SL.v (op_fieldAddr fa36_1 rfl) <| SL.v (op_load ty3 rfl (by repeat constructor) rfl) ?_
      refine SL.v (op_neqF rfl rfl (by omega)) ?_
      refine SL.v (op_pickT rfl rfl) <| SL.mv rfl <| SL.v (op_fieldAddr fa36_2 rfl) <| SL.v (op_load ty24 rfl (by repeat constructor) rfl) ?_
      refine SL.v (op_lenS Tryz.underlying24 rfl) <| SL.mv rfl <| SL.v (op_lssF rfl rfl (by omega)) ?_
      refine SL.v (op_pickF rfl rfl) <| SL.mv rfl <| SL.v (op_fieldAddr fa36_2 rfl) <| SL.v (op_load ty24 rfl (by repeat constructor) rfl) ?_
      refine SL.v (op_lenS Tryz.underlying24 rfl) <| SL.mv rfl <| SL.v (op_gtrF rfl rfl (by omega)) ?_
      refine SL.v (op_pickF rfl rfl) <| SL.nil <| T.condF rfl <| T.skip ?_
      exact T.backW 0 (by omega) ⟨PMap.le_refl _, rfl, rfl⟩ (by repeat (first | exact Sub.nil | refine Sub.cons rfl ?_))
  rintro _ _ _ X2 ⟨hX2, rfl, rfl⟩
  by_cases c3 : n < 0 ∨ 999999 < n
  · have e : ownF op n rs rows.length = 2 := by rw [ownF, if_neg c1, if_neg c2, if_pos c3]
    rw [e]
    by_cases d1 : n < 0
    · skip
      refine T.seq <| T.seq <| T.region <| SL.v (op_fieldAddr fa36_1 rfl) <| SL.v (op_load ty3 rfl (by repeat constructor) rfl) ?_
      refine SL.v (op_lssT rfl rfl (by omega)) ?_
      refine SL.mv rfl <| SL.skip rfl rfl ?_
      refine SL.skip rfl rfl ?_
      refine SL.skip rfl rfl ?_
      refine SL.v (op_pickT rfl rfl) <| SL.nil <| T.condT rfl <| T.seq <| T.region <| SL.v (op_assign (v := .int .i64 ((2 : Nat) : Int)) rfl) <| SL.nil <| T.ret1 rfl (ResIs.tmp rfl) ?_
      rfl
    · have d2 : 999999 < n := by omega
      refine T.seq <| T.seq <| T.region <| SL.v (op_fieldAddr fa36_1 rfl) <| SL.v (op_load ty3 rfl (by repeat constructor) rfl) ?_
      refine SL.v (op_lssF rfl rfl (by omega)) ?_
      refine SL.mv rfl <| SL.v (op_fieldAddr fa36_1 rfl) <| SL.v (op_load ty3 rfl (by repeat constructor) rfl) ?_
      refine SL.v (op_gtrT rfl rfl (by omega)) ?_
      refine SL.v (op_pickF rfl rfl) <| SL.nil <| T.condT rfl <| T.seq <| T.region <| SL.v (op_assign (v := .int .i64 ((2 : Nat) : Int)) rfl) <| SL.nil <| T.ret1 rfl (ResIs.tmp rfl) ?_
      rfl
  have c3a : ¬n < 0 := fun h => c3 (.inl h)
  have c3b : ¬999999 < n := fun h => c3 (.inr h)
  refine T.seq <| T.seq <| T.region <| SL.v (op_fieldAddr fa36_1 rfl) <| SL.v (op_load ty3 rfl (by repeat constructor) rfl) ?_
  refine SL.v (op_lssF rfl rfl (by omega)) ?_
  refine SL.mv rfl <| SL.v (op_fieldAddr fa36_1 rfl) <| SL.v (op_load ty3 rfl (by repeat constructor) rfl) ?_
  refine SL.v (op_gtrF rfl rfl (by omega)) ?_
  refine SL.v (op_pickF rfl rfl) <| SL.nil <| T.condF rfl <| T.skip <| T.seq <| T.seq <| T.region <| SL.v (op_fieldAddr fa36_2 rfl) <| SL.v (op_load ty24 rfl (by repeat constructor) rfl) ?_
  refine SL.v (op_lenS Tryz.underlying24 rfl) <| SL.v (op_move (v := .int .i64 ((0 : Nat) : Int)) rfl) <| SL.nil <| T.block <| T.loopW (fun m env own X' => ∃ i : Nat, m = rs.length - i ∧ i ≤ rs.length ∧ X2.le X' ∧ (∀ r ∈ rs.take i, 1 ≤ r ∧ r ≤ 63) ∧ env = [(1, .pointer (some ⟨B1, 0, none⟩)), (61, .slice An rs.length cn), (62, .int .i64 (rs.length : Int)), (63, .int .i64 (i : Int))] ∧ own = [⟨B1, [.int .u8 (op : Int), .int .i64 n, .slice An rs.length cn, .slice Aa rows.length ca], 36, 4⟩]) rs.length ⟨0, by simp, by omega, PMap.le_refl _, (fun r hr => by simp at hr), rfl, rfl⟩ (by repeat (first | exact Sub.nil | refine Sub.cons rfl ?_)) ?_
  rintro m _ _ X3 ⟨i, rfl, hi, hX3, hall, rfl, rfl⟩
  rcases Nat.lt_or_ge i rs.length with hil | hil
  · obtain ⟨b, rfl, hB⟩ := hn.blk (by omega)
    have hB3 := ((hB.mono hX1).mono hX2).mono hX3
    have hmem : rs[i] ∈ rs := List.getElem_mem hil
    by_cases d : rs[i] < 1 ∨ 63 < rs[i]
    · have e : ownF op n rs rows.length = 2 := by rw [ownF, if_neg c1, if_neg c2, if_neg c3, if_pos ⟨_, hmem, d⟩]
      rw [e]
      by_cases d1 : rs[i] < 1
      · skip
        refine T.seq <| T.region <| SL.v (op_lssT rfl rfl (by omega)) ?_
        refine SL.nil <| T.seq <| T.condT rfl <| T.skip <| T.seq <| T.block <| T.seq <| T.region <| SL.v (op_indexN Tryz.underlying24 ty3 rfl rfl (by omega)) ?_
        refine SL.v (op_loadX ty3 rfl hB3 (cread1 (ints_get rs i hil))) <| SL.as rfl <| SL.nil <| T.seq <| T.region <| SL.mv rfl <| SL.v (op_lssT rfl rfl (by omega)) ?_
        refine SL.mv rfl <| SL.skip rfl rfl ?_
        refine SL.skip rfl rfl ?_
        refine SL.v (op_pickT rfl rfl) <| SL.nil <| T.condT rfl <| T.seq <| T.region <| SL.v (op_assign (v := .int .i64 ((2 : Nat) : Int)) rfl) <| SL.nil <| T.ret1 rfl (ResIs.tmp rfl) ?_
        rfl
      · have d2 : 63 < rs[i] := by omega
        refine T.seq <| T.region <| SL.v (op_lssT rfl rfl (by omega)) ?_
        refine SL.nil <| T.seq <| T.condT rfl <| T.skip <| T.seq <| T.block <| T.seq <| T.region <| SL.v (op_indexN Tryz.underlying24 ty3 rfl rfl (by omega)) ?_
        refine SL.v (op_loadX ty3 rfl hB3 (cread1 (ints_get rs i hil))) <| SL.as rfl <| SL.nil <| T.seq <| T.region <| SL.mv rfl <| SL.v (op_lssF rfl rfl (by omega)) ?_
        refine SL.mv rfl <| SL.mv rfl <| SL.v (op_gtrT rfl rfl (by omega)) ?_
        refine SL.v (op_pickF rfl rfl) <| SL.nil <| T.condT rfl <| T.seq <| T.region <| SL.v (op_assign (v := .int .i64 ((2 : Nat) : Int)) rfl) <| SL.nil <| T.ret1 rfl (ResIs.tmp rfl) ?_
        rfl
    · have da : ¬rs[i] < 1 := fun h => d (.inl h)
      have db : ¬63 < rs[i] := fun h => d (.inr h)
      have htk : rs.take (i + 1) = rs.take i ++ [rs[i]] := List.take_succ_eq_append_getElem hil
      refine T.seq <| T.region <| SL.v (op_lssT rfl rfl (by omega)) ?_
      refine SL.nil <| T.seq <| T.condT rfl <| T.skip <| T.seq <| T.block <| T.seq <| T.region <| SL.v (op_indexN Tryz.underlying24 ty3 rfl rfl (by omega)) ?_
      refine SL.v (op_loadX ty3 rfl hB3 (cread1 (ints_get rs i hil))) <| SL.as rfl <| SL.nil <| T.seq <| T.region <| SL.mv rfl <| SL.v (op_lssF rfl rfl (by omega)) ?_
      refine SL.mv rfl <| SL.mv rfl <| SL.v (op_gtrF rfl rfl (by omega)) ?_
      refine SL.v (op_pickF rfl rfl) <| SL.nil <| T.condF rfl <| T.skip <| T.blk <| T.region <| SL.v (op_addN (q := 1) rfl rfl (by omega)) ?_
      refine SL.mv rfl <| SL.nil ?_
      exact T.backW (rs.length - (i + 1)) (by omega) ⟨i + 1, rfl, by omega, hX3, (fun r hr => by rw [htk] at hr; rcases List.mem_append.1 hr with hr | hr; exact hall r hr; rw [List.mem_singleton.1 hr]; omega), rfl, rfl⟩ (by repeat (first | exact Sub.nil | refine Sub.cons rfl ?_))
  · obtain rfl : i = rs.length := by omega
    rw [List.take_of_length_le (Nat.le_refl _)] at hall
    have c4 : ¬∃ r ∈ rs, r < 1 ∨ 63 < r := fun ⟨r, hr, hh⟩ => by have := hall r hr; omega
    have h64 : ∀ r ∈ rs, r < 64 := fun r hr => by have := hall r hr; omega
    have hcnt := cnt_msk h64
    refine T.seq <| T.region <| SL.v (op_lssF rfl rfl (by omega)) ?_
    refine SL.nil <| T.seq <| T.condF rfl ?_
    refine T.exit (T.exitCode (T.exitCut (T.exitBlk ?_)))
    refine T.seq <| T.seq <| T.draw (by kernel_rfl) 8 [.t 0, .t 1, .t 4, .t 5, .t 6, .r 2, .r 3, .t 7] (by kernel_rfl) ?_
    refine SD.take rfl panicBody (op_fieldAddr fa36_2 rfl) rfl rfl ?_
    refine SD.take rfl panicBody (op_load ty24 rfl (by repeat constructor) rfl) rfl rfl ?_
    refine SD.take rfl panicBody (op_fieldAddr fa36_2 rfl) rfl rfl ?_
    refine SD.take rfl panicBody (op_load ty24 rfl (by repeat constructor) rfl) rfl rfl ?_
    refine SD.take rfl panicBody (op_lenS Tryz.underlying24 rfl) rfl rfl ?_
    refine SD.run rfl (op_callF en38 (vs := [_]) rfl (of_spec (((hn.mono hX1).mono hX2).mono hX3).1 h64 (by omega))) rfl rfl ?_
    rintro _ _ X4 ⟨rfl, hX4, hS⟩
    obtain ⟨A4, l4, c4', rfl⟩ := hS.form
    refine SD.run rfl (op_callF en22 (vs := [_]) rfl (len_exact hS)) rfl rfl ?_
    rintro _ _ X5 ⟨rfl, hX5, rfl⟩
    rw [maskOf_msk, cnt_mem]
    have hle := cnt_le (mskF rs)
    by_cases c5 : rs.Nodup
    · have hq := hcnt.2 c5
      have e : ownF op n rs rows.length = 0 := by rw [ownF, if_neg c1, if_neg c2, if_neg c3, if_neg c4, if_neg (fun h => h c5)]
      rw [e]
      refine SD.take rfl panicBody (op_neqF rfl rfl (by omega)) rfl rfl ?_
      refine SD.nil ?_
      show SL _ _ _ _ _ _ _ [] _ _ _
      refine SL.nil <| T.condF rfl <| T.skip <| T.seq <| T.region <| SL.v (op_assign (v := .int .i64 ((0 : Nat) : Int)) rfl) <| SL.nil <| T.ret1 rfl (ResIs.tmp rfl) ?_
      rfl
    · have hq : cntB 64 (mskF rs) ≠ rs.length := fun h => c5 (hcnt.1 h)
      have e : ownF op n rs rows.length = 5 := by rw [ownF, if_neg c1, if_neg c2, if_neg c3, if_neg c4, if_pos c5]
      rw [e]
      refine SD.take rfl panicBody (op_neqT rfl rfl (by omega)) rfl rfl ?_
      refine SD.nil ?_
      show SL _ _ _ _ _ _ _ [] _ _ _
      refine SL.nil <| T.condT rfl <| T.seq <| T.region <| SL.v (op_assign (v := .int .i64 ((5 : Nat) : Int)) rfl) <| SL.nil <| T.ret1 rfl (ResIs.tmp rfl) ?_
      rfl
end Go.Proofs.YtnpcilglilfajaaGreatDoor
namespace Go.Proofs.YtnpcilglilfajaaGreatDoor
section
set_option maxRecDepth 100000
theorem en113 : Enters Tryz.prog 113 := enters_mk Tryz.func113 (by kernel_rfl) rfl
theorem en158 : Enters Tryz.prog 158 := enters_mk Tryz.func158 (by kernel_rfl) rfl
theorem en60 : Enters Tryz.prog 60 := enters_mk Tryz.func60 (by kernel_rfl) rfl
theorem en61 : Enters Tryz.prog 61 := enters_mk Tryz.func61 (by kernel_rfl) rfl
end
open Go.RowKit
theorem finside_spec (N : Nat) : ∀ {X : PMap} {f : Fm} {r : Row4} {kind : Nat}, wtF f ≤ N → N < 1000000 → kind < 256 → FmR .u8 X f r → Spec Tryz.prog 113 [.agg #[r.1, r.2.1, r.2.2.1, r.2.2.2], .int .u8 (kind : Int)] X fun u _ => u = .int .i64 (insF kind f) := by
  induction N with
  | zero => intro X f r kind h; have := wtF_pos f; omega
  | succ N ih =>
    intro X f r kind hN hB hk h
    have h0 := h
    cases h with
    | @mk op n rs al vn va rows hn ha hl hr =>
    obtain ⟨Aa, ca, rfl⟩ := ha.form
    obtain ⟨An, cn, rfl⟩ := hn.form
    have hlen := wtFL_len al
    rw [wtF] at hN
    have hnode := fnode_spec (by omega) (by omega) h0
    try simp only at hnode
    by_cases c0 : ownF op n rs al.length = 0
    case neg =>
      have e : insF kind (.mk op n rs al) = ownF op n rs al.length := by rw [insF, if_pos c0]
      rw [e]
      refine Spec.enter Tryz.func113 rfl Tryz.ntmps113 rfl ?_
      intro w0 hw0
      refine T.seq <| T.region <| SL.w (op_box rfl) ?_
      rintro _ _ _ ⟨B2, rfl, rfl, rfl⟩
      refine SL.v (op_assign (v := .int .i64 ((0 : Nat) : Int)) rfl) <| SL.nil <| T.seq <| T.seq <| T.region <| SL.v (op_load ty36 rfl (by repeat constructor) rfl) ?_
      refine SL.w (op_callF en158 (vs := [_]) rfl (hnode)) ?_
      rintro _ _ X1 ⟨rfl, hX1, rfl⟩
      refine SL.as rfl <| SL.nil <| T.seq <| T.region <| SL.mv rfl <| SL.v (op_neqT rfl rfl (by omega)) ?_
      refine SL.nil <| T.condT rfl <| T.seq <| T.region <| SL.mv rfl <| SL.as rfl <| SL.nil <| T.ret1 rfl (ResIs.tmp rfl) ?_
      rfl
    have e0 : insF kind (.mk op n rs al) = if kinF kind op then 10 else insFL kind al := by rw [insF, if_neg (fun h => h c0)]
    refine Spec.enter Tryz.func113 rfl Tryz.ntmps113 rfl ?_
    intro w0 hw0
    refine T.seq <| T.region <| SL.w (op_box rfl) ?_
    rintro _ _ _ ⟨B2, rfl, rfl, rfl⟩
    refine SL.v (op_assign (v := .int .i64 ((0 : Nat) : Int)) rfl) <| SL.nil <| T.seq <| T.seq <| T.region <| SL.v (op_load ty36 rfl (by repeat constructor) rfl) ?_
    refine SL.w (op_callF en158 (vs := [_]) rfl (hnode)) ?_
    rintro _ _ X1 ⟨rfl, hX1, rfl⟩
    refine SL.as rfl <| SL.nil <| T.seq <| T.region <| SL.mv rfl <| SL.v (op_neqF rfl rfl (by omega)) ?_
    refine SL.nil <| T.condF rfl <| T.skip <| T.seq <| T.meet (fun _ env own X' => X1.le X' ∧ env = [(1, .int .u8 (kind : Int)), (2, .pointer (some ⟨B2, 0, none⟩)), (6, .bool (decide (op = 4 ∨ op = 5)))] ∧ own = [⟨B2, [.int .u8 (op : Int), .int .i64 n, .slice An rs.length cn, .slice Aa rows.length ca], 36, 4⟩]) ?_ ?_
    · by_cases d4 : op = 4
      · rw [decide_eq_true (.inl d4)]
        refine T.region <| SL.v (op_fieldAddr fa36_0 rfl) <| SL.v (op_load ty33 rfl (by repeat constructor) rfl) ?_
        refine SL.v (op_eqlT rfl rfl (by omega)) ?_
        refine SL.mv rfl <| SL.skip rfl rfl ?_
        refine SL.skip rfl rfl ?_
        refine SL.skip rfl rfl ?_
        refine SL.v (op_pickT rfl rfl) <| SL.as rfl <| SL.nil ?_
        exact T.backW 0 (by omega) ⟨PMap.le_refl _, rfl, rfl⟩ (by repeat (first | exact Sub.nil | refine Sub.cons rfl ?_))
      · by_cases d5 : op = 5
        · rw [decide_eq_true (.inr d5)]
          refine T.region <| SL.v (op_fieldAddr fa36_0 rfl) <| SL.v (op_load ty33 rfl (by repeat constructor) rfl) ?_
          refine SL.v (op_eqlF rfl rfl (by omega)) ?_
          refine SL.mv rfl <| SL.v (op_fieldAddr fa36_0 rfl) <| SL.v (op_load ty33 rfl (by repeat constructor) rfl) ?_
          refine SL.v (op_eqlT rfl rfl (by omega)) ?_
          refine SL.v (op_pickF rfl rfl) <| SL.as rfl <| SL.nil ?_
          exact T.backW 0 (by omega) ⟨PMap.le_refl _, rfl, rfl⟩ (by repeat (first | exact Sub.nil | refine Sub.cons rfl ?_))
        · rw [decide_eq_false (fun h => h.elim d4 d5)]
          refine T.region <| SL.v (op_fieldAddr fa36_0 rfl) <| SL.v (op_load ty33 rfl (by repeat constructor) rfl) ?_
          refine SL.v (op_eqlF rfl rfl (by omega)) ?_
          refine SL.mv rfl <| SL.v (op_fieldAddr fa36_0 rfl) <| SL.v (op_load ty33 rfl (by repeat constructor) rfl) ?_
          refine SL.v (op_eqlF rfl rfl (by omega)) ?_
          refine SL.v (op_pickF rfl rfl) <| SL.as rfl <| SL.nil ?_
          exact T.backW 0 (by omega) ⟨PMap.le_refl _, rfl, rfl⟩ (by repeat (first | exact Sub.nil | refine Sub.cons rfl ?_))
    rintro _ _ _ X2 ⟨hX2, rfl, rfl⟩
    by_cases hkin : kinF kind op
    · rw [if_pos hkin] at e0
      rw [e0]
      by_cases k3 : kind = 3
      · have d : op = 4 ∨ op = 5 := by
          rcases hkin with h | h
          · exact h.2
          · exact absurd k3 h.2.1
        rw [decide_eq_true d]
        refine T.seq <| T.seq <| T.region <| SL.mv rfl <| SL.v (op_eqlT rfl rfl (by omega)) ?_
        refine SL.mv rfl <| SL.mv rfl <| SL.v (op_pickT rfl rfl) <| SL.mv rfl <| SL.skip rfl rfl ?_
        refine SL.skip rfl rfl ?_
        refine SL.skip rfl rfl ?_
        refine SL.skip rfl rfl ?_
        refine SL.skip rfl rfl ?_
        refine SL.skip rfl rfl ?_
        refine SL.skip rfl rfl ?_
        refine SL.skip rfl rfl ?_
        refine SL.skip rfl rfl ?_
        refine SL.skip rfl rfl ?_
        refine SL.skip rfl rfl ?_
        refine SL.v (op_pickT rfl rfl) <| SL.nil <| T.condT rfl <| T.seq <| T.region <| SL.v (op_assign (v := .int .i64 ((10 : Nat) : Int)) rfl) <| SL.nil <| T.ret1 rfl (ResIs.tmp rfl) ?_
        rfl
      · have d : kind ≠ 0 ∧ op = 6 := by
          rcases hkin with h | h
          · exact absurd h.1 k3
          · exact ⟨h.1, h.2.2⟩
        have d6 := d.2
        have d0 := d.1
        refine T.seq <| T.seq <| T.region <| SL.mv rfl <| SL.v (op_eqlF rfl rfl (by omega)) ?_
        refine SL.mv rfl <| SL.skip rfl rfl ?_
        refine SL.v (op_pickF rfl rfl) <| SL.mv rfl <| SL.mv rfl <| SL.v (op_neqT rfl rfl (by omega)) ?_
        refine SL.mv rfl <| SL.mv rfl <| SL.v (op_neqT rfl rfl (by omega)) ?_
        refine SL.v (op_pickT rfl rfl) <| SL.mv rfl <| SL.v (op_fieldAddr fa36_0 rfl) <| SL.v (op_load ty33 rfl (by repeat constructor) rfl) ?_
        refine SL.v (op_eqlT rfl rfl (by omega)) ?_
        refine SL.v (op_pickT rfl rfl) <| SL.v (op_pickF rfl rfl) <| SL.nil <| T.condT rfl <| T.seq <| T.region <| SL.v (op_assign (v := .int .i64 ((10 : Nat) : Int)) rfl) <| SL.nil <| T.ret1 rfl (ResIs.tmp rfl) ?_
        rfl
    rw [if_neg hkin] at e0
    rw [e0]
    refine T.seq <| T.meet (fun _ env own X' => X2.le X' ∧ env = [(1, .int .u8 (kind : Int)), (2, .pointer (some ⟨B2, 0, none⟩))] ∧ own = [⟨B2, [.int .u8 (op : Int), .int .i64 n, .slice An rs.length cn, .slice Aa rows.length ca], 36, 4⟩]) ?_ ?_
    · by_cases k3 : kind = 3
      · rw [decide_eq_false (fun h => hkin (.inl ⟨k3, h⟩))]
        refine T.seq <| T.region <| SL.mv rfl <| SL.v (op_eqlT rfl rfl (by omega)) ?_
        refine SL.mv rfl <| SL.mv rfl <| SL.v (op_pickT rfl rfl) <| SL.mv rfl <| SL.mv rfl <| SL.v (op_neqT rfl rfl (by omega)) ?_
        refine SL.mv rfl <| SL.mv rfl <| SL.v (op_neqF rfl rfl (by omega)) ?_
        refine SL.v (op_pickT rfl rfl) <| SL.mv rfl <| SL.skip rfl rfl ?_
        refine SL.skip rfl rfl ?_
        refine SL.skip rfl rfl ?_
        refine SL.v (op_pickF rfl rfl) <| SL.v (op_pickF rfl rfl) <| SL.nil <| T.condF rfl <| T.skip ?_
        exact T.backW 0 (by omega) ⟨PMap.le_refl _, rfl, rfl⟩ (by repeat (first | exact Sub.nil | refine Sub.cons rfl ?_))
      · by_cases k0 : kind = 0
        · skip
          refine T.seq <| T.region <| SL.mv rfl <| SL.v (op_eqlF rfl rfl (by omega)) ?_
          refine SL.mv rfl <| SL.skip rfl rfl ?_
          refine SL.v (op_pickF rfl rfl) <| SL.mv rfl <| SL.mv rfl <| SL.v (op_neqF rfl rfl (by omega)) ?_
          refine SL.mv rfl <| SL.skip rfl rfl ?_
          refine SL.skip rfl rfl ?_
          refine SL.v (op_pickF rfl rfl) <| SL.mv rfl <| SL.skip rfl rfl ?_
          refine SL.skip rfl rfl ?_
          refine SL.skip rfl rfl ?_
          refine SL.v (op_pickF rfl rfl) <| SL.v (op_pickF rfl rfl) <| SL.nil <| T.condF rfl <| T.skip ?_
          exact T.backW 0 (by omega) ⟨PMap.le_refl _, rfl, rfl⟩ (by repeat (first | exact Sub.nil | refine Sub.cons rfl ?_))
        · have d6 : op ≠ 6 := fun h => hkin (.inr ⟨k0, k3, h⟩)
          refine T.seq <| T.region <| SL.mv rfl <| SL.v (op_eqlF rfl rfl (by omega)) ?_
          refine SL.mv rfl <| SL.skip rfl rfl ?_
          refine SL.v (op_pickF rfl rfl) <| SL.mv rfl <| SL.mv rfl <| SL.v (op_neqT rfl rfl (by omega)) ?_
          refine SL.mv rfl <| SL.mv rfl <| SL.v (op_neqT rfl rfl (by omega)) ?_
          refine SL.v (op_pickT rfl rfl) <| SL.mv rfl <| SL.v (op_fieldAddr fa36_0 rfl) <| SL.v (op_load ty33 rfl (by repeat constructor) rfl) ?_
          refine SL.v (op_eqlF rfl rfl (by omega)) ?_
          refine SL.v (op_pickT rfl rfl) <| SL.v (op_pickF rfl rfl) <| SL.nil <| T.condF rfl <| T.skip ?_
          exact T.backW 0 (by omega) ⟨PMap.le_refl _, rfl, rfl⟩ (by repeat (first | exact Sub.nil | refine Sub.cons rfl ?_))
    rintro _ _ _ X3 ⟨hX3, rfl, rfl⟩
    refine T.seq <| T.seq <| T.region <| SL.v (op_fieldAddr fa36_3 rfl) <| SL.v (op_load ty34 rfl (by repeat constructor) rfl) ?_
    refine SL.v (op_lenS Tryz.underlying34 rfl) <| SL.v (op_move (v := .int .i64 ((0 : Nat) : Int)) rfl) <| SL.nil <| T.block <| T.drop B2 (by repeat constructor) ?_
    refine T.loopW (fun m env own X' => ∃ i : Nat, m = rows.length - i ∧ i ≤ rows.length ∧ X3.le X' ∧ insFL kind (al.take i) = 0 ∧ env = [(1, .int .u8 (kind : Int)), (42, .slice Aa rows.length ca), (43, .int .i64 (rows.length : Int)), (44, .int .i64 (i : Int))] ∧ own = []) rows.length ⟨0, by simp, by omega, PMap.le_refl _, rfl, rfl, rfl⟩ (by repeat (first | exact Sub.nil | refine Sub.cons rfl ?_)) ?_
    rintro m _ _ X4 ⟨i, rfl, hi, hX4, hz, rfl, rfl⟩
    rcases Nat.lt_or_ge i rows.length with hil | hil
    · obtain ⟨r2, hr2⟩ : ∃ r2, rows[i]? = some r2 := ⟨_, List.getElem?_eq_getElem hil⟩
      obtain ⟨a, ha2⟩ : ∃ a, al[i]? = some a := ⟨_, List.getElem?_eq_getElem (by omega)⟩
      have hX04 := ((hX1.trans' hX2).trans' hX3).trans' hX4
      have hra := (hr i a r2 ha2 hr2).mono hX04
      obtain ⟨bA, pre, rfl, hbA⟩ := ha.blk (by omega)
      have hwa := wtFL_mem (List.mem_of_getElem? ha2)
      have hts := take_snoc ha2
      have hih := ih (by omega) (by omega) hk hra
      obtain ⟨_, _, _, _, _, _, _, _, rfl⟩ := hra.form
      try simp only at hih
      have hsn : insFL kind (al.take (i + 1)) = insF kind a := by
        rw [hts, insFL_app, if_neg (fun h => h hz), insFL, insFL]
        split
        · rfl
        · rename_i h; exact (Classical.not_not.1 h).symm
      by_cases hca : insF kind a = 0
      · skip
        refine T.seq <| T.region <| SL.v (op_lssT rfl rfl (by omega)) ?_
        refine SL.nil <| T.seq <| T.condT rfl <| T.skip <| T.seq <| T.block <| T.seq <| T.region <| SL.v (op_indexN Tryz.underlying34 ty36 rfl rfl (by omega)) ?_
        refine SL.v (op_loadX ty36 rfl (hbA.mono hX04) (row_read rc4_len hr2 (by omega))) ?_
        refine SL.w (op_alloc z36) ?_
        rintro _ _ _ ⟨B8, rfl, rfl, rfl⟩
        refine SL.w (op_store ty36 rfl rfl (by repeat constructor) rfl rfl rfl) ?_
        rintro _ _ _ ⟨rfl, rfl⟩
        refine SL.nil <| T.seq <| T.region <| SL.v (op_load ty36 rfl (by repeat constructor) rfl) ?_
        refine SL.mv rfl <| SL.w (op_callF en113 (vs := [_, _]) rfl (hih)) ?_
        rintro _ _ X5 ⟨rfl, hX5, rfl⟩
        rw [hca]
        refine SL.as rfl <| SL.nil <| T.seq <| T.region <| SL.mv rfl <| SL.v (op_neqF rfl rfl (by omega)) ?_
        refine SL.nil <| T.condF rfl <| T.skip <| T.blk <| T.region <| SL.v (op_addN (q := 1) rfl rfl (by omega)) ?_
        refine SL.mv rfl <| SL.nil <| T.drop B8 (by repeat constructor) ?_
        exact T.backW (rows.length - (i + 1)) (by omega) ⟨i + 1, rfl, by omega, hX4.trans' hX5, by rw [hsn, hca], rfl, rfl⟩ (by repeat (first | exact Sub.nil | refine Sub.cons rfl ?_))
      · have e : insFL kind al = insF kind a := by
          have := insFL_app kind (al.drop (i + 1)) (al.take (i + 1))
          rw [List.take_append_drop, hsn, if_pos hca] at this
          exact this
        rw [e]
        refine T.seq <| T.region <| SL.v (op_lssT rfl rfl (by omega)) ?_
        refine SL.nil <| T.seq <| T.condT rfl <| T.skip <| T.seq <| T.block <| T.seq <| T.region <| SL.v (op_indexN Tryz.underlying34 ty36 rfl rfl (by omega)) ?_
        refine SL.v (op_loadX ty36 rfl (hbA.mono hX04) (row_read rc4_len hr2 (by omega))) ?_
        refine SL.w (op_alloc z36) ?_
        rintro _ _ _ ⟨B8, rfl, rfl, rfl⟩
        refine SL.w (op_store ty36 rfl rfl (by repeat constructor) rfl rfl rfl) ?_
        rintro _ _ _ ⟨rfl, rfl⟩
        refine SL.nil <| T.seq <| T.region <| SL.v (op_load ty36 rfl (by repeat constructor) rfl) ?_
        refine SL.mv rfl <| SL.w (op_callF en113 (vs := [_, _]) rfl (hih)) ?_
        rintro _ _ X5 ⟨rfl, hX5, rfl⟩
        refine SL.as rfl <| SL.nil <| T.seq <| T.region <| SL.mv rfl <| SL.v (op_neqT rfl rfl (by omega)) ?_
        refine SL.nil <| T.condT rfl <| T.seq <| T.region <| SL.mv rfl <| SL.as rfl <| SL.nil <| T.ret1 rfl (ResIs.tmp rfl) ?_
        rfl
    · obtain rfl : i = rows.length := by omega
      rw [List.take_of_length_le (by omega)] at hz
      rw [hz]
      refine T.seq <| T.region <| SL.v (op_lssF rfl rfl (by omega)) ?_
      refine SL.nil <| T.seq <| T.condF rfl ?_
      refine T.exit (T.exitCode (T.exitCut (T.exitBlk ?_)))
      refine T.seq <| T.region <| SL.v (op_assign (v := .int .i64 ((0 : Nat) : Int)) rfl) <| SL.nil <| T.ret1 rfl (ResIs.tmp rfl) ?_
      rfl
theorem ffits_spec (N : Nat) : ∀ {X : PMap} {f : Fm} {r : Row4}, wtF f ≤ N → N < 1000000 → FmR .u8 X f r → Spec Tryz.prog 60 [.agg #[r.1, r.2.1, r.2.2.1, r.2.2.2]] X fun u _ => u = .bool (fitF f) := by
  induction N with
  | zero => intro X f r h; have := wtF_pos f; omega
  | succ N ih =>
    intro X f r hN hB h
    cases h with
    | @mk op n rs al vn va rows hn ha hl hr =>
    obtain ⟨Aa, ca, rfl⟩ := ha.form
    obtain ⟨An, cn, rfl⟩ := hn.form
    have hlen := wtFL_len al
    rw [wtF] at hN
    rw [fitF]
    refine Spec.enter Tryz.func60 rfl Tryz.ntmps60 rfl ?_
    intro w0 hw0
    refine T.seq <| T.region <| SL.w (op_box rfl) ?_
    rintro _ _ _ ⟨B1, rfl, rfl, rfl⟩
    refine SL.as rfl <| SL.nil <| T.seq <| T.region <| SL.v (op_assign (v := .int .u8 ((1 : Nat) : Int)) rfl) <| SL.nil <| T.seq <| T.meet (fun _ env own X' => X.le X' ∧ env = [(1, .pointer (some ⟨B1, 0, none⟩)), (3, .int .u8 (wanT op : Int))] ∧ own = [⟨B1, [.int .u8 (op : Int), .int .i64 n, .slice An rs.length cn, .slice Aa rows.length ca], 36, 4⟩]) ?_ ?_
    · by_cases d : 11 ≤ op
      · rw [show wanT op = 2 from if_pos d]
        refine T.seq <| T.region <| SL.v (op_fieldAddr fa36_0 rfl) <| SL.v (op_load ty33 rfl (by repeat constructor) rfl) ?_
        refine SL.v (op_geqT rfl rfl (by omega)) ?_
        refine SL.nil <| T.condT rfl <| T.region <| SL.v (op_assign (v := .int .u8 ((2 : Nat) : Int)) rfl) <| SL.nil ?_
        exact T.backW 0 (by omega) ⟨PMap.le_refl _, rfl, rfl⟩ (by repeat (first | exact Sub.nil | refine Sub.cons rfl ?_))
      · rw [show wanT op = 1 from if_neg d]
        refine T.seq <| T.region <| SL.v (op_fieldAddr fa36_0 rfl) <| SL.v (op_load ty33 rfl (by repeat constructor) rfl) ?_
        refine SL.v (op_geqF rfl rfl (by omega)) ?_
        refine SL.nil <| T.condF rfl <| T.skip ?_
        exact T.backW 0 (by omega) ⟨PMap.le_refl _, rfl, rfl⟩ (by repeat (first | exact Sub.nil | refine Sub.cons rfl ?_))
    rintro _ _ _ X3 ⟨hX3, rfl, rfl⟩
    have hw2 : wanT op ≤ 2 := by unfold wanT; split <;> omega
    refine T.seq <| T.seq <| T.region <| SL.v (op_fieldAddr fa36_3 rfl) <| SL.v (op_load ty34 rfl (by repeat constructor) rfl) ?_
    refine SL.v (op_lenS Tryz.underlying34 rfl) <| SL.v (op_move (v := .int .i64 ((0 : Nat) : Int)) rfl) <| SL.nil <| T.block <| T.drop B1 (by repeat constructor) ?_
    refine T.loopW (fun m env own X' => ∃ i : Nat, m = rows.length - i ∧ i ≤ rows.length ∧ X3.le X' ∧ fitFL (wanT op) (al.take i) = true ∧ env = [(3, .int .u8 (wanT op : Int)), (10, .slice Aa rows.length ca), (11, .int .i64 (rows.length : Int)), (12, .int .i64 (i : Int))] ∧ own = []) rows.length ⟨0, by simp, by omega, PMap.le_refl _, rfl, rfl, rfl⟩ (by repeat (first | exact Sub.nil | refine Sub.cons rfl ?_)) ?_
    rintro m _ _ X4 ⟨i, rfl, hi, hX4, hz, rfl, rfl⟩
    rcases Nat.lt_or_ge i rows.length with hil | hil
    · obtain ⟨r2, hr2⟩ : ∃ r2, rows[i]? = some r2 := ⟨_, List.getElem?_eq_getElem hil⟩
      obtain ⟨a, ha2⟩ : ∃ a, al[i]? = some a := ⟨_, List.getElem?_eq_getElem (by omega)⟩
      have hX04 := hX3.trans' hX4
      have hra := (hr i a r2 ha2 hr2).mono hX04
      obtain ⟨bA, pre, rfl, hbA⟩ := ha.blk (by omega)
      have hwa := wtFL_mem (List.mem_of_getElem? ha2)
      have hts := take_snoc ha2
      have hop := hra.op
      have hih := fun {X' : PMap} (hX : X4.le X') => ih (by omega) (by omega) (hra.mono hX)
      obtain ⟨o2, _, _, _, _, _, _, _, rfl⟩ := hra.form
      simp only [Value.int.injEq, true_and] at hop
      obtain rfl : o2 = a.op := by exact_mod_cast hop
      try simp only at hih
      have hsn : fitFL (wanT op) (al.take (i + 1)) = (decide (resT a.op = wanT op) && fitF a) := by
        rw [hts, fitFL_app, hz, fitFL, fitFL, Bool.and_true, Bool.true_and]
      have hfull : fitFL (wanT op) al = (fitFL (wanT op) (al.take (i + 1)) && fitFL (wanT op) (al.drop (i + 1))) := by
        rw [← fitFL_app, List.take_append_drop]
      have hr2' : resT a.op ≤ 2 := by unfold resT; split <;> omega
      by_cases hw : resT a.op = wanT op
      · cases hfa : fitF a with
        | true =>
          refine T.seq <| T.region <| SL.v (op_lssT rfl rfl (by omega)) ?_
          refine SL.nil <| T.seq <| T.condT rfl <| T.skip <| T.seq <| T.block <| T.seq <| T.region <| SL.v (op_indexN Tryz.underlying34 ty36 rfl rfl (by omega)) ?_
          refine SL.v (op_loadX ty36 rfl (hbA.mono hX04) (row_read rc4_len hr2 (by omega))) ?_
          refine SL.w (op_alloc z36) ?_
          rintro _ _ _ ⟨B5, rfl, rfl, rfl⟩
          refine SL.w (op_store ty36 rfl rfl (by repeat constructor) rfl rfl rfl) ?_
          rintro _ _ _ ⟨rfl, rfl⟩
          refine SL.nil <| T.seq <| T.region <| SL.v (op_fieldAddr fa36_0 rfl) <| SL.v (op_load ty33 rfl (by repeat constructor) rfl) ?_
          refine SL.w (op_callF en61 (vs := [_]) rfl (result_spec)) ?_
          rintro _ _ X5 ⟨rfl, hX5, rfl⟩
          refine SL.mv rfl <| SL.v (op_neqF rfl rfl (by omega)) ?_
          refine SL.mv rfl <| SL.v (op_load ty36 rfl (by repeat constructor) rfl) ?_
          refine SL.w (op_callF en60 (vs := [_]) rfl (hih hX5)) ?_
          rintro _ _ X6 ⟨rfl, hX6, rfl⟩
          rw [hfa]
          refine SL.v (op_not rfl) <| SL.v (op_pickF rfl rfl) <| SL.nil <| T.condF rfl <| T.skip <| T.blk <| T.region <| SL.v (op_addN (q := 1) rfl rfl (by omega)) ?_
          refine SL.mv rfl <| SL.nil <| T.drop B5 (by repeat constructor) ?_
          exact T.backW (rows.length - (i + 1)) (by omega) ⟨i + 1, rfl, by omega, (hX4.trans' hX5).trans' hX6, by rw [hsn, decide_eq_true hw, hfa]; rfl, rfl, rfl⟩ (by repeat (first | exact Sub.nil | refine Sub.cons rfl ?_))
        | false =>
          rw [hfull, hsn, hfa]
          refine T.seq <| T.region <| SL.v (op_lssT rfl rfl (by omega)) ?_
          refine SL.nil <| T.seq <| T.condT rfl <| T.skip <| T.seq <| T.block <| T.seq <| T.region <| SL.v (op_indexN Tryz.underlying34 ty36 rfl rfl (by omega)) ?_
          refine SL.v (op_loadX ty36 rfl (hbA.mono hX04) (row_read rc4_len hr2 (by omega))) ?_
          refine SL.w (op_alloc z36) ?_
          rintro _ _ _ ⟨B5, rfl, rfl, rfl⟩
          refine SL.w (op_store ty36 rfl rfl (by repeat constructor) rfl rfl rfl) ?_
          rintro _ _ _ ⟨rfl, rfl⟩
          refine SL.nil <| T.seq <| T.region <| SL.v (op_fieldAddr fa36_0 rfl) <| SL.v (op_load ty33 rfl (by repeat constructor) rfl) ?_
          refine SL.w (op_callF en61 (vs := [_]) rfl (result_spec)) ?_
          rintro _ _ X5 ⟨rfl, hX5, rfl⟩
          refine SL.mv rfl <| SL.v (op_neqF rfl rfl (by omega)) ?_
          refine SL.mv rfl <| SL.v (op_load ty36 rfl (by repeat constructor) rfl) ?_
          refine SL.w (op_callF en60 (vs := [_]) rfl (hih hX5)) ?_
          rintro _ _ X6 ⟨rfl, hX6, rfl⟩
          rw [hfa]
          refine SL.v (op_not rfl) <| SL.v (op_pickF rfl rfl) <| SL.nil <| T.condT rfl <| T.seq <| T.region <| SL.as rfl <| SL.nil <| T.ret1 rfl (ResIs.tmp rfl) ?_
          simp
      · rw [hfull, hsn, decide_eq_false hw]
        refine T.seq <| T.region <| SL.v (op_lssT rfl rfl (by omega)) ?_
        refine SL.nil <| T.seq <| T.condT rfl <| T.skip <| T.seq <| T.block <| T.seq <| T.region <| SL.v (op_indexN Tryz.underlying34 ty36 rfl rfl (by omega)) ?_
        refine SL.v (op_loadX ty36 rfl (hbA.mono hX04) (row_read rc4_len hr2 (by omega))) ?_
        refine SL.w (op_alloc z36) ?_
        rintro _ _ _ ⟨B5, rfl, rfl, rfl⟩
        refine SL.w (op_store ty36 rfl rfl (by repeat constructor) rfl rfl rfl) ?_
        rintro _ _ _ ⟨rfl, rfl⟩
        refine SL.nil <| T.seq <| T.region <| SL.v (op_fieldAddr fa36_0 rfl) <| SL.v (op_load ty33 rfl (by repeat constructor) rfl) ?_
        refine SL.w (op_callF en61 (vs := [_]) rfl (result_spec)) ?_
        rintro _ _ X5 ⟨rfl, hX5, rfl⟩
        refine SL.mv rfl <| SL.v (op_neqT rfl rfl (by omega)) ?_
        refine SL.mv rfl <| SL.skip rfl rfl ?_
        refine SL.skip rfl rfl ?_
        refine SL.skip rfl rfl ?_
        refine SL.v (op_pickT rfl rfl) <| SL.nil <| T.condT rfl <| T.seq <| T.region <| SL.as rfl <| SL.nil <| T.ret1 rfl (ResIs.tmp rfl) ?_
        simp
    · obtain rfl : i = rows.length := by omega
      rw [List.take_of_length_le (by omega)] at hz
      rw [hz]
      refine T.seq <| T.region <| SL.v (op_lssF rfl rfl (by omega)) ?_
      refine SL.nil <| T.seq <| T.condF rfl ?_
      refine T.exit (T.exitCode (T.exitCut (T.exitBlk ?_)))
      refine T.seq <| T.region <| SL.as rfl <| SL.nil <| T.ret1 rfl (ResIs.tmp rfl) ?_
      rfl
end Go.Proofs.YtnpcilglilfajaaGreatDoor
namespace Go.Proofs.YtnpcilglilfajaaGreatDoor
section
set_option maxRecDepth 100000
theorem en21 : Enters Tryz.prog 21 := enters_mk Tryz.func21 (by kernel_rfl) rfl
theorem en59 : Enters Tryz.prog 59 := enters_mk Tryz.func59 (by kernel_rfl) rfl
theorem en69 : Enters Tryz.prog 69 := enters_mk Tryz.func69 (by kernel_rfl) rfl
end
open Go.RowKit
mutual
/-- All roles are small. -/
def rolF : Fm → Prop
  | .mk _ _ rs al => (∀ r ∈ rs, r < 64) ∧ rolFL al
def rolFL : List Fm → Prop
  | [] => True
  | a :: al => rolF a ∧ rolFL al
end
theorem rolFL_mem {a : Fm} : ∀ {l : List Fm}, rolFL l → a ∈ l → rolF a
  | b :: l, h, ha => by
    rw [rolFL] at h
    rcases List.mem_cons.1 ha with rfl | ha
    · exact h.1
    · exact rolFL_mem h.2 ha
mutual
theorem insF_rol {kind : Nat} : ∀ f : Fm, insF kind f = 0 → rolF f
  | .mk op n rs al, h => by
    obtain ⟨h1, _, h3⟩ := insF_ok h
    obtain ⟨_, _, _, _, _, _, _, _, h9, _⟩ := ownF_ok h1
    rw [rolF]
    exact ⟨fun r hr => by have := h9 r hr; omega, insFL_rol al h3⟩
theorem insFL_rol {kind : Nat} : ∀ l : List Fm, insFL kind l = 0 → rolFL l
  | [], _ => by rw [rolFL]; trivial
  | a :: l, h => by
    have h1 : insF kind a = 0 := insFL_zero h a (by simp)
    rw [insFL, if_neg (fun h => h h1)] at h
    rw [rolFL]
    exact ⟨insF_rol a h1, insFL_rol l h⟩
end
theorem flook_spec {X : PMap} {f : Fm} {r : Row4} {kind : Nat} (hw : wtF f < 1000000) (hk : kind < 256) (h : FmR .u8 X f r) : Spec Tryz.prog 59 [.agg #[r.1, r.2.1, r.2.2.1, r.2.2.2], .int .u8 (kind : Int)] X fun u _ => u = .int .i64 (lookF kind f) := by
  have hc1 := fmeas_spec (X := X) (wtF f) (Nat.le_refl _) (by omega) h
  have hc2 := fun {X' : PMap} (hX : X.le X') => finside_spec (wtF f) (Nat.le_refl _) (by omega) hk (h.mono hX)
  obtain ⟨o, n, A, B, l, c, l', c', rfl⟩ := h.form
  try simp only at hc1
  try simp only at hc2
  rw [lookF]
  by_cases d : 10 < depF f
  · rw [if_pos (.inl d)]
    refine Spec.enter Tryz.func59 rfl Tryz.ntmps59 rfl ?_
    intro w0 hw0
    refine T.seq <| T.region <| SL.w (op_box rfl) ?_
    rintro _ _ _ ⟨B2, rfl, rfl, rfl⟩
    refine SL.v (op_assign (v := .int .i64 ((0 : Nat) : Int)) rfl) <| SL.nil <| T.seq <| T.region <| SL.v (op_load ty36 rfl (by repeat constructor) rfl) ?_
    refine SL.w (op_callF en112 (vs := [_]) rfl (hc1)) ?_
    rintro _ _ X1 ⟨rfl, hX1, rfl⟩
    refine SL.mv rfl <| SL.v (op_extract rfl rfl) <| SL.v (op_extract rfl rfl) <| SL.as rfl <| SL.as rfl <| SL.nil <| T.seq <| T.seq <| T.region <| SL.mv rfl <| SL.v (op_gtrT rfl rfl (by omega)) ?_
    refine SL.mv rfl <| SL.skip rfl rfl ?_
    refine SL.skip rfl rfl ?_
    refine SL.v (op_pickT rfl rfl) <| SL.nil <| T.condT rfl <| T.seq <| T.region <| SL.v (op_assign (v := .int .i64 ((3 : Nat) : Int)) rfl) <| SL.nil <| T.ret1 rfl (ResIs.tmp rfl) ?_
    rfl
  by_cases d2 : 200 < sizF f
  · rw [if_pos (.inr d2)]
    refine Spec.enter Tryz.func59 rfl Tryz.ntmps59 rfl ?_
    intro w0 hw0
    refine T.seq <| T.region <| SL.w (op_box rfl) ?_
    rintro _ _ _ ⟨B2, rfl, rfl, rfl⟩
    refine SL.v (op_assign (v := .int .i64 ((0 : Nat) : Int)) rfl) <| SL.nil <| T.seq <| T.region <| SL.v (op_load ty36 rfl (by repeat constructor) rfl) ?_
    refine SL.w (op_callF en112 (vs := [_]) rfl (hc1)) ?_
    rintro _ _ X1 ⟨rfl, hX1, rfl⟩
    refine SL.mv rfl <| SL.v (op_extract rfl rfl) <| SL.v (op_extract rfl rfl) <| SL.as rfl <| SL.as rfl <| SL.nil <| T.seq <| T.seq <| T.region <| SL.mv rfl <| SL.v (op_gtrF rfl rfl (by omega)) ?_
    refine SL.mv rfl <| SL.mv rfl <| SL.v (op_gtrT rfl rfl (by omega)) ?_
    refine SL.v (op_pickF rfl rfl) <| SL.nil <| T.condT rfl <| T.seq <| T.region <| SL.v (op_assign (v := .int .i64 ((3 : Nat) : Int)) rfl) <| SL.nil <| T.ret1 rfl (ResIs.tmp rfl) ?_
    rfl
  rw [if_neg (fun h => h.elim d d2)]
  refine Spec.enter Tryz.func59 rfl Tryz.ntmps59 rfl ?_
  intro w0 hw0
  refine T.seq <| T.region <| SL.w (op_box rfl) ?_
  rintro _ _ _ ⟨B2, rfl, rfl, rfl⟩
  refine SL.v (op_assign (v := .int .i64 ((0 : Nat) : Int)) rfl) <| SL.nil <| T.seq <| T.region <| SL.v (op_load ty36 rfl (by repeat constructor) rfl) ?_
  refine SL.w (op_callF en112 (vs := [_]) rfl (hc1)) ?_
  rintro _ _ X1 ⟨rfl, hX1, rfl⟩
  refine SL.mv rfl <| SL.v (op_extract rfl rfl) <| SL.v (op_extract rfl rfl) <| SL.as rfl <| SL.as rfl <| SL.nil <| T.seq <| T.seq <| T.region <| SL.mv rfl <| SL.v (op_gtrF rfl rfl (by omega)) ?_
  refine SL.mv rfl <| SL.mv rfl <| SL.v (op_gtrF rfl rfl (by omega)) ?_
  refine SL.v (op_pickF rfl rfl) <| SL.nil <| T.condF rfl <| T.skip <| T.seq <| T.region <| SL.v (op_load ty36 rfl (by repeat constructor) rfl) ?_
  refine SL.mv rfl <| SL.w (op_callF en113 (vs := [_, _]) rfl (hc2 hX1)) ?_
  rintro _ _ X2 ⟨rfl, hX2, rfl⟩
  refine SL.as rfl <| SL.nil <| T.ret1 rfl (ResIs.tmp rfl) ?_
  rfl
theorem ftyp_spec {X : PMap} {f : Fm} {r : Row4} (hw : wtF f < 1000000) (h : FmR .u8 X f r) : Spec Tryz.prog 15 [.agg #[r.1, r.2.1, r.2.2.1, r.2.2.2]] X fun u _ => u = .tuple #[.int .u8 ((typF f).1 : Int), .int .i64 (typF f).2] := by
  have hc1 := fun {X' : PMap} (hX : X.le X') => flook_spec (kind := 0) hw (by omega) (h.mono hX)
  have hc2 := fun {X' : PMap} (hX : X.le X') => ffits_spec (wtF f) (Nat.le_refl _) (by omega) (h.mono hX)
  have hop := h.op
  obtain ⟨o, n, A, B, l, c, l', c', rfl⟩ := h.form
  simp only [Value.int.injEq, true_and] at hop
  obtain rfl : o = f.op := by exact_mod_cast hop
  try simp only at hc1
  try simp only at hc2
  rw [typF]
  by_cases d : lookF 0 f = 0
  case neg =>
    rw [if_pos d]
    refine Spec.enter Tryz.func15 rfl Tryz.ntmps15 rfl ?_
    intro w0 hw0
    refine T.seq <| T.region <| SL.w (op_box rfl) ?_
    rintro _ _ _ ⟨B1, rfl, rfl, rfl⟩
    refine SL.v (op_assign (v := .int .u8 ((0 : Nat) : Int)) rfl) <| SL.v (op_assign (v := .int .i64 ((0 : Nat) : Int)) rfl) <| SL.nil <| T.seq <| T.seq <| T.region <| SL.v (op_load ty36 rfl (by repeat constructor) rfl) ?_
    refine SL.w (op_callF en59 (vs := [_, _]) rfl (hc1 (PMap.le_refl _))) ?_
    rintro _ _ X1 ⟨rfl, hX1, rfl⟩
    refine SL.as rfl <| SL.nil <| T.seq <| T.region <| SL.mv rfl <| SL.v (op_neqT rfl rfl (by omega)) ?_
    refine SL.nil <| T.condT rfl <| T.seq <| T.region <| SL.mv rfl <| SL.v (op_assign (v := .int .u8 ((0 : Nat) : Int)) rfl) <| SL.as rfl <| SL.nil <| T.ret2 rfl (ResIs.tmp rfl) (ResIs.tmp rfl) ?_
    rfl
  rw [if_neg (fun h => h d)]
  cases hf : fitF f with
  | false =>
    rw [if_pos rfl]
    refine Spec.enter Tryz.func15 rfl Tryz.ntmps15 rfl ?_
    intro w0 hw0
    refine T.seq <| T.region <| SL.w (op_box rfl) ?_
    rintro _ _ _ ⟨B1, rfl, rfl, rfl⟩
    refine SL.v (op_assign (v := .int .u8 ((0 : Nat) : Int)) rfl) <| SL.v (op_assign (v := .int .i64 ((0 : Nat) : Int)) rfl) <| SL.nil <| T.seq <| T.seq <| T.region <| SL.v (op_load ty36 rfl (by repeat constructor) rfl) ?_
    refine SL.w (op_callF en59 (vs := [_, _]) rfl (hc1 (PMap.le_refl _))) ?_
    rintro _ _ X1 ⟨rfl, hX1, rfl⟩
    rw [d]
    refine SL.as rfl <| SL.nil <| T.seq <| T.region <| SL.mv rfl <| SL.v (op_neqF rfl rfl (by omega)) ?_
    refine SL.nil <| T.condF rfl <| T.skip <| T.seq <| T.seq <| T.region <| SL.v (op_load ty36 rfl (by repeat constructor) rfl) ?_
    refine SL.w (op_callF en60 (vs := [_]) rfl (hc2 hX1)) ?_
    rintro _ _ X2 ⟨rfl, hX2, rfl⟩
    rw [hf]
    refine SL.v (op_not rfl) <| SL.nil <| T.condT rfl <| T.seq <| T.region <| SL.v (op_assign (v := .int .u8 ((0 : Nat) : Int)) rfl) <| SL.v (op_assign (v := .int .i64 ((10 : Nat) : Int)) rfl) <| SL.nil <| T.ret2 rfl (ResIs.tmp rfl) (ResIs.tmp rfl) ?_
    rfl
  | true =>
    rw [if_neg (by simp)]
    refine Spec.enter Tryz.func15 rfl Tryz.ntmps15 rfl ?_
    intro w0 hw0
    refine T.seq <| T.region <| SL.w (op_box rfl) ?_
    rintro _ _ _ ⟨B1, rfl, rfl, rfl⟩
    refine SL.v (op_assign (v := .int .u8 ((0 : Nat) : Int)) rfl) <| SL.v (op_assign (v := .int .i64 ((0 : Nat) : Int)) rfl) <| SL.nil <| T.seq <| T.seq <| T.region <| SL.v (op_load ty36 rfl (by repeat constructor) rfl) ?_
    refine SL.w (op_callF en59 (vs := [_, _]) rfl (hc1 (PMap.le_refl _))) ?_
    rintro _ _ X1 ⟨rfl, hX1, rfl⟩
    rw [d]
    refine SL.as rfl <| SL.nil <| T.seq <| T.region <| SL.mv rfl <| SL.v (op_neqF rfl rfl (by omega)) ?_
    refine SL.nil <| T.condF rfl <| T.skip <| T.seq <| T.seq <| T.region <| SL.v (op_load ty36 rfl (by repeat constructor) rfl) ?_
    refine SL.w (op_callF en60 (vs := [_]) rfl (hc2 hX1)) ?_
    rintro _ _ X2 ⟨rfl, hX2, rfl⟩
    rw [hf]
    refine SL.v (op_not rfl) <| SL.nil <| T.condF rfl <| T.skip <| T.seq <| T.region <| SL.v (op_fieldAddr fa36_0 rfl) <| SL.v (op_load ty33 rfl (by repeat constructor) rfl) ?_
    refine SL.w (op_callF en61 (vs := [_]) rfl (result_spec)) ?_
    rintro _ _ X3 ⟨rfl, hX3, rfl⟩
    refine SL.as rfl <| SL.v (op_assign (v := .int .i64 ((0 : Nat) : Int)) rfl) <| SL.nil <| T.ret2 rfl (ResIs.tmp rfl) (ResIs.tmp rfl) ?_
    rfl
theorem fment_spec (N : Nat) : ∀ {X : PMap} {f : Fm} {r : Row4}, wtF f ≤ N → N < 1000000 → rolF f → FmR .u8 X f r → Spec Tryz.prog 21 [.agg #[r.1, r.2.1, r.2.2.1, r.2.2.2]] X fun u X' => SetR X' u (menF f) := by
  induction N with
  | zero => intro X f r h; have := wtF_pos f; omega
  | succ N ih =>
    intro X f r hN hB hrol h
    cases h with
    | @mk op n rs al vn va rows hn ha hl hr =>
    obtain ⟨Aa, ca, rfl⟩ := ha.form
    obtain ⟨An, cn, rfl⟩ := hn.form
    have hlen := wtFL_len al
    rw [wtF] at hN
    rw [rolF] at hrol
    rw [menF]
    refine Spec.enter Tryz.func21 rfl Tryz.ntmps21 rfl ?_
    intro w0 hw0
    refine T.seq <| T.region <| SL.w (op_box rfl) ?_
    rintro _ _ _ ⟨B1, rfl, rfl, rfl⟩
    refine SL.w (op_alloc z53) ?_
    rintro _ _ _ ⟨B2, rfl, rfl, rfl⟩
    refine SL.nil <| T.seq <| T.region <| SL.v (op_fieldAddr fa36_2 rfl) <| SL.v (op_load ty24 rfl (by repeat constructor) rfl) ?_
    refine SL.w (op_callF en38 (vs := [_]) rfl (of_spec hn.1 hrol.1 (by omega))) ?_
    rintro _ _ X1 ⟨rfl, hX1, hS⟩
    obtain ⟨A1, l1, c1, rfl⟩ := hS.form
    refine SL.w (op_alloc z53) ?_
    rintro _ _ _ ⟨B3, rfl, rfl, rfl⟩
    refine SL.w (op_store ty53 rfl rfl (by repeat constructor) rfl rfl rfl) ?_
    rintro _ _ _ ⟨rfl, rfl⟩
    refine SL.nil <| T.seq <| T.seq <| T.region <| SL.v (op_fieldAddr fa36_3 rfl) <| SL.v (op_load ty34 rfl (by repeat constructor) rfl) ?_
    refine SL.v (op_lenS Tryz.underlying34 rfl) <| SL.v (op_move (v := .int .i64 ((0 : Nat) : Int)) rfl) <| SL.nil <| T.block <| T.drop B1 (by repeat constructor) ?_
    refine T.loopW (fun m env own X' => ∃ (i : Nat) (As : Option Addr) (ls cs : Nat), m = rows.length - i ∧ i ≤ rows.length ∧ X1.le X' ∧ SetR X' (.agg #[.slice As ls cs]) (mskF rs ||| menFL (al.take i)) ∧ env = [(2, .pointer (some ⟨B2, 0, none⟩)), (3, .pointer (some ⟨B3, 0, none⟩)), (10, .slice Aa rows.length ca), (11, .int .i64 (rows.length : Int)), (12, .int .i64 (i : Int))] ∧ own = [⟨B3, [.slice As ls cs], 53, 1⟩, ⟨B2, [.slice none 0 0], 53, 1⟩]) rows.length ⟨0, A1, l1, c1, by simp, by omega, PMap.le_refl _, by rw [List.take_zero, menFL, Nat.or_zero]; exact hS, rfl, rfl⟩ (by repeat (first | exact Sub.nil | refine Sub.cons rfl ?_)) ?_
    rintro m _ _ X4 ⟨i, As, ls, cs, rfl, hi, hX4, hS4, rfl, rfl⟩
    rcases Nat.lt_or_ge i rows.length with hil | hil
    · obtain ⟨r2, hr2⟩ : ∃ r2, rows[i]? = some r2 := ⟨_, List.getElem?_eq_getElem hil⟩
      obtain ⟨a, ha2⟩ : ∃ a, al[i]? = some a := ⟨_, List.getElem?_eq_getElem (by omega)⟩
      have hX04 := hX1.trans' hX4
      have hra := (hr i a r2 ha2 hr2).mono hX04
      have hma := List.mem_of_getElem? ha2
      obtain ⟨bA, pre, rfl, hbA⟩ := ha.blk (by omega)
      have hwa := wtFL_mem hma
      have hts := take_snoc ha2
      have hih := ih (by omega) (by omega) (rolFL_mem hrol.2 hma) hra
      obtain ⟨_, _, _, _, _, _, _, _, rfl⟩ := hra.form
      try simp only at hih
      refine T.seq <| T.region <| SL.v (op_lssT rfl rfl (by omega)) ?_
      refine SL.nil <| T.seq <| T.condT rfl <| T.skip <| T.seq <| T.block <| T.seq <| T.region <| SL.v (op_indexN Tryz.underlying34 ty36 rfl rfl (by omega)) ?_
      refine SL.v (op_loadX ty36 rfl (hbA.mono hX04) (row_read rc4_len hr2 (by omega))) ?_
      refine SL.w (op_alloc z36) ?_
      rintro _ _ _ ⟨B5, rfl, rfl, rfl⟩
      refine SL.w (op_store ty36 rfl rfl (by repeat constructor) rfl rfl rfl) ?_
      rintro _ _ _ ⟨rfl, rfl⟩
      refine SL.nil <| T.draw (by kernel_rfl) 4 [.t 0, .t 1, .r 2, .r 3] (by kernel_rfl) ?_
      refine SD.take rfl panicBody (op_load ty53 rfl (by repeat constructor) rfl) rfl rfl ?_
      refine SD.take rfl panicBody (op_load ty36 rfl (by repeat constructor) rfl) rfl rfl ?_
      refine SD.run rfl (op_callF en21 (vs := [_]) rfl (hih)) rfl rfl ?_
      rintro _ _ X5 ⟨rfl, hX5, hS5⟩
      obtain ⟨A5, l5, c5, rfl⟩ := hS5.form
      refine SD.run rfl (op_callF en69 (vs := [_, _]) rfl (or_spec (hS4.mono hX5) hS5)) rfl rfl ?_
      rintro _ _ X6 ⟨rfl, hX6, hS6⟩
      refine SD.nil ?_
      show SL _ _ _ _ _ _ _ [_] _ _ _
      obtain ⟨A6, l6, c6, rfl⟩ := hS6.form
      refine SL.w (op_store ty53 rfl rfl (by repeat constructor) rfl rfl rfl) ?_
      rintro _ _ _ ⟨rfl, rfl⟩
      refine SL.nil <| T.blk <| T.region <| SL.v (op_addN (q := 1) rfl rfl (by omega)) ?_
      refine SL.mv rfl <| SL.nil <| T.drop B5 (by repeat constructor) ?_
      exact T.backW (rows.length - (i + 1)) (by omega) ⟨i + 1, A6, l6, c6, rfl, by omega, (hX4.trans' hX5).trans' hX6, by rw [hts, menFL_app, menFL, menFL, Nat.or_zero, ← Nat.or_assoc]; exact hS6, rfl, rfl⟩ (by repeat (first | exact Sub.nil | refine Sub.cons rfl ?_))
    · obtain rfl : i = rows.length := by omega
      rw [List.take_of_length_le (by omega)] at hS4
      refine T.seq <| T.region <| SL.v (op_lssF rfl rfl (by omega)) ?_
      refine SL.nil <| T.seq <| T.condF rfl ?_
      refine T.exit (T.exitCode (T.exitCut (T.exitBlk ?_)))
      refine T.seq <| T.region <| SL.v (op_load ty53 rfl (by repeat constructor) rfl) ?_
      refine SL.w (op_store ty53 rfl rfl (by repeat constructor) rfl rfl rfl) ?_
      rintro _ _ _ ⟨rfl, rfl⟩
      refine SL.nil <| T.ret1 rfl (ResIs.cell rfl ty53 (by repeat constructor) rfl) ?_
      exact hS4
theorem fchk_spec {X : PMap} {f : Fm} {r : Row4} {kind : Nat} (hw : wtF f < 1000000) (hk : kind < 256) (h : FmR .u8 X f r) : Spec Tryz.prog 18 [.agg #[r.1, r.2.1, r.2.2.1, r.2.2.2], .int .u8 (kind : Int)] X fun u _ => u = .int .i64 (chkF kind f) := by
  have hc1 := fun {X' : PMap} (hX : X.le X') => flook_spec (kind := kind) hw hk (h.mono hX)
  have hc2 := fun {X' : PMap} (hX : X.le X') => ffits_spec (wtF f) (Nat.le_refl _) (by omega) (h.mono hX)
  have hc3 := fun {X' : PMap} (hrol : rolF f) (hX : X.le X') => fment_spec (wtF f) (Nat.le_refl _) (by omega) hrol (h.mono hX)
  have hop := h.op
  obtain ⟨o, n, A, B, l, c, l', c', rfl⟩ := h.form
  simp only [Value.int.injEq, true_and] at hop
  obtain rfl : o = f.op := by exact_mod_cast hop
  try simp only at hc1
  try simp only at hc2
  try simp only at hc3
  have hr2 : resT f.op ≤ 2 := by unfold resT; split <;> omega
  rw [chkF]
  by_cases k1 : kind < 1
  · rw [if_pos (.inl k1)]
    refine Spec.enter Tryz.func18 rfl Tryz.ntmps18 rfl ?_
    intro w0 hw0
    refine T.seq <| T.region <| SL.w (op_box rfl) ?_
    rintro _ _ _ ⟨B2, rfl, rfl, rfl⟩
    refine SL.v (op_assign (v := .int .i64 ((0 : Nat) : Int)) rfl) <| SL.nil <| T.seq <| T.seq <| T.region <| SL.mv rfl <| SL.v (op_lssT rfl rfl (by omega)) ?_
    refine SL.mv rfl <| SL.skip rfl rfl ?_
    refine SL.skip rfl rfl ?_
    refine SL.v (op_pickT rfl rfl) <| SL.nil <| T.condT rfl <| T.seq <| T.region <| SL.v (op_assign (v := .int .i64 ((1 : Nat) : Int)) rfl) <| SL.nil <| T.ret1 rfl (ResIs.tmp rfl) ?_
    rfl
  by_cases k2 : 3 < kind
  · rw [if_pos (.inr k2)]
    refine Spec.enter Tryz.func18 rfl Tryz.ntmps18 rfl ?_
    intro w0 hw0
    refine T.seq <| T.region <| SL.w (op_box rfl) ?_
    rintro _ _ _ ⟨B2, rfl, rfl, rfl⟩
    refine SL.v (op_assign (v := .int .i64 ((0 : Nat) : Int)) rfl) <| SL.nil <| T.seq <| T.seq <| T.region <| SL.mv rfl <| SL.v (op_lssF rfl rfl (by omega)) ?_
    refine SL.mv rfl <| SL.mv rfl <| SL.v (op_gtrT rfl rfl (by omega)) ?_
    refine SL.v (op_pickF rfl rfl) <| SL.nil <| T.condT rfl <| T.seq <| T.region <| SL.v (op_assign (v := .int .i64 ((1 : Nat) : Int)) rfl) <| SL.nil <| T.ret1 rfl (ResIs.tmp rfl) ?_
    rfl
  rw [if_neg (fun h => h.elim k1 k2)]
  refine Spec.enter Tryz.func18 rfl Tryz.ntmps18 rfl ?_
  intro w0 hw0
  refine T.seq <| T.region <| SL.w (op_box rfl) ?_
  rintro _ _ _ ⟨B2, rfl, rfl, rfl⟩
  refine SL.v (op_assign (v := .int .i64 ((0 : Nat) : Int)) rfl) <| SL.nil <| T.seq <| T.seq <| T.region <| SL.mv rfl <| SL.v (op_lssF rfl rfl (by omega)) ?_
  refine SL.mv rfl <| SL.mv rfl <| SL.v (op_gtrF rfl rfl (by omega)) ?_
  refine SL.v (op_pickF rfl rfl) <| SL.nil <| T.condF rfl <| T.skip <| T.seq <| T.seq <| T.region <| SL.v (op_load ty36 rfl (by repeat constructor) rfl) ?_
  refine SL.mv rfl <| SL.w (op_callF en59 (vs := [_, _]) rfl (hc1 (PMap.le_refl _))) ?_
  rintro _ _ X1 ⟨rfl, hX1, rfl⟩
  by_cases d : lookF kind f = 0
  case neg =>
    rw [if_pos d]
    refine SL.as rfl <| SL.nil <| T.seq <| T.region <| SL.mv rfl <| SL.v (op_neqT rfl rfl (by omega)) ?_
    refine SL.nil <| T.condT rfl <| T.seq <| T.region <| SL.mv rfl <| SL.as rfl <| SL.nil <| T.ret1 rfl (ResIs.tmp rfl) ?_
    rfl
  rw [if_neg (fun h => h d), d]
  refine SL.as rfl <| SL.nil <| T.seq <| T.region <| SL.mv rfl <| SL.v (op_neqF rfl rfl (by omega)) ?_
  refine SL.nil <| T.condF rfl <| T.skip <| T.seq <| T.seq <| T.region <| SL.v (op_load ty36 rfl (by repeat constructor) rfl) ?_
  refine SL.w (op_callF en60 (vs := [_]) rfl (hc2 hX1)) ?_
  rintro _ _ X2 ⟨rfl, hX2, rfl⟩
  cases hf : fitF f with
  | false =>
    rw [if_pos (.inl rfl)]
    refine SL.v (op_not rfl) <| SL.mv rfl <| SL.skip rfl rfl ?_
    refine SL.skip rfl rfl ?_
    refine SL.skip rfl rfl ?_
    refine SL.skip rfl rfl ?_
    refine SL.v (op_pickT rfl rfl) <| SL.nil <| T.condT rfl <| T.seq <| T.region <| SL.v (op_assign (v := .int .i64 ((10 : Nat) : Int)) rfl) <| SL.nil <| T.ret1 rfl (ResIs.tmp rfl) ?_
    rfl
  | true =>
    refine SL.v (op_not rfl) <| SL.mv rfl <| SL.v (op_fieldAddr fa36_0 rfl) <| SL.v (op_load ty33 rfl (by repeat constructor) rfl) ?_
    refine SL.w (op_callF en61 (vs := [_]) rfl (result_spec)) ?_
    rintro _ _ X3 ⟨rfl, hX3, rfl⟩
    by_cases hres : resT f.op = 1
    case neg =>
      rw [if_pos (.inr hres)]
      refine SL.v (op_neqT rfl rfl (by omega)) ?_
      refine SL.v (op_pickF rfl rfl) <| SL.nil <| T.condT rfl <| T.seq <| T.region <| SL.v (op_assign (v := .int .i64 ((10 : Nat) : Int)) rfl) <| SL.nil <| T.ret1 rfl (ResIs.tmp rfl) ?_
      rfl
    rw [if_neg (by simp [hres])]
    by_cases k3 : kind = 3
    · rw [if_neg (fun h => h.1 k3)]
      refine SL.v (op_neqF rfl rfl (by omega)) ?_
      refine SL.v (op_pickF rfl rfl) <| SL.nil <| T.condF rfl <| T.skip <| T.seq <| T.seq <| T.region <| SL.mv rfl <| SL.v (op_neqF rfl rfl (by omega)) ?_
      refine SL.mv rfl <| SL.skip rfl rfl ?_
      refine SL.skip rfl rfl ?_
      refine SL.skip rfl rfl ?_
      refine SL.skip rfl rfl ?_
      refine SL.v (op_pickF rfl rfl) <| SL.nil <| T.condF rfl <| T.skip <| T.seq <| T.region <| SL.v (op_assign (v := .int .i64 ((0 : Nat) : Int)) rfl) <| SL.nil <| T.ret1 rfl (ResIs.tmp rfl) ?_
      rfl
    have hin : insF kind f = 0 := by
      rw [lookF] at d
      split at d
      · cases d
      · exact d
    refine SL.v (op_neqF rfl rfl (by omega)) ?_
    refine SL.v (op_pickF rfl rfl) <| SL.nil <| T.condF rfl <| T.skip <| T.seq <| T.seq <| T.region <| SL.mv rfl <| SL.v (op_neqT rfl rfl (by omega)) ?_
    refine SL.mv rfl <| SL.v (op_load ty36 rfl (by repeat constructor) rfl) ?_
    refine SL.w (op_callF en21 (vs := [_]) rfl (hc3 (insF_rol f hin) ((hX1.trans' hX2).trans' hX3))) ?_
    rintro _ _ X4 ⟨rfl, hX4, hS⟩
    obtain ⟨A6, l6, c6, rfl⟩ := hS.form
    refine SL.w (op_callF en22 (vs := [_]) rfl (len_exact hS)) ?_
    rintro _ _ X5 ⟨rfl, hX5, rfl⟩
    rw [cnt_mem]
    by_cases h8 : 8 < cntB 64 (menF f)
    · rw [if_pos ⟨k3, h8⟩]
      refine SL.v (op_gtrT rfl rfl (by omega)) ?_
      refine SL.v (op_pickT rfl rfl) <| SL.nil <| T.condT rfl <| T.seq <| T.region <| SL.v (op_assign (v := .int .i64 ((3 : Nat) : Int)) rfl) <| SL.nil <| T.ret1 rfl (ResIs.tmp rfl) ?_
      rfl
    · rw [if_neg (fun h => h8 h.2)]
      refine SL.v (op_gtrF rfl rfl (by omega)) ?_
      refine SL.v (op_pickT rfl rfl) <| SL.nil <| T.condF rfl <| T.skip <| T.seq <| T.region <| SL.v (op_assign (v := .int .i64 ((0 : Nat) : Int)) rfl) <| SL.nil <| T.ret1 rfl (ResIs.tmp rfl) ?_
      rfl
end Go.Proofs.YtnpcilglilfajaaGreatDoor
namespace Go.Proofs.YtnpcilglilfajaaGreatDoor
section
set_option maxRecDepth 100000
theorem en148 : Enters Tryz.prog 148 := enters_mk Tryz.func148 (by kernel_rfl) rfl
theorem en149 : Enters Tryz.prog 149 := enters_mk Tryz.func149 (by kernel_rfl) rfl
theorem en183 : Enters Tryz.prog 183 := enters_mk Tryz.func183 (by kernel_rfl) rfl
theorem fa231_0 : FAdr Tryz.prog 231 0 0 := fadr_mk Tryz.underlying231 rfl rfl (by kernel_rfl)
theorem z231 : Zero Tryz.prog 231 [.slice none 0 0] := ⟨zero_of (by kernel_rfl)⟩
theorem st231 : StT Tryz.prog 231 [(0, 1)] [.slice none 0 0] := ⟨⟨_, Tryz.underlying231, fun _ => by kernel_rfl, z231⟩⟩
end
open Go.RowKit
theorem eqBytes_spec {X : PMap} {v v' : Value} {l l' : List Nat} (h : BytesR X v l) (h' : BytesR X v' l') (hs : l.length < 2147483648) : Spec Tryz.prog 49 [v, v'] X fun u _ => u = .bool (decide (l = l')) := by
  obtain ⟨A, cp, rfl⟩ := h.form
  obtain ⟨A', cp', rfl⟩ := h'.form
  by_cases hl : l.length = l'.length
  · refine Spec.enter Tryz.func49 rfl Tryz.ntmps49 rfl ?_
    intro w0 hw0
    refine T.seq <| T.region <| SL.as rfl <| SL.nil <| T.seq <| T.seq <| T.region <| SL.mv rfl <| SL.v (op_lenS Tryz.underlying44 rfl) <| SL.mv rfl <| SL.v (op_lenS Tryz.underlying44 rfl) <| SL.v (op_neqF rfl rfl (by omega)) ?_
    refine SL.nil <| T.condF rfl <| T.skip <| T.seq <| T.seq <| T.region <| SL.mv rfl <| SL.v (op_lenS Tryz.underlying44 rfl) <| SL.v (op_move (v := .int .i64 ((0 : Nat) : Int)) rfl) <| SL.nil <| T.block <| T.loopW (fun m env own X' => ∃ (k : Nat), m = l.length - k ∧ k ≤ l.length ∧ X = X' ∧ l.take k = l'.take k ∧ own = [] ∧ env = [(0, .slice A l.length cp), (1, .slice A' l'.length cp'), (12, .int .i64 (l.length : Int)), (13, .int .i64 (k : Int))]) l.length ⟨0, by simp, by omega, rfl, rfl, rfl, rfl⟩ (by repeat (first | exact Sub.nil | refine Sub.cons rfl ?_)) ?_
    rintro m _ _ _ ⟨k, rfl, hk, rfl, hpre, rfl, rfl⟩
    rcases Nat.lt_or_ge k l.length with hkl | hkl
    · obtain ⟨b, p1, rfl, hB⟩ := h.blk (by omega)
      obtain ⟨b', p2, rfl, hB'⟩ := h'.blk (by omega)
      have hkl' : k < l'.length := by omega
      have e1 : (p1 ++ bytesC l)[p1.length + k]? = some (.int .u8 (l[k] : Int)) := by rw [List.getElem?_append_right (by omega), Nat.add_sub_cancel_left]; exact bytesC_at (by simp [hkl])
      have e2 : (p2 ++ bytesC l')[p2.length + k]? = some (.int .u8 (l'[k] : Int)) := by rw [List.getElem?_append_right (by omega), Nat.add_sub_cancel_left]; exact bytesC_at (by simp [hkl'])
      refine T.seq <| T.region <| SL.v (op_lssT rfl rfl (by omega)) ?_
      refine SL.nil <| T.seq <| T.condT rfl <| T.skip <| T.seq <| T.block <| T.seq <| T.region <| SL.mv rfl <| SL.as rfl <| SL.nil <| T.seq <| T.draw (by kernel_rfl) 9 [.t 0, .t 1, .t 2, .t 3, .t 4, .t 5, .t 6, .t 7, .t 8] (by kernel_rfl) ?_
      refine SD.take rfl panicBody (op_move rfl) rfl rfl ?_
      refine SD.take rfl panicBody (op_move rfl) rfl rfl ?_
      refine SD.take rfl panicBody (op_indexN Tryz.underlying44 ty5 rfl rfl (by omega)) rfl rfl ?_
      refine SD.take rfl panicBody (op_loadX ty5 rfl hB (cread1k' e1 (by omega))) rfl rfl ?_
      refine SD.take rfl panicBody (op_move rfl) rfl rfl ?_
      refine SD.take rfl panicBody (op_move rfl) rfl rfl ?_
      refine SD.take rfl panicBody (op_indexN Tryz.underlying44 ty5 rfl rfl (by omega)) rfl rfl ?_
      refine SD.take rfl panicBody (op_loadX ty5 rfl hB' (cread1k' e2 (by omega))) rfl rfl ?_
      by_cases he : l[k] = l'[k]
      · skip
        refine SD.take rfl panicBody (op_neqF rfl rfl (by omega)) rfl rfl ?_
        refine SD.nil ?_
        show SL _ _ _ _ _ _ _ [] _ _ _
        refine SL.nil <| T.condF rfl <| T.skip <| T.blk <| T.region <| SL.v (op_addN (q := 1) rfl rfl (by omega)) ?_
        refine SL.mv rfl <| SL.nil ?_
        exact T.backW (l.length - (k + 1)) (by omega) ⟨k + 1, rfl, by omega, rfl, by rw [List.take_succ_eq_append_getElem hkl, List.take_succ_eq_append_getElem hkl', hpre, he], rfl, rfl⟩ (by repeat (first | exact Sub.nil | refine Sub.cons rfl ?_))
      · refine SD.take rfl panicBody (op_neqT rfl rfl (by omega)) rfl rfl ?_
        refine SD.nil ?_
        show SL _ _ _ _ _ _ _ [] _ _ _
        refine SL.nil <| T.condT rfl <| T.seq <| T.region <| SL.as rfl <| SL.nil <| T.ret1 rfl (ResIs.tmp rfl) ?_
        have : l ≠ l' := fun e => he (by subst e; rfl)
        simp [this]
    · obtain rfl : k = l.length := by omega
      refine T.seq <| T.region <| SL.v (op_lssF rfl rfl (by omega)) ?_
      refine SL.nil <| T.seq <| T.condF rfl ?_
      refine T.exit (T.exitCode (T.exitCut (T.exitBlk ?_)))
      refine T.seq <| T.region <| SL.as rfl <| SL.nil <| T.ret1 rfl (ResIs.tmp rfl) ?_
      have : l = l' := by
        rw [List.take_length, hl, List.take_length] at hpre
        exact hpre
      simp [this]
  · refine Spec.enter Tryz.func49 rfl Tryz.ntmps49 rfl ?_
    intro w0 hw0
    refine T.seq <| T.region <| SL.as rfl <| SL.nil <| T.seq <| T.seq <| T.region <| SL.mv rfl <| SL.v (op_lenS Tryz.underlying44 rfl) <| SL.mv rfl <| SL.v (op_lenS Tryz.underlying44 rfl) <| SL.v (op_neqT rfl rfl (by omega)) ?_
    refine SL.nil <| T.condT rfl <| T.seq <| T.region <| SL.as rfl <| SL.nil <| T.ret1 rfl (ResIs.tmp rfl) ?_
    have : l ≠ l' := fun e => hl (by rw [e])
    simp [this]
theorem groups_spec {X : PMap} {n : Nat} (hn : n < 18446744073709551616) : SpecO Tryz.prog 149 [.int .u64 (n : Int)] X fun u own1 _ => GrowS 5 1 u (numB n).length (bytesC (numB n)) own1 := by
  have hnl := numB_len hn
  have hs7 : ∀ v : Nat, v >>> 7 = v / 128 := fun v => Nat.shiftRight_eq_div_pow v 7
  refine SpecO.enter Tryz.func149 rfl Tryz.ntmps149 rfl ?_
  intro w0 hw0
  refine T.seq <| T.region <| SL.as rfl <| SL.nil <| T.seq <| T.region <| SL.mv rfl <| SL.v (op_and127L rfl rfl hn) <| SL.v (op_convU8 Tryz.underlying58 Tryz.underlying5 rfl (by omega) (by omega)) ?_
  refine SL.w (op_buildSlice Tryz.underlying44 bs5 (qs := [(0, _)]) rfl rfl rfl rfl rfl) ?_
  rintro _ _ _ ⟨B7, rfl, rfl, rfl⟩
  refine SL.as rfl <| SL.nil <| T.seq <| T.seq <| T.region <| SL.mv rfl <| SL.v (op_shrN (q := 7) rfl rfl (by omega)) ?_
  refine SL.as rfl <| SL.nil <| T.block <| T.loopW (fun m env own X' => ∃ (v : Nat) (out : List Nat) (sv : Value) (G : Own), v = m ∧ v < 18446744073709551616 ∧ X.le X' ∧ 0 < out.length ∧ numB n = numHi v ++ out.reverse ∧ GrowS 5 1 sv out.length (bytesC out) G ∧ env = [(0, .int .u64 (v : Int)), (3, sv)] ∧ G = own) (n >>> 7) ⟨n >>> 7, [n % 128], _, _, rfl, by rw [hs7]; omega, PMap.le_refl _, by simp, by rw [hs7]; rfl, .inr ⟨B7, 1, rfl, rfl, by simp, by decide, rfl⟩, rfl, rfl⟩ (by repeat (first | exact Sub.nil | refine Sub.cons rfl ?_)) ?_
  rintro m _ _ X1 ⟨v, out, sv, G, rfl, hv, hX1, ho0, hinv, hG, rfl, rfl⟩
  obtain ⟨As, cs, rfl⟩ := hG.form
  have hol : out.length ≤ 10 := by
    have := congrArg List.length hinv
    rw [List.length_append, List.length_reverse] at this; omega
  rcases Nat.eq_zero_or_pos v with h0 | h0
  · subst h0
    rw [numHi_zero, List.nil_append] at hinv
    rcases hG with ⟨h1, _⟩ | ⟨bo, cap, hv2, rfl, hc1, hc2, hc3⟩
    · omega
    obtain ⟨rfl, rfl⟩ : As = some ⟨bo, 0, none⟩ ∧ cs = cap := by injection hv2 with h1 h2 h3; exact ⟨h1, h3⟩
    refine T.seq <| T.seq <| T.region <| SL.mv rfl <| SL.v (op_gtrF rfl rfl (by omega)) ?_
    refine SL.nil <| T.condF rfl ?_
    refine T.exit (T.exitCode (T.exitCut (T.exitBlk ?_)))
    refine T.seq <| T.region <| SL.mv rfl <| SL.w (op_callM en183 (vs := [_]) rfl (reverse_spec ho0 (by omega) hc1) rfl) ?_
    rintro _ _ X2 ⟨_, rfl, hX2, rfl⟩
    refine SL.nil <| T.seq <| T.region <| SL.mv rfl <| SL.as rfl <| SL.nil <| T.retO1 rfl (ResIs.tmp rfl) ?_
    refine .inr ⟨bo, cs, by rw [hinv, List.length_reverse], by rw [hinv]; rfl, by rw [hinv, List.length_reverse]; exact hc1, hc2, by rw [bytesC_len]; omega⟩
  · refine T.seq <| T.seq <| T.region <| SL.mv rfl <| SL.v (op_gtrT rfl rfl (by omega)) ?_
    refine SL.nil <| T.condT rfl <| T.skip <| T.seq <| T.block <| T.region <| SL.mv rfl <| SL.mv rfl <| SL.v (op_and127L rfl rfl hv) <| SL.v (op_convU8 Tryz.underlying58 Tryz.underlying5 rfl (by omega) (by omega)) ?_
    refine SL.v (op_or128 rfl rfl (by omega)) ?_
    refine SL.w (op_buildSlice Tryz.underlying44 bs5 (qs := [(0, _)]) rfl rfl rfl rfl rfl) ?_
    rintro _ _ _ ⟨B19, rfl, rfl, rfl⟩
    refine SL.w (op_appendG (own0 := []) sl44 rfl hG rfl rfl rfl (by (have : maxLen = 9223372036854775807 := rfl); omega) (by omega)) ?_
    rintro s' G' _ ⟨_, rfl, rfl, hG'⟩
    obtain ⟨As', cps', rfl⟩ := hG'.form
    refine SL.as rfl <| SL.nil <| T.blk <| T.region <| SL.mv rfl <| SL.v (op_shrN (q := 7) rfl rfl (by omega)) ?_
    refine SL.as rfl <| SL.nil ?_
    exact T.backW (v >>> 7) (by rw [hs7]; omega) ⟨v >>> 7, out ++ [128 + v % 128], _, G', rfl, by rw [hs7]; omega, hX1, by simp, by rw [hinv, hs7, numHi_pos (by omega)]; simp, by rw [bytesC_append, List.length_append]; exact hG', rfl, rfl⟩ (by repeat (first | exact Sub.nil | refine Sub.cons rfl ?_))
theorem newW_spec {X : PMap} : SpecO Tryz.prog 95 [] X fun w own1 _ => ∃ b, w = .pointer (some ⟨b, 0, none⟩) ∧ own1 = [⟨b, [.slice none 0 0], 231, 1⟩] := by
  refine SpecO.enter Tryz.func95 rfl Tryz.ntmps95 rfl ?_
  intro w0 hw0
  refine T.seq <| T.region <| SL.as rfl <| SL.nil <| T.seq <| T.region <| SL.v (op_build st231 (qs := []) rfl rfl) <| SL.w (op_box rfl) ?_
  rintro _ _ _ ⟨B2, rfl, rfl, rfl⟩
  refine SL.as rfl <| SL.nil <| T.retO1 rfl (ResIs.tmp rfl) ?_
  exact ⟨B2, rfl, rfl⟩
theorem rawW_spec {X : PMap} {bw m len : Nat} {sv p : Value} {cs : List Value} {l : List Nat} {G : Own} (hG : GrowS 5 1 sv len cs G) (hp : BytesR X p l) (hm : m = l.length) (h0 : 0 < m) (hl : len + m < 1000000000) :
    SpecM Tryz.prog 148 [.pointer (some ⟨bw, 0, none⟩), p] X (⟨bw, [sv], 231, 1⟩ :: G) fun _ L' _ => ∃ sv' G', L' = ⟨bw, [sv'], 231, 1⟩ :: G' ∧ GrowS 5 1 sv' (len + m) (cs ++ bytesC l) G' := by
  subst hm
  have hmx : maxLen = 9223372036854775807 := rfl
  obtain ⟨A, cp, rfl⟩ := hp.form
  obtain ⟨As, css, rfl⟩ := hG.form
  refine SpecM.enter Tryz.func148 rfl Tryz.ntmps148 rfl ?_
  intro w0 X0 own0
  refine T.perm (own' := (⟨bw, [.slice As len css], 231, 1⟩ :: own0) ++ G) permD ?_
  refine T.seq <| T.region <| SL.mv rfl <| SL.v (op_neqNil Tryz.underlying179 rfl rfl) <| SL.nil <| T.condT rfl <| T.region <| SL.mv rfl <| SL.mv rfl <| SL.v (op_nil rfl) <| SL.v (op_fieldAddr fa231_0 rfl) <| SL.v (op_load ty44 rfl (by repeat constructor) rfl) ?_
  refine SL.mv rfl <| SL.w (op_appendGM (own0 := ⟨bw, [.slice As len css], 231, 1⟩ :: own0) sl44 rfl hG rfl (Src.ofBytes hp) h0 (bytesC_one l) (by omega) (by omega)) ?_
  rintro s' _ _ ⟨G', rfl, rfl, hG'⟩
  obtain ⟨As', cps', rfl⟩ := hG'.form
  refine SL.v (op_nil rfl) <| SL.v (op_fieldAddr fa231_0 rfl) <| SL.w (op_store ty44 rfl rfl (by repeat constructor) rfl rfl rfl) ?_
  rintro _ _ _ ⟨rfl, rfl⟩
  refine SL.nil <| T.doneM0 (⟨bw, [.slice As' (len + l.length) cps'], 231, 1⟩ :: G') rfl permD ?_
  exact ⟨PMap.le_refl _, _, G', rfl, hG'⟩
theorem uintW_spec {X : PMap} {bw len : Nat} {sv : Value} {l : List Nat} {G : Own} {n : Nat} (hn : n < 18446744073709551616) (hG : GrowS 5 1 sv len (bytesC l) G) (hl : len < 900000000) :
    SpecM Tryz.prog 97 [.pointer (some ⟨bw, 0, none⟩), .int .u64 (n : Int)] X (⟨bw, [sv], 231, 1⟩ :: G) fun _ L' _ => ∃ sv' G', L' = ⟨bw, [sv'], 231, 1⟩ :: G' ∧ GrowS 5 1 sv' (len + (numB n).length) (bytesC (l ++ numB n)) G' := by
  have hnl := numB_len hn
  refine SpecM.enter Tryz.func97 rfl Tryz.ntmps97 rfl ?_
  intro w0 X0 own0
  refine T.region <| SL.mv rfl <| SL.mv rfl <| SL.w (op_callF en149 (vs := [_]) rfl ((groups_spec hn).pubG)) ?_
  rintro u _ X1 ⟨rfl, hX1, hu⟩
  obtain ⟨A1, c1, rfl⟩ := SliceR.form hu
  refine SL.w (op_callM en148 (vs := [_, _]) rfl (rawW_spec hG (BytesR.ofS hu) rfl (numB_pos n) (by omega)) rfl) ?_
  rintro _ _ X2 ⟨L', rfl, hX2, sv', G', rfl, hG'⟩
  refine SL.nil <| T.doneM0 (⟨bw, [sv'], 231, 1⟩ :: G') rfl (List.Perm.refl _) ?_
  exact ⟨hX1.trans' hX2, sv', G', rfl, by rw [bytesC_append]; exact hG'⟩
theorem out_spec {X : PMap} {bw : Nat} {sv : Value} {l : List Nat} (hb : Blk X bw [sv]) (hs : BytesR X sv l) (hl : l.length < 1000000) : SpecO Tryz.prog 100 [.pointer (some ⟨bw, 0, none⟩)] X fun u own1 _ => GrowS 5 1 u l.length (bytesC l) own1 := by
  obtain ⟨A, cp, rfl⟩ := hs.form
  refine SpecO.enter Tryz.func100 rfl Tryz.ntmps100 rfl ?_
  intro w0 hw0
  refine T.seq <| T.region <| SL.as rfl <| SL.nil <| T.seq <| T.seq <| T.region <| SL.mv rfl <| SL.v (op_eqlNil Tryz.underlying179 rfl rfl) <| SL.nil <| T.condF rfl <| T.skip <| T.seq <| T.region <| SL.mv rfl ?_
  refine SL.v (op_nil rfl) <| SL.v (op_fieldAddr fa231_0 rfl) <| SL.v (op_loadX ty44 rfl (by assumption) rfl) ?_
  refine SL.w (op_callO en134 (vs := [_]) rfl (bclone_spec hs hl)) ?_
  rintro u own1 X1 ⟨_, rfl, hX1, hG⟩
  obtain ⟨A1, cp1, rfl⟩ := hG.form
  refine SL.as rfl <| SL.nil <| T.retO1 rfl (ResIs.tmp rfl) ?_
  simpa using hG
end Go.Proofs.YtnpcilglilfajaaGreatDoor
namespace Go.Proofs.YtnpcilglilfajaaGreatDoor
open Go.RowKit Go.MapKept
section
variable {P : Program} {n : NM} {w0 : Base} {X0 X : PMap} {own : Own} {env : Env}
theorem PMap.add_at {b : Nat} {o : Obj} : X.add b o b = some o := by simp [PMap.add]
theorem PMap.add_ne {b k : Nat} {o : Obj} (h : k ≠ b) : X.add b o k = X k := by simp [PMap.add, h]
theorem PMap.le_add {b : Nat} {o : Obj} {Y : PMap} (h : Y.le X) (hb : Y b = none) : Y.le (X.add b o) := fun k q hk => by
  have hne : k ≠ b := fun e => by rw [e, hb] at hk; cases hk
  rw [PMap.add_ne hne]; exact h k q hk
/-- A new block of any kind, public at once. -/
theorem Sat.lay {W : World} (h : Sat w0 X0 own X W) (o : Obj) : Sat w0 X0 own (X.add W.heap.size o) (W.alloc o) := by
  refine h.call ((Below.refl _ W).alloc (Nat.le_refl _) _) (fun k q hk => ?_) fun k hk => PMap.add_ne (Nat.ne_of_lt hk)
  by_cases e : k = W.heap.size
  · subst e; rw [PMap.add_at] at hk; cases hk; exact (heap_alloc W _).1
  · rw [PMap.add_ne e] at hk; exact (Grow.alloc W _).pin h.stab.pers k q hk
/-- A block of no own cells, new since the call began, is written anew. -/
theorem Sat.rewrite {W : World} (h : Sat w0 X0 own X W) {b : Nat} {o : Obj} (hb : X b = some o) (hn : w0.w.heap.size ≤ b) (o' : Obj) : Sat w0 X0 own (X.add b o') { W with heap := W.heap.setIfInBounds b o' } := by
  have hin := h.stab.pers b o hb
  obtain ⟨k1, k2⟩ := heap_set (o' := o') hin
  have hne : ∀ p ∈ own, p.b ≠ b := fun p hp e => by have := h.apart p hp; rw [e, hb] at this; cases this
  refine ⟨⟨⟨h.below.os, h.below.tape, h.below.output, by simpa using h.below.size, fun k hk => (k2 k (by omega)).trans (h.below.block k hk)⟩, fun k hk => (PMap.add_ne (by omega)).trans (h.old k hk), ⟨fun p hp => ?_, fun k q hk => ?_⟩, h.new, fun p hp => (PMap.add_ne (hne p hp)).trans (h.apart p hp), h.nodup⟩, fun p hp => ?_⟩
  · obtain ⟨r, h1, h2⟩ := h.stab.own p hp
    exact ⟨r, (k2 _ (hne p hp)).trans h1, h2⟩
  · by_cases e : k = b
    · subst e; rw [PMap.add_at] at hk; cases hk; exact k1
    · rw [PMap.add_ne e] at hk; exact (k2 k e).trans (h.stab.pers k q hk)
  · obtain ⟨g1, g2, g3, g4⟩ := h.res p hp
    have e : p.1 ≠ b := fun e => by rw [e, hb] at g2; cases g2
    exact ⟨(k2 _ e).trans g1, (PMap.add_ne e).trans g2, g3, g4⟩
/-- make of a map. -/
theorem op_makeMap {t : TypeId} : OpX P n w0 X0 env own X (.makeMap t none) true fun u own' X' => ∃ b, u = .map (some b) ∧ own = own' ∧ X b = none ∧ w0.w.heap.size ≤ b ∧ X' = X.add b (.map #[] 0) := by
  intro a W oper K Q ro hop ha hs hK
  have hex : (execOp a.eval oper).run P W = .ok (.value (.map (some W.heap.size))) (W.alloc (.map #[] 0)) := by
    simp [execOp, hop, Instr.makeMap, newObj, Sem.run, World.alloc_eq]
  exact wp_value (noDefer_spec (by rw [hop]; rfl)) hex (hK _ _ _ _ ⟨_, rfl, rfl, hs.stab.pers.fresh, hs.below.size, rfl⟩ (hs.lay _) fun _ => Grow.alloc W _)
/-- A map against nil. -/
theorem op_eqlMapNil {t t' k e : TypeId} {x y : Operand} {o : Option Nat} (ht : P.underlying t = some (.map k e)) (hx : eev env x = some (.map o)) (hy : eev env y = some (.map none)) : OpY P n env own X (.binOp .eql t x y t') (.bool o.isNone) := by
  intro a W oper hop ha _
  have h0 : ∀ (e : BinOp) (u v : Operand), eqGuard e t u v (.map o) (.map none) = pure () := fun e u v => by cases e <;> rfl
  have h1 : (Op.equal t (.map o) (.map none)).run P W = .ok o.isNone W := by
    have h : ∀ d : Nat, (Op.equalIn (d + 1) t (.map o) (.map none)).run P W = .ok o.isNone W := fun d => by cases o <;> simp [Op.equalIn, run_underlying ht]
    exact h 9999
  simp only [execOp, hop, ha.eval hx, ha.eval hy, binOp, h0, Sem.run_bind, Sem.run_pure, Result.andThen_ok, h1]
theorem op_makeIface {t : TypeId} {x : Operand} {v : Value} {d : TypeDesc} (ht : P.underlying t = some d) (hd : ∀ m, d ≠ .interface m) (hx : eev env x = some v) : OpY P n env own X (.makeInterface t x) (.iface t v) := by
  intro a W oper hop ha _
  have h1 : (Instr.makeInterface t v).run P W = .ok (.iface t v) W := by
    cases d <;> simp_all [Instr.makeInterface, run_underlying ht]
  simp [execOp, hop, ha.eval hx, h1]
theorem op_assertMap {t xT k e : TypeId} {x : Operand} {v : Value} (ht : P.underlying t = some (.map k e)) (hx : eev env x = some (.iface t v)) : OpY P n env own X (.typeAssert x xT t false) v := by
  intro a W oper hop ha _
  have h1 : (Instr.typeAssert (.iface t v) xT t false).run P W = .ok v W := by simp [Instr.typeAssert, run_underlying ht, Result.andThen]
  simp [execOp, hop, ha.eval hx, h1]
/-- maps.clone: a new block with the same entries. -/
theorem op_cloneMap {f : FuncId} {gn : Func} {x : Operand} {ts : Array TypeId} {t : TypeId} {b : Nat} {es : Array MapEntry} {clk : Nat} (hf : P.funcs[f]? = some gn) (h1 : (gn.name == "runtime.NumGoroutine") = false) (h2 : gn.body.isNone = true) (h3 : Extern.findNext gn = none) (h4 : Extern.find gn = some Extern.MapsClone.clone)
    (hx : eev env x = some (.iface t (.map (some b)))) (hb : X b = some (.map es clk)) :
    OpX P n w0 X0 env own X (.call { callee := .value (.func f), args := #[x], argTypes := ts }) true fun u own' X' => ∃ b', u = .iface t (.map (some b')) ∧ own = own' ∧ X b' = none ∧ w0.w.heap.size ≤ b' ∧ X' = X.add b' (.map es clk) := by
  intro a W oper K Q ro hop ha hs hK
  have hc : a.eval (.func f) = .func (.func f) #[] #[] := ha.eval rfl
  have hr2 := run_callFunc_extern hf h1 h2 h3 h4 #[.iface t (.map (some b))] W
  have hcl : (Extern.MapsClone.clone #[.iface t (.map (some b))]).run P W = .ok (.iface t (.map (some W.heap.size))) (W.alloc (.map es clk)) := by
    show (Sem.getObj b Sem.pure >>= fun o => match o with
        | .map entries clock => (newObj (.map entries clock) >>= fun n => pure (.iface t (.map (some n))))
        | _ => stuck "maps.clone: a map expected" : Sem Value).run P W = _
    have hg := hs.stab.pers _ _ hb
    rw [Sem.run_bind, show (Sem.getObj b Sem.pure).run P W = .ok (.map es clk) W from MapKept.run_getObj_map hg]
    simp [Result.andThen, newObj, Sem.run, World.alloc_eq]
  rw [hcl] at hr2
  have hex : (execOp a.eval oper).run P W = .ok (.value (.iface t (.map (some W.heap.size)))) (W.alloc (.map es clk)) := by
    simp only [execOp, hop, resolve, hc, Deferred.ofValue, invoke, Sem.run_bind, Sem.run_pure, Result.andThen_ok]
    simpa [ha.eval hx] using hr2
  exact wp_value (noDefer_spec (by rw [hop]; rfl)) hex (hK _ _ _ _ ⟨_, rfl, rfl, hs.stab.pers.fresh, hs.below.size, rfl⟩ (hs.lay _) fun _ => Grow.alloc W _)
/-- A call, and what is new in it. -/
theorem op_callN {f : FuncId} {xs : Array Operand} {ts : Array TypeId} {vs : List Value} {Φ : Value → PMap → Prop} (he : Enters P f) (hx : xs.toList.map (eev env) = vs.map some)
    (h : Spec P f vs X Φ) : OpX P n w0 X0 env own X (.call { callee := .value (.func f), args := xs, argTypes := ts }) true fun v own' X' => own = own' ∧ X.le X' ∧ (∀ k, X k = none → X' k ≠ none → w0.w.heap.size ≤ k) ∧ Φ v X' := by
  intro a W oper K Q ro hop ha hs hK
  have all : ∀ (xs : List Operand) (vs : List Value), xs.map (eev env) = vs.map some → xs.map a.eval = vs := by
    intro xs
    induction xs with
    | nil => intro vs h; cases vs <;> simp_all
    | cons x xs ih =>
      intro vs h
      cases vs with
      | nil => simp at h
      | cons v vs =>
        simp only [List.map_cons, List.cons.injEq] at h
        simp [ha.eval h.1, ih vs h.2]
  have h1 : xs.map a.eval = vs.toArray := by apply Array.toList_inj.1; simp [all _ _ hx]
  have hc : a.eval (.func f) = .func (.func f) #[] #[] := ha.eval rfl
  have hex : (execOp a.eval oper).run P W = .ok (.enter f vs.toArray) W := by
    simp only [execOp, hop, resolve, hc, h1, Deferred.ofValue, invoke, Sem.run_bind, Sem.run_pure, Result.andThen_ok]
    simpa using he vs.toArray W
  refine wp_enters (noDefer_spec (by rw [hop]; rfl)) hex ((h W hs.stab.pers).mono fun e w' hfin => ?_)
  obtain ⟨v, X', rfl, hb, hp, hk, hΦ⟩ := hfin
  refine ⟨v, rfl, ?_⟩
  refine hK v own X' w' ⟨rfl, fun q o hq => (hk q (hs.stab.pers.lt hq)).trans hq, fun k h1 h2 => ?_, hΦ⟩ (hs.call hb hp hk) fun _ => Grow.of_below hb
  rcases Nat.lt_or_ge k W.heap.size with h3 | h3
  · exact absurd ((hk k h3).trans h1) h2
  · exact Nat.le_trans hs.below.size h3
/-- The entries of names in a row, numbered from 1. -/
def entsOf (ns : List ByteArray) : List MapEntry := (List.range ns.length).map fun (i : Nat) => ⟨.string ((ns[i]?).getD ⟨#[]⟩), .int .i64 ((i : Int) + 1), i⟩
def MapObj (ns : List ByteArray) : Obj := .map (entsOf ns).toArray ns.length
/-- The number of a name, from 1; 0: it is not there. -/
def posN (s : ByteArray) : List ByteArray → Nat
  | [] => 0
  | t :: l => if s = t then 1 else if posN s l = 0 then 0 else posN s l + 1
def MapAt (X : PMap) (ns : List ByteArray) : Option Nat → Prop
  | none => ns = []
  | some b => X b = some (MapObj ns)
theorem posN_pos {s : ByteArray} : ∀ {ns : List ByteArray}, 0 < posN s ns ↔ s ∈ ns
  | [] => by simp [posN]
  | t :: l => by
    have ih := posN_pos (s := s) (ns := l)
    rw [posN]
    by_cases h : s = t
    · rw [if_pos h]; simp [h]
    · rw [if_neg h]
      by_cases h0 : posN s l = 0
      · rw [if_pos h0]
        have : s ∉ l := fun hm => by have := ih.2 hm; omega
        simp [h, this]
      · rw [if_neg h0]
        have : s ∈ l := ih.1 (by omega)
        simp [this]
theorem posN_le {s : ByteArray} : ∀ {ns : List ByteArray}, posN s ns ≤ ns.length
  | [] => by simp [posN]
  | t :: l => by
    have ih := posN_le (s := s) (ns := l)
    rw [posN, List.length_cons]
    split
    · omega
    · split <;> omega
theorem entsOf_snoc (ns : List ByteArray) (s : ByteArray) : entsOf (ns ++ [s]) = entsOf ns ++ [⟨.string s, .int .i64 ((ns.length : Int) + 1), ns.length⟩] := by
  unfold entsOf
  rw [List.length_append, List.length_singleton, List.range_succ, List.map_append, List.map_singleton]
  congr 1
  · refine List.map_congr_left fun i hi => ?_
    rw [List.getElem?_append_left (List.mem_range.1 hi)]
  · simp
/-- What findNow finds. -/
theorem findNow_pos (s : ByteArray) : ∀ (ns : List ByteArray) (f : Nat → Value) (g : Nat → Nat) (i : Nat), ∃ r, Instr.findNow .string (.string s) ((List.range ns.length).map fun q => ⟨.string ((ns[q]?).getD ⟨#[]⟩), f q, g q⟩) i = some r ∧ (posN s ns = 0 → r = none) ∧ (∀ k, posN s ns = k + 1 → ∃ q, r = some (q, f k))
  | [], f, g, i => ⟨none, rfl, fun _ => rfl, fun k h => by cases h⟩
  | t :: ns, f, g, i => by
    have e : (List.range (t :: ns).length).map (fun q => (⟨.string (((t :: ns)[q]?).getD ⟨#[]⟩), f q, g q⟩ : MapEntry)) = ⟨.string t, f 0, g 0⟩ :: (List.range ns.length).map (fun q => (⟨.string ((ns[q]?).getD ⟨#[]⟩), f (q + 1), g (q + 1)⟩ : MapEntry)) := by
      rw [List.length_cons, List.range_succ_eq_map, List.map_cons, List.map_map]
      congr 1
    rw [e]
    by_cases h : s = t
    · subst h
      have hp : posN s (s :: ns) = 1 := by rw [posN, if_pos rfl]
      refine ⟨some (i, f 0), ?_, fun h => absurd (hp.symm.trans h) (by decide), fun k hk => ⟨i, ?_⟩⟩
      case refine_2 =>
        have hk' := hp.symm.trans hk
        obtain rfl : k = 0 := by omega
        rfl
      have : (s == s) = true := (bytes_beq s s).2 rfl
      simp [Instr.findNow, Instr.sameNow, this]
    · obtain ⟨r, h1, h2, h3⟩ := findNow_pos s ns (fun q => f (q + 1)) (fun q => g (q + 1)) (i + 1)
      have hb : (s == t) = false := by
        cases hq : (s == t) with
        | false => rfl
        | true => exact absurd ((bytes_beq s t).1 hq) h
      refine ⟨r, ?_, ?_, ?_⟩
      · simp only [Instr.findNow, Instr.sameNow, hb]; exact h1
      · rw [posN, if_neg h]; intro hp; split at hp
        · rename_i h0; exact h2 h0
        · cases hp
      · intro k hk
        rw [posN, if_neg h] at hk
        split at hk
        · cases hk
        · obtain ⟨q, hq⟩ : ∃ q, posN s ns = q + 1 := ⟨posN s ns - 1, by omega⟩
          obtain rfl : k = q + 1 := by omega
          exact h3 q hq
/-- The number of a name in a map of names. -/
theorem op_lookupN {xT kt et : TypeId} {x y : Operand} {om : Option Nat} {ns : List ByteArray} {s : ByteArray} (ht : P.underlying xT = some (.map kt et)) (hk : P.underlying kt = some .string) (hz : (P.info? et).bind (·.zero) = some (.int .i64 0))
    (hx : eev env x = some (.map om)) (hy : eev env y = some (.string s)) (hm : MapAt X ns om) :
    OpY P n env own X (.lookup xT x y false) (.int .i64 (posN s ns : Int)) := by
  intro a W oper hop ha hst
  obtain ⟨i, hi, hiz⟩ := Option.bind_eq_some_iff.1 hz
  have hzr : (zeroValue et).run P W = .ok (.int .i64 0) W := by simp [zeroValue, typeInfo, hi, hiz]
  obtain ⟨r, h1, h2, h3⟩ := findNow_pos s ns (fun q => .int .i64 ((q : Int) + 1)) (fun q => q) 0
  have hf : (Instr.findKey kt (.string s) (entsOf ns)).run P W = .ok r W := MapKept.run_findKey hk h1
  have hck : ∀ e, (Instr.checkKey e 10000 kt (.string s)).run P W = .ok () W := fun e => MapKept.run_checkKey hk (by trivial) e 9999
  have hl : (Instr.lookup xT (.map om) (.string s) false).run P W = .ok (.int .i64 (posN s ns : Int)) W := by
    have key : ∀ es : Array MapEntry, es.toList = entsOf ns → (om = none → es = #[]) → (∀ b, om = some b → ∃ clk, W.heap[b]? = some (.map es clk)) → (Instr.lookup xT (.map om) (.string s) false).run P W = .ok (.int .i64 (posN s ns : Int)) W := by
      intro es he ho hb
      rw [← he] at hf
      rcases Nat.eq_zero_or_pos (posN s ns) with h0 | h0
      · obtain rfl := h2 h0
        cases om with
        | none => have ho : es = #[] := ho rfl; subst ho; simp [Instr.lookup, run_underlying ht, hck, hf, hzr, h0, Result.andThen]
        | some b => obtain ⟨clk, hb⟩ := hb b rfl; simp [Instr.lookup, run_underlying ht, MapKept.run_getObj_map hb, hck, hf, hzr, h0, Result.andThen]
      · obtain ⟨k, hk'⟩ : ∃ k, posN s ns = k + 1 := ⟨posN s ns - 1, by omega⟩
        obtain ⟨q, rfl⟩ := h3 k hk'
        cases om with
        | none => have ho : es = #[] := ho rfl; subst ho; simp [Instr.lookup, run_underlying ht, hck, hf, hk', Result.andThen]
        | some b => obtain ⟨clk, hb⟩ := hb b rfl; simp [Instr.lookup, run_underlying ht, MapKept.run_getObj_map hb, hck, hf, hk', Result.andThen]
    cases om with
    | none => have hm : ns = [] := hm; subst hm; exact key #[] rfl (fun _ => rfl) (fun _ h => by cases h)
    | some b => exact key (entsOf ns).toArray rfl (fun h => by cases h) (fun b' h => by cases h; exact ⟨_, hst.pers b _ hm⟩)
  simp [execOp, hop, ha.eval hx, ha.eval hy, hl]
/-- A new name is put into a map of this call's own. -/
theorem op_putN {xT kt et : TypeId} {x y z : Operand} {b : Nat} {ns : List ByteArray} {s : ByteArray} (ht : P.underlying xT = some (.map kt et)) (hk : P.underlying kt = some .string)
    (hx : eev env x = some (.map (some b))) (hy : eev env y = some (.string s)) (hz : eev env z = some (.int .i64 ((ns ++ [s]).length : Int))) (hb : X b = some (MapObj ns)) (hn : w0.w.heap.size ≤ b) (hs : s ∉ ns) :
    OpX P n w0 X0 env own X (.mapUpdate xT x y z) false fun _ own' X' => own = own' ∧ X' = X.add b (MapObj (ns ++ [s])) := by
  have hz : eev env z = some (.int .i64 ((ns.length : Int) + 1)) := by rw [hz]; simp
  intro a W oper K Q ro hop ha hsat hK
  obtain ⟨r, h1, h2, _⟩ := findNow_pos s ns (fun q => .int .i64 ((q : Int) + 1)) (fun q => q) 0
  obtain rfl := h2 (Nat.eq_zero_of_not_pos fun h => hs (posN_pos.1 h))
  have hb' := hsat.stab.pers b _ hb
  simp only [MapObj] at hb'
  have hf : (Instr.findKey kt (.string s) (entsOf ns)).run P W = .ok none W := MapKept.run_findKey hk h1
  have hck : ∀ e, (Instr.checkKey e 10000 kt (.string s)).run P W = .ok () W := fun e => MapKept.run_checkKey hk (by trivial) e 9999
  have hl : (Instr.mapUpdate xT (.map (some b)) (.string s) (.int .i64 ((ns.length : Int) + 1))).run P W = .ok () { W with heap := W.heap.setIfInBounds b (MapObj (ns ++ [s])) } := by
    have e : MapObj (ns ++ [s]) = .map ((entsOf ns).toArray.push { key := .string s, val := .int .i64 ((ns.length : Int) + 1), born := ns.length }) (ns.length + 1) := by
      simp [MapObj, entsOf_snoc]
    rw [e]
    simp [Instr.mapUpdate, run_underlying ht, MapKept.run_getObj_map hb', hck, hf, MapKept.run_setObj_map _ hb', Result.andThen]
  have hex : (execOp a.eval oper).run P W = .ok .skip { W with heap := W.heap.setIfInBounds b (MapObj (ns ++ [s])) } := by
    simp [execOp, hop, ha.eval hx, ha.eval hy, ha.eval hz, hl]
  exact wp_skipped (noDefer_spec (by rw [hop]; rfl)) hex (hK _ _ _ _ ⟨rfl, rfl⟩ (hsat.rewrite hb hn _) fun h => by cases h)
end
end Go.Proofs.YtnpcilglilfajaaGreatDoor
namespace Go.Proofs.YtnpcilglilfajaaGreatDoor
open Go.RowKit
section
variable {P : Program} {n : NM} {w0 : Base} {X0 X : PMap} {own : Own} {env : Env}
def byteC (s : ByteArray) : List Value := s.data.toList.map fun b => .int .u8 (b.toNat : Int)
/-- []byte(s): a row that nobody writes. -/
theorem op_bytesOf {src dst e : TypeId} {x : Operand} {s : ByteArray} (hs : P.underlying src = some .string) (hd : P.underlying dst = some (.slice e)) (he : P.underlying e = some (.int .u8)) (hx : eev env x = some (.string s)) :
    OpX P n w0 X0 env own X (.convert src dst x) true fun u own' X' => ∃ b cap, u = .slice (some ⟨b, 0, none⟩) s.size cap ∧ own = own' ∧ X.le X' ∧ Blk X' b (byteC s) := by
  intro a W oper K Q ro hop ha hsat hK
  have hr := run_bytes_of_string (P := P) W src dst e s hs hd he
  have hex : (execOp a.eval oper).run P W = .ok (.value (.slice (some ⟨W.heap.size, 0, none⟩) s.size (grownCap W s.size 0 e))) (W.drew.alloc (.cells (bytesRow s (grownCap W s.size 0 e)) e ((bytesRow s (grownCap W s.size 0 e)).size, (bytesRow s (grownCap W s.size 0 e)).size + 1))) := by
    simp [execOp, hop, ha.eval hx, hr]
  have h1 := hsat.draw (W.drawn + 1)
  have h2 := h1.lay (.cells (bytesRow s (grownCap W s.size 0 e)) e ((bytesRow s (grownCap W s.size 0 e)).size, (bytesRow s (grownCap W s.size 0 e)).size + 1))
  refine wp_value (noDefer_spec (by rw [hop]; rfl)) hex (hK _ _ _ _ ⟨_, _, rfl, rfl, PMap.le_add (PMap.le_refl _) hsat.stab.pers.fresh, ?_⟩ h2 fun _ => ?_)
  · have e1 : bytesRow s (grownCap W s.size 0 e) = (byteC s ++ List.replicate (grownCap W s.size 0 e - s.size) (Value.int .u8 0)).toArray := by
      apply Array.ext'
      simp [bytesRow, byteC]
    refine ⟨List.replicate (grownCap W s.size 0 e - s.size) (Value.int .u8 0), e, ((bytesRow s (grownCap W s.size 0 e)).size, (bytesRow s (grownCap W s.size 0 e)).size + 1), ?_⟩
    rw [← e1]
    exact PMap.add_at
  · have := Grow.alloc W.drew (.cells (bytesRow s (grownCap W s.size 0 e)) e ((bytesRow s (grownCap W s.size 0 e)).size, (bytesRow s (grownCap W s.size 0 e)).size + 1))
    exact ⟨this.size, this.same⟩
end
end Go.Proofs.YtnpcilglilfajaaGreatDoor
namespace Go.Proofs.YtnpcilglilfajaaGreatDoor
section
set_option maxRecDepth 100000
theorem en150 : Enters Tryz.prog 150 := enters_mk Tryz.func150 (by kernel_rfl) rfl
theorem en97 : Enters Tryz.prog 97 := enters_mk Tryz.func97 (by kernel_rfl) rfl
theorem en99 : Enters Tryz.prog 99 := enters_mk Tryz.func99 (by kernel_rfl) rfl
end
open Go.RowKit
def byN (s : ByteArray) : List Nat := s.data.toList.map (·.toNat)
theorem byN_C (s : ByteArray) : byteC s = bytesC (byN s) := by simp [byteC, bytesC, byN]
theorem byN_len (s : ByteArray) : (byN s).length = s.size := by simp [byN]
theorem SpecM.mono {P : Program} {f : FuncId} {vs : List Value} {X : PMap} {L : Own} {Φ Ψ : Value → Own → PMap → Prop} (h : SpecM P f vs X L Φ) (hk : ∀ v L' X', X.le X' → Φ v L' X' → Ψ v L' X') : SpecM P f vs X L Ψ :=
  fun w0 X0 own0 W hs => (h w0 X0 own0 W hs).mono fun _ _ ⟨v, L', X', he, hsat, hX, hΦ⟩ => ⟨v, L', X', he, hsat, hX, hk v L' X' hX hΦ⟩
abbrev WrO (b : Nat) (sv : Value) : Ow := ⟨b, [sv], 231, 1⟩
def WrS (sv : Value) (l : List Nat) (G : Own) : Prop := GrowS 5 1 sv l.length (bytesC l) G
theorem rawW2_spec {X : PMap} {bw : Nat} {sv p : Value} {a l : List Nat} {G : Own} (hG : WrS sv a G) (hp : BytesR X p l) (h0 : 0 < l.length) (hl : a.length + l.length < 1000000000) :
    SpecM Tryz.prog 148 [.pointer (some ⟨bw, 0, none⟩), p] X (WrO bw sv :: G) fun _ L' _ => ∃ sv' G', L' = WrO bw sv' :: G' ∧ WrS sv' (a ++ l) G' := by
  refine SpecM.mono (rawW_spec hG hp rfl h0 hl) ?_
  rintro _ _ _ _ ⟨sv', G', rfl, h⟩
  exact ⟨sv', G', rfl, by rw [WrS, List.length_append, bytesC_append]; exact h⟩
theorem uintW2_spec {X : PMap} {bw : Nat} {sv : Value} {l : List Nat} {G : Own} {n : Nat} (hn : n < 18446744073709551616) (hG : WrS sv l G) (hl : l.length < 900000000) :
    SpecM Tryz.prog 97 [.pointer (some ⟨bw, 0, none⟩), .int .u64 (n : Int)] X (WrO bw sv :: G) fun _ L' _ => ∃ sv' G', L' = WrO bw sv' :: G' ∧ WrS sv' (l ++ numB n) G' := by
  refine SpecM.mono (uintW_spec hn hG hl) ?_
  rintro _ _ _ _ ⟨sv', G', rfl, h⟩
  exact ⟨sv', G', rfl, by rw [WrS, List.length_append]; exact h⟩
theorem flagW_spec {X : PMap} {bw : Nat} {sv : Value} {l : List Nat} {G : Own} {b : Bool} (hG : WrS sv l G) (hl : l.length < 900000000) :
    SpecM Tryz.prog 96 [.pointer (some ⟨bw, 0, none⟩), .bool b] X (WrO bw sv :: G) fun _ L' _ => ∃ sv' G', L' = WrO bw sv' :: G' ∧ WrS sv' (l ++ [if b then 1 else 0]) G' := by
  cases b with
  | true =>
    refine SpecM.enter Tryz.func96 rfl Tryz.ntmps96 rfl ?_
    intro w0 X0 own0
    refine T.seq <| T.seq <| T.region <| SL.mv rfl <| SL.nil <| T.condT rfl <| T.seq <| T.region <| SL.mv rfl <| SL.w (op_buildSlice Tryz.underlying44 bs5 (qs := [(0, _)]) rfl rfl rfl rfl rfl) ?_
    rintro _ _ _ ⟨B6, rfl, rfl, rfl⟩
    refine T.pubAt B6 (by repeat constructor) ?_
    intro X1 hX1 hB6 _
    refine SL.w (op_callM en148 (vs := [_, _]) rfl (rawW2_spec (l := [1]) hG (.inr ⟨by decide, B6, 1, [], rfl, hB6⟩) (by decide) (by simp; omega)) rfl) ?_
    rintro _ _ X2 ⟨_, rfl, hX2, sv2, G2, rfl, hG2⟩
    refine SL.nil <| T.retM0 (WrO bw sv2 :: G2) rfl (List.Perm.refl _) ?_
    exact ⟨hX1.trans' hX2, sv2, G2, rfl, hG2⟩
  | false =>
    refine SpecM.enter Tryz.func96 rfl Tryz.ntmps96 rfl ?_
    intro w0 X0 own0
    refine T.seq <| T.seq <| T.region <| SL.mv rfl <| SL.nil <| T.condF rfl <| T.skip <| T.region <| SL.mv rfl <| SL.w (op_buildSlice Tryz.underlying44 bs5 (qs := [(0, _)]) rfl rfl rfl rfl rfl) ?_
    rintro _ _ _ ⟨B9, rfl, rfl, rfl⟩
    refine T.pubAt B9 (by repeat constructor) ?_
    intro X1 hX1 hB9 _
    refine SL.w (op_callM en148 (vs := [_, _]) rfl (rawW2_spec (l := [0]) hG (.inr ⟨by decide, B9, 1, [], rfl, hB9⟩) (by decide) (by simp; omega)) rfl) ?_
    rintro _ _ X2 ⟨_, rfl, hX2, sv2, G2, rfl, hG2⟩
    refine SL.nil <| T.doneM0 (WrO bw sv2 :: G2) rfl (List.Perm.refl _) ?_
    exact ⟨hX1.trans' hX2, sv2, G2, rfl, hG2⟩
theorem bytesW_spec {X : PMap} {bw : Nat} {sv p : Value} {a l : List Nat} {G : Own} (hG : WrS sv a G) (hp : BytesR X p l) (h0 : 0 < l.length) (hl : a.length + l.length < 800000000) :
    SpecM Tryz.prog 150 [.pointer (some ⟨bw, 0, none⟩), p] X (WrO bw sv :: G) fun _ L' _ => ∃ sv' G', L' = WrO bw sv' :: G' ∧ WrS sv' (a ++ numB l.length ++ l) G' := by
  obtain ⟨A, cp, rfl⟩ := hp.form
  have hnl := numB_len (n := l.length) (by omega)
  refine SpecM.enter Tryz.func150 rfl Tryz.ntmps150 rfl ?_
  intro w0 X0 own0
  refine T.seq <| T.region <| SL.mv rfl <| SL.mv rfl <| SL.v (op_lenS Tryz.underlying44 rfl) <| SL.v (op_convU64 Tryz.underlying3 Tryz.underlying58 rfl (by omega) (by omega)) ?_
  refine SL.w (op_callM en97 (vs := [_, _]) rfl (uintW2_spec (n := l.length) (by omega) hG (by omega)) rfl) ?_
  rintro _ _ X1 ⟨_, rfl, hX1, sv1, G1, rfl, hG1⟩
  refine SL.nil <| T.region <| SL.mv rfl <| SL.mv rfl <| SL.w (op_callM en148 (vs := [_, _]) rfl (rawW2_spec hG1 (hp.mono hX1) h0 (by rw [List.length_append]; omega)) rfl) ?_
  rintro _ _ X2 ⟨_, rfl, hX2, sv2, G2, rfl, hG2⟩
  refine SL.nil <| T.doneM0 (WrO bw sv2 :: G2) rfl (List.Perm.refl _) ?_
  exact ⟨hX1.trans' hX2, sv2, G2, rfl, hG2⟩
theorem strW_spec {X : PMap} {bw : Nat} {sv : Value} {a : List Nat} {s : ByteArray} {G : Own} (hG : WrS sv a G) (h0 : 0 < s.size) (hl : a.length + s.size < 800000000) :
    SpecM Tryz.prog 98 [.pointer (some ⟨bw, 0, none⟩), .string s] X (WrO bw sv :: G) fun _ L' _ => ∃ sv' G', L' = WrO bw sv' :: G' ∧ WrS sv' (a ++ numB s.size ++ byN s) G' := by
  refine SpecM.enter Tryz.func98 rfl Tryz.ntmps98 rfl ?_
  intro w0 X0 own0
  refine T.region <| SL.mv rfl <| SL.mv rfl <| SL.w (op_bytesOf Tryz.underlying9 Tryz.underlying44 Tryz.underlying5 rfl) ?_
  rintro _ _ X1 ⟨b6, c6, rfl, rfl, hX1, hB6⟩
  rw [byN_C] at hB6
  have hlen := byN_len s
  rw [← hlen] at h0 hl ⊢
  refine SL.w (op_callM en150 (vs := [_, _]) rfl (bytesW_spec (l := byN s) hG (.inr ⟨h0, b6, c6, [], rfl, hB6⟩) h0 (by omega)) rfl) ?_
  rintro _ _ X2 ⟨_, rfl, hX2, sv2, G2, rfl, hG2⟩
  refine SL.nil <| T.doneM0 (WrO bw sv2 :: G2) rfl (List.Perm.refl _) ?_
  exact ⟨hX1.trans' hX2, sv2, G2, rfl, hG2⟩
mutual
/-- The bytes of a formula. -/
def encF : Fm → List Nat
  | .mk op n rs al => numB op ++ (numB n.toNat ++ (numB rs.length ++ ((rs.map numB).flatten ++ (numB al.length ++ encFL al))))
def encFL : List Fm → List Nat
  | [] => []
  | a :: al => encF a ++ encFL al
end
theorem encFL_app (b : List Fm) : ∀ l : List Fm, encFL (l ++ b) = encFL l ++ encFL b
  | [] => by simp [encFL]
  | a :: l => by rw [List.cons_append, encFL, encFL, encFL_app b l, List.append_assoc]
mutual
def nokF : Fm → Prop
  | .mk op n rs al => op < 256 ∧ 0 ≤ n ∧ n < 1000000 ∧ (∀ r ∈ rs, r < 64) ∧ nokFL al
def nokFL : List Fm → Prop
  | [] => True
  | a :: al => nokF a ∧ nokFL al
end
theorem nokFL_mem {a : Fm} : ∀ {l : List Fm}, nokFL l → a ∈ l → nokF a
  | x :: l, h, hm => by
    rw [nokFL] at h
    rcases List.mem_cons.1 hm with rfl | hm
    · exact h.1
    · exact nokFL_mem h.2 hm
theorem nokFL_take : ∀ {l : List Fm} {i : Nat}, nokFL l → nokFL (l.take i)
  | [], _, h => by rw [List.take_nil]; exact h
  | a :: l, 0, _ => trivial
  | a :: l, i + 1, h => ⟨h.1, nokFL_take h.2⟩
mutual
theorem insF_nok {kind : Nat} : ∀ f : Fm, insF kind f = 0 → nokF f
  | .mk op n rs al, h => by
    obtain ⟨h1, _, h3⟩ := insF_ok h
    obtain ⟨a1, a2, _, _, _, _, a3, a4, a5, _⟩ := ownF_ok h1
    exact ⟨by omega, a3, by omega, fun r hr => by have := a5 r hr; omega, insFL_nok al h3⟩
theorem insFL_nok {kind : Nat} : ∀ l : List Fm, insFL kind l = 0 → nokFL l
  | [], _ => trivial
  | a :: l, h => by
    have h0 := insFL_zero h a (by simp)
    rw [insFL, if_neg (by simp [h0])] at h
    exact ⟨insF_nok a h0, insFL_nok l h⟩
end
theorem flatB_len {l : List Nat} (h : ∀ r ∈ l, r < 64) : ((l.map numB).flatten).length ≤ 10 * l.length := by
  induction l with
  | nil => simp
  | cons r l ih =>
    have := numB_len (n := r) (by have := h r (by simp); omega)
    have := ih fun q hq => h q (by simp [hq])
    simp only [List.map_cons, List.flatten_cons, List.length_append, List.length_cons]; omega
mutual
theorem encF_len : ∀ f : Fm, nokF f → wtF f < 1000000 → (encF f).length ≤ 40 * wtF f
  | .mk op n rs al, h, hw => by
    rw [nokF] at h
    obtain ⟨h1, h2, h3, h4, h5⟩ := h
    have q := wtFL_len al
    rw [wtF] at hw ⊢
    have a1 := numB_len (n := op) (by omega)
    have a2 := numB_len (n := n.toNat) (by omega)
    have a3 := numB_len (n := rs.length) (by omega)
    have a4 := numB_len (n := al.length) (by omega)
    have a5 := flatB_len h4
    have a6 := encFL_len al h5 (by omega)
    rw [encF]
    simp only [List.length_append]; omega
theorem encFL_len : ∀ l : List Fm, nokFL l → wtFL l < 1000000 → (encFL l).length ≤ 40 * wtFL l
  | [], _, _ => by simp [encFL]
  | a :: l, h, hw => by
    rw [nokFL] at h
    rw [wtFL] at hw ⊢
    have := encF_len a h.1 (by omega)
    have := encFL_len l h.2 (by omega)
    rw [encFL, List.length_append]; omega
end
theorem write_spec (N : Nat) : ∀ {X : PMap} {f : Fm} {r : Row4} {bw : Nat} {sv : Value} {l : List Nat} {G : Own}, wtF f ≤ N → N < 1000000 → nokF f → l.length + 40 * wtF f < 700000000 → WrS sv l G → FmR .u8 X f r → SpecM Tryz.prog 99 [.agg #[r.1, r.2.1, r.2.2.1, r.2.2.2], .pointer (some ⟨bw, 0, none⟩)] X (WrO bw sv :: G) fun _ L' _ => ∃ sv' G', L' = WrO bw sv' :: G' ∧ WrS sv' (l ++ encF f) G' := by
  induction N with
  | zero => intro X f r bw sv l G h; have := wtF_pos f; omega
  | succ N ih =>
    intro X f r bw sv l G hN hB hok hll hG h
    cases h with
    | @mk op n rs al vn va rows hn ha hl hr =>
    obtain ⟨Aa, ca, rfl⟩ := ha.form
    obtain ⟨An, cn, rfl⟩ := hn.form
    have hlen := wtFL_len al
    rw [nokF] at hok
    obtain ⟨h1, h2, h3, h4, h5⟩ := hok
    rw [wtF] at hN hll
    obtain ⟨m, rfl⟩ : ∃ m : Nat, n = (m : Int) := ⟨n.toNat, by omega⟩
    have a1 := numB_len (n := op) (by omega)
    have a2 := numB_len (n := m) (by omega)
    have a3 := numB_len (n := rs.length) (by omega)
    have a4 := numB_len (n := al.length) (by omega)
    have a5 := flatB_len h4
    rw [encF]
    refine SpecM.enter Tryz.func99 rfl Tryz.ntmps99 rfl ?_
    intro w0 X0 own0
    refine T.seq <| T.region <| SL.w (op_box rfl) ?_
    rintro _ _ _ ⟨B2, rfl, rfl, rfl⟩
    refine SL.nil <| T.seq <| T.region <| T.pubAt B2 (by repeat constructor) ?_
    intro X1 hX1 hB2 _
    refine SL.mv rfl <| SL.v (op_fieldAddr fa36_0 rfl) <| SL.v (op_loadX ty33 rfl (by assumption) rfl) ?_
    refine SL.v (op_convU64 Tryz.underlying33 Tryz.underlying58 rfl (by omega) (by omega)) ?_
    refine SL.w (op_callM en97 (vs := [_, _]) rfl (uintW2_spec (n := op) (by omega) hG (by omega)) rfl) ?_
    rintro _ _ X2 ⟨_, rfl, hX2, sv2, G2, rfl, hG2⟩
    have hB2 := hB2.mono hX2
    refine SL.nil <| T.seq <| T.region <| SL.mv rfl <| SL.v (op_fieldAddr fa36_1 rfl) <| SL.v (op_loadX ty3 rfl (by assumption) rfl) ?_
    refine SL.v (op_convU64 Tryz.underlying3 Tryz.underlying58 rfl (by omega) (by omega)) ?_
    refine SL.w (op_callM en97 (vs := [_, _]) rfl (uintW2_spec (n := m) (by omega) hG2 (by rw [List.length_append]; omega)) rfl) ?_
    rintro _ _ X3 ⟨_, rfl, hX3, sv3, G3, rfl, hG3⟩
    have hB2 := hB2.mono hX3
    refine SL.nil <| T.seq <| T.region <| SL.mv rfl <| SL.v (op_fieldAddr fa36_2 rfl) <| SL.v (op_loadX ty24 rfl (by assumption) rfl) ?_
    refine SL.v (op_lenS Tryz.underlying24 rfl) <| SL.v (op_convU64 Tryz.underlying3 Tryz.underlying58 rfl (by omega) (by omega)) ?_
    refine SL.w (op_callM en97 (vs := [_, _]) rfl (uintW2_spec (n := rs.length) (by omega) hG3 (by simp only [List.length_append]; omega)) rfl) ?_
    rintro _ _ X4 ⟨_, rfl, hX4, sv4, G4, rfl, hG4⟩
    have hB2 := hB2.mono hX4
    have hX04 := ((hX1.trans' hX2).trans' hX3).trans' hX4
    obtain ⟨L3, hL3⟩ : ∃ L3, L3 = l ++ numB op ++ numB m ++ numB rs.length := ⟨_, rfl⟩
    have hL3l : L3.length ≤ l.length + 30 := by rw [hL3]; simp only [List.length_append]; omega
    rw [← hL3] at hG4
    refine SL.nil <| T.seq <| T.seq <| T.region <| SL.v (op_fieldAddr fa36_2 rfl) <| SL.v (op_loadX ty24 rfl (by assumption) rfl) ?_
    refine SL.v (op_lenS Tryz.underlying24 rfl) <| SL.v (op_move (v := .int .i64 ((0 : Nat) : Int)) rfl) <| SL.nil <| T.block <| T.loopW (fun q env own X' => ∃ (i : Nat) (sv : Value) (G : Own), q = rs.length - i ∧ i ≤ rs.length ∧ X4.le X' ∧ WrS sv (L3 ++ ((rs.take i).map numB).flatten) G ∧ env = [(1, .pointer (some ⟨bw, 0, none⟩)), (2, .pointer (some ⟨B2, 0, none⟩)), (25, .slice An rs.length cn), (26, .int .i64 (rs.length : Int)), (27, .int .i64 (i : Int))] ∧ own = WrO bw sv :: G ++ own0) rs.length ⟨0, sv4, G4, by simp, by omega, PMap.le_refl _, by simpa using hG4, rfl, rfl⟩ (by repeat (first | exact Sub.nil | refine Sub.cons rfl ?_)) ?_
    rintro q _ _ X5 ⟨i, sv5, G5, rfl, hi, hX5, hG5, rfl, rfl⟩
    have hB2 := hB2.mono hX5
    have a6 := flatB_len (l := rs.take i) fun r hr => h4 r (List.mem_of_mem_take hr)
    have a7 : (rs.take i).length ≤ rs.length := by rw [List.length_take]; omega
    rcases Nat.lt_or_ge i rs.length with hil | hil
    · obtain ⟨b, rfl, hB⟩ := hn.blk (by omega)
      have htk : rs.take (i + 1) = rs.take i ++ [rs[i]] := List.take_succ_eq_append_getElem hil
      have hri := h4 _ (List.getElem_mem hil)
      refine T.seq <| T.region <| SL.v (op_lssT rfl rfl (by omega)) ?_
      refine SL.nil <| T.seq <| T.condT rfl <| T.skip <| T.seq <| T.block <| T.seq <| T.region <| SL.v (op_indexN Tryz.underlying24 ty3 rfl rfl (by omega)) ?_
      refine SL.v (op_loadX ty3 rfl ((hB.mono hX04).mono hX5) (cread1 (ints_get rs i hil))) <| SL.as rfl <| SL.nil <| T.region <| SL.mv rfl <| SL.mv rfl <| SL.v (op_convU64 Tryz.underlying3 Tryz.underlying58 rfl (by omega) (by omega)) ?_
      refine SL.w (op_callM en97 (vs := [_, _]) rfl (uintW2_spec (n := rs[i]) (by omega) hG5 (by simp only [List.length_append]; omega)) rfl) ?_
      rintro _ _ X6 ⟨_, rfl, hX6, sv6, G6, rfl, hG6⟩
      refine SL.nil <| T.blk <| T.region <| SL.v (op_addN (q := 1) rfl rfl (by omega)) ?_
      refine SL.mv rfl <| SL.nil ?_
      exact T.backW (rs.length - (i + 1)) (by omega) ⟨i + 1, sv6, G6, rfl, by omega, hX5.trans' hX6, by rw [htk, List.map_append, List.flatten_append, List.map_singleton, List.flatten_singleton, ← List.append_assoc]; exact hG6, rfl, rfl⟩ (by repeat (first | exact Sub.nil | refine Sub.cons rfl ?_))
    obtain rfl : i = rs.length := by omega
    rw [List.take_of_length_le (Nat.le_refl _)] at hG5 a6
    have hX05 := hX04.trans' hX5
    refine T.seq <| T.region <| SL.v (op_lssF rfl rfl (by omega)) ?_
    refine SL.nil <| T.seq <| T.condF rfl ?_
    refine T.exit (T.exitCode (T.exitCut (T.exitBlk ?_)))
    refine T.seq <| T.region <| SL.mv rfl <| SL.v (op_fieldAddr fa36_3 rfl) <| SL.v (op_loadX ty34 rfl (by assumption) rfl) ?_
    refine SL.v (op_lenS Tryz.underlying34 rfl) <| SL.v (op_convU64 Tryz.underlying3 Tryz.underlying58 rfl (by omega) (by omega)) ?_
    refine SL.w (op_callM en97 (vs := [_, _]) rfl (uintW2_spec (n := rows.length) (by omega) hG5 (by simp only [List.length_append]; omega)) rfl) ?_
    rintro _ _ X6 ⟨_, rfl, hX6, sv6, G6, rfl, hG6⟩
    have hB2 := hB2.mono hX6
    have hX06 := hX05.trans' hX6
    obtain ⟨L5, hL5⟩ : ∃ L5, L5 = L3 ++ (rs.map numB).flatten ++ numB rows.length := ⟨_, rfl⟩
    have hL5l : L5.length ≤ l.length + 40 + 10 * rs.length := by rw [hL5, hl]; simp only [List.length_append]; omega
    rw [← hL5] at hG6
    refine SL.nil <| T.seq <| T.region <| SL.v (op_fieldAddr fa36_3 rfl) <| SL.v (op_loadX ty34 rfl (by assumption) rfl) ?_
    refine SL.v (op_lenS Tryz.underlying34 rfl) <| SL.v (op_move (v := .int .i64 ((0 : Nat) : Int)) rfl) <| SL.nil <| T.block <| T.loopW (fun q env own X' => ∃ (i : Nat) (sv : Value) (G : Own), q = rows.length - i ∧ i ≤ rows.length ∧ X6.le X' ∧ WrS sv (L5 ++ encFL (al.take i)) G ∧ env = [(1, .pointer (some ⟨bw, 0, none⟩)), (43, .slice Aa rows.length ca), (44, .int .i64 (rows.length : Int)), (45, .int .i64 (i : Int))] ∧ own = WrO bw sv :: G ++ own0) rows.length ⟨0, sv6, G6, by simp, by omega, PMap.le_refl _, by simpa [encFL] using hG6, rfl, rfl⟩ (by repeat (first | exact Sub.nil | refine Sub.cons rfl ?_)) ?_
    rintro q _ _ X7 ⟨i, sv7, G7, rfl, hi, hX7, hG7, rfl, rfl⟩
    have hX07 := hX06.trans' hX7
    rcases Nat.lt_or_ge i rows.length with hil | hil
    · obtain ⟨r2, hr2⟩ : ∃ r2, rows[i]? = some r2 := ⟨_, List.getElem?_eq_getElem hil⟩
      obtain ⟨a, ha2⟩ : ∃ a, al[i]? = some a := ⟨_, List.getElem?_eq_getElem (by omega)⟩
      have hma := List.mem_of_getElem? ha2
      have hra := (hr i a r2 ha2 hr2).mono hX07
      obtain ⟨bA, pre, rfl, hbA⟩ := ha.blk (by omega)
      have hwa := wtFL_mem hma
      have hts := take_snoc ha2
      have hw1 : wtFL (al.take (i + 1)) ≤ wtFL al := by
        have := wtFL_app (al.drop (i + 1)) (al.take (i + 1))
        rw [List.take_append_drop] at this; omega
      have hw2 : wtFL (al.take (i + 1)) = wtFL (al.take i) + wtF a := by rw [hts, wtFL_snoc]
      have hnt : nokFL (al.take i) := nokFL_take h5
      have hel := encFL_len (al.take i) hnt (by omega)
      have hih := fun {X' : PMap} (hX : X7.le X') => ih (bw := bw) (by omega) (by omega) (nokFL_mem h5 hma) (by simp only [List.length_append]; omega) hG7 (hra.mono hX)
      obtain ⟨_, _, _, _, _, _, _, _, rfl⟩ := hra.form
      try simp only at hih
      refine T.seq <| T.region <| SL.v (op_lssT rfl rfl (by omega)) ?_
      refine SL.nil <| T.seq <| T.condT rfl <| T.skip <| T.seq <| T.block <| T.seq <| T.region <| SL.v (op_indexN Tryz.underlying34 ty36 rfl rfl (by omega)) ?_
      refine SL.v (op_loadX ty36 rfl (hbA.mono hX07) (row_read rc4_len hr2 (by omega))) ?_
      refine SL.w (op_alloc z36) ?_
      rintro _ _ _ ⟨B7, rfl, rfl, rfl⟩
      refine SL.w (op_store ty36 rfl rfl (by repeat constructor) rfl rfl rfl) ?_
      rintro _ _ _ ⟨rfl, rfl⟩
      refine SL.nil <| T.region <| T.pubAt B7 (by repeat constructor) ?_
      intro X8 hX8 hB7 _
      refine SL.v (op_loadX ty36 rfl (by assumption) rfl) ?_
      refine SL.mv rfl <| SL.w (op_callM en99 (vs := [_, _]) rfl (hih hX8) rfl) ?_
      rintro _ _ X9 ⟨_, rfl, hX9, sv9, G9, rfl, hG9⟩
      refine SL.nil <| T.blk <| T.region <| SL.v (op_addN (q := 1) rfl rfl (by omega)) ?_
      refine SL.mv rfl <| SL.nil ?_
      exact T.backW (rows.length - (i + 1)) (by omega) ⟨i + 1, sv9, G9, rfl, by omega, (hX7.trans' hX8).trans' hX9, by rw [hts, encFL_app, encFL, encFL, List.append_nil, ← List.append_assoc]; exact hG9, rfl, rfl⟩ (by repeat (first | exact Sub.nil | refine Sub.cons rfl ?_))
    · obtain rfl : i = rows.length := by omega
      rw [List.take_of_length_le (by omega)] at hG7
      refine T.seq <| T.region <| SL.v (op_lssF rfl rfl (by omega)) ?_
      refine SL.nil <| T.seq <| T.condF rfl ?_
      refine T.exit (T.exitCode (T.exitCut (T.exitBlk ?_)))
      refine T.doneM0 (WrO bw sv7 :: G7) rfl (List.Perm.refl _) ?_
      refine ⟨hX07, sv7, G7, rfl, ?_⟩
      rw [hL5, hL3, hl] at hG7
      simp only [List.append_assoc] at hG7 ⊢
      exact hG7
end Go.Proofs.YtnpcilglilfajaaGreatDoor
namespace Go.Proofs.YtnpcilglilfajaaGreatDoor
section
set_option maxRecDepth 100000
theorem en100 : Enters Tryz.prog 100 := enters_mk Tryz.func100 (by kernel_rfl) rfl
theorem en18 : Enters Tryz.prog 18 := enters_mk Tryz.func18 (by kernel_rfl) rfl
theorem en47 : Enters Tryz.prog 47 := enters_mk Tryz.func47 (by kernel_rfl) rfl
theorem en95 : Enters Tryz.prog 95 := enters_mk Tryz.func95 (by kernel_rfl) rfl
theorem en96 : Enters Tryz.prog 96 := enters_mk Tryz.func96 (by kernel_rfl) rfl
theorem en98 : Enters Tryz.prog 98 := enters_mk Tryz.func98 (by kernel_rfl) rfl
theorem fa101_0 : FAdr Tryz.prog 101 0 0 := fadr_mk Tryz.underlying101 rfl rfl (by kernel_rfl)
theorem fa101_1 : FAdr Tryz.prog 101 1 1 := fadr_mk Tryz.underlying101 rfl rfl (by kernel_rfl)
theorem fa101_2 : FAdr Tryz.prog 101 2 2 := fadr_mk Tryz.underlying101 rfl rfl (by kernel_rfl)
theorem fa101_3 : FAdr Tryz.prog 101 3 3 := fadr_mk Tryz.underlying101 rfl rfl (by kernel_rfl)
theorem ty101 : Ty Tryz.prog 101 true 7 := ⟨⟨_, Tryz.underlying101, rfl⟩, by kernel_rfl⟩
end
open Go.RowKit
/-- What is wrong with a constraint. -/
noncomputable def chkC18 (kind : Nat) (name : ByteArray) (f : Fm) : Int := if kind < 1 ∨ 3 < kind then 1 else if ¬validS name then 9 else chkF kind f
def enc18 (enf : Bool) (kind : Nat) (name : ByteArray) (f : Fm) : List Nat := [if enf then 1 else 0] ++ numB kind ++ numB name.size ++ byN name ++ encF f
theorem conchk_spec {X : PMap} {enf : Bool} {kind : Nat} {name : ByteArray} {f : Fm} {r : Row4} (hw : wtF f < 1000000) (hk : kind < 256) (h : FmR .u8 X f r) : Spec Tryz.prog 47 [.agg #[.bool enf, .int .u8 (kind : Int), .string name, r.1, r.2.1, r.2.2.1, r.2.2.2]] X fun u _ => u = .int .i64 (chkC18 kind name f) := by
  have hc1 := fun {X' : PMap} (hX : X.le X') => fchk_spec (kind := kind) hw hk (h.mono hX)
  obtain ⟨o, n, A, B, l, c, l', c', rfl⟩ := h.form
  try simp only at hc1
  rw [chkC18]
  by_cases k1 : kind < 1
  · rw [if_pos (.inl k1)]
    refine Spec.enter Tryz.func47 rfl Tryz.ntmps47 rfl ?_
    intro w0 hw0
    refine T.seq <| T.region <| SL.w (op_box rfl) ?_
    rintro _ _ _ ⟨B1, rfl, rfl, rfl⟩
    refine SL.v (op_assign (v := .int .i64 ((0 : Nat) : Int)) rfl) <| SL.nil <| T.seq <| T.block <| T.seq <| T.region <| SL.v (op_fieldAddr fa101_1 rfl) <| SL.v (op_load ty41 rfl (by repeat constructor) rfl) ?_
    refine SL.v (op_lssT rfl rfl (by omega)) ?_
    refine SL.mv rfl <| SL.skip rfl rfl ?_
    refine SL.skip rfl rfl ?_
    refine SL.skip rfl rfl ?_
    refine SL.v (op_pickT rfl rfl) <| SL.as rfl <| SL.nil <| T.condT rfl <| T.seq <| T.region <| SL.v (op_assign (v := .int .i64 ((1 : Nat) : Int)) rfl) <| SL.nil <| T.ret1 rfl (ResIs.tmp rfl) ?_
    rfl
  by_cases k2 : 3 < kind
  · rw [if_pos (.inr k2)]
    refine Spec.enter Tryz.func47 rfl Tryz.ntmps47 rfl ?_
    intro w0 hw0
    refine T.seq <| T.region <| SL.w (op_box rfl) ?_
    rintro _ _ _ ⟨B1, rfl, rfl, rfl⟩
    refine SL.v (op_assign (v := .int .i64 ((0 : Nat) : Int)) rfl) <| SL.nil <| T.seq <| T.block <| T.seq <| T.region <| SL.v (op_fieldAddr fa101_1 rfl) <| SL.v (op_load ty41 rfl (by repeat constructor) rfl) ?_
    refine SL.v (op_lssF rfl rfl (by omega)) ?_
    refine SL.mv rfl <| SL.v (op_fieldAddr fa101_1 rfl) <| SL.v (op_load ty41 rfl (by repeat constructor) rfl) ?_
    refine SL.v (op_gtrT rfl rfl (by omega)) ?_
    refine SL.v (op_pickF rfl rfl) <| SL.as rfl <| SL.nil <| T.condT rfl <| T.seq <| T.region <| SL.v (op_assign (v := .int .i64 ((1 : Nat) : Int)) rfl) <| SL.nil <| T.ret1 rfl (ResIs.tmp rfl) ?_
    rfl
  rw [if_neg (fun h => h.elim k1 k2)]
  refine Spec.enter Tryz.func47 rfl Tryz.ntmps47 rfl ?_
  intro w0 hw0
  refine T.seq <| T.region <| SL.w (op_box rfl) ?_
  rintro _ _ _ ⟨B1, rfl, rfl, rfl⟩
  refine SL.v (op_assign (v := .int .i64 ((0 : Nat) : Int)) rfl) <| SL.nil <| T.seq <| T.block <| T.seq <| T.region <| SL.v (op_fieldAddr fa101_1 rfl) <| SL.v (op_load ty41 rfl (by repeat constructor) rfl) ?_
  refine SL.v (op_lssF rfl rfl (by omega)) ?_
  refine SL.mv rfl <| SL.v (op_fieldAddr fa101_1 rfl) <| SL.v (op_load ty41 rfl (by repeat constructor) rfl) ?_
  refine SL.v (op_gtrF rfl rfl (by omega)) ?_
  refine SL.v (op_pickF rfl rfl) <| SL.as rfl <| SL.nil <| T.condF rfl <| T.seq <| T.region <| SL.v (op_fieldAddr fa101_2 rfl) <| SL.v (op_load ty9 rfl (by repeat constructor) rfl) ?_
  refine SL.w (op_callF en94 (vs := [_]) rfl (nvalid_spec)) ?_
  rintro _ _ X1 ⟨rfl, hX1, rfl⟩
  by_cases hv : validS name
  case neg =>
    rw [decide_eq_false hv, if_pos hv]
    refine SL.v (op_not rfl) <| SL.as rfl <| SL.nil <| T.condT rfl <| T.seq <| T.region <| SL.v (op_assign (v := .int .i64 ((9 : Nat) : Int)) rfl) <| SL.nil <| T.ret1 rfl (ResIs.tmp rfl) ?_
    rfl
  rw [decide_eq_true hv, if_neg (fun h => h hv)]
  refine SL.v (op_not rfl) <| SL.as rfl <| SL.nil <| T.condF rfl <| T.skip <| T.blk <| T.seq <| T.region <| SL.v (op_fieldAddr fa101_3 rfl) <| SL.v (op_load ty36 rfl (by repeat constructor) rfl) ?_
  refine SL.v (op_fieldAddr fa101_1 rfl) <| SL.v (op_load ty41 rfl (by repeat constructor) rfl) ?_
  refine SL.w (op_callF en18 (vs := [_, _]) rfl (hc1 hX1)) ?_
  rintro _ _ X2 ⟨rfl, hX2, rfl⟩
  refine SL.as rfl <| SL.nil <| T.ret1 rfl (ResIs.tmp rfl) ?_
  rfl
theorem chkC18_ok {kind : Nat} {name : ByteArray} {f : Fm} (h : chkC18 kind name f = 0) : 1 ≤ kind ∧ kind ≤ 3 ∧ validS name ∧ chkF kind f = 0 := by
  unfold chkC18 at h
  split at h
  · cases h
  · split at h
    · cases h
    · rename_i h1 h2
      exact ⟨by omega, by omega, Classical.not_not.1 h2, h⟩
theorem chkF_ins {kind : Nat} {f : Fm} (h : chkF kind f = 0) : insF kind f = 0 := by
  unfold chkF at h
  split at h
  · cases h
  · split at h
    · rename_i hl; exact absurd h hl
    · rename_i hl
      have hl := Classical.not_not.1 hl
      rw [lookF] at hl
      split at hl
      · cases hl
      · exact hl
theorem cbytes_spec {X : PMap} {enf : Bool} {kind : Nat} {name : ByteArray} {f : Fm} {r : Row4} (hw : wtF f < 20000) (hk : kind < 256) (h : FmR .u8 X f r) : Spec Tryz.prog 50 [.agg #[.bool enf, .int .u8 (kind : Int), .string name, r.1, r.2.1, r.2.2.1, r.2.2.2]] X fun u X' => if chkC18 kind name f = 0 then BytesR X' u (enc18 enf kind name f) else u = .slice none 0 0 := by
  have hc1 := fun {X' : PMap} (hX : X.le X') => conchk_spec (enf := enf) (name := name) (by omega) hk (h.mono hX)
  have hc2 := fun {X' : PMap} {bw : Nat} {sv : Value} {l : List Nat} {G : Own} (hn : nokF f) (hl : l.length + 40 * wtF f < 700000000) (hG : WrS sv l G) (hX : X.le X') => write_spec (bw := bw) (wtF f) (Nat.le_refl _) (by omega) hn hl hG (h.mono hX)
  obtain ⟨o, n, A, B, l, c, l', c', rfl⟩ := h.form
  try simp only at hc1
  try simp only at hc2
  by_cases hck : chkC18 kind name f = 0
  case neg =>
    refine Spec.enter Tryz.func50 rfl Tryz.ntmps50 rfl ?_
    intro w0 hw0
    refine T.seq <| T.region <| SL.w (op_box rfl) ?_
    rintro _ _ _ ⟨B1, rfl, rfl, rfl⟩
    refine SL.as rfl <| SL.nil <| T.seq <| T.seq <| T.region <| SL.v (op_load ty101 rfl (by repeat constructor) rfl) ?_
    refine SL.w (op_callF en47 (vs := [_]) rfl (hc1 (PMap.le_refl _))) ?_
    rintro _ _ X1 ⟨rfl, hX1, rfl⟩
    refine SL.v (op_neqT rfl rfl (by omega)) ?_
    refine SL.nil <| T.condT rfl <| T.seq <| T.region <| SL.as rfl <| SL.nil <| T.ret1 rfl (ResIs.tmp rfl) ?_
    rw [if_neg hck]
  obtain ⟨k1, k2, hv, hcf⟩ := chkC18_ok hck
  have hnok := insF_nok f (chkF_ins hcf)
  have hel := encF_len f hnok (by omega)
  have hsz : 0 < name.size ∧ name.size ≤ 12 := ⟨by have := hv.1; omega, hv.2.1⟩
  have a1 := numB_len (n := kind) (by omega)
  have a2 := numB_len (n := name.size) (by omega)
  have a3 := byN_len name
  refine Spec.enter Tryz.func50 rfl Tryz.ntmps50 rfl ?_
  intro w0 hw0
  refine T.seq <| T.region <| SL.w (op_box rfl) ?_
  rintro _ _ _ ⟨B1, rfl, rfl, rfl⟩
  refine SL.as rfl <| SL.nil <| T.seq <| T.seq <| T.region <| T.pubAt B1 (by repeat constructor) ?_
  intro Y1 hY1 hB1 _
  refine SL.v (op_loadX ty101 rfl (by assumption) rfl) ?_
  refine SL.w (op_callF en47 (vs := [_]) rfl (hc1 hY1)) ?_
  rintro _ _ X1 ⟨rfl, hX1, rfl⟩
  rw [hck]
  have hB1 := hB1.mono hX1
  refine SL.v (op_neqF rfl rfl (by omega)) ?_
  refine SL.nil <| T.condF rfl <| T.skip <| T.seq <| T.region <| SL.w (op_callO en95 (vs := []) rfl (newW_spec)) ?_
  rintro _ _ X2 ⟨_, rfl, hX2, bw, rfl, rfl⟩
  have hB1 := hB1.mono hX2
  refine SL.as rfl <| SL.nil <| T.seq <| T.region <| SL.mv rfl <| SL.v (op_fieldAddr fa101_0 rfl) <| SL.v (op_loadX ty4 rfl (by assumption) rfl) ?_
  refine SL.perm (own' := (WrO bw (.slice none 0 0) :: []) ++ []) (List.Perm.of_eq rfl) ?_
  refine SL.w (op_callM en96 (vs := [_, _]) rfl (flagW_spec (l := []) (GrowS.nil : WrS _ [] []) (by decide)) rfl) ?_
  rintro _ _ X3 ⟨_, rfl, hX3, sv3, G3, rfl, hG3⟩
  have hB1 := hB1.mono hX3
  refine SL.nil <| T.seq <| T.region <| SL.mv rfl <| SL.v (op_fieldAddr fa101_1 rfl) <| SL.v (op_loadX ty41 rfl (by assumption) rfl) ?_
  refine SL.v (op_convU64 Tryz.underlying41 Tryz.underlying58 rfl (by omega) (by omega)) ?_
  refine SL.w (op_callM en97 (vs := [_, _]) rfl (uintW2_spec (n := kind) (by omega) hG3 (by simp)) rfl) ?_
  rintro _ _ X4 ⟨_, rfl, hX4, sv4, G4, rfl, hG4⟩
  have hB1 := hB1.mono hX4
  refine SL.nil <| T.seq <| T.region <| SL.mv rfl <| SL.v (op_fieldAddr fa101_2 rfl) <| SL.v (op_loadX ty9 rfl (by assumption) rfl) ?_
  refine SL.w (op_callM en98 (vs := [_, _]) rfl (strW_spec (s := name) hG4 hsz.1 (by simp only [List.length_append, List.length_cons, List.length_nil]; omega)) rfl) ?_
  rintro _ _ X5 ⟨_, rfl, hX5, sv5, G5, rfl, hG5⟩
  have hB1 := hB1.mono hX5
  refine SL.nil <| T.seq <| T.region <| SL.v (op_fieldAddr fa101_3 rfl) <| SL.v (op_loadX ty36 rfl (by assumption) rfl) ?_
  refine SL.mv rfl <| SL.w (op_callM en99 (vs := [_, _]) rfl (hc2 hnok (by simp only [List.length_append, List.length_cons, List.length_nil]; omega) hG5 ((((hY1.trans' hX1).trans' hX2).trans' hX3).trans' (hX4.trans' hX5))) rfl) ?_
  rintro _ _ X6 ⟨_, rfl, hX6, sv6, G6, rfl, hG6⟩
  refine SL.nil <| T.seq <| T.region <| SL.mv rfl <| SL.perm (own' := [WrO bw sv6] ++ G6) (by simp) ?_
  refine T.pubGAt (own0 := [WrO bw sv6]) hG6 ?_
  intro X7 hX7 hS7
  refine T.pubAt bw (by repeat constructor) ?_
  intro X8 hX8 hB8 _
  refine SL.w (op_callF en100 (vs := [_]) rfl ((out_spec hB8 (BytesR.ofS (hS7.mono hX8)) (by simp only [List.length_append, List.length_cons, List.length_nil]; omega)).pubG)) ?_
  rintro u _ X9 ⟨rfl, hX9, hu⟩
  refine SL.as rfl <| SL.nil <| T.ret1 rfl (ResIs.tmp rfl) ?_
  rw [if_pos rfl]
  exact BytesR.ofS hu
end Go.Proofs.YtnpcilglilfajaaGreatDoor
namespace Go.Proofs.YtnpcilglilfajaaGreatDoor
section
set_option maxRecDepth 100000
theorem en119 : Enters Tryz.prog 119 := enters_mk Tryz.func119 (by kernel_rfl) rfl
theorem en120 : Enters Tryz.prog 120 := enters_mk Tryz.func120 (by kernel_rfl) rfl
theorem en161 : Enters Tryz.prog 161 := enters_mk Tryz.func161 (by kernel_rfl) rfl
theorem en162 : Enters Tryz.prog 162 := enters_mk Tryz.func162 (by kernel_rfl) rfl
theorem fa166_0 : FAdr Tryz.prog 166 0 0 := fadr_mk Tryz.underlying166 rfl rfl (by kernel_rfl)
theorem fa166_1 : FAdr Tryz.prog 166 1 1 := fadr_mk Tryz.underlying166 rfl rfl (by kernel_rfl)
theorem z166 : Zero Tryz.prog 166 [.slice none 0 0, .map none] := ⟨zero_of (by kernel_rfl)⟩
theorem st166 : StT Tryz.prog 166 [(0, 1), (1, 1)] [.slice none 0 0, .map none] := ⟨⟨_, Tryz.underlying166, fun _ => by kernel_rfl, z166⟩⟩
theorem ty164 : Ty Tryz.prog 164 false 1 := ⟨⟨_, Tryz.underlying164, rfl⟩, by kernel_rfl⟩
end
open Go.RowKit
theorem MapAt.mono {X X' : PMap} {ns : List ByteArray} {om : Option Nat} (h : MapAt X ns om) (hX : X.le X') : MapAt X' ns om := by
  cases om with
  | none => exact h
  | some b => exact hX _ _ h
/-- A table of these names. -/
def TabR (X : PMap) (v : Value) (ns : List ByteArray) : Prop := ∃ (b : Nat) (vs : Value) (om : Option Nat), v = .pointer (some ⟨b, 0, none⟩) ∧ Blk X b [vs, .map om] ∧ RowR strC X vs ns ∧ MapAt X ns om
theorem TabR.mono {X X' : PMap} {v : Value} {ns : List ByteArray} (h : TabR X v ns) (hX : X.le X') : TabR X' v ns :=
  let ⟨b, vs, om, h1, h2, h3, h4⟩ := h
  ⟨b, vs, om, h1, h2.mono hX, h3.mono hX, h4.mono hX⟩
theorem new_spec {X : PMap} : Spec Tryz.prog 119 [] X fun u X' => TabR X' u [] := by
  refine Spec.enter Tryz.func119 rfl Tryz.ntmps119 rfl ?_
  intro w0 hw0
  refine T.seq <| T.region <| SL.as rfl <| SL.nil <| T.seq <| T.region <| SL.v (op_build st166 (qs := []) rfl rfl) <| SL.w (op_box rfl) ?_
  rintro _ _ _ ⟨B2, rfl, rfl, rfl⟩
  refine SL.as rfl <| SL.nil <| T.pub B2 (by repeat constructor) ?_
  intro X1 hX1 hB1 _
  refine T.ret1 rfl (ResIs.tmp rfl) ?_
  exact ⟨B2, _, none, rfl, hB1, .inl ⟨rfl, _, _, rfl⟩, rfl⟩
theorem mclone_spec {X : PMap} {ns : List ByteArray} {om : Option Nat} (h : MapAt X ns om) : Spec Tryz.prog 162 [.map om] X fun u X' => (om = none ∧ u = .map none) ∨ ∃ b, u = .map (some b) ∧ X b = none ∧ X' b = some (MapObj ns) := by
  cases om with
  | none =>
    refine Spec.enter Tryz.func162 rfl Tryz.ntmps162 rfl ?_
    intro w0 hw0
    refine T.seq <| T.region <| SL.as rfl <| SL.nil <| T.seq <| T.seq <| T.region <| SL.mv rfl <| SL.v (op_eqlMapNil Tryz.underlying164 rfl rfl) <| SL.nil <| T.condT rfl <| T.seq <| T.region <| SL.as rfl <| SL.nil ?_
    refine T.ret1 rfl (ResIs.tmp rfl) ?_
    exact .inl ⟨rfl, rfl⟩
  | some b0 =>
    refine Spec.enter Tryz.func162 rfl Tryz.ntmps162 rfl ?_
    intro w0 hw0
    refine T.seq <| T.region <| SL.as rfl <| SL.nil <| T.seq <| T.seq <| T.region <| SL.mv rfl <| SL.v (op_eqlMapNil Tryz.underlying164 rfl rfl) <| SL.nil <| T.condF rfl <| T.skip <| T.seq <| T.region <| SL.mv rfl ?_
    refine SL.v (op_makeIface Tryz.underlying164 (fun _ h => by cases h) rfl) ?_
    refine SL.w (op_cloneMap Tryz.func192 (by kernel_rfl) (by kernel_rfl) (by kernel_rfl) (by kernel_rfl) rfl h) ?_
    rintro _ _ _ ⟨b, rfl, rfl, hb0, hb1, rfl⟩
    refine SL.v (op_assertMap Tryz.underlying164 rfl) <| SL.as rfl <| SL.nil <| T.ret1 rfl (ResIs.tmp rfl) ?_
    exact .inr ⟨b, rfl, hb0, PMap.add_at⟩
theorem sclone_spec {X : PMap} {v : Value} {l : List ByteArray} (h : RowR strC X v l) (hl : l.length < 100000) : SpecO Tryz.prog 161 [v] X fun u own1 _ => GrowS 9 1 u l.length (strsC l) own1 := by
  obtain ⟨A, cp, rfl⟩ := h.form
  rcases A with _ | ad
  · have hn : l = [] := by
      rcases h with ⟨h1, _⟩ | ⟨_, b, c, pre, hv, _⟩
      · exact h1
      · cases hv
    subst hn
    refine SpecO.enter Tryz.func161 rfl Tryz.ntmps161 rfl ?_
    intro w0 hw0
    refine T.seq <| T.region <| SL.as rfl <| SL.nil <| T.seq <| T.seq <| T.region <| SL.mv rfl <| SL.v (op_eqlSNil Tryz.underlying59 rfl rfl) <| SL.nil <| T.condT rfl <| T.seq <| T.region <| SL.as rfl <| SL.nil ?_
    refine T.retO1 rfl (ResIs.tmp rfl) ?_
    exact .inl ⟨rfl, rfl, rfl, rfl⟩
  · refine SpecO.enter Tryz.func161 rfl Tryz.ntmps161 rfl ?_
    intro w0 hw0
    refine T.seq <| T.region <| SL.as rfl <| SL.nil <| T.seq <| T.seq <| T.region <| SL.mv rfl <| SL.v (op_eqlSNil Tryz.underlying59 rfl rfl) <| SL.nil <| T.condF rfl <| T.skip <| T.seq <| T.region <| SL.w (op_buildSlice Tryz.underlying59 bs9 (qs := []) rfl rfl rfl rfl rfl) ?_
    rintro _ _ _ ⟨B5, rfl, rfl, rfl⟩
    refine SL.mv rfl <| SL.w (op_append (m := l.length) (news := strsC l) sl59 rfl rfl (by repeat constructor) rfl rfl (Nat.le_refl _) (by decide) (by rw [← strsC_flat]; exact Src.ofRow strC_len h) (strsC_one l) (by (have : maxLen = 9223372036854775807 := rfl); omega) (by omega)) ?_
    rintro _ _ _ ⟨b7, cap7, rfl, rfl, rfl, hc7, hm7⟩
    refine SL.as rfl <| SL.nil <| T.retO1 rfl (ResIs.tmp rfl) ?_
    exact .inr ⟨b7, cap7, by rw [Nat.zero_add], rfl, by omega, hm7, by rw [Nat.mul_one]; exact strsC_len l⟩
/-- What is wrong with one more name. -/
noncomputable def errA (ns : List ByteArray) (s : ByteArray) (n : Nat) : Int := if ¬validS s then 9 else if s ∈ ns then 5 else if n ≤ ns.length ∨ 256 ≤ ns.length then 14 else 0
theorem add_spec {X : PMap} {v : Value} {ns : List ByteArray} {s : ByteArray} {n : Nat} (h : TabR X v ns) (hl : ns.length ≤ 256) : Spec Tryz.prog 120 [v, .string s, .int .i64 (n : Int)] X fun u X' => if errA ns s n = 0 then ∃ v', u = .tuple #[v', .int .i64 ((ns ++ [s]).length : Int), .int .i64 0] ∧ TabR X' v' (ns ++ [s]) else u = .tuple #[.pointer none, .int .i64 0, .int .i64 (errA ns s n)] := by
  obtain ⟨b, vs, om, rfl, hB, hR, hM⟩ := h
  obtain ⟨A, cp, rfl⟩ := hR.form
  refine Spec.enter Tryz.func120 rfl Tryz.ntmps120 rfl ?_
  intro w0 hw0
  refine T.seq <| T.region <| SL.as rfl <| SL.v (op_assign (v := .int .i64 ((0 : Nat) : Int)) rfl) <| SL.v (op_assign (v := .int .i64 ((0 : Nat) : Int)) rfl) <| SL.nil <| T.seq <| T.block <| T.seq <| T.region <| SL.mv rfl <| SL.v (op_eqlNil Tryz.underlying64 rfl rfl) <| SL.as rfl <| SL.nil <| T.condF rfl ?_
  refine T.seq <| T.region <| SL.mv rfl <| SL.w (op_callF en94 (vs := [_]) rfl (nvalid_spec)) ?_
  rintro _ _ X1 ⟨rfl, hX1, rfl⟩
  have hB := hB.mono hX1
  by_cases hv : validS s
  case neg =>
    have he : errA ns s n = 9 := by rw [errA, if_pos hv]
    rw [decide_eq_false hv]
    refine SL.v (op_not rfl) <| SL.as rfl <| SL.nil <| T.condT rfl <| T.seq <| T.region <| SL.as rfl <| SL.v (op_assign (v := .int .i64 ((0 : Nat) : Int)) rfl) <| SL.v (op_assign (v := .int .i64 ((9 : Nat) : Int)) rfl) <| SL.nil <| T.ret3 rfl rfl rfl rfl ?_
    rw [he, if_neg (by decide)]
    rfl
  rw [decide_eq_true hv]
  refine SL.v (op_not rfl) <| SL.as rfl <| SL.nil <| T.condF rfl <| T.seq <| T.region <| SL.mv rfl <| SL.v (op_nil rfl) <| SL.v (op_fieldAddr fa166_1 rfl) <| SL.v (op_loadX ty164 rfl (by assumption) rfl) ?_
  refine SL.mv rfl <| SL.v (op_lookupN (s := s) Tryz.underlying164 Tryz.underlying9 (by kernel_rfl) rfl rfl (hM.mono hX1)) ?_
  by_cases hm : s ∈ ns
  case pos =>
    have he : errA ns s n = 5 := by rw [errA, if_neg (by simpa using hv), if_pos hm]
    have hp := posN_pos.2 hm
    refine SL.v (op_gtrT rfl rfl (by omega)) ?_
    refine SL.as rfl <| SL.nil <| T.condT rfl <| T.seq <| T.region <| SL.as rfl <| SL.v (op_assign (v := .int .i64 ((0 : Nat) : Int)) rfl) <| SL.v (op_assign (v := .int .i64 ((5 : Nat) : Int)) rfl) <| SL.nil <| T.ret3 rfl rfl rfl rfl ?_
    rw [he, if_neg (by decide)]
    rfl
  have hp : posN s ns = 0 := Nat.eq_zero_of_not_pos fun h => hm (posN_pos.1 h)
  rw [hp]
  by_cases h1 : n ≤ ns.length
  · have he : errA ns s n = 14 := by rw [errA, if_neg (by simpa using hv), if_neg hm, if_pos (.inl h1)]
    refine SL.v (op_gtrF rfl rfl (by omega)) ?_
    refine SL.as rfl <| SL.nil <| T.condF rfl <| T.seq <| T.region <| SL.mv rfl <| SL.v (op_nil rfl) <| SL.v (op_fieldAddr fa166_0 rfl) <| SL.v (op_loadX ty59 rfl (by assumption) rfl) ?_
    refine SL.v (op_lenS Tryz.underlying59 rfl) <| SL.mv rfl <| SL.v (op_geqT rfl rfl (by omega)) ?_
    refine SL.mv rfl <| SL.skip rfl rfl ?_
    refine SL.skip rfl rfl ?_
    refine SL.skip rfl rfl ?_
    refine SL.skip rfl rfl ?_
    refine SL.skip rfl rfl ?_
    refine SL.skip rfl rfl ?_
    refine SL.v (op_pickT rfl rfl) <| SL.as rfl <| SL.nil <| T.condT rfl <| T.seq <| T.region <| SL.as rfl <| SL.v (op_assign (v := .int .i64 ((0 : Nat) : Int)) rfl) <| SL.v (op_assign (v := .int .i64 ((14 : Nat) : Int)) rfl) <| SL.nil <| T.ret3 rfl rfl rfl rfl ?_
    rw [he, if_neg (by decide)]
    rfl
  by_cases h2 : 256 ≤ ns.length
  · have he : errA ns s n = 14 := by rw [errA, if_neg (by simpa using hv), if_neg hm, if_pos (.inr h2)]
    refine SL.v (op_gtrF rfl rfl (by omega)) ?_
    refine SL.as rfl <| SL.nil <| T.condF rfl <| T.seq <| T.region <| SL.mv rfl <| SL.v (op_nil rfl) <| SL.v (op_fieldAddr fa166_0 rfl) <| SL.v (op_loadX ty59 rfl (by assumption) rfl) ?_
    refine SL.v (op_lenS Tryz.underlying59 rfl) <| SL.mv rfl <| SL.v (op_geqF rfl rfl (by omega)) ?_
    refine SL.mv rfl <| SL.mv rfl <| SL.v (op_nil rfl) <| SL.v (op_fieldAddr fa166_0 rfl) <| SL.v (op_loadX ty59 rfl (by assumption) rfl) ?_
    refine SL.v (op_lenS Tryz.underlying59 rfl) <| SL.v (op_geqT rfl rfl (by omega)) ?_
    refine SL.v (op_pickF rfl rfl) <| SL.as rfl <| SL.nil <| T.condT rfl <| T.seq <| T.region <| SL.as rfl <| SL.v (op_assign (v := .int .i64 ((0 : Nat) : Int)) rfl) <| SL.v (op_assign (v := .int .i64 ((14 : Nat) : Int)) rfl) <| SL.nil <| T.ret3 rfl rfl rfl rfl ?_
    rw [he, if_neg (by decide)]
    rfl
  have he : errA ns s n = 0 := by rw [errA, if_neg (by simpa using hv), if_neg hm, if_neg (by omega)]
  rw [he]
  refine SL.v (op_gtrF rfl rfl (by omega)) ?_
  refine SL.as rfl <| SL.nil <| T.condF rfl <| T.seq <| T.region <| SL.mv rfl <| SL.v (op_nil rfl) <| SL.v (op_fieldAddr fa166_0 rfl) <| SL.v (op_loadX ty59 rfl (by assumption) rfl) ?_
  refine SL.v (op_lenS Tryz.underlying59 rfl) <| SL.mv rfl <| SL.v (op_geqF rfl rfl (by omega)) ?_
  refine SL.mv rfl <| SL.mv rfl <| SL.v (op_nil rfl) <| SL.v (op_fieldAddr fa166_0 rfl) <| SL.v (op_loadX ty59 rfl (by assumption) rfl) ?_
  refine SL.v (op_lenS Tryz.underlying59 rfl) <| SL.v (op_geqF rfl rfl (by omega)) ?_
  refine SL.v (op_pickF rfl rfl) <| SL.as rfl <| SL.nil <| T.condF rfl <| T.skip <| T.blk <| T.seq <| T.draw (by kernel_rfl) 12 [.t 0, .t 1, .t 2, .t 3, .t 5, .t 8, .t 9, .t 10, .t 11, .f 4 6, .r 7] (by kernel_rfl) ?_
  refine SD.take rfl panicBody (op_move rfl) rfl rfl ?_
  refine SD.take rfl panicBody (op_nil rfl) rfl rfl ?_
  refine SD.take rfl panicBody (op_fieldAddr fa166_0 rfl) rfl rfl ?_
  refine SD.take rfl panicBody (op_loadX ty59 rfl (by assumption) rfl) rfl rfl ?_
  refine SD.take rfl panicBody (op_move rfl) rfl rfl ?_
  refine SD.take rfl panicBody (op_move rfl) rfl rfl ?_
  refine SD.take rfl panicBody (op_nil rfl) rfl rfl ?_
  refine SD.take rfl panicBody (op_fieldAddr fa166_1 rfl) rfl rfl ?_
  refine SD.take rfl panicBody (op_loadX ty164 rfl (by assumption) rfl) rfl rfl ?_
  have hR := hR.mono hX1
  have hM := hM.mono hX1
  refine SD.fork rfl rfl (K := (fun v1 v2 own' X' => ∃ (G : Own) (bb : Nat), v2 = .slice (some ⟨bb, 0, none⟩) 1 1 ∧ own' = ⟨bb, [.string s], 9, 1⟩ :: ([] ++ G) ∧ GrowS 9 1 v1 ns.length (strsC ns) G ∧ X1.le X')) ((op_callO (vs := [_]) en161 rfl (sclone_spec hR (by omega))).mono (by rintro v own' X' ⟨G, rfl, hX2, hG⟩; exact (op_buildSlice Tryz.underlying59 bs9 (qs := [(0, _)]) rfl rfl rfl rfl rfl).mono (by rintro v2 own2 X2 ⟨bb, rfl, rfl, rfl⟩; exact ⟨G, bb, rfl, by rw [List.append_nil]; rfl, hG, hX2⟩))) ((op_buildSlice Tryz.underlying59 bs9 (qs := [(0, _)]) rfl rfl rfl rfl rfl).mono (by rintro v2 own2 X2 ⟨bb, rfl, rfl, rfl⟩; exact (op_callO (vs := [_]) en161 rfl (sclone_spec hR (by omega))).mono (by rintro v own' X' ⟨G, rfl, hX2, hG⟩; exact ⟨_, List.perm_append_singleton _ _, G, bb, rfl, rfl, hG, hX2⟩))) rfl (fun _ => rfl) rfl (fun _ => rfl) rfl rfl rfl ?_
  rintro v1 _ _ X2 ⟨G, bb, rfl, rfl, hG, hX2⟩
  refine SD.runK rfl (op_appendG (own0 := []) sl59 rfl hG rfl rfl rfl (by (have : maxLen = 9223372036854775807 := rfl); omega) (by omega)) (by rintro _ _ _ ⟨G2, rfl, rfl, hG2⟩; exact ⟨fun p hp => (by cases hp), hX2⟩) rfl rfl ?_
  rintro v3 G2 _ ⟨_, rfl, rfl, hG2⟩
  refine SD.nil ?_
  show SL _ _ _ _ _ _ _ [_, _, _, _] _ _ _
  have hG2 : GrowS 9 1 v3 (ns ++ [s]).length (strsC (ns ++ [s])) G2 := by rw [List.length_append, strsC_app]; exact hG2
  obtain ⟨A3, c3, rfl⟩ := hG2.form
  refine SL.w (op_callN (vs := [_]) en162 rfl (mclone_spec (hM.mono hX2))) ?_
  rintro v4 _ X3 ⟨rfl, hX3, hnew, hcl⟩
  rcases hcl with ⟨rfl, rfl⟩ | ⟨bm, rfl, hb0, hb1⟩
  · have hns : ns = [] := hM
    subst hns
    refine SL.v (op_build st166 (qs := [(0, _), (1, _)]) rfl rfl) <| SL.w (op_box rfl) ?_
    rintro _ _ _ ⟨B55, rfl, rfl, rfl⟩
    refine SL.as rfl <| SL.nil <| T.seq <| T.seq <| T.region <| SL.mv rfl <| SL.v (op_nil rfl) <| SL.v (op_fieldAddr fa166_1 rfl) <| SL.v (op_load ty164 rfl (by repeat constructor) rfl) ?_
    refine SL.v (op_eqlMapNil Tryz.underlying164 rfl rfl) <| SL.nil <| T.condT rfl <| T.region <| SL.mv rfl <| SL.x op_makeMap rfl rfl ?_
    rintro _ _ _ ⟨bm, rfl, rfl, hb0, hb1, rfl⟩
    refine SL.v (op_nil rfl) <| SL.v (op_fieldAddr fa166_1 rfl) <| SL.w (op_store ty164 rfl rfl (by repeat constructor) rfl rfl rfl) ?_
    rintro _ _ _ ⟨rfl, rfl⟩
    refine SL.nil <| T.seq <| T.draw (by kernel_rfl) 10 [.t 0, .t 1, .t 2, .t 3, .t 4, .t 5, .t 6, .t 7, .t 8, .t 9] (by kernel_rfl) ?_
    refine SD.take rfl panicBody (op_move rfl) rfl rfl ?_
    refine SD.take rfl panicBody (op_nil rfl) rfl rfl ?_
    refine SD.take rfl panicBody (op_fieldAddr fa166_1 rfl) rfl rfl ?_
    refine SD.take rfl panicBody (op_load ty164 rfl (by repeat constructor) rfl) rfl rfl ?_
    refine SD.take rfl panicBody (op_move rfl) rfl rfl ?_
    refine SD.take rfl panicBody (op_move rfl) rfl rfl ?_
    refine SD.take rfl panicBody (op_nil rfl) rfl rfl ?_
    refine SD.take rfl panicBody (op_fieldAddr fa166_0 rfl) rfl rfl ?_
    refine SD.take rfl panicBody (op_load ty59 rfl (by repeat constructor) rfl) rfl rfl ?_
    refine SD.take rfl panicBody (op_lenS Tryz.underlying59 rfl) rfl rfl ?_
    refine SD.nil ?_
    show SL _ _ _ _ _ _ _ [_] _ _ _
    refine SL.w (op_putN (ns := []) (s := s) Tryz.underlying164 Tryz.underlying9 rfl rfl rfl PMap.add_at hb1 hm) ?_
    rintro _ _ _ ⟨rfl, rfl⟩
    refine SL.nil <| T.seq <| T.draw (by kernel_rfl) 9 [.t 0, .t 1, .t 2, .t 3, .t 4, .t 5, .t 6, .t 7, .t 8] (by kernel_rfl) ?_
    refine SD.take rfl panicBody (op_move rfl) rfl rfl ?_
    refine SD.take rfl panicBody (op_move rfl) rfl rfl ?_
    refine SD.take rfl panicBody (op_nil rfl) rfl rfl ?_
    refine SD.take rfl panicBody (op_fieldAddr fa166_0 rfl) rfl rfl ?_
    refine SD.take rfl panicBody (op_load ty59 rfl (by repeat constructor) rfl) rfl rfl ?_
    refine SD.take rfl panicBody (op_lenS Tryz.underlying59 rfl) rfl rfl ?_
    refine SD.take rfl panicBody (op_assign rfl) rfl rfl ?_
    refine SD.take rfl panicBody (op_assign rfl) rfl rfl ?_
    refine SD.take rfl panicBody (op_assign (v := .int .i64 ((0 : Nat) : Int)) rfl) rfl rfl ?_
    refine SD.nil ?_
    show SL _ _ _ _ _ _ _ [] _ _ _
    refine SL.nil <| T.pub B55 (by repeat constructor) ?_
    intro X8 hX8 hB55 _
    refine T.pubG (own0 := []) hG2 ?_
    intro X9 hX9 hS9
    refine T.ret3 rfl rfl rfl rfl ?_
    exact ⟨_, rfl, B55, _, some bm, rfl, hB55.mono hX9, RowR.ofG (rc := strC) (by rw [strsC_flat]; exact hG2) (by rw [strsC_flat]; exact hS9), hX9 _ _ (hX8 _ _ PMap.add_at)⟩
  · refine SL.v (op_build st166 (qs := [(0, _), (1, _)]) rfl rfl) <| SL.w (op_box rfl) ?_
    rintro _ _ _ ⟨B55, rfl, rfl, rfl⟩
    refine SL.as rfl <| SL.nil <| T.seq <| T.seq <| T.region <| SL.mv rfl <| SL.v (op_nil rfl) <| SL.v (op_fieldAddr fa166_1 rfl) <| SL.v (op_load ty164 rfl (by repeat constructor) rfl) ?_
    refine SL.v (op_eqlMapNil Tryz.underlying164 rfl rfl) <| SL.nil <| T.condF rfl <| T.skip <| T.seq <| T.draw (by kernel_rfl) 10 [.t 0, .t 1, .t 2, .t 3, .t 4, .t 5, .t 6, .t 7, .t 8, .t 9] (by kernel_rfl) ?_
    refine SD.take rfl panicBody (op_move rfl) rfl rfl ?_
    refine SD.take rfl panicBody (op_nil rfl) rfl rfl ?_
    refine SD.take rfl panicBody (op_fieldAddr fa166_1 rfl) rfl rfl ?_
    refine SD.take rfl panicBody (op_load ty164 rfl (by repeat constructor) rfl) rfl rfl ?_
    refine SD.take rfl panicBody (op_move rfl) rfl rfl ?_
    refine SD.take rfl panicBody (op_move rfl) rfl rfl ?_
    refine SD.take rfl panicBody (op_nil rfl) rfl rfl ?_
    refine SD.take rfl panicBody (op_fieldAddr fa166_0 rfl) rfl rfl ?_
    refine SD.take rfl panicBody (op_load ty59 rfl (by repeat constructor) rfl) rfl rfl ?_
    refine SD.take rfl panicBody (op_lenS Tryz.underlying59 rfl) rfl rfl ?_
    refine SD.nil ?_
    show SL _ _ _ _ _ _ _ [_] _ _ _
    refine SL.w (op_putN (ns := ns) (s := s) Tryz.underlying164 Tryz.underlying9 rfl rfl rfl hb1 (hnew bm hb0 (by rw [hb1]; simp)) hm) ?_
    rintro _ _ _ ⟨rfl, rfl⟩
    refine SL.nil <| T.seq <| T.draw (by kernel_rfl) 9 [.t 0, .t 1, .t 2, .t 3, .t 4, .t 5, .t 6, .t 7, .t 8] (by kernel_rfl) ?_
    refine SD.take rfl panicBody (op_move rfl) rfl rfl ?_
    refine SD.take rfl panicBody (op_move rfl) rfl rfl ?_
    refine SD.take rfl panicBody (op_nil rfl) rfl rfl ?_
    refine SD.take rfl panicBody (op_fieldAddr fa166_0 rfl) rfl rfl ?_
    refine SD.take rfl panicBody (op_load ty59 rfl (by repeat constructor) rfl) rfl rfl ?_
    refine SD.take rfl panicBody (op_lenS Tryz.underlying59 rfl) rfl rfl ?_
    refine SD.take rfl panicBody (op_assign rfl) rfl rfl ?_
    refine SD.take rfl panicBody (op_assign rfl) rfl rfl ?_
    refine SD.take rfl panicBody (op_assign (v := .int .i64 ((0 : Nat) : Int)) rfl) rfl rfl ?_
    refine SD.nil ?_
    show SL _ _ _ _ _ _ _ [] _ _ _
    refine SL.nil <| T.pub B55 (by repeat constructor) ?_
    intro X8 hX8 hB55 _
    refine T.pubG (own0 := []) hG2 ?_
    intro X9 hX9 hS9
    refine T.ret3 rfl rfl rfl rfl ?_
    exact ⟨_, rfl, B55, _, some bm, rfl, hB55.mono hX9, RowR.ofG (rc := strC) (by rw [strsC_flat]; exact hG2) (by rw [strsC_flat]; exact hS9), hX9 _ _ (hX8 _ _ PMap.add_at)⟩
/-- What is wrong with the first of these names with which something is wrong. -/
noncomputable def errOf (n : Nat) (pre : List ByteArray) : List ByteArray → Int
  | [] => 0
  | s :: l => if errA pre s n ≠ 0 then errA pre s n else errOf n (pre ++ [s]) l
theorem errOf_app (n : Nat) (b : List ByteArray) : ∀ (a pre : List ByteArray), errOf n pre (a ++ b) = if errOf n pre a ≠ 0 then errOf n pre a else errOf n (pre ++ a) b
  | [], pre => by simp [errOf]
  | s :: a, pre => by
    rw [List.cons_append, errOf, errOf, errOf_app n b a (pre ++ [s])]
    by_cases h : errA pre s n ≠ 0
    · rw [if_pos h, if_pos h, if_pos h]
    · rw [if_neg h, if_neg h, List.append_assoc]; rfl
theorem errA_zero {ns : List ByteArray} {s : ByteArray} {n : Nat} (h : errA ns s n = 0) : validS s ∧ s ∉ ns ∧ ns.length < n ∧ ns.length < 256 := by
  unfold errA at h
  split at h
  · cases h
  · rename_i h1
    split at h
    · cases h
    · rename_i h2
      split at h
      · cases h
      · rename_i h3
        exact ⟨by simpa using h1, h2, by omega, by omega⟩
theorem errOf_len {n : Nat} : ∀ {a pre : List ByteArray}, errOf n pre a = 0 → pre.length ≤ 256 → (pre ++ a).length ≤ 256
  | [], pre, _, h => by simpa using h
  | s :: a, pre, h, hp => by
    rw [errOf] at h
    by_cases h1 : errA pre s n ≠ 0
    · rw [if_pos h1] at h; exact absurd h h1
    · rw [if_neg h1] at h
      have h2 := errA_zero (Decidable.not_not.1 h1)
      have := errOf_len h (by rw [List.length_append]; simp; omega)
      simp only [List.length_append, List.length_cons, List.length_nil] at this ⊢; omega
/-- Names that are all well. -/
theorem errOf_ok {n : Nat} : ∀ {a pre : List ByteArray}, (∀ s ∈ a, validS s) → (pre ++ a).Nodup → (pre ++ a).length ≤ n → n ≤ 256 → errOf n pre a = 0
  | [], _, _, _, _, _ => rfl
  | s :: a, pre, hv, hd, hl, hn => by
    have h1 : errA pre s n = 0 := by
      rw [errA, if_neg (by simpa using hv s (by simp)), if_neg, if_neg]
      · simp only [List.length_append, List.length_cons] at hl; omega
      · intro hm
        rw [List.nodup_append] at hd
        exact hd.2.2 s hm s (by simp) rfl
    rw [errOf, if_neg (by simpa using h1)]
    have e : pre ++ [s] ++ a = pre ++ s :: a := by simp
    exact errOf_ok (fun t ht => hv t (by simp [ht])) (e ▸ hd) (e ▸ hl) hn
theorem of_tab_spec {X : PMap} {v : Value} {l : List ByteArray} {n : Nat} (h : RowR strC X v l) (hl : l.length < 1000000) : Spec Tryz.prog 72 [v, .int .i64 (n : Int)] X fun u X' => if errOf n [] l = 0 then ∃ v', u = .tuple #[v', .int .i64 0] ∧ TabR X' v' l else u = .tuple #[.pointer none, .int .i64 (errOf n [] l)] := by
  obtain ⟨A, cp, rfl⟩ := h.form
  refine Spec.enter Tryz.func72 rfl Tryz.ntmps72 rfl ?_
  intro w0 hw0
  refine T.seq <| T.region <| SL.as rfl <| SL.v (op_assign (v := .int .i64 ((0 : Nat) : Int)) rfl) <| SL.nil <| T.seq <| T.region <| SL.w (op_callF en119 (vs := []) rfl (new_spec)) ?_
  rintro vt _ X1 ⟨rfl, hX1, hT⟩
  refine SL.as rfl <| SL.nil <| T.seq <| T.seq <| T.region <| SL.mv rfl <| SL.v (op_lenS Tryz.underlying59 rfl) <| SL.v (op_move (v := .int .i64 ((0 : Nat) : Int)) rfl) <| SL.nil <| T.block <| T.loopW (fun m env own X' => ∃ (i : Nat) (vt : Value), m = l.length - i ∧ i ≤ l.length ∧ X.le X' ∧ errOf n [] (l.take i) = 0 ∧ TabR X' vt (l.take i) ∧ env = [(1, .int .i64 (n : Int)), (6, vt), (13, .slice A l.length cp), (14, .int .i64 (l.length : Int)), (15, .int .i64 (i : Int))] ∧ own = []) l.length ⟨0, vt, by simp, by omega, hX1, by simp [errOf], by simpa using hT, rfl, rfl⟩ (by repeat (first | exact Sub.nil | refine Sub.cons rfl ?_)) ?_
  rintro m _ _ X2 ⟨i, vt, rfl, hi, hX2, hz, hT, rfl, rfl⟩
  rcases Nat.lt_or_ge i l.length with hil | hil
  · obtain ⟨s, hs⟩ : ∃ s, l[i]? = some s := ⟨_, List.getElem?_eq_getElem hil⟩
    obtain ⟨bA, pre, rfl, hbA⟩ := h.blk (by omega)
    have hta : l.take (i + 1) = l.take i ++ [s] := by rw [List.take_add_one, hs]; rfl
    have hle : (l.take i).length ≤ 256 := by simpa using errOf_len hz (by simp)
    have hat : errOf n [] (l.take (i + 1)) = errA (l.take i) s n := by
      rw [hta, errOf_app, if_neg (by simpa using hz), List.nil_append, errOf]
      split
      · rfl
      · rename_i h0; exact (Decidable.not_not.1 h0).symm
    refine T.seq <| T.region <| SL.v (op_lssT rfl rfl (by omega)) ?_
    refine SL.nil <| T.seq <| T.condT rfl <| T.skip <| T.seq <| T.block <| T.seq <| T.region <| SL.v (op_indexN Tryz.underlying59 ty9 rfl rfl (by omega)) ?_
    refine SL.v (op_loadX ty9 rfl (hbA.mono hX2) (str_read hs (by omega))) ?_
    refine SL.as rfl <| SL.nil <| T.seq <| T.region <| SL.mv rfl <| SL.mv rfl <| SL.mv rfl <| SL.w (op_callF en120 (vs := [_, _, _]) rfl (add_spec (s := s) (n := n) hT hle)) ?_
    rintro u3 _ X3 ⟨rfl, hX3, hu3⟩
    by_cases he : errA (l.take i) s n = 0
    · rw [if_pos he] at hu3
      obtain ⟨v3, rfl, hT3⟩ := hu3
      refine SL.mv rfl <| SL.v (op_extract rfl rfl) <| SL.v (op_extract rfl rfl) <| SL.v (op_extract rfl rfl) <| SL.as rfl <| SL.as rfl <| SL.as rfl <| SL.nil <| T.seq <| T.seq <| T.region <| SL.mv rfl <| SL.v (op_neqF rfl rfl (by omega)) ?_
      refine SL.nil <| T.condF rfl <| T.skip <| T.region <| SL.mv rfl <| SL.as rfl <| SL.nil <| T.blk <| T.region <| SL.v (op_addN (q := 1) rfl rfl (by omega)) ?_
      refine SL.mv rfl <| SL.nil ?_
      exact T.backW (l.length - (i + 1)) (by omega) ⟨i + 1, v3, rfl, by omega, hX2.trans' hX3, by rw [hat, he], by rw [hta]; exact hT3, rfl, rfl⟩ (by repeat (first | exact Sub.nil | refine Sub.cons rfl ?_))
    · rw [if_neg he] at hu3
      subst hu3
      refine SL.mv rfl <| SL.v (op_extract rfl rfl) <| SL.v (op_extract rfl rfl) <| SL.v (op_extract rfl rfl) <| SL.as rfl <| SL.as rfl <| SL.as rfl <| SL.nil <| T.seq <| T.seq <| T.region <| SL.mv rfl <| SL.v (op_neqT rfl rfl (by omega)) ?_
      refine SL.nil <| T.condT rfl <| T.seq <| T.region <| SL.mv rfl <| SL.as rfl <| SL.as rfl <| SL.nil <| T.ret2 rfl (ResIs.tmp rfl) (ResIs.tmp rfl) ?_
      have ht : errOf n [] l = errA (l.take i) s n := by
        have h0 : errOf n [] (l.take (i + 1) ++ l.drop (i + 1)) = errA (l.take i) s n := by rw [errOf_app, hat, if_pos he]
        rwa [List.take_append_drop] at h0
      rw [if_neg (by rw [ht]; exact he), ht]
      rfl
  · obtain rfl : i = l.length := by omega
    rw [List.take_of_length_le (Nat.le_refl _)] at hz hT
    refine T.seq <| T.region <| SL.v (op_lssF rfl rfl (by omega)) ?_
    refine SL.nil <| T.seq <| T.condF rfl ?_
    refine T.exit (T.exitCode (T.exitCut (T.exitBlk ?_)))
    refine T.seq <| T.region <| SL.mv rfl <| SL.as rfl <| SL.v (op_assign (v := .int .i64 ((0 : Nat) : Int)) rfl) <| SL.nil <| T.ret2 rfl (ResIs.tmp rfl) (ResIs.tmp rfl) ?_
    rw [if_pos hz]
    exact ⟨_, rfl, hT⟩
end Go.Proofs.YtnpcilglilfajaaGreatDoor
namespace Go.Proofs.YtnpcilglilfajaaGreatDoor
open Go.RowKit
section
variable {P : Program} {n : NM} {own : Own} {X : PMap} {env : Env}
/-- The number of a name in a map of names, and whether it is there. -/
theorem op_lookupN2 {xT kt et : TypeId} {x y : Operand} {om : Option Nat} {ns : List ByteArray} {s : ByteArray} (ht : P.underlying xT = some (.map kt et)) (hk : P.underlying kt = some .string) (hz : (P.info? et).bind (·.zero) = some (.int .i64 0))
    (hx : eev env x = some (.map om)) (hy : eev env y = some (.string s)) (hm : MapAt X ns om) :
    OpY P n env own X (.lookup xT x y true) (.tuple #[.int .i64 (posN s ns : Int), .bool (decide (posN s ns ≠ 0))]) := by
  intro a W oper hop ha hst
  obtain ⟨i, hi, hiz⟩ := Option.bind_eq_some_iff.1 hz
  have hzr : (zeroValue et).run P W = .ok (.int .i64 0) W := by simp [zeroValue, typeInfo, hi, hiz]
  obtain ⟨r, h1, h2, h3⟩ := findNow_pos s ns (fun q => .int .i64 ((q : Int) + 1)) (fun q => q) 0
  have hf : (Instr.findKey kt (.string s) (entsOf ns)).run P W = .ok r W := MapKept.run_findKey hk h1
  have hck : ∀ e, (Instr.checkKey e 10000 kt (.string s)).run P W = .ok () W := fun e => MapKept.run_checkKey hk (by trivial) e 9999
  have hl : (Instr.lookup xT (.map om) (.string s) true).run P W = .ok (.tuple #[.int .i64 (posN s ns : Int), .bool (decide (posN s ns ≠ 0))]) W := by
    have key : ∀ es : Array MapEntry, es.toList = entsOf ns → (om = none → es = #[]) → (∀ b, om = some b → ∃ clk, W.heap[b]? = some (.map es clk)) → (Instr.lookup xT (.map om) (.string s) true).run P W = .ok (.tuple #[.int .i64 (posN s ns : Int), .bool (decide (posN s ns ≠ 0))]) W := by
      intro es he ho hb
      rw [← he] at hf
      rcases Nat.eq_zero_or_pos (posN s ns) with h0 | h0
      · obtain rfl := h2 h0
        cases om with
        | none => have ho : es = #[] := ho rfl; subst ho; simp [Instr.lookup, run_underlying ht, hck, hf, hzr, h0, Result.andThen]
        | some b => obtain ⟨clk, hb⟩ := hb b rfl; simp [Instr.lookup, run_underlying ht, MapKept.run_getObj_map hb, hck, hf, hzr, h0, Result.andThen]
      · obtain ⟨k, hk'⟩ : ∃ k, posN s ns = k + 1 := ⟨posN s ns - 1, by omega⟩
        obtain ⟨q, rfl⟩ := h3 k hk'
        cases om with
        | none => have ho : es = #[] := ho rfl; subst ho; simp [Instr.lookup, run_underlying ht, hck, hf, hk', Result.andThen]
        | some b => obtain ⟨clk, hb⟩ := hb b rfl; simp [Instr.lookup, run_underlying ht, MapKept.run_getObj_map hb, hck, hf, hk', Result.andThen]
    cases om with
    | none => have hm : ns = [] := hm; subst hm; exact key #[] rfl (fun _ => rfl) (fun _ h => by cases h)
    | some b => exact key (entsOf ns).toArray rfl (fun h => by cases h) (fun b' h => by cases h; exact ⟨_, hst.pers b _ hm⟩)
  simp [execOp, hop, ha.eval hx, ha.eval hy, hl]
end
theorem numT_spec {X : PMap} {v : Value} {ns : List ByteArray} {s : ByteArray} (h : TabR X v ns) : Spec Tryz.prog 36 [v, .string s] X fun u _ => u = .tuple #[.int .i64 (posN s ns : Int), .bool (decide (posN s ns ≠ 0))] := by
  obtain ⟨b, vs, om, rfl, hB, hR, hM⟩ := h
  obtain ⟨A, cp, rfl⟩ := hR.form
  refine Spec.enter Tryz.func36 rfl Tryz.ntmps36 rfl ?_
  intro w0 hw0
  refine T.seq <| T.region <| SL.v (op_assign (v := .int .i64 ((0 : Nat) : Int)) rfl) <| SL.as rfl <| SL.nil <| T.seq <| T.seq <| T.region <| SL.mv rfl <| SL.v (op_eqlNil Tryz.underlying64 rfl rfl) <| SL.nil <| T.condF rfl <| T.skip <| T.seq <| T.region ?_
  refine SL.mv rfl <| SL.v (op_nil rfl) <| SL.v (op_fieldAddr fa166_1 rfl) <| SL.v (op_loadX ty164 rfl (by assumption) rfl) ?_
  refine SL.mv rfl <| SL.v (op_lookupN2 (s := s) Tryz.underlying164 Tryz.underlying9 (by kernel_rfl) rfl rfl hM) ?_
  refine SL.mv rfl <| SL.v (op_extract rfl rfl) <| SL.v (op_extract rfl rfl) <| SL.as rfl <| SL.as rfl <| SL.nil <| T.seq <| T.region <| SL.mv rfl <| SL.mv rfl <| SL.as rfl <| SL.as rfl <| SL.nil <| T.ret2 rfl (ResIs.tmp rfl) (ResIs.tmp rfl) ?_
  rfl
end Go.Proofs.YtnpcilglilfajaaGreatDoor
namespace Go.Proofs.YtnpcilglilfajaaGreatDoor
open Go.RowKit
/-- The zero formula. -/
def zeF : Fm := .mk 0 0 [] []
def badN (ns : List ByteArray) (adm : Nat) (s : ByteArray) : Prop := posN s ns = 0 ∨ adm.testBit (posN s ns) = true
instance (ns : List ByteArray) (adm : Nat) (s : ByteArray) : Decidable (badN ns adm s) := inferInstanceAs (Decidable (_ ∨ _))
def numbN (ns : List ByteArray) (adm : Nat) : List ByteArray → Option (List Nat)
  | [] => some []
  | s :: l => if badN ns adm s then none else (numbN ns adm l).map (posN s ns :: ·)
mutual
def numbF (ns : List ByteArray) (adm : Nat) : Ex → Option Fm
  | .mk op n l al => match numbN ns adm l with
    | none => none
    | some rs => match numbL ns adm al with
      | none => none
      | some bl => some (.mk op n rs bl)
def numbL (ns : List ByteArray) (adm : Nat) : List Ex → Option (List Fm)
  | [] => some []
  | a :: al => match numbF ns adm a with
    | none => none
    | some f => match numbL ns adm al with
      | none => none
      | some fl => some (f :: fl)
end
theorem numbN_app (ns : List ByteArray) (adm : Nat) (b : List ByteArray) : ∀ a : List ByteArray, numbN ns adm (a ++ b) = match numbN ns adm a with | none => none | some q => (numbN ns adm b).map (q ++ ·)
  | [] => by simp [numbN]
  | s :: a => by
    rw [List.cons_append, numbN, numbN, numbN_app ns adm b a]
    split
    · rfl
    · cases numbN ns adm a with
      | none => rfl
      | some q => cases numbN ns adm b <;> rfl
theorem numbL_app (ns : List ByteArray) (adm : Nat) (b : List Ex) : ∀ a : List Ex, numbL ns adm (a ++ b) = match numbL ns adm a with | none => none | some q => (numbL ns adm b).map (q ++ ·)
  | [] => by simp [numbL]
  | s :: a => by
    rw [List.cons_append, numbL, numbL, numbL_app ns adm b a]
    cases numbF ns adm s with
    | none => rfl
    | some f =>
      cases numbL ns adm a with
      | none => rfl
      | some q => cases numbL ns adm b <;> rfl
theorem numbN_bad {ns : List ByteArray} {adm : Nat} {l : List ByteArray} {i : Nat} {s : ByteArray} (hs : l[i]? = some s) (hb : badN ns adm s) : numbN ns adm l = none := by
  have e : l = l.take i ++ (s :: l.drop (i + 1)) := by
    obtain ⟨hi, he⟩ := List.getElem?_eq_some_iff.1 hs
    rw [← he, ← List.drop_eq_getElem_cons hi, List.take_append_drop]
  rw [e, numbN_app]
  cases numbN ns adm (l.take i) with
  | none => rfl
  | some q => simp [numbN, if_pos hb]
theorem numbN_snoc {ns : List ByteArray} {adm : Nat} {l : List ByteArray} {i : Nat} {s : ByteArray} {q : List Nat} (hs : l[i]? = some s) (hb : ¬badN ns adm s) (hq : numbN ns adm (l.take i) = some q) : numbN ns adm (l.take (i + 1)) = some (q ++ [posN s ns]) := by
  rw [take_snoc hs, numbN_app, hq]
  simp [numbN, if_neg hb]
theorem numbL_bad {ns : List ByteArray} {adm : Nat} {l : List Ex} {i : Nat} {a : Ex} (hs : l[i]? = some a) (hb : numbF ns adm a = none) : numbL ns adm l = none := by
  have e : l = l.take i ++ (a :: l.drop (i + 1)) := by
    obtain ⟨hi, he⟩ := List.getElem?_eq_some_iff.1 hs
    rw [← he, ← List.drop_eq_getElem_cons hi, List.take_append_drop]
  rw [e, numbL_app]
  cases numbL ns adm (l.take i) with
  | none => rfl
  | some q => simp [numbL, hb]
theorem numbL_snoc {ns : List ByteArray} {adm : Nat} {l : List Ex} {i : Nat} {a : Ex} {f : Fm} {q : List Fm} (hs : l[i]? = some a) (hb : numbF ns adm a = some f) (hq : numbL ns adm (l.take i) = some q) : numbL ns adm (l.take (i + 1)) = some (q ++ [f]) := by
  rw [take_snoc hs, numbL_app, hq]
  simp [numbL, hb]
theorem zeF_R {k : IntKind} {X : PMap} : FmR k X zeF (.int k 0, .int .i64 0, .slice none 0 0, .slice none 0 0) := .mk (rows := []) (op := 0) IntsR.nil (.inl ⟨rfl, _, _, rfl⟩) rfl (fun i a r h => by simp at h)
/-- Room of a formula whose names were replaced. -/
theorem numbN_len {ns : List ByteArray} {adm : Nat} : ∀ {l : List ByteArray} {q : List Nat}, numbN ns adm l = some q → q.length = l.length
  | [], q, h => by cases h; rfl
  | s :: l, q, h => by
    rw [numbN] at h
    split at h
    · cases h
    · obtain ⟨q', h1, rfl⟩ := Option.map_eq_some_iff.1 h
      rw [List.length_cons, List.length_cons, numbN_len h1]
mutual
theorem numbF_wt {ns : List ByteArray} {adm : Nat} : ∀ (e : Ex) {f : Fm}, numbF ns adm e = some f → wtF f ≤ wtE e
  | .mk op n l al, f, h => by
    rw [numbF] at h
    cases h1 : numbN ns adm l with
    | none => rw [h1] at h; cases h
    | some rs =>
      cases h2 : numbL ns adm al with
      | none => rw [h1, h2] at h; cases h
      | some bl =>
        rw [h1, h2] at h
        cases h
        have := numbL_wt al h2
        have := numbN_len h1
        have := wtS_len l
        rw [wtF, wtE]; omega
theorem numbL_wt {ns : List ByteArray} {adm : Nat} : ∀ (l : List Ex) {q : List Fm}, numbL ns adm l = some q → wtFL q ≤ wtL l
  | [], q, h => by cases h; simp [wtFL]
  | a :: al, q, h => by
    rw [numbL] at h
    cases h1 : numbF ns adm a with
    | none => rw [h1] at h; cases h
    | some f =>
      cases h2 : numbL ns adm al with
      | none => rw [h1, h2] at h; cases h
      | some fl =>
        rw [h1, h2] at h
        cases h
        have := numbF_wt a h1
        have := numbL_wt al h2
        rw [wtFL, wtL]; omega
end
theorem numb_mk {ns : List ByteArray} {adm op : Nat} {n : Int} {l : List ByteArray} {al : List Ex} {rs : List Nat} {bl : List Fm} (h1 : numbN ns adm l = some rs) (h2 : numbL ns adm al = some bl) : numbF ns adm (.mk op n l al) = some (.mk op n rs bl) := by rw [numbF, h1]; simp only [h2]
theorem numb_no1 {ns : List ByteArray} {adm op : Nat} {n : Int} {l : List ByteArray} {al : List Ex} (h1 : numbN ns adm l = none) : numbF ns adm (.mk op n l al) = none := by rw [numbF, h1]
theorem numb_no2 {ns : List ByteArray} {adm op : Nat} {n : Int} {l : List ByteArray} {al : List Ex} (h2 : numbL ns adm al = none) : numbF ns adm (.mk op n l al) = none := by
  rw [numbF]
  cases numbN ns adm l with
  | none => rfl
  | some rs => simp only [h2]
theorem rows_snoc2 {α β : Type} {R : α → β → Prop} {l : List α} {q : List β} {a : α} {b : β} (hl : l.length = q.length) (h : ∀ (i : Nat) (x : α) (y : β), l[i]? = some x → q[i]? = some y → R x y) (hab : R a b) : ∀ (i : Nat) (x : α) (y : β), (l ++ [a])[i]? = some x → (q ++ [b])[i]? = some y → R x y := by
  intro i x y h1 h2
  rcases Nat.lt_or_ge i l.length with hi | hi
  · rw [List.getElem?_append_left hi] at h1
    rw [List.getElem?_append_left (by omega)] at h2
    exact h i x y h1 h2
  · have hi2 : i = l.length := by
      have := (List.getElem?_eq_some_iff.1 h1).1
      rw [List.length_append] at this; simp at this; omega
    subst hi2
    rw [List.getElem?_append_right (Nat.le_refl _), Nat.sub_self] at h1
    rw [hl, List.getElem?_append_right (Nat.le_refl _), Nat.sub_self] at h2
    simp only [List.getElem?_cons_zero, Option.some.injEq] at h1 h2
    subst h1 h2
    exact hab
end Go.Proofs.YtnpcilglilfajaaGreatDoor
namespace Go.Proofs.YtnpcilglilfajaaGreatDoor
open Go.RowKit
def rdFlag (e : Int) (bs : List Nat) : Bool × Int × List Nat :=
  if e ≠ 0 then (false, e, bs) else match bs with
    | [] => (false, 6, [])
    | b :: t => if 1 < b then (false, 6, b :: t) else (decide (b = 1), 0, t)
def rdByt (most : Nat) (e : Int) (bs : List Nat) : List Nat × Int × List Nat :=
  if e ≠ 0 then ([], e, bs) else if (numR bs).2 = 0 then ([], 6, bs) else if most < (numR bs).1 then ([], 3, bs) else if bs.length - (numR bs).2 < (numR bs).1 then ([], 6, bs)
  else ((bs.drop (numR bs).2).take (numR bs).1, 0, (bs.drop (numR bs).2).drop (numR bs).1)
def rdRs : Nat → Int → List Nat → List Nat × Int × List Nat
  | 0, e, bs => ([], e, bs)
  | k + 1, e, bs => if e ≠ 0 then ([], e, bs) else ((rdU 2 63 e bs).1 :: (rdRs k (rdU 2 63 e bs).2.1 (rdU 2 63 e bs).2.2).1, (rdRs k (rdU 2 63 e bs).2.1 (rdU 2 63 e bs).2.2).2)
def rdAs (f : Int → List Nat → Fm × Int × List Nat) : Nat → Int → List Nat → List Fm × Int × List Nat
  | 0, e, bs => ([], e, bs)
  | k + 1, e, bs => if e ≠ 0 then ([], e, bs) else ((f e bs).1 :: (rdAs f k (f e bs).2.1 (f e bs).2.2).1, (rdAs f k (f e bs).2.1 (f e bs).2.2).2)
def rdOp (e : Int) (bs : List Nat) : Nat × Int × List Nat := rdU 2 16 e bs
def rdN (e : Int) (bs : List Nat) : Nat × Int × List Nat := rdU 2 999999 (rdOp e bs).2.1 (rdOp e bs).2.2
def rdK (e : Int) (bs : List Nat) : Nat × Int × List Nat := rdU 3 8 (rdN e bs).2.1 (rdN e bs).2.2
def rdR (e : Int) (bs : List Nat) : List Nat × Int × List Nat := rdRs (rdK e bs).1 (rdK e bs).2.1 (rdK e bs).2.2
def rdA (e : Int) (bs : List Nat) : Nat × Int × List Nat := rdU 3 2 (rdR e bs).2.1 (rdR e bs).2.2
/-- A formula of at most some nesting. -/
def rdF : Nat → Int → List Nat → Fm × Int × List Nat
  | 0, e, bs => (zeF, if e = 0 then 6 else e, bs)
  | d + 1, e, bs => (.mk (rdOp e bs).1 ((rdN e bs).1 : Int) (rdR e bs).1 (rdAs (rdF d) (rdA e bs).1 (rdA e bs).2.1 (rdA e bs).2.2).1, (rdAs (rdF d) (rdA e bs).1 (rdA e bs).2.1 (rdA e bs).2.2).2)
theorem rdRs_err {k : Nat} {e : Int} {bs : List Nat} (h : e ≠ 0) : rdRs k e bs = ([], e, bs) := by
  cases k with
  | zero => rfl
  | succ k => rw [rdRs, if_pos h]
theorem rdAs_err {f : Int → List Nat → Fm × Int × List Nat} {k : Nat} {e : Int} {bs : List Nat} (h : e ≠ 0) : rdAs f k e bs = ([], e, bs) := by
  cases k with
  | zero => rfl
  | succ k => rw [rdAs, if_pos h]
/-- What was read without an error: its bytes stood there. -/
theorem rdRs_ok : ∀ {k : Nat} {e : Int} {bs : List Nat}, (∀ b ∈ bs, b < 256) → (rdRs k e bs).2.1 = 0 → e = 0 ∧ bs = ((rdRs k e bs).1.map numB).flatten ++ (rdRs k e bs).2.2 ∧ (rdRs k e bs).1.length = k
  | 0, e, bs, _, h => ⟨h, rfl, rfl⟩
  | k + 1, e, bs, hb, h => by
    by_cases he : e ≠ 0
    · rw [rdRs_err he] at h; exact absurd h he
    · rw [rdRs, if_neg he] at h ⊢
      simp only at h ⊢
      obtain ⟨j, hj⟩ := rdU_sub (c := 2) (e := e) (most := 63) (bs := bs)
      obtain ⟨h1, h2, h3⟩ := rdRs_ok (k := k) (fun b hb' => hb b (by rw [hj] at hb'; exact List.mem_of_mem_drop hb')) h
      obtain ⟨g1, g2, _⟩ := rdU_ok hb (by decide) h1
      refine ⟨g1, ?_, by rw [List.length_cons, h3]⟩
      rw [List.map_cons, List.flatten_cons, List.append_assoc, ← h2]
      exact g2
theorem sub_lt {bs bs' : List Nat} (hb : ∀ b ∈ bs, b < 256) {k : Nat} (h : bs' = bs.drop k) : ∀ b ∈ bs', b < 256 := fun b hb' => hb b (by rw [h] at hb'; exact List.mem_of_mem_drop hb')
theorem rdRs_sub : ∀ {k : Nat} {e : Int} {bs : List Nat}, ∃ j, (rdRs k e bs).2.2 = bs.drop j
  | 0, e, bs => ⟨0, rfl⟩
  | k + 1, e, bs => by
    by_cases he : e ≠ 0
    · exact ⟨0, by rw [rdRs_err he]; rfl⟩
    · rw [rdRs, if_neg he]
      obtain ⟨j, hj⟩ := rdU_sub (c := 2) (e := e) (most := 63) (bs := bs)
      obtain ⟨i, hi⟩ := rdRs_sub (k := k) (e := (rdU 2 63 e bs).2.1) (bs := (rdU 2 63 e bs).2.2)
      refine ⟨j + i, ?_⟩
      simp only
      rw [hi, hj, List.drop_drop]
theorem rdAs_sub {f : Int → List Nat → Fm × Int × List Nat} (hf : ∀ e bs, ∃ j, (f e bs).2.2 = bs.drop j) : ∀ {k : Nat} {e : Int} {bs : List Nat}, ∃ j, (rdAs f k e bs).2.2 = bs.drop j
  | 0, e, bs => ⟨0, rfl⟩
  | k + 1, e, bs => by
    by_cases he : e ≠ 0
    · exact ⟨0, by rw [rdAs_err he]; rfl⟩
    · rw [rdAs, if_neg he]
      obtain ⟨j, hj⟩ := hf e bs
      obtain ⟨i, hi⟩ := rdAs_sub hf (k := k) (e := (f e bs).2.1) (bs := (f e bs).2.2)
      refine ⟨j + i, ?_⟩
      simp only
      rw [hi, hj, List.drop_drop]
theorem sub_trans {a b c : List Nat} (h1 : ∃ j, b = a.drop j) (h2 : ∃ j, c = b.drop j) : ∃ j, c = a.drop j := by
  obtain ⟨i, rfl⟩ := h1
  obtain ⟨j, rfl⟩ := h2
  exact ⟨i + j, List.drop_drop⟩
theorem rdA_sub (e : Int) (bs : List Nat) : ∃ j, (rdA e bs).2.2 = bs.drop j :=
  sub_trans (sub_trans (sub_trans (sub_trans rdU_sub rdU_sub) rdU_sub) rdRs_sub) rdU_sub
theorem rdF_sub : ∀ (d : Nat) (e : Int) (bs : List Nat), ∃ j, (rdF d e bs).2.2 = bs.drop j
  | 0, _, _ => ⟨0, rfl⟩
  | d + 1, e, bs => sub_trans (rdA_sub e bs) (rdAs_sub (rdF_sub d))
theorem rdAs_ok {f : Int → List Nat → Fm × Int × List Nat} (hs : ∀ e bs, ∃ j, (f e bs).2.2 = bs.drop j) (hf : ∀ e bs, (∀ b ∈ bs, b < 256) → (f e bs).2.1 = 0 → e = 0 ∧ bs = encF (f e bs).1 ++ (f e bs).2.2) : ∀ {k : Nat} {e : Int} {bs : List Nat}, (∀ b ∈ bs, b < 256) → (rdAs f k e bs).2.1 = 0 → e = 0 ∧ bs = encFL (rdAs f k e bs).1 ++ (rdAs f k e bs).2.2 ∧ (rdAs f k e bs).1.length = k
  | 0, e, bs, _, h => ⟨h, rfl, rfl⟩
  | k + 1, e, bs, hb, h => by
    by_cases he : e ≠ 0
    · rw [rdAs_err he] at h; exact absurd h he
    · rw [rdAs, if_neg he] at h ⊢
      simp only at h ⊢
      obtain ⟨j, hj⟩ := hs e bs
      obtain ⟨h1, h2, h3⟩ := rdAs_ok hs hf (k := k) (sub_lt hb hj) h
      obtain ⟨g1, g2⟩ := hf e bs hb h1
      refine ⟨g1, ?_, by rw [List.length_cons, h3]⟩
      rw [encFL, List.append_assoc, ← h2]
      exact g2
theorem rdF_ok : ∀ (d : Nat) (e : Int) (bs : List Nat), (∀ b ∈ bs, b < 256) → (rdF d e bs).2.1 = 0 → e = 0 ∧ bs = encF (rdF d e bs).1 ++ (rdF d e bs).2.2
  | 0, e, bs, _, h => by
    rw [rdF] at h
    simp only at h
    split at h
    · cases h
    · rename_i he; exact absurd h he
  | d + 1, e, bs, hb, h => by
    rw [rdF] at h ⊢
    simp only at h ⊢
    obtain ⟨j1, s1⟩ := rdU_sub (c := 2) (e := e) (most := 16) (bs := bs)
    have b1 := sub_lt hb (show (rdOp e bs).2.2 = _ from s1)
    obtain ⟨j2, s2⟩ := rdU_sub (c := 2) (e := (rdOp e bs).2.1) (most := 999999) (bs := (rdOp e bs).2.2)
    have b2 := sub_lt b1 (show (rdN e bs).2.2 = _ from s2)
    obtain ⟨j3, s3⟩ := rdU_sub (c := 3) (e := (rdN e bs).2.1) (most := 8) (bs := (rdN e bs).2.2)
    have b3 := sub_lt b2 (show (rdK e bs).2.2 = _ from s3)
    obtain ⟨j4, s4⟩ := rdRs_sub (k := (rdK e bs).1) (e := (rdK e bs).2.1) (bs := (rdK e bs).2.2)
    have b4 := sub_lt b3 (show (rdR e bs).2.2 = _ from s4)
    obtain ⟨j5, s5⟩ := rdU_sub (c := 3) (e := (rdR e bs).2.1) (most := 2) (bs := (rdR e bs).2.2)
    have b5 := sub_lt b4 (show (rdA e bs).2.2 = _ from s5)
    obtain ⟨e5, h5, l5⟩ := rdAs_ok (rdF_sub d) (rdF_ok d) (k := (rdA e bs).1) b5 h
    obtain ⟨e4, h4, _⟩ := rdU_ok (c := 3) (e := (rdR e bs).2.1) (most := 2) b4 (by decide) e5
    obtain ⟨e3, h3, l3⟩ := rdRs_ok (k := (rdK e bs).1) b3 (show (rdR e bs).2.1 = 0 from e4)
    obtain ⟨e2, h2, _⟩ := rdU_ok (c := 3) (e := (rdN e bs).2.1) (most := 8) b2 (by decide) e3
    obtain ⟨e1, h1, _⟩ := rdU_ok (c := 2) (e := (rdOp e bs).2.1) (most := 999999) b1 (by decide) e2
    obtain ⟨e0, h0, _⟩ := rdU_ok (c := 2) (e := e) (most := 16) hb (by decide) e1
    refine ⟨e0, ?_⟩
    rw [encF]
    have h4 : (rdR e bs).2.2 = numB (rdA e bs).1 ++ (rdA e bs).2.2 := h4
    have h3 : (rdK e bs).2.2 = ((rdR e bs).1.map numB).flatten ++ (rdR e bs).2.2 := h3
    have h2 : (rdN e bs).2.2 = numB (rdK e bs).1 ++ (rdK e bs).2.2 := h2
    have h1 : (rdOp e bs).2.2 = numB (rdN e bs).1 ++ (rdN e bs).2.2 := h1
    have h0 : bs = numB (rdOp e bs).1 ++ (rdOp e bs).2.2 := h0
    have l3 : (rdR e bs).1.length = (rdK e bs).1 := l3
    rw [l5, l3, Int.toNat_natCast]
    simp only [List.append_assoc]
    rw [← h5, ← h4, ← h3, ← h2, ← h1]
    exact h0
end Go.Proofs.YtnpcilglilfajaaGreatDoor
namespace Go.Proofs.YtnpcilglilfajaaGreatDoor
section
set_option maxRecDepth 100000
theorem fa27_0 : FAdr Tryz.prog 27 0 0 := fadr_mk Tryz.underlying27 rfl rfl (by kernel_rfl)
theorem fa27_1 : FAdr Tryz.prog 27 1 1 := fadr_mk Tryz.underlying27 rfl rfl (by kernel_rfl)
theorem fa27_2 : FAdr Tryz.prog 27 2 2 := fadr_mk Tryz.underlying27 rfl rfl (by kernel_rfl)
theorem fa27_3 : FAdr Tryz.prog 27 3 3 := fadr_mk Tryz.underlying27 rfl rfl (by kernel_rfl)
theorem ty25 : Ty Tryz.prog 25 false 1 := ⟨⟨_, Tryz.underlying25, rfl⟩, by kernel_rfl⟩
theorem ty27 : Ty Tryz.prog 27 true 4 := ⟨⟨_, Tryz.underlying27, rfl⟩, by kernel_rfl⟩
theorem z27 : Zero Tryz.prog 27 [.int .i64 0, .int .i64 0, .slice none 0 0, .slice none 0 0] := ⟨zero_of (by kernel_rfl)⟩
end
open Go.RowKit
end Go.Proofs.YtnpcilglilfajaaGreatDoor
namespace Go.Proofs.YtnpcilglilfajaaGreatDoor
section
set_option maxRecDepth 100000
theorem bs27 : ∃ i z, Tryz.prog.info? 27 = some i ∧ i.size = 4 ∧ i.zero = some z ∧ z.cells = ([.int .i64 0, .int .i64 0, .slice none 0 0, .slice none 0 0] : List Value).toArray := bs_of (by kernel_rfl)
theorem st27 : StT Tryz.prog 27 [(0, 1), (1, 1), (2, 1), (3, 1)] [.int .i64 0, .int .i64 0, .slice none 0 0, .slice none 0 0] := ⟨⟨_, Tryz.underlying27, fun _ => by kernel_rfl, z27⟩⟩
end
open Go.RowKit
abbrev F6 (b : Nat) (op : Nat) (n : Int) (vn va : Value) : Ow := ⟨b, [.int .i64 (op : Int), .int .i64 n, vn, va], 27, 4⟩
end Go.Proofs.YtnpcilglilfajaaGreatDoor
namespace Go.Proofs.YtnpcilglilfajaaGreatDoor
section
set_option maxRecDepth 100000
theorem bs36 : ∃ i z, Tryz.prog.info? 36 = some i ∧ i.size = 4 ∧ i.zero = some z ∧ z.cells = ([.int .u8 0, .int .i64 0, .slice none 0 0, .slice none 0 0] : List Value).toArray := bs_of (by kernel_rfl)
theorem sl34 : SlT Tryz.prog 34 36 4 64 := ⟨Tryz.underlying34, sl_of (by kernel_rfl) (by decide)⟩
theorem st36 : StT Tryz.prog 36 [(0, 1), (1, 1), (2, 1), (3, 1)] [.int .u8 0, .int .i64 0, .slice none 0 0, .slice none 0 0] := ⟨⟨_, Tryz.underlying36, fun _ => by kernel_rfl, z36⟩⟩
end
open Go.RowKit
abbrev S3F (b : Nat) (op : Nat) (n : Int) (vn va : Value) : Ow := ⟨b, [.int .u8 (op : Int), .int .i64 n, vn, va], 36, 4⟩
end Go.Proofs.YtnpcilglilfajaaGreatDoor
