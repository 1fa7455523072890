/- What the law's proof rests on: the engine, a small separation logic over the kit's walk, and contracts of the functions that the law reaches. Part 2. -/
import Derived.Test.YtnpcilglilfajaaGreatDoorCards
import Derived.Test.YtnpcilglilfajaaGreatDoorTie
import Derived.WalkKit
import Derived.ProofKit
import Derived.OpenShut
import Derived.Deep.DeepHandedRow
import Derived.Deep.Slices
import Derived.Lib.LaidTab
import Derived.Lib.SmallJoins
import Derived.Stop.LaidErr
import Derived.WideKeyArgs
import Derived.Laws.Strings
import Derived.Lib.MakeNoZero
import Derived.Laws.IdiomStrings
import Derived.Test.YtnpcilglilfajaaGreatDoorProg
import Derived.Laws.IdiomArrays
import Derived.Test.YtnpcilglilfajaaGreatDoorPart1
namespace Go.Proofs.YtnpcilglilfajaaGreatDoor
theorem odd_part : ∀ (m : Nat), 0 < m → ∃ t q, m = 2 ^ t * (2 * q + 1) := by
  intro m
  induction m using Nat.strongRecOn with
  | _ m ih =>
    intro h
    rcases Nat.mod_two_eq_zero_or_one m with e | e
    · obtain ⟨t, q, hm⟩ := ih (m / 2) (by omega) (by omega)
      refine ⟨t + 1, q, ?_⟩
      have : m = 2 * (m / 2) := by omega
      rw [this, hm, Nat.pow_succ]
      rw [Nat.mul_comm (2 ^ t) 2, Nat.mul_assoc]
    · exact ⟨0, m / 2, by omega⟩
theorem odd_lt {t q n : Nat} (h : 2 ^ t * (2 * q + 1) < 2 ^ n) : t < n := by
  have h1 : 2 ^ t * 1 ≤ 2 ^ t * (2 * q + 1) := Nat.mul_le_mul_left _ (by omega)
  have h2 : 2 ^ t < 2 ^ n := by omega
  exact (Nat.pow_lt_pow_iff_right (by omega)).1 h2
theorem odd_bit (t q j : Nat) : (2 ^ t * (2 * q + 1)).testBit j = (decide (t ≤ j) && (2 * q + 1).testBit (j - t)) := by
  have := Nat.testBit_two_pow_mul (i := t) (a := 2 * q + 1) (j := j)
  simpa using this
theorem odd_even (t q j : Nat) (h : j ≠ t) : (2 ^ t * (2 * q + 1)).testBit j = (2 ^ t * (2 * q)).testBit j := by
  rw [odd_bit, Nat.testBit_two_pow_mul]
  by_cases hj : t ≤ j
  · obtain ⟨k, rfl⟩ : ∃ k, j = t + (k + 1) := ⟨j - t - 1, by omega⟩
    have e : t + (k + 1) - t = k + 1 := by omega
    rw [e, Nat.testBit_succ, Nat.testBit_succ]
    have e1 : (2 * q + 1) / 2 = q := by omega
    have e2 : (2 * q) / 2 = q := by omega
    simp [e1, e2]
  · simp [hj]
theorem even_bit (t q : Nat) : (2 ^ t * (2 * q)).testBit t = false := by
  rw [Nat.testBit_two_pow_mul]
  simp
theorem odd_bit_self (t q : Nat) : (2 ^ t * (2 * q + 1)).testBit t = true := by
  rw [odd_bit]
  simp
theorem odd_bit_below (t q j : Nat) (h : j < t) : (2 ^ t * (2 * q + 1)).testBit j = false := by
  rw [odd_bit]
  simp; omega
theorem odd_pred (t q : Nat) : 2 ^ t * (2 * q + 1) - 1 = 2 ^ t * (2 * q) + (2 ^ t - 1) := by
  have h : 0 < 2 ^ t := Nat.pow_pos (by omega)
  rw [Nat.mul_add, Nat.mul_one]
  omega
theorem pred_bit (t q j : Nat) : (2 ^ t * (2 * q + 1) - 1).testBit j = if j < t then true else (2 ^ t * (2 * q)).testBit j := by
  have h0 : 0 < 2 ^ t := Nat.pow_pos (by omega)
  rw [odd_pred, Nat.testBit_two_pow_mul_add _ (by omega)]
  split
  · rename_i h
    have := Nat.testBit_two_pow_sub_one t j
    rw [this]; simpa using h
  · rename_i h
    rw [Nat.testBit_two_pow_mul]
    simp; omega
/-- The least bit alone. -/
theorem low_bit (t q : Nat) (h : 2 ^ t * (2 * q + 1) < 18446744073709551616) : 2 ^ t * (2 * q + 1) &&& (18446744073709551616 - 2 ^ t * (2 * q + 1)) = 2 ^ t := by
  have ht : t < 64 := odd_lt (n := 64) h
  have h0 : 0 < 2 ^ t * (2 * q + 1) := Nat.mul_pos (Nat.pow_pos (by omega)) (by omega)
  apply Nat.eq_of_testBit_eq
  intro j
  have e : 18446744073709551616 - 2 ^ t * (2 * q + 1) = 2 ^ 64 - (2 ^ t * (2 * q + 1) - 1 + 1) := by omega
  rw [Nat.testBit_and, e, Nat.testBit_two_pow_sub_succ (by omega), pred_bit, Nat.testBit_two_pow]
  rcases Nat.lt_trichotomy j t with hj | hj | hj
  · rw [odd_bit_below _ _ _ hj]; simp; omega
  · subst hj; rw [odd_bit_self, even_bit]; simp; omega
  · rw [odd_even _ _ _ (by omega), if_neg (by omega)]
    have : ¬ t = j := by omega
    simp only [this, decide_false]
    cases (2 ^ t * (2 * q)).testBit j <;> simp
/-- Without the least bit. -/
theorem drop_low (t q : Nat) : 2 ^ t * (2 * q + 1) &&& (2 ^ t * (2 * q + 1) - 1) = 2 ^ t * (2 * q) := by
  apply Nat.eq_of_testBit_eq
  intro j
  rw [Nat.testBit_and, pred_bit]
  rcases Nat.lt_trichotomy j t with hj | hj | hj
  · rw [odd_bit_below _ _ _ hj, Nat.testBit_two_pow_mul]; simp; omega
  · subst hj; rw [even_bit]; simp
  · rw [odd_even _ _ _ (by omega), if_neg (by omega), Bool.and_self]

/-- The members of a set, ascending. -/
def mem64 (m : Nat) : List Nat := (List.range 64).filter fun i => m.testBit i
theorem mem64_zero : mem64 0 = [] := by simp [mem64]
theorem mem64_cons (t q : Nat) (ht : t < 64) : mem64 (2 ^ t * (2 * q + 1)) = t :: mem64 (2 ^ t * (2 * q)) := by
  unfold mem64
  have hr : List.range 64 = List.range t ++ t :: List.range' (t + 1) (63 - t) := by
    rw [List.range_eq_range', List.range_eq_range']
    have h1 : List.range' 0 64 = List.range' 0 t ++ List.range' (0 + 1 * t) (64 - t) := by
      rw [List.range'_append]
      congr 1
      omega
    rw [h1]
    congr 1
    rw [show 64 - t = (63 - t) + 1 by omega, List.range'_succ]
    simp
  rw [hr, List.filter_append, List.filter_append, List.filter_cons, List.filter_cons, odd_bit_self, even_bit]
  have h1 : (List.range t).filter (fun i => (2 ^ t * (2 * q + 1)).testBit i) = [] := by
    rw [List.filter_eq_nil_iff]
    intro a ha
    rw [odd_bit_below _ _ _ (List.mem_range.1 ha)]; simp
  have h2 : (List.range t).filter (fun i => (2 ^ t * (2 * q)).testBit i) = [] := by
    rw [List.filter_eq_nil_iff]
    intro a ha
    have := List.mem_range.1 ha
    rw [← odd_even _ _ _ (by omega), odd_bit_below _ _ _ this]; simp
  have h3 : (List.range' (t + 1) (63 - t)).filter (fun i => (2 ^ t * (2 * q + 1)).testBit i) = (List.range' (t + 1) (63 - t)).filter (fun i => (2 ^ t * (2 * q)).testBit i) := by
    apply List.filter_congr
    intro a ha
    rw [List.mem_range'] at ha
    obtain ⟨k, hk, rfl⟩ := ha
    exact odd_even _ _ _ (by omega)
  rw [h1, h2, h3]
  simp
theorem mem64_length (m : Nat) : (mem64 m).length ≤ 64 := by
  have := List.length_filter_le (fun i => m.testBit i) (List.range 64)
  simpa [mem64] using this
end Go.Proofs.YtnpcilglilfajaaGreatDoor
namespace Go.Proofs.YtnpcilglilfajaaGreatDoor
section
set_option maxRecDepth 100000
theorem en70 : Enters Tryz.prog 70 := enters_mk Tryz.func70 (by kernel_rfl) rfl
theorem ty5 : Ty Tryz.prog 5 false 1 := ⟨⟨_, Tryz.underlying5, rfl⟩, by kernel_rfl⟩
end
/-- The table of the package math/bits. -/
def tab64 : List Nat := [0, 1, 56, 2, 57, 49, 28, 3, 61, 58, 42, 50, 38, 29, 17, 4, 62, 47, 59, 36, 45, 43, 51, 22, 53, 39, 33, 30, 24, 18, 12, 5, 63, 55, 48, 27, 60, 41, 37, 16, 46, 35, 44, 21, 52, 32, 23, 11, 54, 26, 40, 15, 34, 20, 31, 10, 25, 14, 19, 9, 13, 8, 7, 6]
def Tab (X : PMap) : Prop := Blk X 0 (tab64.map fun (i : Nat) => .int .u8 (i : Int))
theorem Tab.mono {X X' : PMap} (h : Tab X) (hX : X.le X') : Tab X' := Blk.mono h hX
theorem tab64_at : ∀ t, t < 64 → tab64[(2 ^ t * 285870213051353865 % 18446744073709551616) >>> 58]? = some t := by decide
theorem tab64_in : ∀ t, t < 64 → (2 ^ t * 285870213051353865 % 18446744073709551616) >>> 58 < 64 := by decide

theorem tz_spec {X : PMap} (hT : Tab X) (t q m : Nat) (hm : m = 2 ^ t * (2 * q + 1)) (hlt : m < 18446744073709551616) : Spec Tryz.prog 133 [.int .u64 (m : Int)] X fun u X' => u = .int .i64 (t : Int) ∧ X = X' := by
  have ht : t < 64 := odd_lt (n := 64) (q := q) (by rw [← hm]; exact hlt)
  have h0 : 0 < m := by rw [hm]; exact Nat.mul_pos (Nat.pow_pos (by omega)) (by omega)
  have hlow : m &&& (18446744073709551616 - m) = 2 ^ t := by rw [hm]; exact low_bit t q (by omega)
  have hin := tab64_in t ht
  have hat := tab64_at t ht
  refine Spec.enter Tryz.func133 rfl Tryz.ntmps133 rfl ?_
  intro w0 hw0
  refine T.seq <| T.region <| SL.v (op_assign (v := .int .i64 ((0 : Nat) : Int)) rfl) <| SL.nil <| T.seq <| T.seq <| T.region <| SL.mv rfl <| SL.v (op_eqlF rfl rfl (by omega)) ?_
  refine SL.nil <| T.condF rfl <| T.skip <| T.seq <| T.region <| SL.mv rfl <| SL.mv rfl <| SL.v (op_negU rfl (by omega) (by omega)) ?_
  refine SL.v (op_and rfl rfl (by first | omega | assumption | decide | exact Nat.lt_of_le_of_lt (Nat.shiftRight_le ..) (by first | omega | assumption) | exact Nat.lt_of_le_of_lt Nat.and_le_left (by first | omega | assumption) | exact Nat.lt_of_le_of_lt Nat.and_le_right (by first | omega | decide)) (by first | omega | assumption | decide | exact Nat.lt_of_le_of_lt (Nat.shiftRight_le ..) (by first | omega | assumption) | exact Nat.lt_of_le_of_lt Nat.and_le_left (by first | omega | assumption) | exact Nat.lt_of_le_of_lt Nat.and_le_right (by first | omega | decide))) ?_
  rw [hlow]
  refine SL.v (op_mulU (q := 285870213051353865) rfl rfl) <| SL.v (op_shrN (q := 58) rfl rfl (by omega)) ?_
  refine SL.v (op_indexA Tryz.underlying254 ty5 rfl rfl (by omega)) ?_
  refine SL.v (op_loadX ty5 rfl hT (cread1 (by rw [List.getElem?_map, hat]; rfl))) ?_
  refine SL.v (op_convI64 Tryz.underlying5 Tryz.underlying3 rfl (by omega) (by omega)) ?_
  refine SL.as rfl <| SL.nil <| T.ret1 rfl (ResIs.tmp rfl) ?_
  exact ⟨rfl, rfl⟩

end Go.Proofs.YtnpcilglilfajaaGreatDoor
namespace Go.Proofs.YtnpcilglilfajaaGreatDoor
section
set_option maxRecDepth 100000
theorem bs3 : ∃ i z, Tryz.prog.info? 3 = some i ∧ i.size = 1 ∧ i.zero = some z ∧ z.cells = ([.int .i64 0] : List Value).toArray := bs_of (by kernel_rfl)
theorem en132 : Enters Tryz.prog 132 := enters_mk Tryz.func132 (by kernel_rfl) rfl
theorem en133 : Enters Tryz.prog 133 := enters_mk Tryz.func133 (by kernel_rfl) rfl
theorem en22 : Enters Tryz.prog 22 := enters_mk Tryz.func22 (by kernel_rfl) rfl
theorem en85 : Enters Tryz.prog 85 := enters_mk Tryz.func85 (by kernel_rfl) rfl
theorem sl24 : SlT Tryz.prog 24 3 1 8 := ⟨Tryz.underlying24, sl_of (by kernel_rfl) (by decide)⟩
theorem ty24 : Ty Tryz.prog 24 false 1 := ⟨⟨_, Tryz.underlying24, rfl⟩, by kernel_rfl⟩
end
open Go.RowKit
theorem mem64_drop {m x i t q : Nat} (h : (mem64 m).drop i = mem64 x) (hx : x = 2 ^ t * (2 * q + 1)) (ht : t < 64) : (mem64 m)[i]? = some t ∧ (mem64 m).drop (i + 1) = mem64 (2 ^ t * (2 * q)) := by
  rw [hx, mem64_cons t q ht] at h
  refine ⟨?_, ?_⟩
  · have := congrArg (·[0]?) h
    simpa using this
  · have := congrArg (List.drop 1) h
    simpa using this
theorem all_seq {X : PMap} (hT : Tab X) {v : Value} {m B : Nat} (h : SetR X v m) (hbox : Blk X B (vcells v)) : Seq Tryz.prog 132 [.pointer (some ⟨B, 0, none⟩)] (ints (mem64 m)) X := by
  intro l J w0 hst hP hY hJ0
  have hw0 := hP 0 w0 hJ0
  rcases h with ⟨rfl, A, c, rfl⟩ | ⟨_, h1, b, c, rest, rfl, hB⟩
  · refine Calls.enter Tryz.func132 rfl Tryz.ntmps132 rfl hw0 ?_
    refine T.seq <| T.region <| SL.v (op_fieldAddr fa53_0 rfl) <| SL.v (op_loadX ty51 rfl (by assumption) rfl) ?_
    refine SL.v (op_lenS Tryz.underlying51 rfl) <| SL.v (op_move (v := .int .i64 ((0 : Nat) : Int)) rfl) <| SL.nil <| T.block <| T.unrollStart 1 ?_
    refine T.unroll ?_
    refine T.seq <| T.region <| SL.v (op_lssF rfl rfl (by omega)) ?_
    refine SL.nil <| T.seq <| T.condF rfl ?_
    refine T.exit (T.exitCode (T.exitMore (T.exitBlk ?_)))
    refine T.done0 rfl ?_
    intro W' hb hp
    exact ⟨⟨_, rfl⟩, by simpa [mem64_zero, ints] using hst 0 _ _ hJ0 hb⟩
  · refine Calls.enter Tryz.func132 rfl Tryz.ntmps132 rfl hw0 ?_
    refine T.seq <| T.region <| SL.v (op_fieldAddr fa53_0 rfl) <| SL.v (op_loadX ty51 rfl (by assumption) rfl) ?_
    refine SL.v (op_lenS Tryz.underlying51 rfl) <| SL.v (op_move (v := .int .i64 ((0 : Nat) : Int)) rfl) <| SL.nil <| T.block <| T.unrollStart 2 ?_
    refine T.unroll ?_
    refine T.seq <| T.region <| SL.v (op_lssT rfl rfl (by omega)) ?_
    refine SL.nil <| T.seq <| T.condT rfl <| T.skip <| T.seq <| T.block <| T.seq <| T.region <| SL.mv rfl <| SL.v (op_indexN Tryz.underlying51 ty58 rfl rfl (by omega)) ?_
    refine SL.v (op_loadX ty58 rfl (by assumption) rfl) ?_
    refine SL.as rfl <| SL.as rfl <| SL.nil <| T.block <| T.loopB (fun mm env w1 => ∃ i x, x = mm ∧ x < 18446744073709551616 ∧ i ≤ (mem64 m).length ∧ (mem64 m).drop i = mem64 x ∧ J i w1 ∧ env = [(0, .func (.yield l) #[] #[]), (3, .int .i64 ((0 : Nat) : Int)), (4, .int .u64 (x : Int)), (7, .int .i64 ((1 : Nat) : Int)), (8, .int .i64 ((0 : Nat) : Int))]) m ⟨0, m, rfl, h1, by omega, by simp, hJ0, rfl⟩ (by repeat (first | exact Sub.nil | refine Sub.cons rfl ?_)) rfl ?_
    rintro mm _ w1 ⟨i, x, rfl, hx, hi, hdrop, hJ, rfl⟩
    by_cases hx0 : x = 0
    · subst hx0
      have hi' : i = (mem64 m).length := by
        rw [mem64_zero] at hdrop
        have := List.drop_eq_nil_iff.1 hdrop
        omega
      subst hi'
      refine T.seq <| T.seq <| T.region <| SL.mv rfl <| SL.v (op_neqF rfl rfl (by omega)) ?_
      refine SL.nil <| T.condF rfl ?_
      refine T.exit (T.exitCode (T.exitCut (T.exitBlk ?_)))
      refine T.blk <| T.region <| SL.v (op_addN (q := 1) rfl rfl (by omega)) ?_
      refine SL.mv rfl <| SL.nil <| T.unroll ?_
      refine T.seq <| T.region <| SL.v (op_lssF rfl rfl (by omega)) ?_
      refine SL.nil <| T.seq <| T.condF rfl ?_
      refine T.exit (T.exitCode (T.exitMore (T.exitBlk ?_)))
      refine T.done0 rfl ?_
      intro W' hb hp
      exact ⟨⟨_, rfl⟩, by simpa [ints] using hst _ _ _ hJ hb⟩
    · obtain ⟨t, q, hq⟩ := odd_part x (by omega)
      have ht : t < 64 := odd_lt (n := 64) (q := q) (by rw [← hq]; exact hx)
      obtain ⟨hget, hdrop'⟩ := mem64_drop hdrop hq ht
      refine T.seq <| T.seq <| T.region <| SL.mv rfl <| SL.v (op_neqT rfl rfl (by omega)) ?_
      refine SL.nil <| T.condT rfl <| T.skip <| T.seq <| T.block <| T.seq <| T.region <| SL.mv rfl <| SL.mv rfl <| SL.v (op_mulN (p := 64) rfl rfl (by omega)) ?_
      refine SL.mv rfl <| SL.w (op_callF en133 (vs := [_]) rfl (tz_spec hT t q x hq hx)) ?_
      rintro _ _ X1 ⟨rfl, hX1, rfl, rfl⟩
      refine SL.v (op_addN rfl rfl (by omega)) ?_
      refine (SL.yield (x := .int .i64 ((0 + t : Nat) : Int)) (J := J i) (J' := J (i + 1)) rfl rfl rfl rfl (fun W hb => hst i _ _ hJ hb) (fun A hA => hY i _ A hA (by simp [ints, hget])) (fun B hB => hP _ B hB) ?_)
      intro w2 hJ2 hw2
      refine SL.v (op_not rfl) <| SL.nil <| T.condF rfl <| T.skip <| T.blk <| T.region <| SL.mv rfl <| SL.mv rfl <| SL.v (op_subU (q := 1) rfl rfl (by omega) (by omega)) ?_
      refine SL.v (op_and rfl rfl (by first | omega | assumption | decide | exact Nat.lt_of_le_of_lt (Nat.shiftRight_le ..) (by first | omega | assumption) | exact Nat.lt_of_le_of_lt Nat.and_le_left (by first | omega | assumption) | exact Nat.lt_of_le_of_lt Nat.and_le_right (by first | omega | decide)) (by first | omega | assumption | decide | exact Nat.lt_of_le_of_lt (Nat.shiftRight_le ..) (by first | omega | assumption) | exact Nat.lt_of_le_of_lt Nat.and_le_left (by first | omega | assumption) | exact Nat.lt_of_le_of_lt Nat.and_le_right (by first | omega | decide))) ?_
      rw [show x &&& (x - 1) = 2 ^ t * (2 * q) by rw [hq]; exact drop_low t q]
      refine SL.as rfl <| SL.nil ?_
      exact T.backB (2 ^ t * (2 * q)) (by rw [hq]; exact Nat.mul_lt_mul_of_pos_left (by omega) (Nat.pow_pos (by omega))) ⟨i + 1, _, rfl, by rw [hq] at hx; exact Nat.lt_of_le_of_lt (Nat.mul_le_mul_left _ (by omega)) hx, by have := (List.getElem?_eq_some_iff.1 hget).1; omega, hdrop', hJ2, rfl⟩ (by repeat (first | exact Sub.nil | refine Sub.cons rfl ?_))

theorem all_spec {X : PMap} {v : Value} : Spec Tryz.prog 85 [v] X fun u X' => ∃ B, u = .func (.func 132) #[] #[.pointer (some ⟨B, 0, none⟩)] ∧ Blk X' B (vcells v) := by
  refine Spec.enter Tryz.func85 rfl Tryz.ntmps85 rfl ?_
  intro w0 hw0
  refine T.seq <| T.region <| SL.w (op_box rfl) ?_
  rintro _ _ _ ⟨B1, rfl, rfl, rfl⟩
  refine SL.as rfl <| SL.nil <| T.seq <| T.region <| SL.v (op_makeFunc (vs := []) (us := [_]) rfl rfl) <| SL.as rfl <| SL.nil <| T.pub B1 (by repeat constructor) ?_
  intro X1 hX1 hB1 _
  refine T.ret1 rfl (ResIs.tmp rfl) ?_
  exact ⟨B1, rfl, hB1⟩

end Go.Proofs.YtnpcilglilfajaaGreatDoor
namespace Go.Proofs.YtnpcilglilfajaaGreatDoor
section
set_option maxRecDepth 100000
theorem en38 : Enters Tryz.prog 38 := enters_mk Tryz.func38 (by kernel_rfl) rfl
end
open Go.RowKit
theorem SliceR.form {X : PMap} {v : Value} {len : Nat} {cs : List Value} (h : SliceR X v len cs) : ∃ A cp, v = .slice A len cp := by
  rcases h with ⟨h0, _, A, c, rfl⟩ | ⟨_, b, c, rfl, _⟩
  · exact ⟨A, c, by rw [h0]⟩
  · exact ⟨_, c, rfl⟩
theorem SliceR.blk {X : PMap} {A : Option Addr} {cp len : Nat} {cs : List Value} (h : SliceR X (.slice A len cp) len cs) (h0 : 0 < len) : ∃ b, A = some ⟨b, 0, none⟩ ∧ Blk X b cs := by
  rcases h with ⟨h0, _⟩ | ⟨_, b, c, he, hb⟩
  · omega
  · simp only [Value.slice.injEq] at he
    exact ⟨b, he.1, hb⟩
theorem eqInts_spec {X : PMap} {v v' : Value} {l l' : List Nat} (h : SliceR X v l.length (ints l)) (h' : SliceR X v' l'.length (ints l')) (hs : l.length < 2147483648) : Spec Tryz.prog 39 [v, v'] X fun u _ => u = .bool (decide (l = l')) := by
  obtain ⟨A, cp, rfl⟩ := h.form
  obtain ⟨A', cp', rfl⟩ := h'.form
  by_cases hl : l.length = l'.length
  · refine Spec.enter Tryz.func39 rfl Tryz.ntmps39 rfl ?_
    intro w0 hw0
    refine T.seq <| T.region <| SL.as rfl <| SL.nil <| T.seq <| T.seq <| T.region <| SL.mv rfl <| SL.v (op_lenS Tryz.underlying24 rfl) <| SL.mv rfl <| SL.v (op_lenS Tryz.underlying24 rfl) <| SL.v (op_neqF rfl rfl (by omega)) ?_
    refine SL.nil <| T.condF rfl <| T.skip <| T.seq <| T.seq <| T.region <| SL.mv rfl <| SL.v (op_lenS Tryz.underlying24 rfl) <| SL.v (op_move (v := .int .i64 ((0 : Nat) : Int)) rfl) <| SL.nil <| T.block <| T.loopW (fun m env own X' => ∃ (k : Nat), m = l.length - k ∧ k ≤ l.length ∧ X = X' ∧ l.take k = l'.take k ∧ own = [] ∧ env = [(0, .slice A l.length cp), (1, .slice A' l'.length cp'), (12, .int .i64 (l.length : Int)), (13, .int .i64 (k : Int))]) l.length ⟨0, by simp, by omega, rfl, rfl, rfl, rfl⟩ (by repeat (first | exact Sub.nil | refine Sub.cons rfl ?_)) ?_
    rintro m _ _ _ ⟨k, rfl, hk, rfl, hpre, rfl, rfl⟩
    rcases Nat.lt_or_ge k l.length with hkl | hkl
    · obtain ⟨b, rfl, hB⟩ := h.blk (by omega)
      obtain ⟨b', rfl, hB'⟩ := h'.blk (by omega)
      have hkl' : k < l'.length := by omega
      refine T.seq <| T.region <| SL.v (op_lssT rfl rfl (by omega)) ?_
      refine SL.nil <| T.seq <| T.condT rfl <| T.skip <| T.seq <| T.block <| T.seq <| T.region <| SL.mv rfl <| SL.as rfl <| SL.nil <| T.seq <| T.draw (by kernel_rfl) 9 [.t 0, .t 1, .t 2, .t 3, .t 4, .t 5, .t 6, .t 7, .t 8] (by kernel_rfl) ?_
      refine SD.take rfl panicBody (op_move rfl) rfl rfl ?_
      refine SD.take rfl panicBody (op_move rfl) rfl rfl ?_
      refine SD.take rfl panicBody (op_indexN Tryz.underlying24 ty3 rfl rfl (by omega)) rfl rfl ?_
      refine SD.take rfl panicBody (op_loadX ty3 rfl hB (cread1 (ints_get l k hkl))) rfl rfl ?_
      refine SD.take rfl panicBody (op_move rfl) rfl rfl ?_
      refine SD.take rfl panicBody (op_move rfl) rfl rfl ?_
      refine SD.take rfl panicBody (op_indexN Tryz.underlying24 ty3 rfl rfl (by omega)) rfl rfl ?_
      refine SD.take rfl panicBody (op_loadX ty3 rfl hB' (cread1 (ints_get l' k hkl'))) rfl rfl ?_
      by_cases he : l[k] = l'[k]
      · skip
        refine SD.take rfl panicBody (op_neqF rfl rfl (by omega)) rfl rfl ?_
        refine SD.nil ?_
        show SL _ _ _ _ _ _ _ [] _ _ _
        refine SL.nil <| T.condF rfl <| T.skip <| T.blk <| T.region <| SL.v (op_addN (q := 1) rfl rfl (by omega)) ?_
        refine SL.mv rfl <| SL.nil ?_
        exact T.backW (l.length - (k + 1)) (by omega) ⟨k + 1, rfl, by omega, rfl, by rw [List.take_succ_eq_append_getElem hkl, List.take_succ_eq_append_getElem hkl', hpre, he], rfl, rfl⟩ (by repeat (first | exact Sub.nil | refine Sub.cons rfl ?_))
      · refine SD.take rfl panicBody (op_neqT rfl rfl (by omega)) rfl rfl ?_
        refine SD.nil ?_
        show SL _ _ _ _ _ _ _ [] _ _ _
        refine SL.nil <| T.condT rfl <| T.seq <| T.region <| SL.as rfl <| SL.nil <| T.ret1 rfl (ResIs.tmp rfl) ?_
        have : l ≠ l' := fun e => he (by subst e; rfl)
        simp [this]
    · obtain rfl : k = l.length := by omega
      refine T.seq <| T.region <| SL.v (op_lssF rfl rfl (by omega)) ?_
      refine SL.nil <| T.seq <| T.condF rfl ?_
      refine T.exit (T.exitCode (T.exitCut (T.exitBlk ?_)))
      refine T.seq <| T.region <| SL.as rfl <| SL.nil <| T.ret1 rfl (ResIs.tmp rfl) ?_
      have : l = l' := by
        rw [List.take_length, hl, List.take_length] at hpre
        exact hpre
      simp [this]
  · refine Spec.enter Tryz.func39 rfl Tryz.ntmps39 rfl ?_
    intro w0 hw0
    refine T.seq <| T.region <| SL.as rfl <| SL.nil <| T.seq <| T.seq <| T.region <| SL.mv rfl <| SL.v (op_lenS Tryz.underlying24 rfl) <| SL.mv rfl <| SL.v (op_lenS Tryz.underlying24 rfl) <| SL.v (op_neqT rfl rfl (by omega)) ?_
    refine SL.nil <| T.condT rfl <| T.seq <| T.region <| SL.as rfl <| SL.nil <| T.ret1 rfl (ResIs.tmp rfl) ?_
    have : l ≠ l' := fun e => hl (by rw [e])
    simp [this]
end Go.Proofs.YtnpcilglilfajaaGreatDoor
namespace Go.Proofs.YtnpcilglilfajaaGreatDoor
section
set_option maxRecDepth 100000
theorem bs5 : ∃ i z, Tryz.prog.info? 5 = some i ∧ i.size = 1 ∧ i.zero = some z ∧ z.cells = ([.int .u8 0] : List Value).toArray := bs_of (by kernel_rfl)
theorem sl44 : SlT Tryz.prog 44 5 1 1 := ⟨Tryz.underlying44, sl_of (by kernel_rfl) (by decide)⟩
end
open Go.RowKit
set_option maxRecDepth 20000 in
theorem u8_or128 : ∀ p : _root_.Fin 128, bits .or .u8 (p.val : Int) 128 = ((128 + p.val : Nat) : Int) := by decide
set_option maxRecDepth 20000 in
theorem u8_and127 : ∀ p : _root_.Fin 256, bits .and .u8 (p.val : Int) 127 = ((p.val % 128 : Nat) : Int) := by decide
section
variable {ro : Option Nat} {P : Program} {n : NM} {w0 : Base} {X0 X : PMap} {own : Own} {env : Env} {t t' : TypeId} {x y : Operand}
theorem op_or128 {p : Nat} (hx : eev env x = some (.int .u8 (p : Int))) (hy : eev env y = some (.int .u8 128)) (h : p < 128) : OpY P n env own X (.binOp .or t x y t') (.int .u8 ((128 + p : Nat) : Int)) := op_bits hx hy (by simp) (u8_or128 ⟨p, h⟩)
theorem op_and127 {p : Nat} (hx : eev env x = some (.int .u8 (p : Int))) (hy : eev env y = some (.int .u8 127)) (h : p < 256) : OpY P n env own X (.binOp .and t x y t') (.int .u8 ((p % 128 : Nat) : Int)) := op_bits hx hy (by simp) (u8_and127 ⟨p, h⟩)
theorem op_and127L {p : Nat} (hx : eev env x = some (.int .u64 (p : Int))) (hy : eev env y = some (.int .u64 127)) (h : p < 18446744073709551616) : OpY P n env own X (.binOp .and t x y t') (.int .u64 ((p % 128 : Nat) : Int)) := by
  have := op_and (P := P) (n := n) (own := own) (X := X) (t := t) (t' := t') (q := 127) hx hy h (by omega)
  rwa [show p &&& 127 = p % 128 from Nat.and_two_pow_sub_one_eq_mod p 7] at this
/-- append of a slice onto what has grown. -/
theorem op_appendGM {e : TypeId} {s : Operand} {v u : Value} {len m size bytes : Nat} {cs news : List Value} {own0 G : Own} (ht : SlT P t e size bytes) (hs : eev env s = some v) (hg : GrowS e size v len cs G) (hx : eev env x = some u)
    (hsrc : Src (own0 ++ G) X u m size news) (hm : 0 < m) (h1 : ∀ y ∈ news, y.oneCell' = true) (hlen : len + m ≤ maxLen) (hby : (len + m) * bytes ≤ 140737488355328) :
    OpX P n w0 X0 env (own0 ++ G) X (.call { callee := .builtin .append, args := #[s, x], argTypes := #[t, t] }) false fun v' own' X' => ∃ G', own' = own0 ++ G' ∧ X = X' ∧ GrowS e size v' (len + m) (cs ++ news) G' := by
  have hnl := hsrc.1
  rcases hg with ⟨rfl, rfl, rfl, rfl⟩ | ⟨b, cap, rfl, rfl, hlc, hcm, hcl⟩
  · refine (op_appendNil (m := m) (news := news) ht hs hx hsrc hm h1 (by simpa using hlen) (by simpa using hby)).weaken ?_
    rintro v' own' X' ⟨b', cap', rfl, rfl, rfl, hc1, hc2⟩
    refine ⟨own0 ++ [⟨b', news, e, cap' * size⟩], ⟨b', news, e, cap' * size⟩ :: own0, ⟨_, rfl, rfl, .inr ⟨b', cap', by simp, by simp, by omega, hc2, by simp [hnl]⟩⟩, ?_, (List.perm_append_singleton ..).symm⟩
    rw [List.append_nil]
    exact List.Sublist.refl _
  · refine (op_append (m := m) (news := news) (j := own0.length + 0) ht hs hx ((AtO.here (l := []) (b := b) (cs := cs) (ty := e) (sz := cap * size)).append own0) rfl hcl hlc hcm hsrc h1 hlen hby).weaken ?_
    rintro v' own' X' ⟨b', cap', rfl, rfl, rfl, hc1, hc2⟩
    refine ⟨own0 ++ [⟨b', cs ++ news, e, cap' * size⟩], _, ⟨_, rfl, rfl, .inr ⟨b', cap', rfl, rfl, hc1, hc2, by simp [hcl, hnl, Nat.add_mul]⟩⟩, ?_, .refl _⟩
    have e1 : (own0 ++ [(⟨b, cs, e, cap * size⟩ : Ow)]).set (own0.length + 0) ⟨b', cs ++ news, e, cap' * size⟩ = own0 ++ [⟨b', cs ++ news, e, cap' * size⟩] := by
      simp
    rw [e1]
    exact List.Sublist.refl _
end
theorem bytesC_append (l m : List Nat) : bytesC (l ++ m) = bytesC l ++ bytesC m := by simp [bytesC]
theorem bytesC_len (l : List Nat) : (bytesC l).length = l.length := by simp [bytesC]
theorem bytesC_one (l : List Nat) : ∀ y ∈ bytesC l, y.oneCell' = true := fun y hy => by
  simp only [bytesC, List.mem_map] at hy
  obtain ⟨b, _, rfl⟩ := hy; rfl
theorem bytesC_at {l : List Nat} {i b : Nat} (h : l[i]? = some b) : (bytesC l)[i]? = some (.int .u8 (b : Int)) := by simp [bytesC, h]
theorem Src.ofBytes {own : Own} {X : PMap} {v : Value} {bs : List Nat} (h : BytesR X v bs) : Src own X v bs.length 1 (bytesC bs) := by
  rcases h with ⟨rfl, A, c, rfl⟩ | ⟨h0, b, c, pre, rfl, hb⟩
  · exact Src.nil
  · have := Src.ofExt (own := own) (m := bs.length) (c := c) (size := 1) (o := pre.length) hb (by rw [List.length_append, bytesC_len]; omega)
    rwa [List.drop_left, List.take_of_length_le (by rw [bytesC_len]; omega)] at this
theorem BytesR.ofS {X : PMap} {v : Value} {bs : List Nat} (h : SliceR X v bs.length (bytesC bs)) : BytesR X v bs := by
  rcases h with ⟨h1, _, A, c, rfl⟩ | ⟨h0, b, c, rfl, hb⟩
  · have : bs = [] := List.eq_nil_of_length_eq_zero h1
    subst this
    exact .inl ⟨rfl, _, _, rfl⟩
  · exact .inr ⟨h0, b, c, [], rfl, hb⟩
theorem bclone_spec {X : PMap} {v : Value} {bs : List Nat} (h : BytesR X v bs) (hl : bs.length < 1000000) : SpecO Tryz.prog 134 [v] X fun u own1 _ => GrowS 5 1 u bs.length (bytesC bs) own1 := by
  obtain ⟨A, cp, rfl⟩ := h.form
  rcases A with _ | ad
  · have hn : bs = [] := by
      rcases h with ⟨h1, _⟩ | ⟨_, b, c, pre, hv, _⟩
      · exact h1
      · cases hv
    subst hn
    refine SpecO.enter Tryz.func134 rfl Tryz.ntmps134 rfl ?_
    intro w0 hw0
    refine T.seq <| T.region <| SL.as rfl <| SL.nil <| T.seq <| T.seq <| T.region <| SL.mv rfl <| SL.v (op_eqlSNil Tryz.underlying44 rfl rfl) <| SL.nil <| T.condT rfl <| T.seq <| T.region <| SL.as rfl <| SL.nil ?_
    refine T.retO1 rfl (ResIs.tmp rfl) ?_
    exact .inl ⟨rfl, rfl, rfl, rfl⟩
  · refine SpecO.enter Tryz.func134 rfl Tryz.ntmps134 rfl ?_
    intro w0 hw0
    refine T.seq <| T.region <| SL.as rfl <| SL.nil <| T.seq <| T.seq <| T.region <| SL.mv rfl <| SL.v (op_eqlSNil Tryz.underlying44 rfl rfl) <| SL.nil <| T.condF rfl <| T.skip <| T.seq <| T.region <| SL.w (op_buildSlice Tryz.underlying44 bs5 (qs := []) rfl rfl rfl rfl rfl) ?_
    rintro _ _ _ ⟨B5, rfl, rfl, rfl⟩
    refine SL.mv rfl <| SL.w (op_append (m := bs.length) (news := bytesC bs) sl44 rfl rfl (by repeat constructor) rfl rfl (Nat.le_refl _) (by decide) (Src.ofBytes h) (bytesC_one bs) (by (have : maxLen = 9223372036854775807 := rfl); omega) (by omega)) ?_
    rintro _ _ _ ⟨b7, cap7, rfl, rfl, rfl, hc7, hm7⟩
    refine SL.as rfl <| SL.nil <| T.retO1 rfl (ResIs.tmp rfl) ?_
    exact .inr ⟨b7, cap7, by rw [Nat.zero_add], rfl, by omega, hm7, by show (bytesC bs).length = _; rw [bytesC_len]; omega⟩
/-- The groups of a number, the last one ahead. -/
def numHi (n : Nat) : List Nat := if n = 0 then [] else numHi (n / 128) ++ [128 + n % 128]
termination_by n
decreasing_by omega
def numB (n : Nat) : List Nat := numHi (n / 128) ++ [n % 128]
theorem numHi_zero : numHi 0 = [] := by rw [numHi]; rfl
theorem numHi_pos {n : Nat} (h : n ≠ 0) : numHi n = numHi (n / 128) ++ [128 + n % 128] := by rw [numHi, if_neg h]
theorem numHi_len : ∀ (k n : Nat), n < 128 ^ k → (numHi n).length ≤ k
  | 0, n, h => by
    have : n = 0 := by simpa using h
    subst this; rw [numHi_zero]; simp
  | k + 1, n, h => by
    by_cases h0 : n = 0
    · subst h0; rw [numHi_zero]; simp
    · rw [numHi_pos h0, List.length_append]
      have := numHi_len k (n / 128) (by rw [Nat.pow_succ] at h; exact Nat.div_lt_of_lt_mul (by rw [Nat.mul_comm]; exact h))
      simp; omega
theorem numB_len {n : Nat} (h : n < 18446744073709551616) : (numB n).length ≤ 10 := by
  have := numHi_len 9 (n / 128) (by omega)
  rw [numB, List.length_append]; simp; omega
theorem numB_pos (n : Nat) : 0 < (numB n).length := by rw [numB, List.length_append]; simp
theorem bset {l : List Nat} {i b : Nat} : (bytesC l).set i (.int .u8 (b : Int)) = bytesC (l.set i b) := by simp [bytesC, List.map_set]
/-- Of these bytes, those before i and those behind j have changed places. -/
def RevI (l m : List Nat) (i j : Nat) : Prop := m.length = l.length ∧ ∀ q, q < l.length → m[q]? = if q < i ∨ j < q then l[l.length - 1 - q]? else l[q]?
theorem RevI.fin {l m : List Nat} {i j : Nat} (h : RevI l m i j) (hij : i + j = l.length - 1) (hi : j ≤ i) : m = l.reverse := by
  apply List.ext_getElem?
  intro q
  rcases Nat.lt_or_ge q l.length with hq | hq
  · rw [h.2 q hq, List.getElem?_reverse hq]
    split
    · rfl
    · have : l.length - 1 - q = q := by omega
      rw [this]
  · rw [List.getElem?_eq_none (by rw [h.1]; omega), List.getElem?_eq_none (by simpa using hq)]
theorem RevI.step {l m : List Nat} {i j x y : Nat} (h : RevI l m i j) (hij : i + j = l.length - 1) (hi : i < j) (h0 : 0 < l.length) (hx : m[i]? = some x) (hy : m[j]? = some y) : RevI l ((m.set i y).set j x) (i + 1) (j - 1) := by
  refine ⟨by simp [h.1], fun q hq => ?_⟩
  have hml := h.1
  have ex : l[i]? = some x := by have := h.2 i (by omega); rw [if_neg (by omega), hx] at this; exact this.symm
  have ey : l[j]? = some y := by have := h.2 j (by omega); rw [if_neg (by omega), hy] at this; exact this.symm
  by_cases e1 : j = q
  · subst e1
    rw [List.getElem?_set_self (by simp; omega), if_pos (by omega), show l.length - 1 - j = i by omega, ex]
  · rw [List.getElem?_set_ne e1]
    by_cases e2 : i = q
    · subst e2
      rw [List.getElem?_set_self (by omega), if_pos (by omega), show l.length - 1 - i = j by omega, ey]
    · rw [List.getElem?_set_ne e2, h.2 q hq]
      by_cases hc : q < i ∨ j < q
      · rw [if_pos hc, if_pos (by omega)]
      · rw [if_neg hc, if_neg (by omega)]
theorem reverse_spec {X : PMap} {b cap : Nat} {l : List Nat} (h0 : 0 < l.length) (hl : l.length < 1000000) (_hc : l.length ≤ cap) : SpecM Tryz.prog 183 [.slice (some ⟨b, 0, none⟩) l.length cap] X [⟨b, bytesC l, 5, cap * 1⟩] fun _ L' _ => L' = [⟨b, bytesC l.reverse, 5, cap * 1⟩] := by
  refine SpecM.enter Tryz.func183 rfl Tryz.ntmps183 rfl ?_
  intro w0 X0 own0
  refine T.perm (own' := ⟨b, bytesC l, 5, cap * 1⟩ :: own0) (List.Perm.refl _) ?_
  refine T.seq <| T.region <| SL.mv rfl <| SL.v (op_lenS Tryz.underlying44 rfl) <| SL.v (op_subN (p := l.length) (q := 1) rfl rfl (by omega) (by omega)) ?_
  refine SL.v (op_assign (v := .int .i64 ((0 : Nat) : Int)) rfl) <| SL.as rfl <| SL.nil <| T.block <| T.loopW (fun m env own X' => ∃ (i j : Nat) (bs : List Nat), m = j - i ∧ i ≤ j + 1 ∧ i + j = l.length - 1 ∧ X.le X' ∧ RevI l bs i j ∧ env = [(0, .slice (some ⟨b, 0, none⟩) l.length cap), (2, .int .i64 (i : Int)), (3, .int .i64 (j : Int))] ∧ own = ⟨b, bytesC bs, 5, cap * 1⟩ :: own0) (l.length - 1) ⟨0, l.length - 1, l, by omega, by omega, by omega, PMap.le_refl _, ⟨rfl, fun q hq => by rw [if_neg (by omega)]⟩, rfl, rfl⟩ (by repeat (first | exact Sub.nil | refine Sub.cons rfl ?_)) ?_
  rintro m _ _ X1 ⟨i, j, bs, rfl, hij, hs, hX1, hR, rfl, rfl⟩
  rcases Nat.lt_or_ge i j with hlt | hge
  · have hbl := hR.1
    obtain ⟨x, hx⟩ : ∃ x, bs[i]? = some x := ⟨_, List.getElem?_eq_getElem (by omega)⟩
    obtain ⟨y, hy⟩ : ∃ y, bs[j]? = some y := ⟨_, List.getElem?_eq_getElem (by omega)⟩
    refine T.seq <| T.seq <| T.region <| SL.mv rfl <| SL.mv rfl <| SL.v (op_lssT rfl rfl (by omega)) ?_
    refine SL.nil <| T.condT rfl <| T.skip <| T.seq <| T.block <| T.drawS 13 (by kernel_rfl) 14 [.t 0, .t 1, .m 2, .m 3, .t 4, .t 5, .t 6, .t 7, .m 8, .m 9, .m 10, .t 11, .t 12, .r 13] (by kernel_rfl) ?_
    refine SD.take rfl panicBody (op_move rfl) rfl rfl ?_
    refine SD.take rfl panicBody (op_move rfl) rfl rfl ?_
    refine SD.takeM rfl panicBody (op_move rfl) rfl rfl ?_
    refine SD.takeM rfl panicBody (op_move rfl) rfl rfl ?_
    refine SD.take rfl panicBody (op_move rfl) rfl rfl ?_
    refine SD.take rfl panicBody (op_move rfl) rfl rfl ?_
    refine SD.take rfl panicBody (op_indexN Tryz.underlying44 ty5 rfl rfl (by omega)) rfl rfl ?_
    refine SD.take rfl panicBody (op_load ty5 rfl (by repeat constructor) (cread1k' (bytesC_at hy) (by omega))) rfl rfl ?_
    refine SD.takeM rfl panicBody (op_move rfl) rfl rfl ?_
    refine SD.takeM rfl panicBody (op_move rfl) rfl rfl ?_
    refine SD.takeM rfl panicBody (op_indexN Tryz.underlying44 ty5 rfl rfl (by omega)) rfl rfl ?_
    refine SD.take rfl panicBody (op_load ty5 rfl (by repeat constructor) (cread1k' (bytesC_at hx) (by omega))) rfl rfl ?_
    refine SD.take rfl panicBody (op_indexN Tryz.underlying44 ty5 rfl rfl (by omega)) rfl rfl ?_
    refine SD.runS rfl (op_store ty5 rfl rfl (by repeat constructor) rfl rfl (Nat.ble_eq_true_of_le (by rw [bytesC_len]; omega))) rfl rfl ?_
    rintro _ _ _ ⟨rfl, rfl⟩
    refine SD.nil ?_
    show SL _ _ _ _ _ _ _ [_, _] _ _ _
    refine SL.v (op_indexN Tryz.underlying44 ty5 rfl rfl (by omega)) ?_
    refine SL.w (op_store ty5 rfl rfl (by repeat constructor) rfl rfl (Nat.ble_eq_true_of_le (by rw [csets_length, bytesC_len]; omega))) ?_
    rintro _ _ _ ⟨rfl, rfl⟩
    refine SL.perm (own' := ⟨b, bytesC ((bs.set i y).set j x), 5, cap * 1⟩ :: own0) (List.Perm.of_eq (by rw [← bset, ← bset]; simp only [Nat.zero_add, Nat.mul_one]; rfl)) ?_
    refine SL.nil <| T.blk <| T.region <| SL.mv rfl <| SL.v (op_addN (q := 1) rfl rfl (by omega)) ?_
    refine SL.mv rfl <| SL.v (op_subN (q := 1) rfl rfl (by omega) (by omega)) ?_
    refine SL.as rfl <| SL.as rfl <| SL.nil ?_
    exact T.backW (j - 1 - (i + 1)) (by omega) ⟨i + 1, j - 1, _, rfl, by omega, by omega, hX1, hR.step hs hlt h0 hx hy, rfl, rfl⟩ (by repeat (first | exact Sub.nil | refine Sub.cons rfl ?_))
  · refine T.seq <| T.seq <| T.region <| SL.mv rfl <| SL.mv rfl <| SL.v (op_lssF rfl rfl (by omega)) ?_
    refine SL.nil <| T.condF rfl ?_
    refine T.exit (T.exitCode (T.exitCut (T.exitBlk ?_)))
    refine T.doneM0 [⟨b, bytesC bs, 5, cap * 1⟩] rfl (List.Perm.refl _) ?_
    exact ⟨hX1, by rw [hR.fin hs hge]⟩
end Go.Proofs.YtnpcilglilfajaaGreatDoor
namespace Go.Proofs.YtnpcilglilfajaaGreatDoor
open Go.RowKit
section
variable {α : Type} {rc : α → List Value}
def RowR (rc : α → List Value) (X : PMap) (v : Value) (rs : List α) : Prop :=
  (rs = [] ∧ ∃ A c, v = .slice A 0 c) ∨ (0 < rs.length ∧ ∃ b c pre, v = .slice (some ⟨b, List.length pre, none⟩) rs.length c ∧ Blk X b (pre ++ (rs.map rc).flatten) ∧ rs.length ≤ c ∧ c ≤ maxLen)
theorem RowR.nil {X : PMap} {A : Option Addr} {c : Nat} : RowR rc X (.slice A 0 c) [] := .inl ⟨rfl, _, _, rfl⟩
theorem RowR.mono {X X' : PMap} {v : Value} {rs : List α} (h : RowR rc X v rs) (hX : X.le X') : RowR rc X' v rs := by
  rcases h with h | ⟨h0, b, c, pre, hv, hb, hc⟩
  · exact .inl h
  · exact .inr ⟨h0, b, c, pre, hv, hb.mono hX, hc⟩
theorem RowR.form {X : PMap} {v : Value} {rs : List α} (h : RowR rc X v rs) : ∃ A cp, v = .slice A rs.length cp := by
  rcases h with ⟨rfl, A, c, rfl⟩ | ⟨_, b, c, pre, rfl, _⟩
  · exact ⟨_, _, rfl⟩
  · exact ⟨_, _, rfl⟩
theorem RowR.blk {X : PMap} {A : Option Addr} {cp len : Nat} {rs : List α} (h : RowR rc X (.slice A len cp) rs) (h0 : 0 < rs.length) : ∃ b pre, A = some ⟨b, List.length pre, none⟩ ∧ Blk X b (pre ++ (rs.map rc).flatten) := by
  rcases h with ⟨rfl, _⟩ | ⟨_, b, c, pre, hv, hb, _⟩
  · simp at h0
  · simp only [Value.slice.injEq] at hv
    exact ⟨b, pre, hv.1, hb⟩
theorem RowR.cap {X : PMap} {A : Option Addr} {cp len : Nat} {rs : List α} (h : RowR rc X (.slice A len cp) rs) (h0 : 0 < rs.length) : rs.length ≤ cp ∧ cp ≤ maxLen := by
  rcases h with ⟨rfl, _⟩ | ⟨_, b, c, pre, hv, hb, h1, h2⟩
  · simp at h0
  · simp only [Value.slice.injEq] at hv
    rw [hv.2.2]; exact ⟨h1, h2⟩
theorem rows_len {sz : Nat} (hrc : ∀ x, (rc x).length = sz) : ∀ rs : List α, ((rs.map rc).flatten).length = rs.length * sz
  | [] => by simp
  | r :: rs => by
    rw [List.map_cons, List.flatten_cons, List.length_append, hrc, rows_len hrc rs, List.length_cons, Nat.succ_mul]; omega
theorem rows_drop {sz : Nat} (hrc : ∀ x, (rc x).length = sz) : ∀ {rs : List α} {k : Nat}, k ≤ rs.length → ((rs.map rc).flatten).drop (k * sz) = ((rs.drop k).map rc).flatten
  | rs, 0, _ => by simp
  | [], k + 1, h => by simp at h
  | r :: rs, k + 1, h => by
    rw [List.map_cons, List.flatten_cons, List.drop_succ_cons, ← rows_drop hrc (rs := rs) (k := k) (by simpa using h), show (k + 1) * sz = (rc r).length + k * sz by rw [hrc, Nat.succ_mul]; omega]
    rw [List.drop_append, List.drop_eq_nil_of_le (by omega), List.nil_append, Nat.add_sub_cancel_left]
/-- A whole row, read. -/
theorem row_read {sz : Nat} (hrc : ∀ x, (rc x).length = sz) {rs : List α} {k k' : Nat} {r : α} {pre : List Value} (he : rs[k]? = some r) (e : k' = pre.length + k * sz) : cread true sz (pre ++ (rs.map rc).flatten) k' = some (.agg (rc r).toArray) := by
  subst e
  obtain ⟨h1, h2⟩ := List.getElem?_eq_some_iff.1 he
  have hl := rows_len hrc rs
  have hm : k * sz + sz ≤ rs.length * sz := by
    have := Nat.mul_le_mul_right sz (show k + 1 ≤ rs.length from h1)
    rw [Nat.succ_mul] at this; exact this
  have hd : ((pre ++ (rs.map rc).flatten).drop (pre.length + k * sz)) = rc r ++ ((rs.drop (k + 1)).map rc).flatten := by
    rw [List.drop_append, List.drop_eq_nil_of_le (by omega), List.nil_append, Nat.add_sub_cancel_left, rows_drop hrc (by omega), List.drop_eq_getElem_cons h1, h2, List.map_cons, List.flatten_cons]
  unfold cread
  rw [show Nat.ble (pre.length + k * sz + sz) (pre ++ (rs.map rc).flatten).length = true from Nat.ble_eq_true_of_le (by rw [List.length_append, hl]; omega)]
  simp only [cond_true, hd]
  rw [List.take_append_of_le_length (by rw [hrc]; exact Nat.le_refl _), List.take_of_length_le (by rw [hrc]; exact Nat.le_refl _)]
/-- One cell of a row. -/
theorem row_cell {sz : Nat} (hrc : ∀ x, (rc x).length = sz) {rs : List α} {k k' j : Nat} {r : α} {pre : List Value} {v : Value} (he : rs[k]? = some r) (hj : (rc r)[j]? = some v) (e : k' = pre.length + k * sz + j) : cread false 1 (pre ++ (rs.map rc).flatten) k' = some v := by
  subst e
  obtain ⟨h1, h2⟩ := List.getElem?_eq_some_iff.1 he
  have hjl : j < sz := by have := (List.getElem?_eq_some_iff.1 hj).1; rwa [hrc] at this
  show (pre ++ (rs.map rc).flatten)[pre.length + k * sz + j]? = some v
  rw [List.getElem?_append_right (by omega), show pre.length + k * sz + j - pre.length = k * sz + j by omega, ← List.getElem?_drop, rows_drop hrc (by omega), List.drop_eq_getElem_cons h1, h2, List.map_cons, List.flatten_cons, List.getElem?_append_left (by rw [hrc]; exact hjl)]
  exact hj
/-- The first of these rows. -/
theorem RowR.take {X : PMap} {A : Option Addr} {cp sz : Nat} {rs : List α} (h : RowR rc X (.slice A rs.length cp) rs) {k : Nat} (hk : k ≤ rs.length) : RowR rc X (.slice (slA A cp 0 sz) k cp) (rs.take k) := by
  rcases Nat.eq_zero_or_pos k with rfl | h0
  · exact .inl ⟨by simp, _, _, rfl⟩
  · obtain ⟨b, pre, rfl, hB⟩ := h.blk (by omega)
    obtain ⟨hc, hm⟩ := h.cap (by omega)
    have hcp : cp ≠ 0 := by omega
    refine .inr ⟨by simp; omega, b, cp, pre, ?_, ?_, by rw [List.length_take]; omega, hm⟩
    · rw [slA, if_neg hcp, List.length_take, Nat.min_eq_left hk]; simp [Addr.add]
    · obtain ⟨rest, ty, fr, hx⟩ := hB
      refine ⟨((rs.drop k).map rc).flatten ++ rest, ty, fr, ?_⟩
      have e : (rs.map rc).flatten = ((rs.take k).map rc).flatten ++ ((rs.drop k).map rc).flatten := by rw [← List.flatten_append, ← List.map_append, List.take_append_drop]
      rw [hx, e]
      simp
end
end Go.Proofs.YtnpcilglilfajaaGreatDoor
namespace Go.Proofs.YtnpcilglilfajaaGreatDoor
open Go.ChangeShapes Go.WideShapes Go.ChangeAt Go.RowKit Go.Joins Go.Deep
/-- All blocks of a world. -/
def heapX (W : World) : PMap := fun k => W.heap[k]?
theorem heapX_in (W : World) : PIn (heapX W) W := fun _ _ h => h
theorem blk_of_cells {W : World} {b o : Nat} {cs : List Value} (h0 : 0 < cs.length) (h : ∀ i v, cs[i]? = some v → W.cell? ⟨b, o + i, none⟩ = some v) : ∃ pre, pre.length = o ∧ Blk (heapX W) b (pre ++ cs) := by
  have h1 := h 0 cs[0] (by simp)
  unfold World.cell? at h1
  cases hb : W.heap[b]? with
  | none => rw [hb] at h1; cases h1
  | some x =>
    cases x with
    | cells c ty fr =>
      have hget : ∀ i v, cs[i]? = some v → c[o + i]? = some v := fun i v hv => by
        have := h i v hv
        simp only [World.cell?, hb] at this
        simpa using this
      have ho : o < c.size := by
        have := hget 0 cs[0] (by simp)
        rw [Nat.add_zero] at this
        exact (Array.getElem?_eq_some_iff.1 this).1
      refine ⟨c.toList.take o, by simp; omega, c.toList.drop (o + cs.length), ty, fr, ?_⟩
      unfold heapX
      rw [hb]
      congr 2
      apply Array.toList_inj.1
      apply List.ext_getElem?
      intro k
      simp only [List.append_assoc]
      have hto : (c.toList.take o).length = o := by simp; omega
      rcases Nat.lt_or_ge k o with hk | hk
      · rw [List.getElem?_append_left (by simpa [hto] using hk), List.getElem?_take, if_pos hk]
      · rw [List.getElem?_append_right (by simpa [hto] using hk)]
        simp only [hto]
        rcases Nat.lt_or_ge (k - o) cs.length with hk2 | hk2
        · rw [List.getElem?_append_left hk2, List.getElem?_eq_getElem hk2]
          have := hget (k - o) cs[k - o] (List.getElem?_eq_getElem hk2)
          rw [show o + (k - o) = k by omega] at this
          simpa using this
        · rw [List.getElem?_append_right hk2, List.getElem?_drop]
          congr 1
          omega
    | _ => rw [hb] at h1; cases h1
theorem cells5 : Tryz.prog.cellsOf 5 = 1 := by kernel_rfl
section
variable {H : Type} {enc : TypeId × Value → H} {P : Program}
/-- What a list of arguments reads is read the same behind a call. -/
theorem trodAll_stays {W W' : World} {sp' : Nat → Bool} (hl : laidOutB P = true) : ∀ (ts : List TypeId) (vs : List Value) (ds : List (DataW H)) (ps : List MemPlace), (∀ t ∈ ts, P.readableRec t = true ∧ t < P.types.size) →
    DataW.TrodAll enc P W 0 (fun _ => true) true ts vs ds ps → (∀ p ∈ ps, W.sameAt W' p) → (∀ p ∈ ps, sp' p.block = true) → DataW.TrodAll enc P W' 0 sp' true ts vs ds ps
  | [], vs, ds, ps, _, h, _, _ => by
    obtain ⟨rfl, rfl, rfl⟩ := trodAll_nil h
    exact trodAll_mk0
  | t :: ts, vs, ds, ps, ht, h, hs, hsp => by
    obtain ⟨v, vs', d, ds', p, q, rfl, rfl, rfl, h0, r0⟩ := trodAll_cons h
    obtain ⟨h1, h2⟩ := ht t (by simp)
    exact trodAll_cons_mk (Go.WideElems.Trod_stays hl h1 h2 h0 (fun x hx => hs x (by simp [hx])) (fun x hx => hsp x (by simp [hx]))) (trodAll_stays hl ts vs' ds' q (fun t ht' => ht t (by simp [ht'])) r0 (fun x hx => hs x (by simp [hx])) (fun x hx => hsp x (by simp [hx])))
theorem same_below {W W' : World} (hB : Below W.heap.size W W') {p : MemPlace} (h : p.block < W.heap.size) : W.sameAt W' p := by
  cases p with
  | cell b off => exact hB.cell (p := ⟨b, off, none⟩) h
  | map b => exact hB.block b h
/-- A law's last step: it has returned true, and every argument reads as before. -/
theorem law_post {f : Func} {s : ChangeSpec} {W W' : World} {args : Array Value} {ds gs : List (DataW H)} {before : List MemPlace} {t : TypeId}
    (hW : DataW.Whole enc P f.params.toList s.vars false W args.toList ds gs before) (hA : DataW.TrodAll enc P W 0 (fun _ => true) true f.params.toList args.toList ds before) (hl : laidOutB P = true) (hts : ∀ t ∈ f.params.toList, P.readableRec t = true ∧ t < P.types.size)
    (hv : s.vars = []) (hrt : f.resultTypes = #[t]) (hb : P.underlying t = some .bool)
    (hfn : (s.fn H (ds ++ gs)).results = [.lit (.bool true)]) (hfa : (s.fn H (ds ++ gs)).args = ds) (hfv : (s.fn H (ds ++ gs)).vars = []) (hB : Below W.heap.size W W') :
    s.post enc P f false true false false W args (.bool true) W' := by
  have hlt : ∀ p ∈ before, p.block < W.heap.size := fun p hp => hW.lt p hp
  have hold : ∀ p ∈ before, (fun b => decide (b < W.heap.size)) p.block = true := fun p hp => by simpa using hlt p hp
  have hres : ∀ (b : Nat) (sp : Nat → Bool) (hd : Bool), DataW.TrodAll enc P W' b sp hd f.resultTypes.toList ((Value.bool true).resultList f.resultTypes.size) (s.fn H (ds ++ gs)).results [] := fun b sp hd => by
    rw [hrt, hfn]
    exact trodAll_cons_mk (shut_bool hb _) trodAll_mk0
  have hargs' : ∀ sp : Nat → Bool, (∀ p ∈ before, sp p.block = true) → DataW.TrodAll enc P W' 0 sp true f.params.toList args.toList (s.fn H (ds ++ gs)).args before := by
    rw [hfa]
    exact fun sp hsp => trodAll_stays hl _ _ _ _ hts hA (fun p hp => same_below hB (hlt p hp)) hsp
  have hvars : ∀ sp : Nat → Bool, DataW.TrodVars enc P W' sp s.vars (s.fn H (ds ++ gs)).vars [] := fun sp => by rw [hv, hfv]; rfl
  refine ⟨ds, gs, before, [], before, [], hW, hres _ _ _, hargs' _ hold, hvars _, World.keptBut_mono (fun p hp => ⟨hp, Or.inr (by simpa using hp)⟩) (hB.frame (· ∈ before)), fun hh => by cases hh⟩
theorem exists_list {α : Type} {p : Nat → α → Prop} : ∀ n : Nat, (∀ i, i < n → ∃ x, p i x) → ∃ l : List α, l.length = n ∧ ∀ i x, l[i]? = some x → p i x
  | 0, _ => ⟨[], rfl, fun i x h => by cases h⟩
  | n + 1, h => by
    obtain ⟨l, hl, hp⟩ := exists_list n fun i hi => h i (by omega)
    obtain ⟨x, hx⟩ := h n (by omega)
    refine ⟨l ++ [x], by simp [hl], fun i y hy => ?_⟩
    rcases Nat.lt_or_ge i l.length with hi | hi
    · rw [List.getElem?_append_left hi] at hy; exact hp i y hy
    · rw [List.getElem?_append_right hi] at hy
      have h0 : i - l.length = 0 := by
        have := (List.getElem?_eq_some_iff.1 hy).1
        simp at this; omega
      rw [h0] at hy
      obtain rfl : x = y := by simpa using hy
      rw [show i = n by omega]; exact hx
theorem flat_at {α : Type} {sz : Nat} : ∀ {css : List (List α)} {q : Nat} {v : α}, (∀ c ∈ css, c.length = sz) → 0 < sz → css.flatten[q]? = some v → ∃ c, css[q / sz]? = some c ∧ c[q % sz]? = some v
  | [], q, v, _, _, h => by simp at h
  | c :: css, q, v, hc, h0, h => by
    have hl := hc c (by simp)
    rw [List.flatten_cons] at h
    rcases Nat.lt_or_ge q sz with hq | hq
    · rw [List.getElem?_append_left (by omega)] at h
      exact ⟨c, by rw [Nat.div_eq_of_lt hq]; rfl, by rw [Nat.mod_eq_of_lt hq]; exact h⟩
    · rw [List.getElem?_append_right (by omega), hl] at h
      obtain ⟨c', h1, h2⟩ := flat_at (fun x hx => hc x (by simp [hx])) h0 h
      refine ⟨c', ?_, ?_⟩
      · rw [show q / sz = (q - sz) / sz + 1 from by rw [Nat.div_eq_sub_div h0 hq]]; exact h1
      · rw [Nat.mod_eq_sub_mod hq]; exact h2
theorem cell_spot {W : World} {a : Addr} {u : Value} (h : W.cell? a = some u) : a.spot = none := by
  unfold World.cell? at h
  split at h
  · split at h
    · cases h
    · rename_i hs; simpa using hs
  · cases h
/-- A slice of rows, opened: its elements' cells lie in one block. -/
theorem open_rows {W : World} {t e : TypeId} {sz : Nat} {α : Type} {rc : α → List Value} {ok : α → Prop} (ht : P.underlying t = some (.slice e)) (hc : P.cellsOf e = sz) (h0 : 0 < sz) (hrc : ∀ x, (rc x).length = sz)
    (hel : ∀ {n : Nat} {cs : List Value} {y : DataW H × List MemPlace}, cs.length = sz → DataW.trod enc P W 0 (fun _ => true) true n e cs = some y → ∃ x, cs = rc x ∧ ok x)
    {v : Value} {d : DataW H} {p : List MemPlace} (hval : ∃ A len cap, v = .slice A len cap) (h : DataW.Trod enc P W 0 (fun _ => true) true t v d p) :
    ∃ (rs : List α), (∀ r ∈ rs, ok r) ∧ RowR rc (heapX W) v rs := by
  obtain ⟨A, len, cap, rfl⟩ := hval
  obtain ⟨fuel, hf⟩ := h
  rcases open_slice ht hf with ⟨hcs, _⟩ | ⟨a, len', cap', m, n, D, Pl, hcs, hb, hl, hm, hmm, hx, hcell⟩
  · obtain ⟨rfl, rfl, rfl⟩ : A = none ∧ len = 0 ∧ cap = 0 := by simpa [Value.cells] using hcs
    exact ⟨[], by simp, .inl ⟨rfl, _, _, rfl⟩⟩
  · obtain ⟨rfl, rfl, rfl⟩ : A = some a ∧ len = len' ∧ cap = cap' := by simpa [Value.cells] using hcs
    simp only [if_true] at hmm
    subst hmm
    rcases Nat.eq_zero_or_pos len with hz | hz
    · subst hz
      exact ⟨[], by simp, .inl ⟨rfl, _, _, rfl⟩⟩
    obtain ⟨rs, hrl, hrs⟩ := exists_list (p := fun i x => ok x ∧ W.cells? 0 (a.add (i * sz)) sz = some (rc x)) len (fun i hi => by
      obtain ⟨cs', h1, h2⟩ := hcell i (by omega)
      rw [hc] at h1
      obtain ⟨_, h4, _⟩ := World.cells?_some h1
      obtain ⟨x, h3, h5⟩ := hel h4 h2
      exact ⟨x, h5, by rw [← h3]; exact h1⟩)
    have hok : ∀ r ∈ rs, ok r := fun r hr => by
      obtain ⟨i, hi, hx⟩ := List.getElem_of_mem hr
      exact (hrs i r (by rw [List.getElem?_eq_getElem hi, hx])).1
    have hspot : a.spot = none := by
      have hr0 : rs[0]? = some rs[0] := List.getElem?_eq_getElem (by omega)
      obtain ⟨o1, o2⟩ := hrs 0 _ hr0
      obtain ⟨_, _, h3⟩ := World.cells?_some o2
      have h4 := cell_spot ((h3 0 h0).trans (List.getElem?_eq_getElem (by rw [hrc]; exact h0)))
      simpa [Addr.add] using h4
    obtain ⟨ab, ao, asp⟩ := a
    obtain rfl : asp = none := hspot
    have hcl : ∀ c ∈ rs.map rc, c.length = sz := fun c hc => by
      obtain ⟨x, _, rfl⟩ := List.mem_map.1 hc; exact hrc x
    have hfl : (rs.map rc).flatten.length = rs.length * sz := by
      rw [List.length_flatten, List.map_map, show (List.length ∘ rc) = fun _ => sz from funext hrc]
      rw [List.map_const', List.sum_replicate_nat]
    obtain ⟨pre, hpre, hB⟩ := blk_of_cells (W := W) (b := ab) (o := ao) (cs := (rs.map rc).flatten) (by rw [hfl]; exact Nat.mul_pos (by omega) h0) (fun i v hv => by
      obtain ⟨c, h1, h2⟩ := flat_at hcl h0 hv
      rw [List.getElem?_map] at h1
      cases hq : rs[i / sz]? with
      | none => rw [hq] at h1; cases h1
      | some x =>
        rw [hq] at h1
        obtain rfl : rc x = c := by simpa using h1
        obtain ⟨_, o2⟩ := hrs _ _ hq
        obtain ⟨_, _, h3⟩ := World.cells?_some o2
        have h4 := h3 (i % sz) (Nat.mod_lt _ h0)
        rw [h2, Addr.add_mid, Addr.add_mid] at h4
        have e : ao + i / sz * sz + i % sz = ao + i := by
          have := Nat.div_add_mod i sz
          rw [Nat.mul_comm] at this
          omega
        rw [e] at h4
        exact h4)
    exact ⟨rs, hok, .inr ⟨by omega, ab, _, pre, by rw [hpre, hrl], hB, by omega, by omega⟩⟩
end
/-- The table of math/bits. -/
theorem gTab64 : Tryz.prog.globalNamed "math/bits.deBruijn64tab" = some 0 := by kernel_rfl
theorem gTab64T : (Tryz.prog.globals[0]?).map (·.type) = some 254 := by kernel_rfl
theorem cells133 : Tryz.prog.cellsOf 254 = 64 := by kernel_rfl
theorem tab_of {W : World} {x y : String × DataW Unit} (h : laidMet Tryz.prog [x, ("math/bits.deBruijn64tab", Rows.laid_math_bits_deBruijn64tab), y] W) : Tab (heapX W) := by
  have ht : Lib.TabIs Tryz.prog W "math/bits.deBruijn64tab" .u8 (tab64.map fun (i : Nat) => (i : Int)) := Lib.tabIs_of_head gTab64 gTab64T Tryz.underlying254 Tryz.underlying5 cells5 cells133 h.tail
  obtain ⟨pre, hpre, hB⟩ := blk_of_cells (W := W) (b := 0) (o := 0) (cs := tab64.map fun (i : Nat) => .int .u8 (i : Int)) (by decide) (fun i v hv => by
    have hi := (List.getElem?_eq_some_iff.1 hv).1
    have := ht.cell gTab64 i (by simpa using hi)
    rw [Nat.zero_add, this, ← hv]
    simp only [List.length_map] at hi
    simp [List.getD, hi])
  obtain rfl : pre = [] := List.eq_nil_of_length_eq_zero hpre
  exact hB
theorem own : ownKnob Tryz.prog.godebug = none := by kernel_rfl
/-- What a list of data lays in cells: whole numbers. -/
def litCells : DataW Unit → Array Value
  | .agg l => (l.map fun d => match d with | .lit (.int k n) => Value.int k n | _ => undef).toArray
  | _ => #[]
def layAt (w : World) (g : Nat) (d : DataW Unit) : World :=
  { w with heap := w.heap.modify g fun
      | .cells _ t frozen => .cells (litCells d) t frozen
      | o => o }
/-- A world for the witness: the tables hold what their initialisers lay. -/
noncomputable def laidWorld (os : Os) : World :=
  layAt (layAt (layAt (World.holding Tryz.prog os ⟨#[], #[], []⟩) 2 Rows.laid_math_bits_deBruijn32tab) 0 Rows.laid_math_bits_deBruijn64tab) 1 Rows.laid_internal_strconv_uint64pow10
theorem laid_out : laidOutB Tryz.prog = true := by kernel_rfl
end Go.Proofs.YtnpcilglilfajaaGreatDoor
namespace Go.Proofs.YtnpcilglilfajaaGreatDoor
open Go.RowKit
section
variable {ro : Option Nat} {P : Program} {n : NM} {w0 : Base} {X0 X : PMap} {own : Own} {env : Env} {fn : Func} {Φ : Value → Own → PMap → Prop}
theorem T.retM0 {k : List It} {s : Nat} {own0 : Own} (L' : Own) (hr : fn.results = #[]) (hp : own.Perm (L' ++ own0)) (hΦ : Φ (.tuple #[]) L' X) : T ro P ⟨s, []⟩ w0 X0 (bodyQ P fn (FinM w0 X0 own0 Φ)) (.code .ret :: k) none env own X := T.retM (fun _ _ _ _ => run_results0 hr) hp hΦ
/-- A result that lies in a block of the call's own, which is left behind. -/
theorem T.retM1S {k : List It} {s : Nat} {own0 : Own} (L' mid : Own) {r : ResultVar} {v : Value} (hr : fn.results = #[r]) (h : ResIs P env own r v) (hm : mid.Sublist own) (hp : mid.Perm (L' ++ own0)) (hΦ : Φ v L' X) : T ro P ⟨s, []⟩ w0 X0 (bodyQ P fn (FinM w0 X0 own0 Φ)) (.code .ret :: k) none env own X :=
  fun a W ha hs => runL_ret (by
    show LeavesInM (FR none) DEP P fn a.tmps _ a.defers .returning W
    rw [ha.defers]
    exact ⟨v, run_results1 hr h ha hs.stab, v, L', X, rfl, (hs.sub hm).perm hp, hΦ⟩)
theorem SD.perm {ops : Array Oper} {Q : Exit → Act → World → Prop} {nh : Nat} {st : Option Nat} {ownS own' : Own} {XS : PMap} {pl : List Pl} (hp : own.Perm own') (h : SD ro P n w0 X0 ops Q nh st ownS XS pl env own' X) : SD ro P n w0 X0 ops Q nh st ownS XS pl env own X :=
  fun listed a W h1 h2 h3 h4 h5 h6 hs hst => h listed a W h1 h2 h3 h4 h5 h6 (hs.perm hp) hst
/-- What the branches of a code have in common. -/
theorem T.meet {Q : Exit → Act → World → Prop} {c : Code} {k : List It} (J : Fam) (h1 : T ro P n w0 X0 Q (.code c :: backTo n w0 X0 J 1 :: k) none env own X) (h2 : ∀ m env own X, J m env own X → T ro P n w0 X0 Q k none env own X) : T ro P n w0 X0 Q (.code c :: k) none env own X := by
  intro a W ha hs
  refine runL_code (Code.wpIn_mono (fun e a w h => ?_) (runL_code_iff.1 (h1 a W ha hs)))
  cases e with
  | normal =>
    obtain ⟨m', _, env', own', X', hI, ha', hs'⟩ := h
    exact h2 m' env' own' X' hI a w ha' hs'
  | exit id => exact h
  | _ => exact h
theorem Src.zero {v : Value} {size : Nat} {news : List Value} (h : Src own X v 0 size news) : news = [] ∧ ∃ A c, v = .slice A 0 c := by
  obtain ⟨h1, A, c, rfl, _⟩ := h
  exact ⟨List.eq_nil_of_length_eq_zero (by simpa using h1), A, c, rfl⟩
theorem OpY.toX {o : Op} {v : Value} (hn : noDefer o = true) (h : OpY P n env own X o v) : OpX P n w0 X0 env own X o false fun v' own' X' => v' = v ∧ own' = own ∧ X' = X := by
  intro a W oper K Q ro hop ha hs hK
  exact wp_value (noDefer_spec (by rw [hop]; exact hn)) (h a W _ hop ha hs.stab) (hK _ _ _ _ ⟨rfl, rfl, rfl⟩ hs fun h => by cases h)
/-- append of a slice, empty or not, onto what has grown. -/
theorem op_appendGA {t e : TypeId} {s x : Operand} {v u : Value} {len m size bytes : Nat} {cs news : List Value} {own0 G : Own} (ht : SlT P t e size bytes) (hs : eev env s = some v) (hg : GrowS e size v len cs G) (hx : eev env x = some u)
    (hsrc : Src (own0 ++ G) X u m size news) (h1 : ∀ y ∈ news, y.oneCell' = true) (hlen : len + m ≤ maxLen) (hby : (len + m) * bytes ≤ 140737488355328) :
    OpX P n w0 X0 env (own0 ++ G) X (.call { callee := .builtin .append, args := #[s, x], argTypes := #[t, t] }) false fun v' own' X' => ∃ G', own' = own0 ++ G' ∧ X = X' ∧ GrowS e size v' (len + m) (cs ++ news) G' := by
  rcases Nat.eq_zero_or_pos m with rfl | hm
  · obtain ⟨rfl, A, c, rfl⟩ := hsrc.zero
    rcases hg with ⟨rfl, rfl, rfl, rfl⟩ | ⟨b, cap, rfl, rfl, hlc, hcm, hcl⟩
    · refine (OpY.toX rfl (op_appendNil0 ht hs hx)).weaken ?_
      rintro v' own' X' ⟨rfl, rfl, rfl⟩
      exact ⟨own0 ++ [], own0 ++ [], ⟨[], rfl, rfl, by simpa using GrowS.nil⟩, List.Sublist.refl _, .refl _⟩
    · refine (op_append (m := 0) (news := []) (j := own0.length + 0) ht hs hx ((AtO.here (l := []) (b := b) (cs := cs) (ty := e) (sz := cap * size)).append own0) rfl hcl hlc hcm hsrc h1 hlen hby).weaken ?_
      rintro v' own' X' ⟨b', cap', rfl, rfl, rfl, hc1, hc2⟩
      refine ⟨own0 ++ [⟨b', cs ++ [], e, cap' * size⟩], _, ⟨_, rfl, rfl, .inr ⟨b', cap', rfl, rfl, hc1, hc2, by simp [hcl]⟩⟩, ?_, .refl _⟩
      have e1 : (own0 ++ [(⟨b, cs, e, cap * size⟩ : Ow)]).set (own0.length + 0) ⟨b', cs ++ [], e, cap' * size⟩ = own0 ++ [⟨b', cs ++ [], e, cap' * size⟩] := by
        simp
      rw [e1]
      exact List.Sublist.refl _
  · exact op_appendGM ht hs hg hx hsrc hm h1 hlen hby
/-- Rows as a source. -/
theorem Src.ofRow {α : Type} {rc : α → List Value} {sz : Nat} (hrc : ∀ x, (rc x).length = sz) {v : Value} {rs : List α} (h : RowR rc X v rs) : Src own X v rs.length sz ((rs.map rc).flatten) := by
  rcases h with ⟨rfl, A, c, rfl⟩ | ⟨h0, b, c, pre, rfl, hB, _⟩
  · exact Src.nil
  · have hl := rows_len hrc rs
    have := Src.ofExt (own := own) (m := rs.length) (c := c) (size := sz) (o := pre.length) hB (by rw [List.length_append, hl]; omega)
    rwa [List.drop_left, List.take_of_length_le (by rw [hl]; omega)] at this
end
/-- Rows from the place k on. -/
theorem RowR.drop {α : Type} {rc : α → List Value} {X : PMap} {A : Option Addr} {cp sz : Nat} (hrc : ∀ x, (rc x).length = sz) {rs : List α} (h : RowR rc X (.slice A rs.length cp) rs) {k : Nat} (hk : k ≤ rs.length) : RowR rc X (.slice (slA A cp k sz) (rs.length - k) (cp - k)) (rs.drop k) := by
  rcases Nat.eq_or_lt_of_le hk with rfl | h0
  · exact .inl ⟨by simp, _, _, by rw [Nat.sub_self]⟩
  · obtain ⟨b, pre, rfl, hB⟩ := h.blk (by omega)
    obtain ⟨hc, hm⟩ := h.cap (by omega)
    refine .inr ⟨by simp; omega, b, cp - k, pre ++ ((rs.take k).map rc).flatten, ?_, ?_, by rw [List.length_drop]; omega, by omega⟩
    · rw [slA, if_neg (by omega), List.length_append, rows_len hrc, List.length_take, Nat.min_eq_left hk, List.length_drop]; simp [Addr.add]
    · rwa [List.append_assoc, ← List.flatten_append, ← List.map_append, List.take_append_drop]
end Go.Proofs.YtnpcilglilfajaaGreatDoor
namespace Go.Proofs.YtnpcilglilfajaaGreatDoor
open Go.RowKit
section
variable {P : Program} {n : NM} {own : Own} {X : PMap} {env : Env} {t t' : TypeId} {x y : Operand} {s s' : ByteArray}
theorem str_ext {a b : ByteArray} (h : a.toList = b.toList) : a = b := by
  rw [ByteArray.toList_eq, ByteArray.toList_eq] at h
  exact ByteArray.ext (Array.toList_inj.mp h)
theorem str_beq : (s.toList == s'.toList) = decide (s = s') := by
  rw [Bool.eq_iff_iff, beq_iff_eq, decide_eq_true_eq]
  exact ⟨str_ext, fun h => by rw [h]⟩
theorem op_lssStr (hx : eev env x = some (.string s)) (hy : eev env y = some (.string s')) : OpY P n env own X (.binOp .lss t x y t') (.bool (Op.bytesLess s.toList s'.toList)) := by
  intro a W oper hop ha _
  have h0 : ∀ (e : BinOp) (u v : Operand), eqGuard e t u v (.string s) (.string s') = pure () := fun e u v => by cases e <;> rfl
  have h2 : (Op.stringOp .lss s s').run P W = .ok (.bool (Op.bytesLess s.toList s'.toList)) W := by simp [Op.stringOp]
  simp only [execOp, hop, ha.eval hx, ha.eval hy, binOp, h0, Sem.run_bind, Sem.run_pure, Result.andThen_ok, h2]
theorem op_eqlStrD (hx : eev env x = some (.string s)) (hy : eev env y = some (.string s')) : OpY P n env own X (.binOp .eql t x y t') (.bool (decide (s = s'))) := by
  intro a W oper hop ha _
  have h0 : ∀ (e : BinOp) (u v : Operand), eqGuard e t u v (.string s) (.string s') = pure () := fun e u v => by cases e <;> rfl
  have h2 : (Op.stringOp .eql s s').run P W = .ok (.bool (decide (s = s'))) W := by simp [Op.stringOp, str_beq]
  simp only [execOp, hop, ha.eval hx, ha.eval hy, binOp, h0, Sem.run_bind, Sem.run_pure, Result.andThen_ok, h2]
theorem op_neqStrD (hx : eev env x = some (.string s)) (hy : eev env y = some (.string s')) : OpY P n env own X (.binOp .neq t x y t') (.bool (!decide (s = s'))) := by
  intro a W oper hop ha _
  have h0 : ∀ (e : BinOp) (u v : Operand), eqGuard e t u v (.string s) (.string s') = pure () := fun e u v => by cases e <;> rfl
  have h2 : (Op.stringOp .neq s s').run P W = .ok (.bool (!decide (s = s'))) W := by simp [Op.stringOp, str_beq]
  simp only [execOp, hop, ha.eval hx, ha.eval hy, binOp, h0, Sem.run_bind, Sem.run_pure, Result.andThen_ok, h2]
end
instance memDec (s : ByteArray) : (l : List ByteArray) → Decidable (s ∈ l)
  | [] => .isFalse (by simp)
  | t :: l => have := memDec s l; decidable_of_iff (s = t ∨ s ∈ l) List.mem_cons.symm
/-- The order of strings. -/
def ltS (a b : ByteArray) : Bool := Op.bytesLess a.toList b.toList
theorem bl_irr : ∀ a : List UInt8, Op.bytesLess a a = false
  | [] => rfl
  | x :: a => by simp [Op.bytesLess, bl_irr a]
theorem bl_tot : ∀ a b : List UInt8, Op.bytesLess a b = false → Op.bytesLess b a = false → a = b
  | [], [], _, _ => rfl
  | [], _ :: _, h, _ => by simp [Op.bytesLess] at h
  | _ :: _, [], _, h => by simp [Op.bytesLess] at h
  | x :: a, y :: b, h1, h2 => by
    simp only [Op.bytesLess, Bool.or_eq_false_iff, decide_eq_false_iff_not, Bool.and_eq_false_iff, beq_eq_false_iff_ne] at h1 h2
    have e : x = y := UInt8.toNat_inj.1 (by
      have := mt UInt8.lt_iff_toNat_lt.2 h1.1
      have := mt UInt8.lt_iff_toNat_lt.2 h2.1
      omega)
    subst e
    rw [bl_tot a b (by simpa using h1.2) (by simpa using h2.2)]
theorem bl_trans : ∀ a b c : List UInt8, Op.bytesLess a b = true → Op.bytesLess b c = true → Op.bytesLess a c = true
  | _, _, [], _, h => by simp [Op.bytesLess] at h
  | _, [], _ :: _, h, _ => by simp [Op.bytesLess] at h
  | [], _ :: _, _ :: _, _, _ => by simp [Op.bytesLess]
  | x :: a, y :: b, z :: c, h1, h2 => by
    simp only [Op.bytesLess, Bool.or_eq_true, decide_eq_true_eq, Bool.and_eq_true, beq_iff_eq] at h1 h2 ⊢
    rcases h1 with h1 | ⟨rfl, h1⟩
    · rcases h2 with h2 | ⟨rfl, _⟩
      · left
        have := UInt8.lt_iff_toNat_lt.1 h1
        have := UInt8.lt_iff_toNat_lt.1 h2
        exact UInt8.lt_iff_toNat_lt.2 (by omega)
      · exact .inl h1
    · rcases h2 with h2 | ⟨rfl, h2⟩
      · exact .inl h2
      · exact .inr ⟨rfl, bl_trans a b c h1 h2⟩
theorem lt_irr (a : ByteArray) : ltS a a = false := bl_irr _
theorem lt_tot {a b : ByteArray} (h1 : ltS a b = false) (h2 : ltS b a = false) : a = b := str_ext (bl_tot _ _ h1 h2)
theorem lt_trans' {a b c : ByteArray} (h1 : ltS a b = true) (h2 : ltS b c = true) : ltS a c = true := bl_trans _ _ _ h1 h2
theorem lt_asym {a b : ByteArray} (h : ltS a b = true) : ltS b a = false := by
  cases h2 : ltS b a with
  | false => rfl
  | true => have := lt_trans' h h2; rw [lt_irr] at this; cases this
/-- Not below is transitive. -/
theorem le_trans' {a b c : ByteArray} (h1 : ltS b a = false) (h2 : ltS c b = false) : ltS c a = false := by
  cases h : ltS c a with
  | false => rfl
  | true =>
    cases h3 : ltS a b with
    | true => have := lt_trans' h h3; rw [h2] at this; cases this
    | false =>
      obtain rfl := lt_tot h3 h1
      rw [h] at h2; cases h2
/-- Ascending, the same one after the other not shut out. -/
def AscS (l : List ByteArray) : Prop := l.Pairwise fun a b => ltS b a = false
/-- One behind the other, the same left out. -/
def compactS : List ByteArray → List ByteArray
  | [] => []
  | [a] => [a]
  | a :: b :: l => if a = b then compactS (b :: l) else a :: compactS (b :: l)
theorem compact_len : ∀ l : List ByteArray, (compactS l).length ≤ l.length
  | [] => by simp [compactS]
  | [a] => by simp [compactS]
  | a :: b :: l => by
    have := compact_len (b :: l)
    rw [compactS]
    split
    · simp only [List.length_cons] at this ⊢; omega
    · simp only [List.length_cons] at this ⊢; omega
/-- Fewer exactly if one stands there twice. -/
theorem compact_nodup : ∀ {l : List ByteArray}, AscS l → ((compactS l).length = l.length ↔ l.Nodup)
  | [], _ => by simp [compactS]
  | [a], _ => by simp [compactS]
  | a :: b :: l, h => by
    have h0 := h
    rw [AscS, List.pairwise_cons] at h
    have ih := compact_nodup (l := b :: l) h.2
    have hl := compact_len (b :: l)
    rw [compactS]
    by_cases e : a = b
    · subst e
      rw [if_pos rfl]
      constructor
      · intro hh; simp only [List.length_cons] at hh hl; omega
      · intro hh; simp at hh
    · rw [if_neg e]
      rw [List.length_cons, List.length_cons, Nat.succ_inj, ih, List.nodup_cons (a := a)]
      constructor
      · intro hh
        refine ⟨fun hm => ?_, hh⟩
        rcases List.mem_cons.1 hm with rfl | hm
        · exact e rfl
        · have h1 := h.1 b (by simp)
          have h2 := h.2
          rw [List.pairwise_cons] at h2
          have h3 := h2.1 a hm
          exact e (lt_tot h3 h1)
      · exact fun hh => hh.2
end Go.Proofs.YtnpcilglilfajaaGreatDoor
namespace Go.Proofs.YtnpcilglilfajaaGreatDoor
open Go.RowKit
/-- In the round of place i the string that is put in stands at j. -/
def Ins (bs : List ByteArray) (i j : Nat) : Prop := ∃ (pre : List ByteArray) (x : ByteArray) (mid post : List ByteArray), bs = pre ++ x :: (mid ++ post) ∧ pre.length = j ∧ j + mid.length = i ∧ AscS (pre ++ mid) ∧ ∀ y ∈ mid, ltS x y = true
theorem Ins.start {bs : List ByteArray} {i : Nat} (hi : i < bs.length) (h : AscS (bs.take i)) : Ins bs i i := by
  refine ⟨bs.take i, bs[i], [], bs.drop (i + 1), ?_, by rw [List.length_take]; omega, by simp, by simpa using h, fun _ h => by cases h⟩
  rw [List.nil_append, ← List.drop_eq_getElem_cons hi, List.take_append_drop]
theorem swap_mid {α : Type} {pre : List α} {p x : α} {r : List α} : ((pre ++ p :: x :: r).set (pre.length + 1) p).set pre.length x = pre ++ x :: p :: r := by
  rw [List.set_append_right _ _ (by omega), show pre.length + 1 - pre.length = 1 by omega, List.set_append_right _ _ (by omega), Nat.sub_self]
  rfl
theorem Ins.step {bs : List ByteArray} {i j : Nat} {x p : ByteArray} (h : Ins bs i (j + 1)) (hx : bs[j + 1]? = some x) (hp : bs[j]? = some p) (hlt : ltS x p = true) : Ins ((bs.set (j + 1) p).set j x) i j ∧ ((bs.set (j + 1) p).set j x).Perm bs := by
  obtain ⟨pre, x', mid, post, rfl, h1, h2, h3, h4⟩ := h
  have hpre : pre = pre.dropLast ++ [pre.getLast (by intro h; rw [h] at h1; simp at h1)] := (List.dropLast_concat_getLast _).symm
  generalize hq : pre.getLast _ = q at hpre
  generalize pre.dropLast = pr at hpre
  subst hpre
  have hl : pr.length = j := by rw [List.length_append] at h1; simp at h1; exact h1
  obtain rfl : x' = x := by
    rw [List.getElem?_append_right (by omega), h1, Nat.sub_self] at hx
    simpa using hx
  obtain rfl : q = p := by
    rw [List.append_assoc, List.getElem?_append_right (by omega), hl, Nat.sub_self] at hp
    simpa using hp
  have e : (((pr ++ [q]) ++ x' :: (mid ++ post)).set (j + 1) q).set j x' = pr ++ x' :: q :: (mid ++ post) := by
    rw [List.append_assoc, ← hl]
    exact swap_mid
  rw [e]
  refine ⟨⟨pr, x', q :: mid, post, by simp, hl, by simp only [List.length_cons]; omega, by simpa using h3, fun y hy => ?_⟩, ?_⟩
  · rcases List.mem_cons.1 hy with rfl | hy
    · exact hlt
    · exact h4 y hy
  · rw [List.append_assoc]
    exact List.Perm.append_left _ (List.Perm.swap _ _ _)
theorem Ins.fin {bs : List ByteArray} {i j : Nat} {x : ByteArray} (h : Ins bs i j) (hx : bs[j]? = some x) (hs : j = 0 ∨ ∃ p, bs[j - 1]? = some p ∧ ltS x p = false) : AscS (bs.take (i + 1)) := by
  obtain ⟨pre, x', mid, post, rfl, h1, h2, h3, h4⟩ := h
  obtain rfl : x' = x := by
    rw [List.getElem?_append_right (by omega), h1, Nat.sub_self] at hx
    simpa using hx
  have e : (pre ++ x' :: (mid ++ post)).take (i + 1) = pre ++ x' :: mid := by
    rw [List.take_append, List.take_of_length_le (by omega), show i + 1 - pre.length = mid.length + 1 by omega, List.take_succ_cons, List.take_left]
  rw [e]
  obtain ⟨g1, g2, g3⟩ := List.pairwise_append.1 h3
  have hle : ∀ a ∈ pre, ltS x' a = false := by
    intro a ha
    rcases hs with rfl | ⟨p, hp, hlt⟩
    · rw [List.eq_nil_of_length_eq_zero h1] at ha; cases ha
    · obtain ⟨k, hk, rfl⟩ := List.getElem_of_mem ha
      rw [List.getElem?_append_left (by omega)] at hp
      obtain ⟨hp1, hp2⟩ := List.getElem?_eq_some_iff.1 hp
      rcases Nat.lt_or_ge k (j - 1) with hkj | hkj
      · have := List.pairwise_iff_getElem.1 g1 k (j - 1) hk hp1 hkj
        rw [hp2] at this
        exact le_trans' this hlt
      · have : k = j - 1 := by omega
        subst this
        rw [hp2]; exact hlt
  refine List.pairwise_append.2 ⟨g1, List.pairwise_cons.2 ⟨fun y hy => lt_asym (h4 y hy), g2⟩, fun a ha b hb => ?_⟩
  rcases List.mem_cons.1 hb with rfl | hb
  · exact hle a ha
  · exact g3 a ha b hb
theorem asc_one {bs : List ByteArray} (h : bs.length ≤ 1) : AscS bs := by
  match bs, h with
  | [], _ => exact List.Pairwise.nil
  | [_], _ => exact List.pairwise_singleton ..
end Go.Proofs.YtnpcilglilfajaaGreatDoor
namespace Go.Proofs.YtnpcilglilfajaaGreatDoor
open Go.RowKit
inductive Ex where
  | mk (op : Nat) (n : Int) (ns : List ByteArray) (al : List Ex)
def Ex.op : Ex → Nat
  | .mk o _ _ _ => o
def Ex.al : Ex → List Ex
  | .mk _ _ _ a => a
mutual
def depE : Ex → Nat
  | .mk _ _ _ al => depL al + 1
def depL : List Ex → Nat
  | [] => 0
  | a :: al => max (depE a) (depL al)
end
mutual
def sizE : Ex → Nat
  | .mk _ _ _ al => sizL al + 1
def sizL : List Ex → Nat
  | [] => 0
  | a :: al => sizE a + sizL al
end
def wtS (ns : List ByteArray) : Nat := (ns.map fun s => s.size + 1).sum
mutual
def wtE : Ex → Nat
  | .mk _ _ ns al => wtS ns + wtL al + 1
def wtL : List Ex → Nat
  | [] => 0
  | a :: al => wtE a + wtL al
end
theorem depL_snoc (a : Ex) : ∀ l : List Ex, depL (l ++ [a]) = max (depL l) (depE a)
  | [] => by simp [depL]
  | x :: l => by rw [List.cons_append, depL, depL, depL_snoc a l]; omega
theorem sizL_app (b : List Ex) : ∀ l : List Ex, sizL (l ++ b) = sizL l + sizL b
  | [] => by simp [sizL]
  | x :: l => by rw [List.cons_append, sizL, sizL, sizL_app b l]; omega
theorem wtL_app (b : List Ex) : ∀ l : List Ex, wtL (l ++ b) = wtL l + wtL b
  | [] => by simp [wtL]
  | x :: l => by rw [List.cons_append, wtL, wtL, wtL_app b l]; omega
theorem sizL_snoc (a : Ex) (l : List Ex) : sizL (l ++ [a]) = sizL l + sizE a := by rw [sizL_app]; simp [sizL]
theorem wtL_snoc (a : Ex) (l : List Ex) : wtL (l ++ [a]) = wtL l + wtE a := by rw [wtL_app]; simp [wtL]
theorem wtL_mem {a : Ex} : ∀ {l : List Ex}, a ∈ l → wtE a ≤ wtL l
  | x :: l, h => by
    rw [wtL]
    rcases List.mem_cons.1 h with rfl | h
    · omega
    · have := wtL_mem h; omega
theorem wtL_len : ∀ l : List Ex, l.length ≤ wtL l
  | [] => by simp
  | x :: l => by
    have := wtL_len l
    cases x
    rw [wtL, wtE, List.length_cons]; omega
theorem wtS_len (ns : List ByteArray) : ns.length ≤ wtS ns := by
  induction ns with
  | nil => simp
  | cons s l ih => simp only [wtS, List.map_cons, List.sum_cons, List.length_cons] at ih ⊢; omega
mutual
theorem dep_wt : ∀ e : Ex, depE e ≤ wtE e
  | .mk _ _ _ al => by have := depL_wt al; rw [depE, wtE]; omega
theorem depL_wt : ∀ l : List Ex, depL l ≤ wtL l
  | [] => by simp [depL]
  | a :: al => by have := dep_wt a; have := depL_wt al; rw [depL, wtL]; omega
end
mutual
theorem siz_wt : ∀ e : Ex, sizE e ≤ wtE e
  | .mk _ _ _ al => by have := sizL_wt al; rw [sizE, wtE]; omega
theorem sizL_wt : ∀ l : List Ex, sizL l ≤ wtL l
  | [] => by simp [sizL]
  | a :: al => by have := siz_wt a; have := sizL_wt al; rw [sizL, wtL]; omega
end
def str (l : List UInt8) : ByteArray := ⟨l.toArray⟩
/-- The words that are no names. -/
def keyws : List ByteArray := [⟨#[97, 108, 108]⟩, ⟨#[97, 110, 100]⟩, ⟨#[97, 115, 115, 105, 103, 110]⟩, ⟨#[98, 121]⟩, ⟨#[99, 111, 117, 110, 116]⟩, ⟨#[100, 101, 99, 108, 97, 114, 101]⟩, ⟨#[100, 121, 110, 97, 109, 105, 99]⟩, ⟨#[101, 110, 102, 111, 114, 99, 101]⟩, ⟨#[102, 97, 108, 115, 101]⟩, ⟨#[102, 111, 114]⟩, ⟨#[105, 102]⟩, ⟨#[109, 101, 109, 98, 101, 114, 115]⟩, ⟨#[110, 111, 110, 101]⟩, ⟨#[110, 111, 116]⟩, ⟨#[111, 110]⟩, ⟨#[111, 114]⟩, ⟨#[114, 101, 118, 111, 107, 101]⟩, ⟨#[115, 116, 97, 116, 105, 99]⟩, ⟨#[116, 114, 117, 101]⟩, ⟨#[117, 115, 101, 114, 115]⟩]
def letB (b : UInt8) : Bool := decide (97 ≤ b.toNat ∧ b.toNat ≤ 122)
def innB (b : UInt8) : Bool := decide (97 ≤ b.toNat ∧ b.toNat ≤ 122 ∨ 48 ≤ b.toNat ∧ b.toNat ≤ 57 ∨ b.toNat = 95)
/-- The bytes of a name from the place i on. -/
def formB (s : ByteArray) (i : Nat) : Prop := ∀ k b, i ≤ k → s[k]? = some b → innB b = true ∧ (k = 0 → letB b = true)
/-- A name. -/
def validS (s : ByteArray) : Prop := s.size ≠ 0 ∧ s.size ≤ 12 ∧ s ∉ keyws ∧ formB s 0
def validB (s : ByteArray) : Bool := decide (s.size ≠ 0) && decide (s.size ≤ 12) && decide (s ∉ keyws) && s.data.toList.all innB && (s.data.toList.head?.map letB).getD true
theorem validB_iff {s : ByteArray} : validB s = true ↔ validS s := by
  have hg : ∀ k : Nat, s[k]? = s.data.toList[k]? := fun k => by simp only [Array.getElem?_toList]; rfl
  unfold validB validS formB
  simp only [Bool.and_eq_true, decide_eq_true_eq, List.all_eq_true]
  constructor
  · rintro ⟨⟨⟨⟨h1, h2⟩, h3⟩, h4⟩, h5⟩
    refine ⟨h1, h2, h3, fun k b _ hk => ⟨h4 b (List.mem_of_getElem? (by rw [← hg]; exact hk)), fun h0 => ?_⟩⟩
    subst h0
    rw [hg] at hk
    rw [List.head?_eq_getElem?, hk] at h5
    exact h5
  · rintro ⟨h1, h2, h3, h4⟩
    refine ⟨⟨⟨⟨h1, h2⟩, h3⟩, fun b hb => ?_⟩, ?_⟩
    · obtain ⟨k, hk⟩ := List.mem_iff_getElem?.1 hb
      exact (h4 k b (Nat.zero_le _) (by rw [hg]; exact hk)).1
    · rw [List.head?_eq_getElem?]
      cases h0 : s.data.toList[0]? with
      | none => rfl
      | some b => exact (h4 0 b (Nat.zero_le _) (by rw [hg]; exact h0)).2 rfl
instance (s : ByteArray) : Decidable (validS s) := decidable_of_iff _ validB_iff
/-- How many operands an operator has. -/
def argN (op : Nat) : Nat := if op < 7 then 0 else if op = 7 then 1 else 2
/-- A permitted number of names. -/
def namN (op k : Nat) : Prop := if op = 4 ∨ op = 6 then k = 1 else if op = 5 then 1 ≤ k ∧ k ≤ 8 else k = 0
instance (op k : Nat) : Decidable (namN op k) := by unfold namN; infer_instance
/-- The error of an operator without its operands. -/
noncomputable def ownE (op : Nat) (n : Int) (ns : List ByteArray) (k : Nat) : Int :=
  if op < 1 ∨ 16 < op ∨ k ≠ argN op then 1 else if (n ≠ 0 ∧ op ≠ 1) ∨ ¬namN op ns.length then 6 else if ¬(∀ s ∈ ns, validS s) then 9 else if ¬ns.Nodup then 5 else if n < 0 ∨ 999999 < n then 2 else 0
mutual
noncomputable def nodeE : Ex → Int
  | .mk op n ns al => if ownE op n ns al.length ≠ 0 then ownE op n ns al.length else nodeL al
noncomputable def nodeL : List Ex → Int
  | [] => 0
  | a :: al => if nodeE a ≠ 0 then nodeE a else nodeL al
end
theorem nodeL_app (b : List Ex) : ∀ l : List Ex, nodeL (l ++ b) = if nodeL l ≠ 0 then nodeL l else nodeL b
  | [] => by simp [nodeL]
  | x :: l => by
    rw [List.cons_append, nodeL, nodeL, nodeL_app b l]
    by_cases h : nodeE x ≠ 0
    · simp [h]
    · simp only [h, if_false]
noncomputable def chkE (e : Ex) : Int := if 10 < depE e ∨ 200 < sizE e then 3 else nodeE e
/-- A number in decimal. -/
def decG : Nat → Nat → List UInt8
  | 0, _ => []
  | f + 1, v => if v < 10 then [UInt8.ofNat (48 + v)] else decG f (v / 10) ++ [UInt8.ofNat (48 + v % 10)]
def decB (v : Nat) : ByteArray := ⟨(decG 20 v).toArray⟩
end Go.Proofs.YtnpcilglilfajaaGreatDoor
namespace Go.Proofs.YtnpcilglilfajaaGreatDoor
open Go.RowKit
def strC (s : ByteArray) : List Value := [.string s]
theorem strC_len (s : ByteArray) : (strC s).length = 1 := rfl
abbrev Row4 := Value × Value × Value × Value
def rc4 (r : Row4) : List Value := [r.1, r.2.1, r.2.2.1, r.2.2.2]
theorem rc4_len (r : Row4) : (rc4 r).length = 4 := rfl
/-- The four fields of an expression whose operator is of kind k. -/
inductive ExR (k : IntKind) (X : PMap) : Ex → Row4 → Prop
  | mk {op : Nat} {n : Int} {ns : List ByteArray} {al : List Ex} {vn va : Value} {rows : List Row4} (hn : RowR strC X vn ns) (ha : RowR rc4 X va rows) (hl : rows.length = al.length)
      (hr : ∀ (i : Nat) (a : Ex) (r : Row4), al[i]? = some a → rows[i]? = some r → ExR k X a r) : ExR k X (.mk op n ns al) (.int k (op : Int), .int .i64 n, vn, va)
theorem ExR.mono {k : IntKind} {X X' : PMap} {e : Ex} {r : Row4} (h : ExR k X e r) (hX : X.le X') : ExR k X' e r := by
  induction h with
  | mk hn ha hl hr ih => exact .mk (hn.mono hX) (ha.mono hX) hl ih
theorem ExR.form {k : IntKind} {X : PMap} {e : Ex} {r : Row4} (h : ExR k X e r) : ∃ (o : Nat) (n : Int) (A B : Option Addr) (l c l' c' : Nat), r = (.int k (o : Int), .int .i64 n, .slice A l c, .slice B l' c') := by
  cases h with
  | mk hn ha hl hr =>
    obtain ⟨A, c, rfl⟩ := hn.form
    obtain ⟨B, c', rfl⟩ := ha.form
    exact ⟨_, _, _, _, _, _, _, _, rfl⟩
theorem RowR.ofG {α : Type} {rc : α → List Value} {X : PMap} {e : TypeId} {size : Nat} {v : Value} {rs : List α} {G : Own} (hg : GrowS e size v rs.length (rs.map rc).flatten G) (h : SliceR X v rs.length (rs.map rc).flatten) : RowR rc X v rs := by
  rcases h with ⟨h0, _, A, c, rfl⟩ | ⟨h0, b, c, rfl, hB⟩
  · exact .inl ⟨List.eq_nil_of_length_eq_zero h0, _, _, rfl⟩
  · rcases hg with ⟨h1, _⟩ | ⟨b', cap, hv, _, h2, h3, _⟩
    · omega
    · simp only [Value.slice.injEq] at hv
      exact .inr ⟨h0, b, c, [], rfl, by simpa using hB, by omega, by omega⟩
theorem strs_flat : ∀ l : List ByteArray, (l.map strC).flatten = l.map Value.string
  | [] => rfl
  | s :: l => by rw [List.map_cons, List.flatten_cons, strs_flat l]; rfl
/-- A name of a list, read. -/
theorem str_read {pre : List Value} {ns : List ByteArray} {i k' : Nat} {s : ByteArray} (h : ns[i]? = some s) (e : k' = pre.length + i * 1) : cread false 1 (pre ++ (ns.map strC).flatten) k' = some (.string s) :=
  row_cell (sz := 1) (j := 0) strC_len h rfl (by omega)
end Go.Proofs.YtnpcilglilfajaaGreatDoor
namespace Go.Proofs.YtnpcilglilfajaaGreatDoor
section
set_option maxRecDepth 100000
theorem en130 : Enters Tryz.prog 130 := enters_mk Tryz.func130 (by kernel_rfl) rfl
theorem en131 : Enters Tryz.prog 131 := enters_mk Tryz.func131 (by kernel_rfl) rfl
theorem en169 : Enters Tryz.prog 169 := enters_mk Tryz.func169 (by kernel_rfl) rfl
theorem en175 : Enters Tryz.prog 175 := enters_mk Tryz.func175 (by kernel_rfl) rfl
theorem en179 : Enters Tryz.prog 179 := enters_mk Tryz.func179 (by kernel_rfl) rfl
theorem en199 : Enters Tryz.prog 199 := enters_mk Tryz.func199 (by kernel_rfl) rfl
theorem ty9 : Ty Tryz.prog 9 false 1 := ⟨⟨_, Tryz.underlying9, rfl⟩, by kernel_rfl⟩
end
open Go.RowKit
def strsC (l : List ByteArray) : List Value := l.map Value.string
theorem strsC_len (l : List ByteArray) : (strsC l).length = l.length := by simp [strsC]
theorem strsC_at {l : List ByteArray} {i : Nat} {s : ByteArray} (h : l[i]? = some s) : (strsC l)[i]? = some (.string s) := by simp [strsC, h]
theorem strsC_set {l : List ByteArray} {i : Nat} {s : ByteArray} : csets (strsC l) i (vcells (.string s)) = strsC (l.set i s) := by simp [csets, vcells, strsC, List.map_set]
theorem strsC_flat (l : List ByteArray) : (l.map strC).flatten = strsC l := strs_flat l
theorem isnan_spec {X : PMap} {a : ByteArray} : Spec Tryz.prog 199 [.string a] X fun u _ => u = .bool false := by
  refine Spec.enter Tryz.func199 rfl Tryz.ntmps199 rfl ?_
  intro w0 hw0
  refine T.seq <| T.region <| SL.as rfl <| SL.nil <| T.seq <| T.region <| SL.mv rfl <| SL.mv rfl <| SL.v (op_neqStrD rfl rfl) <| SL.as rfl <| SL.nil <| T.ret1 rfl (ResIs.tmp rfl) ?_
  simp
theorem less_spec {X : PMap} {a b : ByteArray} : Spec Tryz.prog 175 [.string a, .string b] X fun u _ => u = .bool (ltS a b) := by
  refine Spec.enter Tryz.func175 rfl Tryz.ntmps175 rfl ?_
  intro w0 hw0
  refine T.seq <| T.region <| SL.as rfl <| SL.nil <| T.seq <| T.region <| SL.mv rfl <| SL.w (op_callF en199 (vs := [_]) rfl (isnan_spec)) ?_
  rintro _ _ X1 ⟨rfl, hX1, rfl⟩
  refine SL.mv rfl <| SL.skip rfl rfl ?_
  refine SL.skip rfl rfl ?_
  refine SL.skip rfl rfl ?_
  refine SL.v (op_pickF rfl rfl) <| SL.mv rfl <| SL.mv rfl <| SL.mv rfl <| SL.v (op_lssStr rfl rfl) <| SL.v (op_pickF rfl rfl) <| SL.as rfl <| SL.nil <| T.ret1 rfl (ResIs.tmp rfl) ?_
  rfl
theorem insertion_spec {X : PMap} {b cap : Nat} {l : List ByteArray} (h0 : 0 < l.length) (hl : l.length < 1000000) : SpecM Tryz.prog 169 [.slice (some ⟨b, 0, none⟩) l.length cap, .int .i64 0, .int .i64 (l.length : Int)] X [⟨b, strsC l, 9, cap * 1⟩] fun _ L' _ => ∃ l' : List ByteArray, L' = [⟨b, strsC l', 9, cap * 1⟩] ∧ l'.Perm l ∧ AscS l' := by
  refine SpecM.enter Tryz.func169 rfl Tryz.ntmps169 rfl ?_
  intro w0 X0 own0
  refine T.perm (own' := ⟨b, strsC l, 9, cap * 1⟩ :: own0) (List.Perm.refl _) ?_
  refine T.seq <| T.region <| SL.mv rfl <| SL.v (op_add rfl rfl (by omega) (by omega)) ?_
  refine SL.as rfl <| SL.nil <| T.block <| T.loopW (fun m env own X' => ∃ (i : Nat) (bs : List ByteArray), m = l.length - i ∧ 1 ≤ i ∧ i ≤ l.length ∧ X.le X' ∧ bs.Perm l ∧ AscS (bs.take i) ∧ env = [(0, .slice (some ⟨b, 0, none⟩) l.length cap), (1, .int .i64 0), (2, .int .i64 (l.length : Int)), (6, .int .i64 (i : Int))] ∧ own = ⟨b, strsC bs, 9, cap * 1⟩ :: own0) (l.length - 1) ⟨1, l, rfl, by omega, by omega, PMap.le_refl _, .refl _, asc_one (by rw [List.length_take]; omega), rfl, rfl⟩ (by repeat (first | exact Sub.nil | refine Sub.cons rfl ?_)) ?_
  rintro m _ _ X1 ⟨i, bs, rfl, hi1, hi, hX1, hperm, hasc, rfl, rfl⟩
  have hbl := hperm.length_eq
  rcases Nat.lt_or_ge i l.length with hil | hil
  · skip
    refine T.seq <| T.seq <| T.region <| SL.mv rfl <| SL.mv rfl <| SL.v (op_lssT rfl rfl (by omega)) ?_
    refine SL.nil <| T.condT rfl <| T.skip <| T.seq <| T.block <| T.seq <| T.region <| SL.mv rfl <| SL.as rfl <| SL.nil <| T.block <| T.loopW (fun m env own X' => ∃ (j : Nat) (cs : List ByteArray), j = m ∧ j ≤ i ∧ X1.le X' ∧ cs.Perm l ∧ Ins cs i j ∧ env = [(0, .slice (some ⟨b, 0, none⟩) l.length cap), (1, .int .i64 0), (2, .int .i64 (l.length : Int)), (6, .int .i64 (i : Int)), (7, .int .i64 (j : Int))] ∧ own = ⟨b, strsC cs, 9, cap * 1⟩ :: own0) i ⟨i, bs, rfl, by omega, PMap.le_refl _, hperm, Ins.start (by omega) hasc, rfl, rfl⟩ (by repeat (first | exact Sub.nil | refine Sub.cons rfl ?_)) ?_
    rintro m _ _ X2 ⟨j, cs, rfl, hj, hX2, hperm2, hins, rfl, rfl⟩
    have hcl := hperm2.length_eq
    obtain ⟨x, hx⟩ : ∃ x, cs[j]? = some x := ⟨_, List.getElem?_eq_getElem (by omega)⟩
    rcases Nat.eq_zero_or_pos j with hj0 | hj0
    · subst hj0
      have hfin := hins.fin hx (.inl rfl)
      refine T.seq <| T.seq <| T.draw (by kernel_rfl) 15 [.t 0, .t 1, .t 2, .t 3, .t 4, .t 5, .t 6, .t 7, .t 8, .t 9, .t 10, .t 11, .t 12, .r 13, .t 14] (by kernel_rfl) ?_
      refine SD.take rfl panicBody (op_move rfl) rfl rfl ?_
      refine SD.take rfl panicBody (op_move rfl) rfl rfl ?_
      refine SD.take rfl panicBody (op_gtrF rfl rfl (by omega)) rfl rfl ?_
      refine SD.take rfl panicBody (op_move rfl) rfl rfl ?_
      refine SD.skip rfl panicBody rfl rfl ?_
      refine SD.skip rfl panicBody rfl rfl ?_
      refine SD.skip rfl panicBody rfl rfl ?_
      refine SD.skip rfl panicBody rfl rfl ?_
      refine SD.skip rfl panicBody rfl rfl ?_
      refine SD.skip rfl panicBody rfl rfl ?_
      refine SD.skip rfl panicBody rfl rfl ?_
      refine SD.skip rfl panicBody rfl rfl ?_
      refine SD.skip rfl panicBody rfl rfl ?_
      refine SD.skipF rfl rfl rfl ?_
      refine SD.take rfl panicBody (op_pickF rfl rfl) rfl rfl ?_
      refine SD.nil ?_
      show SL _ _ _ _ _ _ _ [] _ _ _
      refine SL.nil <| T.condF rfl ?_
      refine T.exit (T.exitCode (T.exitCut (T.exitBlk ?_)))
      refine T.blk <| T.region <| SL.mv rfl <| SL.v (op_addN (q := 1) rfl rfl (by omega)) ?_
      refine SL.as rfl <| SL.nil ?_
      exact T.backW (l.length - (i + 1)) (by omega) ⟨i + 1, cs, rfl, by omega, by omega, hX1.trans' hX2, hperm2, hfin, rfl, rfl⟩ (by repeat (first | exact Sub.nil | refine Sub.cons rfl ?_))
    · obtain ⟨q, rfl⟩ : ∃ q, j = q + 1 := ⟨j - 1, by omega⟩
      obtain ⟨p, hp⟩ : ∃ p, cs[q]? = some p := ⟨_, List.getElem?_eq_getElem (by omega)⟩
      refine T.seq <| T.seq <| T.draw (by kernel_rfl) 15 [.t 0, .t 1, .t 2, .t 3, .t 4, .t 5, .t 6, .t 7, .t 8, .t 9, .t 10, .t 11, .t 12, .r 13, .t 14] (by kernel_rfl) ?_
      refine SD.take rfl panicBody (op_move rfl) rfl rfl ?_
      refine SD.take rfl panicBody (op_move rfl) rfl rfl ?_
      refine SD.take rfl panicBody (op_gtrT rfl rfl (by omega)) rfl rfl ?_
      refine SD.take rfl panicBody (op_move rfl) rfl rfl ?_
      refine SD.take rfl panicBody (op_move rfl) rfl rfl ?_
      refine SD.take rfl panicBody (op_move rfl) rfl rfl ?_
      refine SD.take rfl panicBody (op_indexN Tryz.underlying59 ty9 rfl rfl (by omega)) rfl rfl ?_
      refine SD.take rfl panicBody (op_load ty9 rfl (by repeat constructor) (cread1k' (strsC_at hx) (by omega))) rfl rfl ?_
      refine SD.take rfl panicBody (op_move rfl) rfl rfl ?_
      refine SD.take rfl panicBody (op_move rfl) rfl rfl ?_
      refine SD.take rfl panicBody (op_subN (q := 1) rfl rfl (by omega) (by omega)) rfl rfl ?_
      refine SD.take rfl panicBody (op_indexN Tryz.underlying59 ty9 rfl rfl (by omega)) rfl rfl ?_
      refine SD.take rfl panicBody (op_load ty9 rfl (by repeat constructor) (cread1k' (strsC_at hp) (by omega))) rfl rfl ?_
      refine SD.run rfl (op_callF en175 (vs := [_, _]) rfl (less_spec)) rfl rfl ?_
      rintro _ _ X3 ⟨rfl, hX3, rfl⟩
      cases hlt : ltS x p with
      | false =>
        have hfin := hins.fin hx (.inr ⟨p, by simpa using hp, hlt⟩)
        refine SD.take rfl panicBody (op_pickT rfl rfl) rfl rfl ?_
        refine SD.nil ?_
        show SL _ _ _ _ _ _ _ [] _ _ _
        refine SL.nil <| T.condF rfl ?_
        refine T.exit (T.exitCode (T.exitCut (T.exitBlk ?_)))
        refine T.blk <| T.region <| SL.mv rfl <| SL.v (op_addN (q := 1) rfl rfl (by omega)) ?_
        refine SL.as rfl <| SL.nil ?_
        exact T.backW (l.length - (i + 1)) (by omega) ⟨i + 1, cs, rfl, by omega, by omega, (hX1.trans' hX2).trans' hX3, hperm2, hfin, rfl, rfl⟩ (by repeat (first | exact Sub.nil | refine Sub.cons rfl ?_))
      | true =>
        obtain ⟨hs1, hs2⟩ := hins.step hx hp hlt
        refine SD.take rfl panicBody (op_pickT rfl rfl) rfl rfl ?_
        refine SD.nil ?_
        show SL _ _ _ _ _ _ _ [] _ _ _
        refine SL.nil <| T.condT rfl <| T.skip <| T.seq <| T.block <| T.drawS 15 (by kernel_rfl) 16 [.t 0, .t 1, .m 2, .m 3, .m 4, .t 5, .t 6, .t 7, .t 8, .t 9, .m 10, .m 11, .m 12, .t 13, .t 14, .r 15] (by kernel_rfl) ?_
        refine SD.take rfl panicBody (op_move rfl) rfl rfl ?_
        refine SD.take rfl panicBody (op_move rfl) rfl rfl ?_
        refine SD.takeM rfl panicBody (op_move rfl) rfl rfl ?_
        refine SD.takeM rfl panicBody (op_move rfl) rfl rfl ?_
        refine SD.takeM rfl panicBody (op_subN (q := 1) rfl rfl (by omega) (by omega)) rfl rfl ?_
        refine SD.take rfl panicBody (op_move rfl) rfl rfl ?_
        refine SD.take rfl panicBody (op_move rfl) rfl rfl ?_
        refine SD.take rfl panicBody (op_subN (q := 1) rfl rfl (by omega) (by omega)) rfl rfl ?_
        refine SD.take rfl panicBody (op_indexN Tryz.underlying59 ty9 rfl rfl (by omega)) rfl rfl ?_
        refine SD.take rfl panicBody (op_load ty9 rfl (by repeat constructor) (cread1k' (strsC_at hp) (by omega))) rfl rfl ?_
        refine SD.takeM rfl panicBody (op_move rfl) rfl rfl ?_
        refine SD.takeM rfl panicBody (op_move rfl) rfl rfl ?_
        refine SD.takeM rfl panicBody (op_indexN Tryz.underlying59 ty9 rfl rfl (by omega)) rfl rfl ?_
        refine SD.take rfl panicBody (op_load ty9 rfl (by repeat constructor) (cread1k' (strsC_at hx) (by omega))) rfl rfl ?_
        refine SD.take rfl panicBody (op_indexN Tryz.underlying59 ty9 rfl rfl (by omega)) rfl rfl ?_
        refine SD.runS rfl (op_store ty9 rfl rfl (by repeat constructor) rfl rfl (Nat.ble_eq_true_of_le (by rw [strsC_len]; omega))) rfl rfl ?_
        rintro _ _ _ ⟨rfl, rfl⟩
        refine SD.nil ?_
        show SL _ _ _ _ _ _ _ [_, _] _ _ _
        refine SL.v (op_indexN Tryz.underlying59 ty9 rfl rfl (by omega)) ?_
        refine SL.w (op_store ty9 rfl rfl (by repeat constructor) rfl rfl (Nat.ble_eq_true_of_le (by rw [csets_length, strsC_len]; omega))) ?_
        rintro _ _ _ ⟨rfl, rfl⟩
        refine SL.perm (own' := ⟨b, strsC ((cs.set (q + 1) p).set q x), 9, cap * 1⟩ :: own0) (List.Perm.of_eq (by rw [← strsC_set, ← strsC_set]; simp only [Nat.zero_add, Nat.mul_one]; rfl)) ?_
        refine SL.nil <| T.blk <| T.region <| SL.mv rfl <| SL.v (op_subN (q := 1) rfl rfl (by omega) (by omega)) ?_
        refine SL.as rfl <| SL.nil ?_
        exact T.backW q (by omega) ⟨q, _, rfl, by omega, hX2.trans' hX3, hs2.trans hperm2, hs1, rfl, rfl⟩ (by repeat (first | exact Sub.nil | refine Sub.cons rfl ?_))
  · refine T.seq <| T.seq <| T.region <| SL.mv rfl <| SL.mv rfl <| SL.v (op_lssF rfl rfl (by omega)) ?_
    refine SL.nil <| T.condF rfl ?_
    refine T.exit (T.exitCode (T.exitCut (T.exitBlk ?_)))
    refine T.doneM0 [⟨b, strsC bs, 9, cap * 1⟩] rfl (List.Perm.refl _) ?_
    exact ⟨hX1, bs, rfl, hperm, by rwa [List.take_of_length_le (by omega)] at hasc⟩
theorem pdq_spec {X : PMap} {b cap : Nat} {l : List ByteArray} (h0 : 0 < l.length) (hl : l.length ≤ 12) {k : Int} : SpecM Tryz.prog 130 [.slice (some ⟨b, 0, none⟩) l.length cap, .int .i64 0, .int .i64 (l.length : Int), .int .i64 k] X [⟨b, strsC l, 9, cap * 1⟩] fun _ L' _ => ∃ l' : List ByteArray, L' = [⟨b, strsC l', 9, cap * 1⟩] ∧ l'.Perm l ∧ AscS l' := by
  refine SpecM.enter Tryz.func130 rfl Tryz.ntmps130 rfl ?_
  intro w0 X0 own0
  refine T.seq <| T.region <| SL.as rfl <| SL.nil <| T.seq <| T.region <| SL.as rfl <| SL.nil <| T.block <| T.unrollStart 1 ?_
  refine T.unroll ?_
  refine T.block <| T.seq <| T.region <| SL.mv rfl <| SL.mv rfl <| SL.v (op_sub rfl rfl (by omega) (by omega)) ?_
  refine SL.as rfl <| SL.nil <| T.seq <| T.seq <| T.region <| SL.mv rfl <| SL.v (op_leqT rfl rfl (by omega)) ?_
  refine SL.nil <| T.condT rfl <| T.seq <| T.region <| SL.mv rfl <| SL.mv rfl <| SL.mv rfl <| SL.w (op_callM en169 (vs := [_, _, _]) rfl (insertion_spec h0 (by omega)) rfl) ?_
  rintro _ _ X1 ⟨_, rfl, hX1, l', rfl, hp, ha⟩
  refine SL.nil <| T.retM0 [⟨b, strsC l', 9, cap * 1⟩] rfl  (List.Perm.refl _) ?_
  exact ⟨hX1, l', rfl, hp, ha⟩
def len8B : ByteArray := ⟨(([0, 1, 2, 2, 3, 3, 3, 3, 4, 4, 4, 4, 4, 4, 4, 4, 5, 5, 5, 5, 5, 5, 5, 5, 5, 5, 5, 5, 5, 5, 5, 5, 6, 6, 6, 6, 6, 6, 6, 6, 6, 6, 6, 6, 6, 6, 6, 6, 6, 6, 6, 6, 6, 6, 6, 6, 6, 6, 6, 6, 6, 6, 6, 6] : List UInt8) ++ List.replicate 64 7 ++ List.replicate 128 8).toArray⟩
theorem len8_at : ∀ i, i < 256 → ∃ b, len8B[i]? = some b ∧ b.toNat ≤ 8 := by
  have h : (List.range 256).all (fun i => match len8B[i]? with | some b => decide (b.toNat ≤ 8) | none => false) = true := by decide +kernel
  intro i hi
  have := List.all_eq_true.1 h i (List.mem_range.2 hi)
  split at this
  · rename_i b hb; exact ⟨b, hb, by simpa using this⟩
  · cases this
theorem len64_spec {X : PMap} {n : Nat} (hn : n < 256) : Spec Tryz.prog 179 [.int .u64 (n : Int)] X fun u _ => ∃ k : Int, u = .int .i64 k ∧ 0 ≤ k ∧ k ≤ 8 := by
  obtain ⟨b, hb, hb8⟩ := len8_at n hn
  refine Spec.enter Tryz.func179 rfl Tryz.ntmps179 rfl ?_
  intro w0 hw0
  refine T.seq <| T.region <| SL.v (op_assign (v := .int .i64 ((0 : Nat) : Int)) rfl) <| SL.nil <| T.seq <| T.seq <| T.region <| SL.mv rfl <| SL.v (op_geqF rfl rfl (by omega)) ?_
  refine SL.nil <| T.condF rfl <| T.skip <| T.seq <| T.seq <| T.region <| SL.mv rfl <| SL.v (op_geqF rfl rfl (by omega)) ?_
  refine SL.nil <| T.condF rfl <| T.skip <| T.seq <| T.seq <| T.region <| SL.mv rfl <| SL.v (op_geqF rfl rfl (by omega)) ?_
  refine SL.nil <| T.condF rfl <| T.skip <| T.seq <| T.region <| SL.mv rfl <| SL.mv rfl <| SL.v (op_convU8 Tryz.underlying58 Tryz.underlying5 rfl (by omega) (by omega)) ?_
  refine SL.v (op_idxStr (s := len8B) Tryz.underlying9 rfl rfl rfl hb) <| SL.v (op_convI64 Tryz.underlying5 Tryz.underlying3 rfl (by omega) (by omega)) ?_
  refine SL.v (op_addN rfl rfl (by omega)) ?_
  refine SL.as rfl <| SL.nil <| T.ret1 rfl (ResIs.tmp rfl) ?_
  exact ⟨_, rfl, by omega, by omega⟩
theorem len_specB {X : PMap} {n : Nat} (hn : n < 256) : Spec Tryz.prog 131 [.int .u64 (n : Int)] X fun u _ => ∃ k : Int, u = .int .i64 k ∧ 0 ≤ k ∧ k ≤ 8 := by
  refine Spec.enter Tryz.func131 rfl Tryz.ntmps131 rfl ?_
  intro w0 hw0
  refine T.seq <| T.region <| SL.v (op_assign (v := .int .i64 ((0 : Nat) : Int)) rfl) <| SL.nil <| T.seq <| T.condF rfl <| T.skip <| T.seq <| T.region <| SL.mv rfl <| SL.w (op_callF en179 (vs := [_]) rfl (len64_spec hn)) ?_
  rintro _ _ X1 ⟨rfl, hX1, k, rfl, h1, h2⟩
  refine SL.as rfl <| SL.nil <| T.ret1 rfl (ResIs.tmp rfl) ?_
  exact ⟨_, rfl, h1, h2⟩
theorem sort_spec {X : PMap} {b cap : Nat} {l : List ByteArray} (h0 : 0 < l.length) (hl : l.length ≤ 12) : SpecM Tryz.prog 82 [.slice (some ⟨b, 0, none⟩) l.length cap] X [⟨b, strsC l, 9, cap * 1⟩] fun _ L' _ => ∃ l' : List ByteArray, L' = [⟨b, strsC l', 9, cap * 1⟩] ∧ l'.Perm l ∧ AscS l' := by
  refine SpecM.enter Tryz.func82 rfl Tryz.ntmps82 rfl ?_
  intro w0 X0 own0
  refine T.seq <| T.region <| SL.mv rfl <| SL.v (op_lenS Tryz.underlying59 rfl) <| SL.as rfl <| SL.nil <| T.region <| SL.mv rfl <| SL.mv rfl <| SL.mv rfl <| SL.v (op_convU64 Tryz.underlying3 Tryz.underlying206 rfl (by omega) (by omega)) ?_
  refine SL.w (op_callF en131 (vs := [_]) rfl (len_specB (n := l.length) (by omega))) ?_
  rintro _ _ X1 ⟨rfl, hX1, k, rfl, h1, h2⟩
  refine SL.w (op_callM en130 (vs := [_, _, _, _]) rfl (pdq_spec h0 hl) rfl) ?_
  rintro _ _ X2 ⟨_, rfl, hX2, l', rfl, hp, ha⟩
  refine SL.nil <| T.doneM0 [⟨b, strsC l', 9, cap * 1⟩] rfl (List.Perm.refl _) ?_
  exact ⟨hX1.trans' hX2, l', rfl, hp, ha⟩
end Go.Proofs.YtnpcilglilfajaaGreatDoor
namespace Go.Proofs.YtnpcilglilfajaaGreatDoor
open Go.RowKit
def words6 : List ByteArray := [⟨#[97]⟩, ⟨#[98]⟩, ⟨#[99]⟩, ⟨#[100]⟩, ⟨#[99, 108, 101, 114, 107]⟩, ⟨#[116, 101, 108, 108, 101, 114]⟩]
def word6 (n : Nat) : ByteArray := (words6[n % 6]?).getD ⟨#[]⟩
theorem word6_at (n : Nat) : words6[n % 6]? = some (word6 n) := by
  rw [word6, List.getElem?_eq_getElem (show n % 6 < words6.length from Nat.mod_lt _ (by decide))]; rfl
structure Nd where
  op : Nat
  name : Nat
  odd : Nat
  num : Int
def ndC (x : Nd) : List Value := [.int .u8 (x.op : Int), .int .u8 (x.name : Int), .int .u8 (x.odd : Int), .int .i64 x.num]
end Go.Proofs.YtnpcilglilfajaaGreatDoor
namespace Go.Proofs.YtnpcilglilfajaaGreatDoor
section
set_option maxRecDepth 100000
theorem en121 : Enters Tryz.prog 121 := enters_mk Tryz.func121 (by kernel_rfl) rfl
theorem en122 : Enters Tryz.prog 122 := enters_mk Tryz.func122 (by kernel_rfl) rfl
theorem fa70_3 : FAdr Tryz.prog 70 3 3 := fadr_mk Tryz.underlying70 rfl rfl (by kernel_rfl)
theorem ty68 : Ty Tryz.prog 68 false 1 := ⟨⟨_, Tryz.underlying68, rfl⟩, by kernel_rfl⟩
theorem ty70 : Ty Tryz.prog 70 true 4 := ⟨⟨_, Tryz.underlying70, rfl⟩, by kernel_rfl⟩
theorem z70 : Zero Tryz.prog 70 [.int .u8 0, .int .i64 0, .slice none 0 0, .slice none 0 0] := ⟨zero_of (by kernel_rfl)⟩
end
open Go.RowKit
theorem take_snoc {α : Type} {l : List α} {i : Nat} {a : α} (h : l[i]? = some a) : l.take (i + 1) = l.take i ++ [a] := by
  obtain ⟨h1, h2⟩ := List.getElem?_eq_some_iff.1 h
  rw [List.take_succ_eq_append_getElem h1, h2]
theorem depth_spec (N : Nat) : ∀ {X : PMap} {e : Ex} {r : Row4}, wtE e ≤ N → N < 4000000000000 → ExR .u8 X e r → Spec Tryz.prog 121 [.agg #[r.1, r.2.1, r.2.2.1, r.2.2.2]] X fun u _ => u = .int .i64 (depE e : Int) := by
  induction N with
  | zero => intro X e r h; cases e; rw [wtE] at h; omega
  | succ N ih =>
    intro X e r hN hB h
    cases h with
    | @mk op n ns al vn va rows hn ha hl hr =>
    obtain ⟨Aa, ca, rfl⟩ := ha.form
    have hlen := wtL_len al
    rw [wtE] at hN
    refine Spec.enter Tryz.func121 rfl Tryz.ntmps121 rfl ?_
    intro w0 hw0
    refine T.seq <| T.region <| SL.w (op_box rfl) ?_
    rintro _ _ _ ⟨B1, rfl, rfl, rfl⟩
    refine SL.v (op_assign (v := .int .i64 ((0 : Nat) : Int)) rfl) <| SL.nil <| T.seq <| T.region <| SL.v (op_assign (v := .int .i64 ((0 : Nat) : Int)) rfl) <| SL.nil <| T.seq <| T.seq <| T.region <| SL.v (op_fieldAddr fa70_3 rfl) <| SL.v (op_load ty68 rfl (by repeat constructor) rfl) ?_
    refine SL.v (op_lenS Tryz.underlying68 rfl) <| SL.v (op_move (v := .int .i64 ((0 : Nat) : Int)) rfl) <| SL.nil <| T.block <| T.drop B1 (by repeat constructor) ?_
    refine T.loopW (fun m env own X' => ∃ i : Nat, m = rows.length - i ∧ i ≤ rows.length ∧ X.le X' ∧ env = [(3, .int .i64 (depL (al.take i) : Int)), (7, .slice Aa rows.length ca), (8, .int .i64 (rows.length : Int)), (9, .int .i64 (i : Int))] ∧ own = []) rows.length ⟨0, by simp, by omega, PMap.le_refl _, rfl, rfl⟩ (by repeat (first | exact Sub.nil | refine Sub.cons rfl ?_)) ?_
    rintro m _ _ X1 ⟨i, rfl, hi, hX1, rfl, rfl⟩
    have hdw := fun l : List Ex => depL_wt l
    rcases Nat.lt_or_ge i rows.length with hil | hil
    · obtain ⟨r2, hr2⟩ : ∃ r2, rows[i]? = some r2 := ⟨_, List.getElem?_eq_getElem hil⟩
      obtain ⟨a, ha2⟩ : ∃ a, al[i]? = some a := ⟨_, List.getElem?_eq_getElem (by omega)⟩
      have hra := hr i a r2 ha2 hr2
      obtain ⟨bA, pre, rfl, hbA⟩ := ha.blk (by omega)
      obtain ⟨_, _, _, _, _, _, _, _, rfl⟩ := hra.form
      have hwa := wtL_mem (List.mem_of_getElem? ha2)
      have hts := take_snoc ha2
      have hw1 : wtL (al.take (i + 1)) ≤ wtL al := by
        have := wtL_app (al.drop (i + 1)) (al.take (i + 1))
        rw [List.take_append_drop] at this; omega
      have hw2 : wtL (al.take (i + 1)) = wtL (al.take i) + wtE a := by rw [hts, wtL_snoc]
      have q1 := sizL_wt (al.take i)
      have q2 := siz_wt a
      have q3 := depL_wt (al.take i)
      have q4 := dep_wt a
      refine T.seq <| T.region <| SL.v (op_lssT rfl rfl (by omega)) ?_
      refine SL.nil <| T.seq <| T.condT rfl <| T.skip <| T.seq <| T.block <| T.seq <| T.region <| SL.v (op_indexN Tryz.underlying68 ty70 rfl rfl (by omega)) ?_
      refine SL.v (op_loadX ty70 rfl (hbA.mono hX1) (row_read rc4_len hr2 (by omega))) ?_
      refine SL.w (op_alloc z70) ?_
      rintro _ _ _ ⟨B5, rfl, rfl, rfl⟩
      refine SL.w (op_store ty70 rfl rfl (by repeat constructor) rfl rfl rfl) ?_
      rintro _ _ _ ⟨rfl, rfl⟩
      refine SL.nil <| T.region <| SL.mv rfl <| SL.v (op_load ty70 rfl (by repeat constructor) rfl) ?_
      refine SL.w (op_callF en121 (vs := [_]) rfl (ih (by omega) (by omega) (hra.mono hX1))) ?_
      rintro _ _ X2 ⟨rfl, hX2, rfl⟩
      refine SL.v (op_maxN rfl rfl) ?_
      rw [show max (depL (al.take i)) (depE a) = depL (al.take (i + 1)) by rw [hts, depL_snoc]]
      refine SL.as rfl <| SL.nil <| T.blk <| T.region <| SL.v (op_addN (q := 1) rfl rfl (by omega)) ?_
      refine SL.mv rfl <| SL.nil <| T.drop B5 (by repeat constructor) ?_
      exact T.backW (rows.length - (i + 1)) (by omega) ⟨i + 1, rfl, by omega, hX1.trans' hX2, rfl, rfl⟩ (by repeat (first | exact Sub.nil | refine Sub.cons rfl ?_))
    · obtain rfl : i = rows.length := by omega
      rw [show al.take rows.length = al from List.take_of_length_le (by omega)]
      have q1 := sizL_wt al
      have q3 := depL_wt al
      refine T.seq <| T.region <| SL.v (op_lssF rfl rfl (by omega)) ?_
      refine SL.nil <| T.seq <| T.condF rfl ?_
      refine T.exit (T.exitCode (T.exitCut (T.exitBlk ?_)))
      refine T.seq <| T.region <| SL.mv rfl <| SL.v (op_addN (q := 1) rfl rfl (by omega)) ?_
      refine SL.as rfl <| SL.nil <| T.ret1 rfl (ResIs.tmp rfl) ?_
      rw [depE]
theorem size_spec (N : Nat) : ∀ {X : PMap} {e : Ex} {r : Row4}, wtE e ≤ N → N < 4000000000000 → ExR .u8 X e r → Spec Tryz.prog 122 [.agg #[r.1, r.2.1, r.2.2.1, r.2.2.2]] X fun u _ => u = .int .i64 (sizE e : Int) := by
  induction N with
  | zero => intro X e r h; cases e; rw [wtE] at h; omega
  | succ N ih =>
    intro X e r hN hB h
    cases h with
    | @mk op n ns al vn va rows hn ha hl hr =>
    obtain ⟨Aa, ca, rfl⟩ := ha.form
    have hlen := wtL_len al
    rw [wtE] at hN
    refine Spec.enter Tryz.func122 rfl Tryz.ntmps122 rfl ?_
    intro w0 hw0
    refine T.seq <| T.region <| SL.w (op_box rfl) ?_
    rintro _ _ _ ⟨B1, rfl, rfl, rfl⟩
    refine SL.v (op_assign (v := .int .i64 ((0 : Nat) : Int)) rfl) <| SL.nil <| T.seq <| T.region <| SL.v (op_assign (v := .int .i64 ((1 : Nat) : Int)) rfl) <| SL.nil <| T.seq <| T.seq <| T.region <| SL.v (op_fieldAddr fa70_3 rfl) <| SL.v (op_load ty68 rfl (by repeat constructor) rfl) ?_
    refine SL.v (op_lenS Tryz.underlying68 rfl) <| SL.v (op_move (v := .int .i64 ((0 : Nat) : Int)) rfl) <| SL.nil <| T.block <| T.drop B1 (by repeat constructor) ?_
    refine T.loopW (fun m env own X' => ∃ i : Nat, m = rows.length - i ∧ i ≤ rows.length ∧ X.le X' ∧ env = [(3, .int .i64 ((sizL (al.take i) + 1 : Nat) : Int)), (7, .slice Aa rows.length ca), (8, .int .i64 (rows.length : Int)), (9, .int .i64 (i : Int))] ∧ own = []) rows.length ⟨0, by simp, by omega, PMap.le_refl _, rfl, rfl⟩ (by repeat (first | exact Sub.nil | refine Sub.cons rfl ?_)) ?_
    rintro m _ _ X1 ⟨i, rfl, hi, hX1, rfl, rfl⟩
    have hdw := fun l : List Ex => depL_wt l
    rcases Nat.lt_or_ge i rows.length with hil | hil
    · obtain ⟨r2, hr2⟩ : ∃ r2, rows[i]? = some r2 := ⟨_, List.getElem?_eq_getElem hil⟩
      obtain ⟨a, ha2⟩ : ∃ a, al[i]? = some a := ⟨_, List.getElem?_eq_getElem (by omega)⟩
      have hra := hr i a r2 ha2 hr2
      obtain ⟨bA, pre, rfl, hbA⟩ := ha.blk (by omega)
      obtain ⟨_, _, _, _, _, _, _, _, rfl⟩ := hra.form
      have hwa := wtL_mem (List.mem_of_getElem? ha2)
      have hts := take_snoc ha2
      have hw1 : wtL (al.take (i + 1)) ≤ wtL al := by
        have := wtL_app (al.drop (i + 1)) (al.take (i + 1))
        rw [List.take_append_drop] at this; omega
      have hw2 : wtL (al.take (i + 1)) = wtL (al.take i) + wtE a := by rw [hts, wtL_snoc]
      have q1 := sizL_wt (al.take i)
      have q2 := siz_wt a
      have q3 := depL_wt (al.take i)
      have q4 := dep_wt a
      refine T.seq <| T.region <| SL.v (op_lssT rfl rfl (by omega)) ?_
      refine SL.nil <| T.seq <| T.condT rfl <| T.skip <| T.seq <| T.block <| T.seq <| T.region <| SL.v (op_indexN Tryz.underlying68 ty70 rfl rfl (by omega)) ?_
      refine SL.v (op_loadX ty70 rfl (hbA.mono hX1) (row_read rc4_len hr2 (by omega))) ?_
      refine SL.w (op_alloc z70) ?_
      rintro _ _ _ ⟨B5, rfl, rfl, rfl⟩
      refine SL.w (op_store ty70 rfl rfl (by repeat constructor) rfl rfl rfl) ?_
      rintro _ _ _ ⟨rfl, rfl⟩
      refine SL.nil <| T.region <| SL.mv rfl <| SL.v (op_load ty70 rfl (by repeat constructor) rfl) ?_
      refine SL.w (op_callF en122 (vs := [_]) rfl (ih (by omega) (by omega) (hra.mono hX1))) ?_
      rintro _ _ X2 ⟨rfl, hX2, rfl⟩
      refine SL.v (op_addN rfl rfl (by omega)) ?_
      rw [show sizL (al.take i) + 1 + sizE a = sizL (al.take (i + 1)) + 1 by rw [hts, sizL_snoc]; omega]
      refine SL.as rfl <| SL.nil <| T.blk <| T.region <| SL.v (op_addN (q := 1) rfl rfl (by omega)) ?_
      refine SL.mv rfl <| SL.nil <| T.drop B5 (by repeat constructor) ?_
      exact T.backW (rows.length - (i + 1)) (by omega) ⟨i + 1, rfl, by omega, hX1.trans' hX2, rfl, rfl⟩ (by repeat (first | exact Sub.nil | refine Sub.cons rfl ?_))
    · obtain rfl : i = rows.length := by omega
      rw [show al.take rows.length = al from List.take_of_length_le (by omega)]
      have q1 := sizL_wt al
      have q3 := depL_wt al
      refine T.seq <| T.region <| SL.v (op_lssF rfl rfl (by omega)) ?_
      refine SL.nil <| T.seq <| T.condF rfl ?_
      refine T.exit (T.exitCode (T.exitCut (T.exitBlk ?_)))
      refine T.seq <| T.region <| SL.mv rfl <| SL.as rfl <| SL.nil <| T.ret1 rfl (ResIs.tmp rfl) ?_
      rw [sizE]
end Go.Proofs.YtnpcilglilfajaaGreatDoor
namespace Go.Proofs.YtnpcilglilfajaaGreatDoor
section
set_option maxRecDepth 100000
theorem bs9 : ∃ i z, Tryz.prog.info? 9 = some i ∧ i.size = 1 ∧ i.zero = some z ∧ z.cells = ([.string ⟨#[]⟩] : List Value).toArray := bs_of (by kernel_rfl)
theorem en81 : Enters Tryz.prog 81 := enters_mk Tryz.func81 (by kernel_rfl) rfl
theorem en82 : Enters Tryz.prog 82 := enters_mk Tryz.func82 (by kernel_rfl) rfl
theorem en83 : Enters Tryz.prog 83 := enters_mk Tryz.func83 (by kernel_rfl) rfl
theorem fa70_2 : FAdr Tryz.prog 70 2 2 := fadr_mk Tryz.underlying70 rfl rfl (by kernel_rfl)
theorem sl59 : SlT Tryz.prog 59 9 1 16 := ⟨Tryz.underlying59, sl_of (by kernel_rfl) (by decide)⟩
theorem ty59 : Ty Tryz.prog 59 false 1 := ⟨⟨_, Tryz.underlying59, rfl⟩, by kernel_rfl⟩
end
open Go.RowKit
mutual
def allE : Ex → List ByteArray
  | .mk _ _ ns al => ns ++ allL al
def allL : List Ex → List ByteArray
  | [] => []
  | a :: al => allE a ++ allL al
end
theorem allL_app (b : List Ex) : ∀ l : List Ex, allL (l ++ b) = allL l ++ allL b
  | [] => by simp [allL]
  | x :: l => by rw [List.cons_append, allL, allL, allL_app b l, List.append_assoc]
theorem allL_snoc (a : Ex) (l : List Ex) : allL (l ++ [a]) = allL l ++ allE a := by rw [allL_app]; simp [allL]
mutual
theorem all_wt : ∀ e : Ex, (allE e).length + 1 ≤ wtE e
  | .mk _ _ ns al => by
    have := allL_wt al
    have := wtS_len ns
    rw [allE, wtE, List.length_append]; omega
theorem allL_wt : ∀ l : List Ex, (allL l).length ≤ wtL l
  | [] => by simp [allL]
  | a :: al => by
    have := all_wt a
    have := allL_wt al
    rw [allL, wtL, List.length_append]; omega
end
theorem strsC_app (l m : List ByteArray) : strsC (l ++ m) = strsC l ++ strsC m := by simp [strsC]
theorem strsC_one (l : List ByteArray) : ∀ y ∈ strsC l, y.oneCell' = true := fun y hy => by
  obtain ⟨s, _, rfl⟩ := List.mem_map.1 hy; rfl
theorem gather_spec (N : Nat) : ∀ {X : PMap} {e : Ex} {r : Row4} {lv : Value} {l : List ByteArray} {G : Own}, wtE e ≤ N → l.length + wtE e < 1000000000 → ExR .u8 X e r → GrowS 9 1 lv l.length (strsC l) G →
    SpecM Tryz.prog 81 [lv, .agg #[r.1, r.2.1, r.2.2.1, r.2.2.2]] X G fun u L' _ => GrowS 9 1 u (l ++ allE e).length (strsC (l ++ allE e)) L' := by
  induction N with
  | zero => intro X e r lv l G h; cases e; rw [wtE] at h; omega
  | succ N ih =>
    intro X e r lv l G hN hB h hG
    have hmx : maxLen = 9223372036854775807 := rfl
    cases h with
    | @mk op n ns al vn va rows hn ha hl hr =>
    obtain ⟨Aa, ca, rfl⟩ := ha.form
    obtain ⟨An, cn, rfl⟩ := hn.form
    have hlen := wtL_len al
    have hnl := wtS_len ns
    rw [wtE] at hN hB
    have hsrc := fun (own : Own) => Src.ofRow (own := own) strC_len hn
    simp only [strsC_flat] at hsrc
    refine SpecM.enter Tryz.func81 rfl Tryz.ntmps81 rfl ?_
    intro w0 X0 own0
    refine T.seq <| T.region <| SL.w (op_box rfl) ?_
    rintro _ _ _ ⟨B3, rfl, rfl, rfl⟩
    refine SL.as rfl <| SL.nil <| T.seq <| T.region <| SL.mv rfl <| SL.v (op_fieldAddr fa70_2 rfl) <| SL.v (op_load ty59 rfl (by repeat constructor) rfl) ?_
    refine SL.perm (own' := (⟨B3, [.int .u8 (op : Int), .int .i64 n, .slice An ns.length cn, .slice Aa rows.length ca], 70, 4⟩ :: own0) ++ G) permA ?_
    refine SL.w (op_appendGA sl59 rfl hG rfl (hsrc _) (strsC_one ns) (by omega) (by omega)) ?_
    rintro lv1 _ _ ⟨G1, rfl, rfl, hG1⟩
    rw [← strsC_app, ← List.length_append] at hG1
    refine SL.as rfl <| SL.nil <| T.seq <| T.seq <| T.region <| SL.v (op_fieldAddr fa70_3 rfl) <| SL.v (op_load ty68 rfl (by repeat constructor) rfl) ?_
    refine SL.v (op_lenS Tryz.underlying68 rfl) <| SL.v (op_move (v := .int .i64 ((0 : Nat) : Int)) rfl) <| SL.nil <| T.block <| T.less (own' := own0 ++ G1) (List.sublist_cons_self ..) ?_
    refine T.perm (own' := G1 ++ own0) List.perm_append_comm ?_
    refine T.loopW (fun m env own X' => ∃ (i : Nat) (lv : Value) (G : Own), m = rows.length - i ∧ i ≤ rows.length ∧ X.le X' ∧ GrowS 9 1 lv (l ++ ns ++ allL (al.take i)).length (strsC (l ++ ns ++ allL (al.take i))) G ∧ env = [(0, lv), (12, .slice Aa rows.length ca), (13, .int .i64 (rows.length : Int)), (14, .int .i64 (i : Int))] ∧ own = G ++ own0) rows.length ⟨0, _, _, by simp, by omega, PMap.le_refl _, by simpa [allL] using hG1, rfl, rfl⟩ (by repeat (first | exact Sub.nil | refine Sub.cons rfl ?_)) ?_
    rintro m _ _ X1 ⟨i, lv2, G2, rfl, hi, hX1, hG2, rfl, rfl⟩
    rcases Nat.lt_or_ge i rows.length with hil | hil
    · obtain ⟨r2, hr2⟩ : ∃ r2, rows[i]? = some r2 := ⟨_, List.getElem?_eq_getElem hil⟩
      obtain ⟨a, ha2⟩ : ∃ a, al[i]? = some a := ⟨_, List.getElem?_eq_getElem (by omega)⟩
      have hra := hr i a r2 ha2 hr2
      obtain ⟨bA, pre, rfl, hbA⟩ := ha.blk (by omega)
      obtain ⟨_, _, _, _, _, _, _, _, rfl⟩ := hra.form
      have hts := take_snoc ha2
      have hw1 : wtL (al.take (i + 1)) ≤ wtL al := by
        have := wtL_app (al.drop (i + 1)) (al.take (i + 1))
        rw [List.take_append_drop] at this; omega
      have hw2 : wtL (al.take (i + 1)) = wtL (al.take i) + wtE a := by rw [hts, wtL_snoc]
      have q1 := allL_wt (al.take i)
      have q2 := all_wt a
      refine T.seq <| T.region <| SL.v (op_lssT rfl rfl (by omega)) ?_
      refine SL.nil <| T.seq <| T.condT rfl <| T.skip <| T.seq <| T.block <| T.seq <| T.region <| SL.v (op_indexN Tryz.underlying68 ty70 rfl rfl (by omega)) ?_
      refine SL.v (op_loadX ty70 rfl (hbA.mono hX1) (row_read rc4_len hr2 (by omega))) ?_
      refine SL.w (op_alloc z70) ?_
      rintro _ _ _ ⟨B6, rfl, rfl, rfl⟩
      refine SL.w (op_store ty70 rfl rfl (by repeat constructor) rfl rfl rfl) ?_
      rintro _ _ _ ⟨rfl, rfl⟩
      refine SL.nil <| T.region <| SL.mv rfl <| SL.v (op_load ty70 rfl (by repeat constructor) rfl) ?_
      refine SL.perm (own' := G2 ++ (_ :: own0)) List.perm_middle.symm ?_
      refine SL.w (op_callM en81 (vs := [_, _]) rfl (ih (by omega) (by simp only [List.length_append]; omega) (hra.mono hX1) hG2) rfl) ?_
      rintro lv3 _ X2 ⟨G3, rfl, hX2, hG3⟩
      rw [show l ++ ns ++ allL (al.take i) ++ allE a = l ++ ns ++ allL (al.take (i + 1)) by rw [hts, allL_snoc]; simp] at hG3
      refine SL.as rfl <| SL.nil <| T.blk <| T.region <| SL.v (op_addN (q := 1) rfl rfl (by omega)) ?_
      refine SL.mv rfl <| SL.nil <| T.less (own' := G3 ++ own0) (List.Sublist.append_left (List.sublist_cons_self ..) _) ?_
      exact T.backW (rows.length - (i + 1)) (by omega) ⟨i + 1, _, _, rfl, by omega, hX1.trans' hX2, hG3, rfl, rfl⟩ (by repeat (first | exact Sub.nil | refine Sub.cons rfl ?_))
    · obtain rfl : i = rows.length := by omega
      rw [show al.take rows.length = al from List.take_of_length_le (by omega)] at hG2
      refine T.seq <| T.region <| SL.v (op_lssF rfl rfl (by omega)) ?_
      refine SL.nil <| T.seq <| T.condF rfl ?_
      refine T.exit (T.exitCode (T.exitCut (T.exitBlk ?_)))
      refine T.seq <| T.region <| SL.mv rfl <| SL.as rfl <| SL.nil <| T.retM1 G2 rfl (ResIs.tmp rfl) (List.Perm.refl _) ?_
      refine ⟨hX1, ?_⟩
      rw [allE, ← List.append_assoc]
      exact hG2
theorem compact_snoc : ∀ (l : List ByteArray) (a b : ByteArray), compactS (l ++ [a] ++ [b]) = compactS (l ++ [a]) ++ (if a = b then [] else [b])
  | [], a, b => by
    simp only [List.nil_append, List.cons_append, compactS]
    split <;> simp_all
  | [x], a, b => by
    simp only [List.cons_append, List.nil_append, compactS]
    split <;> split <;> simp_all
  | x :: y :: l, a, b => by
    have := compact_snoc (y :: l) a b
    simp only [List.cons_append] at this ⊢
    rw [compactS, compactS, this]
    split
    · rfl
    · rfl
theorem compact_step {l : List ByteArray} {j : Nat} {a b : ByteArray} (ha : l[j]? = some a) (hb : l[j + 1]? = some b) : compactS (l.take (j + 2)) = compactS (l.take (j + 1)) ++ (if a = b then [] else [b]) := by
  rw [take_snoc hb, take_snoc ha, compact_snoc]
theorem set_take {α : Type} {l : List α} {k j : Nat} {x : α} (h : j < l.length) (hk : j = k) : (l.set j x).take (k + 1) = l.take k ++ [x] := by
  subst hk
  rw [List.take_succ_eq_append_getElem (by rw [List.length_set]; exact h), List.getElem_set_self, List.take_set_of_le (Nat.le_refl _)]
def zS (k : Nat) : List Value := (List.replicate k [Value.string ⟨#[]⟩]).flatten
theorem zS_len (k : Nat) : (zS k).length = k := by
  induction k with
  | zero => rfl
  | succ k ih => simp only [zS, List.replicate_succ, List.flatten_cons, List.length_append, List.length_cons, List.length_nil] at ih ⊢; omega
theorem csets_end : ∀ (vs pre old : List Value), old.length = vs.length → csets (pre ++ old) pre.length vs = pre ++ vs
  | [], pre, old, h => by
    obtain rfl := List.eq_nil_of_length_eq_zero (l := old) (by simpa using h)
    simp [csets]
  | v :: vs, pre, o :: old, h => by
    rw [csets, List.set_append_right _ _ (Nat.le_refl _), Nat.sub_self]
    have := csets_end vs (pre ++ [v]) old (by simpa using h)
    rw [List.length_append] at this
    simpa using this
theorem compact_spec {X : PMap} {b cap : Nat} {l : List ByteArray} (h0 : 0 < l.length) (hl : l.length < 1000000) (hc : l.length ≤ cap) : SpecM Tryz.prog 83 [.slice (some ⟨b, 0, none⟩) l.length cap] X [⟨b, strsC l, 9, cap * 1⟩] fun u L' _ => u = .slice (some ⟨b, 0, none⟩) (compactS l).length cap ∧ L' = [⟨b, strsC (compactS l), 9, cap * 1⟩] := by
  have hmx : maxLen = 9223372036854775807 := rfl
  rcases Nat.lt_or_ge l.length 2 with h2 | h2
  · obtain ⟨a, rfl⟩ : ∃ a, l = [a] := by
      match l, h0, h2 with
      | [a], _, _ => exact ⟨a, rfl⟩
    refine SpecM.enter Tryz.func83 rfl Tryz.ntmps83 rfl ?_
    intro w0 X0 own0
    refine T.seq <| T.region <| SL.as rfl <| SL.nil <| T.seq <| T.seq <| T.region <| SL.mv rfl <| SL.v (op_lenS Tryz.underlying59 rfl) <| SL.v (op_lssT rfl rfl (by omega)) ?_
    refine SL.nil <| T.condT rfl <| T.seq <| T.region <| SL.mv rfl <| SL.as rfl <| SL.nil <| T.retM1 [⟨b, strsC [a], 9, cap * 1⟩] rfl (ResIs.tmp rfl) (List.Perm.refl _) ?_
    exact ⟨PMap.le_refl _, rfl, rfl⟩
  refine SpecM.enter Tryz.func83 rfl Tryz.ntmps83 rfl ?_
  intro w0 X0 own0
  refine T.perm (own' := ⟨b, strsC l, 9, cap * 1⟩ :: own0) (List.Perm.refl _) ?_
  refine T.seq <| T.region <| SL.as rfl <| SL.nil <| T.seq <| T.seq <| T.region <| SL.mv rfl <| SL.v (op_lenS Tryz.underlying59 rfl) <| SL.v (op_lssF rfl rfl (by omega)) ?_
  refine SL.nil <| T.condF rfl <| T.skip <| T.seq <| T.seq <| T.region <| SL.v (op_assign (v := .int .i64 ((1 : Nat) : Int)) rfl) <| SL.nil <| T.block <| T.loopW (fun m env own X' => ∃ k : Nat, m = l.length - k ∧ 1 ≤ k ∧ k ≤ l.length ∧ X.le X' ∧ compactS (l.take k) = l.take k ∧ env = [(0, .slice (some ⟨b, 0, none⟩) l.length cap), (3, .int .i64 (k : Int))] ∧ own = ⟨b, strsC l, 9, cap * 1⟩ :: own0) (l.length - 1) ⟨1, rfl, by omega, by omega, PMap.le_refl _, by (match l, h0 with | a :: l, _ => rfl), rfl, rfl⟩ (by repeat (first | exact Sub.nil | refine Sub.cons rfl ?_)) ?_
  rintro m _ _ X1 ⟨k, rfl, hk1, hk, hX1, hcp, rfl, rfl⟩
  rcases Nat.lt_or_ge k l.length with hkl | hkl
  · obtain ⟨q, rfl⟩ : ∃ q, k = q + 1 := ⟨k - 1, by omega⟩
    obtain ⟨x, hx⟩ : ∃ x, l[q + 1]? = some x := ⟨_, List.getElem?_eq_getElem (by omega)⟩
    obtain ⟨p, hp⟩ : ∃ p, l[q]? = some p := ⟨_, List.getElem?_eq_getElem (by omega)⟩
    have hcs := compact_step hp hx
    refine T.seq <| T.seq <| T.region <| SL.mv rfl <| SL.mv rfl <| SL.v (op_lenS Tryz.underlying59 rfl) <| SL.v (op_lssT rfl rfl (by omega)) ?_
    refine SL.nil <| T.condT rfl <| T.skip <| T.seq <| T.block <| T.seq <| T.draw (by kernel_rfl) 10 [.t 0, .t 1, .t 2, .t 3, .t 4, .t 5, .t 6, .t 7, .t 8, .t 9] (by kernel_rfl) ?_
    refine SD.take rfl panicBody (op_move rfl) rfl rfl ?_
    refine SD.take rfl panicBody (op_move rfl) rfl rfl ?_
    refine SD.take rfl panicBody (op_indexN Tryz.underlying59 ty9 rfl rfl (by omega)) rfl rfl ?_
    refine SD.take rfl panicBody (op_load ty9 rfl (by repeat constructor) (cread1k' (strsC_at hx) (by omega))) rfl rfl ?_
    refine SD.take rfl panicBody (op_move rfl) rfl rfl ?_
    refine SD.take rfl panicBody (op_move rfl) rfl rfl ?_
    refine SD.take rfl panicBody (op_subN (q := 1) rfl rfl (by omega) (by omega)) rfl rfl ?_
    refine SD.take rfl panicBody (op_indexN Tryz.underlying59 ty9 rfl rfl (by omega)) rfl rfl ?_
    refine SD.take rfl panicBody (op_load ty9 rfl (by repeat constructor) (cread1k' (strsC_at hp) (by omega))) rfl rfl ?_
    refine SD.take rfl panicBody (op_eqlStrD rfl rfl) rfl rfl ?_
    refine SD.nil ?_
    show SL _ _ _ _ _ _ _ [] _ _ _
    refine SL.nil ?_
    by_cases hxp : x = p
    · rw [decide_eq_true hxp]
      rw [if_pos hxp.symm, List.append_nil] at hcs
      refine T.condT rfl <| T.seq <| T.region <| SL.mv rfl <| SL.mv rfl <| SL.v (op_sliceLoN (l := q + 1) Tryz.underlying59 ty9 rfl rfl rfl (by omega) (by omega) (by omega)) ?_
      refine SL.as rfl <| SL.nil <| T.seq <| T.seq <| T.region <| SL.v (op_assign (v := .int .i64 ((1 : Nat) : Int)) rfl) <| SL.nil <| T.block <| T.loopW (fun m env own X' => ∃ (k2 k : Nat) (cs : List ByteArray), m = l.length - (q + 1) - k2 ∧ 1 ≤ k2 ∧ k2 ≤ l.length - (q + 1) ∧ X1.le X' ∧ k ≤ q + k2 ∧ cs.length = l.length ∧ cs.take k = compactS (l.take (q + 1 + k2)) ∧ k = (compactS (l.take (q + 1 + k2))).length ∧ (∀ w, q + k2 ≤ w → cs[w]? = l[w]?) ∧ env = [(0, .slice (some ⟨b, 0, none⟩) l.length cap), (3, .int .i64 (k : Int)), (4, .slice (some ⟨b, 0 + (q + 1) * 1, none⟩) (l.length - (q + 1)) (cap - (q + 1))), (5, .int .i64 (k2 : Int))] ∧ own = ⟨b, strsC cs, 9, cap * 1⟩ :: own0) (l.length - (q + 1) - 1) ⟨1, q + 1, l, rfl, by omega, by omega, PMap.le_refl _, by omega, rfl, by rw [hcs, hcp], by rw [hcs, hcp, List.length_take]; omega, fun _ _ => rfl, rfl, rfl⟩ (by repeat (first | exact Sub.nil | refine Sub.cons rfl ?_)) ?_
      rintro m _ _ X2 ⟨k2, k, cs, rfl, hk21, hk2, hX2, hkk, hcl, hct, hkc, hun, rfl, rfl⟩
      rcases Nat.lt_or_ge k2 (l.length - (q + 1)) with hk3 | hk3
      · obtain ⟨x2, hx2⟩ : ∃ x, l[q + k2 + 1]? = some x := ⟨_, List.getElem?_eq_getElem (by omega)⟩
        obtain ⟨p2, hp2⟩ : ∃ p, l[q + k2]? = some p := ⟨_, List.getElem?_eq_getElem (by omega)⟩
        have hcs2 := compact_step hp2 hx2
        rw [show q + k2 + 2 = q + 1 + (k2 + 1) by omega, show q + k2 + 1 = q + 1 + k2 by omega] at hcs2
        have hx3 := (hun (q + k2 + 1) (by omega)).trans hx2
        have hp3 := (hun (q + k2) (by omega)).trans hp2
        refine T.seq <| T.seq <| T.region <| SL.mv rfl <| SL.mv rfl <| SL.v (op_lenS Tryz.underlying59 rfl) <| SL.v (op_lssT rfl rfl (by omega)) ?_
        refine SL.nil <| T.condT rfl <| T.skip <| T.seq <| T.block <| T.seq <| T.draw (by kernel_rfl) 10 [.t 0, .t 1, .t 2, .t 3, .t 4, .t 5, .t 6, .t 7, .t 8, .t 9] (by kernel_rfl) ?_
        refine SD.take rfl panicBody (op_move rfl) rfl rfl ?_
        refine SD.take rfl panicBody (op_move rfl) rfl rfl ?_
        refine SD.take rfl panicBody (op_indexN Tryz.underlying59 ty9 rfl rfl (by omega)) rfl rfl ?_
        refine SD.take rfl panicBody (op_load ty9 rfl (by repeat constructor) (cread1k' (strsC_at hx3) (by omega))) rfl rfl ?_
        refine SD.take rfl panicBody (op_move rfl) rfl rfl ?_
        refine SD.take rfl panicBody (op_move rfl) rfl rfl ?_
        refine SD.take rfl panicBody (op_subN (q := 1) rfl rfl (by omega) (by omega)) rfl rfl ?_
        refine SD.take rfl panicBody (op_indexN Tryz.underlying59 ty9 rfl rfl (by omega)) rfl rfl ?_
        refine SD.take rfl panicBody (op_load ty9 rfl (by repeat constructor) (cread1k' (strsC_at hp3) (by omega))) rfl rfl ?_
        refine SD.take rfl panicBody (op_neqStrD rfl rfl) rfl rfl ?_
        refine SD.nil ?_
        show SL _ _ _ _ _ _ _ [] _ _ _
        refine SL.nil ?_
        by_cases hxp2 : x2 = p2
        · rw [decide_eq_true hxp2, Bool.not_true]
          rw [if_pos hxp2.symm, List.append_nil] at hcs2
          refine T.condF rfl <| T.skip <| T.blk <| T.region <| SL.mv rfl <| SL.v (op_addN (q := 1) rfl rfl (by omega)) ?_
          refine SL.as rfl <| SL.nil ?_
          exact T.backW (l.length - (q + 1) - (k2 + 1)) (by omega) ⟨k2 + 1, k, cs, rfl, by omega, by omega, hX2, by omega, hcl, by rw [hcs2]; exact hct, by rw [hcs2]; exact hkc, fun w hw => hun w (by omega), rfl, rfl⟩ (by repeat (first | exact Sub.nil | refine Sub.cons rfl ?_))
        · rw [decide_eq_false hxp2, Bool.not_false]
          rw [if_neg fun h => hxp2 h.symm] at hcs2
          refine T.condT rfl <| T.seq <| T.region <| SL.mv rfl <| SL.mv rfl <| SL.mv rfl <| SL.mv rfl <| SL.v (op_indexN Tryz.underlying59 ty9 rfl rfl (by omega)) ?_
          refine SL.v (op_load ty9 rfl (by repeat constructor) (cread1k' (strsC_at hx3) (by omega))) ?_
          refine SL.v (op_indexN Tryz.underlying59 ty9 rfl rfl (by omega)) ?_
          refine SL.w (op_store ty9 rfl rfl (by repeat constructor) rfl rfl (Nat.ble_eq_true_of_le (by rw [strsC_len]; omega))) ?_
          rintro _ _ _ ⟨rfl, rfl⟩
          refine SL.perm (own' := ⟨b, strsC (cs.set k x2), 9, cap * 1⟩ :: own0) (List.Perm.of_eq (by rw [← strsC_set]; simp only [Nat.zero_add, Nat.mul_one]; rfl)) ?_
          refine SL.nil <| T.region <| SL.mv rfl <| SL.v (op_addN (q := 1) rfl rfl (by omega)) ?_
          refine SL.as rfl <| SL.nil <| T.blk <| T.region <| SL.mv rfl <| SL.v (op_addN (q := 1) rfl rfl (by omega)) ?_
          refine SL.as rfl <| SL.nil ?_
          exact T.backW (l.length - (q + 1) - (k2 + 1)) (by omega) ⟨k2 + 1, k + 1, cs.set k x2, rfl, by omega, by omega, hX2, by omega, by rw [List.length_set]; exact hcl, by rw [set_take (by omega) rfl, hct, hcs2], by rw [hcs2, List.length_append]; simp; omega, fun w hw => by rw [List.getElem?_set_ne (by omega)]; exact hun w (by omega), rfl, rfl⟩ (by repeat (first | exact Sub.nil | refine Sub.cons rfl ?_))
      · obtain rfl : k2 = l.length - (q + 1) := by omega
        have hfull : l.take (q + 1 + (l.length - (q + 1))) = l := List.take_of_length_le (by omega)
        rw [hfull] at hct hkc
        refine T.seq <| T.seq <| T.region <| SL.mv rfl <| SL.mv rfl <| SL.v (op_lenS Tryz.underlying59 rfl) <| SL.v (op_lssF rfl rfl (by omega)) ?_
        refine SL.nil <| T.condF rfl ?_
        refine T.exit (T.exitCode (T.exitCut (T.exitBlk ?_)))
        refine T.seq <| T.region <| SL.mv rfl <| SL.mv rfl <| SL.v (op_sliceLoN (l := k) Tryz.underlying59 ty9 rfl rfl rfl (by omega) (by omega) (by omega)) ?_
        refine SL.w (op_clear (zs := [.string ⟨#[]⟩]) Tryz.underlying59 (by obtain ⟨i, z, a, _, b, c⟩ := bs9; exact ⟨i, z, a, b, c⟩) rfl AtO.here (by omega) (by rw [strsC_len]; simp; omega) (by intro v hv; simp at hv; subst hv; rfl)) ?_
        rintro _ _ _ ⟨rfl, rfl⟩
        refine SL.perm (own' := ⟨b, strsC (compactS l) ++ zS (l.length - k), 9, cap * 1⟩ :: own0) (List.Perm.of_eq (by
          have e1 : strsC cs = strsC (compactS l) ++ strsC (cs.drop k) := by rw [← strsC_app, ← hct, List.take_append_drop]
          have e2 := csets_end (zS (l.length - k)) (strsC (compactS l)) (strsC (cs.drop k)) (by rw [strsC_len, zS_len, List.length_drop, hcl])
          rw [strsC_len, ← hkc] at e2
          rw [← e2, ← e1, show 0 + k * 1 = k by omega]
          rfl)) ?_
        refine SL.cut AtO.here ?_
        refine SL.nil <| T.seq <| T.region <| SL.mv rfl <| SL.mv rfl <| SL.v (op_sliceHiN (l := k) Tryz.underlying59 ty9 rfl rfl rfl (by omega)) ?_
        refine SL.as rfl <| SL.nil <| T.retM1 [⟨b, strsC (compactS l), 9, cap * 1⟩] rfl (ResIs.tmp rfl) (List.Perm.refl _) ?_
        exact ⟨hX1.trans' hX2, by rw [← hkc], rfl⟩
    · rw [decide_eq_false hxp]
      rw [if_neg fun h => hxp h.symm] at hcs
      refine T.condF rfl <| T.skip <| T.blk <| T.region <| SL.mv rfl <| SL.v (op_addN (q := 1) rfl rfl (by omega)) ?_
      refine SL.as rfl <| SL.nil ?_
      exact T.backW (l.length - (q + 1 + 1)) (by omega) ⟨q + 1 + 1, rfl, by omega, by omega, hX1, by rw [hcs, hcp, take_snoc hx], rfl, rfl⟩ (by repeat (first | exact Sub.nil | refine Sub.cons rfl ?_))
  · obtain rfl : k = l.length := by omega
    rw [List.take_length] at hcp
    refine T.seq <| T.seq <| T.region <| SL.mv rfl <| SL.mv rfl <| SL.v (op_lenS Tryz.underlying59 rfl) <| SL.v (op_lssF rfl rfl (by omega)) ?_
    refine SL.nil <| T.condF rfl ?_
    refine T.exit (T.exitCode (T.exitCut (T.exitBlk ?_)))
    refine T.seq <| T.region <| SL.mv rfl <| SL.as rfl <| SL.nil <| T.retM1 [⟨b, strsC l, 9, cap * 1⟩] rfl (ResIs.tmp rfl) (List.Perm.refl _) ?_
    exact ⟨hX1, by rw [hcp], by rw [hcp]⟩
/-- The names of an expression, as the program lists them: at most twelve. -/
theorem names_spec {X : PMap} {e : Ex} {r : Row4} (hw : wtE e < 100000000) (h : ExR .u8 X e r) (h1 : 0 < (allE e).length) (h12 : (allE e).length ≤ 12) : Spec Tryz.prog 35 [.agg #[r.1, r.2.1, r.2.2.1, r.2.2.2]] X fun u X' => ∃ l' : List ByteArray, l'.Perm (allE e) ∧ AscS l' ∧ RowR strC X' u (compactS l') := by
  obtain ⟨_, _, _, _, _, _, _, _, rfl⟩ := h.form
  have hmx : maxLen = 9223372036854775807 := rfl
  refine Spec.enter Tryz.func35 rfl Tryz.ntmps35 rfl ?_
  intro w0 hw0
  refine T.seq <| T.region <| SL.w (op_box rfl) ?_
  rintro _ _ _ ⟨B1, rfl, rfl, rfl⟩
  refine SL.as rfl <| SL.nil <| T.seq <| T.region <| SL.v (op_load ty70 rfl (by repeat constructor) rfl) ?_
  refine SL.w (op_callM en81 (vs := [_, _]) rfl (gather_spec _ (Nat.le_refl _) (l := []) (by simp; omega) h GrowS.nil) rfl) ?_
  rintro lv _ X1 ⟨G, rfl, hX1, hG⟩
  rw [List.nil_append] at hG
  obtain ⟨b, cap, rfl, rfl, hc1, hc2⟩ := hG.pos h1
  refine SL.as rfl <| SL.nil <| T.seq <| T.region <| SL.mv rfl <| SL.w (op_callM en82 (vs := [_]) rfl (sort_spec h1 h12) rfl) ?_
  rintro _ _ X2 ⟨_, rfl, hX2, l', rfl, hp, ha⟩
  have hpl := hp.length_eq
  rw [← hpl]
  refine SL.nil <| T.seq <| T.region <| SL.mv rfl <| SL.w (op_callM en83 (vs := [_]) rfl (compact_spec (by omega) (by omega) (by omega)) rfl) ?_
  rintro _ _ X3 ⟨_, rfl, hX3, rfl, rfl⟩
  refine SL.as rfl <| SL.nil <| T.pub b (by repeat constructor) ?_
  intro X4 hX4 hB4 _
  refine T.ret1 rfl (ResIs.tmp rfl) ?_
  refine ⟨l', hp, ha, ?_⟩
  rcases Nat.eq_zero_or_pos (compactS l').length with h0 | h0
  · rw [h0]
    exact .inl ⟨List.eq_nil_of_length_eq_zero h0, _, _, rfl⟩
  · have := compact_len l'
    exact .inr ⟨h0, b, cap, [], rfl, by rw [strsC_flat]; exact hB4, by omega, by omega⟩
end Go.Proofs.YtnpcilglilfajaaGreatDoor
namespace Go.Proofs.YtnpcilglilfajaaGreatDoor
section
set_option maxRecDepth 100000
theorem en144 : Enters Tryz.prog 144 := enters_mk Tryz.func144 (by kernel_rfl) rfl
theorem en145 : Enters Tryz.prog 145 := enters_mk Tryz.func145 (by kernel_rfl) rfl
theorem en146 : Enters Tryz.prog 146 := enters_mk Tryz.func146 (by kernel_rfl) rfl
theorem en147 : Enters Tryz.prog 147 := enters_mk Tryz.func147 (by kernel_rfl) rfl
theorem en182 : Enters Tryz.prog 182 := enters_mk Tryz.func182 (by kernel_rfl) rfl
theorem ty229 : Ty Tryz.prog 229 false 1 := ⟨⟨_, Tryz.underlying229, rfl⟩, by kernel_rfl⟩
theorem z229 : Zero Tryz.prog 229 [.nilFunc] := ⟨zero_of (by kernel_rfl)⟩
end
open Go.RowKit
theorem letter_spec {X : PMap} (b : UInt8) : Spec Tryz.prog 146 [.int .u8 (b.toNat : Int)] X fun u _ => u = .bool (letB b) := by
  have hb : b.toNat < 256 := b.toNat_lt
  by_cases h1 : 97 ≤ b.toNat
  · by_cases h2 : b.toNat ≤ 122
    · refine Spec.enter Tryz.func146 rfl Tryz.ntmps146 rfl ?_
      intro w0 hw0
      refine T.seq <| T.region <| SL.as rfl <| SL.nil <| T.seq <| T.region <| SL.mv rfl <| SL.v (op_geqT rfl rfl (by omega)) ?_
      refine SL.mv rfl <| SL.mv rfl <| SL.v (op_leqT rfl rfl (by omega)) ?_
      refine SL.v (op_pickT rfl rfl) <| SL.as rfl <| SL.nil <| T.ret1 rfl (ResIs.tmp rfl) ?_
      rw [letB, decide_eq_true ⟨h1, h2⟩]
    · refine Spec.enter Tryz.func146 rfl Tryz.ntmps146 rfl ?_
      intro w0 hw0
      refine T.seq <| T.region <| SL.as rfl <| SL.nil <| T.seq <| T.region <| SL.mv rfl <| SL.v (op_geqT rfl rfl (by omega)) ?_
      refine SL.mv rfl <| SL.mv rfl <| SL.v (op_leqF rfl rfl (by omega)) ?_
      refine SL.v (op_pickT rfl rfl) <| SL.as rfl <| SL.nil <| T.ret1 rfl (ResIs.tmp rfl) ?_
      rw [letB, decide_eq_false fun h => h2 h.2]
  · refine Spec.enter Tryz.func146 rfl Tryz.ntmps146 rfl ?_
    intro w0 hw0
    refine T.seq <| T.region <| SL.as rfl <| SL.nil <| T.seq <| T.region <| SL.mv rfl <| SL.v (op_geqF rfl rfl (by omega)) ?_
    refine SL.mv rfl <| SL.skip rfl rfl ?_
    refine SL.skip rfl rfl ?_
    refine SL.v (op_pickF rfl rfl) <| SL.as rfl <| SL.nil <| T.ret1 rfl (ResIs.tmp rfl) ?_
    rw [letB, decide_eq_false fun h => h1 h.1]
theorem inner_spec {X : PMap} {B : Nat} (hB : Blk X B [.func (.func 146) #[] #[]]) (b : UInt8) : Spec Tryz.prog 147 [.int .u8 (b.toNat : Int), .pointer (some ⟨B, 0, none⟩)] X fun u _ => u = .bool (innB b) := by
  have hb : b.toNat < 256 := b.toNat_lt
  by_cases h1 : 97 ≤ b.toNat ∧ b.toNat ≤ 122
  · refine Spec.enter Tryz.func147 rfl Tryz.ntmps147 rfl ?_
    intro w0 hw0
    refine T.seq <| T.region <| SL.as rfl <| SL.nil <| T.seq <| T.region <| SL.v (op_loadX ty229 rfl hB rfl) <| SL.mv rfl <| SL.w (op_call en146 rfl (vs := [_]) rfl (letter_spec b)) ?_
    rintro _ _ X2 ⟨rfl, hX2, rfl⟩
    rw [show letB b = true from decide_eq_true h1]
    refine SL.mv rfl <| SL.skip rfl rfl ?_
    refine SL.skip rfl rfl ?_
    refine SL.skip rfl rfl ?_
    refine SL.skip rfl rfl ?_
    refine SL.skip rfl rfl ?_
    refine SL.skip rfl rfl ?_
    refine SL.v (op_pickT rfl rfl) <| SL.mv rfl <| SL.skip rfl rfl ?_
    refine SL.skip rfl rfl ?_
    refine SL.v (op_pickT rfl rfl) <| SL.as rfl <| SL.nil <| T.ret1 rfl (ResIs.tmp rfl) ?_
    rw [innB, decide_eq_true (.inl h1)]
  · by_cases h2 : 48 ≤ b.toNat
    · by_cases h3 : b.toNat ≤ 57
      · refine Spec.enter Tryz.func147 rfl Tryz.ntmps147 rfl ?_
        intro w0 hw0
        refine T.seq <| T.region <| SL.as rfl <| SL.nil <| T.seq <| T.region <| SL.v (op_loadX ty229 rfl hB rfl) <| SL.mv rfl <| SL.w (op_call en146 rfl (vs := [_]) rfl (letter_spec b)) ?_
        rintro _ _ X2 ⟨rfl, hX2, rfl⟩
        rw [show letB b = false from decide_eq_false h1]
        refine SL.mv rfl <| SL.mv rfl <| SL.v (op_geqT rfl rfl (by omega)) ?_
        refine SL.mv rfl <| SL.mv rfl <| SL.v (op_leqT rfl rfl (by omega)) ?_
        refine SL.v (op_pickT rfl rfl) <| SL.v (op_pickF rfl rfl) <| SL.mv rfl <| SL.skip rfl rfl ?_
        refine SL.skip rfl rfl ?_
        refine SL.v (op_pickT rfl rfl) <| SL.as rfl <| SL.nil <| T.ret1 rfl (ResIs.tmp rfl) ?_
        rw [innB, decide_eq_true (.inr (.inl ⟨h2, h3⟩))]
      · by_cases h4 : b.toNat = 95
        · refine Spec.enter Tryz.func147 rfl Tryz.ntmps147 rfl ?_
          intro w0 hw0
          refine T.seq <| T.region <| SL.as rfl <| SL.nil <| T.seq <| T.region <| SL.v (op_loadX ty229 rfl hB rfl) <| SL.mv rfl <| SL.w (op_call en146 rfl (vs := [_]) rfl (letter_spec b)) ?_
          rintro _ _ X2 ⟨rfl, hX2, rfl⟩
          rw [show letB b = false from decide_eq_false h1]
          refine SL.mv rfl <| SL.mv rfl <| SL.v (op_geqT rfl rfl (by omega)) ?_
          refine SL.mv rfl <| SL.mv rfl <| SL.v (op_leqF rfl rfl (by omega)) ?_
          refine SL.v (op_pickT rfl rfl) <| SL.v (op_pickF rfl rfl) <| SL.mv rfl <| SL.mv rfl <| SL.v (op_eqlT rfl rfl (by omega)) ?_
          refine SL.v (op_pickF rfl rfl) <| SL.as rfl <| SL.nil <| T.ret1 rfl (ResIs.tmp rfl) ?_
          rw [innB, decide_eq_true (.inr (.inr h4))]
        · refine Spec.enter Tryz.func147 rfl Tryz.ntmps147 rfl ?_
          intro w0 hw0
          refine T.seq <| T.region <| SL.as rfl <| SL.nil <| T.seq <| T.region <| SL.v (op_loadX ty229 rfl hB rfl) <| SL.mv rfl <| SL.w (op_call en146 rfl (vs := [_]) rfl (letter_spec b)) ?_
          rintro _ _ X2 ⟨rfl, hX2, rfl⟩
          rw [show letB b = false from decide_eq_false h1]
          refine SL.mv rfl <| SL.mv rfl <| SL.v (op_geqT rfl rfl (by omega)) ?_
          refine SL.mv rfl <| SL.mv rfl <| SL.v (op_leqF rfl rfl (by omega)) ?_
          refine SL.v (op_pickT rfl rfl) <| SL.v (op_pickF rfl rfl) <| SL.mv rfl <| SL.mv rfl <| SL.v (op_eqlF rfl rfl (by omega)) ?_
          refine SL.v (op_pickF rfl rfl) <| SL.as rfl <| SL.nil <| T.ret1 rfl (ResIs.tmp rfl) ?_
          rw [innB, decide_eq_false (by omega)]
    · refine Spec.enter Tryz.func147 rfl Tryz.ntmps147 rfl ?_
      intro w0 hw0
      refine T.seq <| T.region <| SL.as rfl <| SL.nil <| T.seq <| T.region <| SL.v (op_loadX ty229 rfl hB rfl) <| SL.mv rfl <| SL.w (op_call en146 rfl (vs := [_]) rfl (letter_spec b)) ?_
      rintro _ _ X2 ⟨rfl, hX2, rfl⟩
      rw [show letB b = false from decide_eq_false h1]
      refine SL.mv rfl <| SL.mv rfl <| SL.v (op_geqF rfl rfl (by omega)) ?_
      refine SL.mv rfl <| SL.skip rfl rfl ?_
      refine SL.skip rfl rfl ?_
      refine SL.v (op_pickF rfl rfl) <| SL.v (op_pickF rfl rfl) <| SL.mv rfl <| SL.mv rfl <| SL.v (op_eqlF rfl rfl (by omega)) ?_
      refine SL.v (op_pickF rfl rfl) <| SL.as rfl <| SL.nil <| T.ret1 rfl (ResIs.tmp rfl) ?_
      rw [innB, decide_eq_false (by omega)]
theorem keyws_spec {X : PMap} : Spec Tryz.prog 145 [] X fun u X' => RowR strC X' u keyws := by
  refine Spec.enter Tryz.func145 rfl Tryz.ntmps145 rfl ?_
  intro w0 hw0
  refine T.seq <| T.region <| SL.as rfl <| SL.nil <| T.seq <| T.region <| SL.w (op_buildSlice Tryz.underlying59 bs9 (qs := [(0, _), (1, _), (2, _), (3, _), (4, _), (5, _), (6, _), (7, _), (8, _), (9, _), (10, _), (11, _), (12, _), (13, _), (14, _), (15, _), (16, _), (17, _), (18, _), (19, _)]) rfl rfl rfl rfl rfl) ?_
  rintro _ _ _ ⟨B1, rfl, rfl, rfl⟩
  refine SL.as rfl <| SL.nil <| T.pub B1 (by repeat constructor) ?_
  intro X1 hX1 hB1 _
  refine T.ret1 rfl (ResIs.tmp rfl) ?_
  exact .inr ⟨by decide, _, _, [], rfl, hB1, by decide, by decide⟩
theorem sindex_spec {X : PMap} {v : Value} {l : List ByteArray} {s : ByteArray} (h : RowR strC X v l) : Spec Tryz.prog 182 [v, .string s] X fun u _ => ∃ k : Int, u = .int .i64 k ∧ (0 ≤ k ↔ s ∈ l) := by
  obtain ⟨A, cp, rfl⟩ := h.form
  have hmx : l = [] ∨ l.length ≤ maxLen := by
    rcases Nat.eq_zero_or_pos l.length with h0 | h0
    · exact .inl (List.eq_nil_of_length_eq_zero h0)
    · have := h.cap h0; exact .inr (by omega)
  have hmx : l.length ≤ maxLen := by
    rcases hmx with rfl | h
    · simp
    · exact h
  have hmv : maxLen = 9223372036854775807 := rfl
  refine Spec.enter Tryz.func182 rfl Tryz.ntmps182 rfl ?_
  intro w0 hw0
  refine T.seq <| T.region <| SL.v (op_assign (v := .int .i64 ((0 : Nat) : Int)) rfl) <| SL.nil <| T.seq <| T.seq <| T.region <| SL.mv rfl <| SL.v (op_lenS Tryz.underlying59 rfl) <| SL.v (op_move (v := .int .i64 ((0 : Nat) : Int)) rfl) <| SL.nil <| T.block <| T.loopW (fun m env own X' => ∃ i : Nat, m = l.length - i ∧ i ≤ l.length ∧ X.le X' ∧ (∀ q x, q < i → l[q]? = some x → x ≠ s) ∧ env = [(0, .slice A l.length cp), (1, .string s), (7, .int .i64 (l.length : Int)), (8, .int .i64 (i : Int))] ∧ own = []) l.length ⟨0, by simp, by omega, PMap.le_refl _, fun q x hq => absurd hq (by omega), rfl, rfl⟩ (by repeat (first | exact Sub.nil | refine Sub.cons rfl ?_)) ?_
  rintro m _ _ X1 ⟨i, rfl, hi, hX1, hne, rfl, rfl⟩
  rcases Nat.lt_or_ge i l.length with hil | hil
  · obtain ⟨x, hx⟩ : ∃ x, l[i]? = some x := ⟨_, List.getElem?_eq_getElem hil⟩
    obtain ⟨b, pre, rfl, hB⟩ := h.blk (by omega)
    refine T.seq <| T.region <| SL.v (op_lssT rfl rfl (by omega)) ?_
    refine SL.nil <| T.seq <| T.condT rfl <| T.skip <| T.seq <| T.block <| T.seq <| T.region <| SL.mv rfl <| SL.as rfl <| SL.nil <| T.seq <| T.region <| SL.mv rfl <| SL.mv rfl ?_
    refine SL.mv rfl <| SL.v (op_indexN Tryz.underlying59 ty9 rfl rfl (by omega)) ?_
    refine SL.v (op_loadX ty9 rfl (hB.mono hX1) (str_read hx (by omega))) ?_
    refine SL.v (op_eqlStrD rfl rfl) <| SL.nil ?_
    by_cases hc : s = x
    · rw [decide_eq_true hc]
      refine T.condT rfl <| T.seq <| T.region <| SL.mv rfl <| SL.as rfl <| SL.nil <| T.ret1 rfl (ResIs.tmp rfl) ?_
      exact ⟨_, rfl, fun _ => hc ▸ List.mem_of_getElem? hx, fun _ => by omega⟩
    · rw [decide_eq_false hc]
      refine T.condF rfl <| T.skip <| T.blk <| T.region <| SL.v (op_addN (q := 1) rfl rfl (by omega)) ?_
      refine SL.mv rfl <| SL.nil ?_
      have hne2 : ∀ (q : Nat) (y : ByteArray), q < i + 1 → l[q]? = some y → y ≠ s := fun q y hq hy => by
        rcases Nat.lt_or_ge q i with h1 | h1
        · exact hne q y h1 hy
        · obtain rfl : q = i := by omega
          rw [hx] at hy; cases hy; exact fun h => hc h.symm
      exact T.backW (l.length - (i + 1)) (by omega) ⟨i + 1, rfl, by omega, hX1, hne2, rfl, rfl⟩ (by repeat (first | exact Sub.nil | refine Sub.cons rfl ?_))
  · refine T.seq <| T.region <| SL.v (op_lssF rfl rfl (by omega)) ?_
    refine SL.nil <| T.seq <| T.condF rfl ?_
    refine T.exit (T.exitCode (T.exitCut (T.exitBlk ?_)))
    refine T.seq <| T.region <| SL.as rfl <| SL.nil <| T.ret1 rfl (ResIs.tmp rfl) ?_
    refine ⟨_, rfl, fun h => absurd h (by omega), fun hm => ?_⟩
    obtain ⟨q, hq⟩ := List.mem_iff_getElem?.1 hm
    have h1 := (List.getElem?_eq_some_iff.1 hq).1
    exact absurd rfl (hne q s (by omega) hq)
theorem scontains_spec {X : PMap} {v : Value} {l : List ByteArray} {s : ByteArray} (h : RowR strC X v l) : Spec Tryz.prog 144 [v, .string s] X fun u _ => u = .bool (decide (s ∈ l)) := by
  obtain ⟨A, cp, rfl⟩ := h.form
  refine Spec.enter Tryz.func144 rfl Tryz.ntmps144 rfl ?_
  intro w0 hw0
  refine T.seq <| T.region <| SL.as rfl <| SL.nil <| T.seq <| T.region <| SL.mv rfl <| SL.mv rfl <| SL.w (op_callF en182 (vs := [_, _]) rfl (sindex_spec h)) ?_
  rintro _ _ X1 ⟨rfl, hX1, k, rfl, hk⟩
  refine SL.v (op_geq rfl rfl) <| SL.as rfl <| SL.nil <| T.ret1 rfl (ResIs.tmp rfl) ?_
  simp only [hk]
theorem nvalid_spec {X : PMap} {s : ByteArray} : Spec Tryz.prog 94 [.string s] X fun u _ => u = .bool (decide (validS s)) := by
  by_cases h1 : s.size = 0
  · refine Spec.enter Tryz.func94 rfl Tryz.ntmps94 rfl ?_
    intro w0 hw0
    refine T.seq <| T.region <| SL.as rfl <| SL.nil <| T.seq <| T.seq <| T.region <| SL.mv rfl <| SL.v (op_lenStr Tryz.underlying9 rfl) <| SL.v (op_eqlT rfl rfl (by omega)) ?_
    refine SL.mv rfl <| SL.skip rfl rfl ?_
    refine SL.skip rfl rfl ?_
    refine SL.skip rfl rfl ?_
    refine SL.v (op_pickT rfl rfl) <| SL.mv rfl <| SL.skip rfl rfl ?_
    refine SL.skip rfl rfl ?_
    refine SL.skip rfl rfl ?_
    refine SL.v (op_pickT rfl rfl) <| SL.nil <| T.condT rfl <| T.seq <| T.region <| SL.as rfl <| SL.nil <| T.ret1 rfl (ResIs.tmp rfl) ?_
    rw [decide_eq_false fun h => h.1 h1]
  by_cases h2 : 12 < s.size
  · refine Spec.enter Tryz.func94 rfl Tryz.ntmps94 rfl ?_
    intro w0 hw0
    refine T.seq <| T.region <| SL.as rfl <| SL.nil <| T.seq <| T.seq <| T.region <| SL.mv rfl <| SL.v (op_lenStr Tryz.underlying9 rfl) <| SL.v (op_eqlF rfl rfl (by omega)) ?_
    refine SL.mv rfl <| SL.mv rfl <| SL.v (op_lenStr Tryz.underlying9 rfl) <| SL.v (op_gtrT rfl rfl (by omega)) ?_
    refine SL.v (op_pickF rfl rfl) <| SL.mv rfl <| SL.skip rfl rfl ?_
    refine SL.skip rfl rfl ?_
    refine SL.skip rfl rfl ?_
    refine SL.v (op_pickT rfl rfl) <| SL.nil <| T.condT rfl <| T.seq <| T.region <| SL.as rfl <| SL.nil <| T.ret1 rfl (ResIs.tmp rfl) ?_
    rw [decide_eq_false fun h => by have := h.2.1; omega]
  refine Spec.enter Tryz.func94 rfl Tryz.ntmps94 rfl ?_
  intro w0 hw0
  refine T.seq <| T.region <| SL.as rfl <| SL.nil <| T.seq <| T.seq <| T.region <| SL.mv rfl <| SL.v (op_lenStr Tryz.underlying9 rfl) <| SL.v (op_eqlF rfl rfl (by omega)) ?_
  refine SL.mv rfl <| SL.mv rfl <| SL.v (op_lenStr Tryz.underlying9 rfl) <| SL.v (op_gtrF rfl rfl (by omega)) ?_
  refine SL.v (op_pickF rfl rfl) <| SL.mv rfl <| SL.w (op_callF en145 (vs := []) rfl (keyws_spec)) ?_
  rintro kv _ X1 ⟨rfl, hX1, hkv⟩
  obtain ⟨Ak, ck, rfl⟩ := hkv.form
  refine SL.mv rfl <| SL.w (op_callF en144 (vs := [_, _]) rfl (scontains_spec hkv)) ?_
  rintro _ _ X2 ⟨rfl, hX2, rfl⟩
  by_cases h3 : s ∈ keyws
  · rw [decide_eq_true h3]
    refine SL.v (op_pickF rfl rfl) <| SL.nil <| T.condT rfl <| T.seq <| T.region <| SL.as rfl <| SL.nil <| T.ret1 rfl (ResIs.tmp rfl) ?_
    rw [decide_eq_false fun h => h.2.2.1 h3]
  rw [decide_eq_false h3]
  refine SL.v (op_pickF rfl rfl) <| SL.nil <| T.condF rfl <| T.skip <| T.seq <| T.region <| SL.w (op_alloc z229) ?_
  rintro _ _ _ ⟨B3, rfl, rfl, rfl⟩
  refine SL.w (op_store ty229 rfl rfl (by repeat constructor) rfl rfl rfl) ?_
  rintro _ _ _ ⟨rfl, rfl⟩
  refine SL.nil <| T.seq <| T.region <| SL.v (op_makeFunc (vs := []) (us := [_]) rfl rfl) <| SL.as rfl <| SL.nil <| T.seq <| T.seq <| T.region <| SL.mv rfl <| SL.v (op_lenStr Tryz.underlying9 rfl) <| SL.v (op_move (v := .int .i64 ((0 : Nat) : Int)) rfl) <| SL.nil <| T.block <| T.pub B3 (by repeat constructor) ?_
  intro X3 hX3 hB3 _
  refine T.loopW (fun m env own X' => ∃ i : Nat, m = s.size - i ∧ i ≤ s.size ∧ X3.le X' ∧ (∀ q b, q < i → s[q]? = some b → innB b = true ∧ (q = 0 → letB b = true)) ∧ env = [(0, .string s), (3, .pointer (some ⟨B3, 0, none⟩)), (4, .func (.func 147) #[] #[.pointer (some ⟨B3, 0, none⟩)]), (21, .int .i64 (s.size : Int)), (22, .int .i64 (i : Int))] ∧ own = []) s.size ⟨0, by simp, by omega, PMap.le_refl _, fun q x hq => absurd hq (by omega), rfl, rfl⟩ (by repeat (first | exact Sub.nil | refine Sub.cons rfl ?_)) ?_
  rintro m _ _ X4 ⟨i, rfl, hi, hX4, hin, rfl, rfl⟩
  rcases Nat.lt_or_ge i s.size with hil | hil
  · obtain ⟨b, hb⟩ : ∃ b, s[i]? = some b := ⟨_, ByteArray.getElem?_lt' s i hil⟩
    have hgo : innB b = true → (i = 0 → letB b = true) → ∀ q b, q < i + 1 → s[q]? = some b → innB b = true ∧ (q = 0 → letB b = true) := fun g1 g2 q c hq hc => by
      rcases Nat.lt_or_ge q i with h | h
      · exact hin q c h hc
      · obtain rfl : q = i := by omega
        rw [hb] at hc; cases hc; exact ⟨g1, g2⟩
    have hB4 := hB3.mono hX4
    refine T.seq <| T.region <| SL.v (op_lssT rfl rfl (by omega)) ?_
    refine SL.nil <| T.seq <| T.condT rfl <| T.skip <| T.seq <| T.block <| T.seq <| T.region <| SL.mv rfl <| SL.as rfl <| SL.nil <| T.seq <| T.draw (by kernel_rfl) 18 [.t 0, .t 1, .t 2, .t 3, .r 4, .t 5, .t 6, .t 7, .t 8, .t 9, .t 10, .t 11, .t 12, .t 13, .r 14, .t 15, .t 16, .t 17] (by kernel_rfl) ?_
    refine SD.take rfl panicBody (op_move rfl) rfl rfl ?_
    refine SD.take rfl panicBody (op_move rfl) rfl rfl ?_
    refine SD.take rfl panicBody (op_move rfl) rfl rfl ?_
    refine SD.take rfl panicBody (op_idxStr Tryz.underlying9 rfl rfl rfl hb) rfl rfl ?_
    refine SD.run rfl (op_call en147 rfl (vs := [_]) rfl (inner_spec hB4 b)) rfl rfl ?_
    rintro _ _ X5 ⟨rfl, hX5, rfl⟩
    cases hib : innB b with
    | false =>
      refine SD.take rfl panicBody (op_not rfl) rfl rfl ?_
      refine SD.take rfl panicBody (op_move rfl) rfl rfl ?_
      refine SD.skip rfl panicBody rfl rfl ?_
      refine SD.skip rfl panicBody rfl rfl ?_
      refine SD.skip rfl panicBody rfl rfl ?_
      refine SD.skip rfl panicBody rfl rfl ?_
      refine SD.skip rfl panicBody rfl rfl ?_
      refine SD.skip rfl panicBody rfl rfl ?_
      refine SD.skip rfl panicBody rfl rfl ?_
      refine SD.skipF rfl rfl rfl ?_
      refine SD.skip rfl panicBody rfl rfl ?_
      refine SD.skip rfl panicBody rfl rfl ?_
      refine SD.take rfl panicBody (op_pickT rfl rfl) rfl rfl ?_
      refine SD.nil ?_
      show SL _ _ _ _ _ _ _ [] _ _ _
      refine SL.nil <| T.condT rfl <| T.seq <| T.region <| SL.as rfl <| SL.nil <| T.ret1 rfl (ResIs.tmp rfl) ?_
      rw [decide_eq_false fun h => by have := (h.2.2.2 i b (by omega) hb).1; rw [hib] at this; cases this]
    | true =>
      by_cases h0 : i = 0
      · subst h0
        refine SD.take rfl panicBody (op_not rfl) rfl rfl ?_
        refine SD.take rfl panicBody (op_move rfl) rfl rfl ?_
        refine SD.take rfl panicBody (op_move rfl) rfl rfl ?_
        refine SD.take rfl panicBody (op_eqlT rfl rfl (by omega)) rfl rfl ?_
        refine SD.take rfl panicBody (op_move rfl) rfl rfl ?_
        refine SD.take rfl panicBody (op_loadX ty229 rfl hB4 rfl) rfl rfl ?_
        refine SD.take rfl panicBody (op_move rfl) rfl rfl ?_
        refine SD.take rfl panicBody (op_move rfl) rfl rfl ?_
        refine SD.take rfl panicBody (op_idxStr Tryz.underlying9 rfl rfl rfl hb) rfl rfl ?_
        refine SD.run rfl (op_call en146 rfl (vs := [_]) rfl (letter_spec b)) rfl rfl ?_
        rintro _ _ X6 ⟨rfl, hX6, rfl⟩
        cases hlb : letB b with
        | false =>
          refine SD.take rfl panicBody (op_not rfl) rfl rfl ?_
          refine SD.take rfl panicBody (op_pickT rfl rfl) rfl rfl ?_
          refine SD.take rfl panicBody (op_pickF rfl rfl) rfl rfl ?_
          refine SD.nil ?_
          show SL _ _ _ _ _ _ _ [] _ _ _
          refine SL.nil <| T.condT rfl <| T.seq <| T.region <| SL.as rfl <| SL.nil <| T.ret1 rfl (ResIs.tmp rfl) ?_
          rw [decide_eq_false fun h => by have := (h.2.2.2 0 b (by omega) hb).2 rfl; rw [hlb] at this; cases this]
        | true =>
          refine SD.take rfl panicBody (op_not rfl) rfl rfl ?_
          refine SD.take rfl panicBody (op_pickT rfl rfl) rfl rfl ?_
          refine SD.take rfl panicBody (op_pickF rfl rfl) rfl rfl ?_
          refine SD.nil ?_
          show SL _ _ _ _ _ _ _ [] _ _ _
          refine SL.nil <| T.condF rfl <| T.skip <| T.blk <| T.region <| SL.v (op_addN (q := 1) rfl rfl (by omega)) ?_
          refine SL.mv rfl <| SL.nil ?_
          exact T.backW (s.size - (0 + 1)) (by omega) ⟨0 + 1, rfl, by omega, (hX4.trans' hX5).trans' hX6, hgo hib fun _ => hlb, rfl, rfl⟩ (by repeat (first | exact Sub.nil | refine Sub.cons rfl ?_))
      · refine SD.take rfl panicBody (op_not rfl) rfl rfl ?_
        refine SD.take rfl panicBody (op_move rfl) rfl rfl ?_
        refine SD.take rfl panicBody (op_move rfl) rfl rfl ?_
        refine SD.take rfl panicBody (op_eqlF rfl rfl (by omega)) rfl rfl ?_
        refine SD.take rfl panicBody (op_move rfl) rfl rfl ?_
        refine SD.skip rfl panicBody rfl rfl ?_
        refine SD.skip rfl panicBody rfl rfl ?_
        refine SD.skip rfl panicBody rfl rfl ?_
        refine SD.skip rfl panicBody rfl rfl ?_
        refine SD.skipF rfl rfl rfl ?_
        refine SD.skip rfl panicBody rfl rfl ?_
        refine SD.take rfl panicBody (op_pickF rfl rfl) rfl rfl ?_
        refine SD.take rfl panicBody (op_pickF rfl rfl) rfl rfl ?_
        refine SD.nil ?_
        show SL _ _ _ _ _ _ _ [] _ _ _
        refine SL.nil <| T.condF rfl <| T.skip <| T.blk <| T.region <| SL.v (op_addN (q := 1) rfl rfl (by omega)) ?_
        refine SL.mv rfl <| SL.nil ?_
        exact T.backW (s.size - (i + 1)) (by omega) ⟨i + 1, rfl, by omega, hX4.trans' hX5, hgo hib fun h => absurd h h0, rfl, rfl⟩ (by repeat (first | exact Sub.nil | refine Sub.cons rfl ?_))
  · refine T.seq <| T.region <| SL.v (op_lssF rfl rfl (by omega)) ?_
    refine SL.nil <| T.seq <| T.condF rfl ?_
    refine T.exit (T.exitCode (T.exitCut (T.exitBlk ?_)))
    refine T.seq <| T.region <| SL.as rfl <| SL.nil <| T.ret1 rfl (ResIs.tmp rfl) ?_
    rw [decide_eq_true (show validS s from ⟨h1, by omega, h3, fun k b _ hb => hin k b (by have := ByteArray.getElem?_ge' s k; rcases Nat.lt_or_ge k s.size with h | h; omega; rw [this (by omega)] at hb; cases hb) hb⟩)]
end Go.Proofs.YtnpcilglilfajaaGreatDoor
namespace Go.Proofs.YtnpcilglilfajaaGreatDoor
section
set_option maxRecDepth 100000
theorem en123 : Enters Tryz.prog 123 := enters_mk Tryz.func123 (by kernel_rfl) rfl
theorem en163 : Enters Tryz.prog 163 := enters_mk Tryz.func163 (by kernel_rfl) rfl
theorem en164 : Enters Tryz.prog 164 := enters_mk Tryz.func164 (by kernel_rfl) rfl
theorem en165 : Enters Tryz.prog 165 := enters_mk Tryz.func165 (by kernel_rfl) rfl
theorem en166 : Enters Tryz.prog 166 := enters_mk Tryz.func166 (by kernel_rfl) rfl
theorem en193 : Enters Tryz.prog 193 := enters_mk Tryz.func193 (by kernel_rfl) rfl
theorem en35 : Enters Tryz.prog 35 := enters_mk Tryz.func35 (by kernel_rfl) rfl
theorem en94 : Enters Tryz.prog 94 := enters_mk Tryz.func94 (by kernel_rfl) rfl
theorem fa70_0 : FAdr Tryz.prog 70 0 0 := fadr_mk Tryz.underlying70 rfl rfl (by kernel_rfl)
theorem fa70_1 : FAdr Tryz.prog 70 1 1 := fadr_mk Tryz.underlying70 rfl rfl (by kernel_rfl)
theorem st70 : StT Tryz.prog 70 [(0, 1), (1, 1), (2, 1), (3, 1)] [.int .u8 0, .int .i64 0, .slice none 0 0, .slice none 0 0] := ⟨⟨_, Tryz.underlying70, fun _ => by kernel_rfl, z70⟩⟩
theorem ty33 : Ty Tryz.prog 33 false 1 := ⟨⟨_, Tryz.underlying33, rfl⟩, by kernel_rfl⟩
end
open Go.RowKit
section
variable {op k : Nat} {n : Int} {ns : List ByteArray}
theorem own1 (h : op < 1 ∨ 16 < op ∨ k ≠ argN op) : ownE op n ns k = 1 := by rw [ownE, if_pos h]
theorem own6 (h : ¬(op < 1 ∨ 16 < op ∨ k ≠ argN op)) (h2 : (n ≠ 0 ∧ op ≠ 1) ∨ ¬namN op ns.length) : ownE op n ns k = 6 := by rw [ownE, if_neg h, if_pos h2]
theorem own9 (h : ¬(op < 1 ∨ 16 < op ∨ k ≠ argN op)) (h2 : ¬((n ≠ 0 ∧ op ≠ 1) ∨ ¬namN op ns.length)) (h3 : ¬∀ s ∈ ns, validS s) : ownE op n ns k = 9 := by rw [ownE, if_neg h, if_neg h2, if_pos h3]
theorem own5 (h : ¬(op < 1 ∨ 16 < op ∨ k ≠ argN op)) (h2 : ¬((n ≠ 0 ∧ op ≠ 1) ∨ ¬namN op ns.length)) (h3 : ∀ s ∈ ns, validS s) (h4 : ¬ns.Nodup) : ownE op n ns k = 5 := by rw [ownE, if_neg h, if_neg h2, if_neg fun h => h h3, if_pos h4]
theorem own2 (h : ¬(op < 1 ∨ 16 < op ∨ k ≠ argN op)) (h2 : ¬((n ≠ 0 ∧ op ≠ 1) ∨ ¬namN op ns.length)) (h3 : ∀ s ∈ ns, validS s) (h4 : ns.Nodup) (h5 : n < 0 ∨ 999999 < n) : ownE op n ns k = 2 := by rw [ownE, if_neg h, if_neg h2, if_neg fun h => h h3, if_neg fun h => h h4, if_pos h5]
theorem own0' (h : ¬(op < 1 ∨ 16 < op ∨ k ≠ argN op)) (h2 : ¬((n ≠ 0 ∧ op ≠ 1) ∨ ¬namN op ns.length)) (h3 : ∀ s ∈ ns, validS s) (h4 : ns.Nodup) (h5 : ¬(n < 0 ∨ 999999 < n)) : ownE op n ns k = 0 := by rw [ownE, if_neg h, if_neg h2, if_neg fun h => h h3, if_neg fun h => h h4, if_neg h5]
theorem nodup_small (h : ns.length ≤ 1) : ns.Nodup := by
  match ns, h with
  | [], _ => exact List.nodup_nil
  | [a], _ => simp
theorem node_own {al : List Ex} (h : ownE op n ns al.length ≠ 0) : nodeE (.mk op n ns al) = ownE op n ns al.length := by rw [nodeE, if_pos h]
theorem node_args {al : List Ex} (h : ownE op n ns al.length = 0) : nodeE (.mk op n ns al) = nodeL al := by rw [nodeE, if_neg (by simp [h])]
end
theorem argN_spec {X : PMap} {op : Nat} : Spec Tryz.prog 163 [.int .u8 (op : Int)] X fun u _ => u = .int .i64 (argN op : Int) := by
  by_cases h1 : op < 7
  · refine Spec.enter Tryz.func163 rfl Tryz.ntmps163 rfl ?_
    intro w0 hw0
    refine T.seq <| T.region <| SL.v (op_assign (v := .int .i64 ((0 : Nat) : Int)) rfl) <| SL.nil <| T.seq <| T.block <| T.seq <| T.region <| SL.mv rfl <| SL.v (op_lssT rfl rfl (by omega)) ?_
    refine SL.as rfl <| SL.nil <| T.condT rfl <| T.seq <| T.region <| SL.v (op_assign (v := .int .i64 ((0 : Nat) : Int)) rfl) <| SL.nil <| T.ret1 rfl (ResIs.tmp rfl) ?_
    rw [argN, if_pos h1]
  · by_cases h2 : op = 7
    · refine Spec.enter Tryz.func163 rfl Tryz.ntmps163 rfl ?_
      intro w0 hw0
      refine T.seq <| T.region <| SL.v (op_assign (v := .int .i64 ((0 : Nat) : Int)) rfl) <| SL.nil <| T.seq <| T.block <| T.seq <| T.region <| SL.mv rfl <| SL.v (op_lssF rfl rfl (by omega)) ?_
      refine SL.as rfl <| SL.nil <| T.condF rfl <| T.seq <| T.region <| SL.mv rfl <| SL.v (op_eqlT rfl rfl (by omega)) ?_
      refine SL.as rfl <| SL.nil <| T.condT rfl <| T.seq <| T.region <| SL.v (op_assign (v := .int .i64 ((1 : Nat) : Int)) rfl) <| SL.nil <| T.ret1 rfl (ResIs.tmp rfl) ?_
      rw [argN, if_neg h1, if_pos h2]
    · refine Spec.enter Tryz.func163 rfl Tryz.ntmps163 rfl ?_
      intro w0 hw0
      refine T.seq <| T.region <| SL.v (op_assign (v := .int .i64 ((0 : Nat) : Int)) rfl) <| SL.nil <| T.seq <| T.block <| T.seq <| T.region <| SL.mv rfl <| SL.v (op_lssF rfl rfl (by omega)) ?_
      refine SL.as rfl <| SL.nil <| T.condF rfl <| T.seq <| T.region <| SL.mv rfl <| SL.v (op_eqlF rfl rfl (by omega)) ?_
      refine SL.as rfl <| SL.nil <| T.condF rfl <| T.skip <| T.blk <| T.seq <| T.region <| SL.v (op_assign (v := .int .i64 ((2 : Nat) : Int)) rfl) <| SL.nil <| T.ret1 rfl (ResIs.tmp rfl) ?_
      rw [argN, if_neg h1, if_neg h2]
theorem named_spec {X : PMap} {op : Nat} {n : Int} {A B : Option Addr} {k c l c' : Nat} (hk : k < 1000000000000) : Spec Tryz.prog 164 [.agg #[.int .u8 (op : Int), .int .i64 n, .slice A k c, .slice B l c']] X fun u _ => u = .bool (decide (namN op k)) := by
  by_cases h4 : op = 4
  · have e : namN op k ↔ k = 1 := by simp [namN, h4]
    by_cases hk1 : k = 1
    · refine Spec.enter Tryz.func164 rfl Tryz.ntmps164 rfl ?_
      intro w0 hw0
      refine T.seq <| T.region <| SL.w (op_box rfl) ?_
      rintro _ _ _ ⟨B1, rfl, rfl, rfl⟩
      refine SL.as rfl <| SL.nil <| T.seq <| T.region <| SL.v (op_fieldAddr fa70_2 rfl) <| SL.v (op_load ty59 rfl (by repeat constructor) rfl) ?_
      refine SL.v (op_lenS Tryz.underlying59 rfl) <| SL.as rfl <| SL.nil <| T.seq <| T.seq <| T.region <| SL.v (op_fieldAddr fa70_0 rfl) <| SL.v (op_load ty33 rfl (by repeat constructor) rfl) ?_
      refine SL.nil <| T.block <| T.seq <| T.seq <| T.region <| SL.v (op_eqlT rfl rfl (by omega)) ?_
      refine SL.as rfl <| SL.nil <| T.condT rfl <| T.skip <| T.condT rfl <| T.seq <| T.region <| SL.mv rfl <| SL.v (op_eqlT rfl rfl (by omega)) ?_
      refine SL.as rfl <| SL.nil <| T.ret1 rfl (ResIs.tmp rfl) ?_
      rw [decide_eq_true (e.2 hk1)]
    · refine Spec.enter Tryz.func164 rfl Tryz.ntmps164 rfl ?_
      intro w0 hw0
      refine T.seq <| T.region <| SL.w (op_box rfl) ?_
      rintro _ _ _ ⟨B1, rfl, rfl, rfl⟩
      refine SL.as rfl <| SL.nil <| T.seq <| T.region <| SL.v (op_fieldAddr fa70_2 rfl) <| SL.v (op_load ty59 rfl (by repeat constructor) rfl) ?_
      refine SL.v (op_lenS Tryz.underlying59 rfl) <| SL.as rfl <| SL.nil <| T.seq <| T.seq <| T.region <| SL.v (op_fieldAddr fa70_0 rfl) <| SL.v (op_load ty33 rfl (by repeat constructor) rfl) ?_
      refine SL.nil <| T.block <| T.seq <| T.seq <| T.region <| SL.v (op_eqlT rfl rfl (by omega)) ?_
      refine SL.as rfl <| SL.nil <| T.condT rfl <| T.skip <| T.condT rfl <| T.seq <| T.region <| SL.mv rfl <| SL.v (op_eqlF rfl rfl (by omega)) ?_
      refine SL.as rfl <| SL.nil <| T.ret1 rfl (ResIs.tmp rfl) ?_
      rw [decide_eq_false fun h => hk1 (e.1 h)]
  · by_cases h6 : op = 6
    · have e : namN op k ↔ k = 1 := by simp [namN, h6]
      by_cases hk1 : k = 1
      · refine Spec.enter Tryz.func164 rfl Tryz.ntmps164 rfl ?_
        intro w0 hw0
        refine T.seq <| T.region <| SL.w (op_box rfl) ?_
        rintro _ _ _ ⟨B1, rfl, rfl, rfl⟩
        refine SL.as rfl <| SL.nil <| T.seq <| T.region <| SL.v (op_fieldAddr fa70_2 rfl) <| SL.v (op_load ty59 rfl (by repeat constructor) rfl) ?_
        refine SL.v (op_lenS Tryz.underlying59 rfl) <| SL.as rfl <| SL.nil <| T.seq <| T.seq <| T.region <| SL.v (op_fieldAddr fa70_0 rfl) <| SL.v (op_load ty33 rfl (by repeat constructor) rfl) ?_
        refine SL.nil <| T.block <| T.seq <| T.seq <| T.region <| SL.v (op_eqlF rfl rfl (by omega)) ?_
        refine SL.as rfl <| SL.nil <| T.condF rfl <| T.region <| SL.v (op_eqlT rfl rfl (by omega)) ?_
        refine SL.as rfl <| SL.nil <| T.condT rfl <| T.seq <| T.region <| SL.mv rfl <| SL.v (op_eqlT rfl rfl (by omega)) ?_
        refine SL.as rfl <| SL.nil <| T.ret1 rfl (ResIs.tmp rfl) ?_
        rw [decide_eq_true (e.2 hk1)]
      · refine Spec.enter Tryz.func164 rfl Tryz.ntmps164 rfl ?_
        intro w0 hw0
        refine T.seq <| T.region <| SL.w (op_box rfl) ?_
        rintro _ _ _ ⟨B1, rfl, rfl, rfl⟩
        refine SL.as rfl <| SL.nil <| T.seq <| T.region <| SL.v (op_fieldAddr fa70_2 rfl) <| SL.v (op_load ty59 rfl (by repeat constructor) rfl) ?_
        refine SL.v (op_lenS Tryz.underlying59 rfl) <| SL.as rfl <| SL.nil <| T.seq <| T.seq <| T.region <| SL.v (op_fieldAddr fa70_0 rfl) <| SL.v (op_load ty33 rfl (by repeat constructor) rfl) ?_
        refine SL.nil <| T.block <| T.seq <| T.seq <| T.region <| SL.v (op_eqlF rfl rfl (by omega)) ?_
        refine SL.as rfl <| SL.nil <| T.condF rfl <| T.region <| SL.v (op_eqlT rfl rfl (by omega)) ?_
        refine SL.as rfl <| SL.nil <| T.condT rfl <| T.seq <| T.region <| SL.mv rfl <| SL.v (op_eqlF rfl rfl (by omega)) ?_
        refine SL.as rfl <| SL.nil <| T.ret1 rfl (ResIs.tmp rfl) ?_
        rw [decide_eq_false fun h => hk1 (e.1 h)]
    · by_cases h5 : op = 5
      · have e : namN op k ↔ 1 ≤ k ∧ k ≤ 8 := by simp [namN, h5]
        by_cases hk1 : 1 ≤ k
        · by_cases hk8 : k ≤ 8
          · refine Spec.enter Tryz.func164 rfl Tryz.ntmps164 rfl ?_
            intro w0 hw0
            refine T.seq <| T.region <| SL.w (op_box rfl) ?_
            rintro _ _ _ ⟨B1, rfl, rfl, rfl⟩
            refine SL.as rfl <| SL.nil <| T.seq <| T.region <| SL.v (op_fieldAddr fa70_2 rfl) <| SL.v (op_load ty59 rfl (by repeat constructor) rfl) ?_
            refine SL.v (op_lenS Tryz.underlying59 rfl) <| SL.as rfl <| SL.nil <| T.seq <| T.seq <| T.region <| SL.v (op_fieldAddr fa70_0 rfl) <| SL.v (op_load ty33 rfl (by repeat constructor) rfl) ?_
            refine SL.nil <| T.block <| T.seq <| T.seq <| T.region <| SL.v (op_eqlF rfl rfl (by omega)) ?_
            refine SL.as rfl <| SL.nil <| T.condF rfl <| T.region <| SL.v (op_eqlF rfl rfl (by omega)) ?_
            refine SL.as rfl <| SL.nil <| T.condF rfl <| T.seq <| T.region <| SL.v (op_eqlT rfl rfl (by omega)) ?_
            refine SL.as rfl <| SL.nil <| T.condT rfl <| T.seq <| T.region <| SL.mv rfl <| SL.v (op_geqT rfl rfl (by omega)) ?_
            refine SL.mv rfl <| SL.mv rfl <| SL.v (op_leqT rfl rfl (by omega)) ?_
            refine SL.v (op_pickT rfl rfl) <| SL.as rfl <| SL.nil <| T.ret1 rfl (ResIs.tmp rfl) ?_
            rw [decide_eq_true (e.2 ⟨hk1, hk8⟩)]
          · refine Spec.enter Tryz.func164 rfl Tryz.ntmps164 rfl ?_
            intro w0 hw0
            refine T.seq <| T.region <| SL.w (op_box rfl) ?_
            rintro _ _ _ ⟨B1, rfl, rfl, rfl⟩
            refine SL.as rfl <| SL.nil <| T.seq <| T.region <| SL.v (op_fieldAddr fa70_2 rfl) <| SL.v (op_load ty59 rfl (by repeat constructor) rfl) ?_
            refine SL.v (op_lenS Tryz.underlying59 rfl) <| SL.as rfl <| SL.nil <| T.seq <| T.seq <| T.region <| SL.v (op_fieldAddr fa70_0 rfl) <| SL.v (op_load ty33 rfl (by repeat constructor) rfl) ?_
            refine SL.nil <| T.block <| T.seq <| T.seq <| T.region <| SL.v (op_eqlF rfl rfl (by omega)) ?_
            refine SL.as rfl <| SL.nil <| T.condF rfl <| T.region <| SL.v (op_eqlF rfl rfl (by omega)) ?_
            refine SL.as rfl <| SL.nil <| T.condF rfl <| T.seq <| T.region <| SL.v (op_eqlT rfl rfl (by omega)) ?_
            refine SL.as rfl <| SL.nil <| T.condT rfl <| T.seq <| T.region <| SL.mv rfl <| SL.v (op_geqT rfl rfl (by omega)) ?_
            refine SL.mv rfl <| SL.mv rfl <| SL.v (op_leqF rfl rfl (by omega)) ?_
            refine SL.v (op_pickT rfl rfl) <| SL.as rfl <| SL.nil <| T.ret1 rfl (ResIs.tmp rfl) ?_
            rw [decide_eq_false fun h => hk8 (e.1 h).2]
        · refine Spec.enter Tryz.func164 rfl Tryz.ntmps164 rfl ?_
          intro w0 hw0
          refine T.seq <| T.region <| SL.w (op_box rfl) ?_
          rintro _ _ _ ⟨B1, rfl, rfl, rfl⟩
          refine SL.as rfl <| SL.nil <| T.seq <| T.region <| SL.v (op_fieldAddr fa70_2 rfl) <| SL.v (op_load ty59 rfl (by repeat constructor) rfl) ?_
          refine SL.v (op_lenS Tryz.underlying59 rfl) <| SL.as rfl <| SL.nil <| T.seq <| T.seq <| T.region <| SL.v (op_fieldAddr fa70_0 rfl) <| SL.v (op_load ty33 rfl (by repeat constructor) rfl) ?_
          refine SL.nil <| T.block <| T.seq <| T.seq <| T.region <| SL.v (op_eqlF rfl rfl (by omega)) ?_
          refine SL.as rfl <| SL.nil <| T.condF rfl <| T.region <| SL.v (op_eqlF rfl rfl (by omega)) ?_
          refine SL.as rfl <| SL.nil <| T.condF rfl <| T.seq <| T.region <| SL.v (op_eqlT rfl rfl (by omega)) ?_
          refine SL.as rfl <| SL.nil <| T.condT rfl <| T.seq <| T.region <| SL.mv rfl <| SL.v (op_geqF rfl rfl (by omega)) ?_
          refine SL.mv rfl <| SL.skip rfl rfl ?_
          refine SL.skip rfl rfl ?_
          refine SL.v (op_pickF rfl rfl) <| SL.as rfl <| SL.nil <| T.ret1 rfl (ResIs.tmp rfl) ?_
          rw [decide_eq_false fun h => hk1 (e.1 h).1]
      · have e : namN op k ↔ k = 0 := by simp [namN, h4, h5, h6]
        by_cases hk0 : k = 0
        · refine Spec.enter Tryz.func164 rfl Tryz.ntmps164 rfl ?_
          intro w0 hw0
          refine T.seq <| T.region <| SL.w (op_box rfl) ?_
          rintro _ _ _ ⟨B1, rfl, rfl, rfl⟩
          refine SL.as rfl <| SL.nil <| T.seq <| T.region <| SL.v (op_fieldAddr fa70_2 rfl) <| SL.v (op_load ty59 rfl (by repeat constructor) rfl) ?_
          refine SL.v (op_lenS Tryz.underlying59 rfl) <| SL.as rfl <| SL.nil <| T.seq <| T.seq <| T.region <| SL.v (op_fieldAddr fa70_0 rfl) <| SL.v (op_load ty33 rfl (by repeat constructor) rfl) ?_
          refine SL.nil <| T.block <| T.seq <| T.seq <| T.region <| SL.v (op_eqlF rfl rfl (by omega)) ?_
          refine SL.as rfl <| SL.nil <| T.condF rfl <| T.region <| SL.v (op_eqlF rfl rfl (by omega)) ?_
          refine SL.as rfl <| SL.nil <| T.condF rfl <| T.seq <| T.region <| SL.v (op_eqlF rfl rfl (by omega)) ?_
          refine SL.as rfl <| SL.nil <| T.condF rfl <| T.skip <| T.blk <| T.seq <| T.region <| SL.mv rfl <| SL.v (op_eqlT rfl rfl (by omega)) ?_
          refine SL.as rfl <| SL.nil <| T.ret1 rfl (ResIs.tmp rfl) ?_
          rw [decide_eq_true (e.2 hk0)]
        · refine Spec.enter Tryz.func164 rfl Tryz.ntmps164 rfl ?_
          intro w0 hw0
          refine T.seq <| T.region <| SL.w (op_box rfl) ?_
          rintro _ _ _ ⟨B1, rfl, rfl, rfl⟩
          refine SL.as rfl <| SL.nil <| T.seq <| T.region <| SL.v (op_fieldAddr fa70_2 rfl) <| SL.v (op_load ty59 rfl (by repeat constructor) rfl) ?_
          refine SL.v (op_lenS Tryz.underlying59 rfl) <| SL.as rfl <| SL.nil <| T.seq <| T.seq <| T.region <| SL.v (op_fieldAddr fa70_0 rfl) <| SL.v (op_load ty33 rfl (by repeat constructor) rfl) ?_
          refine SL.nil <| T.block <| T.seq <| T.seq <| T.region <| SL.v (op_eqlF rfl rfl (by omega)) ?_
          refine SL.as rfl <| SL.nil <| T.condF rfl <| T.region <| SL.v (op_eqlF rfl rfl (by omega)) ?_
          refine SL.as rfl <| SL.nil <| T.condF rfl <| T.seq <| T.region <| SL.v (op_eqlF rfl rfl (by omega)) ?_
          refine SL.as rfl <| SL.nil <| T.condF rfl <| T.skip <| T.blk <| T.seq <| T.region <| SL.mv rfl <| SL.v (op_eqlF rfl rfl (by omega)) ?_
          refine SL.as rfl <| SL.nil <| T.ret1 rfl (ResIs.tmp rfl) ?_
          rw [decide_eq_false fun h => hk0 (e.1 h)]
theorem inval_spec {X : PMap} {s : ByteArray} : Spec Tryz.prog 166 [.string s] X fun u _ => u = .bool (decide (¬validS s)) := by
  refine Spec.enter Tryz.func166 rfl Tryz.ntmps166 rfl ?_
  intro w0 hw0
  refine T.seq <| T.region <| SL.as rfl <| SL.nil <| T.seq <| T.region <| SL.mv rfl <| SL.w (op_callF en94 (vs := [_]) rfl (nvalid_spec)) ?_
  rintro _ _ X1 ⟨rfl, hX1, rfl⟩
  refine SL.v (op_not rfl) <| SL.as rfl <| SL.nil <| T.ret1 rfl (ResIs.tmp rfl) ?_
  rw [decide_not]
theorem idxf_spec {X : PMap} {v : Value} {l : List ByteArray} (h : RowR strC X v l) (hl : l.length < 1000000000000) : Spec Tryz.prog 193 [v, .func (.func 166) #[] #[]] X fun u _ => ∃ k : Int, u = .int .i64 k ∧ (0 ≤ k ↔ ¬∀ s ∈ l, validS s) := by
  obtain ⟨A, cp, rfl⟩ := h.form
  refine Spec.enter Tryz.func193 rfl Tryz.ntmps193 rfl ?_
  intro w0 hw0
  refine T.seq <| T.region <| SL.v (op_assign (v := .int .i64 ((0 : Nat) : Int)) rfl) <| SL.nil <| T.seq <| T.seq <| T.region <| SL.mv rfl <| SL.v (op_lenS Tryz.underlying59 rfl) <| SL.v (op_move (v := .int .i64 ((0 : Nat) : Int)) rfl) <| SL.nil <| T.block <| T.loopW (fun m env own X' => ∃ i : Nat, m = l.length - i ∧ i ≤ l.length ∧ X.le X' ∧ (∀ q x, q < i → l[q]? = some x → validS x) ∧ env = [(0, .slice A l.length cp), (1, .func (.func 166) #[] #[]), (7, .int .i64 (l.length : Int)), (8, .int .i64 (i : Int))] ∧ own = []) l.length ⟨0, by simp, by omega, PMap.le_refl _, fun q x hq => absurd hq (by omega), rfl, rfl⟩ (by repeat (first | exact Sub.nil | refine Sub.cons rfl ?_)) ?_
  rintro m _ _ X1 ⟨i, rfl, hi, hX1, hne, rfl, rfl⟩
  rcases Nat.lt_or_ge i l.length with hil | hil
  · obtain ⟨x, hx⟩ : ∃ x, l[i]? = some x := ⟨_, List.getElem?_eq_getElem hil⟩
    obtain ⟨b, pre, rfl, hB⟩ := h.blk (by omega)
    refine T.seq <| T.region <| SL.v (op_lssT rfl rfl (by omega)) ?_
    refine SL.nil <| T.seq <| T.condT rfl <| T.skip <| T.seq <| T.block <| T.seq <| T.region <| SL.mv rfl <| SL.as rfl <| SL.nil <| T.seq <| T.region <| SL.mv rfl <| SL.mv rfl ?_
    refine SL.mv rfl <| SL.v (op_indexN Tryz.underlying59 ty9 rfl rfl (by omega)) ?_
    refine SL.v (op_loadX ty9 rfl (hB.mono hX1) (str_read hx (by omega))) ?_
    refine SL.w (op_call en166 rfl (vs := [_]) rfl inval_spec) ?_
    rintro _ _ X2 ⟨rfl, hX2, rfl⟩
    by_cases hc : ¬validS x
    · rw [decide_eq_true hc]
      refine SL.nil <| T.condT rfl <| T.seq <| T.region <| SL.mv rfl <| SL.as rfl <| SL.nil <| T.ret1 rfl (ResIs.tmp rfl) ?_
      exact ⟨_, rfl, fun _ hall => hc (hall x (List.mem_of_getElem? hx)), fun _ => by omega⟩
    · rw [decide_eq_false hc]
      refine SL.nil <| T.condF rfl <| T.skip <| T.blk <| T.region <| SL.v (op_addN (q := 1) rfl rfl (by omega)) ?_
      refine SL.mv rfl <| SL.nil ?_
      have hne2 : ∀ (q : Nat) (y : ByteArray), q < i + 1 → l[q]? = some y → validS y := fun q y hq hy => by
        rcases Nat.lt_or_ge q i with h1 | h1
        · exact hne q y h1 hy
        · obtain rfl : q = i := by omega
          rw [hx] at hy; cases hy; exact Classical.not_not.1 hc
      exact T.backW (l.length - (i + 1)) (by omega) ⟨i + 1, rfl, by omega, hX1.trans' hX2, hne2, rfl, rfl⟩ (by repeat (first | exact Sub.nil | refine Sub.cons rfl ?_))
  · refine T.seq <| T.region <| SL.v (op_lssF rfl rfl (by omega)) ?_
    refine SL.nil <| T.seq <| T.condF rfl ?_
    refine T.exit (T.exitCode (T.exitCut (T.exitBlk ?_)))
    refine T.seq <| T.region <| SL.as rfl <| SL.nil <| T.ret1 rfl (ResIs.tmp rfl) ?_
    refine ⟨_, rfl, fun h => absurd h (by omega), fun hm => ?_⟩
    refine absurd (fun s hs => ?_) hm
    obtain ⟨q, hq⟩ := List.mem_iff_getElem?.1 hs
    have h1 := (List.getElem?_eq_some_iff.1 hq).1
    exact hne q s (by omega) hq
theorem contf_spec {X : PMap} {v : Value} {l : List ByteArray} (h : RowR strC X v l) (hl : l.length < 1000000000000) : Spec Tryz.prog 165 [v, .func (.func 166) #[] #[]] X fun u _ => ∃ b : Bool, u = .bool b ∧ (b = true ↔ ¬∀ s ∈ l, validS s) := by
  obtain ⟨A, cp, rfl⟩ := h.form
  refine Spec.enter Tryz.func165 rfl Tryz.ntmps165 rfl ?_
  intro w0 hw0
  refine T.seq <| T.region <| SL.as rfl <| SL.nil <| T.seq <| T.region <| SL.mv rfl <| SL.mv rfl <| SL.w (op_callF en193 (vs := [_, _]) rfl (idxf_spec h hl)) ?_
  rintro _ _ X1 ⟨rfl, hX1, k, rfl, hk⟩
  refine SL.v (op_geq rfl rfl) <| SL.as rfl <| SL.nil <| T.ret1 rfl (ResIs.tmp rfl) ?_
  exact ⟨_, rfl, by rw [decide_eq_true_eq]; exact hk⟩
theorem nodeL_at {al : List Ex} {i : Nat} {a : Ex} (h0 : nodeL (al.take i) = 0) (ha : al[i]? = some a) (hz : nodeE a ≠ 0) : nodeL al = nodeE a := by
  obtain ⟨h1, h2⟩ := List.getElem?_eq_some_iff.1 ha
  have e : al = al.take i ++ a :: al.drop (i + 1) := by rw [← h2, ← List.drop_eq_getElem_cons h1, List.take_append_drop]
  rw [e, nodeL_app, if_neg (by simp [h0]), nodeL, if_pos hz]
theorem nodeL_snoc {al : List Ex} {i : Nat} {a : Ex} (h0 : nodeL (al.take i) = 0) (ha : al[i]? = some a) (hz : nodeE a = 0) : nodeL (al.take (i + 1)) = 0 := by
  rw [take_snoc ha, nodeL_app, if_neg (by simp [h0]), nodeL, if_neg (by simp [hz]), nodeL]
theorem node_spec (N : Nat) : ∀ {X : PMap} {e : Ex} {r : Row4}, wtE e ≤ N → N < 100000000 → ExR .u8 X e r → Spec Tryz.prog 123 [.agg #[r.1, r.2.1, r.2.2.1, r.2.2.2]] X fun u _ => u = .int .i64 (nodeE e) := by
  induction N with
  | zero => intro X e r h; cases e; rw [wtE] at h; omega
  | succ N ih =>
    intro X e r hN hB h
    cases h with
    | @mk op n ns al vn va rows hn ha hl hr =>
    obtain ⟨Aa, ca, rfl⟩ := ha.form
    obtain ⟨An, cn, rfl⟩ := hn.form
    have hlen := wtL_len al
    have hnl := wtS_len ns
    rw [wtE] at hN
    by_cases a1 : op < 1
    · have e := own1 (k := al.length) (n := n) (ns := ns) (.inl a1)
      refine Spec.enter Tryz.func123 rfl Tryz.ntmps123 rfl ?_
      intro w0 hw0
      refine T.seq <| T.region <| SL.w (op_box rfl) ?_
      rintro _ _ _ ⟨B1, rfl, rfl, rfl⟩
      refine SL.v (op_assign (v := .int .i64 ((0 : Nat) : Int)) rfl) <| SL.nil <| T.seq <| T.block <| T.seq <| T.draw (by kernel_rfl) 18 [.t 0, .t 1, .t 2, .t 3, .t 4, .t 5, .t 6, .t 7, .t 8, .t 9, .t 10, .t 11, .t 12, .t 13, .r 14, .t 15, .t 16, .t 17] (by kernel_rfl) ?_
      refine SD.take rfl panicBody (op_fieldAddr fa70_0 rfl) rfl rfl ?_
      refine SD.take rfl panicBody (op_load ty33 rfl (by repeat constructor) rfl) rfl rfl ?_
      refine SD.take rfl panicBody (op_lssT rfl rfl (by omega)) rfl rfl ?_
      refine SD.take rfl panicBody (op_move rfl) rfl rfl ?_
      refine SD.skip rfl panicBody rfl rfl ?_
      refine SD.skip rfl panicBody rfl rfl ?_
      refine SD.skip rfl panicBody rfl rfl ?_
      refine SD.take rfl panicBody (op_pickT rfl rfl) rfl rfl ?_
      refine SD.take rfl panicBody (op_move rfl) rfl rfl ?_
      refine SD.skip rfl panicBody rfl rfl ?_
      refine SD.skip rfl panicBody rfl rfl ?_
      refine SD.skip rfl panicBody rfl rfl ?_
      refine SD.skip rfl panicBody rfl rfl ?_
      refine SD.skip rfl panicBody rfl rfl ?_
      refine SD.skipF rfl rfl rfl ?_
      refine SD.skip rfl panicBody rfl rfl ?_
      refine SD.take rfl panicBody (op_pickT rfl rfl) rfl rfl ?_
      refine SD.take rfl panicBody (op_assign rfl) rfl rfl ?_
      refine SD.nil ?_
      show SL _ _ _ _ _ _ _ [] _ _ _
      refine SL.nil <| T.condT rfl <| T.seq <| T.region <| SL.v (op_assign (v := .int .i64 ((1 : Nat) : Int)) rfl) <| SL.nil <| T.ret1 rfl (ResIs.tmp rfl) ?_
      rw [node_own (by rw [e]; decide), e]; rfl
    by_cases a2 : 16 < op
    · have e := own1 (k := al.length) (n := n) (ns := ns) (.inr (.inl a2))
      refine Spec.enter Tryz.func123 rfl Tryz.ntmps123 rfl ?_
      intro w0 hw0
      refine T.seq <| T.region <| SL.w (op_box rfl) ?_
      rintro _ _ _ ⟨B1, rfl, rfl, rfl⟩
      refine SL.v (op_assign (v := .int .i64 ((0 : Nat) : Int)) rfl) <| SL.nil <| T.seq <| T.block <| T.seq <| T.draw (by kernel_rfl) 18 [.t 0, .t 1, .t 2, .t 3, .t 4, .t 5, .t 6, .t 7, .t 8, .t 9, .t 10, .t 11, .t 12, .t 13, .r 14, .t 15, .t 16, .t 17] (by kernel_rfl) ?_
      refine SD.take rfl panicBody (op_fieldAddr fa70_0 rfl) rfl rfl ?_
      refine SD.take rfl panicBody (op_load ty33 rfl (by repeat constructor) rfl) rfl rfl ?_
      refine SD.take rfl panicBody (op_lssF rfl rfl (by omega)) rfl rfl ?_
      refine SD.take rfl panicBody (op_move rfl) rfl rfl ?_
      refine SD.take rfl panicBody (op_fieldAddr fa70_0 rfl) rfl rfl ?_
      refine SD.take rfl panicBody (op_load ty33 rfl (by repeat constructor) rfl) rfl rfl ?_
      refine SD.take rfl panicBody (op_gtrT rfl rfl (by omega)) rfl rfl ?_
      refine SD.take rfl panicBody (op_pickF rfl rfl) rfl rfl ?_
      refine SD.take rfl panicBody (op_move rfl) rfl rfl ?_
      refine SD.skip rfl panicBody rfl rfl ?_
      refine SD.skip rfl panicBody rfl rfl ?_
      refine SD.skip rfl panicBody rfl rfl ?_
      refine SD.skip rfl panicBody rfl rfl ?_
      refine SD.skip rfl panicBody rfl rfl ?_
      refine SD.skipF rfl rfl rfl ?_
      refine SD.skip rfl panicBody rfl rfl ?_
      refine SD.take rfl panicBody (op_pickT rfl rfl) rfl rfl ?_
      refine SD.take rfl panicBody (op_assign rfl) rfl rfl ?_
      refine SD.nil ?_
      show SL _ _ _ _ _ _ _ [] _ _ _
      refine SL.nil <| T.condT rfl <| T.seq <| T.region <| SL.v (op_assign (v := .int .i64 ((1 : Nat) : Int)) rfl) <| SL.nil <| T.ret1 rfl (ResIs.tmp rfl) ?_
      rw [node_own (by rw [e]; decide), e]; rfl
    by_cases a3 : al.length = argN op
    case neg =>
      have e := own1 (k := al.length) (op := op) (n := n) (ns := ns) (.inr (.inr a3))
      refine Spec.enter Tryz.func123 rfl Tryz.ntmps123 rfl ?_
      intro w0 hw0
      refine T.seq <| T.region <| SL.w (op_box rfl) ?_
      rintro _ _ _ ⟨B1, rfl, rfl, rfl⟩
      refine SL.v (op_assign (v := .int .i64 ((0 : Nat) : Int)) rfl) <| SL.nil <| T.seq <| T.block <| T.seq <| T.draw (by kernel_rfl) 18 [.t 0, .t 1, .t 2, .t 3, .t 4, .t 5, .t 6, .t 7, .t 8, .t 9, .t 10, .t 11, .t 12, .t 13, .r 14, .t 15, .t 16, .t 17] (by kernel_rfl) ?_
      refine SD.take rfl panicBody (op_fieldAddr fa70_0 rfl) rfl rfl ?_
      refine SD.take rfl panicBody (op_load ty33 rfl (by repeat constructor) rfl) rfl rfl ?_
      refine SD.take rfl panicBody (op_lssF rfl rfl (by omega)) rfl rfl ?_
      refine SD.take rfl panicBody (op_move rfl) rfl rfl ?_
      refine SD.take rfl panicBody (op_fieldAddr fa70_0 rfl) rfl rfl ?_
      refine SD.take rfl panicBody (op_load ty33 rfl (by repeat constructor) rfl) rfl rfl ?_
      refine SD.take rfl panicBody (op_gtrF rfl rfl (by omega)) rfl rfl ?_
      refine SD.take rfl panicBody (op_pickF rfl rfl) rfl rfl ?_
      refine SD.take rfl panicBody (op_move rfl) rfl rfl ?_
      refine SD.take rfl panicBody (op_fieldAddr fa70_3 rfl) rfl rfl ?_
      refine SD.take rfl panicBody (op_load ty68 rfl (by repeat constructor) rfl) rfl rfl ?_
      refine SD.take rfl panicBody (op_lenS Tryz.underlying68 rfl) rfl rfl ?_
      refine SD.take rfl panicBody (op_fieldAddr fa70_0 rfl) rfl rfl ?_
      refine SD.take rfl panicBody (op_load ty33 rfl (by repeat constructor) rfl) rfl rfl ?_
      refine SD.run rfl (op_callF en163 (vs := [_]) rfl (argN_spec)) rfl rfl ?_
      rintro _ _ X1 ⟨rfl, hX1, rfl⟩
      rw [← hl] at a3
      refine SD.take rfl panicBody (op_neqT rfl rfl (by omega)) rfl rfl ?_
      refine SD.take rfl panicBody (op_pickF rfl rfl) rfl rfl ?_
      refine SD.take rfl panicBody (op_assign rfl) rfl rfl ?_
      refine SD.nil ?_
      show SL _ _ _ _ _ _ _ [] _ _ _
      refine SL.nil <| T.condT rfl <| T.seq <| T.region <| SL.v (op_assign (v := .int .i64 ((1 : Nat) : Int)) rfl) <| SL.nil <| T.ret1 rfl (ResIs.tmp rfl) ?_
      rw [node_own (by rw [e]; decide), e]; rfl
    have hA1 : ¬(op < 1 ∨ 16 < op ∨ al.length ≠ argN op) := fun h => by omega
    by_cases hNN : n ≠ 0 ∧ op ≠ 1
    · obtain ⟨b1, b2⟩ := hNN
      have e := own6 (n := n) (ns := ns) hA1 (.inl ⟨b1, b2⟩)
      refine Spec.enter Tryz.func123 rfl Tryz.ntmps123 rfl ?_
      intro w0 hw0
      refine T.seq <| T.region <| SL.w (op_box rfl) ?_
      rintro _ _ _ ⟨B1, rfl, rfl, rfl⟩
      refine SL.v (op_assign (v := .int .i64 ((0 : Nat) : Int)) rfl) <| SL.nil <| T.seq <| T.block <| T.seq <| T.draw (by kernel_rfl) 18 [.t 0, .t 1, .t 2, .t 3, .t 4, .t 5, .t 6, .t 7, .t 8, .t 9, .t 10, .t 11, .t 12, .t 13, .r 14, .t 15, .t 16, .t 17] (by kernel_rfl) ?_
      refine SD.take rfl panicBody (op_fieldAddr fa70_0 rfl) rfl rfl ?_
      refine SD.take rfl panicBody (op_load ty33 rfl (by repeat constructor) rfl) rfl rfl ?_
      refine SD.take rfl panicBody (op_lssF rfl rfl (by omega)) rfl rfl ?_
      refine SD.take rfl panicBody (op_move rfl) rfl rfl ?_
      refine SD.take rfl panicBody (op_fieldAddr fa70_0 rfl) rfl rfl ?_
      refine SD.take rfl panicBody (op_load ty33 rfl (by repeat constructor) rfl) rfl rfl ?_
      refine SD.take rfl panicBody (op_gtrF rfl rfl (by omega)) rfl rfl ?_
      refine SD.take rfl panicBody (op_pickF rfl rfl) rfl rfl ?_
      refine SD.take rfl panicBody (op_move rfl) rfl rfl ?_
      refine SD.take rfl panicBody (op_fieldAddr fa70_3 rfl) rfl rfl ?_
      refine SD.take rfl panicBody (op_load ty68 rfl (by repeat constructor) rfl) rfl rfl ?_
      refine SD.take rfl panicBody (op_lenS Tryz.underlying68 rfl) rfl rfl ?_
      refine SD.take rfl panicBody (op_fieldAddr fa70_0 rfl) rfl rfl ?_
      refine SD.take rfl panicBody (op_load ty33 rfl (by repeat constructor) rfl) rfl rfl ?_
      refine SD.run rfl (op_callF en163 (vs := [_]) rfl (argN_spec)) rfl rfl ?_
      rintro _ _ X1 ⟨rfl, hX1, rfl⟩
      rw [← hl] at a3
      refine SD.take rfl panicBody (op_neqF rfl rfl (by omega)) rfl rfl ?_
      refine SD.take rfl panicBody (op_pickF rfl rfl) rfl rfl ?_
      refine SD.take rfl panicBody (op_assign rfl) rfl rfl ?_
      refine SD.nil ?_
      show SL _ _ _ _ _ _ _ [] _ _ _
      refine SL.nil <| T.condF rfl <| T.seq <| T.seq <| T.region <| SL.v (op_fieldAddr fa70_1 rfl) <| SL.v (op_load ty3 rfl (by repeat constructor) rfl) ?_
      refine SL.v (op_neqT rfl rfl (by omega)) ?_
      refine SL.mv rfl <| SL.v (op_fieldAddr fa70_0 rfl) <| SL.v (op_load ty33 rfl (by repeat constructor) rfl) ?_
      refine SL.v (op_neqT rfl rfl (by omega)) ?_
      refine SL.v (op_pickT rfl rfl) <| SL.as rfl <| SL.nil <| T.condT rfl <| T.skip <| T.condT rfl <| T.seq <| T.region <| SL.v (op_assign (v := .int .i64 ((6 : Nat) : Int)) rfl) <| SL.nil <| T.ret1 rfl (ResIs.tmp rfl) ?_
      rw [node_own (by rw [e]; decide), e]; rfl
    by_cases b1 : n = 0
    · skip
      refine Spec.enter Tryz.func123 rfl Tryz.ntmps123 rfl ?_
      intro w0 hw0
      refine T.seq <| T.region <| SL.w (op_box rfl) ?_
      rintro _ _ _ ⟨B1, rfl, rfl, rfl⟩
      refine SL.v (op_assign (v := .int .i64 ((0 : Nat) : Int)) rfl) <| SL.nil <| T.seq <| T.block <| T.seq <| T.draw (by kernel_rfl) 18 [.t 0, .t 1, .t 2, .t 3, .t 4, .t 5, .t 6, .t 7, .t 8, .t 9, .t 10, .t 11, .t 12, .t 13, .r 14, .t 15, .t 16, .t 17] (by kernel_rfl) ?_
      refine SD.take rfl panicBody (op_fieldAddr fa70_0 rfl) rfl rfl ?_
      refine SD.take rfl panicBody (op_load ty33 rfl (by repeat constructor) rfl) rfl rfl ?_
      refine SD.take rfl panicBody (op_lssF rfl rfl (by omega)) rfl rfl ?_
      refine SD.take rfl panicBody (op_move rfl) rfl rfl ?_
      refine SD.take rfl panicBody (op_fieldAddr fa70_0 rfl) rfl rfl ?_
      refine SD.take rfl panicBody (op_load ty33 rfl (by repeat constructor) rfl) rfl rfl ?_
      refine SD.take rfl panicBody (op_gtrF rfl rfl (by omega)) rfl rfl ?_
      refine SD.take rfl panicBody (op_pickF rfl rfl) rfl rfl ?_
      refine SD.take rfl panicBody (op_move rfl) rfl rfl ?_
      refine SD.take rfl panicBody (op_fieldAddr fa70_3 rfl) rfl rfl ?_
      refine SD.take rfl panicBody (op_load ty68 rfl (by repeat constructor) rfl) rfl rfl ?_
      refine SD.take rfl panicBody (op_lenS Tryz.underlying68 rfl) rfl rfl ?_
      refine SD.take rfl panicBody (op_fieldAddr fa70_0 rfl) rfl rfl ?_
      refine SD.take rfl panicBody (op_load ty33 rfl (by repeat constructor) rfl) rfl rfl ?_
      refine SD.run rfl (op_callF en163 (vs := [_]) rfl (argN_spec)) rfl rfl ?_
      rintro _ _ X1 ⟨rfl, hX1, rfl⟩
      rw [← hl] at a3
      refine SD.take rfl panicBody (op_neqF rfl rfl (by omega)) rfl rfl ?_
      refine SD.take rfl panicBody (op_pickF rfl rfl) rfl rfl ?_
      refine SD.take rfl panicBody (op_assign rfl) rfl rfl ?_
      refine SD.nil ?_
      show SL _ _ _ _ _ _ _ [] _ _ _
      refine SL.nil <| T.condF rfl <| T.seq <| T.seq <| T.region <| SL.v (op_fieldAddr fa70_1 rfl) <| SL.v (op_load ty3 rfl (by repeat constructor) rfl) ?_
      refine SL.v (op_neqF rfl rfl (by omega)) ?_
      refine SL.mv rfl <| SL.skip rfl rfl ?_
      refine SL.skip rfl rfl ?_
      refine SL.skip rfl rfl ?_
      refine SL.v (op_pickF rfl rfl) <| SL.as rfl <| SL.nil <| T.condF rfl <| T.region <| SL.v (op_load ty70 rfl (by repeat constructor) rfl) ?_
      refine SL.w (op_callF en164 (vs := [_]) rfl (named_spec (by omega))) ?_
      rintro _ _ X2 ⟨rfl, hX2, rfl⟩
      by_cases hnm : namN op ns.length
      case neg =>
        rw [decide_eq_false hnm]
        refine SL.v (op_not rfl) <| SL.as rfl <| SL.nil <| T.condT rfl <| T.seq <| T.region <| SL.v (op_assign (v := .int .i64 ((6 : Nat) : Int)) rfl) <| SL.nil <| T.ret1 rfl (ResIs.tmp rfl) ?_
        rw [node_own (by rw [own6 hA1 (.inr hnm)]; decide), own6 hA1 (.inr hnm)]; rfl
      rw [decide_eq_true hnm]
      have hA2 : ¬((n ≠ 0 ∧ op ≠ 1) ∨ ¬namN op ns.length) := fun h => h.elim (fun h => hNN h) (fun h => h hnm)
      refine SL.v (op_not rfl) <| SL.as rfl <| SL.nil <| T.condF rfl <| T.seq <| T.region <| SL.v (op_fieldAddr fa70_2 rfl) <| SL.v (op_load ty59 rfl (by repeat constructor) rfl) ?_
      refine SL.w (op_callF en165 (vs := [_, _]) rfl (contf_spec ((hn.mono hX1).mono hX2) (by omega))) ?_
      rintro _ _ X3 ⟨rfl, hX3, bv, rfl, hbv⟩
      cases bv with
      | true =>
        have hv := hbv.1 rfl
        refine SL.as rfl <| SL.nil <| T.condT rfl <| T.seq <| T.region <| SL.v (op_assign (v := .int .i64 ((9 : Nat) : Int)) rfl) <| SL.nil <| T.ret1 rfl (ResIs.tmp rfl) ?_
        rw [node_own (by rw [own9 hA1 hA2 hv]; decide), own9 hA1 hA2 hv]; rfl
      | false =>
      have hv : ∀ s ∈ ns, validS s := Classical.not_not.1 fun h => by have := hbv.2 h; cases this
      by_cases h5 : op = 5
      · subst h5
        have h18 : 1 ≤ ns.length ∧ ns.length ≤ 8 := by simpa [namN] using hnm
        have eA : allE (.mk 0 0 ns []) = ns := by simp [allE, allL]
        have hE : ExR .u8 X3 (.mk 0 0 ns []) (.int .u8 ((0 : Nat) : Int), .int .i64 0, .slice An ns.length cn, .slice none 0 0) := .mk (rows := []) (((hn.mono hX1).mono hX2).mono hX3) (.inl ⟨rfl, _, _, rfl⟩) rfl (fun i a r h => by simp at h)
        have hwE : wtE (.mk 0 0 ns []) < 100000000 := by rw [wtE, wtL]; omega
        have hcall : Spec Tryz.prog 35 [.agg #[.int .u8 0, .int .i64 0, .slice An ns.length cn, .slice none 0 0]] X3 fun u X' => ∃ l' : List ByteArray, l'.Perm ns ∧ AscS l' ∧ RowR strC X' u (compactS l') := by
          have := names_spec hwE hE (by rw [eA]; omega) (by rw [eA]; omega)
          rw [eA] at this
          exact this
        refine SL.as rfl <| SL.nil <| T.condF rfl <| T.seq <| T.draw (by kernel_rfl) 15 [.t 0, .t 1, .t 2, .t 3, .t 4, .t 5, .t 6, .t 9, .t 10, .t 11, .r 7, .t 8, .t 12, .t 13, .t 14] (by kernel_rfl) ?_
        refine SD.take rfl panicBody (op_fieldAddr fa70_0 rfl) rfl rfl ?_
        refine SD.take rfl panicBody (op_load ty33 rfl (by repeat constructor) rfl) rfl rfl ?_
        refine SD.take rfl panicBody (op_eqlT rfl rfl (by omega)) rfl rfl ?_
        refine SD.take rfl panicBody (op_move rfl) rfl rfl ?_
        refine SD.take rfl panicBody (op_fieldAddr fa70_2 rfl) rfl rfl ?_
        refine SD.take rfl panicBody (op_load ty59 rfl (by repeat constructor) rfl) rfl rfl ?_
        refine SD.take rfl panicBody (op_build st70 (qs := [(2, _)]) rfl rfl) rfl rfl ?_
        refine SD.take rfl panicBody (op_fieldAddr fa70_2 rfl) rfl rfl ?_
        refine SD.take rfl panicBody (op_load ty59 rfl (by repeat constructor) rfl) rfl rfl ?_
        refine SD.take rfl panicBody (op_lenS Tryz.underlying59 rfl) rfl rfl ?_
        refine SD.run rfl (op_callF en35 (vs := [_]) rfl (hcall)) rfl rfl ?_
        rintro u _ X4 ⟨rfl, hX4, l', hperm, hasc, hu⟩
        obtain ⟨Au, cu, rfl⟩ := hu.form
        have hcn := compact_nodup hasc
        have hcl := compact_len l'
        rw [hperm.nodup_iff, hperm.length_eq] at hcn
        rw [hperm.length_eq] at hcl
        by_cases hd : (compactS l').length < ns.length
        · have hnd : ¬ns.Nodup := fun h => by have := hcn.2 h; omega
          refine SD.take rfl panicBody (op_lenS Tryz.underlying59 rfl) rfl rfl ?_
          refine SD.take rfl panicBody (op_lssT rfl rfl (by omega)) rfl rfl ?_
          refine SD.take rfl panicBody (op_pickT rfl rfl) rfl rfl ?_
          refine SD.take rfl panicBody (op_assign rfl) rfl rfl ?_
          refine SD.nil ?_
          show SL _ _ _ _ _ _ _ [] _ _ _
          refine SL.nil <| T.condT rfl <| T.seq <| T.region <| SL.v (op_assign (v := .int .i64 ((5 : Nat) : Int)) rfl) <| SL.nil <| T.ret1 rfl (ResIs.tmp rfl) ?_
          rw [node_own (by rw [own5 hA1 hA2 hv hnd]; decide), own5 hA1 hA2 hv hnd]; rfl
        have hnd : ns.Nodup := hcn.1 (by omega)
        have hown := own0' hA1 hA2 hv hnd (by omega)
        have hXB := (hX1.trans' (hX2.trans' hX3)).trans' hX4
        refine SD.take rfl panicBody (op_lenS Tryz.underlying59 rfl) rfl rfl ?_
        refine SD.take rfl panicBody (op_lssF rfl rfl (by omega)) rfl rfl ?_
        refine SD.take rfl panicBody (op_pickT rfl rfl) rfl rfl ?_
        refine SD.take rfl panicBody (op_assign rfl) rfl rfl ?_
        refine SD.nil ?_
        show SL _ _ _ _ _ _ _ [] _ _ _
        refine SL.nil <| T.condF rfl <| T.seq <| T.region <| SL.v (op_fieldAddr fa70_1 rfl) <| SL.v (op_load ty3 rfl (by repeat constructor) rfl) ?_
        refine SL.v (op_lssF rfl rfl (by omega)) ?_
        refine SL.mv rfl <| SL.v (op_fieldAddr fa70_1 rfl) <| SL.v (op_load ty3 rfl (by repeat constructor) rfl) ?_
        refine SL.v (op_gtrF rfl rfl (by omega)) ?_
        refine SL.v (op_pickF rfl rfl) <| SL.as rfl <| SL.nil <| T.condF rfl <| T.skip <| T.blk <| T.seq <| T.seq <| T.region <| SL.v (op_fieldAddr fa70_3 rfl) <| SL.v (op_load ty68 rfl (by repeat constructor) rfl) ?_
        refine SL.v (op_lenS Tryz.underlying68 rfl) <| SL.v (op_move (v := .int .i64 ((0 : Nat) : Int)) rfl) <| SL.nil <| T.block <| T.drop B1 (by repeat constructor) ?_
        refine T.loopW (fun m env own X' => ∃ i : Nat, m = rows.length - i ∧ i ≤ rows.length ∧ X4.le X' ∧ nodeL (al.take i) = 0 ∧ env = [(65, .slice Aa rows.length ca), (66, .int .i64 (rows.length : Int)), (67, .int .i64 (i : Int))] ∧ own = []) rows.length ⟨0, by simp, by omega, PMap.le_refl _, by simp [nodeL], rfl, rfl⟩ (by repeat (first | exact Sub.nil | refine Sub.cons rfl ?_)) ?_
        rintro m _ _ X5 ⟨i, rfl, hi, hX5, hz0, rfl, rfl⟩
        rcases Nat.lt_or_ge i rows.length with hil | hil
        · obtain ⟨r2, hr2⟩ : ∃ r2, rows[i]? = some r2 := ⟨_, List.getElem?_eq_getElem hil⟩
          obtain ⟨a, ha2⟩ : ∃ a, al[i]? = some a := ⟨_, List.getElem?_eq_getElem (by omega)⟩
          have hra := hr i a r2 ha2 hr2
          obtain ⟨bA, pre, rfl, hbA⟩ := ha.blk (by omega)
          obtain ⟨_, _, _, _, _, _, _, _, rfl⟩ := hra.form
          have hwa := wtL_mem (List.mem_of_getElem? ha2)
          refine T.seq <| T.region <| SL.v (op_lssT rfl rfl (by omega)) ?_
          refine SL.nil <| T.seq <| T.condT rfl <| T.skip <| T.seq <| T.block <| T.seq <| T.region <| SL.v (op_indexN Tryz.underlying68 ty70 rfl rfl (by omega)) ?_
          refine SL.v (op_loadX ty70 rfl ((hbA.mono hXB).mono hX5) (row_read rc4_len hr2 (by omega))) ?_
          refine SL.w (op_alloc z70) ?_
          rintro _ _ _ ⟨B4, rfl, rfl, rfl⟩
          refine SL.w (op_store ty70 rfl rfl (by repeat constructor) rfl rfl rfl) ?_
          rintro _ _ _ ⟨rfl, rfl⟩
          refine SL.nil <| T.seq <| T.region <| SL.v (op_load ty70 rfl (by repeat constructor) rfl) ?_
          refine SL.w (op_callF en123 (vs := [_]) rfl (ih (by omega) (by omega) ((hra.mono hXB).mono hX5))) ?_
          rintro _ _ X6 ⟨rfl, hX6, rfl⟩
          by_cases hz : nodeE a = 0
          · skip
            refine SL.as rfl <| SL.nil <| T.seq <| T.region <| SL.mv rfl <| SL.v (op_neqF rfl rfl (by omega)) ?_
            refine SL.nil <| T.condF rfl <| T.skip <| T.blk <| T.region <| SL.v (op_addN (q := 1) rfl rfl (by omega)) ?_
            refine SL.mv rfl <| SL.nil <| T.drop B4 (by repeat constructor) ?_
            exact T.backW (rows.length - (i + 1)) (by omega) ⟨i + 1, rfl, by omega, hX5.trans' hX6, nodeL_snoc hz0 ha2 hz, rfl, rfl⟩ (by repeat (first | exact Sub.nil | refine Sub.cons rfl ?_))
          · refine SL.as rfl <| SL.nil <| T.seq <| T.region <| SL.mv rfl <| SL.v (op_neqT rfl rfl (by omega)) ?_
            refine SL.nil <| T.condT rfl <| T.seq <| T.region <| SL.mv rfl <| SL.as rfl <| SL.nil <| T.ret1 rfl (ResIs.tmp rfl) ?_
            rw [node_args hown, nodeL_at hz0 ha2 hz]
        · obtain rfl : i = rows.length := by omega
          rw [show al.take rows.length = al from List.take_of_length_le (by omega)] at hz0
          refine T.seq <| T.region <| SL.v (op_lssF rfl rfl (by omega)) ?_
          refine SL.nil <| T.seq <| T.condF rfl ?_
          refine T.exit (T.exitCode (T.exitCut (T.exitBlk ?_)))
          refine T.seq <| T.region <| SL.v (op_assign (v := .int .i64 ((0 : Nat) : Int)) rfl) <| SL.nil <| T.ret1 rfl (ResIs.tmp rfl) ?_
          rw [node_args hown, hz0]; rfl
      · have hown := fun hnd => own0' (op := op) (n := n) (ns := ns) (k := al.length) hA1 hA2 hv hnd (by omega)
        have hXB := hX1.trans' (hX2.trans' hX3)
        have hnd : ns.Nodup := nodup_small (by simp only [namN, h5, if_false] at hnm; split at hnm <;> omega)
        have hown := hown hnd
        refine SL.as rfl <| SL.nil <| T.condF rfl <| T.seq <| T.draw (by kernel_rfl) 15 [.t 0, .t 1, .t 2, .t 3, .t 4, .t 5, .t 6, .t 9, .t 10, .t 11, .r 7, .t 8, .t 12, .t 13, .t 14] (by kernel_rfl) ?_
        refine SD.take rfl panicBody (op_fieldAddr fa70_0 rfl) rfl rfl ?_
        refine SD.take rfl panicBody (op_load ty33 rfl (by repeat constructor) rfl) rfl rfl ?_
        refine SD.take rfl panicBody (op_eqlF rfl rfl (by omega)) rfl rfl ?_
        refine SD.take rfl panicBody (op_move rfl) rfl rfl ?_
        refine SD.skip rfl panicBody rfl rfl ?_
        refine SD.skip rfl panicBody rfl rfl ?_
        refine SD.skip rfl panicBody rfl rfl ?_
        refine SD.skip rfl panicBody rfl rfl ?_
        refine SD.skip rfl panicBody rfl rfl ?_
        refine SD.skip rfl panicBody rfl rfl ?_
        refine SD.skipF rfl rfl rfl ?_
        refine SD.skip rfl panicBody rfl rfl ?_
        refine SD.skip rfl panicBody rfl rfl ?_
        refine SD.take rfl panicBody (op_pickF rfl rfl) rfl rfl ?_
        refine SD.take rfl panicBody (op_assign rfl) rfl rfl ?_
        refine SD.nil ?_
        show SL _ _ _ _ _ _ _ [] _ _ _
        refine SL.nil <| T.condF rfl <| T.seq <| T.region <| SL.v (op_fieldAddr fa70_1 rfl) <| SL.v (op_load ty3 rfl (by repeat constructor) rfl) ?_
        refine SL.v (op_lssF rfl rfl (by omega)) ?_
        refine SL.mv rfl <| SL.v (op_fieldAddr fa70_1 rfl) <| SL.v (op_load ty3 rfl (by repeat constructor) rfl) ?_
        refine SL.v (op_gtrF rfl rfl (by omega)) ?_
        refine SL.v (op_pickF rfl rfl) <| SL.as rfl <| SL.nil <| T.condF rfl <| T.skip <| T.blk <| T.seq <| T.seq <| T.region <| SL.v (op_fieldAddr fa70_3 rfl) <| SL.v (op_load ty68 rfl (by repeat constructor) rfl) ?_
        refine SL.v (op_lenS Tryz.underlying68 rfl) <| SL.v (op_move (v := .int .i64 ((0 : Nat) : Int)) rfl) <| SL.nil <| T.block <| T.drop B1 (by repeat constructor) ?_
        refine T.loopW (fun m env own X' => ∃ i : Nat, m = rows.length - i ∧ i ≤ rows.length ∧ X3.le X' ∧ nodeL (al.take i) = 0 ∧ env = [(65, .slice Aa rows.length ca), (66, .int .i64 (rows.length : Int)), (67, .int .i64 (i : Int))] ∧ own = []) rows.length ⟨0, by simp, by omega, PMap.le_refl _, by simp [nodeL], rfl, rfl⟩ (by repeat (first | exact Sub.nil | refine Sub.cons rfl ?_)) ?_
        rintro m _ _ X5 ⟨i, rfl, hi, hX5, hz0, rfl, rfl⟩
        rcases Nat.lt_or_ge i rows.length with hil | hil
        · obtain ⟨r2, hr2⟩ : ∃ r2, rows[i]? = some r2 := ⟨_, List.getElem?_eq_getElem hil⟩
          obtain ⟨a, ha2⟩ : ∃ a, al[i]? = some a := ⟨_, List.getElem?_eq_getElem (by omega)⟩
          have hra := hr i a r2 ha2 hr2
          obtain ⟨bA, pre, rfl, hbA⟩ := ha.blk (by omega)
          obtain ⟨_, _, _, _, _, _, _, _, rfl⟩ := hra.form
          have hwa := wtL_mem (List.mem_of_getElem? ha2)
          refine T.seq <| T.region <| SL.v (op_lssT rfl rfl (by omega)) ?_
          refine SL.nil <| T.seq <| T.condT rfl <| T.skip <| T.seq <| T.block <| T.seq <| T.region <| SL.v (op_indexN Tryz.underlying68 ty70 rfl rfl (by omega)) ?_
          refine SL.v (op_loadX ty70 rfl ((hbA.mono hXB).mono hX5) (row_read rc4_len hr2 (by omega))) ?_
          refine SL.w (op_alloc z70) ?_
          rintro _ _ _ ⟨B4, rfl, rfl, rfl⟩
          refine SL.w (op_store ty70 rfl rfl (by repeat constructor) rfl rfl rfl) ?_
          rintro _ _ _ ⟨rfl, rfl⟩
          refine SL.nil <| T.seq <| T.region <| SL.v (op_load ty70 rfl (by repeat constructor) rfl) ?_
          refine SL.w (op_callF en123 (vs := [_]) rfl (ih (by omega) (by omega) ((hra.mono hXB).mono hX5))) ?_
          rintro _ _ X6 ⟨rfl, hX6, rfl⟩
          by_cases hz : nodeE a = 0
          · skip
            refine SL.as rfl <| SL.nil <| T.seq <| T.region <| SL.mv rfl <| SL.v (op_neqF rfl rfl (by omega)) ?_
            refine SL.nil <| T.condF rfl <| T.skip <| T.blk <| T.region <| SL.v (op_addN (q := 1) rfl rfl (by omega)) ?_
            refine SL.mv rfl <| SL.nil <| T.drop B4 (by repeat constructor) ?_
            exact T.backW (rows.length - (i + 1)) (by omega) ⟨i + 1, rfl, by omega, hX5.trans' hX6, nodeL_snoc hz0 ha2 hz, rfl, rfl⟩ (by repeat (first | exact Sub.nil | refine Sub.cons rfl ?_))
          · refine SL.as rfl <| SL.nil <| T.seq <| T.region <| SL.mv rfl <| SL.v (op_neqT rfl rfl (by omega)) ?_
            refine SL.nil <| T.condT rfl <| T.seq <| T.region <| SL.mv rfl <| SL.as rfl <| SL.nil <| T.ret1 rfl (ResIs.tmp rfl) ?_
            rw [node_args hown, nodeL_at hz0 ha2 hz]
        · obtain rfl : i = rows.length := by omega
          rw [show al.take rows.length = al from List.take_of_length_le (by omega)] at hz0
          refine T.seq <| T.region <| SL.v (op_lssF rfl rfl (by omega)) ?_
          refine SL.nil <| T.seq <| T.condF rfl ?_
          refine T.exit (T.exitCode (T.exitCut (T.exitBlk ?_)))
          refine T.seq <| T.region <| SL.v (op_assign (v := .int .i64 ((0 : Nat) : Int)) rfl) <| SL.nil <| T.ret1 rfl (ResIs.tmp rfl) ?_
          rw [node_args hown, hz0]; rfl
    · have hop : op = 1 := Decidable.not_not.1 fun h => hNN ⟨b1, h⟩
      refine Spec.enter Tryz.func123 rfl Tryz.ntmps123 rfl ?_
      intro w0 hw0
      refine T.seq <| T.region <| SL.w (op_box rfl) ?_
      rintro _ _ _ ⟨B1, rfl, rfl, rfl⟩
      refine SL.v (op_assign (v := .int .i64 ((0 : Nat) : Int)) rfl) <| SL.nil <| T.seq <| T.block <| T.seq <| T.draw (by kernel_rfl) 18 [.t 0, .t 1, .t 2, .t 3, .t 4, .t 5, .t 6, .t 7, .t 8, .t 9, .t 10, .t 11, .t 12, .t 13, .r 14, .t 15, .t 16, .t 17] (by kernel_rfl) ?_
      refine SD.take rfl panicBody (op_fieldAddr fa70_0 rfl) rfl rfl ?_
      refine SD.take rfl panicBody (op_load ty33 rfl (by repeat constructor) rfl) rfl rfl ?_
      refine SD.take rfl panicBody (op_lssF rfl rfl (by omega)) rfl rfl ?_
      refine SD.take rfl panicBody (op_move rfl) rfl rfl ?_
      refine SD.take rfl panicBody (op_fieldAddr fa70_0 rfl) rfl rfl ?_
      refine SD.take rfl panicBody (op_load ty33 rfl (by repeat constructor) rfl) rfl rfl ?_
      refine SD.take rfl panicBody (op_gtrF rfl rfl (by omega)) rfl rfl ?_
      refine SD.take rfl panicBody (op_pickF rfl rfl) rfl rfl ?_
      refine SD.take rfl panicBody (op_move rfl) rfl rfl ?_
      refine SD.take rfl panicBody (op_fieldAddr fa70_3 rfl) rfl rfl ?_
      refine SD.take rfl panicBody (op_load ty68 rfl (by repeat constructor) rfl) rfl rfl ?_
      refine SD.take rfl panicBody (op_lenS Tryz.underlying68 rfl) rfl rfl ?_
      refine SD.take rfl panicBody (op_fieldAddr fa70_0 rfl) rfl rfl ?_
      refine SD.take rfl panicBody (op_load ty33 rfl (by repeat constructor) rfl) rfl rfl ?_
      refine SD.run rfl (op_callF en163 (vs := [_]) rfl (argN_spec)) rfl rfl ?_
      rintro _ _ X1 ⟨rfl, hX1, rfl⟩
      rw [← hl] at a3
      refine SD.take rfl panicBody (op_neqF rfl rfl (by omega)) rfl rfl ?_
      refine SD.take rfl panicBody (op_pickF rfl rfl) rfl rfl ?_
      refine SD.take rfl panicBody (op_assign rfl) rfl rfl ?_
      refine SD.nil ?_
      show SL _ _ _ _ _ _ _ [] _ _ _
      refine SL.nil <| T.condF rfl <| T.seq <| T.seq <| T.region <| SL.v (op_fieldAddr fa70_1 rfl) <| SL.v (op_load ty3 rfl (by repeat constructor) rfl) ?_
      refine SL.v (op_neqT rfl rfl (by omega)) ?_
      refine SL.mv rfl <| SL.v (op_fieldAddr fa70_0 rfl) <| SL.v (op_load ty33 rfl (by repeat constructor) rfl) ?_
      refine SL.v (op_neqF rfl rfl (by omega)) ?_
      refine SL.v (op_pickT rfl rfl) <| SL.as rfl <| SL.nil <| T.condF rfl <| T.region <| SL.v (op_load ty70 rfl (by repeat constructor) rfl) ?_
      refine SL.w (op_callF en164 (vs := [_]) rfl (named_spec (by omega))) ?_
      rintro _ _ X2 ⟨rfl, hX2, rfl⟩
      by_cases hnm : namN op ns.length
      case neg =>
        rw [decide_eq_false hnm]
        refine SL.v (op_not rfl) <| SL.as rfl <| SL.nil <| T.condT rfl <| T.seq <| T.region <| SL.v (op_assign (v := .int .i64 ((6 : Nat) : Int)) rfl) <| SL.nil <| T.ret1 rfl (ResIs.tmp rfl) ?_
        rw [node_own (by rw [own6 hA1 (.inr hnm)]; decide), own6 hA1 (.inr hnm)]; rfl
      rw [decide_eq_true hnm]
      have hA2 : ¬((n ≠ 0 ∧ op ≠ 1) ∨ ¬namN op ns.length) := fun h => h.elim (fun h => hNN h) (fun h => h hnm)
      refine SL.v (op_not rfl) <| SL.as rfl <| SL.nil <| T.condF rfl <| T.seq <| T.region <| SL.v (op_fieldAddr fa70_2 rfl) <| SL.v (op_load ty59 rfl (by repeat constructor) rfl) ?_
      refine SL.w (op_callF en165 (vs := [_, _]) rfl (contf_spec ((hn.mono hX1).mono hX2) (by omega))) ?_
      rintro _ _ X3 ⟨rfl, hX3, bv, rfl, hbv⟩
      cases bv with
      | true =>
        have hv := hbv.1 rfl
        refine SL.as rfl <| SL.nil <| T.condT rfl <| T.seq <| T.region <| SL.v (op_assign (v := .int .i64 ((9 : Nat) : Int)) rfl) <| SL.nil <| T.ret1 rfl (ResIs.tmp rfl) ?_
        rw [node_own (by rw [own9 hA1 hA2 hv]; decide), own9 hA1 hA2 hv]; rfl
      | false =>
      have hv : ∀ s ∈ ns, validS s := Classical.not_not.1 fun h => by have := hbv.2 h; cases this
      have hnd : ns.Nodup := nodup_small (by simp [namN, hop] at hnm; rw [hnm]; simp)
      have hXB := hX1.trans' (hX2.trans' hX3)
      by_cases hlo : n < 0
      · have e := own2 hA1 hA2 hv hnd (.inl hlo)
        refine SL.as rfl <| SL.nil <| T.condF rfl <| T.seq <| T.draw (by kernel_rfl) 15 [.t 0, .t 1, .t 2, .t 3, .t 4, .t 5, .t 6, .t 9, .t 10, .t 11, .r 7, .t 8, .t 12, .t 13, .t 14] (by kernel_rfl) ?_
        refine SD.take rfl panicBody (op_fieldAddr fa70_0 rfl) rfl rfl ?_
        refine SD.take rfl panicBody (op_load ty33 rfl (by repeat constructor) rfl) rfl rfl ?_
        refine SD.take rfl panicBody (op_eqlF rfl rfl (by omega)) rfl rfl ?_
        refine SD.take rfl panicBody (op_move rfl) rfl rfl ?_
        refine SD.skip rfl panicBody rfl rfl ?_
        refine SD.skip rfl panicBody rfl rfl ?_
        refine SD.skip rfl panicBody rfl rfl ?_
        refine SD.skip rfl panicBody rfl rfl ?_
        refine SD.skip rfl panicBody rfl rfl ?_
        refine SD.skip rfl panicBody rfl rfl ?_
        refine SD.skipF rfl rfl rfl ?_
        refine SD.skip rfl panicBody rfl rfl ?_
        refine SD.skip rfl panicBody rfl rfl ?_
        refine SD.take rfl panicBody (op_pickF rfl rfl) rfl rfl ?_
        refine SD.take rfl panicBody (op_assign rfl) rfl rfl ?_
        refine SD.nil ?_
        show SL _ _ _ _ _ _ _ [] _ _ _
        refine SL.nil <| T.condF rfl <| T.seq <| T.region <| SL.v (op_fieldAddr fa70_1 rfl) <| SL.v (op_load ty3 rfl (by repeat constructor) rfl) ?_
        refine SL.v (op_lssT rfl rfl (by omega)) ?_
        refine SL.mv rfl <| SL.skip rfl rfl ?_
        refine SL.skip rfl rfl ?_
        refine SL.skip rfl rfl ?_
        refine SL.v (op_pickT rfl rfl) <| SL.as rfl <| SL.nil <| T.condT rfl <| T.seq <| T.region <| SL.v (op_assign (v := .int .i64 ((2 : Nat) : Int)) rfl) <| SL.nil <| T.ret1 rfl (ResIs.tmp rfl) ?_
        rw [node_own (by rw [e]; decide), e]; rfl
      by_cases hhi : 999999 < n
      · have e := own2 hA1 hA2 hv hnd (.inr hhi)
        refine SL.as rfl <| SL.nil <| T.condF rfl <| T.seq <| T.draw (by kernel_rfl) 15 [.t 0, .t 1, .t 2, .t 3, .t 4, .t 5, .t 6, .t 9, .t 10, .t 11, .r 7, .t 8, .t 12, .t 13, .t 14] (by kernel_rfl) ?_
        refine SD.take rfl panicBody (op_fieldAddr fa70_0 rfl) rfl rfl ?_
        refine SD.take rfl panicBody (op_load ty33 rfl (by repeat constructor) rfl) rfl rfl ?_
        refine SD.take rfl panicBody (op_eqlF rfl rfl (by omega)) rfl rfl ?_
        refine SD.take rfl panicBody (op_move rfl) rfl rfl ?_
        refine SD.skip rfl panicBody rfl rfl ?_
        refine SD.skip rfl panicBody rfl rfl ?_
        refine SD.skip rfl panicBody rfl rfl ?_
        refine SD.skip rfl panicBody rfl rfl ?_
        refine SD.skip rfl panicBody rfl rfl ?_
        refine SD.skip rfl panicBody rfl rfl ?_
        refine SD.skipF rfl rfl rfl ?_
        refine SD.skip rfl panicBody rfl rfl ?_
        refine SD.skip rfl panicBody rfl rfl ?_
        refine SD.take rfl panicBody (op_pickF rfl rfl) rfl rfl ?_
        refine SD.take rfl panicBody (op_assign rfl) rfl rfl ?_
        refine SD.nil ?_
        show SL _ _ _ _ _ _ _ [] _ _ _
        refine SL.nil <| T.condF rfl <| T.seq <| T.region <| SL.v (op_fieldAddr fa70_1 rfl) <| SL.v (op_load ty3 rfl (by repeat constructor) rfl) ?_
        refine SL.v (op_lssF rfl rfl (by omega)) ?_
        refine SL.mv rfl <| SL.v (op_fieldAddr fa70_1 rfl) <| SL.v (op_load ty3 rfl (by repeat constructor) rfl) ?_
        refine SL.v (op_gtrT rfl rfl (by omega)) ?_
        refine SL.v (op_pickF rfl rfl) <| SL.as rfl <| SL.nil <| T.condT rfl <| T.seq <| T.region <| SL.v (op_assign (v := .int .i64 ((2 : Nat) : Int)) rfl) <| SL.nil <| T.ret1 rfl (ResIs.tmp rfl) ?_
        rw [node_own (by rw [e]; decide), e]; rfl
      have hown := own0' hA1 hA2 hv hnd (by omega)
      refine SL.as rfl <| SL.nil <| T.condF rfl <| T.seq <| T.draw (by kernel_rfl) 15 [.t 0, .t 1, .t 2, .t 3, .t 4, .t 5, .t 6, .t 9, .t 10, .t 11, .r 7, .t 8, .t 12, .t 13, .t 14] (by kernel_rfl) ?_
      refine SD.take rfl panicBody (op_fieldAddr fa70_0 rfl) rfl rfl ?_
      refine SD.take rfl panicBody (op_load ty33 rfl (by repeat constructor) rfl) rfl rfl ?_
      refine SD.take rfl panicBody (op_eqlF rfl rfl (by omega)) rfl rfl ?_
      refine SD.take rfl panicBody (op_move rfl) rfl rfl ?_
      refine SD.skip rfl panicBody rfl rfl ?_
      refine SD.skip rfl panicBody rfl rfl ?_
      refine SD.skip rfl panicBody rfl rfl ?_
      refine SD.skip rfl panicBody rfl rfl ?_
      refine SD.skip rfl panicBody rfl rfl ?_
      refine SD.skip rfl panicBody rfl rfl ?_
      refine SD.skipF rfl rfl rfl ?_
      refine SD.skip rfl panicBody rfl rfl ?_
      refine SD.skip rfl panicBody rfl rfl ?_
      refine SD.take rfl panicBody (op_pickF rfl rfl) rfl rfl ?_
      refine SD.take rfl panicBody (op_assign rfl) rfl rfl ?_
      refine SD.nil ?_
      show SL _ _ _ _ _ _ _ [] _ _ _
      refine SL.nil <| T.condF rfl <| T.seq <| T.region <| SL.v (op_fieldAddr fa70_1 rfl) <| SL.v (op_load ty3 rfl (by repeat constructor) rfl) ?_
      refine SL.v (op_lssF rfl rfl (by omega)) ?_
      refine SL.mv rfl <| SL.v (op_fieldAddr fa70_1 rfl) <| SL.v (op_load ty3 rfl (by repeat constructor) rfl) ?_
      refine SL.v (op_gtrF rfl rfl (by omega)) ?_
      refine SL.v (op_pickF rfl rfl) <| SL.as rfl <| SL.nil <| T.condF rfl <| T.skip <| T.blk <| T.seq <| T.seq <| T.region <| SL.v (op_fieldAddr fa70_3 rfl) <| SL.v (op_load ty68 rfl (by repeat constructor) rfl) ?_
      refine SL.v (op_lenS Tryz.underlying68 rfl) <| SL.v (op_move (v := .int .i64 ((0 : Nat) : Int)) rfl) <| SL.nil <| T.block <| T.drop B1 (by repeat constructor) ?_
      refine T.loopW (fun m env own X' => ∃ i : Nat, m = rows.length - i ∧ i ≤ rows.length ∧ X3.le X' ∧ nodeL (al.take i) = 0 ∧ env = [(65, .slice Aa rows.length ca), (66, .int .i64 (rows.length : Int)), (67, .int .i64 (i : Int))] ∧ own = []) rows.length ⟨0, by simp, by omega, PMap.le_refl _, by simp [nodeL], rfl, rfl⟩ (by repeat (first | exact Sub.nil | refine Sub.cons rfl ?_)) ?_
      rintro m _ _ X5 ⟨i, rfl, hi, hX5, hz0, rfl, rfl⟩
      rcases Nat.lt_or_ge i rows.length with hil | hil
      · obtain ⟨r2, hr2⟩ : ∃ r2, rows[i]? = some r2 := ⟨_, List.getElem?_eq_getElem hil⟩
        obtain ⟨a, ha2⟩ : ∃ a, al[i]? = some a := ⟨_, List.getElem?_eq_getElem (by omega)⟩
        have hra := hr i a r2 ha2 hr2
        obtain ⟨bA, pre, rfl, hbA⟩ := ha.blk (by omega)
        obtain ⟨_, _, _, _, _, _, _, _, rfl⟩ := hra.form
        have hwa := wtL_mem (List.mem_of_getElem? ha2)
        refine T.seq <| T.region <| SL.v (op_lssT rfl rfl (by omega)) ?_
        refine SL.nil <| T.seq <| T.condT rfl <| T.skip <| T.seq <| T.block <| T.seq <| T.region <| SL.v (op_indexN Tryz.underlying68 ty70 rfl rfl (by omega)) ?_
        refine SL.v (op_loadX ty70 rfl ((hbA.mono hXB).mono hX5) (row_read rc4_len hr2 (by omega))) ?_
        refine SL.w (op_alloc z70) ?_
        rintro _ _ _ ⟨B4, rfl, rfl, rfl⟩
        refine SL.w (op_store ty70 rfl rfl (by repeat constructor) rfl rfl rfl) ?_
        rintro _ _ _ ⟨rfl, rfl⟩
        refine SL.nil <| T.seq <| T.region <| SL.v (op_load ty70 rfl (by repeat constructor) rfl) ?_
        refine SL.w (op_callF en123 (vs := [_]) rfl (ih (by omega) (by omega) ((hra.mono hXB).mono hX5))) ?_
        rintro _ _ X6 ⟨rfl, hX6, rfl⟩
        by_cases hz : nodeE a = 0
        · skip
          refine SL.as rfl <| SL.nil <| T.seq <| T.region <| SL.mv rfl <| SL.v (op_neqF rfl rfl (by omega)) ?_
          refine SL.nil <| T.condF rfl <| T.skip <| T.blk <| T.region <| SL.v (op_addN (q := 1) rfl rfl (by omega)) ?_
          refine SL.mv rfl <| SL.nil <| T.drop B4 (by repeat constructor) ?_
          exact T.backW (rows.length - (i + 1)) (by omega) ⟨i + 1, rfl, by omega, hX5.trans' hX6, nodeL_snoc hz0 ha2 hz, rfl, rfl⟩ (by repeat (first | exact Sub.nil | refine Sub.cons rfl ?_))
        · refine SL.as rfl <| SL.nil <| T.seq <| T.region <| SL.mv rfl <| SL.v (op_neqT rfl rfl (by omega)) ?_
          refine SL.nil <| T.condT rfl <| T.seq <| T.region <| SL.mv rfl <| SL.as rfl <| SL.nil <| T.ret1 rfl (ResIs.tmp rfl) ?_
          rw [node_args hown, nodeL_at hz0 ha2 hz]
      · obtain rfl : i = rows.length := by omega
        rw [show al.take rows.length = al from List.take_of_length_le (by omega)] at hz0
        refine T.seq <| T.region <| SL.v (op_lssF rfl rfl (by omega)) ?_
        refine SL.nil <| T.seq <| T.condF rfl ?_
        refine T.exit (T.exitCode (T.exitCut (T.exitBlk ?_)))
        refine T.seq <| T.region <| SL.v (op_assign (v := .int .i64 ((0 : Nat) : Int)) rfl) <| SL.nil <| T.ret1 rfl (ResIs.tmp rfl) ?_
        rw [node_args hown, hz0]; rfl
/-- The error of an expression. -/
theorem chk_spec {X : PMap} {e : Ex} {r : Row4} (hw : wtE e < 100000000) (h : ExR .u8 X e r) : Spec Tryz.prog 73 [.agg #[r.1, r.2.1, r.2.2.1, r.2.2.2]] X fun u _ => u = .int .i64 (chkE e) := by
  obtain ⟨_, _, _, _, _, _, _, _, rfl⟩ := h.form
  have hd := dep_wt e
  have hs := siz_wt e
  by_cases h1 : 10 < depE e
  · refine Spec.enter Tryz.func73 rfl Tryz.ntmps73 rfl ?_
    intro w0 hw0
    refine T.seq <| T.region <| SL.w (op_box rfl) ?_
    rintro _ _ _ ⟨B1, rfl, rfl, rfl⟩
    refine SL.v (op_assign (v := .int .i64 ((0 : Nat) : Int)) rfl) <| SL.nil <| T.seq <| T.seq <| T.region <| SL.v (op_load ty70 rfl (by repeat constructor) rfl) ?_
    refine SL.w (op_callF en121 (vs := [_]) rfl (depth_spec _ (Nat.le_refl _) (by omega) h)) ?_
    rintro _ _ X1 ⟨rfl, hX1, rfl⟩
    refine SL.v (op_gtrT rfl rfl (by omega)) ?_
    refine SL.mv rfl <| SL.skip rfl rfl ?_
    refine SL.skip rfl rfl ?_
    refine SL.skip rfl rfl ?_
    refine SL.v (op_pickT rfl rfl) <| SL.nil <| T.condT rfl <| T.seq <| T.region <| SL.v (op_assign (v := .int .i64 ((3 : Nat) : Int)) rfl) <| SL.nil <| T.ret1 rfl (ResIs.tmp rfl) ?_
    rw [chkE, if_pos (.inl h1)]; rfl
  · by_cases h2 : 200 < sizE e
    · refine Spec.enter Tryz.func73 rfl Tryz.ntmps73 rfl ?_
      intro w0 hw0
      refine T.seq <| T.region <| SL.w (op_box rfl) ?_
      rintro _ _ _ ⟨B1, rfl, rfl, rfl⟩
      refine SL.v (op_assign (v := .int .i64 ((0 : Nat) : Int)) rfl) <| SL.nil <| T.seq <| T.seq <| T.region <| SL.v (op_load ty70 rfl (by repeat constructor) rfl) ?_
      refine SL.w (op_callF en121 (vs := [_]) rfl (depth_spec _ (Nat.le_refl _) (by omega) h)) ?_
      rintro _ _ X1 ⟨rfl, hX1, rfl⟩
      refine SL.v (op_gtrF rfl rfl (by omega)) ?_
      refine SL.mv rfl <| SL.v (op_load ty70 rfl (by repeat constructor) rfl) ?_
      refine SL.w (op_callF en122 (vs := [_]) rfl (size_spec _ (Nat.le_refl _) (by omega) (h.mono hX1))) ?_
      rintro _ _ X2 ⟨rfl, hX2, rfl⟩
      refine SL.v (op_gtrT rfl rfl (by omega)) ?_
      refine SL.v (op_pickF rfl rfl) <| SL.nil <| T.condT rfl <| T.seq <| T.region <| SL.v (op_assign (v := .int .i64 ((3 : Nat) : Int)) rfl) <| SL.nil <| T.ret1 rfl (ResIs.tmp rfl) ?_
      rw [chkE, if_pos (.inr h2)]; rfl
    · refine Spec.enter Tryz.func73 rfl Tryz.ntmps73 rfl ?_
      intro w0 hw0
      refine T.seq <| T.region <| SL.w (op_box rfl) ?_
      rintro _ _ _ ⟨B1, rfl, rfl, rfl⟩
      refine SL.v (op_assign (v := .int .i64 ((0 : Nat) : Int)) rfl) <| SL.nil <| T.seq <| T.seq <| T.region <| SL.v (op_load ty70 rfl (by repeat constructor) rfl) ?_
      refine SL.w (op_callF en121 (vs := [_]) rfl (depth_spec _ (Nat.le_refl _) (by omega) h)) ?_
      rintro _ _ X1 ⟨rfl, hX1, rfl⟩
      refine SL.v (op_gtrF rfl rfl (by omega)) ?_
      refine SL.mv rfl <| SL.v (op_load ty70 rfl (by repeat constructor) rfl) ?_
      refine SL.w (op_callF en122 (vs := [_]) rfl (size_spec _ (Nat.le_refl _) (by omega) (h.mono hX1))) ?_
      rintro _ _ X2 ⟨rfl, hX2, rfl⟩
      refine SL.v (op_gtrF rfl rfl (by omega)) ?_
      refine SL.v (op_pickF rfl rfl) <| SL.nil <| T.condF rfl <| T.skip <| T.seq <| T.region <| SL.v (op_load ty70 rfl (by repeat constructor) rfl) ?_
      refine SL.w (op_callF en123 (vs := [_]) rfl (node_spec _ (Nat.le_refl _) (by omega) ((h.mono hX1).mono hX2))) ?_
      rintro _ _ X3 ⟨rfl, hX3, rfl⟩
      refine SL.as rfl <| SL.nil <| T.ret1 rfl (ResIs.tmp rfl) ?_
      rw [chkE, if_neg (by omega)]
end Go.Proofs.YtnpcilglilfajaaGreatDoor
namespace Go.Proofs.YtnpcilglilfajaaGreatDoor
open Go.RowKit
end Go.Proofs.YtnpcilglilfajaaGreatDoor
namespace Go.Proofs.YtnpcilglilfajaaGreatDoor
open Go.RowKit
end Go.Proofs.YtnpcilglilfajaaGreatDoor
namespace Go.Proofs.YtnpcilglilfajaaGreatDoor
section
set_option maxRecDepth 100000
theorem en86 : Enters Tryz.prog 86 := enters_mk Tryz.func86 (by kernel_rfl) rfl
end
open Go.RowKit
theorem word6_spec {X : PMap} {n : Nat} (hn : n < 256) : Spec Tryz.prog 86 [.int .u8 (n : Int)] X fun u _ => u = .string (word6 n) := by
  have h6 : n % 6 < 6 := Nat.mod_lt _ (by omega)
  have hw := strsC_at (word6_at n)
  refine Spec.enter Tryz.func86 rfl Tryz.ntmps86 rfl ?_
  intro w0 hw0
  refine T.seq <| T.region <| SL.as rfl <| SL.nil <| T.seq <| T.region <| SL.w (op_buildSlice Tryz.underlying59 bs9 (qs := [(0, _), (1, _), (2, _), (3, _), (4, _), (5, _)]) rfl rfl rfl rfl rfl) ?_
  rintro _ _ _ ⟨B4, rfl, rfl, rfl⟩
  refine SL.as rfl <| SL.nil <| T.seq <| T.region <| SL.mv rfl <| SL.mv rfl <| SL.v (op_convI64 Tryz.underlying5 Tryz.underlying3 rfl (by omega) (by omega)) ?_
  refine SL.mv rfl <| SL.v (op_lenS Tryz.underlying59 rfl) <| SL.v (op_remN (q := 6) rfl rfl rfl (by omega)) ?_
  refine SL.v (op_indexN Tryz.underlying59 ty9 rfl rfl (by omega)) ?_
  refine SL.v (op_load ty9 rfl (by repeat constructor) (cread1k' hw (by omega))) ?_
  refine SL.as rfl <| SL.nil <| T.ret1 rfl (ResIs.tmp rfl) ?_
  rfl
theorem perm4 {a b c d : Ow} {G O : Own} : (a :: b :: c :: d :: (G ++ O)).Perm ((a :: b :: c :: d :: O) ++ G) := .cons _ (.cons _ (.cons _ (.cons _ (show (G ++ O).Perm (O ++ G) from List.perm_append_comm))))
end Go.Proofs.YtnpcilglilfajaaGreatDoor
namespace Go.Proofs.YtnpcilglilfajaaGreatDoor
section
set_option maxRecDepth 100000
theorem bs70 : ∃ i z, Tryz.prog.info? 70 = some i ∧ i.size = 4 ∧ i.zero = some z ∧ z.cells = ([.int .u8 0, .int .i64 0, .slice none 0 0, .slice none 0 0] : List Value).toArray := bs_of (by kernel_rfl)
end
open Go.RowKit
end Go.Proofs.YtnpcilglilfajaaGreatDoor
namespace Go.Proofs.YtnpcilglilfajaaGreatDoor
section
set_option maxRecDepth 100000
theorem en157 : Enters Tryz.prog 157 := enters_mk Tryz.func157 (by kernel_rfl) rfl
theorem en189 : Enters Tryz.prog 189 := enters_mk Tryz.func189 (by kernel_rfl) rfl
theorem en207 : Enters Tryz.prog 207 := enters_mk Tryz.func207 (by kernel_rfl) rfl
theorem fa192_0 : FAdr Tryz.prog 192 0 0 := fadr_mk Tryz.underlying192 rfl rfl (by kernel_rfl)
theorem ty190 : Ty Tryz.prog 190 false 1 := ⟨⟨_, Tryz.underlying190, rfl⟩, by kernel_rfl⟩
end
open Go.RowKit
section
variable {ro : Option Nat} {P : Program} {n : NM} {w0 : Base} {X0 X : PMap} {own : Own} {env : Env}
/-- A part of a string. -/
theorem op_sliceStr {t : TypeId} {x lo hi : Operand} {s : ByteArray} {l h : Nat} {k k' : IntKind} (ht : P.underlying t = some .string) (hx : eev env x = some (.string s)) (hl : eev env lo = some (.int k (l : Int))) (hh : eev env hi = some (.int k' (h : Int))) (h1 : l ≤ h) (h2 : h ≤ s.size) :
    OpY P n env own X (.slice t x (some lo) (some hi) none) (.string (s.extract l h)) := by
  intro a W oper hop ha _
  have hb : (Instr.sliceBounds false s.size s.size (some (.int k (l : Int))) (some (.int k' (h : Int))) none).run P W = .ok (l, h, s.size) W := by
    simp [Instr.sliceBounds, Instr.sliceBound, asIntOf, h2, h1]
  have : (Instr.sliceAt t (.string s) (some (.int k (l : Int))) (some (.int k' (h : Int))) none).run P W = .ok (.string (s.extract l h)) W := by
    simp only [Instr.sliceAt, Sem.run_bind, run_underlying ht, Result.andThen_ok, Instr.slice]
    simp [hb]
  simp [execOp, hop, ha.eval hx, ha.eval hl, ha.eval hh, this]
theorem op_eqlStr {t t' : TypeId} {x y : Operand} {s s' : ByteArray} (_ht : P.underlying t = some .string) (hx : eev env x = some (.string s)) (hy : eev env y = some (.string s')) : OpY P n env own X (.binOp .eql t x y t') (.bool (s.toList == s'.toList)) := by
  intro a W oper hop ha _
  have h0 : ∀ (e : BinOp) (u v : Operand), eqGuard e t u v (.string s) (.string s') = pure () := fun e u v => by cases e <;> rfl
  have h2 : (Op.stringOp .eql s s').run P W = .ok (.bool (s.toList == s'.toList)) W := by simp [Op.stringOp]
  simp only [execOp, hop, ha.eval hx, ha.eval hy, binOp, h0, Sem.run_bind, Sem.run_pure, Result.andThen_ok, h2]
end
theorem small_spec {X : PMap} (i : Nat) (hi : i < 10) : Spec Tryz.prog 207 [.int .i64 (i : Int)] X fun u _ => u = .string ⟨#[UInt8.ofNat (48 + i)]⟩ := by
  refine Spec.enter Tryz.func207 rfl Tryz.ntmps207 rfl ?_
  intro w0 hw0
  refine T.seq <| T.region <| SL.as rfl <| SL.nil <| T.seq <| T.seq <| T.region <| SL.mv rfl <| SL.v (op_lssT rfl rfl (by omega)) ?_
  refine SL.nil <| T.condT rfl <| T.seq <| T.region <| SL.mv rfl <| SL.mv rfl <| SL.v (op_addN (q := 1) rfl rfl (by omega)) ?_
  refine SL.v (op_sliceStr (l := i) (h := i + 1) Tryz.underlying9 rfl rfl rfl (by omega) (by show i + 1 ≤ 36; omega)) ?_
  refine SL.as rfl <| SL.nil <| T.ret1 rfl (ResIs.tmp rfl) ?_
  congr 1
  match i, hi with
  | 0, _ => rfl
  | 1, _ => rfl
  | 2, _ => rfl
  | 3, _ => rfl
  | 4, _ => rfl
  | 5, _ => rfl
  | 6, _ => rfl
  | 7, _ => rfl
  | 8, _ => rfl
  | 9, _ => rfl
theorem fmtInt_spec {X : PMap} (i : Nat) (hi : i < 10) : Spec Tryz.prog 189 [.int .i64 (i : Int), .int .i64 10] X fun u _ => u = .string ⟨#[UInt8.ofNat (48 + i)]⟩ := by
  refine Spec.enter Tryz.func189 rfl Tryz.ntmps189 rfl ?_
  intro w0 hw0
  refine T.seq <| T.region <| SL.as rfl <| SL.nil <| T.seq <| T.seq <| T.region <| SL.mv rfl <| SL.v (op_eqlT rfl rfl (by omega)) ?_
  refine SL.nil <| T.condT rfl <| T.seq <| T.seq <| T.region <| SL.mv rfl <| SL.v (op_leqT rfl rfl (by omega)) ?_
  refine SL.mv rfl <| SL.mv rfl <| SL.v (op_lssT rfl rfl (by omega)) ?_
  refine SL.v (op_pickT rfl rfl) <| SL.nil <| T.condT rfl <| T.seq <| T.region <| SL.mv rfl <| SL.w (op_callF en207 (vs := [_]) rfl (small_spec i hi)) ?_
  rintro _ _ X1 ⟨rfl, hX1, rfl⟩
  refine SL.as rfl <| SL.nil <| T.ret1 rfl (ResIs.tmp rfl) ?_
  rfl
theorem itoaI_spec {X : PMap} (i : Nat) (hi : i < 10) : Spec Tryz.prog 157 [.int .i64 (i : Int)] X fun u _ => u = .string ⟨#[UInt8.ofNat (48 + i)]⟩ := by
  refine Spec.enter Tryz.func157 rfl Tryz.ntmps157 rfl ?_
  intro w0 hw0
  refine T.seq <| T.region <| SL.as rfl <| SL.nil <| T.seq <| T.region <| SL.mv rfl <| SL.w (op_callF en189 (vs := [_, _]) rfl (fmtInt_spec i hi)) ?_
  rintro _ _ X1 ⟨rfl, hX1, rfl⟩
  refine SL.as rfl <| SL.nil <| T.ret1 rfl (ResIs.tmp rfl) ?_
  rfl
theorem itoa_spec {X : PMap} (i : Nat) (hi : i < 10) : Spec Tryz.prog 109 [.int .i64 (i : Int)] X fun u _ => u = .string ⟨#[UInt8.ofNat (48 + i)]⟩ := by
  refine Spec.enter Tryz.func109 rfl Tryz.ntmps109 rfl ?_
  intro w0 hw0
  refine T.seq <| T.region <| SL.as rfl <| SL.nil <| T.seq <| T.region <| SL.mv rfl <| SL.w (op_callF en157 (vs := [_]) rfl (itoaI_spec i hi)) ?_
  rintro _ _ X1 ⟨rfl, hX1, rfl⟩
  refine SL.as rfl <| SL.nil <| T.ret1 rfl (ResIs.tmp rfl) ?_
  rfl
/-- A builder. -/
abbrev BldO (b : Nat) (p s : Value) : Ow := ⟨b, [p, s], 192, 2⟩
theorem copyCheck_spec {X : PMap} {b : Nat} {p s : Value} (hp : p = .pointer none ∨ p = .pointer (some ⟨b, 0, none⟩)) : SpecM Tryz.prog 156 [.pointer (some ⟨b, 0, none⟩)] X [BldO b p s] fun u L' _ => u = .tuple #[] ∧ L' = [BldO b (.pointer (some ⟨b, 0, none⟩)) s] := by
  rcases hp with rfl | rfl
  · refine SpecM.enter Tryz.func156 rfl Tryz.ntmps156 rfl ?_
    intro w0 X0 own0
    refine T.seq <| T.region <| SL.mv rfl <| SL.v (op_nil rfl) <| SL.v (op_fieldAddr fa192_0 rfl) <| SL.v (op_load ty190 rfl (by repeat constructor) rfl) ?_
    refine SL.v (op_eqlNil Tryz.underlying190 rfl rfl) <| SL.nil <| T.condT rfl <| T.region <| SL.mv rfl <| SL.mv rfl <| SL.v (op_toUns (size := 1) Tryz.underlying190 Tryz.underlying260 (by kernel_rfl) rfl AtO.here (by omega)) ?_
    refine SL.v (op_noEsc Tryz.func188 (by kernel_rfl) (by kernel_rfl) (by kernel_rfl) (by kernel_rfl) rfl) ?_
    refine SL.v (op_fromUns (size := 2) Tryz.underlying260 Tryz.underlying190 (by kernel_rfl) rfl AtO.here (by kernel_rfl)) ?_
    refine SL.v (op_nil rfl) <| SL.v (op_fieldAddr fa192_0 rfl) <| SL.w (op_store ty190 rfl rfl (by repeat constructor) rfl rfl rfl) ?_
    rintro _ _ _ ⟨rfl, rfl⟩
    refine SL.nil <| T.doneM0 [BldO b (.pointer (some ⟨b, 0, none⟩)) s] rfl (List.Perm.refl _) ?_
    exact ⟨PMap.le_refl _, rfl, rfl⟩
  · refine SpecM.enter Tryz.func156 rfl Tryz.ntmps156 rfl ?_
    intro w0 X0 own0
    refine T.seq <| T.region <| SL.mv rfl <| SL.v (op_nil rfl) <| SL.v (op_fieldAddr fa192_0 rfl) <| SL.v (op_load ty190 rfl (by repeat constructor) rfl) ?_
    refine SL.v (op_eqlNil Tryz.underlying190 rfl rfl) <| SL.nil <| T.condF rfl <| T.seq <| T.region <| SL.mv rfl <| SL.v (op_nil rfl) <| SL.v (op_fieldAddr fa192_0 rfl) <| SL.v (op_load ty190 rfl (by repeat constructor) rfl) ?_
    refine SL.mv rfl <| SL.v (op_neqSame (size := 2) Tryz.underlying190 (by kernel_rfl) rfl rfl) ?_
    refine SL.nil <| T.condF rfl <| T.skip <| T.doneM0 [BldO b (.pointer (some ⟨b, 0, none⟩)) s] rfl (List.Perm.refl _) ?_
    exact ⟨PMap.le_refl _, rfl, rfl⟩
end Go.Proofs.YtnpcilglilfajaaGreatDoor
namespace Go.Proofs.YtnpcilglilfajaaGreatDoor
section
set_option maxRecDepth 100000
theorem en106 : Enters Tryz.prog 106 := enters_mk Tryz.func106 (by kernel_rfl) rfl
theorem en107 : Enters Tryz.prog 107 := enters_mk Tryz.func107 (by kernel_rfl) rfl
theorem en108 : Enters Tryz.prog 108 := enters_mk Tryz.func108 (by kernel_rfl) rfl
theorem en109 : Enters Tryz.prog 109 := enters_mk Tryz.func109 (by kernel_rfl) rfl
theorem en110 : Enters Tryz.prog 110 := enters_mk Tryz.func110 (by kernel_rfl) rfl
theorem en156 : Enters Tryz.prog 156 := enters_mk Tryz.func156 (by kernel_rfl) rfl
theorem fa192_1 : FAdr Tryz.prog 192 1 1 := fadr_mk Tryz.underlying192 rfl rfl (by kernel_rfl)
theorem ty44 : Ty Tryz.prog 44 false 1 := ⟨⟨_, Tryz.underlying44, rfl⟩, by kernel_rfl⟩
theorem z192 : Zero Tryz.prog 192 [.pointer none, .slice none 0 0] := ⟨zero_of (by kernel_rfl)⟩
end
open Go.RowKit
/-- The builder's bytes. -/
def BufG (l : List UInt8) (s : Value) (G : Own) : Prop := GrowS 5 1 s l.length (Lib.byteCells l) G
theorem bufg_snoc {l : List UInt8} {c : UInt8} {s : Value} {G : Own} (h : GrowS 5 1 s (l.length + 1) (Lib.byteCells l ++ [.int .u8 (c.toNat : Int)]) G) : BufG (l ++ [c]) s G := by
  unfold BufG
  simpa [Lib.byteCells] using h
theorem writeByte_spec {X : PMap} {b : Nat} {p s : Value} {G : Own} {l : List UInt8} (c : UInt8) (hp : p = .pointer none ∨ p = .pointer (some ⟨b, 0, none⟩)) (hG : BufG l s G) (hl : l.length < 1000000000) :
    SpecM Tryz.prog 106 [.pointer (some ⟨b, 0, none⟩), .int .u8 (c.toNat : Int)] X (BldO b p s :: G) fun u L' _ => u = .nilIface ∧ ∃ s' G', L' = BldO b (.pointer (some ⟨b, 0, none⟩)) s' :: G' ∧ BufG (l ++ [c]) s' G' := by
  obtain ⟨As, cps, rfl⟩ := GrowS.form hG
  refine SpecM.enter Tryz.func106 rfl Tryz.ntmps106 rfl ?_
  intro w0 X0 own0
  show T _ _ _ _ _ _ _ _ _ (BldO b p _ :: (G ++ own0)) _
  refine T.seq <| T.region <| SL.as rfl <| SL.nil <| T.seq <| T.region <| SL.mv rfl <| SL.w (op_callM en156 (vs := [_]) rfl (copyCheck_spec hp) rfl) ?_
  rintro _ _ X1 ⟨_, rfl, hX1, rfl, rfl⟩
  refine SL.nil <| T.seq <| T.region <| SL.mv rfl <| SL.mv rfl <| SL.v (op_nil rfl) <| SL.v (op_fieldAddr fa192_1 rfl) <| SL.v (op_load ty44 rfl (by repeat constructor) rfl) ?_
  refine SL.mv rfl <| SL.w (op_buildSlice Tryz.underlying44 bs5 (qs := [(0, _)]) rfl rfl rfl rfl rfl) ?_
  rintro _ _ _ ⟨B13, rfl, rfl, rfl⟩
  refine SL.perm (own' := ⟨B13, [.int .u8 (c.toNat : Int)], 5, 1⟩ :: ((BldO b (.pointer (some ⟨b, 0, none⟩)) (.slice As l.length cps) :: own0) ++ G)) permL ?_
  refine SL.w (op_appendG (own0 := BldO b (.pointer (some ⟨b, 0, none⟩)) (.slice As l.length cps) :: own0) sl44 rfl hG rfl rfl rfl (by (have : maxLen = 9223372036854775807 := rfl); omega) (by omega)) ?_
  rintro s' _ _ ⟨G', rfl, rfl, hG'⟩
  obtain ⟨As', cps', rfl⟩ := hG'.form
  refine SL.v (op_nil rfl) <| SL.v (op_fieldAddr fa192_1 rfl) <| SL.w (op_store ty44 rfl rfl (by repeat constructor) rfl rfl rfl) ?_
  rintro _ _ _ ⟨rfl, rfl⟩
  refine SL.nil <| T.seq <| T.region <| SL.as rfl <| SL.nil <| T.retM1 (BldO b (.pointer (some ⟨b, 0, none⟩)) _ :: G') rfl (ResIs.tmp rfl) permD ?_
  exact ⟨hX1, rfl, _, G', rfl, bufg_snoc hG'⟩
theorem builderLen_spec {X : PMap} {b : Nat} {p s : Value} {G : Own} {l : List UInt8} (hG : BufG l s G) :
    SpecM Tryz.prog 107 [.pointer (some ⟨b, 0, none⟩)] X [BldO b p s] fun u L' _ => u = .int .i64 (l.length : Int) ∧ L' = [BldO b p s] := by
  obtain ⟨As, cps, rfl⟩ := GrowS.form hG
  refine SpecM.enter Tryz.func107 rfl Tryz.ntmps107 rfl ?_
  intro w0 X0 own0
  refine T.seq <| T.region <| SL.v (op_assign (v := .int .i64 ((0 : Nat) : Int)) rfl) <| SL.nil <| T.seq <| T.region <| SL.mv rfl <| SL.v (op_nil rfl) <| SL.v (op_fieldAddr fa192_1 rfl) <| SL.v (op_load ty44 rfl (by repeat constructor) rfl) ?_
  refine SL.v (op_lenS Tryz.underlying44 rfl) <| SL.as rfl <| SL.nil <| T.retM1 [BldO b p (.slice As l.length cps)] rfl (ResIs.tmp rfl) (List.Perm.refl _) ?_
  exact ⟨PMap.le_refl _, rfl, rfl⟩
theorem writeString_spec {X : PMap} {b : Nat} {p s : Value} {G : Own} {l : List UInt8} (t : List UInt8) (hp : p = .pointer none ∨ p = .pointer (some ⟨b, 0, none⟩)) (hG : BufG l s G) (h0 : l ≠ []) (hl : l.length < 1000000000) (ht : t.length < 1000000000) :
    SpecM Tryz.prog 108 [.pointer (some ⟨b, 0, none⟩), .string ⟨t.toArray⟩] X (BldO b p s :: G) fun u L' _ => u = .tuple #[.int .i64 (t.length : Int), .nilIface] ∧ ∃ s' G', L' = BldO b (.pointer (some ⟨b, 0, none⟩)) s' :: G' ∧ BufG (l ++ t) s' G' := by
  rcases hG with ⟨hz, _⟩ | ⟨g, cap, rfl, rfl, hc1, hc2, hc3⟩
  · exact absurd (List.eq_nil_of_length_eq_zero hz) h0
  refine SpecM.enter Tryz.func108 rfl Tryz.ntmps108 rfl ?_
  intro w0 X0 own0
  show T _ _ _ _ _ _ _ _ _ (BldO b p _ :: ([_] ++ own0)) _
  refine T.seq <| T.region <| SL.v (op_assign (v := .int .i64 ((0 : Nat) : Int)) rfl) <| SL.as rfl <| SL.nil <| T.seq <| T.region <| SL.mv rfl <| SL.w (op_callM en156 (vs := [_]) rfl (copyCheck_spec hp) rfl) ?_
  rintro _ _ X1 ⟨_, rfl, hX1, rfl, rfl⟩
  refine SL.nil <| T.seq <| T.region <| SL.mv rfl <| SL.mv rfl <| SL.v (op_nil rfl) <| SL.v (op_fieldAddr fa192_1 rfl) <| SL.v (op_load ty44 rfl (by repeat constructor) rfl) ?_
  refine SL.mv rfl <| SL.perm (own' := (BldO b (.pointer (some ⟨b, 0, none⟩)) (.slice (some ⟨g, 0, none⟩) l.length cap) :: own0) ++ [⟨g, Lib.byteCells l, 5, cap * 1⟩]) (permA (G := [_])) ?_
  refine SL.w (op_appendStr (own := BldO b (.pointer (some ⟨b, 0, none⟩)) (.slice (some ⟨g, 0, none⟩) l.length cap) :: own0) Tryz.underlying44 Tryz.underlying9 (infoStr_of (by kernel_rfl)) rfl rfl hc1 hc2 hc3 (by show l.length + t.length ≤ _; omega)) ?_
  rintro s' _ _ ⟨G', rfl, rfl, hG', _⟩
  obtain ⟨As', cps', rfl⟩ := hG'.form
  refine SL.v (op_nil rfl) <| SL.v (op_fieldAddr fa192_1 rfl) <| SL.w (op_store ty44 rfl rfl (by repeat constructor) rfl rfl rfl) ?_
  rintro _ _ _ ⟨rfl, rfl⟩
  refine SL.nil <| T.seq <| T.region <| SL.mv rfl <| SL.v (op_lenStr Tryz.underlying9 rfl) <| SL.as rfl <| SL.as rfl <| SL.nil <| T.retM2 (BldO b (.pointer (some ⟨b, 0, none⟩)) _ :: G') rfl (ResIs.tmp rfl) (ResIs.tmp rfl) permD ?_
  refine ⟨hX1, rfl, _, G', rfl, ?_⟩
  have e : Lib.byteCells (l ++ t) = Lib.byteCells l ++ Lib.strCells ⟨t.toArray⟩ := by rw [Lib.byteCells_append]; rfl
  rw [BufG, e, List.length_append]
  exact hG'
theorem builderString_spec {X : PMap} {b : Nat} {p s : Value} {G : Own} {l : List UInt8} (hG : BufG l s G) (h0 : l ≠ []) (hl : l.length < 1000000000) :
    SpecM Tryz.prog 110 [.pointer (some ⟨b, 0, none⟩)] X (BldO b p s :: G) fun u L' _ => u = .string ⟨l.toArray⟩ ∧ L' = [BldO b p s] := by
  rcases hG with ⟨hz, _⟩ | ⟨g, cap, rfl, rfl, hc1, hc2, hc3⟩
  · exact absurd (List.eq_nil_of_length_eq_zero hz) h0
  have hpos : 0 < l.length := List.length_pos_iff.2 h0
  refine SpecM.enter Tryz.func110 rfl Tryz.ntmps110 rfl ?_
  intro w0 X0 own0
  refine T.perm (own' := (BldO b p (.slice (some ⟨g, 0, none⟩) l.length cap) :: own0) ++ [⟨g, Lib.byteCells l, 5, cap * 1⟩]) permC ?_
  refine T.seq <| T.region <| SL.as rfl <| SL.nil <| T.seq <| T.drawG (own0 := BldO b p (.slice (some ⟨g, 0, none⟩) l.length cap) :: own0) (by kernel_rfl) 12 [.t 0, .t 1, .t 2, .t 3, .t 4, .t 5, .t 6, .t 7, .t 8, .t 9, .r 10, .t 11] (by kernel_rfl) ?_
  refine SD.take rfl panicBody (op_move rfl) rfl rfl ?_
  refine SD.take rfl panicBody (op_nil rfl) rfl rfl ?_
  refine SD.take rfl panicBody (op_fieldAddr fa192_1 rfl) rfl rfl ?_
  refine SD.take rfl panicBody (op_load ty44 rfl (by repeat constructor) rfl) rfl rfl ?_
  refine SD.take rfl panicBody (op_sliceData rfl (by omega)) rfl rfl ?_
  refine SD.take rfl panicBody (op_move rfl) rfl rfl ?_
  refine SD.take rfl panicBody (op_nil rfl) rfl rfl ?_
  refine SD.take rfl panicBody (op_fieldAddr fa192_1 rfl) rfl rfl ?_
  refine SD.take rfl panicBody (op_load ty44 rfl (by repeat constructor) rfl) rfl rfl ?_
  refine SD.take rfl panicBody (op_lenS Tryz.underlying44 rfl) rfl rfl ?_
  refine SD.runK rfl (op_unsafeStr Tryz.underlying238 (by kernel_rfl) rfl rfl h0 hc1 hc2) (by rintro _ _ _ ⟨rfl, rfl, rfl⟩; exact ⟨fun p hp => hp, PMap.le_refl _⟩) rfl rfl ?_
  rintro _ _ _ ⟨rfl, rfl, rfl⟩
  refine SD.take rfl panicBody (op_assign rfl) rfl rfl ?_
  refine SD.nil ?_
  show SL _ _ _ _ _ _ _ [] _ _ _
  refine SL.nil <| T.retM1 [BldO b p (.slice (some ⟨g, 0, none⟩) l.length cap)] rfl (ResIs.tmp rfl) (List.Perm.refl _) ?_
  exact ⟨PMap.le_refl _, rfl, rfl⟩
/-- The text of a set of digits, without its last byte. -/
def txtOf (l : List Nat) : List UInt8 := l.foldl (fun acc i => (if 1 < acc.length then acc ++ [32] else acc) ++ [UInt8.ofNat (48 + i)]) [123]
theorem txtOf_succ (l : List Nat) (i : Nat) (h : i < l.length) : txtOf (l.take (i + 1)) = (if 1 < (txtOf (l.take i)).length then txtOf (l.take i) ++ [32] else txtOf (l.take i)) ++ [UInt8.ofNat (48 + l[i])] := by
  unfold txtOf
  rw [List.take_succ_eq_append_getElem h, List.foldl_append]
  rfl
theorem txtOf_len (l : List Nat) : 1 ≤ (txtOf l).length ∧ (txtOf l).length ≤ 1 + 2 * l.length := by
  have key : ∀ (l : List Nat) (acc : List UInt8), 1 ≤ acc.length → 1 ≤ (l.foldl (fun acc i => (if 1 < acc.length then acc ++ [32] else acc) ++ [UInt8.ofNat (48 + i)]) acc).length ∧ (l.foldl (fun acc i => (if 1 < acc.length then acc ++ [32] else acc) ++ [UInt8.ofNat (48 + i)]) acc).length ≤ acc.length + 2 * l.length := by
    intro l
    induction l with
    | nil => intro acc h; simpa using h
    | cons i l ih =>
      intro acc h
      rw [List.foldl_cons]
      have := ih ((if 1 < acc.length then acc ++ [32] else acc) ++ [UInt8.ofNat (48 + i)]) (by simp)
      refine ⟨this.1, Nat.le_trans this.2 ?_⟩
      split <;> simp <;> omega
  have := key l [123] (by simp)
  simpa [txtOf] using this
theorem ints_len_take (l : List Nat) : l.take (ints l).length = l := by simp [ints]
theorem text_spec {X : PMap} (hT : Tab X) {v : Value} {m : Nat} (h : SetR X v m) (hd : ∀ i ∈ mem64 m, i < 10) : Spec Tryz.prog 57 [v] X fun u _ => u = .string ⟨(txtOf (mem64 m) ++ [125]).toArray⟩ := by
  obtain ⟨A, l, c, rfl⟩ := h.form
  have h64 := mem64_length m
  refine Spec.enter Tryz.func57 rfl Tryz.ntmps57 rfl ?_
  intro w0 hw0
  refine T.seq <| T.region <| SL.w (op_box rfl) ?_
  rintro _ _ _ ⟨B1, rfl, rfl, rfl⟩
  refine SL.as rfl <| SL.nil <| T.seq <| T.region <| SL.w (op_alloc z192) ?_
  rintro _ _ _ ⟨B3, rfl, rfl, rfl⟩
  refine SL.nil <| T.seq <| T.region <| SL.w (op_callM en106 (vs := [_, _]) rfl (writeByte_spec (G := []) (l := []) 123 (.inl rfl) GrowS.nil (by simp)) rfl) ?_
  rintro _ _ X1 ⟨_, rfl, hX1, rfl, s1, G1, rfl, hG1⟩
  refine SL.nil <| T.seq <| T.seq <| T.region <| SL.v (op_load ty53 rfl ((AtO.here (l := [])).append (BldO B3 _ s1 :: G1)) rfl) <| SL.w (op_callF en85 (vs := [_]) rfl (all_spec)) ?_
  rintro _ _ X2 ⟨rfl, hX2, B7, rfl, hB7⟩
  refine SL.nil <| T.block <| T.rangeFunc (xs := (ints (mem64 m))) rfl en132 rfl rfl (all_seq ((hT.mono hX1).mono hX2) ((h.mono hX1).mono hX2) hB7) (fun i own' X' => X2.le X' ∧ ∃ s G, BufG (txtOf ((mem64 m).take i)) s G ∧ own' = BldO B3 (.pointer (some ⟨B3, 0, none⟩)) s :: (G ++ [⟨B1, [.slice A l c], 53, 1⟩])) ⟨PMap.le_refl _, s1, G1, hG1, rfl⟩ (fun i own' X' h => h.1) ?_ ?_
  · rintro i x _ X' l' r D hx ⟨hX', s, G, hG, rfl⟩
    obtain ⟨hi, rfl⟩ := ints_some hx
    have hlen := txtOf_len ((mem64 m).take i)
    have hlt : ((mem64 m).take i).length ≤ 64 := by rw [List.length_take]; omega
    have hdi := hd _ (List.getElem_mem hi)
    have hself : (Value.pointer (some ⟨B3, 0, none⟩) = .pointer none ∨ Value.pointer (some ⟨B3, 0, none⟩) = .pointer (some ⟨B3, 0, none⟩)) := .inr rfl
    by_cases h1 : 1 < (txtOf ((mem64 m).take i)).length
    · skip
      refine T.block <| T.seq <| T.seq <| T.region <| SL.w (op_callM en107 (vs := [_]) rfl (builderLen_spec hG) rfl) ?_
      rintro _ _ X3 ⟨_, rfl, hX3, rfl, rfl⟩
      refine SL.v (op_gtrT rfl rfl (by omega)) ?_
      refine SL.nil <| T.condT rfl <| T.region <| SL.w (op_callM en106 (vs := [_, _]) rfl (writeByte_spec 32 hself hG (by omega)) rfl) ?_
      rintro _ _ X4 ⟨_, rfl, hX4, rfl, s4, G4, rfl, hG4⟩
      refine SL.nil <| T.region <| SL.mv rfl <| SL.w (op_callF en109 (vs := [_]) rfl (itoa_spec (mem64 m)[i] hdi)) ?_
      rintro _ _ X5 ⟨rfl, hX5, rfl⟩
      refine SL.w (op_callM en108 (vs := [_, _]) rfl (writeString_spec [UInt8.ofNat (48 + (mem64 m)[i])] hself hG4 (by simp) (by simp; omega) (by simp)) rfl) ?_
      rintro _ _ X6 ⟨_, rfl, hX6, rfl, s6, G6, rfl, hG6⟩
      refine SL.nil <| T.blk ?_
      exact T.roundEnd ⟨(((hX'.trans' hX3).trans' hX4).trans' hX5).trans' hX6, s6, G6, by rw [txtOf_succ _ _ hi, if_pos h1]; exact hG6, rfl⟩
    · refine T.block <| T.seq <| T.seq <| T.region <| SL.w (op_callM en107 (vs := [_]) rfl (builderLen_spec hG) rfl) ?_
      rintro _ _ X3 ⟨_, rfl, hX3, rfl, rfl⟩
      refine SL.v (op_gtrF rfl rfl (by omega)) ?_
      refine SL.nil <| T.condF rfl <| T.skip <| T.region <| SL.mv rfl <| SL.w (op_callF en109 (vs := [_]) rfl (itoa_spec (mem64 m)[i] hdi)) ?_
      rintro _ _ X5 ⟨rfl, hX5, rfl⟩
      refine SL.w (op_callM en108 (vs := [_, _]) rfl (writeString_spec [UInt8.ofNat (48 + (mem64 m)[i])] hself hG (fun e => by rw [e] at hlen; simp at hlen) (by omega) (by simp)) rfl) ?_
      rintro _ _ X6 ⟨_, rfl, hX6, rfl, s6, G6, rfl, hG6⟩
      refine SL.nil <| T.blk ?_
      exact T.roundEnd ⟨((hX'.trans' hX3).trans' hX5).trans' hX6, s6, G6, by rw [txtOf_succ _ _ hi, if_neg h1]; exact hG6, rfl⟩
  · rintro D _ X3 ⟨hX3, s, G, hG, rfl⟩
    rw [ints_len_take] at hG
    have hlen := txtOf_len (mem64 m)
    refine T.blk <| T.seq <| T.region <| SL.w (op_callM en106 (vs := [_, _]) rfl (writeByte_spec 125 (.inr rfl) hG (by omega)) rfl) ?_
    rintro _ _ X4 ⟨_, rfl, hX4, rfl, s4, G4, rfl, hG4⟩
    refine SL.nil <| T.seq <| T.region <| SL.w (op_callM en110 (vs := [_]) rfl (builderString_spec hG4 (by simp) (by simp; omega)) rfl) ?_
    rintro _ _ X5 ⟨_, rfl, hX5, rfl, rfl⟩
    refine SL.as rfl <| SL.nil <| T.ret1 rfl (ResIs.tmp rfl) ?_
    rfl
theorem op_eqlStrT {P : Program} {n : NM} {own : Own} {X : PMap} {env : Env} {t t' : TypeId} {x y : Operand} {s : ByteArray} (ht : P.underlying t = some .string) (hx : eev env x = some (.string s)) (hy : eev env y = some (.string s)) : OpY P n env own X (.binOp .eql t x y t') (.bool true) := by
  have := op_eqlStr (P := P) (n := n) (own := own) (X := X) (t' := t') ht hx hy
  rwa [beq_self_eq_true] at this
end Go.Proofs.YtnpcilglilfajaaGreatDoor
namespace Go.Proofs.YtnpcilglilfajaaGreatDoor
open Go.RowKit
end Go.Proofs.YtnpcilglilfajaaGreatDoor
namespace Go.Proofs.YtnpcilglilfajaaGreatDoor
open Go.RowKit
/-- strconv.Itoa of numbers below M. -/
def ItoaOk (M : Nat) (X : PMap) : Prop := ∀ X' : PMap, X.le X' → ∀ v : Nat, v < M → Spec Tryz.prog 109 [.int .i64 (v : Int)] X' fun u _ => u = .string (decB v)
theorem ItoaOk.mono {M : Nat} {X X' : PMap} (h : ItoaOk M X) (hX : X.le X') : ItoaOk M X' := fun X1 h' v hv => h X1 (hX.trans' h') v hv
end Go.Proofs.YtnpcilglilfajaaGreatDoor
namespace Go.Proofs.YtnpcilglilfajaaGreatDoor
section
set_option maxRecDepth 100000
theorem ty4 : Ty Tryz.prog 4 false 1 := ⟨⟨_, Tryz.underlying4, rfl⟩, by kernel_rfl⟩
theorem ty41 : Ty Tryz.prog 41 false 1 := ⟨⟨_, Tryz.underlying41, rfl⟩, by kernel_rfl⟩
end
open Go.RowKit
structure Con where
  enf : Bool
  kind : Nat
  name : ByteArray
  ex : Ex
abbrev Row7 := Bool × Nat × ByteArray × Row4
def rc7 (r : Row7) : List Value := [.bool r.1, .int .u8 (r.2.1 : Int), .string r.2.2.1, r.2.2.2.1, r.2.2.2.2.1, r.2.2.2.2.2.1, r.2.2.2.2.2.2]
def ConR (X : PMap) (c : Con) (r : Row7) : Prop := r.1 = c.enf ∧ r.2.1 = c.kind ∧ r.2.2.1 = c.name ∧ ExR .u8 X c.ex r.2.2.2
theorem ConR.mono {X X' : PMap} {c : Con} {r : Row7} (h : ConR X c r) (hX : X.le X') : ConR X' c r := ⟨h.1, h.2.1, h.2.2.1, h.2.2.2.mono hX⟩
theorem ConR.form {X : PMap} {c : Con} {r : Row7} (h : ConR X c r) : ∃ (o : Nat) (n : Int) (A B : Option Addr) (l c1 l' c' : Nat), r = (c.enf, c.kind, c.name, .int .u8 (o : Int), .int .i64 n, .slice A l c1, .slice B l' c') := by
  obtain ⟨e, k, s, r4⟩ := r
  obtain ⟨h1, h2, h3, h4⟩ := h
  simp only at h1 h2 h3 h4
  subst h1 h2 h3
  obtain ⟨o, n, A, B, l, c1, l', c', rfl⟩ := h4.form
  exact ⟨_, _, _, _, _, _, _, _, rfl⟩
def ConsR (X : PMap) (v : Value) (cs : List Con) : Prop := ∃ rows : List Row7, RowR rc7 X v rows ∧ rows.length = cs.length ∧ ∀ (i : Nat) (c : Con) (r : Row7), cs[i]? = some c → rows[i]? = some r → ConR X c r
theorem ConsR.mono {X X' : PMap} {v : Value} {cs : List Con} (h : ConsR X v cs) (hX : X.le X') : ConsR X' v cs :=
  let ⟨rows, h1, h2, h3⟩ := h
  ⟨rows, h1.mono hX, h2, fun i c r a b => (h3 i c r a b).mono hX⟩
end Go.Proofs.YtnpcilglilfajaaGreatDoor
namespace Go.Proofs.YtnpcilglilfajaaGreatDoor
open Go.RowKit
section
variable {P : Program} {n : NM} {w0 : Base} {X0 X : PMap} {own : Own} {env : Env}
/-- string(b) of bytes that are known. -/
theorem op_strBytes {src dst e : TypeId} {x : Operand} {a : Addr} {cap : Nat} {l : List UInt8} (hs : P.underlying src = some (.slice e)) (he : P.underlying e = some (.int .u8)) (hd : P.underlying dst = some .string)
    (hx : eev env x = some (.slice (some a) l.length cap)) (hc : ∀ W, Stab own X W → ∀ j (hj : j < l.length), W.cell? (a.add j) = some (.int .u8 (l[j].toNat : Int))) : OpY P n env own X (.convert src dst x) (.string ⟨l.toArray⟩) := by
  intro A W oper hop ha hst
  have hr := run_convert_bytes_back (P := P) W src dst e a cap l hs he hd (hc W hst)
  simp only [execOp, hop, ha.eval hx, Sem.run_bind, Sem.run_pure, Result.andThen_ok, hr]
end
end Go.Proofs.YtnpcilglilfajaaGreatDoor
namespace Go.Proofs.YtnpcilglilfajaaGreatDoor
open Go.RowKit
end Go.Proofs.YtnpcilglilfajaaGreatDoor
namespace Go.Proofs.YtnpcilglilfajaaGreatDoor
open Go.RowKit
structure Itm where
  enf : Bool
  kind : Nat
  name : Nat
  nodes : List Nd
abbrev RowI := Bool × Nat × Nat × Value
def itC (r : RowI) : List Value := [.bool r.1, .int .u8 (r.2.1 : Int), .int .u8 (r.2.2.1 : Int), r.2.2.2]
def ItR (X : PMap) (x : Itm) (r : RowI) : Prop := r.1 = x.enf ∧ r.2.1 = x.kind ∧ r.2.2.1 = x.name ∧ RowR ndC X r.2.2.2 x.nodes
def ItsR (X : PMap) (v : Value) (l : List Itm) : Prop := ∃ rows : List RowI, RowR itC X v rows ∧ rows.length = l.length ∧ ∀ (i : Nat) (x : Itm) (r : RowI), l[i]? = some x → rows[i]? = some r → ItR X x r
theorem ItsR.mono {X X' : PMap} {v : Value} {l : List Itm} (h : ItsR X v l) (hX : X.le X') : ItsR X' v l :=
  let ⟨rows, h1, h2, h3⟩ := h
  ⟨rows, h1.mono hX, h2, fun i x r a b => let ⟨p, q, s, t⟩ := h3 i x r a b; ⟨p, q, s, t.mono hX⟩⟩
/-- The specification's constraints in memory. -/
def rc7i (r : Row7) : List Value := [.bool r.1, .int .i64 (r.2.1 : Int), .string r.2.2.1, r.2.2.2.1, r.2.2.2.2.1, r.2.2.2.2.2.1, r.2.2.2.2.2.2]
def ConRi (X : PMap) (c : Con) (r : Row7) : Prop := r.1 = c.enf ∧ r.2.1 = c.kind ∧ r.2.2.1 = c.name ∧ ExR .i64 X c.ex r.2.2.2
theorem ConRi.mono {X X' : PMap} {c : Con} {r : Row7} (h : ConRi X c r) (hX : X.le X') : ConRi X' c r := ⟨h.1, h.2.1, h.2.2.1, h.2.2.2.mono hX⟩
theorem ConRi.form {X : PMap} {c : Con} {r : Row7} (h : ConRi X c r) : ∃ (o : Nat) (n : Int) (A B : Option Addr) (l c1 l' c' : Nat), r = (c.enf, c.kind, c.name, .int .i64 (o : Int), .int .i64 n, .slice A l c1, .slice B l' c') := by
  obtain ⟨e, k, s, r4⟩ := r
  obtain ⟨h1, h2, h3, h4⟩ := h
  simp only at h1 h2 h3 h4
  subst h1 h2 h3
  obtain ⟨o, n, A, B, l, c1, l', c', rfl⟩ := h4.form
  exact ⟨_, _, _, _, _, _, _, _, rfl⟩
def ConsRi (X : PMap) (v : Value) (cs : List Con) : Prop := ∃ rows : List Row7, RowR rc7i X v rows ∧ rows.length = cs.length ∧ ∀ (i : Nat) (c : Con) (r : Row7), cs[i]? = some c → rows[i]? = some r → ConRi X c r
theorem ConsRi.mono {X X' : PMap} {v : Value} {cs : List Con} (h : ConsRi X v cs) (hX : X.le X') : ConsRi X' v cs :=
  let ⟨rows, h1, h2, h3⟩ := h
  ⟨rows, h1.mono hX, h2, fun i c r a b => (h3 i c r a b).mono hX⟩
end Go.Proofs.YtnpcilglilfajaaGreatDoor
namespace Go.Proofs.YtnpcilglilfajaaGreatDoor
open Go.ChangeShapes Go.WideShapes Go.ChangeAt Go.RowKit Go.Joins Go.Deep
theorem u8_of {z : Int} (h : (Lit.int .u8 z).wf = true) : ∃ b : Nat, z = (b : Int) ∧ b < 256 := by
  simp only [Lit.wf, Bool.and_eq_true, decide_eq_true_eq] at h
  obtain ⟨h1, h2⟩ : (0 : Int) ≤ z ∧ z ≤ 255 := h
  obtain ⟨b, rfl⟩ := Int.eq_ofNat_of_zero_le h1
  exact ⟨b, rfl, by omega⟩
theorem okWide_slice {P : Program} {W : World} {base : Nat} {t e : TypeId} {v : Value} (ht : P.underlying t = some (.slice e)) (h : Value.okWide P W .any base t v) : ∃ A len cap, v = .slice A len cap := by
  simp only [Value.okWide, Cell.okWide, ht] at h
  simp only [Cell.ok, ht] at h
  cases v <;> simp_all
section
variable {H : Type} {enc : TypeId × Value → H} {W : World}
/-- A slice in a field, opened. -/
theorem open_field {α : Type} {rc : α → List Value} {ok : α → Prop} {t e : TypeId} {sz n : Nat} {c : Value} {y : DataW H × List MemPlace} (ht : Tryz.prog.underlying t = some (.slice e)) (hc : Tryz.prog.cellsOf e = sz) (h0 : 0 < sz) (hrc : ∀ x, (rc x).length = sz)
    (hel : ∀ {n : Nat} {cs : List Value} {y : DataW H × List MemPlace}, cs.length = sz → DataW.trod enc Tryz.prog W 0 (fun _ => true) true n e cs = some y → ∃ x, cs = rc x ∧ ok x) (h : DataW.trod enc Tryz.prog W 0 (fun _ => true) true n t [c] = some y) : ∃ (rs : List α), (∀ r ∈ rs, ok r) ∧ RowR rc (heapX W) c rs := by
  have hform : ∃ A len cap, c = .slice A len cap := by
    rcases open_slice ht h with ⟨h1, _⟩ | ⟨a, len, cap, _, _, _, _, h1, _⟩
    · exact ⟨none, 0, 0, by simpa using h1⟩
    · exact ⟨some a, len, cap, by simpa using h1⟩
  obtain ⟨A, len, cap, rfl⟩ := hform
  exact open_rows (d := y.1) (p := y.2) ht hc h0 hrc hel ⟨A, len, cap, rfl⟩ ⟨n, h⟩
end
end Go.Proofs.YtnpcilglilfajaaGreatDoor
namespace Go.Proofs.YtnpcilglilfajaaGreatDoor
open Go.ChangeShapes Go.WideShapes Go.ChangeAt Go.RowKit Go.Joins
theorem u8_nat {x : Int} (h : (Lit.int .u8 x).wf = true) : ∃ b : Nat, x = (b : Int) ∧ b < 256 := by
  simp only [Lit.wf, Bool.and_eq_true, decide_eq_true_eq] at h
  obtain ⟨h1, h2⟩ : (0 : Int) ≤ x ∧ x ≤ 255 := h
  obtain ⟨b, rfl⟩ := Int.eq_ofNat_of_zero_le h1
  exact ⟨b, rfl, by omega⟩
theorem okWide_agg {P : Program} {W : World} {base n : Nat} {t e : TypeId} {v : Value} (ht : P.underlying t = some (.array n e)) (h : Value.okWide P W .any base t v) : ∃ cs : Array Value, v = .agg cs ∧ cs.size = P.cellsOf t := by
  simp only [Value.okWide, ht] at h
  obtain ⟨cs, h1, h2, _⟩ := h
  exact ⟨cs, h1, h2⟩
section
variable {H : Type} {enc : TypeId × Value → H} {P : Program} {W : World} {base : Nat} {t e : TypeId} {v : Value} {d : DataW H} {p : List MemPlace}
theorem trod_array2 {fuel : Nat} {c0 c1 : Value} {x : DataW H × List MemPlace} {sp : Nat → Bool} (ht : P.underlying t = some (.array 2 e)) (hce : P.cellsOf e = 1) (h : DataW.trod enc P W base sp true fuel t [c0, c1] = some x) :
    ∃ y0 y1 n, x = (.agg [y0.1, y1.1], y0.2 ++ y1.2) ∧ DataW.trod enc P W base sp true n e [c0] = some y0 ∧ DataW.trod enc P W base sp true n e [c1] = some y1 := by
  obtain ⟨xs, m, _, rfl, _, hl, hi⟩ := DataW.trod_array ht h
  match xs, hl with
  | [y0, y1], _ =>
    have h0 := hi 0 (by omega)
    have h1 := hi 1 (by omega)
    rw [hce] at h0 h1
    exact ⟨y0, y1, m, by simp, by simpa using h0, by simpa using h1⟩
theorem open_u8x2 (ht : P.underlying t = some (.array 2 e)) (he : P.underlying e = some (.int .u8)) (hce : P.cellsOf e = 1) (hct : P.cellsOf t = 2) (hval : Value.okWide P W .any base t v) (h : DataW.Trod enc P W 0 (fun _ => true) true t v d p) :
    (∃ a b : Nat, v = .agg #[.int .u8 (a : Int), .int .u8 (b : Int)] ∧ a < 256 ∧ b < 256) ∧ p = [] ∧ ∀ (W' : World) (sp : Nat → Bool), DataW.Trod enc P W' 0 sp true t v d [] := by
  obtain ⟨cs, rfl, hsz⟩ := okWide_agg ht hval
  obtain ⟨c0, c1, rfl⟩ := array2 (hsz.trans hct)
  obtain ⟨fuel, hf⟩ := h
  obtain ⟨y0, y1, n, hx, h0, h1⟩ := trod_array2 ht hce (by simpa [Value.cells] using hf)
  obtain ⟨xa, ea, rfl, wa⟩ := DataW.trod_int he h0
  obtain ⟨xb, eb, rfl, wb⟩ := DataW.trod_int he h1
  obtain rfl : c0 = .int .u8 xa := by simpa using ea
  obtain rfl : c1 = .int .u8 xb := by simpa using eb
  simp only [Prod.mk.injEq] at hx
  obtain ⟨rfl, rfl⟩ := hx
  obtain ⟨a, rfl, ha⟩ := u8_nat wa
  obtain ⟨b, rfl, hb⟩ := u8_nat wb
  refine ⟨⟨a, b, rfl, ha, hb⟩, rfl, fun W' sp => ⟨2, ?_⟩⟩
  have r2 : List.range 2 = [0, 1] := rfl
  unfold DataW.trod
  rw [ht]
  simp [r2, hce, hct, Value.cells, trod_int_mk (enc := enc) (P := P) 0 he wa, trod_int_mk (enc := enc) (P := P) 0 he wb]
end
end Go.Proofs.YtnpcilglilfajaaGreatDoor
namespace Go.Proofs.YtnpcilglilfajaaGreatDoor
open Go.RowKit
def dig : List Nat → Nat
  | [] => 0
  | b :: l => 256 * dig l + b
def pop8 (b : Nat) : Nat := (List.range 8).countP fun i => b.testBit i
def g1 (b : Nat) : Nat := ((b / 2) &&& 85) + (b &&& 85)
def g2 (b : Nat) : Nat := ((b / 4) &&& 51) + (b &&& 51)
def g3 (b : Nat) : Nat := (b / 16 + b) &&& 15
def msk8 (d : Nat) : Nat → Nat
  | 0 => 0
  | n + 1 => 256 * msk8 d n + d
theorem and_byte (a c : Nat) {b d : Nat} (hb : b < 256) (hd : d < 256) : (256 * a + b) &&& (256 * c + d) = 256 * (a &&& c) + (b &&& d) := by
  have hbd : b &&& d < 2 ^ 8 := Nat.lt_of_le_of_lt Nat.and_le_left hb
  apply Nat.eq_of_testBit_eq
  intro i
  rw [show 256 = 2 ^ 8 from rfl, Nat.testBit_and, Nat.testBit_two_pow_mul_add a (show b < 2 ^ 8 from hb), Nat.testBit_two_pow_mul_add c (show d < 2 ^ 8 from hd), Nat.testBit_two_pow_mul_add (a &&& c) hbd]
  split
  · rw [Nat.testBit_and]
  · rw [Nat.testBit_and]
theorem bytes_all {P : Nat → Bool} (h : (List.range 256).all P = true) {b : Nat} (hb : b < 256) : P b = true := List.all_eq_true.1 h b (List.mem_range.2 hb)
theorem t1 {b t : Nat} (hb : b < 256) (ht : t < 2) : 128 * t + b / 2 < 256 ∧ (128 * t + b / 2) &&& 85 = (b / 2) &&& 85 := by
  have h := bytes_all (P := fun b => (List.range 2).all fun t => decide (128 * t + b / 2 < 256 ∧ (128 * t + b / 2) &&& 85 = (b / 2) &&& 85)) (by decide +kernel) hb
  exact of_decide_eq_true (List.all_eq_true.1 h t (List.mem_range.2 ht))
theorem t2 {b t : Nat} (hb : b < 256) (ht : t < 4) : 64 * t + b / 4 < 256 ∧ (64 * t + b / 4) &&& 51 = (b / 4) &&& 51 := by
  have h := bytes_all (P := fun b => (List.range 4).all fun t => decide (64 * t + b / 4 < 256 ∧ (64 * t + b / 4) &&& 51 = (b / 4) &&& 51)) (by decide +kernel) hb
  exact of_decide_eq_true (List.all_eq_true.1 h t (List.mem_range.2 ht))
def nib (b : Nat) : Prop := b % 16 ≤ 4 ∧ b / 16 ≤ 4
instance (b : Nat) : Decidable (nib b) := inferInstanceAs (Decidable (_ ∧ _))
theorem t3 {b t : Nat} (hb : b < 256) (hn : nib b) (ht : t < 5) : 16 * t + b / 16 + b < 256 ∧ (16 * t + b / 16 + b) &&& 15 = g3 b := by
  have h := bytes_all (P := fun b => (List.range 5).all fun t => decide (nib b → 16 * t + b / 16 + b < 256 ∧ (16 * t + b / 16 + b) &&& 15 = g3 b)) (by decide +kernel) hb
  exact of_decide_eq_true (List.all_eq_true.1 h t (List.mem_range.2 ht)) hn
theorem g1_lt {b : Nat} (hb : b < 256) : g1 b < 256 := of_decide_eq_true (bytes_all (P := fun b => decide (g1 b < 256)) (by decide +kernel) hb)
theorem g2_nib {b : Nat} (hb : b < 256) : g2 (g1 b) < 256 ∧ nib (g2 (g1 b)) := of_decide_eq_true (bytes_all (P := fun b => decide (g2 (g1 b) < 256 ∧ nib (g2 (g1 b)))) (by decide +kernel) hb)
theorem g3_pop {b : Nat} (hb : b < 256) : g3 (g2 (g1 b)) = pop8 b ∧ pop8 b ≤ 8 := of_decide_eq_true (bytes_all (P := fun b => decide (g3 (g2 (g1 b)) = pop8 b ∧ pop8 b ≤ 8)) (by decide +kernel) hb)
theorem f1_dig : ∀ {l : List Nat}, (∀ b ∈ l, b < 256) → ((dig l / 2) &&& msk8 85 l.length) + (dig l &&& msk8 85 l.length) = dig (l.map g1)
  | [], _ => by simp [dig, msk8]
  | b :: l, h => by
    have hb := h b (by simp)
    have ih := f1_dig (l := l) fun c hc => h c (by simp [hc])
    obtain ⟨h1, h2⟩ := t1 hb (show dig l % 2 < 2 from Nat.mod_lt _ (by omega))
    have e : dig (b :: l) / 2 = 256 * (dig l / 2) + (128 * (dig l % 2) + b / 2) := by rw [dig]; omega
    rw [e, List.length_cons, msk8, and_byte _ _ h1 (by omega), h2, dig, and_byte _ _ hb (by omega), List.map_cons, dig, ← ih]
    unfold g1
    omega
theorem f2_dig : ∀ {l : List Nat}, (∀ b ∈ l, b < 256) → ((dig l / 4) &&& msk8 51 l.length) + (dig l &&& msk8 51 l.length) = dig (l.map g2)
  | [], _ => by simp [dig, msk8]
  | b :: l, h => by
    have hb := h b (by simp)
    have ih := f2_dig (l := l) fun c hc => h c (by simp [hc])
    obtain ⟨h1, h2⟩ := t2 hb (show dig l % 4 < 4 from Nat.mod_lt _ (by omega))
    have e : dig (b :: l) / 4 = 256 * (dig l / 4) + (64 * (dig l % 4) + b / 4) := by rw [dig]; omega
    rw [e, List.length_cons, msk8, and_byte _ _ h1 (by omega), h2, dig, and_byte _ _ hb (by omega), List.map_cons, dig, ← ih]
    unfold g2
    omega
theorem dig_mod : ∀ {l : List Nat}, (∀ b ∈ l, b < 256 ∧ nib b) → dig l % 16 < 5
  | [], _ => by simp [dig]
  | b :: l, h => by
    obtain ⟨h1, h2, h3⟩ := h b (by simp)
    rw [dig]; omega
theorem f3_dig : ∀ {l : List Nat}, (∀ b ∈ l, b < 256 ∧ nib b) → (dig l / 16 + dig l) &&& msk8 15 l.length = dig (l.map g3)
  | [], _ => by simp [dig, msk8]
  | b :: l, h => by
    obtain ⟨hb, hn⟩ := h b (by simp)
    have ih := f3_dig (l := l) fun c hc => h c (by simp [hc])
    obtain ⟨h1, h2⟩ := t3 hb hn (dig_mod (l := l) fun c hc => h c (by simp [hc]))
    have e : dig (b :: l) / 16 + dig (b :: l) = 256 * (dig l / 16 + dig l) + (16 * (dig l % 16) + b / 16 + b) := by rw [dig]; omega
    rw [e, List.length_cons, msk8, and_byte _ _ h1 (by omega), h2, ih, List.map_cons, dig]
def cntB (n m : Nat) : Nat := (List.range n).countP fun i => m.testBit i
theorem cnt_dig : ∀ {l : List Nat}, (∀ b ∈ l, b < 256) → cntB (8 * l.length) (dig l) = (l.map pop8).sum
  | [], _ => rfl
  | b :: l, h => by
    have hb := h b (by simp)
    have ih := cnt_dig (l := l) fun c hc => h c (by simp [hc])
    have e1 : ∀ i, (dig (b :: l)).testBit i = if i < 8 then b.testBit i else (dig l).testBit (i - 8) := fun i => by
      rw [dig, show 256 = 2 ^ 8 from rfl, Nat.testBit_two_pow_mul_add _ (show b < 2 ^ 8 from hb)]
    rw [List.length_cons, List.map_cons, List.sum_cons, ← ih, cntB, show 8 * (l.length + 1) = 8 + 8 * l.length by omega, List.range_add, List.countP_append, List.countP_map]
    congr 1
    · rw [pop8]
      refine List.countP_congr fun i hi => ?_
      rw [e1, if_pos (List.mem_range.1 hi)]
    · rw [cntB]
      refine List.countP_congr fun i _ => ?_
      show (dig (b :: l)).testBit (8 + i) = true ↔ _
      rw [e1, if_neg (by omega), Nat.add_sub_cancel_left]
/-- The bytes of a word. -/
def bytesN : Nat → Nat → List Nat
  | 0, _ => []
  | n + 1, m => m % 256 :: bytesN n (m / 256)
theorem bytesN_lt : ∀ (n m : Nat), ∀ b ∈ bytesN n m, b < 256
  | 0, _, _, h => by cases h
  | n + 1, m, b, h => by
    rcases List.mem_cons.1 h with rfl | h
    · exact Nat.mod_lt _ (by omega)
    · exact bytesN_lt n _ b h
theorem bytesN_dig : ∀ (n m : Nat), m < 256 ^ n → dig (bytesN n m) = m
  | 0, m, h => by simp at h; simp [bytesN, dig, h]
  | n + 1, m, h => by
    rw [bytesN, dig, bytesN_dig n (m / 256) (Nat.div_lt_of_lt_mul (by rw [Nat.pow_succ] at h; omega))]
    omega
theorem dig_lt : ∀ {l : List Nat} {k : Nat}, l.length = k → (∀ b ∈ l, b < 256) → dig l < 256 ^ k
  | [], k, e, _ => by subst e; decide
  | b :: l, k, e, h => by
    subst e
    have h1 := dig_lt (l := l) rfl fun c hc => h c (by simp [hc])
    have h2 := h b (by simp)
    rw [dig, List.length_cons, Nat.pow_succ]; omega
theorem div_lo {x lo hi k : Nat} (h : x = lo + k * hi) (hl : lo < k) : x / k = hi := by
  subst h
  rw [Nat.add_mul_div_left _ _ (Nat.zero_lt_of_lt hl), Nat.div_eq_of_lt hl, Nat.zero_add]
/-- The sum of eight small bytes. -/
theorem sum8 {a0 a1 a2 a3 a4 a5 a6 a7 c c1 c2 c3 c4 c5 c6 : Nat} (b0 : a0 ≤ 8) (b1 : a1 ≤ 8) (b2 : a2 ≤ 8) (b3 : a3 ≤ 8) (b4 : a4 ≤ 8) (b5 : a5 ≤ 8) (b6 : a6 ≤ 8) (b7 : a7 ≤ 8) (h6 : c6 = a6 + 256 * a7) (h5 : c5 = a5 + 256 * c6) (h4 : c4 = a4 + 256 * c5) (h3 : c3 = a3 + 256 * c4) (h2 : c2 = a2 + 256 * c3) (h1 : c1 = a1 + 256 * c2) (hc : c = a0 + 256 * c1) :
    c + c / 256 < 18446744073709551616 ∧ (c + c / 256) + (c + c / 256) / 65536 < 18446744073709551616 ∧ ((c + c / 256) + (c + c / 256) / 65536) + ((c + c / 256) + (c + c / 256) / 65536) / 4294967296 < 9223372036854775808 ∧ (((c + c / 256) + (c + c / 256) / 65536) + ((c + c / 256) + (c + c / 256) / 65536) / 4294967296) % 128 = a0 + (a1 + (a2 + (a3 + (a4 + (a5 + (a6 + a7)))))) := by
  have hb : c ≤ 578721382704613384 := by
    have q6 : c6 ≤ 2056 := by omega
    have q5 : c5 ≤ 526344 := by clear h4 h3 h2 h1 hc; omega
    have q4 : c4 ≤ 134744072 := by clear h6 h3 h2 h1 hc; omega
    have q3 : c3 ≤ 34494482440 := by clear h6 h5 h2 h1 hc; omega
    have q2 : c2 ≤ 8830587504648 := by clear h6 h5 h4 h1 hc; omega
    have q1 : c1 ≤ 2260630401189896 := by clear h6 h5 h4 h3 hc; omega
    clear h6 h5 h4 h3 h2 h1; omega
  have e1 : c / 256 = c1 := div_lo (lo := a0) hc (by omega)
  have e2 : (c + c1) / 65536 = c2 + c3 := div_lo (lo := (a0 + a1) + 256 * (a1 + a2)) (by clear b0 b1 b2 b3 b4 b5 b6 b7 h6 h5 h4 hb e1; omega) (by omega)
  have e3 : ((c + c1) + (c2 + c3)) / 4294967296 = (c4 + c5) + (c6 + a7) := div_lo (lo := (a0 + a1 + a2 + a3) + 256 * (a1 + a2 + a3 + a4) + 65536 * (a2 + a3 + a4 + a5) + 16777216 * (a3 + a4 + a5 + a6)) (by clear b0 b1 b2 b3 b4 b5 b6 b7 hb e1 e2; omega) (by clear h6 h5 h4 h3 h2 h1 hc hb e1 e2; omega)
  rw [e1, e2, e3]
  have i1 : c1 ≤ c := by clear h6 h5 h4 h3 h2 h1 e1 e2 e3 hb; omega
  have i2 : c2 ≤ c1 := by clear h6 h5 h4 h3 h2 hc e1 e2 e3 hb; omega
  have i3 : c3 ≤ c2 := by clear h6 h5 h4 h3 h1 hc e1 e2 e3 hb; omega
  have i4 : c4 ≤ c3 := by clear h6 h5 h4 h2 h1 hc e1 e2 e3 hb; omega
  have i5 : c5 ≤ c4 := by clear h6 h5 h3 h2 h1 hc e1 e2 e3 hb; omega
  have i6 : c6 ≤ c5 := by clear h6 h4 h3 h2 h1 hc e1 e2 e3 hb; omega
  have i7 : a7 ≤ c6 := by clear h5 h4 h3 h2 h1 hc e1 e2 e3 hb; omega
  refine ⟨by clear h6 h5 h4 h3 h2 h1 hc e1 e2 e3; omega, by clear h6 h5 h4 h3 h2 h1 hc e1 e2 e3; omega, by clear h6 h5 h4 h3 h2 h1 hc e1 e2 e3; omega, ?_⟩
  have hs : ((c + c1) + (c2 + c3)) + ((c4 + c5) + (c6 + a7)) = (a0 + (a1 + (a2 + (a3 + (a4 + (a5 + (a6 + a7))))))) + 128 * (2 * ((c1 + c2) + (c3 + c4) + (c5 + c6) + a7)) := by
    clear b0 b1 b2 b3 b4 b5 b6 b7 hb e1 e2 e3 i1 i2 i3 i4 i5 i6 i7; omega
  rw [hs, Nat.add_mul_mod_self_left, Nat.mod_eq_of_lt]
  clear h6 h5 h4 h3 h2 h1 hc e1 e2 e3 hb i1 i2 i3 i4 i5 i6 i7 hs; omega
theorem dig_nib : ∀ {l : List Nat} {k : Nat}, l.length = k → (∀ b ∈ l, b < 256 ∧ nib b) → 255 * dig l ≤ 68 * (256 ^ k - 1)
  | [], k, e, _ => by subst e; decide
  | b :: l, k, e, h => by
    subst e
    have h1 := dig_nib (l := l) rfl fun c hc => h c (by simp [hc])
    obtain ⟨h2, h3, h4⟩ := h b (by simp)
    have hp : 0 < 256 ^ l.length := Nat.pow_pos (by omega)
    rw [dig, List.length_cons, Nat.pow_succ]
    omega
/-- The three masks, the three sums. -/
theorem swar {m : Nat} (hm : m < 18446744073709551616) : ∃ a b c : Nat, (m >>> 1 &&& 6148914691236517205) + (m &&& 6148914691236517205) = a ∧ a < 18446744073709551616 ∧ (a >>> 2 &&& 3689348814741910323) + (a &&& 3689348814741910323) = b ∧ b < 18446744073709551616 ∧ b >>> 4 + b < 18446744073709551616 ∧ (b >>> 4 + b) &&& 1085102592571150095 = c ∧ c + c >>> 8 < 18446744073709551616 ∧
    (c + c >>> 8) + (c + c >>> 8) >>> 16 < 18446744073709551616 ∧ ((c + c >>> 8) + (c + c >>> 8) >>> 16) + ((c + c >>> 8) + (c + c >>> 8) >>> 16) >>> 32 < 9223372036854775808 ∧ (((c + c >>> 8) + (c + c >>> 8) >>> 16) + ((c + c >>> 8) + (c + c >>> 8) >>> 16) >>> 32) % 128 = cntB 64 m ∧ cntB 64 m ≤ 64 := by
  have hb := bytesN_lt 8 m
  have hd := bytesN_dig 8 m hm
  have hl : (bytesN 8 m).length = 8 := rfl
  generalize bytesN 8 m = l at *
  subst hd
  have e1 := f1_dig hb
  have hb1 : ∀ b ∈ l.map g1, b < 256 := fun b h => by obtain ⟨c, hc, rfl⟩ := List.mem_map.1 h; exact g1_lt (hb c hc)
  have e2 := f2_dig hb1
  have hb2 : ∀ b ∈ (l.map g1).map g2, b < 256 ∧ nib b := fun b h => by
    obtain ⟨d, hd, rfl⟩ := List.mem_map.1 h
    obtain ⟨c, hc, rfl⟩ := List.mem_map.1 hd
    exact g2_nib (hb c hc)
  have e3 := f3_dig hb2
  have hc := cnt_dig hb
  have q1 := dig_lt (k := 8) (by rw [List.length_map, hl]) hb1
  have q2 := dig_lt (l := (l.map g1).map g2) (k := 8) (by rw [List.length_map, List.length_map, hl]) fun b h => (hb2 b h).1
  rw [List.length_map, hl] at e2
  rw [List.length_map, List.length_map, hl] at e3
  rw [hl] at e1 hc
  have k1 : msk8 85 8 = 6148914691236517205 := by decide +kernel
  have k2 : msk8 51 8 = 3689348814741910323 := by decide +kernel
  have k3 : msk8 15 8 = 1085102592571150095 := by decide +kernel
  rw [k1] at e1
  rw [k2] at e2
  rw [k3] at e3
  have hpop : ((l.map g1).map g2).map g3 = l.map pop8 := by
    rw [List.map_map, List.map_map]
    exact List.map_congr_left fun b h => (g3_pop (hb b h)).1
  rw [hpop] at e3
  have hpl : (l.map pop8).length = 8 := by rw [List.length_map, hl]
  have hp8 : ∀ p ∈ l.map pop8, p ≤ 8 := fun p h => by obtain ⟨c, hc, rfl⟩ := List.mem_map.1 h; exact (g3_pop (hb c hc)).2
  refine ⟨dig (l.map g1), dig ((l.map g1).map g2), dig (l.map pop8), by rw [Nat.shiftRight_eq_div_pow]; exact e1, q1, by rw [Nat.shiftRight_eq_div_pow]; exact e2, q2, ?_, by rw [Nat.shiftRight_eq_div_pow]; exact e3, ?_⟩
  · have hm68 := dig_nib (l := (l.map g1).map g2) (k := 8) (by rw [List.length_map, List.length_map, hl]) fun b h => hb2 b h
    rw [Nat.shiftRight_eq_div_pow]
    omega
  · rw [show (64 : Nat) = 8 * 8 from rfl, hc]
    generalize l.map pop8 = p at *
    match p, hpl with
    | [a0, a1, a2, a3, a4, a5, a6, a7], _ =>
      have b0 := hp8 a0 (by simp)
      have b1 := hp8 a1 (by simp)
      have b2 := hp8 a2 (by simp)
      have b3 := hp8 a3 (by simp)
      have b4 := hp8 a4 (by simp)
      have b5 := hp8 a5 (by simp)
      have b6 := hp8 a6 (by simp)
      have b7 := hp8 a7 (by simp)
      obtain ⟨s1, s2, s3, s4⟩ := sum8 (c := dig [a0, a1, a2, a3, a4, a5, a6, a7]) (c1 := dig [a1, a2, a3, a4, a5, a6, a7]) (c2 := dig [a2, a3, a4, a5, a6, a7]) (c3 := dig [a3, a4, a5, a6, a7]) (c4 := dig [a4, a5, a6, a7]) (c5 := dig [a5, a6, a7]) (c6 := dig [a6, a7]) b0 b1 b2 b3 b4 b5 b6 b7 (by simp [dig]; omega) (by rw [dig, Nat.add_comm]) (by rw [dig, Nat.add_comm]) (by rw [dig, Nat.add_comm]) (by rw [dig, Nat.add_comm]) (by rw [dig, Nat.add_comm]) (by rw [dig, Nat.add_comm])
      have e8 : ∀ x : Nat, x >>> 8 = x / 256 := fun x => by rw [Nat.shiftRight_eq_div_pow]
      have e16 : ∀ x : Nat, x >>> 16 = x / 65536 := fun x => by rw [Nat.shiftRight_eq_div_pow]
      have e32 : ∀ x : Nat, x >>> 32 = x / 4294967296 := fun x => by rw [Nat.shiftRight_eq_div_pow]
      rw [e8, e16, e32]
      have hs : [a0, a1, a2, a3, a4, a5, a6, a7].sum = a0 + (a1 + (a2 + (a3 + (a4 + (a5 + (a6 + a7)))))) := by simp
      rw [hs]
      exact ⟨s1, s2, s3, s4, by omega⟩
theorem cnt_le (m : Nat) : cntB 64 m ≤ 64 := Nat.le_trans List.countP_le_length (by rw [List.length_range]; exact Nat.le_refl _)
end Go.Proofs.YtnpcilglilfajaaGreatDoor
