/- What the law's proof rests on: the engine, a small separation logic over the kit's walk, and contracts of the functions that the law reaches. Part 2. -/
import Derived.Test.YtnpcilglilfajaaGreatDoorCards
import Derived.Test.YtnpcilglilfajaaGreatDoorTie
import Derived.WalkKit
import Derived.ProofKit
import Derived.OpenShut
import Derived.Deep.DeepHandedRow
import Derived.Deep.Slices
import Derived.Lib.LaidTab
import Derived.Lib.SmallJoins
import Derived.Stop.LaidErr
import Derived.WideKeyArgs
import Derived.Laws.Strings
import Derived.Test.YtnpcilglilfajaaGreatDoorPart1
namespace Go.Proofs.YtnpcilglilfajaaGreatDoor
section
set_option maxRecDepth 100000
theorem en116 : Enters Tryz.prog 116 := enters_mk Tryz.func116 (by kernel_rfl) rfl
theorem en84 : Enters Tryz.prog 84 := enters_mk Tryz.func84 (by kernel_rfl) rfl
theorem fa53_0 : FAdr Tryz.prog 53 0 0 := fadr_mk Tryz.underlying53 rfl rfl (by kernel_rfl)
theorem mk51 : ∃ i, Tryz.prog.info? 58 = some i ∧ i.size = 1 ∧ i.bytes = 8 ∧ i.zero = some (.int .u64 0) := mk_of (by kernel_rfl)
theorem z53 : Zero Tryz.prog 53 [.slice none 0 0] := ⟨zero_of (by kernel_rfl)⟩
theorem st53 : StT Tryz.prog 53 [(0, 1)] [.slice none 0 0] := ⟨⟨_, Tryz.underlying53, fun _ => by kernel_rfl, z53⟩⟩
theorem ty51 : Ty Tryz.prog 51 false 1 := ⟨⟨_, Tryz.underlying51, rfl⟩, by kernel_rfl⟩
theorem ty53 : Ty Tryz.prog 53 true 1 := ⟨⟨_, Tryz.underlying53, rfl⟩, by kernel_rfl⟩
theorem ty58 : Ty Tryz.prog 58 false 1 := ⟨⟨_, Tryz.underlying58, rfl⟩, by kernel_rfl⟩
end
/-- v is the set with the mask m: no word, or one word that is not zero. -/
def SetR (X : PMap) (v : Value) (m : Nat) : Prop :=
  (m = 0 ∧ ∃ A c, v = .agg #[.slice A 0 c]) ∨
  (0 < m ∧ m < 18446744073709551616 ∧ ∃ b c rest, v = .agg #[.slice (some ⟨b, 0, none⟩) 1 c] ∧ Blk X b (.int .u64 m :: rest))
theorem SetR.mono {X X' : PMap} {v : Value} {m : Nat} (h : SetR X v m) (hX : X.le X') : SetR X' v m := by
  rcases h with h | ⟨h0, h1, b, c, r, hv, hb⟩
  · exact .inl h
  · exact .inr ⟨h0, h1, b, c, r, hv, hb.mono hX⟩

theorem SetR.form {X : PMap} {v : Value} {m : Nat} (h : SetR X v m) : ∃ A l c, v = .agg #[.slice A l c] := by
  rcases h with ⟨_, A, c, rfl⟩ | ⟨_, _, b, c, _, rfl, _⟩
  · exact ⟨A, 0, c, rfl⟩
  · exact ⟨_, 1, c, rfl⟩
theorem SetR.lt {X : PMap} {v : Value} {m : Nat} (h : SetR X v m) : m < 18446744073709551616 := by
  rcases h with ⟨rfl, _⟩ | ⟨_, h, _⟩ <;> omega

theorem word_spec {X : PMap} {v : Value} {m : Nat} (h : SetR X v m) (k w : Nat) (hw : (if k = 0 then m else 0) = w) : Spec Tryz.prog 116 [v, .int .i64 (k : Int)] X fun u _ => u = .int .u64 (w : Int) := by
  subst hw
  rcases h with ⟨rfl, A, c, rfl⟩ | ⟨h0, h1, b, c, rest, rfl, hB⟩
  · refine Spec.enter Tryz.func116 rfl Tryz.ntmps116 rfl ?_
    intro w0 hw0
    refine T.seq <| T.region <| SL.w (op_box rfl) ?_
    rintro _ _ _ ⟨B2, rfl, rfl, rfl⟩
    refine SL.v (op_assign (v := .int .u64 ((0 : Nat) : Int)) rfl) <| SL.nil <| T.seq <| T.seq <| T.region <| SL.mv rfl <| SL.v (op_fieldAddr fa53_0 rfl) <| SL.v (op_load ty51 rfl (by repeat constructor) rfl) ?_
    refine SL.v (op_lenS Tryz.underlying51 rfl) <| SL.v (op_lssF rfl rfl (by omega)) ?_
    refine SL.nil <| T.condF rfl <| T.skip <| T.seq <| T.region <| SL.v (op_assign (v := .int .u64 ((0 : Nat) : Int)) rfl) <| SL.nil <| T.ret1 rfl (ResIs.tmp rfl) ?_
    simp
  · by_cases hk : k = 0
    · subst hk
      refine Spec.enter Tryz.func116 rfl Tryz.ntmps116 rfl ?_
      intro w0 hw0
      refine T.seq <| T.region <| SL.w (op_box rfl) ?_
      rintro _ _ _ ⟨B2, rfl, rfl, rfl⟩
      refine SL.v (op_assign (v := .int .u64 ((0 : Nat) : Int)) rfl) <| SL.nil <| T.seq <| T.seq <| T.region <| SL.mv rfl <| SL.v (op_fieldAddr fa53_0 rfl) <| SL.v (op_load ty51 rfl (by repeat constructor) rfl) ?_
      refine SL.v (op_lenS Tryz.underlying51 rfl) <| SL.v (op_lssT rfl rfl (by omega)) ?_
      refine SL.nil <| T.condT rfl <| T.seq <| T.region <| SL.v (op_fieldAddr fa53_0 rfl) <| SL.v (op_load ty51 rfl (by repeat constructor) rfl) ?_
      refine SL.mv rfl <| SL.v (op_indexN Tryz.underlying51 ty58 rfl rfl (by omega)) ?_
      refine SL.v (op_loadX ty58 rfl (by assumption) rfl) ?_
      refine SL.as rfl <| SL.nil <| T.ret1 rfl (ResIs.tmp rfl) ?_
      simp
    · refine Spec.enter Tryz.func116 rfl Tryz.ntmps116 rfl ?_
      intro w0 hw0
      refine T.seq <| T.region <| SL.w (op_box rfl) ?_
      rintro _ _ _ ⟨B2, rfl, rfl, rfl⟩
      refine SL.v (op_assign (v := .int .u64 ((0 : Nat) : Int)) rfl) <| SL.nil <| T.seq <| T.seq <| T.region <| SL.mv rfl <| SL.v (op_fieldAddr fa53_0 rfl) <| SL.v (op_load ty51 rfl (by repeat constructor) rfl) ?_
      refine SL.v (op_lenS Tryz.underlying51 rfl) <| SL.v (op_lssF rfl rfl (by omega)) ?_
      refine SL.nil <| T.condF rfl <| T.skip <| T.seq <| T.region <| SL.v (op_assign (v := .int .u64 ((0 : Nat) : Int)) rfl) <| SL.nil <| T.ret1 rfl (ResIs.tmp rfl) ?_
      simp [hk]

/-- Is i a member of the set with the mask m? -/
def hasB (m : Nat) (i : Int) : Bool := decide (0 ≤ i) && m.testBit i.toNat
theorem testBit_big {m k : Nat} (h : m < 18446744073709551616) (hk : 64 ≤ k) : m.testBit k = false := by
  exact Nat.testBit_lt_two_pow (Nat.lt_of_lt_of_le (show m < 2 ^ 64 from h) (Nat.pow_le_pow_right (by omega) hk))
theorem shr_and_one (m k : Nat) : (m >>> k &&& 1) = if m.testBit k then 1 else 0 := by
  rw [Nat.and_one_is_mod, Nat.testBit_eq_decide_div_mod_eq, Nat.shiftRight_eq_div_pow]
  have := Nat.mod_two_eq_zero_or_one (m / 2 ^ k)
  rcases this with h | h <;> simp [h]

theorem has_spec {X : PMap} {v : Value} {m : Nat} (h : SetR X v m) (i : Int) : Spec Tryz.prog 124 [v, .int .i64 i] X fun u _ => u = .bool (hasB m i) := by
  have hlt := h.lt
  obtain ⟨A, l, c, rfl⟩ := h.form
  by_cases h0 : i < 0
  · refine Spec.enter Tryz.func124 rfl Tryz.ntmps124 rfl ?_
    intro w0 hw0
    refine T.seq <| T.region <| SL.w (op_box rfl) ?_
    rintro _ _ _ ⟨B2, rfl, rfl, rfl⟩
    refine SL.as rfl <| SL.nil <| T.seq <| T.region <| SL.mv rfl <| SL.v (op_geqF rfl rfl (by omega)) ?_
    refine SL.mv rfl <| SL.skip rfl rfl ?_
    refine SL.skip rfl rfl ?_
    refine SL.v (op_pickF rfl rfl) <| SL.mv rfl <| SL.skip rfl rfl ?_
    refine SL.skip rfl rfl ?_
    refine SL.skip rfl rfl ?_
    refine SL.skip rfl rfl ?_
    refine SL.skip rfl rfl ?_
    refine SL.skip rfl rfl ?_
    refine SL.skip rfl rfl ?_
    refine SL.skip rfl rfl ?_
    refine SL.skip rfl rfl ?_
    refine SL.v (op_pickF rfl rfl) <| SL.as rfl <| SL.nil <| T.ret1 rfl (ResIs.tmp rfl) ?_
    simp [hasB]; omega
  · obtain ⟨k, rfl⟩ := Int.eq_ofNat_of_zero_le (show 0 ≤ i by omega)
    by_cases h1 : 4095 < k
    · refine Spec.enter Tryz.func124 rfl Tryz.ntmps124 rfl ?_
      intro w0 hw0
      refine T.seq <| T.region <| SL.w (op_box rfl) ?_
      rintro _ _ _ ⟨B2, rfl, rfl, rfl⟩
      refine SL.as rfl <| SL.nil <| T.seq <| T.region <| SL.mv rfl <| SL.v (op_geqT rfl rfl (by omega)) ?_
      refine SL.mv rfl <| SL.mv rfl <| SL.v (op_leqF rfl rfl (by omega)) ?_
      refine SL.v (op_pickT rfl rfl) <| SL.mv rfl <| SL.skip rfl rfl ?_
      refine SL.skip rfl rfl ?_
      refine SL.skip rfl rfl ?_
      refine SL.skip rfl rfl ?_
      refine SL.skip rfl rfl ?_
      refine SL.skip rfl rfl ?_
      refine SL.skip rfl rfl ?_
      refine SL.skip rfl rfl ?_
      refine SL.skip rfl rfl ?_
      refine SL.v (op_pickF rfl rfl) <| SL.as rfl <| SL.nil <| T.ret1 rfl (ResIs.tmp rfl) ?_
      simp [hasB, testBit_big hlt (show 64 ≤ k by omega)]
    · by_cases h2 : k < 64
      · have hsh : m >>> k < 18446744073709551616 := Nat.lt_of_le_of_lt (Nat.shiftRight_le ..) hlt
        refine Spec.enter Tryz.func124 rfl Tryz.ntmps124 rfl ?_
        intro w0 hw0
        refine T.seq <| T.region <| SL.w (op_box rfl) ?_
        rintro _ _ _ ⟨B2, rfl, rfl, rfl⟩
        refine SL.as rfl <| SL.nil <| T.seq <| T.region <| SL.mv rfl <| SL.v (op_geqT rfl rfl (by omega)) ?_
        refine SL.mv rfl <| SL.mv rfl <| SL.v (op_leqT rfl rfl (by omega)) ?_
        refine SL.v (op_pickT rfl rfl) <| SL.mv rfl <| SL.v (op_load ty53 rfl (by repeat constructor) rfl) ?_
        refine SL.mv rfl <| SL.v (op_quo0 (q := 64) rfl rfl rfl (by omega) (by omega)) ?_
        refine SL.w (op_callF en116 (vs := [_, _]) rfl (word_spec h _ m (if_pos (by omega)))) ?_
        rintro _ _ X1 ⟨rfl, hX1, rfl⟩
        refine SL.mv rfl <| SL.v (op_remS (q := 64) rfl rfl rfl (by omega)) ?_
        refine SL.v (op_shrN rfl rfl (by omega)) ?_
        refine SL.v (op_and (q := 1) rfl rfl (by first | omega | assumption | decide | exact Nat.lt_of_le_of_lt (Nat.shiftRight_le ..) (by first | omega | assumption) | exact Nat.lt_of_le_of_lt Nat.and_le_left (by first | omega | assumption) | exact Nat.lt_of_le_of_lt Nat.and_le_right (by first | omega | decide)) (by first | omega | assumption | decide | exact Nat.lt_of_le_of_lt (Nat.shiftRight_le ..) (by first | omega | assumption) | exact Nat.lt_of_le_of_lt Nat.and_le_left (by first | omega | assumption) | exact Nat.lt_of_le_of_lt Nat.and_le_right (by first | omega | decide))) ?_
        refine SL.v (op_eql rfl rfl) <| SL.v (op_pickT rfl rfl) <| SL.as rfl <| SL.nil <| T.ret1 rfl (ResIs.tmp rfl) ?_
        rw [shr_and_one]
        cases hb : m.testBit k <;> simp [hasB, hb]
      · have hsh : 0 >>> (k % 64) < 18446744073709551616 := by simp
        refine Spec.enter Tryz.func124 rfl Tryz.ntmps124 rfl ?_
        intro w0 hw0
        refine T.seq <| T.region <| SL.w (op_box rfl) ?_
        rintro _ _ _ ⟨B2, rfl, rfl, rfl⟩
        refine SL.as rfl <| SL.nil <| T.seq <| T.region <| SL.mv rfl <| SL.v (op_geqT rfl rfl (by omega)) ?_
        refine SL.mv rfl <| SL.mv rfl <| SL.v (op_leqT rfl rfl (by omega)) ?_
        refine SL.v (op_pickT rfl rfl) <| SL.mv rfl <| SL.v (op_load ty53 rfl (by repeat constructor) rfl) ?_
        refine SL.mv rfl <| SL.v (op_quoN (q := 64) rfl rfl rfl (by omega) (by decide)) ?_
        refine SL.w (op_callF en116 (vs := [_, _]) rfl (word_spec h _ 0 (if_neg (by omega)))) ?_
        rintro _ _ X1 ⟨rfl, hX1, rfl⟩
        refine SL.mv rfl <| SL.v (op_remN (q := 64) rfl rfl rfl (by decide)) ?_
        refine SL.v (op_shrN rfl rfl (by omega)) ?_
        refine SL.v (op_and (q := 1) rfl rfl (by first | omega | assumption | decide | exact Nat.lt_of_le_of_lt (Nat.shiftRight_le ..) (by first | omega | assumption) | exact Nat.lt_of_le_of_lt Nat.and_le_left (by first | omega | assumption) | exact Nat.lt_of_le_of_lt Nat.and_le_right (by first | omega | decide)) (by first | omega | assumption | decide | exact Nat.lt_of_le_of_lt (Nat.shiftRight_le ..) (by first | omega | assumption) | exact Nat.lt_of_le_of_lt Nat.and_le_left (by first | omega | assumption) | exact Nat.lt_of_le_of_lt Nat.and_le_right (by first | omega | decide))) ?_
        refine SL.v (op_eql rfl rfl) <| SL.v (op_pickT rfl rfl) <| SL.as rfl <| SL.nil <| T.ret1 rfl (ResIs.tmp rfl) ?_
        simp [hasB, testBit_big hlt (show 64 ≤ k by omega)]

theorem SetR.zero {X : PMap} {A : Option Addr} {c : Nat} : SetR X (.agg #[.slice A 0 c]) 0 := .inl ⟨rfl, A, c, rfl⟩
theorem SetR.one {X : PMap} {b c m : Nat} {rest : List Value} (h0 : m ≠ 0) (h : m < 18446744073709551616) (hB : Blk X b (.int .u64 m :: rest)) : SetR X (.agg #[.slice (some ⟨b, 0, none⟩) 1 c]) m := .inr ⟨Nat.pos_of_ne_zero h0, h, b, c, rest, rfl, hB⟩

theorem trim0_spec {X : PMap} (A : Option Addr) (c : Nat) : Spec Tryz.prog 84 [.slice A 0 c] X fun u X' => SetR X' u 0 := by
  refine Spec.enter Tryz.func84 rfl Tryz.ntmps84 rfl ?_
  intro w0 hw0
  refine T.seq <| T.region <| SL.w (op_alloc z53) ?_
  rintro _ _ _ ⟨B2, rfl, rfl, rfl⟩
  refine SL.nil <| T.seq <| T.block <| T.unrollStart 1 ?_
  refine T.unroll ?_
  refine T.seq <| T.seq <| T.region <| SL.mv rfl <| SL.v (op_lenS Tryz.underlying51 rfl) <| SL.v (op_gtrF rfl rfl (by omega)) ?_
  refine SL.mv rfl <| SL.skip rfl rfl ?_
  refine SL.skip rfl rfl ?_
  refine SL.skip rfl rfl ?_
  refine SL.skip rfl rfl ?_
  refine SL.skip rfl rfl ?_
  refine SL.skip rfl rfl ?_
  refine SL.skip rfl rfl ?_
  refine SL.v (op_pickF rfl rfl) <| SL.nil <| T.condF rfl ?_
  refine T.exit (T.exitCode (T.exitMore (T.exitBlk ?_)))
  refine T.seq <| T.region <| SL.mv rfl <| SL.v (op_build st53 (qs := [(0, _)]) rfl rfl) <| SL.w (op_store ty53 rfl rfl (by repeat constructor) rfl rfl rfl) ?_
  rintro _ _ _ ⟨rfl, rfl⟩
  refine SL.nil <| T.ret1 rfl (ResIs.cell rfl ty53 (by repeat constructor) rfl) ?_
  exact SetR.zero
theorem trim1_spec {X : PMap} {b c m : Nat} {rest : List Value} (hm : m < 18446744073709551616) (hB : Blk X b (.int .u64 m :: rest)) (hc : 1 ≤ c) : Spec Tryz.prog 84 [.slice (some ⟨b, 0, none⟩) 1 c] X fun u X' => SetR X' u m := by
  by_cases h0 : m = 0
  · subst h0
    refine Spec.enter Tryz.func84 rfl Tryz.ntmps84 rfl ?_
    intro w0 hw0
    refine T.seq <| T.region <| SL.w (op_alloc z53) ?_
    rintro _ _ _ ⟨B2, rfl, rfl, rfl⟩
    refine SL.nil <| T.seq <| T.block <| T.unrollStart 2 ?_
    refine T.unroll ?_
    refine T.seq <| T.seq <| T.region <| SL.mv rfl <| SL.v (op_lenS Tryz.underlying51 rfl) <| SL.v (op_gtrT rfl rfl (by omega)) ?_
    refine SL.mv rfl <| SL.mv rfl <| SL.mv rfl <| SL.v (op_lenS Tryz.underlying51 rfl) <| SL.v (op_subN (q := 1) rfl rfl (by omega) (by omega)) ?_
    refine SL.v (op_indexN Tryz.underlying51 ty58 rfl rfl (by omega)) ?_
    refine SL.v (op_loadX ty58 rfl (by assumption) rfl) ?_
    refine SL.v (op_eqlT rfl rfl (by omega)) ?_
    refine SL.v (op_pickT rfl rfl) <| SL.nil <| T.condT rfl <| T.skip <| T.block <| T.region <| SL.mv rfl <| SL.mv rfl <| SL.v (op_lenS Tryz.underlying51 rfl) <| SL.v (op_subN (q := 1) rfl rfl (by omega) (by omega)) ?_
    refine SL.v (op_slice (l := 0) (h := 0) Tryz.underlying51 ty58 rfl (fun _ h => by cases h) (fun _ => rfl) (fun _ h => by cases h; exact ⟨_, rfl⟩) (fun h => by cases h) (Nat.le_refl _) (by omega)) ?_
    refine SL.as rfl <| SL.nil <| T.blk <| T.unroll ?_
    refine T.seq <| T.seq <| T.region <| SL.mv rfl <| SL.v (op_lenS Tryz.underlying51 rfl) <| SL.v (op_gtrF rfl rfl (by omega)) ?_
    refine SL.mv rfl <| SL.skip rfl rfl ?_
    refine SL.skip rfl rfl ?_
    refine SL.skip rfl rfl ?_
    refine SL.skip rfl rfl ?_
    refine SL.skip rfl rfl ?_
    refine SL.skip rfl rfl ?_
    refine SL.skip rfl rfl ?_
    refine SL.v (op_pickF rfl rfl) <| SL.nil <| T.condF rfl ?_
    refine T.exit (T.exitCode (T.exitMore (T.exitBlk ?_)))
    refine T.seq <| T.region <| SL.mv rfl <| SL.v (op_build st53 (qs := [(0, _)]) rfl rfl) <| SL.w (op_store ty53 rfl rfl (by repeat constructor) rfl rfl rfl) ?_
    rintro _ _ _ ⟨rfl, rfl⟩
    refine SL.nil <| T.ret1 rfl (ResIs.cell rfl ty53 (by repeat constructor) rfl) ?_
    exact SetR.zero
  · refine Spec.enter Tryz.func84 rfl Tryz.ntmps84 rfl ?_
    intro w0 hw0
    refine T.seq <| T.region <| SL.w (op_alloc z53) ?_
    rintro _ _ _ ⟨B2, rfl, rfl, rfl⟩
    refine SL.nil <| T.seq <| T.block <| T.unrollStart 1 ?_
    refine T.unroll ?_
    refine T.seq <| T.seq <| T.region <| SL.mv rfl <| SL.v (op_lenS Tryz.underlying51 rfl) <| SL.v (op_gtrT rfl rfl (by omega)) ?_
    refine SL.mv rfl <| SL.mv rfl <| SL.mv rfl <| SL.v (op_lenS Tryz.underlying51 rfl) <| SL.v (op_subN (q := 1) rfl rfl (by omega) (by omega)) ?_
    refine SL.v (op_indexN Tryz.underlying51 ty58 rfl rfl (by omega)) ?_
    refine SL.v (op_loadX ty58 rfl (by assumption) rfl) ?_
    refine SL.v (op_eqlF rfl rfl (by omega)) ?_
    refine SL.v (op_pickT rfl rfl) <| SL.nil <| T.condF rfl ?_
    refine T.exit (T.exitCode (T.exitMore (T.exitBlk ?_)))
    refine T.seq <| T.region <| SL.mv rfl <| SL.v (op_build st53 (qs := [(0, _)]) rfl rfl) <| SL.w (op_store ty53 rfl rfl (by repeat constructor) rfl rfl rfl) ?_
    rintro _ _ _ ⟨rfl, rfl⟩
    refine SL.nil <| T.ret1 rfl (ResIs.cell rfl ty53 (by repeat constructor) rfl) ?_
    exact SetR.one h0 hm hB

theorem equal_spec {X : PMap} {v v' : Value} {m m' : Nat} (h : SetR X v m) (h' : SetR X v' m') : Spec Tryz.prog 37 [v, v'] X fun u _ => u = .bool (decide (m = m')) := by
  rcases h with ⟨rfl, A, c, rfl⟩ | ⟨h0, h1, b, c, rest, rfl, hB⟩ <;> rcases h' with ⟨rfl, A', c', rfl⟩ | ⟨h0', h1', b', c', rest', rfl, hB'⟩
  · refine Spec.enter Tryz.func37 rfl Tryz.ntmps37 rfl ?_
    intro w0 hw0
    refine T.seq <| T.region <| SL.w (op_box rfl) ?_
    rintro _ _ _ ⟨B2, rfl, rfl, rfl⟩
    refine SL.w (op_box rfl) ?_
    rintro _ _ _ ⟨B3, rfl, rfl, rfl⟩
    refine SL.as rfl <| SL.nil <| T.seq <| T.seq <| T.region <| SL.v (op_fieldAddr fa53_0 rfl) <| SL.v (op_load ty51 rfl (by repeat constructor) rfl) ?_
    refine SL.v (op_lenS Tryz.underlying51 rfl) <| SL.v (op_fieldAddr fa53_0 rfl) <| SL.v (op_load ty51 rfl (by repeat constructor) rfl) ?_
    refine SL.v (op_lenS Tryz.underlying51 rfl) <| SL.v (op_neqF rfl rfl (by omega)) ?_
    refine SL.nil <| T.condF rfl <| T.skip <| T.seq <| T.seq <| T.region <| SL.v (op_fieldAddr fa53_0 rfl) <| SL.v (op_load ty51 rfl (by repeat constructor) rfl) ?_
    refine SL.v (op_lenS Tryz.underlying51 rfl) <| SL.v (op_move (v := .int .i64 ((0 : Nat) : Int)) rfl) <| SL.nil <| T.block <| T.unrollStart 1 ?_
    refine T.unroll ?_
    refine T.seq <| T.region <| SL.v (op_lssF rfl rfl (by omega)) ?_
    refine SL.nil <| T.seq <| T.condF rfl ?_
    refine T.exit (T.exitCode (T.exitMore (T.exitBlk ?_)))
    refine T.seq <| T.region <| SL.as rfl <| SL.nil <| T.ret1 rfl (ResIs.tmp rfl) ?_
    simp
  · refine Spec.enter Tryz.func37 rfl Tryz.ntmps37 rfl ?_
    intro w0 hw0
    refine T.seq <| T.region <| SL.w (op_box rfl) ?_
    rintro _ _ _ ⟨B2, rfl, rfl, rfl⟩
    refine SL.w (op_box rfl) ?_
    rintro _ _ _ ⟨B3, rfl, rfl, rfl⟩
    refine SL.as rfl <| SL.nil <| T.seq <| T.seq <| T.region <| SL.v (op_fieldAddr fa53_0 rfl) <| SL.v (op_load ty51 rfl (by repeat constructor) rfl) ?_
    refine SL.v (op_lenS Tryz.underlying51 rfl) <| SL.v (op_fieldAddr fa53_0 rfl) <| SL.v (op_load ty51 rfl (by repeat constructor) rfl) ?_
    refine SL.v (op_lenS Tryz.underlying51 rfl) <| SL.v (op_neqT rfl rfl (by omega)) ?_
    refine SL.nil <| T.condT rfl <| T.seq <| T.region <| SL.as rfl <| SL.nil <| T.ret1 rfl (ResIs.tmp rfl) ?_
    simp; omega
  · refine Spec.enter Tryz.func37 rfl Tryz.ntmps37 rfl ?_
    intro w0 hw0
    refine T.seq <| T.region <| SL.w (op_box rfl) ?_
    rintro _ _ _ ⟨B2, rfl, rfl, rfl⟩
    refine SL.w (op_box rfl) ?_
    rintro _ _ _ ⟨B3, rfl, rfl, rfl⟩
    refine SL.as rfl <| SL.nil <| T.seq <| T.seq <| T.region <| SL.v (op_fieldAddr fa53_0 rfl) <| SL.v (op_load ty51 rfl (by repeat constructor) rfl) ?_
    refine SL.v (op_lenS Tryz.underlying51 rfl) <| SL.v (op_fieldAddr fa53_0 rfl) <| SL.v (op_load ty51 rfl (by repeat constructor) rfl) ?_
    refine SL.v (op_lenS Tryz.underlying51 rfl) <| SL.v (op_neqT rfl rfl (by omega)) ?_
    refine SL.nil <| T.condT rfl <| T.seq <| T.region <| SL.as rfl <| SL.nil <| T.ret1 rfl (ResIs.tmp rfl) ?_
    simp; omega
  · by_cases hm : m = m'
    · refine Spec.enter Tryz.func37 rfl Tryz.ntmps37 rfl ?_
      intro w0 hw0
      refine T.seq <| T.region <| SL.w (op_box rfl) ?_
      rintro _ _ _ ⟨B2, rfl, rfl, rfl⟩
      refine SL.w (op_box rfl) ?_
      rintro _ _ _ ⟨B3, rfl, rfl, rfl⟩
      refine SL.as rfl <| SL.nil <| T.seq <| T.seq <| T.region <| SL.v (op_fieldAddr fa53_0 rfl) <| SL.v (op_load ty51 rfl (by repeat constructor) rfl) ?_
      refine SL.v (op_lenS Tryz.underlying51 rfl) <| SL.v (op_fieldAddr fa53_0 rfl) <| SL.v (op_load ty51 rfl (by repeat constructor) rfl) ?_
      refine SL.v (op_lenS Tryz.underlying51 rfl) <| SL.v (op_neqF rfl rfl (by omega)) ?_
      refine SL.nil <| T.condF rfl <| T.skip <| T.seq <| T.seq <| T.region <| SL.v (op_fieldAddr fa53_0 rfl) <| SL.v (op_load ty51 rfl (by repeat constructor) rfl) ?_
      refine SL.v (op_lenS Tryz.underlying51 rfl) <| SL.v (op_move (v := .int .i64 ((0 : Nat) : Int)) rfl) <| SL.nil <| T.block <| T.unrollStart 2 ?_
      refine T.unroll ?_
      refine T.seq <| T.region <| SL.v (op_lssT rfl rfl (by omega)) ?_
      refine SL.nil <| T.seq <| T.condT rfl <| T.skip <| T.seq <| T.block <| T.seq <| T.region <| SL.mv rfl <| SL.v (op_indexN Tryz.underlying51 ty58 rfl rfl (by omega)) ?_
      refine SL.v (op_loadX ty58 rfl (by assumption) rfl) ?_
      refine SL.as rfl <| SL.as rfl <| SL.nil <| T.seq <| T.region <| SL.mv rfl <| SL.v (op_fieldAddr fa53_0 rfl) <| SL.v (op_load ty51 rfl (by repeat constructor) rfl) ?_
      refine SL.mv rfl <| SL.v (op_indexN Tryz.underlying51 ty58 rfl rfl (by omega)) ?_
      refine SL.v (op_loadX ty58 rfl (by assumption) rfl) ?_
      refine SL.v (op_neqF rfl rfl (by omega)) ?_
      refine SL.nil <| T.condF rfl <| T.skip <| T.blk <| T.region <| SL.v (op_addN (q := 1) rfl rfl (by omega)) ?_
      refine SL.mv rfl <| SL.nil <| T.unroll ?_
      refine T.seq <| T.region <| SL.v (op_lssF rfl rfl (by omega)) ?_
      refine SL.nil <| T.seq <| T.condF rfl ?_
      refine T.exit (T.exitCode (T.exitMore (T.exitBlk ?_)))
      refine T.seq <| T.region <| SL.as rfl <| SL.nil <| T.ret1 rfl (ResIs.tmp rfl) ?_
      simp [hm]
    · refine Spec.enter Tryz.func37 rfl Tryz.ntmps37 rfl ?_
      intro w0 hw0
      refine T.seq <| T.region <| SL.w (op_box rfl) ?_
      rintro _ _ _ ⟨B2, rfl, rfl, rfl⟩
      refine SL.w (op_box rfl) ?_
      rintro _ _ _ ⟨B3, rfl, rfl, rfl⟩
      refine SL.as rfl <| SL.nil <| T.seq <| T.seq <| T.region <| SL.v (op_fieldAddr fa53_0 rfl) <| SL.v (op_load ty51 rfl (by repeat constructor) rfl) ?_
      refine SL.v (op_lenS Tryz.underlying51 rfl) <| SL.v (op_fieldAddr fa53_0 rfl) <| SL.v (op_load ty51 rfl (by repeat constructor) rfl) ?_
      refine SL.v (op_lenS Tryz.underlying51 rfl) <| SL.v (op_neqF rfl rfl (by omega)) ?_
      refine SL.nil <| T.condF rfl <| T.skip <| T.seq <| T.seq <| T.region <| SL.v (op_fieldAddr fa53_0 rfl) <| SL.v (op_load ty51 rfl (by repeat constructor) rfl) ?_
      refine SL.v (op_lenS Tryz.underlying51 rfl) <| SL.v (op_move (v := .int .i64 ((0 : Nat) : Int)) rfl) <| SL.nil <| T.block <| T.unrollStart 2 ?_
      refine T.unroll ?_
      refine T.seq <| T.region <| SL.v (op_lssT rfl rfl (by omega)) ?_
      refine SL.nil <| T.seq <| T.condT rfl <| T.skip <| T.seq <| T.block <| T.seq <| T.region <| SL.mv rfl <| SL.v (op_indexN Tryz.underlying51 ty58 rfl rfl (by omega)) ?_
      refine SL.v (op_loadX ty58 rfl (by assumption) rfl) ?_
      refine SL.as rfl <| SL.as rfl <| SL.nil <| T.seq <| T.region <| SL.mv rfl <| SL.v (op_fieldAddr fa53_0 rfl) <| SL.v (op_load ty51 rfl (by repeat constructor) rfl) ?_
      refine SL.mv rfl <| SL.v (op_indexN Tryz.underlying51 ty58 rfl rfl (by omega)) ?_
      refine SL.v (op_loadX ty58 rfl (by assumption) rfl) ?_
      refine SL.v (op_neqT rfl rfl (by omega)) ?_
      refine SL.nil <| T.condT rfl <| T.seq <| T.region <| SL.as rfl <| SL.nil <| T.ret1 rfl (ResIs.tmp rfl) ?_
      simp [hm]

theorem or_spec {X : PMap} {v v' : Value} {m m' : Nat} (h : SetR X v m) (h' : SetR X v' m') : Spec Tryz.prog 69 [v, v'] X fun u X' => SetR X' u (m ||| m') := by
  have hl : m ||| m' < 18446744073709551616 := Nat.or_lt_two_pow (n := 64) h.lt h'.lt
  have hlt := h.lt
  have hlt' := h'.lt
  rcases h with ⟨rfl, A, c, rfl⟩ | ⟨h0, h1, b, c, rest, rfl, hB⟩ <;> rcases h' with ⟨rfl, A', c', rfl⟩ | ⟨h0', h1', b', c', rest', rfl, hB'⟩
  · refine Spec.enter Tryz.func69 rfl Tryz.ntmps69 rfl ?_
    intro w0 hw0
    refine T.seq <| T.region <| SL.w (op_box rfl) ?_
    rintro _ _ _ ⟨B2, rfl, rfl, rfl⟩
    refine SL.w (op_box rfl) ?_
    rintro _ _ _ ⟨B3, rfl, rfl, rfl⟩
    refine SL.w (op_alloc z53) ?_
    rintro _ _ _ ⟨B4, rfl, rfl, rfl⟩
    refine SL.nil <| T.seq <| T.region <| SL.v (op_fieldAddr fa53_0 rfl) <| SL.v (op_load ty51 rfl (by repeat constructor) rfl) ?_
    refine SL.v (op_lenS Tryz.underlying51 rfl) <| SL.v (op_fieldAddr fa53_0 rfl) <| SL.v (op_load ty51 rfl (by repeat constructor) rfl) ?_
    refine SL.v (op_lenS Tryz.underlying51 rfl) <| SL.v (op_maxL rfl rfl (by omega)) ?_
    refine SL.w (op_make Tryz.underlying51 mk51 rfl rfl rfl (Nat.le_refl _) (by omega) (by omega)) ?_
    rintro _ _ _ ⟨B14, rfl, rfl, rfl⟩
    refine SL.as rfl <| SL.nil <| T.seq <| T.seq <| T.region <| SL.mv rfl <| SL.v (op_lenS Tryz.underlying51 rfl) <| SL.v (op_move (v := .int .i64 ((0 : Nat) : Int)) rfl) <| SL.nil <| T.block <| T.unrollStart 1 ?_
    refine T.unroll ?_
    refine T.seq <| T.region <| SL.v (op_lssF rfl rfl (by omega)) ?_
    refine SL.nil <| T.seq <| T.condF rfl ?_
    refine T.exit (T.exitCode (T.exitMore (T.exitBlk ?_)))
    refine T.seq <| T.region <| SL.mv rfl <| SL.v (op_build st53 (qs := [(0, _)]) rfl rfl) <| SL.w (op_store ty53 rfl rfl (by repeat constructor) rfl rfl rfl) ?_
    rintro _ _ _ ⟨rfl, rfl⟩
    refine SL.nil <| T.ret1 rfl (ResIs.cell rfl ty53 (by repeat constructor) rfl) ?_
    exact SetR.zero
  · have g : SetR X (.agg #[.slice A 0 c]) 0 := SetR.zero
    have g' : SetR X (.agg #[.slice (some ⟨b', 0, none⟩) 1 c']) m' := SetR.one (by omega) h1' hB'
    refine Spec.enter Tryz.func69 rfl Tryz.ntmps69 rfl ?_
    intro w0 hw0
    refine T.seq <| T.region <| SL.w (op_box rfl) ?_
    rintro _ _ _ ⟨B2, rfl, rfl, rfl⟩
    refine SL.w (op_box rfl) ?_
    rintro _ _ _ ⟨B3, rfl, rfl, rfl⟩
    refine SL.w (op_alloc z53) ?_
    rintro _ _ _ ⟨B4, rfl, rfl, rfl⟩
    refine SL.nil <| T.seq <| T.region <| SL.v (op_fieldAddr fa53_0 rfl) <| SL.v (op_load ty51 rfl (by repeat constructor) rfl) ?_
    refine SL.v (op_lenS Tryz.underlying51 rfl) <| SL.v (op_fieldAddr fa53_0 rfl) <| SL.v (op_load ty51 rfl (by repeat constructor) rfl) ?_
    refine SL.v (op_lenS Tryz.underlying51 rfl) <| SL.v (op_maxR rfl rfl (by omega)) ?_
    refine SL.w (op_make Tryz.underlying51 mk51 rfl rfl rfl (Nat.le_refl _) (by omega) (by omega)) ?_
    rintro _ _ _ ⟨B14, rfl, rfl, rfl⟩
    refine SL.as rfl <| SL.nil <| T.seq <| T.seq <| T.region <| SL.mv rfl <| SL.v (op_lenS Tryz.underlying51 rfl) <| SL.v (op_move (v := .int .i64 ((0 : Nat) : Int)) rfl) <| SL.nil <| T.block <| T.unrollStart 2 ?_
    refine T.unroll ?_
    refine T.seq <| T.region <| SL.v (op_lssT rfl rfl (by omega)) ?_
    refine SL.nil <| T.seq <| T.condT rfl <| T.skip <| T.seq <| T.block <| T.seq <| T.region <| SL.mv rfl <| SL.as rfl <| SL.nil <| T.draw (by kernel_rfl) 10 [.t 0, .t 1, .t 2, .t 3, .t 5, .t 6, .r 4, .r 7, .t 8, .t 9] (by kernel_rfl) ?_
    refine SD.take rfl panicBody (op_move rfl) rfl rfl ?_
    refine SD.take rfl panicBody (op_move rfl) rfl rfl ?_
    refine SD.take rfl panicBody (op_load ty53 rfl (by repeat constructor) rfl) rfl rfl ?_
    refine SD.take rfl panicBody (op_move rfl) rfl rfl ?_
    refine SD.take rfl panicBody (op_load ty53 rfl (by repeat constructor) rfl) rfl rfl ?_
    refine SD.take rfl panicBody (op_move rfl) rfl rfl ?_
    refine SD.run rfl (op_callF en116 (vs := [_, _]) rfl (word_spec (k := 0) g 0 (if_pos rfl))) rfl rfl ?_
    rintro _ _ X1 ⟨rfl, hX1, rfl⟩
    refine SD.run rfl (op_callF en116 (vs := [_, _]) rfl (word_spec (k := 0) (g'.mono hX1) m' (if_pos rfl))) rfl rfl ?_
    rintro _ _ X2 ⟨rfl, hX2, rfl⟩
    refine SD.take rfl panicBody (op_or rfl rfl (by first | omega | assumption | decide | exact Nat.lt_of_le_of_lt (Nat.shiftRight_le ..) (by first | omega | assumption) | exact Nat.lt_of_le_of_lt Nat.and_le_left (by first | omega | assumption) | exact Nat.lt_of_le_of_lt Nat.and_le_right (by first | omega | decide)) (by first | omega | assumption | decide | exact Nat.lt_of_le_of_lt (Nat.shiftRight_le ..) (by first | omega | assumption) | exact Nat.lt_of_le_of_lt Nat.and_le_left (by first | omega | assumption) | exact Nat.lt_of_le_of_lt Nat.and_le_right (by first | omega | decide))) rfl rfl ?_
    refine SD.take rfl panicBody (op_indexN Tryz.underlying51 ty58 rfl rfl (by omega)) rfl rfl ?_
    refine SD.nil ?_
    show SL _ _ _ _ _ _ _ [_] _ _ _
    refine SL.w (op_store ty58 rfl rfl (by repeat constructor) rfl rfl rfl) ?_
    rintro _ _ _ ⟨rfl, rfl⟩
    refine SL.nil <| T.blk <| T.region <| SL.v (op_addN (q := 1) rfl rfl (by omega)) ?_
    refine SL.mv rfl <| SL.nil <| T.unroll ?_
    refine T.seq <| T.region <| SL.v (op_lssF rfl rfl (by omega)) ?_
    refine SL.nil <| T.seq <| T.condF rfl ?_
    refine T.exit (T.exitCode (T.exitMore (T.exitBlk ?_)))
    refine T.seq <| T.region <| SL.mv rfl <| SL.v (op_build st53 (qs := [(0, _)]) rfl rfl) <| SL.w (op_store ty53 rfl rfl (by repeat constructor) rfl rfl rfl) ?_
    rintro _ _ _ ⟨rfl, rfl⟩
    refine SL.nil <| T.pub _ (by repeat constructor) ?_
    intro X3 hX3 hB3 _
    refine T.ret1 rfl (ResIs.cell rfl ty53 (by repeat constructor) rfl) ?_
    exact SetR.one (by simp; omega) hl hB3
  · have g : SetR X (.agg #[.slice (some ⟨b, 0, none⟩) 1 c]) m := SetR.one (by omega) h1 hB
    have g' : SetR X (.agg #[.slice A' 0 c']) 0 := SetR.zero
    refine Spec.enter Tryz.func69 rfl Tryz.ntmps69 rfl ?_
    intro w0 hw0
    refine T.seq <| T.region <| SL.w (op_box rfl) ?_
    rintro _ _ _ ⟨B2, rfl, rfl, rfl⟩
    refine SL.w (op_box rfl) ?_
    rintro _ _ _ ⟨B3, rfl, rfl, rfl⟩
    refine SL.w (op_alloc z53) ?_
    rintro _ _ _ ⟨B4, rfl, rfl, rfl⟩
    refine SL.nil <| T.seq <| T.region <| SL.v (op_fieldAddr fa53_0 rfl) <| SL.v (op_load ty51 rfl (by repeat constructor) rfl) ?_
    refine SL.v (op_lenS Tryz.underlying51 rfl) <| SL.v (op_fieldAddr fa53_0 rfl) <| SL.v (op_load ty51 rfl (by repeat constructor) rfl) ?_
    refine SL.v (op_lenS Tryz.underlying51 rfl) <| SL.v (op_maxL rfl rfl (by omega)) ?_
    refine SL.w (op_make Tryz.underlying51 mk51 rfl rfl rfl (Nat.le_refl _) (by omega) (by omega)) ?_
    rintro _ _ _ ⟨B14, rfl, rfl, rfl⟩
    refine SL.as rfl <| SL.nil <| T.seq <| T.seq <| T.region <| SL.mv rfl <| SL.v (op_lenS Tryz.underlying51 rfl) <| SL.v (op_move (v := .int .i64 ((0 : Nat) : Int)) rfl) <| SL.nil <| T.block <| T.unrollStart 2 ?_
    refine T.unroll ?_
    refine T.seq <| T.region <| SL.v (op_lssT rfl rfl (by omega)) ?_
    refine SL.nil <| T.seq <| T.condT rfl <| T.skip <| T.seq <| T.block <| T.seq <| T.region <| SL.mv rfl <| SL.as rfl <| SL.nil <| T.draw (by kernel_rfl) 10 [.t 0, .t 1, .t 2, .t 3, .t 5, .t 6, .r 4, .r 7, .t 8, .t 9] (by kernel_rfl) ?_
    refine SD.take rfl panicBody (op_move rfl) rfl rfl ?_
    refine SD.take rfl panicBody (op_move rfl) rfl rfl ?_
    refine SD.take rfl panicBody (op_load ty53 rfl (by repeat constructor) rfl) rfl rfl ?_
    refine SD.take rfl panicBody (op_move rfl) rfl rfl ?_
    refine SD.take rfl panicBody (op_load ty53 rfl (by repeat constructor) rfl) rfl rfl ?_
    refine SD.take rfl panicBody (op_move rfl) rfl rfl ?_
    refine SD.run rfl (op_callF en116 (vs := [_, _]) rfl (word_spec (k := 0) g m (if_pos rfl))) rfl rfl ?_
    rintro _ _ X1 ⟨rfl, hX1, rfl⟩
    refine SD.run rfl (op_callF en116 (vs := [_, _]) rfl (word_spec (k := 0) (g'.mono hX1) 0 (if_pos rfl))) rfl rfl ?_
    rintro _ _ X2 ⟨rfl, hX2, rfl⟩
    refine SD.take rfl panicBody (op_or rfl rfl (by first | omega | assumption | decide | exact Nat.lt_of_le_of_lt (Nat.shiftRight_le ..) (by first | omega | assumption) | exact Nat.lt_of_le_of_lt Nat.and_le_left (by first | omega | assumption) | exact Nat.lt_of_le_of_lt Nat.and_le_right (by first | omega | decide)) (by first | omega | assumption | decide | exact Nat.lt_of_le_of_lt (Nat.shiftRight_le ..) (by first | omega | assumption) | exact Nat.lt_of_le_of_lt Nat.and_le_left (by first | omega | assumption) | exact Nat.lt_of_le_of_lt Nat.and_le_right (by first | omega | decide))) rfl rfl ?_
    refine SD.take rfl panicBody (op_indexN Tryz.underlying51 ty58 rfl rfl (by omega)) rfl rfl ?_
    refine SD.nil ?_
    show SL _ _ _ _ _ _ _ [_] _ _ _
    refine SL.w (op_store ty58 rfl rfl (by repeat constructor) rfl rfl rfl) ?_
    rintro _ _ _ ⟨rfl, rfl⟩
    refine SL.nil <| T.blk <| T.region <| SL.v (op_addN (q := 1) rfl rfl (by omega)) ?_
    refine SL.mv rfl <| SL.nil <| T.unroll ?_
    refine T.seq <| T.region <| SL.v (op_lssF rfl rfl (by omega)) ?_
    refine SL.nil <| T.seq <| T.condF rfl ?_
    refine T.exit (T.exitCode (T.exitMore (T.exitBlk ?_)))
    refine T.seq <| T.region <| SL.mv rfl <| SL.v (op_build st53 (qs := [(0, _)]) rfl rfl) <| SL.w (op_store ty53 rfl rfl (by repeat constructor) rfl rfl rfl) ?_
    rintro _ _ _ ⟨rfl, rfl⟩
    refine SL.nil <| T.pub _ (by repeat constructor) ?_
    intro X3 hX3 hB3 _
    refine T.ret1 rfl (ResIs.cell rfl ty53 (by repeat constructor) rfl) ?_
    exact SetR.one (by simp; omega) hl hB3
  · have g : SetR X (.agg #[.slice (some ⟨b, 0, none⟩) 1 c]) m := SetR.one (by omega) h1 hB
    have g' : SetR X (.agg #[.slice (some ⟨b', 0, none⟩) 1 c']) m' := SetR.one (by omega) h1' hB'
    refine Spec.enter Tryz.func69 rfl Tryz.ntmps69 rfl ?_
    intro w0 hw0
    refine T.seq <| T.region <| SL.w (op_box rfl) ?_
    rintro _ _ _ ⟨B2, rfl, rfl, rfl⟩
    refine SL.w (op_box rfl) ?_
    rintro _ _ _ ⟨B3, rfl, rfl, rfl⟩
    refine SL.w (op_alloc z53) ?_
    rintro _ _ _ ⟨B4, rfl, rfl, rfl⟩
    refine SL.nil <| T.seq <| T.region <| SL.v (op_fieldAddr fa53_0 rfl) <| SL.v (op_load ty51 rfl (by repeat constructor) rfl) ?_
    refine SL.v (op_lenS Tryz.underlying51 rfl) <| SL.v (op_fieldAddr fa53_0 rfl) <| SL.v (op_load ty51 rfl (by repeat constructor) rfl) ?_
    refine SL.v (op_lenS Tryz.underlying51 rfl) <| SL.v (op_maxL rfl rfl (by omega)) ?_
    refine SL.w (op_make Tryz.underlying51 mk51 rfl rfl rfl (Nat.le_refl _) (by omega) (by omega)) ?_
    rintro _ _ _ ⟨B14, rfl, rfl, rfl⟩
    refine SL.as rfl <| SL.nil <| T.seq <| T.seq <| T.region <| SL.mv rfl <| SL.v (op_lenS Tryz.underlying51 rfl) <| SL.v (op_move (v := .int .i64 ((0 : Nat) : Int)) rfl) <| SL.nil <| T.block <| T.unrollStart 2 ?_
    refine T.unroll ?_
    refine T.seq <| T.region <| SL.v (op_lssT rfl rfl (by omega)) ?_
    refine SL.nil <| T.seq <| T.condT rfl <| T.skip <| T.seq <| T.block <| T.seq <| T.region <| SL.mv rfl <| SL.as rfl <| SL.nil <| T.draw (by kernel_rfl) 10 [.t 0, .t 1, .t 2, .t 3, .t 5, .t 6, .r 4, .r 7, .t 8, .t 9] (by kernel_rfl) ?_
    refine SD.take rfl panicBody (op_move rfl) rfl rfl ?_
    refine SD.take rfl panicBody (op_move rfl) rfl rfl ?_
    refine SD.take rfl panicBody (op_load ty53 rfl (by repeat constructor) rfl) rfl rfl ?_
    refine SD.take rfl panicBody (op_move rfl) rfl rfl ?_
    refine SD.take rfl panicBody (op_load ty53 rfl (by repeat constructor) rfl) rfl rfl ?_
    refine SD.take rfl panicBody (op_move rfl) rfl rfl ?_
    refine SD.run rfl (op_callF en116 (vs := [_, _]) rfl (word_spec (k := 0) g m (if_pos rfl))) rfl rfl ?_
    rintro _ _ X1 ⟨rfl, hX1, rfl⟩
    refine SD.run rfl (op_callF en116 (vs := [_, _]) rfl (word_spec (k := 0) (g'.mono hX1) m' (if_pos rfl))) rfl rfl ?_
    rintro _ _ X2 ⟨rfl, hX2, rfl⟩
    refine SD.take rfl panicBody (op_or rfl rfl (by first | omega | assumption | decide | exact Nat.lt_of_le_of_lt (Nat.shiftRight_le ..) (by first | omega | assumption) | exact Nat.lt_of_le_of_lt Nat.and_le_left (by first | omega | assumption) | exact Nat.lt_of_le_of_lt Nat.and_le_right (by first | omega | decide)) (by first | omega | assumption | decide | exact Nat.lt_of_le_of_lt (Nat.shiftRight_le ..) (by first | omega | assumption) | exact Nat.lt_of_le_of_lt Nat.and_le_left (by first | omega | assumption) | exact Nat.lt_of_le_of_lt Nat.and_le_right (by first | omega | decide))) rfl rfl ?_
    refine SD.take rfl panicBody (op_indexN Tryz.underlying51 ty58 rfl rfl (by omega)) rfl rfl ?_
    refine SD.nil ?_
    show SL _ _ _ _ _ _ _ [_] _ _ _
    refine SL.w (op_store ty58 rfl rfl (by repeat constructor) rfl rfl rfl) ?_
    rintro _ _ _ ⟨rfl, rfl⟩
    refine SL.nil <| T.blk <| T.region <| SL.v (op_addN (q := 1) rfl rfl (by omega)) ?_
    refine SL.mv rfl <| SL.nil <| T.unroll ?_
    refine T.seq <| T.region <| SL.v (op_lssF rfl rfl (by omega)) ?_
    refine SL.nil <| T.seq <| T.condF rfl ?_
    refine T.exit (T.exitCode (T.exitMore (T.exitBlk ?_)))
    refine T.seq <| T.region <| SL.mv rfl <| SL.v (op_build st53 (qs := [(0, _)]) rfl rfl) <| SL.w (op_store ty53 rfl rfl (by repeat constructor) rfl rfl rfl) ?_
    rintro _ _ _ ⟨rfl, rfl⟩
    refine SL.nil <| T.pub _ (by repeat constructor) ?_
    intro X3 hX3 hB3 _
    refine T.ret1 rfl (ResIs.cell rfl ty53 (by repeat constructor) rfl) ?_
    exact SetR.one (by intro e; have := Nat.or_eq_zero_iff.1 e; omega) hl hB3

theorem and_spec {X : PMap} {v v' : Value} {m m' : Nat} (h : SetR X v m) (h' : SetR X v' m') : Spec Tryz.prog 42 [v, v'] X fun u X' => SetR X' u (m &&& m') := by
  have hlt := h.lt
  have hlt' := h'.lt
  have hl : m &&& m' < 18446744073709551616 := Nat.lt_of_le_of_lt Nat.and_le_left hlt
  rcases h with ⟨rfl, A, c, rfl⟩ | ⟨h0, h1, b, c, rest, rfl, hB⟩ <;> rcases h' with ⟨rfl, A', c', rfl⟩ | ⟨h0', h1', b', c', rest', rfl, hB'⟩
  · simp only [Nat.and_self]
    refine Spec.enter Tryz.func42 rfl Tryz.ntmps42 rfl ?_
    intro w0 hw0
    refine T.seq <| T.region <| SL.w (op_box rfl) ?_
    rintro _ _ _ ⟨B2, rfl, rfl, rfl⟩
    refine SL.w (op_box rfl) ?_
    rintro _ _ _ ⟨B3, rfl, rfl, rfl⟩
    refine SL.w (op_alloc z53) ?_
    rintro _ _ _ ⟨B4, rfl, rfl, rfl⟩
    refine SL.nil <| T.seq <| T.region <| SL.v (op_fieldAddr fa53_0 rfl) <| SL.v (op_load ty51 rfl (by repeat constructor) rfl) ?_
    refine SL.v (op_lenS Tryz.underlying51 rfl) <| SL.v (op_fieldAddr fa53_0 rfl) <| SL.v (op_load ty51 rfl (by repeat constructor) rfl) ?_
    refine SL.v (op_lenS Tryz.underlying51 rfl) <| SL.v (op_minL rfl rfl (by omega)) ?_
    refine SL.w (op_make Tryz.underlying51 mk51 rfl rfl rfl (Nat.le_refl _) (by omega) (by omega)) ?_
    rintro _ _ _ ⟨B14, rfl, rfl, rfl⟩
    refine SL.as rfl <| SL.nil <| T.seq <| T.seq <| T.region <| SL.mv rfl <| SL.v (op_lenS Tryz.underlying51 rfl) <| SL.v (op_move (v := .int .i64 ((0 : Nat) : Int)) rfl) <| SL.nil <| T.block <| T.unrollStart 1 ?_
    refine T.unroll ?_
    refine T.seq <| T.region <| SL.v (op_lssF rfl rfl (by omega)) ?_
    refine SL.nil <| T.seq <| T.condF rfl ?_
    refine T.exit (T.exitCode (T.exitMore (T.exitBlk ?_)))
    refine T.seq <| T.region <| SL.mv rfl <| SL.w (op_callF en84 (vs := [_]) rfl (trim0_spec _ _)) ?_
    rintro _ _ X1 ⟨rfl, hX1, hS⟩
    obtain ⟨A1, l1, c1, rfl⟩ := hS.form
    refine SL.w (op_store ty53 rfl rfl (by repeat constructor) rfl rfl rfl) ?_
    rintro _ _ _ ⟨rfl, rfl⟩
    refine SL.nil <| T.ret1 rfl (ResIs.cell rfl ty53 (by repeat constructor) rfl) ?_
    exact hS
  · simp only [Nat.zero_and]
    refine Spec.enter Tryz.func42 rfl Tryz.ntmps42 rfl ?_
    intro w0 hw0
    refine T.seq <| T.region <| SL.w (op_box rfl) ?_
    rintro _ _ _ ⟨B2, rfl, rfl, rfl⟩
    refine SL.w (op_box rfl) ?_
    rintro _ _ _ ⟨B3, rfl, rfl, rfl⟩
    refine SL.w (op_alloc z53) ?_
    rintro _ _ _ ⟨B4, rfl, rfl, rfl⟩
    refine SL.nil <| T.seq <| T.region <| SL.v (op_fieldAddr fa53_0 rfl) <| SL.v (op_load ty51 rfl (by repeat constructor) rfl) ?_
    refine SL.v (op_lenS Tryz.underlying51 rfl) <| SL.v (op_fieldAddr fa53_0 rfl) <| SL.v (op_load ty51 rfl (by repeat constructor) rfl) ?_
    refine SL.v (op_lenS Tryz.underlying51 rfl) <| SL.v (op_minL rfl rfl (by omega)) ?_
    refine SL.w (op_make Tryz.underlying51 mk51 rfl rfl rfl (Nat.le_refl _) (by omega) (by omega)) ?_
    rintro _ _ _ ⟨B14, rfl, rfl, rfl⟩
    refine SL.as rfl <| SL.nil <| T.seq <| T.seq <| T.region <| SL.mv rfl <| SL.v (op_lenS Tryz.underlying51 rfl) <| SL.v (op_move (v := .int .i64 ((0 : Nat) : Int)) rfl) <| SL.nil <| T.block <| T.unrollStart 1 ?_
    refine T.unroll ?_
    refine T.seq <| T.region <| SL.v (op_lssF rfl rfl (by omega)) ?_
    refine SL.nil <| T.seq <| T.condF rfl ?_
    refine T.exit (T.exitCode (T.exitMore (T.exitBlk ?_)))
    refine T.seq <| T.region <| SL.mv rfl <| SL.w (op_callF en84 (vs := [_]) rfl (trim0_spec _ _)) ?_
    rintro _ _ X1 ⟨rfl, hX1, hS⟩
    obtain ⟨A1, l1, c1, rfl⟩ := hS.form
    refine SL.w (op_store ty53 rfl rfl (by repeat constructor) rfl rfl rfl) ?_
    rintro _ _ _ ⟨rfl, rfl⟩
    refine SL.nil <| T.ret1 rfl (ResIs.cell rfl ty53 (by repeat constructor) rfl) ?_
    exact hS
  · simp only [Nat.and_zero]
    refine Spec.enter Tryz.func42 rfl Tryz.ntmps42 rfl ?_
    intro w0 hw0
    refine T.seq <| T.region <| SL.w (op_box rfl) ?_
    rintro _ _ _ ⟨B2, rfl, rfl, rfl⟩
    refine SL.w (op_box rfl) ?_
    rintro _ _ _ ⟨B3, rfl, rfl, rfl⟩
    refine SL.w (op_alloc z53) ?_
    rintro _ _ _ ⟨B4, rfl, rfl, rfl⟩
    refine SL.nil <| T.seq <| T.region <| SL.v (op_fieldAddr fa53_0 rfl) <| SL.v (op_load ty51 rfl (by repeat constructor) rfl) ?_
    refine SL.v (op_lenS Tryz.underlying51 rfl) <| SL.v (op_fieldAddr fa53_0 rfl) <| SL.v (op_load ty51 rfl (by repeat constructor) rfl) ?_
    refine SL.v (op_lenS Tryz.underlying51 rfl) <| SL.v (op_minR rfl rfl (by omega)) ?_
    refine SL.w (op_make Tryz.underlying51 mk51 rfl rfl rfl (Nat.le_refl _) (by omega) (by omega)) ?_
    rintro _ _ _ ⟨B14, rfl, rfl, rfl⟩
    refine SL.as rfl <| SL.nil <| T.seq <| T.seq <| T.region <| SL.mv rfl <| SL.v (op_lenS Tryz.underlying51 rfl) <| SL.v (op_move (v := .int .i64 ((0 : Nat) : Int)) rfl) <| SL.nil <| T.block <| T.unrollStart 1 ?_
    refine T.unroll ?_
    refine T.seq <| T.region <| SL.v (op_lssF rfl rfl (by omega)) ?_
    refine SL.nil <| T.seq <| T.condF rfl ?_
    refine T.exit (T.exitCode (T.exitMore (T.exitBlk ?_)))
    refine T.seq <| T.region <| SL.mv rfl <| SL.w (op_callF en84 (vs := [_]) rfl (trim0_spec _ _)) ?_
    rintro _ _ X1 ⟨rfl, hX1, hS⟩
    obtain ⟨A1, l1, c1, rfl⟩ := hS.form
    refine SL.w (op_store ty53 rfl rfl (by repeat constructor) rfl rfl rfl) ?_
    rintro _ _ _ ⟨rfl, rfl⟩
    refine SL.nil <| T.ret1 rfl (ResIs.cell rfl ty53 (by repeat constructor) rfl) ?_
    exact hS
  · refine Spec.enter Tryz.func42 rfl Tryz.ntmps42 rfl ?_
    intro w0 hw0
    refine T.seq <| T.region <| SL.w (op_box rfl) ?_
    rintro _ _ _ ⟨B2, rfl, rfl, rfl⟩
    refine SL.w (op_box rfl) ?_
    rintro _ _ _ ⟨B3, rfl, rfl, rfl⟩
    refine SL.w (op_alloc z53) ?_
    rintro _ _ _ ⟨B4, rfl, rfl, rfl⟩
    refine SL.nil <| T.seq <| T.region <| SL.v (op_fieldAddr fa53_0 rfl) <| SL.v (op_load ty51 rfl (by repeat constructor) rfl) ?_
    refine SL.v (op_lenS Tryz.underlying51 rfl) <| SL.v (op_fieldAddr fa53_0 rfl) <| SL.v (op_load ty51 rfl (by repeat constructor) rfl) ?_
    refine SL.v (op_lenS Tryz.underlying51 rfl) <| SL.v (op_minL rfl rfl (by omega)) ?_
    refine SL.w (op_make Tryz.underlying51 mk51 rfl rfl rfl (Nat.le_refl _) (by omega) (by omega)) ?_
    rintro _ _ _ ⟨B14, rfl, rfl, rfl⟩
    refine SL.as rfl <| SL.nil <| T.seq <| T.seq <| T.region <| SL.mv rfl <| SL.v (op_lenS Tryz.underlying51 rfl) <| SL.v (op_move (v := .int .i64 ((0 : Nat) : Int)) rfl) <| SL.nil <| T.block <| T.unrollStart 2 ?_
    refine T.unroll ?_
    refine T.seq <| T.region <| SL.v (op_lssT rfl rfl (by omega)) ?_
    refine SL.nil <| T.seq <| T.condT rfl <| T.skip <| T.seq <| T.block <| T.seq <| T.region <| SL.mv rfl <| SL.as rfl <| SL.nil <| T.draw (by kernel_rfl) 14 [.t 0, .t 1, .t 2, .t 3, .t 4, .t 5, .t 6, .t 7, .t 8, .t 9, .t 10, .t 11, .t 12, .t 13] (by kernel_rfl) ?_
    refine SD.take rfl panicBody (op_move rfl) rfl rfl ?_
    refine SD.take rfl panicBody (op_move rfl) rfl rfl ?_
    refine SD.take rfl panicBody (op_fieldAddr fa53_0 rfl) rfl rfl ?_
    refine SD.take rfl panicBody (op_load ty51 rfl (by repeat constructor) rfl) rfl rfl ?_
    refine SD.take rfl panicBody (op_move rfl) rfl rfl ?_
    refine SD.take rfl panicBody (op_indexN Tryz.underlying51 ty58 rfl rfl (by omega)) rfl rfl ?_
    refine SD.take rfl panicBody (op_loadX ty58 rfl (by assumption) rfl) rfl rfl ?_
    refine SD.take rfl panicBody (op_fieldAddr fa53_0 rfl) rfl rfl ?_
    refine SD.take rfl panicBody (op_load ty51 rfl (by repeat constructor) rfl) rfl rfl ?_
    refine SD.take rfl panicBody (op_move rfl) rfl rfl ?_
    refine SD.take rfl panicBody (op_indexN Tryz.underlying51 ty58 rfl rfl (by omega)) rfl rfl ?_
    refine SD.take rfl panicBody (op_loadX ty58 rfl (by assumption) rfl) rfl rfl ?_
    refine SD.take rfl panicBody (op_and rfl rfl (by first | omega | assumption | decide | exact Nat.lt_of_le_of_lt (Nat.shiftRight_le ..) (by first | omega | assumption) | exact Nat.lt_of_le_of_lt Nat.and_le_left (by first | omega | assumption) | exact Nat.lt_of_le_of_lt Nat.and_le_right (by first | omega | decide)) (by first | omega | assumption | decide | exact Nat.lt_of_le_of_lt (Nat.shiftRight_le ..) (by first | omega | assumption) | exact Nat.lt_of_le_of_lt Nat.and_le_left (by first | omega | assumption) | exact Nat.lt_of_le_of_lt Nat.and_le_right (by first | omega | decide))) rfl rfl ?_
    refine SD.take rfl panicBody (op_indexN Tryz.underlying51 ty58 rfl rfl (by omega)) rfl rfl ?_
    refine SD.nil ?_
    show SL _ _ _ _ _ _ _ [_] _ _ _
    refine SL.w (op_store ty58 rfl rfl (by repeat constructor) rfl rfl rfl) ?_
    rintro _ _ _ ⟨rfl, rfl⟩
    refine SL.nil <| T.blk <| T.region <| SL.v (op_addN (q := 1) rfl rfl (by omega)) ?_
    refine SL.mv rfl <| SL.nil <| T.unroll ?_
    refine T.seq <| T.region <| SL.v (op_lssF rfl rfl (by omega)) ?_
    refine SL.nil <| T.seq <| T.condF rfl ?_
    refine T.exit (T.exitCode (T.exitMore (T.exitBlk ?_)))
    refine T.seq <| T.region <| SL.mv rfl <| T.pubAt _ (by repeat constructor) ?_
    intro X1 hX1 hB1 _
    refine SL.w (op_callF en84 (vs := [_]) rfl (trim1_spec hl hB1 (by omega))) ?_
    rintro _ _ X2 ⟨rfl, hX2, hS⟩
    obtain ⟨A2, l2, c2, rfl⟩ := hS.form
    refine SL.w (op_store ty53 rfl rfl (by repeat constructor) rfl rfl rfl) ?_
    rintro _ _ _ ⟨rfl, rfl⟩
    refine SL.nil <| T.ret1 rfl (ResIs.cell rfl ty53 (by repeat constructor) rfl) ?_
    exact hS

end Go.Proofs.YtnpcilglilfajaaGreatDoor
namespace Go.Proofs.YtnpcilglilfajaaGreatDoor
theorem or_bit_lt {m i : Nat} (h : m < 18446744073709551616) (hi : i < 64) : m ||| 2 ^ i < 18446744073709551616 :=
  Nat.or_lt_two_pow (n := 64) h (Nat.pow_lt_pow_right (by omega) hi)
theorem or_bit_ne (m i : Nat) : m ||| 2 ^ i ≠ 0 := by
  intro h
  have := (Nat.or_eq_zero_iff.1 h).2
  have h2 : 0 < 2 ^ i := Nat.pow_pos (by omega)
  omega

end Go.Proofs.YtnpcilglilfajaaGreatDoor
namespace Go.Proofs.YtnpcilglilfajaaGreatDoor
section
set_option maxRecDepth 100000
theorem ty3 : Ty Tryz.prog 3 false 1 := ⟨⟨_, Tryz.underlying3, rfl⟩, by kernel_rfl⟩
end
/-- The set of the numbers of a list. -/
def maskOf (l : List Nat) : Nat := l.foldl (fun m i => m ||| 2 ^ i) 0
theorem maskOf_take_succ (l : List Nat) (j : Nat) (h : j < l.length) : maskOf (l.take (j + 1)) = maskOf (l.take j) ||| 2 ^ l[j] := by
  unfold maskOf
  rw [List.take_succ_eq_append_getElem h, List.foldl_append]
  rfl
theorem maskOf_lt (l : List Nat) (h : ∀ i ∈ l, i < 64) : maskOf l < 18446744073709551616 := by
  have key : ∀ (l : List Nat) (m : Nat), m < 18446744073709551616 → (∀ i ∈ l, i < 64) → l.foldl (fun m i => m ||| 2 ^ i) m < 18446744073709551616 := by
    intro l
    induction l with
    | nil => intro m hm _; exact hm
    | cons i l ih => intro m hm h; exact ih _ (or_bit_lt hm (h i (by simp))) fun j hj => h j (by simp [hj])
  exact key l 0 (by omega) h

theorem top_step {l : List Nat} {j : Nat} {top : Int} {hjl : j < l.length} (hall : ∀ q (h : q < l.length), q < j → (l[q] : Int) ≤ top) : ∀ q (h : q < l.length), q < j + 1 → (l[q] : Int) ≤ if (l[j] : Int) > top then (l[j] : Int) else top := by
  intro q hq hqj
  rcases Nat.lt_or_ge q j with h | h
  · have := hall q hq h
    split <;> omega
  · have e : q = j := by omega
    subst e
    split <;> omega
theorem of_spec {X : PMap} {v : Value} {l : List Nat} (h : SliceR X v l.length (ints l)) (hl : ∀ i ∈ l, i < 64) (hn : l.length < 4294967296) : Spec Tryz.prog 38 [v] X fun u X' => SetR X' u (maskOf l) := by
  rcases h with ⟨h0, _, A, c, rfl⟩ | ⟨h0, b, c, rfl, hB⟩
  · have : l = [] := List.eq_nil_of_length_eq_zero h0
    subst this
    refine Spec.enter Tryz.func38 rfl Tryz.ntmps38 rfl ?_
    intro w0 hw0
    refine T.seq <| T.region <| SL.w (op_alloc z53) ?_
    rintro _ _ _ ⟨B2, rfl, rfl, rfl⟩
    refine SL.nil <| T.seq <| T.region <| SL.as rfl <| SL.nil <| T.seq <| T.seq <| T.region <| SL.mv rfl <| SL.v (op_lenS Tryz.underlying24 rfl) <| SL.v (op_move (v := .int .i64 ((0 : Nat) : Int)) rfl) <| SL.nil <| T.block <| T.unrollStart 1 ?_
    refine T.unroll ?_
    refine T.seq <| T.region <| SL.v (op_lssF rfl rfl (by omega)) ?_
    refine SL.nil <| T.seq <| T.condF rfl ?_
    refine T.exit (T.exitCode (T.exitMore (T.exitBlk ?_)))
    refine T.seq <| T.seq <| T.region <| SL.mv rfl <| SL.v (op_lssT rfl rfl (by omega)) ?_
    refine SL.nil <| T.condT rfl <| T.seq <| T.region <| SL.v (op_build st53 (qs := []) rfl rfl) <| SL.w (op_store ty53 rfl rfl (by repeat constructor) rfl rfl rfl) ?_
    rintro _ _ _ ⟨rfl, rfl⟩
    refine SL.nil <| T.ret1 rfl (ResIs.cell rfl ty53 (by repeat constructor) rfl) ?_
    exact SetR.zero
  · refine Spec.enter Tryz.func38 rfl Tryz.ntmps38 rfl ?_
    intro w0 hw0
    refine T.seq <| T.region <| SL.w (op_alloc z53) ?_
    rintro _ _ _ ⟨B2, rfl, rfl, rfl⟩
    refine SL.nil <| T.seq <| T.region <| SL.as rfl <| SL.nil <| T.seq <| T.seq <| T.region <| SL.mv rfl <| SL.v (op_lenS Tryz.underlying24 rfl) <| SL.v (op_move (v := .int .i64 ((0 : Nat) : Int)) rfl) <| SL.nil <| T.block <| T.loopW (fun m env own X' => ∃ (j : Nat) (top : Int), m = l.length - j ∧ j ≤ l.length ∧ -1 ≤ top ∧ top < 64 ∧ (∀ q (h : q < l.length), q < j → (l[q] : Int) ≤ top) ∧ env = [(0, .slice (some ⟨b, 0, none⟩) l.length c), (2, .pointer (some ⟨B2, 0, none⟩)), (3, .int .i64 top), (9, .slice (some ⟨b, 0, none⟩) l.length c), (10, .int .i64 l.length), (11, .int .i64 (j : Int))] ∧ own = [⟨B2, [.slice none 0 0], 53, 1⟩] ∧ X = X') l.length ⟨0, -1, by simp, by omega, by omega, by omega, fun _ _ h => by omega, rfl, rfl, rfl⟩ (by repeat (first | exact Sub.nil | refine Sub.cons rfl ?_)) ?_
    rintro m _ _ _ ⟨j, top, rfl, hj, ht0, ht1, hall, rfl, rfl, rfl⟩
    rcases Nat.lt_or_ge j l.length with hjl | hjl
    · have h64 := hl l[j] (List.getElem_mem hjl)
      refine T.seq <| T.region <| SL.v (op_lssT rfl rfl (by omega)) ?_
      refine SL.nil <| T.seq <| T.condT rfl <| T.skip <| T.seq <| T.block <| T.seq <| T.region <| SL.v (op_indexN Tryz.underlying24 ty3 rfl rfl (by omega)) ?_
      refine SL.v (op_loadX ty3 rfl hB (cread1 (ints_get l j hjl))) <| SL.as rfl <| SL.nil <| T.seq <| T.region <| SL.mv rfl <| SL.v (op_leqT rfl rfl (by omega)) ?_
      refine SL.nil <| T.condT rfl <| T.region <| SL.mv rfl <| SL.mv rfl <| SL.v (op_max rfl rfl rfl) <| SL.as rfl <| SL.nil <| T.blk <| T.region <| SL.v (op_addN (q := 1) rfl rfl (by omega)) ?_
      refine SL.mv rfl <| SL.nil ?_
      exact T.backW (l.length - (j + 1)) (by omega) ⟨j + 1, _, rfl, by omega, by split <;> omega, by split <;> omega, top_step hall, rfl, rfl, rfl⟩ (by repeat (first | exact Sub.nil | refine Sub.cons rfl ?_))
    · have ej : j = l.length := by omega
      subst ej
      have h0' := hall 0 h0 h0
      obtain ⟨tp, rfl⟩ := Int.eq_ofNat_of_zero_le (show 0 ≤ top by omega)
      refine T.seq <| T.region <| SL.v (op_lssF rfl rfl (by omega)) ?_
      refine SL.nil <| T.seq <| T.condF rfl ?_
      refine T.exit (T.exitCode (T.exitCut (T.exitBlk ?_)))
      refine T.seq <| T.seq <| T.region <| SL.mv rfl <| SL.v (op_lssF rfl rfl (by omega)) ?_
      refine SL.nil <| T.condF rfl <| T.skip <| T.seq <| T.region <| SL.mv rfl <| SL.v (op_quo0 (q := 64) rfl rfl rfl (by omega) (by omega)) ?_
      refine SL.v (op_addN (q := 1) rfl rfl (by omega)) ?_
      refine SL.w (op_make Tryz.underlying51 mk51 rfl rfl rfl (Nat.le_refl _) (by omega) (by omega)) ?_
      rintro _ _ _ ⟨B27, rfl, rfl, rfl⟩
      refine SL.as rfl <| SL.nil <| T.seq <| T.seq <| T.region <| SL.mv rfl <| SL.v (op_lenS Tryz.underlying24 rfl) <| SL.v (op_move (v := .int .i64 ((0 : Nat) : Int)) rfl) <| SL.nil <| T.block <| T.loopW (fun m env own X' => ∃ (j : Nat), m = l.length - j ∧ j ≤ l.length ∧ env = [(0, .slice (some ⟨b, 0, none⟩) l.length c), (2, .pointer (some ⟨B2, 0, none⟩)), (3, .int .i64 (tp : Int)), (6, .slice (some ⟨B27, 0, none⟩) 1 1), (28, .slice (some ⟨b, 0, none⟩) l.length c), (29, .int .i64 l.length), (30, .int .i64 (j : Int))] ∧ own = [⟨B27, [.int .u64 (maskOf (l.take j) : Nat)], 58, 1⟩, ⟨B2, [.slice none 0 0], 53, 1⟩] ∧ X = X') l.length ⟨0, by simp, by omega, rfl, rfl, rfl⟩ (by repeat (first | exact Sub.nil | refine Sub.cons rfl ?_)) ?_
      rintro m _ _ _ ⟨j, rfl, hj, rfl, rfl, rfl⟩
      rcases Nat.lt_or_ge j l.length with hjl | hjl
      · have h64 := hl l[j] (List.getElem_mem hjl)
        have hq := hall j hjl hjl
        have hmk := maskOf_lt (l.take j) fun i hi => hl i (List.mem_of_mem_take hi)
        have hp : 2 ^ l[j] < 18446744073709551616 := Nat.pow_lt_pow_right (a := 2) (by omega) h64
        refine T.seq <| T.region <| SL.v (op_lssT rfl rfl (by omega)) ?_
        refine SL.nil <| T.seq <| T.condT rfl <| T.skip <| T.seq <| T.block <| T.seq <| T.region <| SL.v (op_indexN Tryz.underlying24 ty3 rfl rfl (by omega)) ?_
        refine SL.v (op_loadX ty3 rfl hB (cread1 (ints_get l j hjl))) <| SL.as rfl <| SL.nil <| T.seq <| T.region <| SL.mv rfl <| SL.v (op_geqT rfl rfl (by omega)) ?_
        refine SL.mv rfl <| SL.mv rfl <| SL.mv rfl <| SL.v (op_leqT rfl rfl (by omega)) ?_
        refine SL.v (op_pickT rfl rfl) <| SL.nil <| T.condT rfl <| T.draw (by kernel_rfl) 10 [.t 0, .t 1, .t 2, .t 3, .t 4, .t 5, .t 6, .t 7, .t 8, .t 9] (by kernel_rfl) ?_
        refine SD.take rfl panicBody (op_move rfl) rfl rfl ?_
        refine SD.take rfl panicBody (op_move rfl) rfl rfl ?_
        refine SD.take rfl panicBody (op_quo0 (q := 64) rfl rfl rfl (by omega) (by omega)) rfl rfl ?_
        refine SD.take rfl panicBody (op_indexN Tryz.underlying51 ty58 rfl rfl (by omega)) rfl rfl ?_
        refine SD.take rfl panicBody (op_load ty58 rfl (by repeat constructor) rfl) rfl rfl ?_
        refine SD.take rfl panicBody (op_move rfl) rfl rfl ?_
        refine SD.take rfl panicBody (op_remS (q := 64) rfl rfl rfl (by omega)) rfl rfl ?_
        refine SD.take rfl panicBody (op_bit rfl rfl (by omega)) rfl rfl ?_
        refine SD.take rfl panicBody (op_or rfl rfl (by first | omega | assumption | decide | exact Nat.lt_of_le_of_lt (Nat.shiftRight_le ..) (by first | omega | assumption) | exact Nat.lt_of_le_of_lt Nat.and_le_left (by first | omega | assumption) | exact Nat.lt_of_le_of_lt Nat.and_le_right (by first | omega | decide)) (by first | omega | assumption | decide | exact Nat.lt_of_le_of_lt (Nat.shiftRight_le ..) (by first | omega | assumption) | exact Nat.lt_of_le_of_lt Nat.and_le_left (by first | omega | assumption) | exact Nat.lt_of_le_of_lt Nat.and_le_right (by first | omega | decide))) rfl rfl ?_
        refine SD.take rfl panicBody (op_indexN Tryz.underlying51 ty58 rfl rfl (by omega)) rfl rfl ?_
        refine SD.nil ?_
        show SL _ _ _ _ _ _ _ [_] _ _ _
        refine SL.w (op_store ty58 rfl rfl (by repeat constructor) rfl rfl rfl) ?_
        rintro _ _ _ ⟨rfl, rfl⟩
        refine SL.nil <| T.blk <| T.region <| SL.v (op_addN (q := 1) rfl rfl (by omega)) ?_
        refine SL.mv rfl <| SL.nil ?_
        exact T.backW (l.length - (j + 1)) (by omega) ⟨j + 1, rfl, by omega, rfl, by rw [maskOf_take_succ l j hjl]; rfl, rfl⟩ (by repeat (first | exact Sub.nil | refine Sub.cons rfl ?_))
      · have ej : j = l.length := by omega
        subst ej
        rw [List.take_length]
        refine T.seq <| T.region <| SL.v (op_lssF rfl rfl (by omega)) ?_
        refine SL.nil <| T.seq <| T.condF rfl ?_
        refine T.exit (T.exitCode (T.exitCut (T.exitBlk ?_)))
        refine T.seq <| T.region <| SL.mv rfl <| T.pubAt B27 (by repeat constructor) ?_
        intro X1 hX1 hB1 _
        refine SL.w (op_callF en84 (vs := [_]) rfl (trim1_spec (maskOf_lt l hl) hB1 (by omega))) ?_
        rintro _ _ X2 ⟨rfl, hX2, hS⟩
        obtain ⟨A2, l2, c2, rfl⟩ := hS.form
        refine SL.w (op_store ty53 rfl rfl (by repeat constructor) rfl rfl rfl) ?_
        rintro _ _ _ ⟨rfl, rfl⟩
        refine SL.nil <| T.ret1 rfl (ResIs.cell rfl ty53 (by repeat constructor) rfl) ?_
        exact hS
end Go.Proofs.YtnpcilglilfajaaGreatDoor
namespace Go.Proofs.YtnpcilglilfajaaGreatDoor
theorem odd_part : ∀ (m : Nat), 0 < m → ∃ t q, m = 2 ^ t * (2 * q + 1) := by
  intro m
  induction m using Nat.strongRecOn with
  | _ m ih =>
    intro h
    rcases Nat.mod_two_eq_zero_or_one m with e | e
    · obtain ⟨t, q, hm⟩ := ih (m / 2) (by omega) (by omega)
      refine ⟨t + 1, q, ?_⟩
      have : m = 2 * (m / 2) := by omega
      rw [this, hm, Nat.pow_succ]
      rw [Nat.mul_comm (2 ^ t) 2, Nat.mul_assoc]
    · exact ⟨0, m / 2, by omega⟩
theorem odd_lt {t q n : Nat} (h : 2 ^ t * (2 * q + 1) < 2 ^ n) : t < n := by
  have h1 : 2 ^ t * 1 ≤ 2 ^ t * (2 * q + 1) := Nat.mul_le_mul_left _ (by omega)
  have h2 : 2 ^ t < 2 ^ n := by omega
  exact (Nat.pow_lt_pow_iff_right (by omega)).1 h2
theorem odd_bit (t q j : Nat) : (2 ^ t * (2 * q + 1)).testBit j = (decide (t ≤ j) && (2 * q + 1).testBit (j - t)) := by
  have := Nat.testBit_two_pow_mul (i := t) (a := 2 * q + 1) (j := j)
  simpa using this
theorem odd_even (t q j : Nat) (h : j ≠ t) : (2 ^ t * (2 * q + 1)).testBit j = (2 ^ t * (2 * q)).testBit j := by
  rw [odd_bit, Nat.testBit_two_pow_mul]
  by_cases hj : t ≤ j
  · obtain ⟨k, rfl⟩ : ∃ k, j = t + (k + 1) := ⟨j - t - 1, by omega⟩
    have e : t + (k + 1) - t = k + 1 := by omega
    rw [e, Nat.testBit_succ, Nat.testBit_succ]
    have e1 : (2 * q + 1) / 2 = q := by omega
    have e2 : (2 * q) / 2 = q := by omega
    simp [e1, e2]
  · simp [hj]
theorem even_bit (t q : Nat) : (2 ^ t * (2 * q)).testBit t = false := by
  rw [Nat.testBit_two_pow_mul]
  simp
theorem odd_bit_self (t q : Nat) : (2 ^ t * (2 * q + 1)).testBit t = true := by
  rw [odd_bit]
  simp
theorem odd_bit_below (t q j : Nat) (h : j < t) : (2 ^ t * (2 * q + 1)).testBit j = false := by
  rw [odd_bit]
  simp; omega
theorem odd_pred (t q : Nat) : 2 ^ t * (2 * q + 1) - 1 = 2 ^ t * (2 * q) + (2 ^ t - 1) := by
  have h : 0 < 2 ^ t := Nat.pow_pos (by omega)
  rw [Nat.mul_add, Nat.mul_one]
  omega
theorem pred_bit (t q j : Nat) : (2 ^ t * (2 * q + 1) - 1).testBit j = if j < t then true else (2 ^ t * (2 * q)).testBit j := by
  have h0 : 0 < 2 ^ t := Nat.pow_pos (by omega)
  rw [odd_pred, Nat.testBit_two_pow_mul_add _ (by omega)]
  split
  · rename_i h
    have := Nat.testBit_two_pow_sub_one t j
    rw [this]; simpa using h
  · rename_i h
    rw [Nat.testBit_two_pow_mul]
    simp; omega
/-- The least bit alone. -/
theorem low_bit (t q : Nat) (h : 2 ^ t * (2 * q + 1) < 18446744073709551616) : 2 ^ t * (2 * q + 1) &&& (18446744073709551616 - 2 ^ t * (2 * q + 1)) = 2 ^ t := by
  have ht : t < 64 := odd_lt (n := 64) h
  have h0 : 0 < 2 ^ t * (2 * q + 1) := Nat.mul_pos (Nat.pow_pos (by omega)) (by omega)
  apply Nat.eq_of_testBit_eq
  intro j
  have e : 18446744073709551616 - 2 ^ t * (2 * q + 1) = 2 ^ 64 - (2 ^ t * (2 * q + 1) - 1 + 1) := by omega
  rw [Nat.testBit_and, e, Nat.testBit_two_pow_sub_succ (by omega), pred_bit, Nat.testBit_two_pow]
  rcases Nat.lt_trichotomy j t with hj | hj | hj
  · rw [odd_bit_below _ _ _ hj]; simp; omega
  · subst hj; rw [odd_bit_self, even_bit]; simp; omega
  · rw [odd_even _ _ _ (by omega), if_neg (by omega)]
    have : ¬ t = j := by omega
    simp only [this, decide_false]
    cases (2 ^ t * (2 * q)).testBit j <;> simp
/-- Without the least bit. -/
theorem drop_low (t q : Nat) : 2 ^ t * (2 * q + 1) &&& (2 ^ t * (2 * q + 1) - 1) = 2 ^ t * (2 * q) := by
  apply Nat.eq_of_testBit_eq
  intro j
  rw [Nat.testBit_and, pred_bit]
  rcases Nat.lt_trichotomy j t with hj | hj | hj
  · rw [odd_bit_below _ _ _ hj, Nat.testBit_two_pow_mul]; simp; omega
  · subst hj; rw [even_bit]; simp
  · rw [odd_even _ _ _ (by omega), if_neg (by omega), Bool.and_self]

/-- The members of a set, ascending. -/
def mem64 (m : Nat) : List Nat := (List.range 64).filter fun i => m.testBit i
theorem mem64_zero : mem64 0 = [] := by simp [mem64]
theorem mem64_lt {m i : Nat} (h : i ∈ mem64 m) : i < 64 := by
  simp only [mem64, List.mem_filter, List.mem_range] at h
  exact h.1
theorem mem_mem64 {m i : Nat} : i ∈ mem64 m ↔ i < 64 ∧ m.testBit i = true := by simp [mem64]
theorem mem64_cons (t q : Nat) (ht : t < 64) : mem64 (2 ^ t * (2 * q + 1)) = t :: mem64 (2 ^ t * (2 * q)) := by
  unfold mem64
  have hr : List.range 64 = List.range t ++ t :: List.range' (t + 1) (63 - t) := by
    rw [List.range_eq_range', List.range_eq_range']
    have h1 : List.range' 0 64 = List.range' 0 t ++ List.range' (0 + 1 * t) (64 - t) := by
      rw [List.range'_append]
      congr 1
      omega
    rw [h1]
    congr 1
    rw [show 64 - t = (63 - t) + 1 by omega, List.range'_succ]
    simp
  rw [hr, List.filter_append, List.filter_append, List.filter_cons, List.filter_cons, odd_bit_self, even_bit]
  have h1 : (List.range t).filter (fun i => (2 ^ t * (2 * q + 1)).testBit i) = [] := by
    rw [List.filter_eq_nil_iff]
    intro a ha
    rw [odd_bit_below _ _ _ (List.mem_range.1 ha)]; simp
  have h2 : (List.range t).filter (fun i => (2 ^ t * (2 * q)).testBit i) = [] := by
    rw [List.filter_eq_nil_iff]
    intro a ha
    have := List.mem_range.1 ha
    rw [← odd_even _ _ _ (by omega), odd_bit_below _ _ _ this]; simp
  have h3 : (List.range' (t + 1) (63 - t)).filter (fun i => (2 ^ t * (2 * q + 1)).testBit i) = (List.range' (t + 1) (63 - t)).filter (fun i => (2 ^ t * (2 * q)).testBit i) := by
    apply List.filter_congr
    intro a ha
    rw [List.mem_range'] at ha
    obtain ⟨k, hk, rfl⟩ := ha
    exact odd_even _ _ _ (by omega)
  rw [h1, h2, h3]
  simp
theorem mem64_length (m : Nat) : (mem64 m).length ≤ 64 := by
  have := List.length_filter_le (fun i => m.testBit i) (List.range 64)
  simpa [mem64] using this
end Go.Proofs.YtnpcilglilfajaaGreatDoor
namespace Go.Proofs.YtnpcilglilfajaaGreatDoor
section
set_option maxRecDepth 100000
theorem en70 : Enters Tryz.prog 70 := enters_mk Tryz.func70 (by kernel_rfl) rfl
theorem ty5 : Ty Tryz.prog 5 false 1 := ⟨⟨_, Tryz.underlying5, rfl⟩, by kernel_rfl⟩
end
/-- The table of the package math/bits. -/
def tab64 : List Nat := [0, 1, 56, 2, 57, 49, 28, 3, 61, 58, 42, 50, 38, 29, 17, 4, 62, 47, 59, 36, 45, 43, 51, 22, 53, 39, 33, 30, 24, 18, 12, 5, 63, 55, 48, 27, 60, 41, 37, 16, 46, 35, 44, 21, 52, 32, 23, 11, 54, 26, 40, 15, 34, 20, 31, 10, 25, 14, 19, 9, 13, 8, 7, 6]
def Tab (X : PMap) : Prop := Blk X 0 (tab64.map fun (i : Nat) => .int .u8 (i : Int))
theorem Tab.mono {X X' : PMap} (h : Tab X) (hX : X.le X') : Tab X' := Blk.mono h hX
theorem tab64_at : ∀ t, t < 64 → tab64[(2 ^ t * 285870213051353865 % 18446744073709551616) >>> 58]? = some t := by decide
theorem tab64_in : ∀ t, t < 64 → (2 ^ t * 285870213051353865 % 18446744073709551616) >>> 58 < 64 := by decide

theorem tz_spec {X : PMap} (hT : Tab X) (t q m : Nat) (hm : m = 2 ^ t * (2 * q + 1)) (hlt : m < 18446744073709551616) : Spec Tryz.prog 133 [.int .u64 (m : Int)] X fun u X' => u = .int .i64 (t : Int) ∧ X = X' := by
  have ht : t < 64 := odd_lt (n := 64) (q := q) (by rw [← hm]; exact hlt)
  have h0 : 0 < m := by rw [hm]; exact Nat.mul_pos (Nat.pow_pos (by omega)) (by omega)
  have hlow : m &&& (18446744073709551616 - m) = 2 ^ t := by rw [hm]; exact low_bit t q (by omega)
  have hin := tab64_in t ht
  have hat := tab64_at t ht
  refine Spec.enter Tryz.func133 rfl Tryz.ntmps133 rfl ?_
  intro w0 hw0
  refine T.seq <| T.region <| SL.v (op_assign (v := .int .i64 ((0 : Nat) : Int)) rfl) <| SL.nil <| T.seq <| T.seq <| T.region <| SL.mv rfl <| SL.v (op_eqlF rfl rfl (by omega)) ?_
  refine SL.nil <| T.condF rfl <| T.skip <| T.seq <| T.region <| SL.mv rfl <| SL.mv rfl <| SL.v (op_negU rfl (by omega) (by omega)) ?_
  refine SL.v (op_and rfl rfl (by first | omega | assumption | decide | exact Nat.lt_of_le_of_lt (Nat.shiftRight_le ..) (by first | omega | assumption) | exact Nat.lt_of_le_of_lt Nat.and_le_left (by first | omega | assumption) | exact Nat.lt_of_le_of_lt Nat.and_le_right (by first | omega | decide)) (by first | omega | assumption | decide | exact Nat.lt_of_le_of_lt (Nat.shiftRight_le ..) (by first | omega | assumption) | exact Nat.lt_of_le_of_lt Nat.and_le_left (by first | omega | assumption) | exact Nat.lt_of_le_of_lt Nat.and_le_right (by first | omega | decide))) ?_
  rw [hlow]
  refine SL.v (op_mulU (q := 285870213051353865) rfl rfl) <| SL.v (op_shrN (q := 58) rfl rfl (by omega)) ?_
  refine SL.v (op_indexA Tryz.underlying254 ty5 rfl rfl (by omega)) ?_
  refine SL.v (op_loadX ty5 rfl hT (cread1 (by rw [List.getElem?_map, hat]; rfl))) ?_
  refine SL.v (op_convI64 Tryz.underlying5 Tryz.underlying3 rfl (by omega) (by omega)) ?_
  refine SL.as rfl <| SL.nil <| T.ret1 rfl (ResIs.tmp rfl) ?_
  exact ⟨rfl, rfl⟩

/-- How many: only that it is small. -/
theorem ones_spec {X : PMap} (m : Nat) (hlt : m < 18446744073709551616) : Spec Tryz.prog 70 [.int .u64 (m : Int)] X fun u _ => ∃ k : Nat, k < 128 ∧ u = .int .i64 (k : Int) := by
  refine Spec.enter Tryz.func70 rfl Tryz.ntmps70 rfl ?_
  intro w0 hw0
  refine T.seq <| T.region <| SL.v (op_assign (v := .int .i64 ((0 : Nat) : Int)) rfl) <| SL.nil <| T.seq <| T.region <| SL.mv rfl <| SL.w (opx_of isU64 (op_shrN (q := 1) rfl rfl (by omega)) (isU64_nat (Nat.lt_of_le_of_lt (Nat.shiftRight_le ..) (by assumption))) rfl) ?_
  rintro _ _ _ ⟨⟨r4, hr4, rfl⟩, rfl, rfl⟩
  refine SL.w (opx_of isU64 (op_and (q := 6148914691236517205) rfl rfl (by assumption) (by decide)) (isU64_nat (Nat.lt_of_le_of_lt Nat.and_le_left (by assumption))) rfl) ?_
  rintro _ _ _ ⟨⟨r5, hr5, rfl⟩, rfl, rfl⟩
  refine SL.mv rfl <| SL.w (opx_of isU64 (op_and (q := 6148914691236517205) rfl rfl (by assumption) (by decide)) (isU64_nat (Nat.lt_of_le_of_lt Nat.and_le_left (by assumption))) rfl) ?_
  rintro _ _ _ ⟨⟨r7, hr7, rfl⟩, rfl, rfl⟩
  refine SL.w (opx_of isU64 (op_addW rfl rfl) (isU64_wrap _) rfl) ?_
  rintro _ _ _ ⟨⟨r8, hr8, rfl⟩, rfl, rfl⟩
  refine SL.as rfl <| SL.nil <| T.seq <| T.region <| SL.mv rfl <| SL.w (opx_of isU64 (op_shrN (q := 2) rfl rfl (by omega)) (isU64_nat (Nat.lt_of_le_of_lt (Nat.shiftRight_le ..) (by assumption))) rfl) ?_
  rintro _ _ _ ⟨⟨r10, hr10, rfl⟩, rfl, rfl⟩
  refine SL.w (opx_of isU64 (op_and (q := 3689348814741910323) rfl rfl (by assumption) (by decide)) (isU64_nat (Nat.lt_of_le_of_lt Nat.and_le_left (by assumption))) rfl) ?_
  rintro _ _ _ ⟨⟨r11, hr11, rfl⟩, rfl, rfl⟩
  refine SL.mv rfl <| SL.w (opx_of isU64 (op_and (q := 3689348814741910323) rfl rfl (by assumption) (by decide)) (isU64_nat (Nat.lt_of_le_of_lt Nat.and_le_left (by assumption))) rfl) ?_
  rintro _ _ _ ⟨⟨r13, hr13, rfl⟩, rfl, rfl⟩
  refine SL.w (opx_of isU64 (op_addW rfl rfl) (isU64_wrap _) rfl) ?_
  rintro _ _ _ ⟨⟨r14, hr14, rfl⟩, rfl, rfl⟩
  refine SL.as rfl <| SL.nil <| T.seq <| T.region <| SL.mv rfl <| SL.w (opx_of isU64 (op_shrN (q := 4) rfl rfl (by omega)) (isU64_nat (Nat.lt_of_le_of_lt (Nat.shiftRight_le ..) (by assumption))) rfl) ?_
  rintro _ _ _ ⟨⟨r16, hr16, rfl⟩, rfl, rfl⟩
  refine SL.mv rfl <| SL.w (opx_of isU64 (op_addW rfl rfl) (isU64_wrap _) rfl) ?_
  rintro _ _ _ ⟨⟨r18, hr18, rfl⟩, rfl, rfl⟩
  refine SL.w (opx_of isU64 (op_and (q := 1085102592571150095) rfl rfl (by assumption) (by decide)) (isU64_nat (Nat.lt_of_le_of_lt Nat.and_le_left (by assumption))) rfl) ?_
  rintro _ _ _ ⟨⟨r19, hr19, rfl⟩, rfl, rfl⟩
  refine SL.as rfl <| SL.nil <| T.seq <| T.region <| SL.mv rfl <| SL.mv rfl <| SL.w (opx_of isU64 (op_shrN (q := 8) rfl rfl (by omega)) (isU64_nat (Nat.lt_of_le_of_lt (Nat.shiftRight_le ..) (by assumption))) rfl) ?_
  rintro _ _ _ ⟨⟨r22, hr22, rfl⟩, rfl, rfl⟩
  refine SL.w (opx_of isU64 (op_addW rfl rfl) (isU64_wrap _) rfl) ?_
  rintro _ _ _ ⟨⟨r23, hr23, rfl⟩, rfl, rfl⟩
  refine SL.as rfl <| SL.nil <| T.seq <| T.region <| SL.mv rfl <| SL.mv rfl <| SL.w (opx_of isU64 (op_shrN (q := 16) rfl rfl (by omega)) (isU64_nat (Nat.lt_of_le_of_lt (Nat.shiftRight_le ..) (by assumption))) rfl) ?_
  rintro _ _ _ ⟨⟨r26, hr26, rfl⟩, rfl, rfl⟩
  refine SL.w (opx_of isU64 (op_addW rfl rfl) (isU64_wrap _) rfl) ?_
  rintro _ _ _ ⟨⟨r27, hr27, rfl⟩, rfl, rfl⟩
  refine SL.as rfl <| SL.nil <| T.seq <| T.region <| SL.mv rfl <| SL.mv rfl <| SL.w (opx_of isU64 (op_shrN (q := 32) rfl rfl (by omega)) (isU64_nat (Nat.lt_of_le_of_lt (Nat.shiftRight_le ..) (by assumption))) rfl) ?_
  rintro _ _ _ ⟨⟨r30, hr30, rfl⟩, rfl, rfl⟩
  refine SL.w (opx_of isU64 (op_addW rfl rfl) (isU64_wrap _) rfl) ?_
  rintro _ _ _ ⟨⟨r31, hr31, rfl⟩, rfl, rfl⟩
  refine SL.as rfl <| SL.nil <| T.seq <| T.region <| SL.mv rfl <| SL.v (op_convert Tryz.underlying58 Tryz.underlying3 rfl) ?_
  obtain ⟨k, hk, hbits⟩ := and127 (IntKind.i64.wrap (r31 : Int))
  refine SL.v (op_bits (op := .and) rfl rfl (by simp) hbits) ?_
  refine SL.as rfl <| SL.nil <| T.ret1 rfl (ResIs.tmp rfl) ?_
  exact ⟨k, hk, rfl⟩

theorem len_spec {X : PMap} {v : Value} {m : Nat} (h : SetR X v m) : Spec Tryz.prog 22 [v] X fun u _ => ∃ k : Nat, k < 128 ∧ u = .int .i64 (k : Int) := by
  rcases h with ⟨rfl, A, c, rfl⟩ | ⟨_, h1, b, c, rest, rfl, hB⟩
  · refine Spec.enter Tryz.func22 rfl Tryz.ntmps22 rfl ?_
    intro w0 hw0
    refine T.seq <| T.region <| SL.w (op_box rfl) ?_
    rintro _ _ _ ⟨B1, rfl, rfl, rfl⟩
    refine SL.v (op_assign (v := .int .i64 ((0 : Nat) : Int)) rfl) <| SL.nil <| T.seq <| T.region <| SL.v (op_assign (v := .int .i64 ((0 : Nat) : Int)) rfl) <| SL.nil <| T.seq <| T.seq <| T.region <| SL.v (op_fieldAddr fa53_0 rfl) <| SL.v (op_load ty51 rfl (by repeat constructor) rfl) ?_
    refine SL.v (op_lenS Tryz.underlying51 rfl) <| SL.v (op_move (v := .int .i64 ((0 : Nat) : Int)) rfl) <| SL.nil <| T.block <| T.unrollStart 1 ?_
    refine T.unroll ?_
    refine T.seq <| T.region <| SL.v (op_lssF rfl rfl (by omega)) ?_
    refine SL.nil <| T.seq <| T.condF rfl ?_
    refine T.exit (T.exitCode (T.exitMore (T.exitBlk ?_)))
    refine T.seq <| T.region <| SL.mv rfl <| SL.as rfl <| SL.nil <| T.ret1 rfl (ResIs.tmp rfl) ?_
    exact ⟨0, by omega, rfl⟩
  · refine Spec.enter Tryz.func22 rfl Tryz.ntmps22 rfl ?_
    intro w0 hw0
    refine T.seq <| T.region <| SL.w (op_box rfl) ?_
    rintro _ _ _ ⟨B1, rfl, rfl, rfl⟩
    refine SL.v (op_assign (v := .int .i64 ((0 : Nat) : Int)) rfl) <| SL.nil <| T.seq <| T.region <| SL.v (op_assign (v := .int .i64 ((0 : Nat) : Int)) rfl) <| SL.nil <| T.seq <| T.seq <| T.region <| SL.v (op_fieldAddr fa53_0 rfl) <| SL.v (op_load ty51 rfl (by repeat constructor) rfl) ?_
    refine SL.v (op_lenS Tryz.underlying51 rfl) <| SL.v (op_move (v := .int .i64 ((0 : Nat) : Int)) rfl) <| SL.nil <| T.block <| T.unrollStart 2 ?_
    refine T.unroll ?_
    refine T.seq <| T.region <| SL.v (op_lssT rfl rfl (by omega)) ?_
    refine SL.nil <| T.seq <| T.condT rfl <| T.skip <| T.seq <| T.block <| T.seq <| T.region <| SL.v (op_indexN Tryz.underlying51 ty58 rfl rfl (by omega)) ?_
    refine SL.v (op_loadX ty58 rfl (by assumption) rfl) ?_
    refine SL.as rfl <| SL.nil <| T.region <| SL.mv rfl <| SL.mv rfl <| SL.w (op_callF en70 (vs := [_]) rfl (ones_spec m h1)) ?_
    rintro _ _ X1 ⟨rfl, hX1, k, hk, rfl⟩
    refine SL.v (op_addN rfl rfl (by omega)) ?_
    refine SL.as rfl <| SL.nil <| T.blk <| T.region <| SL.v (op_addN (q := 1) rfl rfl (by omega)) ?_
    refine SL.mv rfl <| SL.nil <| T.unroll ?_
    refine T.seq <| T.region <| SL.v (op_lssF rfl rfl (by omega)) ?_
    refine SL.nil <| T.seq <| T.condF rfl ?_
    refine T.exit (T.exitCode (T.exitMore (T.exitBlk ?_)))
    refine T.seq <| T.region <| SL.mv rfl <| SL.as rfl <| SL.nil <| T.ret1 rfl (ResIs.tmp rfl) ?_
    exact ⟨0 + k, by omega, rfl⟩
end Go.Proofs.YtnpcilglilfajaaGreatDoor
namespace Go.Proofs.YtnpcilglilfajaaGreatDoor
section
set_option maxRecDepth 100000
theorem bs3 : ∃ i z, Tryz.prog.info? 3 = some i ∧ i.size = 1 ∧ i.zero = some z ∧ z.cells = ([.int .i64 0] : List Value).toArray := bs_of (by kernel_rfl)
theorem en132 : Enters Tryz.prog 132 := enters_mk Tryz.func132 (by kernel_rfl) rfl
theorem en133 : Enters Tryz.prog 133 := enters_mk Tryz.func133 (by kernel_rfl) rfl
theorem en22 : Enters Tryz.prog 22 := enters_mk Tryz.func22 (by kernel_rfl) rfl
theorem en85 : Enters Tryz.prog 85 := enters_mk Tryz.func85 (by kernel_rfl) rfl
theorem mk24 : ∃ i, Tryz.prog.info? 3 = some i ∧ i.size = 1 ∧ i.bytes = 8 ∧ i.zero = some (.int .i64 0) := mk_of (by kernel_rfl)
theorem sl24 : SlT Tryz.prog 24 3 1 8 := ⟨Tryz.underlying24, sl_of (by kernel_rfl) (by decide)⟩
theorem ty24 : Ty Tryz.prog 24 false 1 := ⟨⟨_, Tryz.underlying24, rfl⟩, by kernel_rfl⟩
theorem z24 : Zero Tryz.prog 24 [.slice none 0 0] := ⟨zero_of (by kernel_rfl)⟩
end
open Go.RowKit
theorem mem64_drop {m x i t q : Nat} (h : (mem64 m).drop i = mem64 x) (hx : x = 2 ^ t * (2 * q + 1)) (ht : t < 64) : (mem64 m)[i]? = some t ∧ (mem64 m).drop (i + 1) = mem64 (2 ^ t * (2 * q)) := by
  rw [hx, mem64_cons t q ht] at h
  refine ⟨?_, ?_⟩
  · have := congrArg (·[0]?) h
    simpa using this
  · have := congrArg (List.drop 1) h
    simpa using this
theorem all_seq {X : PMap} (hT : Tab X) {v : Value} {m B : Nat} (h : SetR X v m) (hbox : Blk X B (vcells v)) : Seq Tryz.prog 132 [.pointer (some ⟨B, 0, none⟩)] (ints (mem64 m)) X := by
  intro l J w0 hst hP hY hJ0
  have hw0 := hP 0 w0 hJ0
  rcases h with ⟨rfl, A, c, rfl⟩ | ⟨_, h1, b, c, rest, rfl, hB⟩
  · refine Calls.enter Tryz.func132 rfl Tryz.ntmps132 rfl hw0 ?_
    refine T.seq <| T.region <| SL.v (op_fieldAddr fa53_0 rfl) <| SL.v (op_loadX ty51 rfl (by assumption) rfl) ?_
    refine SL.v (op_lenS Tryz.underlying51 rfl) <| SL.v (op_move (v := .int .i64 ((0 : Nat) : Int)) rfl) <| SL.nil <| T.block <| T.unrollStart 1 ?_
    refine T.unroll ?_
    refine T.seq <| T.region <| SL.v (op_lssF rfl rfl (by omega)) ?_
    refine SL.nil <| T.seq <| T.condF rfl ?_
    refine T.exit (T.exitCode (T.exitMore (T.exitBlk ?_)))
    refine T.done0 rfl ?_
    intro W' hb hp
    exact ⟨⟨_, rfl⟩, by simpa [mem64_zero, ints] using hst 0 _ _ hJ0 hb⟩
  · refine Calls.enter Tryz.func132 rfl Tryz.ntmps132 rfl hw0 ?_
    refine T.seq <| T.region <| SL.v (op_fieldAddr fa53_0 rfl) <| SL.v (op_loadX ty51 rfl (by assumption) rfl) ?_
    refine SL.v (op_lenS Tryz.underlying51 rfl) <| SL.v (op_move (v := .int .i64 ((0 : Nat) : Int)) rfl) <| SL.nil <| T.block <| T.unrollStart 2 ?_
    refine T.unroll ?_
    refine T.seq <| T.region <| SL.v (op_lssT rfl rfl (by omega)) ?_
    refine SL.nil <| T.seq <| T.condT rfl <| T.skip <| T.seq <| T.block <| T.seq <| T.region <| SL.mv rfl <| SL.v (op_indexN Tryz.underlying51 ty58 rfl rfl (by omega)) ?_
    refine SL.v (op_loadX ty58 rfl (by assumption) rfl) ?_
    refine SL.as rfl <| SL.as rfl <| SL.nil <| T.block <| T.loopB (fun mm env w1 => ∃ i x, x = mm ∧ x < 18446744073709551616 ∧ i ≤ (mem64 m).length ∧ (mem64 m).drop i = mem64 x ∧ J i w1 ∧ env = [(0, .func (.yield l) #[] #[]), (3, .int .i64 ((0 : Nat) : Int)), (4, .int .u64 (x : Int)), (7, .int .i64 ((1 : Nat) : Int)), (8, .int .i64 ((0 : Nat) : Int))]) m ⟨0, m, rfl, h1, by omega, by simp, hJ0, rfl⟩ (by repeat (first | exact Sub.nil | refine Sub.cons rfl ?_)) rfl ?_
    rintro mm _ w1 ⟨i, x, rfl, hx, hi, hdrop, hJ, rfl⟩
    by_cases hx0 : x = 0
    · subst hx0
      have hi' : i = (mem64 m).length := by
        rw [mem64_zero] at hdrop
        have := List.drop_eq_nil_iff.1 hdrop
        omega
      subst hi'
      refine T.seq <| T.seq <| T.region <| SL.mv rfl <| SL.v (op_neqF rfl rfl (by omega)) ?_
      refine SL.nil <| T.condF rfl ?_
      refine T.exit (T.exitCode (T.exitCut (T.exitBlk ?_)))
      refine T.blk <| T.region <| SL.v (op_addN (q := 1) rfl rfl (by omega)) ?_
      refine SL.mv rfl <| SL.nil <| T.unroll ?_
      refine T.seq <| T.region <| SL.v (op_lssF rfl rfl (by omega)) ?_
      refine SL.nil <| T.seq <| T.condF rfl ?_
      refine T.exit (T.exitCode (T.exitMore (T.exitBlk ?_)))
      refine T.done0 rfl ?_
      intro W' hb hp
      exact ⟨⟨_, rfl⟩, by simpa [ints] using hst _ _ _ hJ hb⟩
    · obtain ⟨t, q, hq⟩ := odd_part x (by omega)
      have ht : t < 64 := odd_lt (n := 64) (q := q) (by rw [← hq]; exact hx)
      obtain ⟨hget, hdrop'⟩ := mem64_drop hdrop hq ht
      refine T.seq <| T.seq <| T.region <| SL.mv rfl <| SL.v (op_neqT rfl rfl (by omega)) ?_
      refine SL.nil <| T.condT rfl <| T.skip <| T.seq <| T.block <| T.seq <| T.region <| SL.mv rfl <| SL.mv rfl <| SL.v (op_mulN (p := 64) rfl rfl (by omega)) ?_
      refine SL.mv rfl <| SL.w (op_callF en133 (vs := [_]) rfl (tz_spec hT t q x hq hx)) ?_
      rintro _ _ X1 ⟨rfl, hX1, rfl, rfl⟩
      refine SL.v (op_addN rfl rfl (by omega)) ?_
      refine (SL.yield (x := .int .i64 ((0 + t : Nat) : Int)) (J := J i) (J' := J (i + 1)) rfl rfl rfl rfl (fun W hb => hst i _ _ hJ hb) (fun A hA => hY i _ A hA (by simp [ints, hget])) (fun B hB => hP _ B hB) ?_)
      intro w2 hJ2 hw2
      refine SL.v (op_not rfl) <| SL.nil <| T.condF rfl <| T.skip <| T.blk <| T.region <| SL.mv rfl <| SL.mv rfl <| SL.v (op_subU (q := 1) rfl rfl (by omega) (by omega)) ?_
      refine SL.v (op_and rfl rfl (by first | omega | assumption | decide | exact Nat.lt_of_le_of_lt (Nat.shiftRight_le ..) (by first | omega | assumption) | exact Nat.lt_of_le_of_lt Nat.and_le_left (by first | omega | assumption) | exact Nat.lt_of_le_of_lt Nat.and_le_right (by first | omega | decide)) (by first | omega | assumption | decide | exact Nat.lt_of_le_of_lt (Nat.shiftRight_le ..) (by first | omega | assumption) | exact Nat.lt_of_le_of_lt Nat.and_le_left (by first | omega | assumption) | exact Nat.lt_of_le_of_lt Nat.and_le_right (by first | omega | decide))) ?_
      rw [show x &&& (x - 1) = 2 ^ t * (2 * q) by rw [hq]; exact drop_low t q]
      refine SL.as rfl <| SL.nil ?_
      exact T.backB (2 ^ t * (2 * q)) (by rw [hq]; exact Nat.mul_lt_mul_of_pos_left (by omega) (Nat.pow_pos (by omega))) ⟨i + 1, _, rfl, by rw [hq] at hx; exact Nat.lt_of_le_of_lt (Nat.mul_le_mul_left _ (by omega)) hx, by have := (List.getElem?_eq_some_iff.1 hget).1; omega, hdrop', hJ2, rfl⟩ (by repeat (first | exact Sub.nil | refine Sub.cons rfl ?_))

theorem all_spec {X : PMap} {v : Value} : Spec Tryz.prog 85 [v] X fun u X' => ∃ B, u = .func (.func 132) #[] #[.pointer (some ⟨B, 0, none⟩)] ∧ Blk X' B (vcells v) := by
  refine Spec.enter Tryz.func85 rfl Tryz.ntmps85 rfl ?_
  intro w0 hw0
  refine T.seq <| T.region <| SL.w (op_box rfl) ?_
  rintro _ _ _ ⟨B1, rfl, rfl, rfl⟩
  refine SL.as rfl <| SL.nil <| T.seq <| T.region <| SL.v (op_makeFunc (vs := []) (us := [_]) rfl rfl) <| SL.as rfl <| SL.nil <| T.pub B1 (by repeat constructor) ?_
  intro X1 hX1 hB1 _
  refine T.ret1 rfl (ResIs.tmp rfl) ?_
  exact ⟨B1, rfl, hB1⟩

theorem list_spec {X : PMap} (hT : Tab X) {v : Value} {m : Nat} (h : SetR X v m) : Spec Tryz.prog 40 [v] X fun u X' => SliceR X' u (mem64 m).length (ints (mem64 m)) := by
  obtain ⟨A, l, c, rfl⟩ := h.form
  refine Spec.enter Tryz.func40 rfl Tryz.ntmps40 rfl ?_
  intro w0 hw0
  refine T.seq <| T.region <| SL.w (op_box rfl) ?_
  rintro _ _ _ ⟨B1, rfl, rfl, rfl⟩
  refine SL.as rfl <| SL.nil <| T.seq <| T.region <| SL.v (op_load ty53 rfl (by repeat constructor) rfl) ?_
  refine SL.w (op_callF en22 (vs := [_]) rfl (len_spec h)) ?_
  rintro _ _ X1 ⟨rfl, hX1, k, hk, rfl⟩
  refine SL.w (op_make (l := 0) (c := k) Tryz.underlying24 mk24 rfl rfl rfl (by omega) (by omega) (by omega)) ?_
  rintro _ _ _ ⟨B7, rfl, rfl, rfl⟩
  refine SL.w (op_alloc z24) ?_
  rintro _ _ _ ⟨B3, rfl, rfl, rfl⟩
  refine SL.w (op_store ty24 rfl rfl (by repeat constructor) rfl rfl rfl) ?_
  rintro _ _ _ ⟨rfl, rfl⟩
  refine SL.nil <| T.seq <| T.seq <| T.region <| SL.v (op_load ty53 rfl (by repeat constructor) rfl) ?_
  refine SL.w (op_callF en85 (vs := [_]) rfl (all_spec)) ?_
  rintro _ _ X2 ⟨rfl, hX2, B9, rfl, hB9⟩
  refine SL.nil <| T.block <| T.rangeFunc (xs := (ints (mem64 m))) rfl en132 rfl rfl (all_seq ((hT.mono hX1).mono hX2) ((h.mono hX1).mono hX2) hB9) (fun i own' X' => X2.le X' ∧ ∃ b cap sz, sz = cap * 1 ∧ i ≤ cap ∧ cap ≤ maxLen ∧ own' = [⟨B3, [.slice (some ⟨b, 0, none⟩) i cap], 24, 1⟩, ⟨b, ints ((mem64 m).take i), 3, sz⟩, ⟨B1, [.slice A l c], 53, 1⟩]) ⟨PMap.le_refl _, B7, k, k, by simp, by omega, by (have : maxLen = 9223372036854775807 := rfl); omega, rfl⟩ (fun i own' X' h => h.1) ?_ ?_
  · rintro i x _ X' l' r D hx ⟨hX', b, cap, sz, hsz, hic, hcm, rfl⟩
    obtain ⟨hi, rfl⟩ := ints_some hx
    have hi64 := mem64_length m
    refine T.block <| T.region <| SL.v (op_load ty24 rfl (by repeat constructor) rfl) ?_
    refine SL.mv rfl <| SL.w (op_buildSlice Tryz.underlying24 bs3 (qs := [(0, _)]) rfl rfl rfl rfl rfl) ?_
    rintro _ _ _ ⟨B13, rfl, rfl, rfl⟩
    refine SL.w (op_append sl24 rfl rfl (by repeat constructor) hsz (by simp [ints]; omega) hic hcm (Src.ofOwn0 (by repeat constructor) rfl) (by simp [Value.oneCell', csets, vcells]) (by (have : maxLen = 9223372036854775807 := rfl); omega) (by omega)) ?_
    rintro _ _ _ ⟨b2, cap2, rfl, rfl, rfl, hc2, hm2⟩
    refine SL.w (op_store ty24 rfl rfl (by repeat constructor) rfl rfl rfl) ?_
    rintro _ _ _ ⟨rfl, rfl⟩
    refine SL.nil <| T.blk <| T.drop B13 (by repeat constructor) ?_
    exact T.roundEnd ⟨hX', b2, cap2, _, rfl, hc2, hm2, by rw [ints_take_succ _ _ hi]; rfl⟩
  · rintro D _ X3 ⟨hX3, b, cap, sz, hsz, hic, hcm, rfl⟩
    refine T.blk <| T.seq <| T.region <| SL.v (op_load ty24 rfl (by repeat constructor) rfl) ?_
    refine SL.as rfl <| SL.nil ?_
    rw [ints_len, show (ints (mem64 m)).length = (mem64 m).length by simp [ints]]
    refine T.pub b (by repeat constructor) ?_
    intro X4 hX4 hB4 _
    refine T.ret1 rfl (ResIs.tmp rfl) ?_
    rcases Nat.eq_zero_or_pos (mem64 m).length with h0 | h0
    · have e : mem64 m = [] := List.eq_nil_of_length_eq_zero h0
      rw [e]
      exact .inl ⟨rfl, rfl, _, _, rfl⟩
    · exact .inr ⟨h0, _, _, rfl, hB4⟩
end Go.Proofs.YtnpcilglilfajaaGreatDoor
namespace Go.Proofs.YtnpcilglilfajaaGreatDoor
section
set_option maxRecDepth 100000
theorem en38 : Enters Tryz.prog 38 := enters_mk Tryz.func38 (by kernel_rfl) rfl
theorem en41 : Enters Tryz.prog 41 := enters_mk Tryz.func41 (by kernel_rfl) rfl
end
open Go.RowKit
theorem bit_dec (n i : Nat) : decide ((((n >>> i) % 2 : Nat) : Int) = 1) = n.testBit i := by
  rw [Nat.testBit_eq_decide_div_mod_eq, Nat.shiftRight_eq_div_pow]
  congr 1
  apply propext
  omega
def memL (n k : Nat) : List Nat := (List.range k).filter fun i => n.testBit i
theorem memL_succ (n k : Nat) : memL n (k + 1) = if n.testBit k then memL n k ++ [k] else memL n k := by
  unfold memL
  rw [List.range_succ, List.filter_append, List.filter_cons]
  split <;> simp
theorem memL_len (n k : Nat) : (memL n k).length ≤ k := by
  have := List.length_filter_le (fun i => n.testBit i) (List.range k)
  simpa [memL] using this
theorem ints_snoc (l : List Nat) (i : Nat) : ints (l ++ [i]) = ints l ++ [.int .i64 (i : Int)] := by simp [ints]
theorem members_spec {X : PMap} (n : Nat) (_hn : n < 18446744073709551616) : Spec Tryz.prog 41 [.int .u64 (n : Int)] X fun u X' => SliceR X' u (mem64 n).length (ints (mem64 n)) := by
  refine Spec.enter Tryz.func41 rfl Tryz.ntmps41 rfl ?_
  intro w0 hw0
  refine T.seq <| T.region <| SL.as rfl <| SL.nil <| T.seq <| T.region <| SL.as rfl <| SL.nil <| T.seq <| T.seq <| T.region <| SL.v (op_assign (v := .int .i64 ((0 : Nat) : Int)) rfl) <| SL.nil <| T.block <| T.loopW (fun m env own X' => ∃ (k : Nat) (s : Value), m = 64 - k ∧ k ≤ 64 ∧ X = X' ∧ GrowS 3 1 s (memL n k).length (ints (memL n k)) own ∧ env = [(0, .int .u64 (n : Int)), (3, s), (4, .int .i64 (k : Int))]) 64 ⟨0, _, by simp, by omega, rfl, GrowS.nil, rfl⟩ (by repeat (first | exact Sub.nil | refine Sub.cons rfl ?_)) ?_
  rintro m _ G _ ⟨k, s, rfl, hk, rfl, hG, rfl⟩
  have hml := memL_len n k
  rcases Nat.lt_or_ge k 64 with hk64 | hk64
  · skip
    refine T.seq <| T.seq <| T.region <| SL.mv rfl <| SL.v (op_lssT rfl rfl (by omega)) ?_
    refine SL.nil <| T.condT rfl <| T.skip <| T.seq <| T.block <| T.seq <| T.region <| SL.mv rfl <| SL.mv rfl <| SL.v (op_shrN rfl rfl (by omega)) ?_
    refine SL.v (op_remN (q := 2) rfl rfl rfl (by decide)) ?_
    refine SL.v (op_eql rfl rfl) <| SL.nil ?_
    rw [bit_dec]
    cases hb : n.testBit k with
    | true =>
      refine T.condT rfl <| T.region <| SL.mv rfl <| SL.mv rfl <| SL.w (op_buildSlice Tryz.underlying24 bs3 (qs := [(0, _)]) rfl rfl rfl rfl rfl) ?_
      rintro _ _ _ ⟨B16, rfl, rfl, rfl⟩
      refine SL.w (op_appendG (own0 := []) sl24 rfl hG rfl rfl rfl (by (have : maxLen = 9223372036854775807 := rfl); omega) (by omega)) ?_
      rintro s' _ _ ⟨G', rfl, rfl, hG'⟩
      refine SL.as rfl <| SL.nil <| T.blk <| T.region <| SL.mv rfl <| SL.v (op_addN (q := 1) rfl rfl (by omega)) ?_
      refine SL.as rfl <| SL.nil ?_
      exact T.backW (64 - (k + 1)) (by omega) ⟨k + 1, s', rfl, by omega, rfl, by rw [memL_succ, hb, if_pos rfl, ints_snoc]; simpa [csets, vcells] using hG', rfl⟩ (by repeat (first | exact Sub.nil | refine Sub.cons rfl ?_))
    | false =>
      refine T.condF rfl <| T.skip <| T.blk <| T.region <| SL.mv rfl <| SL.v (op_addN (q := 1) rfl rfl (by omega)) ?_
      refine SL.as rfl <| SL.nil ?_
      exact T.backW (64 - (k + 1)) (by omega) ⟨k + 1, s, rfl, by omega, rfl, by rw [memL_succ, hb]; exact hG, rfl⟩ (by repeat (first | exact Sub.nil | refine Sub.cons rfl ?_))
  · obtain rfl : k = 64 := by omega
    refine T.seq <| T.seq <| T.region <| SL.mv rfl <| SL.v (op_lssF rfl rfl (by omega)) ?_
    refine SL.nil <| T.condF rfl ?_
    refine T.exit (T.exitCode (T.exitCut (T.exitBlk ?_)))
    refine T.seq <| T.region <| SL.mv rfl <| SL.as rfl <| SL.nil <| T.pubG (own0 := []) hG ?_
    intro X3 hX3 hS3
    refine T.ret1 rfl (ResIs.tmp rfl) ?_
    exact hS3
theorem maskOf_testBit (l : List Nat) (j : Nat) : (maskOf l).testBit j = decide (j ∈ l) := by
  have key : ∀ (l : List Nat) (m : Nat), (l.foldl (fun m i => m ||| 2 ^ i) m).testBit j = (m.testBit j || decide (j ∈ l)) := by
    intro l
    induction l with
    | nil => intro m; simp
    | cons i l ih =>
      intro m
      rw [List.foldl_cons, ih, Nat.testBit_or, Nat.testBit_two_pow]
      by_cases e : i = j
      · subst e; simp
      · have e' : ¬ j = i := fun h => e h.symm
        simp [e, e']
  rw [maskOf, key]
  simp
theorem maskOf_mem64 {n : Nat} (hn : n < 18446744073709551616) : maskOf (mem64 n) = n := by
  apply Nat.eq_of_testBit_eq
  intro j
  rw [maskOf_testBit]
  by_cases hj : n.testBit j = true
  · have : j < 64 := by
      rcases Nat.lt_or_ge j 64 with h | h
      · exact h
      · rw [testBit_big hn h] at hj; cases hj
    rw [hj, decide_eq_true (mem_mem64.2 ⟨this, hj⟩)]
  · have : j ∉ mem64 n := fun h => hj (mem_mem64.1 h).2
    rw [decide_eq_false this]
    simpa using hj
theorem set14_spec {X : PMap} (n : Nat) (hn : n < 18446744073709551616) : Spec Tryz.prog 27 [.int .u64 (n : Int)] X fun u X' => SetR X' u n := by
  refine Spec.enter Tryz.func27 rfl Tryz.ntmps27 rfl ?_
  intro w0 hw0
  refine T.seq <| T.region <| SL.w (op_alloc z53) ?_
  rintro _ _ _ ⟨B2, rfl, rfl, rfl⟩
  refine SL.nil <| T.seq <| T.region <| SL.mv rfl <| SL.w (op_callF en41 (vs := [_]) rfl (members_spec n hn)) ?_
  rintro _ _ X1 ⟨rfl, hX1, hS1⟩
  refine SL.w (op_callF en38 (vs := [_]) rfl (of_spec hS1 (fun i hi => mem64_lt hi) (by have := mem64_length n; omega))) ?_
  rintro _ _ X2 ⟨rfl, hX2, hS2⟩
  obtain ⟨A2, l2, c2, rfl⟩ := hS2.form
  refine SL.w (op_store ty53 rfl rfl (by repeat constructor) rfl rfl rfl) ?_
  rintro _ _ _ ⟨rfl, rfl⟩
  refine SL.nil <| T.ret1 rfl (ResIs.cell rfl ty53 (by repeat constructor) rfl) ?_
  rw [maskOf_mem64 hn] at hS2
  exact hS2
theorem SliceR.form {X : PMap} {v : Value} {len : Nat} {cs : List Value} (h : SliceR X v len cs) : ∃ A cp, v = .slice A len cp := by
  rcases h with ⟨h0, _, A, c, rfl⟩ | ⟨_, b, c, rfl, _⟩
  · exact ⟨A, c, by rw [h0]⟩
  · exact ⟨_, c, rfl⟩
theorem SliceR.blk {X : PMap} {A : Option Addr} {cp len : Nat} {cs : List Value} (h : SliceR X (.slice A len cp) len cs) (h0 : 0 < len) : ∃ b, A = some ⟨b, 0, none⟩ ∧ Blk X b cs := by
  rcases h with ⟨h0, _⟩ | ⟨_, b, c, he, hb⟩
  · omega
  · simp only [Value.slice.injEq] at he
    exact ⟨b, he.1, hb⟩
theorem eqInts_spec {X : PMap} {v v' : Value} {l l' : List Nat} (h : SliceR X v l.length (ints l)) (h' : SliceR X v' l'.length (ints l')) (hs : l.length < 2147483648) : Spec Tryz.prog 39 [v, v'] X fun u _ => u = .bool (decide (l = l')) := by
  obtain ⟨A, cp, rfl⟩ := h.form
  obtain ⟨A', cp', rfl⟩ := h'.form
  by_cases hl : l.length = l'.length
  · refine Spec.enter Tryz.func39 rfl Tryz.ntmps39 rfl ?_
    intro w0 hw0
    refine T.seq <| T.region <| SL.as rfl <| SL.nil <| T.seq <| T.seq <| T.region <| SL.mv rfl <| SL.v (op_lenS Tryz.underlying24 rfl) <| SL.mv rfl <| SL.v (op_lenS Tryz.underlying24 rfl) <| SL.v (op_neqF rfl rfl (by omega)) ?_
    refine SL.nil <| T.condF rfl <| T.skip <| T.seq <| T.seq <| T.region <| SL.mv rfl <| SL.v (op_lenS Tryz.underlying24 rfl) <| SL.v (op_move (v := .int .i64 ((0 : Nat) : Int)) rfl) <| SL.nil <| T.block <| T.loopW (fun m env own X' => ∃ (k : Nat), m = l.length - k ∧ k ≤ l.length ∧ X = X' ∧ l.take k = l'.take k ∧ own = [] ∧ env = [(0, .slice A l.length cp), (1, .slice A' l'.length cp'), (12, .int .i64 (l.length : Int)), (13, .int .i64 (k : Int))]) l.length ⟨0, by simp, by omega, rfl, rfl, rfl, rfl⟩ (by repeat (first | exact Sub.nil | refine Sub.cons rfl ?_)) ?_
    rintro m _ _ _ ⟨k, rfl, hk, rfl, hpre, rfl, rfl⟩
    rcases Nat.lt_or_ge k l.length with hkl | hkl
    · obtain ⟨b, rfl, hB⟩ := h.blk (by omega)
      obtain ⟨b', rfl, hB'⟩ := h'.blk (by omega)
      have hkl' : k < l'.length := by omega
      refine T.seq <| T.region <| SL.v (op_lssT rfl rfl (by omega)) ?_
      refine SL.nil <| T.seq <| T.condT rfl <| T.skip <| T.seq <| T.block <| T.seq <| T.region <| SL.mv rfl <| SL.as rfl <| SL.nil <| T.seq <| T.draw (by kernel_rfl) 9 [.t 0, .t 1, .t 2, .t 3, .t 4, .t 5, .t 6, .t 7, .t 8] (by kernel_rfl) ?_
      refine SD.take rfl panicBody (op_move rfl) rfl rfl ?_
      refine SD.take rfl panicBody (op_move rfl) rfl rfl ?_
      refine SD.take rfl panicBody (op_indexN Tryz.underlying24 ty3 rfl rfl (by omega)) rfl rfl ?_
      refine SD.take rfl panicBody (op_loadX ty3 rfl hB (cread1 (ints_get l k hkl))) rfl rfl ?_
      refine SD.take rfl panicBody (op_move rfl) rfl rfl ?_
      refine SD.take rfl panicBody (op_move rfl) rfl rfl ?_
      refine SD.take rfl panicBody (op_indexN Tryz.underlying24 ty3 rfl rfl (by omega)) rfl rfl ?_
      refine SD.take rfl panicBody (op_loadX ty3 rfl hB' (cread1 (ints_get l' k hkl'))) rfl rfl ?_
      by_cases he : l[k] = l'[k]
      · skip
        refine SD.take rfl panicBody (op_neqF rfl rfl (by omega)) rfl rfl ?_
        refine SD.nil ?_
        show SL _ _ _ _ _ _ _ [] _ _ _
        refine SL.nil <| T.condF rfl <| T.skip <| T.blk <| T.region <| SL.v (op_addN (q := 1) rfl rfl (by omega)) ?_
        refine SL.mv rfl <| SL.nil ?_
        exact T.backW (l.length - (k + 1)) (by omega) ⟨k + 1, rfl, by omega, rfl, by rw [List.take_succ_eq_append_getElem hkl, List.take_succ_eq_append_getElem hkl', hpre, he], rfl, rfl⟩ (by repeat (first | exact Sub.nil | refine Sub.cons rfl ?_))
      · refine SD.take rfl panicBody (op_neqT rfl rfl (by omega)) rfl rfl ?_
        refine SD.nil ?_
        show SL _ _ _ _ _ _ _ [] _ _ _
        refine SL.nil <| T.condT rfl <| T.seq <| T.region <| SL.as rfl <| SL.nil <| T.ret1 rfl (ResIs.tmp rfl) ?_
        have : l ≠ l' := fun e => he (by subst e; rfl)
        simp [this]
    · obtain rfl : k = l.length := by omega
      refine T.seq <| T.region <| SL.v (op_lssF rfl rfl (by omega)) ?_
      refine SL.nil <| T.seq <| T.condF rfl ?_
      refine T.exit (T.exitCode (T.exitCut (T.exitBlk ?_)))
      refine T.seq <| T.region <| SL.as rfl <| SL.nil <| T.ret1 rfl (ResIs.tmp rfl) ?_
      have : l = l' := by
        rw [List.take_length, hl, List.take_length] at hpre
        exact hpre
      simp [this]
  · refine Spec.enter Tryz.func39 rfl Tryz.ntmps39 rfl ?_
    intro w0 hw0
    refine T.seq <| T.region <| SL.as rfl <| SL.nil <| T.seq <| T.seq <| T.region <| SL.mv rfl <| SL.v (op_lenS Tryz.underlying24 rfl) <| SL.mv rfl <| SL.v (op_lenS Tryz.underlying24 rfl) <| SL.v (op_neqT rfl rfl (by omega)) ?_
    refine SL.nil <| T.condT rfl <| T.seq <| T.region <| SL.as rfl <| SL.nil <| T.ret1 rfl (ResIs.tmp rfl) ?_
    have : l ≠ l' := fun e => hl (by rw [e])
    simp [this]
end Go.Proofs.YtnpcilglilfajaaGreatDoor
namespace Go.Proofs.YtnpcilglilfajaaGreatDoor
section
set_option maxRecDepth 100000
theorem bs5 : ∃ i z, Tryz.prog.info? 5 = some i ∧ i.size = 1 ∧ i.zero = some z ∧ z.cells = ([.int .u8 0] : List Value).toArray := bs_of (by kernel_rfl)
theorem sl44 : SlT Tryz.prog 44 5 1 1 := ⟨Tryz.underlying44, sl_of (by kernel_rfl) (by decide)⟩
end
open Go.RowKit
set_option maxRecDepth 20000 in
theorem u8_or128 : ∀ p : _root_.Fin 128, bits .or .u8 (p.val : Int) 128 = ((128 + p.val : Nat) : Int) := by decide
section
variable {ro : Option Nat} {P : Program} {n : NM} {w0 : Base} {X0 X : PMap} {own : Own} {env : Env} {t t' : TypeId} {x y : Operand}
theorem op_or128 {p : Nat} (hx : eev env x = some (.int .u8 (p : Int))) (hy : eev env y = some (.int .u8 128)) (h : p < 128) : OpY P n env own X (.binOp .or t x y t') (.int .u8 ((128 + p : Nat) : Int)) := op_bits hx hy (by simp) (u8_or128 ⟨p, h⟩)
theorem op_and127L {p : Nat} (hx : eev env x = some (.int .u64 (p : Int))) (hy : eev env y = some (.int .u64 127)) (h : p < 18446744073709551616) : OpY P n env own X (.binOp .and t x y t') (.int .u64 ((p % 128 : Nat) : Int)) := by
  have := op_and (P := P) (n := n) (own := own) (X := X) (t := t) (t' := t') (q := 127) hx hy h (by omega)
  rwa [show p &&& 127 = p % 128 from Nat.and_two_pow_sub_one_eq_mod p 7] at this
/-- append of a slice onto what has grown. -/
theorem op_appendGM {e : TypeId} {s : Operand} {v u : Value} {len m size bytes : Nat} {cs news : List Value} {own0 G : Own} (ht : SlT P t e size bytes) (hs : eev env s = some v) (hg : GrowS e size v len cs G) (hx : eev env x = some u)
    (hsrc : Src (own0 ++ G) X u m size news) (hm : 0 < m) (h1 : ∀ y ∈ news, y.oneCell' = true) (hlen : len + m ≤ maxLen) (hby : (len + m) * bytes ≤ 140737488355328) :
    OpX P n w0 X0 env (own0 ++ G) X (.call { callee := .builtin .append, args := #[s, x], argTypes := #[t, t] }) false fun v' own' X' => ∃ G', own' = own0 ++ G' ∧ X = X' ∧ GrowS e size v' (len + m) (cs ++ news) G' := by
  have hnl := hsrc.1
  rcases hg with ⟨rfl, rfl, rfl, rfl⟩ | ⟨b, cap, rfl, rfl, hlc, hcm, hcl⟩
  · refine (op_appendNil (m := m) (news := news) ht hs hx hsrc hm h1 (by simpa using hlen) (by simpa using hby)).weaken ?_
    rintro v' own' X' ⟨b', cap', rfl, rfl, rfl, hc1, hc2⟩
    refine ⟨own0 ++ [⟨b', news, e, cap' * size⟩], ⟨b', news, e, cap' * size⟩ :: own0, ⟨_, rfl, rfl, .inr ⟨b', cap', by simp, by simp, by omega, hc2, by simp [hnl]⟩⟩, ?_, (List.perm_append_singleton ..).symm⟩
    rw [List.append_nil]
    exact List.Sublist.refl _
  · refine (op_append (m := m) (news := news) (j := own0.length + 0) ht hs hx ((AtO.here (l := []) (b := b) (cs := cs) (ty := e) (sz := cap * size)).append own0) rfl hcl hlc hcm hsrc h1 hlen hby).weaken ?_
    rintro v' own' X' ⟨b', cap', rfl, rfl, rfl, hc1, hc2⟩
    refine ⟨own0 ++ [⟨b', cs ++ news, e, cap' * size⟩], _, ⟨_, rfl, rfl, .inr ⟨b', cap', rfl, rfl, hc1, hc2, by simp [hcl, hnl, Nat.add_mul]⟩⟩, ?_, .refl _⟩
    have e1 : (own0 ++ [(⟨b, cs, e, cap * size⟩ : Ow)]).set (own0.length + 0) ⟨b', cs ++ news, e, cap' * size⟩ = own0 ++ [⟨b', cs ++ news, e, cap' * size⟩] := by
      simp
    rw [e1]
    exact List.Sublist.refl _
end
theorem bytesC_append (l m : List Nat) : bytesC (l ++ m) = bytesC l ++ bytesC m := by simp [bytesC]
theorem bytesC_len (l : List Nat) : (bytesC l).length = l.length := by simp [bytesC]
theorem bytesC_one (l : List Nat) : ∀ y ∈ bytesC l, y.oneCell' = true := fun y hy => by
  simp only [bytesC, List.mem_map] at hy
  obtain ⟨b, _, rfl⟩ := hy; rfl
theorem bytesC_at {l : List Nat} {i b : Nat} (h : l[i]? = some b) : (bytesC l)[i]? = some (.int .u8 (b : Int)) := by simp [bytesC, h]
theorem Src.ofBytes {own : Own} {X : PMap} {v : Value} {bs : List Nat} (h : BytesR X v bs) : Src own X v bs.length 1 (bytesC bs) := by
  rcases h with ⟨rfl, A, c, rfl⟩ | ⟨h0, b, c, pre, rfl, hb⟩
  · exact Src.nil
  · have := Src.ofExt (own := own) (m := bs.length) (c := c) (size := 1) (o := pre.length) hb (by rw [List.length_append, bytesC_len]; omega)
    rwa [List.drop_left, List.take_of_length_le (by rw [bytesC_len]; omega)] at this
theorem BytesR.ofS {X : PMap} {v : Value} {bs : List Nat} (h : SliceR X v bs.length (bytesC bs)) : BytesR X v bs := by
  rcases h with ⟨h1, _, A, c, rfl⟩ | ⟨h0, b, c, rfl, hb⟩
  · have : bs = [] := List.eq_nil_of_length_eq_zero h1
    subst this
    exact .inl ⟨rfl, _, _, rfl⟩
  · exact .inr ⟨h0, b, c, [], rfl, hb⟩
theorem bclone_spec {X : PMap} {v : Value} {bs : List Nat} (h : BytesR X v bs) (hl : bs.length < 1000000) : SpecO Tryz.prog 134 [v] X fun u own1 _ => GrowS 5 1 u bs.length (bytesC bs) own1 := by
  obtain ⟨A, cp, rfl⟩ := h.form
  rcases A with _ | ad
  · have hn : bs = [] := by
      rcases h with ⟨h1, _⟩ | ⟨_, b, c, pre, hv, _⟩
      · exact h1
      · cases hv
    subst hn
    refine SpecO.enter Tryz.func134 rfl Tryz.ntmps134 rfl ?_
    intro w0 hw0
    refine T.seq <| T.region <| SL.as rfl <| SL.nil <| T.seq <| T.seq <| T.region <| SL.mv rfl <| SL.v (op_eqlSNil Tryz.underlying44 rfl rfl) <| SL.nil <| T.condT rfl <| T.seq <| T.region <| SL.as rfl <| SL.nil ?_
    refine T.retO1 rfl (ResIs.tmp rfl) ?_
    exact .inl ⟨rfl, rfl, rfl, rfl⟩
  · refine SpecO.enter Tryz.func134 rfl Tryz.ntmps134 rfl ?_
    intro w0 hw0
    refine T.seq <| T.region <| SL.as rfl <| SL.nil <| T.seq <| T.seq <| T.region <| SL.mv rfl <| SL.v (op_eqlSNil Tryz.underlying44 rfl rfl) <| SL.nil <| T.condF rfl <| T.skip <| T.seq <| T.region <| SL.w (op_buildSlice Tryz.underlying44 bs5 (qs := []) rfl rfl rfl rfl rfl) ?_
    rintro _ _ _ ⟨B5, rfl, rfl, rfl⟩
    refine SL.mv rfl <| SL.w (op_append (m := bs.length) (news := bytesC bs) sl44 rfl rfl (by repeat constructor) rfl rfl (Nat.le_refl _) (by decide) (Src.ofBytes h) (bytesC_one bs) (by (have : maxLen = 9223372036854775807 := rfl); omega) (by omega)) ?_
    rintro _ _ _ ⟨b7, cap7, rfl, rfl, rfl, hc7, hm7⟩
    refine SL.as rfl <| SL.nil <| T.retO1 rfl (ResIs.tmp rfl) ?_
    exact .inr ⟨b7, cap7, by rw [Nat.zero_add], rfl, by omega, hm7, by show (bytesC bs).length = _; rw [bytesC_len]; omega⟩
/-- The groups of a number, the last one ahead. -/
def numHi (n : Nat) : List Nat := if n = 0 then [] else numHi (n / 128) ++ [128 + n % 128]
termination_by n
decreasing_by omega
def numB (n : Nat) : List Nat := numHi (n / 128) ++ [n % 128]
theorem numHi_zero : numHi 0 = [] := by rw [numHi]; rfl
theorem numHi_pos {n : Nat} (h : n ≠ 0) : numHi n = numHi (n / 128) ++ [128 + n % 128] := by rw [numHi, if_neg h]
theorem numHi_len : ∀ (k n : Nat), n < 128 ^ k → (numHi n).length ≤ k
  | 0, n, h => by
    have : n = 0 := by simpa using h
    subst this; rw [numHi_zero]; simp
  | k + 1, n, h => by
    by_cases h0 : n = 0
    · subst h0; rw [numHi_zero]; simp
    · rw [numHi_pos h0, List.length_append]
      have := numHi_len k (n / 128) (by rw [Nat.pow_succ] at h; exact Nat.div_lt_of_lt_mul (by rw [Nat.mul_comm]; exact h))
      simp; omega
theorem numB_len {n : Nat} (h : n < 18446744073709551616) : (numB n).length ≤ 10 := by
  have := numHi_len 9 (n / 128) (by omega)
  rw [numB, List.length_append]; simp; omega
theorem numB_pos (n : Nat) : 0 < (numB n).length := by rw [numB, List.length_append]; simp
theorem bset {l : List Nat} {i b : Nat} : (bytesC l).set i (.int .u8 (b : Int)) = bytesC (l.set i b) := by simp [bytesC, List.map_set]
/-- Of these bytes, those before i and those behind j have changed places. -/
def RevI (l m : List Nat) (i j : Nat) : Prop := m.length = l.length ∧ ∀ q, q < l.length → m[q]? = if q < i ∨ j < q then l[l.length - 1 - q]? else l[q]?
theorem RevI.fin {l m : List Nat} {i j : Nat} (h : RevI l m i j) (hij : i + j = l.length - 1) (hi : j ≤ i) : m = l.reverse := by
  apply List.ext_getElem?
  intro q
  rcases Nat.lt_or_ge q l.length with hq | hq
  · rw [h.2 q hq, List.getElem?_reverse hq]
    split
    · rfl
    · have : l.length - 1 - q = q := by omega
      rw [this]
  · rw [List.getElem?_eq_none (by rw [h.1]; omega), List.getElem?_eq_none (by simpa using hq)]
theorem RevI.step {l m : List Nat} {i j x y : Nat} (h : RevI l m i j) (hij : i + j = l.length - 1) (hi : i < j) (h0 : 0 < l.length) (hx : m[i]? = some x) (hy : m[j]? = some y) : RevI l ((m.set i y).set j x) (i + 1) (j - 1) := by
  refine ⟨by simp [h.1], fun q hq => ?_⟩
  have hml := h.1
  have ex : l[i]? = some x := by have := h.2 i (by omega); rw [if_neg (by omega), hx] at this; exact this.symm
  have ey : l[j]? = some y := by have := h.2 j (by omega); rw [if_neg (by omega), hy] at this; exact this.symm
  by_cases e1 : j = q
  · subst e1
    rw [List.getElem?_set_self (by simp; omega), if_pos (by omega), show l.length - 1 - j = i by omega, ex]
  · rw [List.getElem?_set_ne e1]
    by_cases e2 : i = q
    · subst e2
      rw [List.getElem?_set_self (by omega), if_pos (by omega), show l.length - 1 - i = j by omega, ey]
    · rw [List.getElem?_set_ne e2, h.2 q hq]
      by_cases hc : q < i ∨ j < q
      · rw [if_pos hc, if_pos (by omega)]
      · rw [if_neg hc, if_neg (by omega)]
theorem reverse_spec {X : PMap} {b cap : Nat} {l : List Nat} (h0 : 0 < l.length) (hl : l.length < 1000000) (_hc : l.length ≤ cap) : SpecM Tryz.prog 183 [.slice (some ⟨b, 0, none⟩) l.length cap] X [⟨b, bytesC l, 5, cap * 1⟩] fun _ L' _ => L' = [⟨b, bytesC l.reverse, 5, cap * 1⟩] := by
  refine SpecM.enter Tryz.func183 rfl Tryz.ntmps183 rfl ?_
  intro w0 X0 own0
  refine T.perm (own' := ⟨b, bytesC l, 5, cap * 1⟩ :: own0) (List.Perm.refl _) ?_
  refine T.seq <| T.region <| SL.mv rfl <| SL.v (op_lenS Tryz.underlying44 rfl) <| SL.v (op_subN (p := l.length) (q := 1) rfl rfl (by omega) (by omega)) ?_
  refine SL.v (op_assign (v := .int .i64 ((0 : Nat) : Int)) rfl) <| SL.as rfl <| SL.nil <| T.block <| T.loopW (fun m env own X' => ∃ (i j : Nat) (bs : List Nat), m = j - i ∧ i ≤ j + 1 ∧ i + j = l.length - 1 ∧ X.le X' ∧ RevI l bs i j ∧ env = [(0, .slice (some ⟨b, 0, none⟩) l.length cap), (2, .int .i64 (i : Int)), (3, .int .i64 (j : Int))] ∧ own = ⟨b, bytesC bs, 5, cap * 1⟩ :: own0) (l.length - 1) ⟨0, l.length - 1, l, by omega, by omega, by omega, PMap.le_refl _, ⟨rfl, fun q hq => by rw [if_neg (by omega)]⟩, rfl, rfl⟩ (by repeat (first | exact Sub.nil | refine Sub.cons rfl ?_)) ?_
  rintro m _ _ X1 ⟨i, j, bs, rfl, hij, hs, hX1, hR, rfl, rfl⟩
  rcases Nat.lt_or_ge i j with hlt | hge
  · have hbl := hR.1
    obtain ⟨x, hx⟩ : ∃ x, bs[i]? = some x := ⟨_, List.getElem?_eq_getElem (by omega)⟩
    obtain ⟨y, hy⟩ : ∃ y, bs[j]? = some y := ⟨_, List.getElem?_eq_getElem (by omega)⟩
    refine T.seq <| T.seq <| T.region <| SL.mv rfl <| SL.mv rfl <| SL.v (op_lssT rfl rfl (by omega)) ?_
    refine SL.nil <| T.condT rfl <| T.skip <| T.seq <| T.block <| T.drawS 13 (by kernel_rfl) 14 [.t 0, .t 1, .m 2, .m 3, .t 4, .t 5, .t 6, .t 7, .m 8, .m 9, .m 10, .t 11, .t 12, .r 13] (by kernel_rfl) ?_
    refine SD.take rfl panicBody (op_move rfl) rfl rfl ?_
    refine SD.take rfl panicBody (op_move rfl) rfl rfl ?_
    refine SD.takeM rfl panicBody (op_move rfl) rfl rfl ?_
    refine SD.takeM rfl panicBody (op_move rfl) rfl rfl ?_
    refine SD.take rfl panicBody (op_move rfl) rfl rfl ?_
    refine SD.take rfl panicBody (op_move rfl) rfl rfl ?_
    refine SD.take rfl panicBody (op_indexN Tryz.underlying44 ty5 rfl rfl (by omega)) rfl rfl ?_
    refine SD.take rfl panicBody (op_load ty5 rfl (by repeat constructor) (cread1k' (bytesC_at hy) (by omega))) rfl rfl ?_
    refine SD.takeM rfl panicBody (op_move rfl) rfl rfl ?_
    refine SD.takeM rfl panicBody (op_move rfl) rfl rfl ?_
    refine SD.takeM rfl panicBody (op_indexN Tryz.underlying44 ty5 rfl rfl (by omega)) rfl rfl ?_
    refine SD.take rfl panicBody (op_load ty5 rfl (by repeat constructor) (cread1k' (bytesC_at hx) (by omega))) rfl rfl ?_
    refine SD.take rfl panicBody (op_indexN Tryz.underlying44 ty5 rfl rfl (by omega)) rfl rfl ?_
    refine SD.runS rfl (op_store ty5 rfl rfl (by repeat constructor) rfl rfl (Nat.ble_eq_true_of_le (by rw [bytesC_len]; omega))) rfl rfl ?_
    rintro _ _ _ ⟨rfl, rfl⟩
    refine SD.nil ?_
    show SL _ _ _ _ _ _ _ [_, _] _ _ _
    refine SL.v (op_indexN Tryz.underlying44 ty5 rfl rfl (by omega)) ?_
    refine SL.w (op_store ty5 rfl rfl (by repeat constructor) rfl rfl (Nat.ble_eq_true_of_le (by rw [csets_length, bytesC_len]; omega))) ?_
    rintro _ _ _ ⟨rfl, rfl⟩
    refine SL.perm (own' := ⟨b, bytesC ((bs.set i y).set j x), 5, cap * 1⟩ :: own0) (List.Perm.of_eq (by rw [← bset, ← bset]; simp only [Nat.zero_add, Nat.mul_one]; rfl)) ?_
    refine SL.nil <| T.blk <| T.region <| SL.mv rfl <| SL.v (op_addN (q := 1) rfl rfl (by omega)) ?_
    refine SL.mv rfl <| SL.v (op_subN (q := 1) rfl rfl (by omega) (by omega)) ?_
    refine SL.as rfl <| SL.as rfl <| SL.nil ?_
    exact T.backW (j - 1 - (i + 1)) (by omega) ⟨i + 1, j - 1, _, rfl, by omega, by omega, hX1, hR.step hs hlt h0 hx hy, rfl, rfl⟩ (by repeat (first | exact Sub.nil | refine Sub.cons rfl ?_))
  · refine T.seq <| T.seq <| T.region <| SL.mv rfl <| SL.mv rfl <| SL.v (op_lssF rfl rfl (by omega)) ?_
    refine SL.nil <| T.condF rfl ?_
    refine T.exit (T.exitCode (T.exitCut (T.exitBlk ?_)))
    refine T.doneM0 [⟨b, bytesC bs, 5, cap * 1⟩] rfl (List.Perm.refl _) ?_
    exact ⟨hX1, by rw [hR.fin hs hge]⟩
end Go.Proofs.YtnpcilglilfajaaGreatDoor
namespace Go.Proofs.YtnpcilglilfajaaGreatDoor
open Go.RowKit
section
variable {α : Type} {rc : α → List Value}
def RowR (rc : α → List Value) (X : PMap) (v : Value) (rs : List α) : Prop :=
  (rs = [] ∧ ∃ A c, v = .slice A 0 c) ∨ (0 < rs.length ∧ ∃ b c pre, v = .slice (some ⟨b, List.length pre, none⟩) rs.length c ∧ Blk X b (pre ++ (rs.map rc).flatten) ∧ rs.length ≤ c ∧ c ≤ maxLen)
theorem RowR.nil {X : PMap} {A : Option Addr} {c : Nat} : RowR rc X (.slice A 0 c) [] := .inl ⟨rfl, _, _, rfl⟩
theorem RowR.mono {X X' : PMap} {v : Value} {rs : List α} (h : RowR rc X v rs) (hX : X.le X') : RowR rc X' v rs := by
  rcases h with h | ⟨h0, b, c, pre, hv, hb, hc⟩
  · exact .inl h
  · exact .inr ⟨h0, b, c, pre, hv, hb.mono hX, hc⟩
theorem RowR.form {X : PMap} {v : Value} {rs : List α} (h : RowR rc X v rs) : ∃ A cp, v = .slice A rs.length cp := by
  rcases h with ⟨rfl, A, c, rfl⟩ | ⟨_, b, c, pre, rfl, _⟩
  · exact ⟨_, _, rfl⟩
  · exact ⟨_, _, rfl⟩
theorem RowR.blk {X : PMap} {A : Option Addr} {cp len : Nat} {rs : List α} (h : RowR rc X (.slice A len cp) rs) (h0 : 0 < rs.length) : ∃ b pre, A = some ⟨b, List.length pre, none⟩ ∧ Blk X b (pre ++ (rs.map rc).flatten) := by
  rcases h with ⟨rfl, _⟩ | ⟨_, b, c, pre, hv, hb, _⟩
  · simp at h0
  · simp only [Value.slice.injEq] at hv
    exact ⟨b, pre, hv.1, hb⟩
theorem RowR.cap {X : PMap} {A : Option Addr} {cp len : Nat} {rs : List α} (h : RowR rc X (.slice A len cp) rs) (h0 : 0 < rs.length) : rs.length ≤ cp ∧ cp ≤ maxLen := by
  rcases h with ⟨rfl, _⟩ | ⟨_, b, c, pre, hv, hb, h1, h2⟩
  · simp at h0
  · simp only [Value.slice.injEq] at hv
    rw [hv.2.2]; exact ⟨h1, h2⟩
theorem rows_len {sz : Nat} (hrc : ∀ x, (rc x).length = sz) : ∀ rs : List α, ((rs.map rc).flatten).length = rs.length * sz
  | [] => by simp
  | r :: rs => by
    rw [List.map_cons, List.flatten_cons, List.length_append, hrc, rows_len hrc rs, List.length_cons, Nat.succ_mul]; omega
theorem rows_drop {sz : Nat} (hrc : ∀ x, (rc x).length = sz) : ∀ {rs : List α} {k : Nat}, k ≤ rs.length → ((rs.map rc).flatten).drop (k * sz) = ((rs.drop k).map rc).flatten
  | rs, 0, _ => by simp
  | [], k + 1, h => by simp at h
  | r :: rs, k + 1, h => by
    rw [List.map_cons, List.flatten_cons, List.drop_succ_cons, ← rows_drop hrc (rs := rs) (k := k) (by simpa using h), show (k + 1) * sz = (rc r).length + k * sz by rw [hrc, Nat.succ_mul]; omega]
    rw [List.drop_append, List.drop_eq_nil_of_le (by omega), List.nil_append, Nat.add_sub_cancel_left]
/-- A whole row, read. -/
theorem row_read {sz : Nat} (hrc : ∀ x, (rc x).length = sz) {rs : List α} {k k' : Nat} {r : α} {pre : List Value} (he : rs[k]? = some r) (e : k' = pre.length + k * sz) : cread true sz (pre ++ (rs.map rc).flatten) k' = some (.agg (rc r).toArray) := by
  subst e
  obtain ⟨h1, h2⟩ := List.getElem?_eq_some_iff.1 he
  have hl := rows_len hrc rs
  have hm : k * sz + sz ≤ rs.length * sz := by
    have := Nat.mul_le_mul_right sz (show k + 1 ≤ rs.length from h1)
    rw [Nat.succ_mul] at this; exact this
  have hd : ((pre ++ (rs.map rc).flatten).drop (pre.length + k * sz)) = rc r ++ ((rs.drop (k + 1)).map rc).flatten := by
    rw [List.drop_append, List.drop_eq_nil_of_le (by omega), List.nil_append, Nat.add_sub_cancel_left, rows_drop hrc (by omega), List.drop_eq_getElem_cons h1, h2, List.map_cons, List.flatten_cons]
  unfold cread
  rw [show Nat.ble (pre.length + k * sz + sz) (pre ++ (rs.map rc).flatten).length = true from Nat.ble_eq_true_of_le (by rw [List.length_append, hl]; omega)]
  simp only [cond_true, hd]
  rw [List.take_append_of_le_length (by rw [hrc]; exact Nat.le_refl _), List.take_of_length_le (by rw [hrc]; exact Nat.le_refl _)]
/-- One cell of a row. -/
theorem row_cell {sz : Nat} (hrc : ∀ x, (rc x).length = sz) {rs : List α} {k k' j : Nat} {r : α} {pre : List Value} {v : Value} (he : rs[k]? = some r) (hj : (rc r)[j]? = some v) (e : k' = pre.length + k * sz + j) : cread false 1 (pre ++ (rs.map rc).flatten) k' = some v := by
  subst e
  obtain ⟨h1, h2⟩ := List.getElem?_eq_some_iff.1 he
  have hjl : j < sz := by have := (List.getElem?_eq_some_iff.1 hj).1; rwa [hrc] at this
  show (pre ++ (rs.map rc).flatten)[pre.length + k * sz + j]? = some v
  rw [List.getElem?_append_right (by omega), show pre.length + k * sz + j - pre.length = k * sz + j by omega, ← List.getElem?_drop, rows_drop hrc (by omega), List.drop_eq_getElem_cons h1, h2, List.map_cons, List.flatten_cons, List.getElem?_append_left (by rw [hrc]; exact hjl)]
  exact hj
/-- The first of these rows. -/
theorem RowR.take {X : PMap} {A : Option Addr} {cp sz : Nat} {rs : List α} (h : RowR rc X (.slice A rs.length cp) rs) {k : Nat} (hk : k ≤ rs.length) : RowR rc X (.slice (slA A cp 0 sz) k cp) (rs.take k) := by
  rcases Nat.eq_zero_or_pos k with rfl | h0
  · exact .inl ⟨by simp, _, _, rfl⟩
  · obtain ⟨b, pre, rfl, hB⟩ := h.blk (by omega)
    obtain ⟨hc, hm⟩ := h.cap (by omega)
    have hcp : cp ≠ 0 := by omega
    refine .inr ⟨by simp; omega, b, cp, pre, ?_, ?_, by rw [List.length_take]; omega, hm⟩
    · rw [slA, if_neg hcp, List.length_take, Nat.min_eq_left hk]; simp [Addr.add]
    · obtain ⟨rest, ty, fr, hx⟩ := hB
      refine ⟨((rs.drop k).map rc).flatten ++ rest, ty, fr, ?_⟩
      have e : (rs.map rc).flatten = ((rs.take k).map rc).flatten ++ ((rs.drop k).map rc).flatten := by rw [← List.flatten_append, ← List.map_append, List.take_append_drop]
      rw [hx, e]
      simp
end
end Go.Proofs.YtnpcilglilfajaaGreatDoor
namespace Go.Proofs.YtnpcilglilfajaaGreatDoor
open Go.ChangeShapes Go.WideShapes Go.ChangeAt Go.RowKit Go.Joins Go.Deep
/-- All blocks of a world. -/
def heapX (W : World) : PMap := fun k => W.heap[k]?
theorem heapX_in (W : World) : PIn (heapX W) W := fun _ _ h => h
theorem blk_of_cells {W : World} {b o : Nat} {cs : List Value} (h0 : 0 < cs.length) (h : ∀ i v, cs[i]? = some v → W.cell? ⟨b, o + i, none⟩ = some v) : ∃ pre, pre.length = o ∧ Blk (heapX W) b (pre ++ cs) := by
  have h1 := h 0 cs[0] (by simp)
  unfold World.cell? at h1
  cases hb : W.heap[b]? with
  | none => rw [hb] at h1; cases h1
  | some x =>
    cases x with
    | cells c ty fr =>
      have hget : ∀ i v, cs[i]? = some v → c[o + i]? = some v := fun i v hv => by
        have := h i v hv
        simp only [World.cell?, hb] at this
        simpa using this
      have ho : o < c.size := by
        have := hget 0 cs[0] (by simp)
        rw [Nat.add_zero] at this
        exact (Array.getElem?_eq_some_iff.1 this).1
      refine ⟨c.toList.take o, by simp; omega, c.toList.drop (o + cs.length), ty, fr, ?_⟩
      unfold heapX
      rw [hb]
      congr 2
      apply Array.toList_inj.1
      apply List.ext_getElem?
      intro k
      simp only [List.append_assoc]
      have hto : (c.toList.take o).length = o := by simp; omega
      rcases Nat.lt_or_ge k o with hk | hk
      · rw [List.getElem?_append_left (by simpa [hto] using hk), List.getElem?_take, if_pos hk]
      · rw [List.getElem?_append_right (by simpa [hto] using hk)]
        simp only [hto]
        rcases Nat.lt_or_ge (k - o) cs.length with hk2 | hk2
        · rw [List.getElem?_append_left hk2, List.getElem?_eq_getElem hk2]
          have := hget (k - o) cs[k - o] (List.getElem?_eq_getElem hk2)
          rw [show o + (k - o) = k by omega] at this
          simpa using this
        · rw [List.getElem?_append_right hk2, List.getElem?_drop]
          congr 1
          omega
    | _ => rw [hb] at h1; cases h1
theorem cells5 : Tryz.prog.cellsOf 5 = 1 := by kernel_rfl
section
variable {H : Type} {enc : TypeId × Value → H} {P : Program}
/-- What a list of arguments reads is read the same behind a call. -/
theorem trodAll_stays {W W' : World} {sp' : Nat → Bool} (hl : laidOutB P = true) : ∀ (ts : List TypeId) (vs : List Value) (ds : List (DataW H)) (ps : List MemPlace), (∀ t ∈ ts, P.readableRec t = true ∧ t < P.types.size) →
    DataW.TrodAll enc P W 0 (fun _ => true) true ts vs ds ps → (∀ p ∈ ps, W.sameAt W' p) → (∀ p ∈ ps, sp' p.block = true) → DataW.TrodAll enc P W' 0 sp' true ts vs ds ps
  | [], vs, ds, ps, _, h, _, _ => by
    obtain ⟨rfl, rfl, rfl⟩ := trodAll_nil h
    exact trodAll_mk0
  | t :: ts, vs, ds, ps, ht, h, hs, hsp => by
    obtain ⟨v, vs', d, ds', p, q, rfl, rfl, rfl, h0, r0⟩ := trodAll_cons h
    obtain ⟨h1, h2⟩ := ht t (by simp)
    exact trodAll_cons_mk (Go.WideElems.Trod_stays hl h1 h2 h0 (fun x hx => hs x (by simp [hx])) (fun x hx => hsp x (by simp [hx]))) (trodAll_stays hl ts vs' ds' q (fun t ht' => ht t (by simp [ht'])) r0 (fun x hx => hs x (by simp [hx])) (fun x hx => hsp x (by simp [hx])))
theorem same_below {W W' : World} (hB : Below W.heap.size W W') {p : MemPlace} (h : p.block < W.heap.size) : W.sameAt W' p := by
  cases p with
  | cell b off => exact hB.cell (p := ⟨b, off, none⟩) h
  | map b => exact hB.block b h
/-- A law's last step: it has returned true, and every argument reads as before. -/
theorem law_post {f : Func} {s : ChangeSpec} {W W' : World} {args : Array Value} {ds gs : List (DataW H)} {before : List MemPlace} {t : TypeId}
    (hW : DataW.Whole enc P f.params.toList s.vars false W args.toList ds gs before) (hA : DataW.TrodAll enc P W 0 (fun _ => true) true f.params.toList args.toList ds before) (hl : laidOutB P = true) (hts : ∀ t ∈ f.params.toList, P.readableRec t = true ∧ t < P.types.size)
    (hv : s.vars = []) (hrt : f.resultTypes = #[t]) (hb : P.underlying t = some .bool)
    (hfn : (s.fn H (ds ++ gs)).results = [.lit (.bool true)]) (hfa : (s.fn H (ds ++ gs)).args = ds) (hfv : (s.fn H (ds ++ gs)).vars = []) (hB : Below W.heap.size W W') :
    s.post enc P f false true false false W args (.bool true) W' := by
  have hlt : ∀ p ∈ before, p.block < W.heap.size := fun p hp => hW.lt p hp
  have hold : ∀ p ∈ before, (fun b => decide (b < W.heap.size)) p.block = true := fun p hp => by simpa using hlt p hp
  have hres : ∀ (b : Nat) (sp : Nat → Bool) (hd : Bool), DataW.TrodAll enc P W' b sp hd f.resultTypes.toList ((Value.bool true).resultList f.resultTypes.size) (s.fn H (ds ++ gs)).results [] := fun b sp hd => by
    rw [hrt, hfn]
    exact trodAll_cons_mk (shut_bool hb _) trodAll_mk0
  have hargs' : ∀ sp : Nat → Bool, (∀ p ∈ before, sp p.block = true) → DataW.TrodAll enc P W' 0 sp true f.params.toList args.toList (s.fn H (ds ++ gs)).args before := by
    rw [hfa]
    exact fun sp hsp => trodAll_stays hl _ _ _ _ hts hA (fun p hp => same_below hB (hlt p hp)) hsp
  have hvars : ∀ sp : Nat → Bool, DataW.TrodVars enc P W' sp s.vars (s.fn H (ds ++ gs)).vars [] := fun sp => by rw [hv, hfv]; rfl
  refine ⟨ds, gs, before, [], before, [], hW, hres _ _ _, hargs' _ hold, hvars _, World.keptBut_mono (fun p hp => ⟨hp, Or.inr (by simpa using hp)⟩) (hB.frame (· ∈ before)), fun hh => by cases hh⟩
theorem exists_list {α : Type} {p : Nat → α → Prop} : ∀ n : Nat, (∀ i, i < n → ∃ x, p i x) → ∃ l : List α, l.length = n ∧ ∀ i x, l[i]? = some x → p i x
  | 0, _ => ⟨[], rfl, fun i x h => by cases h⟩
  | n + 1, h => by
    obtain ⟨l, hl, hp⟩ := exists_list n fun i hi => h i (by omega)
    obtain ⟨x, hx⟩ := h n (by omega)
    refine ⟨l ++ [x], by simp [hl], fun i y hy => ?_⟩
    rcases Nat.lt_or_ge i l.length with hi | hi
    · rw [List.getElem?_append_left hi] at hy; exact hp i y hy
    · rw [List.getElem?_append_right hi] at hy
      have h0 : i - l.length = 0 := by
        have := (List.getElem?_eq_some_iff.1 hy).1
        simp at this; omega
      rw [h0] at hy
      obtain rfl : x = y := by simpa using hy
      rw [show i = n by omega]; exact hx
theorem flat_at {α : Type} {sz : Nat} : ∀ {css : List (List α)} {q : Nat} {v : α}, (∀ c ∈ css, c.length = sz) → 0 < sz → css.flatten[q]? = some v → ∃ c, css[q / sz]? = some c ∧ c[q % sz]? = some v
  | [], q, v, _, _, h => by simp at h
  | c :: css, q, v, hc, h0, h => by
    have hl := hc c (by simp)
    rw [List.flatten_cons] at h
    rcases Nat.lt_or_ge q sz with hq | hq
    · rw [List.getElem?_append_left (by omega)] at h
      exact ⟨c, by rw [Nat.div_eq_of_lt hq]; rfl, by rw [Nat.mod_eq_of_lt hq]; exact h⟩
    · rw [List.getElem?_append_right (by omega), hl] at h
      obtain ⟨c', h1, h2⟩ := flat_at (fun x hx => hc x (by simp [hx])) h0 h
      refine ⟨c', ?_, ?_⟩
      · rw [show q / sz = (q - sz) / sz + 1 from by rw [Nat.div_eq_sub_div h0 hq]]; exact h1
      · rw [Nat.mod_eq_sub_mod hq]; exact h2
theorem cell_spot {W : World} {a : Addr} {u : Value} (h : W.cell? a = some u) : a.spot = none := by
  unfold World.cell? at h
  split at h
  · split at h
    · cases h
    · rename_i hs; simpa using hs
  · cases h
/-- A slice of rows, opened: its elements' cells lie in one block. -/
theorem open_rows {W : World} {t e : TypeId} {sz : Nat} {α : Type} {rc : α → List Value} {ok : α → Prop} (ht : P.underlying t = some (.slice e)) (hc : P.cellsOf e = sz) (h0 : 0 < sz) (hrc : ∀ x, (rc x).length = sz)
    (hel : ∀ {n : Nat} {cs : List Value} {y : DataW H × List MemPlace}, cs.length = sz → DataW.trod enc P W 0 (fun _ => true) true n e cs = some y → ∃ x, cs = rc x ∧ ok x)
    {v : Value} {d : DataW H} {p : List MemPlace} (hval : ∃ A len cap, v = .slice A len cap) (h : DataW.Trod enc P W 0 (fun _ => true) true t v d p) :
    ∃ (rs : List α), (∀ r ∈ rs, ok r) ∧ RowR rc (heapX W) v rs := by
  obtain ⟨A, len, cap, rfl⟩ := hval
  obtain ⟨fuel, hf⟩ := h
  rcases open_slice ht hf with ⟨hcs, _⟩ | ⟨a, len', cap', m, n, D, Pl, hcs, hb, hl, hm, hmm, hx, hcell⟩
  · obtain ⟨rfl, rfl, rfl⟩ : A = none ∧ len = 0 ∧ cap = 0 := by simpa [Value.cells] using hcs
    exact ⟨[], by simp, .inl ⟨rfl, _, _, rfl⟩⟩
  · obtain ⟨rfl, rfl, rfl⟩ : A = some a ∧ len = len' ∧ cap = cap' := by simpa [Value.cells] using hcs
    simp only [if_true] at hmm
    subst hmm
    rcases Nat.eq_zero_or_pos len with hz | hz
    · subst hz
      exact ⟨[], by simp, .inl ⟨rfl, _, _, rfl⟩⟩
    obtain ⟨rs, hrl, hrs⟩ := exists_list (p := fun i x => ok x ∧ W.cells? 0 (a.add (i * sz)) sz = some (rc x)) len (fun i hi => by
      obtain ⟨cs', h1, h2⟩ := hcell i (by omega)
      rw [hc] at h1
      obtain ⟨_, h4, _⟩ := World.cells?_some h1
      obtain ⟨x, h3, h5⟩ := hel h4 h2
      exact ⟨x, h5, by rw [← h3]; exact h1⟩)
    have hok : ∀ r ∈ rs, ok r := fun r hr => by
      obtain ⟨i, hi, hx⟩ := List.getElem_of_mem hr
      exact (hrs i r (by rw [List.getElem?_eq_getElem hi, hx])).1
    have hspot : a.spot = none := by
      have hr0 : rs[0]? = some rs[0] := List.getElem?_eq_getElem (by omega)
      obtain ⟨o1, o2⟩ := hrs 0 _ hr0
      obtain ⟨_, _, h3⟩ := World.cells?_some o2
      have h4 := cell_spot ((h3 0 h0).trans (List.getElem?_eq_getElem (by rw [hrc]; exact h0)))
      simpa [Addr.add] using h4
    obtain ⟨ab, ao, asp⟩ := a
    obtain rfl : asp = none := hspot
    have hcl : ∀ c ∈ rs.map rc, c.length = sz := fun c hc => by
      obtain ⟨x, _, rfl⟩ := List.mem_map.1 hc; exact hrc x
    have hfl : (rs.map rc).flatten.length = rs.length * sz := by
      rw [List.length_flatten, List.map_map, show (List.length ∘ rc) = fun _ => sz from funext hrc]
      rw [List.map_const', List.sum_replicate_nat]
    obtain ⟨pre, hpre, hB⟩ := blk_of_cells (W := W) (b := ab) (o := ao) (cs := (rs.map rc).flatten) (by rw [hfl]; exact Nat.mul_pos (by omega) h0) (fun i v hv => by
      obtain ⟨c, h1, h2⟩ := flat_at hcl h0 hv
      rw [List.getElem?_map] at h1
      cases hq : rs[i / sz]? with
      | none => rw [hq] at h1; cases h1
      | some x =>
        rw [hq] at h1
        obtain rfl : rc x = c := by simpa using h1
        obtain ⟨_, o2⟩ := hrs _ _ hq
        obtain ⟨_, _, h3⟩ := World.cells?_some o2
        have h4 := h3 (i % sz) (Nat.mod_lt _ h0)
        rw [h2, Addr.add_mid, Addr.add_mid] at h4
        have e : ao + i / sz * sz + i % sz = ao + i := by
          have := Nat.div_add_mod i sz
          rw [Nat.mul_comm] at this
          omega
        rw [e] at h4
        exact h4)
    exact ⟨rs, hok, .inr ⟨by omega, ab, _, pre, by rw [hpre, hrl], hB, by omega, by omega⟩⟩
end
/-- The table of math/bits. -/
theorem gTab64 : Tryz.prog.globalNamed "math/bits.deBruijn64tab" = some 0 := by kernel_rfl
theorem gTab64T : (Tryz.prog.globals[0]?).map (·.type) = some 254 := by kernel_rfl
theorem cells133 : Tryz.prog.cellsOf 254 = 64 := by kernel_rfl
theorem tab_of {W : World} {x y : String × DataW Unit} (h : laidMet Tryz.prog [x, ("math/bits.deBruijn64tab", Rows.laid_math_bits_deBruijn64tab), y] W) : Tab (heapX W) := by
  have ht : Lib.TabIs Tryz.prog W "math/bits.deBruijn64tab" .u8 (tab64.map fun (i : Nat) => (i : Int)) := Lib.tabIs_of_head gTab64 gTab64T Tryz.underlying254 Tryz.underlying5 cells5 cells133 h.tail
  obtain ⟨pre, hpre, hB⟩ := blk_of_cells (W := W) (b := 0) (o := 0) (cs := tab64.map fun (i : Nat) => .int .u8 (i : Int)) (by decide) (fun i v hv => by
    have hi := (List.getElem?_eq_some_iff.1 hv).1
    have := ht.cell gTab64 i (by simpa using hi)
    rw [Nat.zero_add, this, ← hv]
    simp only [List.length_map] at hi
    simp [List.getD, hi])
  obtain rfl : pre = [] := List.eq_nil_of_length_eq_zero hpre
  exact hB
theorem own : ownKnob Tryz.prog.godebug = none := by kernel_rfl
/-- What a list of data lays in cells: whole numbers. -/
def litCells : DataW Unit → Array Value
  | .agg l => (l.map fun d => match d with | .lit (.int k n) => Value.int k n | _ => undef).toArray
  | _ => #[]
def layAt (w : World) (g : Nat) (d : DataW Unit) : World :=
  { w with heap := w.heap.modify g fun
      | .cells _ t frozen => .cells (litCells d) t frozen
      | o => o }
/-- A world for the witness: the tables hold what their initialisers lay. -/
noncomputable def laidWorld (os : Os) : World :=
  layAt (layAt (layAt (World.holding Tryz.prog os ⟨#[], #[], []⟩) 2 Rows.laid_math_bits_deBruijn32tab) 0 Rows.laid_math_bits_deBruijn64tab) 1 Rows.laid_internal_strconv_uint64pow10
theorem laid_out : laidOutB Tryz.prog = true := by kernel_rfl
end Go.Proofs.YtnpcilglilfajaaGreatDoor
namespace Go.Proofs.YtnpcilglilfajaaGreatDoor
open Go.RowKit
section
variable {ro : Option Nat} {P : Program} {n : NM} {w0 : Base} {X0 X : PMap} {own : Own} {env : Env} {fn : Func} {Φ : Value → Own → PMap → Prop}
theorem T.retM0 {k : List It} {s : Nat} {own0 : Own} (L' : Own) (hr : fn.results = #[]) (hp : own.Perm (L' ++ own0)) (hΦ : Φ (.tuple #[]) L' X) : T ro P ⟨s, []⟩ w0 X0 (bodyQ P fn (FinM w0 X0 own0 Φ)) (.code .ret :: k) none env own X := T.retM (fun _ _ _ _ => run_results0 hr) hp hΦ
/-- A result that lies in a block of the call's own, which is left behind. -/
theorem T.retM1S {k : List It} {s : Nat} {own0 : Own} (L' mid : Own) {r : ResultVar} {v : Value} (hr : fn.results = #[r]) (h : ResIs P env own r v) (hm : mid.Sublist own) (hp : mid.Perm (L' ++ own0)) (hΦ : Φ v L' X) : T ro P ⟨s, []⟩ w0 X0 (bodyQ P fn (FinM w0 X0 own0 Φ)) (.code .ret :: k) none env own X :=
  fun a W ha hs => runL_ret (by
    show LeavesInM (FR none) DEP P fn a.tmps _ a.defers .returning W
    rw [ha.defers]
    exact ⟨v, run_results1 hr h ha hs.stab, v, L', X, rfl, (hs.sub hm).perm hp, hΦ⟩)
theorem SD.perm {ops : Array Oper} {Q : Exit → Act → World → Prop} {nh : Nat} {st : Option Nat} {ownS own' : Own} {XS : PMap} {pl : List Pl} (hp : own.Perm own') (h : SD ro P n w0 X0 ops Q nh st ownS XS pl env own' X) : SD ro P n w0 X0 ops Q nh st ownS XS pl env own X :=
  fun listed a W h1 h2 h3 h4 h5 h6 hs hst => h listed a W h1 h2 h3 h4 h5 h6 (hs.perm hp) hst
/-- What the branches of a code have in common. -/
theorem T.meet {Q : Exit → Act → World → Prop} {c : Code} {k : List It} (J : Fam) (h1 : T ro P n w0 X0 Q (.code c :: backTo n w0 X0 J 1 :: k) none env own X) (h2 : ∀ m env own X, J m env own X → T ro P n w0 X0 Q k none env own X) : T ro P n w0 X0 Q (.code c :: k) none env own X := by
  intro a W ha hs
  refine runL_code (Code.wpIn_mono (fun e a w h => ?_) (runL_code_iff.1 (h1 a W ha hs)))
  cases e with
  | normal =>
    obtain ⟨m', _, env', own', X', hI, ha', hs'⟩ := h
    exact h2 m' env' own' X' hI a w ha' hs'
  | exit id => exact h
  | _ => exact h
theorem Src.zero {v : Value} {size : Nat} {news : List Value} (h : Src own X v 0 size news) : news = [] ∧ ∃ A c, v = .slice A 0 c := by
  obtain ⟨h1, A, c, rfl, _⟩ := h
  exact ⟨List.eq_nil_of_length_eq_zero (by simpa using h1), A, c, rfl⟩
theorem OpY.toX {o : Op} {v : Value} (hn : noDefer o = true) (h : OpY P n env own X o v) : OpX P n w0 X0 env own X o false fun v' own' X' => v' = v ∧ own' = own ∧ X' = X := by
  intro a W oper K Q ro hop ha hs hK
  exact wp_value (noDefer_spec (by rw [hop]; exact hn)) (h a W _ hop ha hs.stab) (hK _ _ _ _ ⟨rfl, rfl, rfl⟩ hs fun h => by cases h)
/-- An empty slice is laid. -/
theorem op_build0 {t e : TypeId} {size : Nat} {zs : List Value} (ht : P.underlying t = some (.slice e)) (he : ∃ i z, P.info? e = some i ∧ i.size = size ∧ i.zero = some z ∧ z.cells = zs.toArray) (hz : zs.length = size) :
    OpX P n w0 X0 env own X (.buildSlice t 0 #[]) true fun v own' X' => ∃ b, v = .slice (some ⟨b, 0, none⟩) 0 0 ∧ own' = ⟨b, [], e, 0⟩ :: own ∧ X = X' :=
  op_buildSlice (size := size) (qs := []) ht he rfl (by simp [Nat.ble]) (by simp [bfill]) hz rfl
/-- append of a slice onto an empty one. -/
theorem op_append0 {t e : TypeId} {s x : Operand} {b j m size bytes : Nat} {news : List Value} {u : Value} (ht : SlT P t e size bytes) (hs : eev env s = some (.slice (some ⟨b, 0, none⟩) 0 0)) (hx : eev env x = some u)
    (ho : AtO own b [] e 0 j) (hsrc : Src own X u m size news) (h1 : ∀ y ∈ news, y.oneCell' = true) (h63 : m ≤ maxLen) (hby : m * bytes ≤ 140737488355328) :
    OpX P n w0 X0 env own X (.call { callee := .builtin .append, args := #[s, x], argTypes := #[t, t] }) false fun v own' X' => ∃ b' cap', v = .slice (some ⟨b', 0, none⟩) m cap' ∧ own' = own.set j ⟨b', news, e, cap' * size⟩ ∧ X = X' ∧ m ≤ cap' ∧ cap' ≤ maxLen := by
  have := op_append (P := P) (n := n) (env := env) (own := own) (X := X) (w0 := w0) (X0 := X0) (q := 0) (cap := 0) (sz := 0) (cs := []) ht hs hx ho (by simp) (by simp) (Nat.zero_le _) (Nat.zero_le _) hsrc h1 (by omega) (by simpa using hby)
  simpa using this
/-- append of a slice, empty or not, onto what has grown. -/
theorem op_appendGA {t e : TypeId} {s x : Operand} {v u : Value} {len m size bytes : Nat} {cs news : List Value} {own0 G : Own} (ht : SlT P t e size bytes) (hs : eev env s = some v) (hg : GrowS e size v len cs G) (hx : eev env x = some u)
    (hsrc : Src (own0 ++ G) X u m size news) (h1 : ∀ y ∈ news, y.oneCell' = true) (hlen : len + m ≤ maxLen) (hby : (len + m) * bytes ≤ 140737488355328) :
    OpX P n w0 X0 env (own0 ++ G) X (.call { callee := .builtin .append, args := #[s, x], argTypes := #[t, t] }) false fun v' own' X' => ∃ G', own' = own0 ++ G' ∧ X = X' ∧ GrowS e size v' (len + m) (cs ++ news) G' := by
  rcases Nat.eq_zero_or_pos m with rfl | hm
  · obtain ⟨rfl, A, c, rfl⟩ := hsrc.zero
    rcases hg with ⟨rfl, rfl, rfl, rfl⟩ | ⟨b, cap, rfl, rfl, hlc, hcm, hcl⟩
    · refine (OpY.toX rfl (op_appendNil0 ht hs hx)).weaken ?_
      rintro v' own' X' ⟨rfl, rfl, rfl⟩
      exact ⟨own0 ++ [], own0 ++ [], ⟨[], rfl, rfl, by simpa using GrowS.nil⟩, List.Sublist.refl _, .refl _⟩
    · refine (op_append (m := 0) (news := []) (j := own0.length + 0) ht hs hx ((AtO.here (l := []) (b := b) (cs := cs) (ty := e) (sz := cap * size)).append own0) rfl hcl hlc hcm hsrc h1 hlen hby).weaken ?_
      rintro v' own' X' ⟨b', cap', rfl, rfl, rfl, hc1, hc2⟩
      refine ⟨own0 ++ [⟨b', cs ++ [], e, cap' * size⟩], _, ⟨_, rfl, rfl, .inr ⟨b', cap', rfl, rfl, hc1, hc2, by simp [hcl]⟩⟩, ?_, .refl _⟩
      have e1 : (own0 ++ [(⟨b, cs, e, cap * size⟩ : Ow)]).set (own0.length + 0) ⟨b', cs ++ [], e, cap' * size⟩ = own0 ++ [⟨b', cs ++ [], e, cap' * size⟩] := by
        simp
      rw [e1]
      exact List.Sublist.refl _
  · exact op_appendGM ht hs hg hx hsrc hm h1 hlen hby
/-- Rows as a source. -/
theorem Src.ofRow {α : Type} {rc : α → List Value} {sz : Nat} (hrc : ∀ x, (rc x).length = sz) {v : Value} {rs : List α} (h : RowR rc X v rs) : Src own X v rs.length sz ((rs.map rc).flatten) := by
  rcases h with ⟨rfl, A, c, rfl⟩ | ⟨h0, b, c, pre, rfl, hB, _⟩
  · exact Src.nil
  · have hl := rows_len hrc rs
    have := Src.ofExt (own := own) (m := rs.length) (c := c) (size := sz) (o := pre.length) hB (by rw [List.length_append, hl]; omega)
    rwa [List.drop_left, List.take_of_length_le (by rw [hl]; omega)] at this
end
/-- Rows from the place k on. -/
theorem RowR.drop {α : Type} {rc : α → List Value} {X : PMap} {A : Option Addr} {cp sz : Nat} (hrc : ∀ x, (rc x).length = sz) {rs : List α} (h : RowR rc X (.slice A rs.length cp) rs) {k : Nat} (hk : k ≤ rs.length) : RowR rc X (.slice (slA A cp k sz) (rs.length - k) (cp - k)) (rs.drop k) := by
  rcases Nat.eq_or_lt_of_le hk with rfl | h0
  · exact .inl ⟨by simp, _, _, by rw [Nat.sub_self]⟩
  · obtain ⟨b, pre, rfl, hB⟩ := h.blk (by omega)
    obtain ⟨hc, hm⟩ := h.cap (by omega)
    refine .inr ⟨by simp; omega, b, cp - k, pre ++ ((rs.take k).map rc).flatten, ?_, ?_, by rw [List.length_drop]; omega, by omega⟩
    · rw [slA, if_neg (by omega), List.length_append, rows_len hrc, List.length_take, Nat.min_eq_left hk, List.length_drop]; simp [Addr.add]
    · rwa [List.append_assoc, ← List.flatten_append, ← List.map_append, List.take_append_drop]
end Go.Proofs.YtnpcilglilfajaaGreatDoor
namespace Go.Proofs.YtnpcilglilfajaaGreatDoor
open Go.RowKit
section
variable {P : Program} {n : NM} {own : Own} {X : PMap} {env : Env} {t t' : TypeId} {x y : Operand} {s s' : ByteArray}
theorem str_ext {a b : ByteArray} (h : a.toList = b.toList) : a = b := by
  rw [ByteArray.toList_eq, ByteArray.toList_eq] at h
  exact ByteArray.ext (Array.toList_inj.mp h)
theorem str_beq : (s.toList == s'.toList) = decide (s = s') := by
  rw [Bool.eq_iff_iff, beq_iff_eq, decide_eq_true_eq]
  exact ⟨str_ext, fun h => by rw [h]⟩
theorem op_addStr (hx : eev env x = some (.string s)) (hy : eev env y = some (.string s')) (h : s.size + s'.size ≤ 9223372036854775807) : OpY P n env own X (.binOp .add t x y t') (.string (s ++ s')) := by
  intro a W oper hop ha _
  have h0 : ∀ (e : BinOp) (u v : Operand), eqGuard e t u v (.string s) (.string s') = pure () := fun e u v => by cases e <;> rfl
  have h1 : ¬(((s.size + s'.size : Nat) : Int) > IntKind.i64.max) := by
    have : IntKind.i64.max = 9223372036854775807 := rfl
    omega
  have h2 : (Op.stringOp .add s s').run P W = .ok (.string (s ++ s')) W := by simp only [Op.stringOp, if_neg h1, Sem.run_pure]
  simp only [execOp, hop, ha.eval hx, ha.eval hy, binOp, h0, Sem.run_bind, Sem.run_pure, Result.andThen_ok, h2]
theorem op_lssStr (hx : eev env x = some (.string s)) (hy : eev env y = some (.string s')) : OpY P n env own X (.binOp .lss t x y t') (.bool (Op.bytesLess s.toList s'.toList)) := by
  intro a W oper hop ha _
  have h0 : ∀ (e : BinOp) (u v : Operand), eqGuard e t u v (.string s) (.string s') = pure () := fun e u v => by cases e <;> rfl
  have h2 : (Op.stringOp .lss s s').run P W = .ok (.bool (Op.bytesLess s.toList s'.toList)) W := by simp [Op.stringOp]
  simp only [execOp, hop, ha.eval hx, ha.eval hy, binOp, h0, Sem.run_bind, Sem.run_pure, Result.andThen_ok, h2]
theorem op_eqlStrD (hx : eev env x = some (.string s)) (hy : eev env y = some (.string s')) : OpY P n env own X (.binOp .eql t x y t') (.bool (decide (s = s'))) := by
  intro a W oper hop ha _
  have h0 : ∀ (e : BinOp) (u v : Operand), eqGuard e t u v (.string s) (.string s') = pure () := fun e u v => by cases e <;> rfl
  have h2 : (Op.stringOp .eql s s').run P W = .ok (.bool (decide (s = s'))) W := by simp [Op.stringOp, str_beq]
  simp only [execOp, hop, ha.eval hx, ha.eval hy, binOp, h0, Sem.run_bind, Sem.run_pure, Result.andThen_ok, h2]
theorem op_neqStrD (hx : eev env x = some (.string s)) (hy : eev env y = some (.string s')) : OpY P n env own X (.binOp .neq t x y t') (.bool (!decide (s = s'))) := by
  intro a W oper hop ha _
  have h0 : ∀ (e : BinOp) (u v : Operand), eqGuard e t u v (.string s) (.string s') = pure () := fun e u v => by cases e <;> rfl
  have h2 : (Op.stringOp .neq s s').run P W = .ok (.bool (!decide (s = s'))) W := by simp [Op.stringOp, str_beq]
  simp only [execOp, hop, ha.eval hx, ha.eval hy, binOp, h0, Sem.run_bind, Sem.run_pure, Result.andThen_ok, h2]
end
instance memDec (s : ByteArray) : (l : List ByteArray) → Decidable (s ∈ l)
  | [] => .isFalse (by simp)
  | t :: l => have := memDec s l; decidable_of_iff (s = t ∨ s ∈ l) List.mem_cons.symm
/-- The order of strings. -/
def ltS (a b : ByteArray) : Bool := Op.bytesLess a.toList b.toList
theorem bl_irr : ∀ a : List UInt8, Op.bytesLess a a = false
  | [] => rfl
  | x :: a => by simp [Op.bytesLess, bl_irr a]
theorem bl_tot : ∀ a b : List UInt8, Op.bytesLess a b = false → Op.bytesLess b a = false → a = b
  | [], [], _, _ => rfl
  | [], _ :: _, h, _ => by simp [Op.bytesLess] at h
  | _ :: _, [], _, h => by simp [Op.bytesLess] at h
  | x :: a, y :: b, h1, h2 => by
    simp only [Op.bytesLess, Bool.or_eq_false_iff, decide_eq_false_iff_not, Bool.and_eq_false_iff, beq_eq_false_iff_ne] at h1 h2
    have e : x = y := UInt8.toNat_inj.1 (by
      have := mt UInt8.lt_iff_toNat_lt.2 h1.1
      have := mt UInt8.lt_iff_toNat_lt.2 h2.1
      omega)
    subst e
    rw [bl_tot a b (by simpa using h1.2) (by simpa using h2.2)]
theorem bl_trans : ∀ a b c : List UInt8, Op.bytesLess a b = true → Op.bytesLess b c = true → Op.bytesLess a c = true
  | _, _, [], _, h => by simp [Op.bytesLess] at h
  | _, [], _ :: _, h, _ => by simp [Op.bytesLess] at h
  | [], _ :: _, _ :: _, _, _ => by simp [Op.bytesLess]
  | x :: a, y :: b, z :: c, h1, h2 => by
    simp only [Op.bytesLess, Bool.or_eq_true, decide_eq_true_eq, Bool.and_eq_true, beq_iff_eq] at h1 h2 ⊢
    rcases h1 with h1 | ⟨rfl, h1⟩
    · rcases h2 with h2 | ⟨rfl, _⟩
      · left
        have := UInt8.lt_iff_toNat_lt.1 h1
        have := UInt8.lt_iff_toNat_lt.1 h2
        exact UInt8.lt_iff_toNat_lt.2 (by omega)
      · exact .inl h1
    · rcases h2 with h2 | ⟨rfl, h2⟩
      · exact .inl h2
      · exact .inr ⟨rfl, bl_trans a b c h1 h2⟩
theorem lt_irr (a : ByteArray) : ltS a a = false := bl_irr _
theorem lt_tot {a b : ByteArray} (h1 : ltS a b = false) (h2 : ltS b a = false) : a = b := str_ext (bl_tot _ _ h1 h2)
theorem lt_trans' {a b c : ByteArray} (h1 : ltS a b = true) (h2 : ltS b c = true) : ltS a c = true := bl_trans _ _ _ h1 h2
theorem lt_asym {a b : ByteArray} (h : ltS a b = true) : ltS b a = false := by
  cases h2 : ltS b a with
  | false => rfl
  | true => have := lt_trans' h h2; rw [lt_irr] at this; cases this
/-- Not below is transitive. -/
theorem le_trans' {a b c : ByteArray} (h1 : ltS b a = false) (h2 : ltS c b = false) : ltS c a = false := by
  cases h : ltS c a with
  | false => rfl
  | true =>
    cases h3 : ltS a b with
    | true => have := lt_trans' h h3; rw [h2] at this; cases this
    | false =>
      obtain rfl := lt_tot h3 h1
      rw [h] at h2; cases h2
/-- Ascending, the same one after the other not shut out. -/
def AscS (l : List ByteArray) : Prop := l.Pairwise fun a b => ltS b a = false
/-- One behind the other, the same left out. -/
def compactS : List ByteArray → List ByteArray
  | [] => []
  | [a] => [a]
  | a :: b :: l => if a = b then compactS (b :: l) else a :: compactS (b :: l)
theorem compact_len : ∀ l : List ByteArray, (compactS l).length ≤ l.length
  | [] => by simp [compactS]
  | [a] => by simp [compactS]
  | a :: b :: l => by
    have := compact_len (b :: l)
    rw [compactS]
    split
    · simp only [List.length_cons] at this ⊢; omega
    · simp only [List.length_cons] at this ⊢; omega
/-- Fewer exactly if one stands there twice. -/
theorem compact_nodup : ∀ {l : List ByteArray}, AscS l → ((compactS l).length = l.length ↔ l.Nodup)
  | [], _ => by simp [compactS]
  | [a], _ => by simp [compactS]
  | a :: b :: l, h => by
    have h0 := h
    rw [AscS, List.pairwise_cons] at h
    have ih := compact_nodup (l := b :: l) h.2
    have hl := compact_len (b :: l)
    rw [compactS]
    by_cases e : a = b
    · subst e
      rw [if_pos rfl]
      constructor
      · intro hh; simp only [List.length_cons] at hh hl; omega
      · intro hh; simp at hh
    · rw [if_neg e]
      rw [List.length_cons, List.length_cons, Nat.succ_inj, ih, List.nodup_cons (a := a)]
      constructor
      · intro hh
        refine ⟨fun hm => ?_, hh⟩
        rcases List.mem_cons.1 hm with rfl | hm
        · exact e rfl
        · have h1 := h.1 b (by simp)
          have h2 := h.2
          rw [List.pairwise_cons] at h2
          have h3 := h2.1 a hm
          exact e (lt_tot h3 h1)
      · exact fun hh => hh.2
end Go.Proofs.YtnpcilglilfajaaGreatDoor
namespace Go.Proofs.YtnpcilglilfajaaGreatDoor
open Go.RowKit
/-- In the round of place i the string that is put in stands at j. -/
def Ins (bs : List ByteArray) (i j : Nat) : Prop := ∃ (pre : List ByteArray) (x : ByteArray) (mid post : List ByteArray), bs = pre ++ x :: (mid ++ post) ∧ pre.length = j ∧ j + mid.length = i ∧ AscS (pre ++ mid) ∧ ∀ y ∈ mid, ltS x y = true
theorem Ins.start {bs : List ByteArray} {i : Nat} (hi : i < bs.length) (h : AscS (bs.take i)) : Ins bs i i := by
  refine ⟨bs.take i, bs[i], [], bs.drop (i + 1), ?_, by rw [List.length_take]; omega, by simp, by simpa using h, fun _ h => by cases h⟩
  rw [List.nil_append, ← List.drop_eq_getElem_cons hi, List.take_append_drop]
theorem swap_mid {α : Type} {pre : List α} {p x : α} {r : List α} : ((pre ++ p :: x :: r).set (pre.length + 1) p).set pre.length x = pre ++ x :: p :: r := by
  rw [List.set_append_right _ _ (by omega), show pre.length + 1 - pre.length = 1 by omega, List.set_append_right _ _ (by omega), Nat.sub_self]
  rfl
theorem Ins.step {bs : List ByteArray} {i j : Nat} {x p : ByteArray} (h : Ins bs i (j + 1)) (hx : bs[j + 1]? = some x) (hp : bs[j]? = some p) (hlt : ltS x p = true) : Ins ((bs.set (j + 1) p).set j x) i j ∧ ((bs.set (j + 1) p).set j x).Perm bs := by
  obtain ⟨pre, x', mid, post, rfl, h1, h2, h3, h4⟩ := h
  have hpre : pre = pre.dropLast ++ [pre.getLast (by intro h; rw [h] at h1; simp at h1)] := (List.dropLast_concat_getLast _).symm
  generalize hq : pre.getLast _ = q at hpre
  generalize pre.dropLast = pr at hpre
  subst hpre
  have hl : pr.length = j := by rw [List.length_append] at h1; simp at h1; exact h1
  obtain rfl : x' = x := by
    rw [List.getElem?_append_right (by omega), h1, Nat.sub_self] at hx
    simpa using hx
  obtain rfl : q = p := by
    rw [List.append_assoc, List.getElem?_append_right (by omega), hl, Nat.sub_self] at hp
    simpa using hp
  have e : (((pr ++ [q]) ++ x' :: (mid ++ post)).set (j + 1) q).set j x' = pr ++ x' :: q :: (mid ++ post) := by
    rw [List.append_assoc, ← hl]
    exact swap_mid
  rw [e]
  refine ⟨⟨pr, x', q :: mid, post, by simp, hl, by simp only [List.length_cons]; omega, by simpa using h3, fun y hy => ?_⟩, ?_⟩
  · rcases List.mem_cons.1 hy with rfl | hy
    · exact hlt
    · exact h4 y hy
  · rw [List.append_assoc]
    exact List.Perm.append_left _ (List.Perm.swap _ _ _)
theorem Ins.fin {bs : List ByteArray} {i j : Nat} {x : ByteArray} (h : Ins bs i j) (hx : bs[j]? = some x) (hs : j = 0 ∨ ∃ p, bs[j - 1]? = some p ∧ ltS x p = false) : AscS (bs.take (i + 1)) := by
  obtain ⟨pre, x', mid, post, rfl, h1, h2, h3, h4⟩ := h
  obtain rfl : x' = x := by
    rw [List.getElem?_append_right (by omega), h1, Nat.sub_self] at hx
    simpa using hx
  have e : (pre ++ x' :: (mid ++ post)).take (i + 1) = pre ++ x' :: mid := by
    rw [List.take_append, List.take_of_length_le (by omega), show i + 1 - pre.length = mid.length + 1 by omega, List.take_succ_cons, List.take_left]
  rw [e]
  obtain ⟨g1, g2, g3⟩ := List.pairwise_append.1 h3
  have hle : ∀ a ∈ pre, ltS x' a = false := by
    intro a ha
    rcases hs with rfl | ⟨p, hp, hlt⟩
    · rw [List.eq_nil_of_length_eq_zero h1] at ha; cases ha
    · obtain ⟨k, hk, rfl⟩ := List.getElem_of_mem ha
      rw [List.getElem?_append_left (by omega)] at hp
      obtain ⟨hp1, hp2⟩ := List.getElem?_eq_some_iff.1 hp
      rcases Nat.lt_or_ge k (j - 1) with hkj | hkj
      · have := List.pairwise_iff_getElem.1 g1 k (j - 1) hk hp1 hkj
        rw [hp2] at this
        exact le_trans' this hlt
      · have : k = j - 1 := by omega
        subst this
        rw [hp2]; exact hlt
  refine List.pairwise_append.2 ⟨g1, List.pairwise_cons.2 ⟨fun y hy => lt_asym (h4 y hy), g2⟩, fun a ha b hb => ?_⟩
  rcases List.mem_cons.1 hb with rfl | hb
  · exact hle a ha
  · exact g3 a ha b hb
theorem asc_one {bs : List ByteArray} (h : bs.length ≤ 1) : AscS bs := by
  match bs, h with
  | [], _ => exact List.Pairwise.nil
  | [_], _ => exact List.pairwise_singleton ..
end Go.Proofs.YtnpcilglilfajaaGreatDoor
namespace Go.Proofs.YtnpcilglilfajaaGreatDoor
open Go.RowKit
inductive Ex where
  | mk (op : Nat) (n : Int) (ns : List ByteArray) (al : List Ex)
def Ex.op : Ex → Nat
  | .mk o _ _ _ => o
def Ex.al : Ex → List Ex
  | .mk _ _ _ a => a
mutual
def depE : Ex → Nat
  | .mk _ _ _ al => depL al + 1
def depL : List Ex → Nat
  | [] => 0
  | a :: al => max (depE a) (depL al)
end
mutual
def sizE : Ex → Nat
  | .mk _ _ _ al => sizL al + 1
def sizL : List Ex → Nat
  | [] => 0
  | a :: al => sizE a + sizL al
end
def wtS (ns : List ByteArray) : Nat := (ns.map fun s => s.size + 1).sum
mutual
def wtE : Ex → Nat
  | .mk _ _ ns al => wtS ns + wtL al + 1
def wtL : List Ex → Nat
  | [] => 0
  | a :: al => wtE a + wtL al
end
theorem depL_snoc (a : Ex) : ∀ l : List Ex, depL (l ++ [a]) = max (depL l) (depE a)
  | [] => by simp [depL]
  | x :: l => by rw [List.cons_append, depL, depL, depL_snoc a l]; omega
theorem sizL_app (b : List Ex) : ∀ l : List Ex, sizL (l ++ b) = sizL l + sizL b
  | [] => by simp [sizL]
  | x :: l => by rw [List.cons_append, sizL, sizL, sizL_app b l]; omega
theorem wtL_app (b : List Ex) : ∀ l : List Ex, wtL (l ++ b) = wtL l + wtL b
  | [] => by simp [wtL]
  | x :: l => by rw [List.cons_append, wtL, wtL, wtL_app b l]; omega
theorem sizL_snoc (a : Ex) (l : List Ex) : sizL (l ++ [a]) = sizL l + sizE a := by rw [sizL_app]; simp [sizL]
theorem wtL_snoc (a : Ex) (l : List Ex) : wtL (l ++ [a]) = wtL l + wtE a := by rw [wtL_app]; simp [wtL]
theorem wtL_mem {a : Ex} : ∀ {l : List Ex}, a ∈ l → wtE a ≤ wtL l
  | x :: l, h => by
    rw [wtL]
    rcases List.mem_cons.1 h with rfl | h
    · omega
    · have := wtL_mem h; omega
theorem wtL_len : ∀ l : List Ex, l.length ≤ wtL l
  | [] => by simp
  | x :: l => by
    have := wtL_len l
    cases x
    rw [wtL, wtE, List.length_cons]; omega
theorem wtS_len (ns : List ByteArray) : ns.length ≤ wtS ns := by
  induction ns with
  | nil => simp
  | cons s l ih => simp only [wtS, List.map_cons, List.sum_cons, List.length_cons] at ih ⊢; omega
mutual
theorem dep_wt : ∀ e : Ex, depE e ≤ wtE e
  | .mk _ _ _ al => by have := depL_wt al; rw [depE, wtE]; omega
theorem depL_wt : ∀ l : List Ex, depL l ≤ wtL l
  | [] => by simp [depL]
  | a :: al => by have := dep_wt a; have := depL_wt al; rw [depL, wtL]; omega
end
mutual
theorem siz_wt : ∀ e : Ex, sizE e ≤ wtE e
  | .mk _ _ _ al => by have := sizL_wt al; rw [sizE, wtE]; omega
theorem sizL_wt : ∀ l : List Ex, sizL l ≤ wtL l
  | [] => by simp [sizL]
  | a :: al => by have := siz_wt a; have := sizL_wt al; rw [sizL, wtL]; omega
end
def str (l : List UInt8) : ByteArray := ⟨l.toArray⟩
/-- The words that are no names. -/
def keyws : List ByteArray := [⟨#[97, 108, 108]⟩, ⟨#[97, 110, 100]⟩, ⟨#[97, 115, 115, 105, 103, 110]⟩, ⟨#[98, 121]⟩, ⟨#[99, 111, 117, 110, 116]⟩, ⟨#[100, 101, 99, 108, 97, 114, 101]⟩, ⟨#[100, 121, 110, 97, 109, 105, 99]⟩, ⟨#[101, 110, 102, 111, 114, 99, 101]⟩, ⟨#[102, 97, 108, 115, 101]⟩, ⟨#[102, 111, 114]⟩, ⟨#[105, 102]⟩, ⟨#[109, 101, 109, 98, 101, 114, 115]⟩, ⟨#[110, 111, 110, 101]⟩, ⟨#[110, 111, 116]⟩, ⟨#[111, 110]⟩, ⟨#[111, 114]⟩, ⟨#[114, 101, 118, 111, 107, 101]⟩, ⟨#[115, 116, 97, 116, 105, 99]⟩, ⟨#[116, 114, 117, 101]⟩, ⟨#[117, 115, 101, 114, 115]⟩]
def letB (b : UInt8) : Bool := decide (97 ≤ b.toNat ∧ b.toNat ≤ 122)
def innB (b : UInt8) : Bool := decide (97 ≤ b.toNat ∧ b.toNat ≤ 122 ∨ 48 ≤ b.toNat ∧ b.toNat ≤ 57 ∨ b.toNat = 95)
/-- The bytes of a name from the place i on. -/
def formB (s : ByteArray) (i : Nat) : Prop := ∀ k b, i ≤ k → s[k]? = some b → innB b = true ∧ (k = 0 → letB b = true)
/-- A name. -/
def validS (s : ByteArray) : Prop := s.size ≠ 0 ∧ s.size ≤ 12 ∧ s ∉ keyws ∧ formB s 0
def validB (s : ByteArray) : Bool := decide (s.size ≠ 0) && decide (s.size ≤ 12) && decide (s ∉ keyws) && s.data.toList.all innB && (s.data.toList.head?.map letB).getD true
theorem validB_iff {s : ByteArray} : validB s = true ↔ validS s := by
  have hg : ∀ k : Nat, s[k]? = s.data.toList[k]? := fun k => by simp only [Array.getElem?_toList]; rfl
  unfold validB validS formB
  simp only [Bool.and_eq_true, decide_eq_true_eq, List.all_eq_true]
  constructor
  · rintro ⟨⟨⟨⟨h1, h2⟩, h3⟩, h4⟩, h5⟩
    refine ⟨h1, h2, h3, fun k b _ hk => ⟨h4 b (List.mem_of_getElem? (by rw [← hg]; exact hk)), fun h0 => ?_⟩⟩
    subst h0
    rw [hg] at hk
    rw [List.head?_eq_getElem?, hk] at h5
    exact h5
  · rintro ⟨h1, h2, h3, h4⟩
    refine ⟨⟨⟨⟨h1, h2⟩, h3⟩, fun b hb => ?_⟩, ?_⟩
    · obtain ⟨k, hk⟩ := List.mem_iff_getElem?.1 hb
      exact (h4 k b (Nat.zero_le _) (by rw [hg]; exact hk)).1
    · rw [List.head?_eq_getElem?]
      cases h0 : s.data.toList[0]? with
      | none => rfl
      | some b => exact (h4 0 b (Nat.zero_le _) (by rw [hg]; exact h0)).2 rfl
instance (s : ByteArray) : Decidable (validS s) := decidable_of_iff _ validB_iff
/-- How many operands an operator has. -/
def argN (op : Nat) : Nat := if op < 7 then 0 else if op = 7 then 1 else 2
/-- A permitted number of names. -/
def namN (op k : Nat) : Prop := if op = 4 ∨ op = 6 then k = 1 else if op = 5 then 1 ≤ k ∧ k ≤ 8 else k = 0
instance (op k : Nat) : Decidable (namN op k) := by unfold namN; infer_instance
/-- The error of an operator without its operands. -/
noncomputable def ownE (op : Nat) (n : Int) (ns : List ByteArray) (k : Nat) : Int :=
  if op < 1 ∨ 16 < op ∨ k ≠ argN op then 1 else if (n ≠ 0 ∧ op ≠ 1) ∨ ¬namN op ns.length then 6 else if ¬(∀ s ∈ ns, validS s) then 9 else if ¬ns.Nodup then 5 else if n < 0 ∨ 999999 < n then 2 else 0
mutual
noncomputable def nodeE : Ex → Int
  | .mk op n ns al => if ownE op n ns al.length ≠ 0 then ownE op n ns al.length else nodeL al
noncomputable def nodeL : List Ex → Int
  | [] => 0
  | a :: al => if nodeE a ≠ 0 then nodeE a else nodeL al
end
theorem nodeL_app (b : List Ex) : ∀ l : List Ex, nodeL (l ++ b) = if nodeL l ≠ 0 then nodeL l else nodeL b
  | [] => by simp [nodeL]
  | x :: l => by
    rw [List.cons_append, nodeL, nodeL, nodeL_app b l]
    by_cases h : nodeE x ≠ 0
    · simp [h]
    · simp only [h, if_false]
noncomputable def chkE (e : Ex) : Int := if 10 < depE e ∨ 200 < sizE e then 3 else nodeE e
/-- A number in decimal. -/
def decG : Nat → Nat → List UInt8
  | 0, _ => []
  | f + 1, v => if v < 10 then [UInt8.ofNat (48 + v)] else decG f (v / 10) ++ [UInt8.ofNat (48 + v % 10)]
def decB (v : Nat) : ByteArray := ⟨(decG 20 v).toArray⟩
end Go.Proofs.YtnpcilglilfajaaGreatDoor
namespace Go.Proofs.YtnpcilglilfajaaGreatDoor
open Go.RowKit
def strC (s : ByteArray) : List Value := [.string s]
theorem strC_len (s : ByteArray) : (strC s).length = 1 := rfl
abbrev Row4 := Value × Value × Value × Value
def rc4 (r : Row4) : List Value := [r.1, r.2.1, r.2.2.1, r.2.2.2]
theorem rc4_len (r : Row4) : (rc4 r).length = 4 := rfl
/-- The four fields of an expression whose operator is of kind k. -/
inductive ExR (k : IntKind) (X : PMap) : Ex → Row4 → Prop
  | mk {op : Nat} {n : Int} {ns : List ByteArray} {al : List Ex} {vn va : Value} {rows : List Row4} (hn : RowR strC X vn ns) (ha : RowR rc4 X va rows) (hl : rows.length = al.length)
      (hr : ∀ (i : Nat) (a : Ex) (r : Row4), al[i]? = some a → rows[i]? = some r → ExR k X a r) : ExR k X (.mk op n ns al) (.int k (op : Int), .int .i64 n, vn, va)
theorem ExR.mono {k : IntKind} {X X' : PMap} {e : Ex} {r : Row4} (h : ExR k X e r) (hX : X.le X') : ExR k X' e r := by
  induction h with
  | mk hn ha hl hr ih => exact .mk (hn.mono hX) (ha.mono hX) hl ih
theorem ExR.form {k : IntKind} {X : PMap} {e : Ex} {r : Row4} (h : ExR k X e r) : ∃ (o : Nat) (n : Int) (A B : Option Addr) (l c l' c' : Nat), r = (.int k (o : Int), .int .i64 n, .slice A l c, .slice B l' c') := by
  cases h with
  | mk hn ha hl hr =>
    obtain ⟨A, c, rfl⟩ := hn.form
    obtain ⟨B, c', rfl⟩ := ha.form
    exact ⟨_, _, _, _, _, _, _, _, rfl⟩
theorem RowR.ofG {α : Type} {rc : α → List Value} {X : PMap} {e : TypeId} {size : Nat} {v : Value} {rs : List α} {G : Own} (hg : GrowS e size v rs.length (rs.map rc).flatten G) (h : SliceR X v rs.length (rs.map rc).flatten) : RowR rc X v rs := by
  rcases h with ⟨h0, _, A, c, rfl⟩ | ⟨h0, b, c, rfl, hB⟩
  · exact .inl ⟨List.eq_nil_of_length_eq_zero h0, _, _, rfl⟩
  · rcases hg with ⟨h1, _⟩ | ⟨b', cap, hv, _, h2, h3, _⟩
    · omega
    · simp only [Value.slice.injEq] at hv
      exact .inr ⟨h0, b, c, [], rfl, by simpa using hB, by omega, by omega⟩
theorem strs_flat : ∀ l : List ByteArray, (l.map strC).flatten = l.map Value.string
  | [] => rfl
  | s :: l => by rw [List.map_cons, List.flatten_cons, strs_flat l]; rfl
/-- A name of a list, read. -/
theorem str_read {pre : List Value} {ns : List ByteArray} {i k' : Nat} {s : ByteArray} (h : ns[i]? = some s) (e : k' = pre.length + i * 1) : cread false 1 (pre ++ (ns.map strC).flatten) k' = some (.string s) :=
  row_cell (sz := 1) (j := 0) strC_len h rfl (by omega)
end Go.Proofs.YtnpcilglilfajaaGreatDoor
namespace Go.Proofs.YtnpcilglilfajaaGreatDoor
section
set_option maxRecDepth 100000
theorem en130 : Enters Tryz.prog 130 := enters_mk Tryz.func130 (by kernel_rfl) rfl
theorem en131 : Enters Tryz.prog 131 := enters_mk Tryz.func131 (by kernel_rfl) rfl
theorem en169 : Enters Tryz.prog 169 := enters_mk Tryz.func169 (by kernel_rfl) rfl
theorem en175 : Enters Tryz.prog 175 := enters_mk Tryz.func175 (by kernel_rfl) rfl
theorem en179 : Enters Tryz.prog 179 := enters_mk Tryz.func179 (by kernel_rfl) rfl
theorem en199 : Enters Tryz.prog 199 := enters_mk Tryz.func199 (by kernel_rfl) rfl
theorem ty9 : Ty Tryz.prog 9 false 1 := ⟨⟨_, Tryz.underlying9, rfl⟩, by kernel_rfl⟩
end
open Go.RowKit
def strsC (l : List ByteArray) : List Value := l.map Value.string
theorem strsC_len (l : List ByteArray) : (strsC l).length = l.length := by simp [strsC]
theorem strsC_at {l : List ByteArray} {i : Nat} {s : ByteArray} (h : l[i]? = some s) : (strsC l)[i]? = some (.string s) := by simp [strsC, h]
theorem strsC_set {l : List ByteArray} {i : Nat} {s : ByteArray} : csets (strsC l) i (vcells (.string s)) = strsC (l.set i s) := by simp [csets, vcells, strsC, List.map_set]
theorem strsC_flat (l : List ByteArray) : (l.map strC).flatten = strsC l := strs_flat l
theorem isnan_spec {X : PMap} {a : ByteArray} : Spec Tryz.prog 199 [.string a] X fun u _ => u = .bool false := by
  refine Spec.enter Tryz.func199 rfl Tryz.ntmps199 rfl ?_
  intro w0 hw0
  refine T.seq <| T.region <| SL.as rfl <| SL.nil <| T.seq <| T.region <| SL.mv rfl <| SL.mv rfl <| SL.v (op_neqStrD rfl rfl) <| SL.as rfl <| SL.nil <| T.ret1 rfl (ResIs.tmp rfl) ?_
  simp
theorem less_spec {X : PMap} {a b : ByteArray} : Spec Tryz.prog 175 [.string a, .string b] X fun u _ => u = .bool (ltS a b) := by
  refine Spec.enter Tryz.func175 rfl Tryz.ntmps175 rfl ?_
  intro w0 hw0
  refine T.seq <| T.region <| SL.as rfl <| SL.nil <| T.seq <| T.region <| SL.mv rfl <| SL.w (op_callF en199 (vs := [_]) rfl (isnan_spec)) ?_
  rintro _ _ X1 ⟨rfl, hX1, rfl⟩
  refine SL.mv rfl <| SL.skip rfl rfl ?_
  refine SL.skip rfl rfl ?_
  refine SL.skip rfl rfl ?_
  refine SL.v (op_pickF rfl rfl) <| SL.mv rfl <| SL.mv rfl <| SL.mv rfl <| SL.v (op_lssStr rfl rfl) <| SL.v (op_pickF rfl rfl) <| SL.as rfl <| SL.nil <| T.ret1 rfl (ResIs.tmp rfl) ?_
  rfl
theorem insertion_spec {X : PMap} {b cap : Nat} {l : List ByteArray} (h0 : 0 < l.length) (hl : l.length < 1000000) : SpecM Tryz.prog 169 [.slice (some ⟨b, 0, none⟩) l.length cap, .int .i64 0, .int .i64 (l.length : Int)] X [⟨b, strsC l, 9, cap * 1⟩] fun _ L' _ => ∃ l' : List ByteArray, L' = [⟨b, strsC l', 9, cap * 1⟩] ∧ l'.Perm l ∧ AscS l' := by
  refine SpecM.enter Tryz.func169 rfl Tryz.ntmps169 rfl ?_
  intro w0 X0 own0
  refine T.perm (own' := ⟨b, strsC l, 9, cap * 1⟩ :: own0) (List.Perm.refl _) ?_
  refine T.seq <| T.region <| SL.mv rfl <| SL.v (op_add rfl rfl (by omega) (by omega)) ?_
  refine SL.as rfl <| SL.nil <| T.block <| T.loopW (fun m env own X' => ∃ (i : Nat) (bs : List ByteArray), m = l.length - i ∧ 1 ≤ i ∧ i ≤ l.length ∧ X.le X' ∧ bs.Perm l ∧ AscS (bs.take i) ∧ env = [(0, .slice (some ⟨b, 0, none⟩) l.length cap), (1, .int .i64 0), (2, .int .i64 (l.length : Int)), (6, .int .i64 (i : Int))] ∧ own = ⟨b, strsC bs, 9, cap * 1⟩ :: own0) (l.length - 1) ⟨1, l, rfl, by omega, by omega, PMap.le_refl _, .refl _, asc_one (by rw [List.length_take]; omega), rfl, rfl⟩ (by repeat (first | exact Sub.nil | refine Sub.cons rfl ?_)) ?_
  rintro m _ _ X1 ⟨i, bs, rfl, hi1, hi, hX1, hperm, hasc, rfl, rfl⟩
  have hbl := hperm.length_eq
  rcases Nat.lt_or_ge i l.length with hil | hil
  · skip
    refine T.seq <| T.seq <| T.region <| SL.mv rfl <| SL.mv rfl <| SL.v (op_lssT rfl rfl (by omega)) ?_
    refine SL.nil <| T.condT rfl <| T.skip <| T.seq <| T.block <| T.seq <| T.region <| SL.mv rfl <| SL.as rfl <| SL.nil <| T.block <| T.loopW (fun m env own X' => ∃ (j : Nat) (cs : List ByteArray), j = m ∧ j ≤ i ∧ X1.le X' ∧ cs.Perm l ∧ Ins cs i j ∧ env = [(0, .slice (some ⟨b, 0, none⟩) l.length cap), (1, .int .i64 0), (2, .int .i64 (l.length : Int)), (6, .int .i64 (i : Int)), (7, .int .i64 (j : Int))] ∧ own = ⟨b, strsC cs, 9, cap * 1⟩ :: own0) i ⟨i, bs, rfl, by omega, PMap.le_refl _, hperm, Ins.start (by omega) hasc, rfl, rfl⟩ (by repeat (first | exact Sub.nil | refine Sub.cons rfl ?_)) ?_
    rintro m _ _ X2 ⟨j, cs, rfl, hj, hX2, hperm2, hins, rfl, rfl⟩
    have hcl := hperm2.length_eq
    obtain ⟨x, hx⟩ : ∃ x, cs[j]? = some x := ⟨_, List.getElem?_eq_getElem (by omega)⟩
    rcases Nat.eq_zero_or_pos j with hj0 | hj0
    · subst hj0
      have hfin := hins.fin hx (.inl rfl)
      refine T.seq <| T.seq <| T.draw (by kernel_rfl) 15 [.t 0, .t 1, .t 2, .t 3, .t 4, .t 5, .t 6, .t 7, .t 8, .t 9, .t 10, .t 11, .t 12, .r 13, .t 14] (by kernel_rfl) ?_
      refine SD.take rfl panicBody (op_move rfl) rfl rfl ?_
      refine SD.take rfl panicBody (op_move rfl) rfl rfl ?_
      refine SD.take rfl panicBody (op_gtrF rfl rfl (by omega)) rfl rfl ?_
      refine SD.take rfl panicBody (op_move rfl) rfl rfl ?_
      refine SD.skip rfl panicBody rfl rfl ?_
      refine SD.skip rfl panicBody rfl rfl ?_
      refine SD.skip rfl panicBody rfl rfl ?_
      refine SD.skip rfl panicBody rfl rfl ?_
      refine SD.skip rfl panicBody rfl rfl ?_
      refine SD.skip rfl panicBody rfl rfl ?_
      refine SD.skip rfl panicBody rfl rfl ?_
      refine SD.skip rfl panicBody rfl rfl ?_
      refine SD.skip rfl panicBody rfl rfl ?_
      refine SD.skipF rfl rfl rfl ?_
      refine SD.take rfl panicBody (op_pickF rfl rfl) rfl rfl ?_
      refine SD.nil ?_
      show SL _ _ _ _ _ _ _ [] _ _ _
      refine SL.nil <| T.condF rfl ?_
      refine T.exit (T.exitCode (T.exitCut (T.exitBlk ?_)))
      refine T.blk <| T.region <| SL.mv rfl <| SL.v (op_addN (q := 1) rfl rfl (by omega)) ?_
      refine SL.as rfl <| SL.nil ?_
      exact T.backW (l.length - (i + 1)) (by omega) ⟨i + 1, cs, rfl, by omega, by omega, hX1.trans' hX2, hperm2, hfin, rfl, rfl⟩ (by repeat (first | exact Sub.nil | refine Sub.cons rfl ?_))
    · obtain ⟨q, rfl⟩ : ∃ q, j = q + 1 := ⟨j - 1, by omega⟩
      obtain ⟨p, hp⟩ : ∃ p, cs[q]? = some p := ⟨_, List.getElem?_eq_getElem (by omega)⟩
      refine T.seq <| T.seq <| T.draw (by kernel_rfl) 15 [.t 0, .t 1, .t 2, .t 3, .t 4, .t 5, .t 6, .t 7, .t 8, .t 9, .t 10, .t 11, .t 12, .r 13, .t 14] (by kernel_rfl) ?_
      refine SD.take rfl panicBody (op_move rfl) rfl rfl ?_
      refine SD.take rfl panicBody (op_move rfl) rfl rfl ?_
      refine SD.take rfl panicBody (op_gtrT rfl rfl (by omega)) rfl rfl ?_
      refine SD.take rfl panicBody (op_move rfl) rfl rfl ?_
      refine SD.take rfl panicBody (op_move rfl) rfl rfl ?_
      refine SD.take rfl panicBody (op_move rfl) rfl rfl ?_
      refine SD.take rfl panicBody (op_indexN Tryz.underlying59 ty9 rfl rfl (by omega)) rfl rfl ?_
      refine SD.take rfl panicBody (op_load ty9 rfl (by repeat constructor) (cread1k' (strsC_at hx) (by omega))) rfl rfl ?_
      refine SD.take rfl panicBody (op_move rfl) rfl rfl ?_
      refine SD.take rfl panicBody (op_move rfl) rfl rfl ?_
      refine SD.take rfl panicBody (op_subN (q := 1) rfl rfl (by omega) (by omega)) rfl rfl ?_
      refine SD.take rfl panicBody (op_indexN Tryz.underlying59 ty9 rfl rfl (by omega)) rfl rfl ?_
      refine SD.take rfl panicBody (op_load ty9 rfl (by repeat constructor) (cread1k' (strsC_at hp) (by omega))) rfl rfl ?_
      refine SD.run rfl (op_callF en175 (vs := [_, _]) rfl (less_spec)) rfl rfl ?_
      rintro _ _ X3 ⟨rfl, hX3, rfl⟩
      cases hlt : ltS x p with
      | false =>
        have hfin := hins.fin hx (.inr ⟨p, by simpa using hp, hlt⟩)
        refine SD.take rfl panicBody (op_pickT rfl rfl) rfl rfl ?_
        refine SD.nil ?_
        show SL _ _ _ _ _ _ _ [] _ _ _
        refine SL.nil <| T.condF rfl ?_
        refine T.exit (T.exitCode (T.exitCut (T.exitBlk ?_)))
        refine T.blk <| T.region <| SL.mv rfl <| SL.v (op_addN (q := 1) rfl rfl (by omega)) ?_
        refine SL.as rfl <| SL.nil ?_
        exact T.backW (l.length - (i + 1)) (by omega) ⟨i + 1, cs, rfl, by omega, by omega, (hX1.trans' hX2).trans' hX3, hperm2, hfin, rfl, rfl⟩ (by repeat (first | exact Sub.nil | refine Sub.cons rfl ?_))
      | true =>
        obtain ⟨hs1, hs2⟩ := hins.step hx hp hlt
        refine SD.take rfl panicBody (op_pickT rfl rfl) rfl rfl ?_
        refine SD.nil ?_
        show SL _ _ _ _ _ _ _ [] _ _ _
        refine SL.nil <| T.condT rfl <| T.skip <| T.seq <| T.block <| T.drawS 15 (by kernel_rfl) 16 [.t 0, .t 1, .m 2, .m 3, .m 4, .t 5, .t 6, .t 7, .t 8, .t 9, .m 10, .m 11, .m 12, .t 13, .t 14, .r 15] (by kernel_rfl) ?_
        refine SD.take rfl panicBody (op_move rfl) rfl rfl ?_
        refine SD.take rfl panicBody (op_move rfl) rfl rfl ?_
        refine SD.takeM rfl panicBody (op_move rfl) rfl rfl ?_
        refine SD.takeM rfl panicBody (op_move rfl) rfl rfl ?_
        refine SD.takeM rfl panicBody (op_subN (q := 1) rfl rfl (by omega) (by omega)) rfl rfl ?_
        refine SD.take rfl panicBody (op_move rfl) rfl rfl ?_
        refine SD.take rfl panicBody (op_move rfl) rfl rfl ?_
        refine SD.take rfl panicBody (op_subN (q := 1) rfl rfl (by omega) (by omega)) rfl rfl ?_
        refine SD.take rfl panicBody (op_indexN Tryz.underlying59 ty9 rfl rfl (by omega)) rfl rfl ?_
        refine SD.take rfl panicBody (op_load ty9 rfl (by repeat constructor) (cread1k' (strsC_at hp) (by omega))) rfl rfl ?_
        refine SD.takeM rfl panicBody (op_move rfl) rfl rfl ?_
        refine SD.takeM rfl panicBody (op_move rfl) rfl rfl ?_
        refine SD.takeM rfl panicBody (op_indexN Tryz.underlying59 ty9 rfl rfl (by omega)) rfl rfl ?_
        refine SD.take rfl panicBody (op_load ty9 rfl (by repeat constructor) (cread1k' (strsC_at hx) (by omega))) rfl rfl ?_
        refine SD.take rfl panicBody (op_indexN Tryz.underlying59 ty9 rfl rfl (by omega)) rfl rfl ?_
        refine SD.runS rfl (op_store ty9 rfl rfl (by repeat constructor) rfl rfl (Nat.ble_eq_true_of_le (by rw [strsC_len]; omega))) rfl rfl ?_
        rintro _ _ _ ⟨rfl, rfl⟩
        refine SD.nil ?_
        show SL _ _ _ _ _ _ _ [_, _] _ _ _
        refine SL.v (op_indexN Tryz.underlying59 ty9 rfl rfl (by omega)) ?_
        refine SL.w (op_store ty9 rfl rfl (by repeat constructor) rfl rfl (Nat.ble_eq_true_of_le (by rw [csets_length, strsC_len]; omega))) ?_
        rintro _ _ _ ⟨rfl, rfl⟩
        refine SL.perm (own' := ⟨b, strsC ((cs.set (q + 1) p).set q x), 9, cap * 1⟩ :: own0) (List.Perm.of_eq (by rw [← strsC_set, ← strsC_set]; simp only [Nat.zero_add, Nat.mul_one]; rfl)) ?_
        refine SL.nil <| T.blk <| T.region <| SL.mv rfl <| SL.v (op_subN (q := 1) rfl rfl (by omega) (by omega)) ?_
        refine SL.as rfl <| SL.nil ?_
        exact T.backW q (by omega) ⟨q, _, rfl, by omega, hX2.trans' hX3, hs2.trans hperm2, hs1, rfl, rfl⟩ (by repeat (first | exact Sub.nil | refine Sub.cons rfl ?_))
  · refine T.seq <| T.seq <| T.region <| SL.mv rfl <| SL.mv rfl <| SL.v (op_lssF rfl rfl (by omega)) ?_
    refine SL.nil <| T.condF rfl ?_
    refine T.exit (T.exitCode (T.exitCut (T.exitBlk ?_)))
    refine T.doneM0 [⟨b, strsC bs, 9, cap * 1⟩] rfl (List.Perm.refl _) ?_
    exact ⟨hX1, bs, rfl, hperm, by rwa [List.take_of_length_le (by omega)] at hasc⟩
theorem pdq_spec {X : PMap} {b cap : Nat} {l : List ByteArray} (h0 : 0 < l.length) (hl : l.length ≤ 12) {k : Int} : SpecM Tryz.prog 130 [.slice (some ⟨b, 0, none⟩) l.length cap, .int .i64 0, .int .i64 (l.length : Int), .int .i64 k] X [⟨b, strsC l, 9, cap * 1⟩] fun _ L' _ => ∃ l' : List ByteArray, L' = [⟨b, strsC l', 9, cap * 1⟩] ∧ l'.Perm l ∧ AscS l' := by
  refine SpecM.enter Tryz.func130 rfl Tryz.ntmps130 rfl ?_
  intro w0 X0 own0
  refine T.seq <| T.region <| SL.as rfl <| SL.nil <| T.seq <| T.region <| SL.as rfl <| SL.nil <| T.block <| T.unrollStart 1 ?_
  refine T.unroll ?_
  refine T.block <| T.seq <| T.region <| SL.mv rfl <| SL.mv rfl <| SL.v (op_sub rfl rfl (by omega) (by omega)) ?_
  refine SL.as rfl <| SL.nil <| T.seq <| T.seq <| T.region <| SL.mv rfl <| SL.v (op_leqT rfl rfl (by omega)) ?_
  refine SL.nil <| T.condT rfl <| T.seq <| T.region <| SL.mv rfl <| SL.mv rfl <| SL.mv rfl <| SL.w (op_callM en169 (vs := [_, _, _]) rfl (insertion_spec h0 (by omega)) rfl) ?_
  rintro _ _ X1 ⟨_, rfl, hX1, l', rfl, hp, ha⟩
  refine SL.nil <| T.retM0 [⟨b, strsC l', 9, cap * 1⟩] rfl  (List.Perm.refl _) ?_
  exact ⟨hX1, l', rfl, hp, ha⟩
def len8B : ByteArray := ⟨(([0, 1, 2, 2, 3, 3, 3, 3, 4, 4, 4, 4, 4, 4, 4, 4, 5, 5, 5, 5, 5, 5, 5, 5, 5, 5, 5, 5, 5, 5, 5, 5, 6, 6, 6, 6, 6, 6, 6, 6, 6, 6, 6, 6, 6, 6, 6, 6, 6, 6, 6, 6, 6, 6, 6, 6, 6, 6, 6, 6, 6, 6, 6, 6] : List UInt8) ++ List.replicate 64 7 ++ List.replicate 128 8).toArray⟩
theorem len8_at : ∀ i, i < 256 → ∃ b, len8B[i]? = some b ∧ b.toNat ≤ 8 := by
  have h : (List.range 256).all (fun i => match len8B[i]? with | some b => decide (b.toNat ≤ 8) | none => false) = true := by decide +kernel
  intro i hi
  have := List.all_eq_true.1 h i (List.mem_range.2 hi)
  split at this
  · rename_i b hb; exact ⟨b, hb, by simpa using this⟩
  · cases this
theorem len64_spec {X : PMap} {n : Nat} (hn : n < 256) : Spec Tryz.prog 179 [.int .u64 (n : Int)] X fun u _ => ∃ k : Int, u = .int .i64 k ∧ 0 ≤ k ∧ k ≤ 8 := by
  obtain ⟨b, hb, hb8⟩ := len8_at n hn
  refine Spec.enter Tryz.func179 rfl Tryz.ntmps179 rfl ?_
  intro w0 hw0
  refine T.seq <| T.region <| SL.v (op_assign (v := .int .i64 ((0 : Nat) : Int)) rfl) <| SL.nil <| T.seq <| T.seq <| T.region <| SL.mv rfl <| SL.v (op_geqF rfl rfl (by omega)) ?_
  refine SL.nil <| T.condF rfl <| T.skip <| T.seq <| T.seq <| T.region <| SL.mv rfl <| SL.v (op_geqF rfl rfl (by omega)) ?_
  refine SL.nil <| T.condF rfl <| T.skip <| T.seq <| T.seq <| T.region <| SL.mv rfl <| SL.v (op_geqF rfl rfl (by omega)) ?_
  refine SL.nil <| T.condF rfl <| T.skip <| T.seq <| T.region <| SL.mv rfl <| SL.mv rfl <| SL.v (op_convU8 Tryz.underlying58 Tryz.underlying5 rfl (by omega) (by omega)) ?_
  refine SL.v (op_idxStr (s := len8B) Tryz.underlying9 rfl rfl rfl hb) <| SL.v (op_convI64 Tryz.underlying5 Tryz.underlying3 rfl (by omega) (by omega)) ?_
  refine SL.v (op_addN rfl rfl (by omega)) ?_
  refine SL.as rfl <| SL.nil <| T.ret1 rfl (ResIs.tmp rfl) ?_
  exact ⟨_, rfl, by omega, by omega⟩
theorem len_specB {X : PMap} {n : Nat} (hn : n < 256) : Spec Tryz.prog 131 [.int .u64 (n : Int)] X fun u _ => ∃ k : Int, u = .int .i64 k ∧ 0 ≤ k ∧ k ≤ 8 := by
  refine Spec.enter Tryz.func131 rfl Tryz.ntmps131 rfl ?_
  intro w0 hw0
  refine T.seq <| T.region <| SL.v (op_assign (v := .int .i64 ((0 : Nat) : Int)) rfl) <| SL.nil <| T.seq <| T.condF rfl <| T.skip <| T.seq <| T.region <| SL.mv rfl <| SL.w (op_callF en179 (vs := [_]) rfl (len64_spec hn)) ?_
  rintro _ _ X1 ⟨rfl, hX1, k, rfl, h1, h2⟩
  refine SL.as rfl <| SL.nil <| T.ret1 rfl (ResIs.tmp rfl) ?_
  exact ⟨_, rfl, h1, h2⟩
theorem sort_spec {X : PMap} {b cap : Nat} {l : List ByteArray} (h0 : 0 < l.length) (hl : l.length ≤ 12) : SpecM Tryz.prog 82 [.slice (some ⟨b, 0, none⟩) l.length cap] X [⟨b, strsC l, 9, cap * 1⟩] fun _ L' _ => ∃ l' : List ByteArray, L' = [⟨b, strsC l', 9, cap * 1⟩] ∧ l'.Perm l ∧ AscS l' := by
  refine SpecM.enter Tryz.func82 rfl Tryz.ntmps82 rfl ?_
  intro w0 X0 own0
  refine T.seq <| T.region <| SL.mv rfl <| SL.v (op_lenS Tryz.underlying59 rfl) <| SL.as rfl <| SL.nil <| T.region <| SL.mv rfl <| SL.mv rfl <| SL.mv rfl <| SL.v (op_convU64 Tryz.underlying3 Tryz.underlying206 rfl (by omega) (by omega)) ?_
  refine SL.w (op_callF en131 (vs := [_]) rfl (len_specB (n := l.length) (by omega))) ?_
  rintro _ _ X1 ⟨rfl, hX1, k, rfl, h1, h2⟩
  refine SL.w (op_callM en130 (vs := [_, _, _, _]) rfl (pdq_spec h0 hl) rfl) ?_
  rintro _ _ X2 ⟨_, rfl, hX2, l', rfl, hp, ha⟩
  refine SL.nil <| T.doneM0 [⟨b, strsC l', 9, cap * 1⟩] rfl (List.Perm.refl _) ?_
  exact ⟨hX1.trans' hX2, l', rfl, hp, ha⟩
end Go.Proofs.YtnpcilglilfajaaGreatDoor
namespace Go.Proofs.YtnpcilglilfajaaGreatDoor
open Go.RowKit
structure Nd where
  op : Nat
  name : Nat
  odd : Nat
  num : Int
def ndC (x : Nd) : List Value := [.int .u8 (x.op : Int), .int .u8 (x.name : Int), .int .u8 (x.odd : Int), .int .i64 x.num]
end Go.Proofs.YtnpcilglilfajaaGreatDoor
namespace Go.Proofs.YtnpcilglilfajaaGreatDoor
section
set_option maxRecDepth 100000
theorem en121 : Enters Tryz.prog 121 := enters_mk Tryz.func121 (by kernel_rfl) rfl
theorem en122 : Enters Tryz.prog 122 := enters_mk Tryz.func122 (by kernel_rfl) rfl
theorem fa70_3 : FAdr Tryz.prog 70 3 3 := fadr_mk Tryz.underlying70 rfl rfl (by kernel_rfl)
theorem ty68 : Ty Tryz.prog 68 false 1 := ⟨⟨_, Tryz.underlying68, rfl⟩, by kernel_rfl⟩
theorem ty70 : Ty Tryz.prog 70 true 4 := ⟨⟨_, Tryz.underlying70, rfl⟩, by kernel_rfl⟩
theorem z70 : Zero Tryz.prog 70 [.int .u8 0, .int .i64 0, .slice none 0 0, .slice none 0 0] := ⟨zero_of (by kernel_rfl)⟩
end
open Go.RowKit
theorem take_snoc {α : Type} {l : List α} {i : Nat} {a : α} (h : l[i]? = some a) : l.take (i + 1) = l.take i ++ [a] := by
  obtain ⟨h1, h2⟩ := List.getElem?_eq_some_iff.1 h
  rw [List.take_succ_eq_append_getElem h1, h2]
theorem depth_spec (N : Nat) : ∀ {X : PMap} {e : Ex} {r : Row4}, wtE e ≤ N → N < 4000000000000 → ExR .u8 X e r → Spec Tryz.prog 121 [.agg #[r.1, r.2.1, r.2.2.1, r.2.2.2]] X fun u _ => u = .int .i64 (depE e : Int) := by
  induction N with
  | zero => intro X e r h; cases e; rw [wtE] at h; omega
  | succ N ih =>
    intro X e r hN hB h
    cases h with
    | @mk op n ns al vn va rows hn ha hl hr =>
    obtain ⟨Aa, ca, rfl⟩ := ha.form
    have hlen := wtL_len al
    rw [wtE] at hN
    refine Spec.enter Tryz.func121 rfl Tryz.ntmps121 rfl ?_
    intro w0 hw0
    refine T.seq <| T.region <| SL.w (op_box rfl) ?_
    rintro _ _ _ ⟨B1, rfl, rfl, rfl⟩
    refine SL.v (op_assign (v := .int .i64 ((0 : Nat) : Int)) rfl) <| SL.nil <| T.seq <| T.region <| SL.v (op_assign (v := .int .i64 ((0 : Nat) : Int)) rfl) <| SL.nil <| T.seq <| T.seq <| T.region <| SL.v (op_fieldAddr fa70_3 rfl) <| SL.v (op_load ty68 rfl (by repeat constructor) rfl) ?_
    refine SL.v (op_lenS Tryz.underlying68 rfl) <| SL.v (op_move (v := .int .i64 ((0 : Nat) : Int)) rfl) <| SL.nil <| T.block <| T.drop B1 (by repeat constructor) ?_
    refine T.loopW (fun m env own X' => ∃ i : Nat, m = rows.length - i ∧ i ≤ rows.length ∧ X.le X' ∧ env = [(3, .int .i64 (depL (al.take i) : Int)), (7, .slice Aa rows.length ca), (8, .int .i64 (rows.length : Int)), (9, .int .i64 (i : Int))] ∧ own = []) rows.length ⟨0, by simp, by omega, PMap.le_refl _, rfl, rfl⟩ (by repeat (first | exact Sub.nil | refine Sub.cons rfl ?_)) ?_
    rintro m _ _ X1 ⟨i, rfl, hi, hX1, rfl, rfl⟩
    have hdw := fun l : List Ex => depL_wt l
    rcases Nat.lt_or_ge i rows.length with hil | hil
    · obtain ⟨r2, hr2⟩ : ∃ r2, rows[i]? = some r2 := ⟨_, List.getElem?_eq_getElem hil⟩
      obtain ⟨a, ha2⟩ : ∃ a, al[i]? = some a := ⟨_, List.getElem?_eq_getElem (by omega)⟩
      have hra := hr i a r2 ha2 hr2
      obtain ⟨bA, pre, rfl, hbA⟩ := ha.blk (by omega)
      obtain ⟨_, _, _, _, _, _, _, _, rfl⟩ := hra.form
      have hwa := wtL_mem (List.mem_of_getElem? ha2)
      have hts := take_snoc ha2
      have hw1 : wtL (al.take (i + 1)) ≤ wtL al := by
        have := wtL_app (al.drop (i + 1)) (al.take (i + 1))
        rw [List.take_append_drop] at this; omega
      have hw2 : wtL (al.take (i + 1)) = wtL (al.take i) + wtE a := by rw [hts, wtL_snoc]
      have q1 := sizL_wt (al.take i)
      have q2 := siz_wt a
      have q3 := depL_wt (al.take i)
      have q4 := dep_wt a
      refine T.seq <| T.region <| SL.v (op_lssT rfl rfl (by omega)) ?_
      refine SL.nil <| T.seq <| T.condT rfl <| T.skip <| T.seq <| T.block <| T.seq <| T.region <| SL.v (op_indexN Tryz.underlying68 ty70 rfl rfl (by omega)) ?_
      refine SL.v (op_loadX ty70 rfl (hbA.mono hX1) (row_read rc4_len hr2 (by omega))) ?_
      refine SL.w (op_alloc z70) ?_
      rintro _ _ _ ⟨B5, rfl, rfl, rfl⟩
      refine SL.w (op_store ty70 rfl rfl (by repeat constructor) rfl rfl rfl) ?_
      rintro _ _ _ ⟨rfl, rfl⟩
      refine SL.nil <| T.region <| SL.mv rfl <| SL.v (op_load ty70 rfl (by repeat constructor) rfl) ?_
      refine SL.w (op_callF en121 (vs := [_]) rfl (ih (by omega) (by omega) (hra.mono hX1))) ?_
      rintro _ _ X2 ⟨rfl, hX2, rfl⟩
      refine SL.v (op_maxN rfl rfl) ?_
      rw [show max (depL (al.take i)) (depE a) = depL (al.take (i + 1)) by rw [hts, depL_snoc]]
      refine SL.as rfl <| SL.nil <| T.blk <| T.region <| SL.v (op_addN (q := 1) rfl rfl (by omega)) ?_
      refine SL.mv rfl <| SL.nil <| T.drop B5 (by repeat constructor) ?_
      exact T.backW (rows.length - (i + 1)) (by omega) ⟨i + 1, rfl, by omega, hX1.trans' hX2, rfl, rfl⟩ (by repeat (first | exact Sub.nil | refine Sub.cons rfl ?_))
    · obtain rfl : i = rows.length := by omega
      rw [show al.take rows.length = al from List.take_of_length_le (by omega)]
      have q1 := sizL_wt al
      have q3 := depL_wt al
      refine T.seq <| T.region <| SL.v (op_lssF rfl rfl (by omega)) ?_
      refine SL.nil <| T.seq <| T.condF rfl ?_
      refine T.exit (T.exitCode (T.exitCut (T.exitBlk ?_)))
      refine T.seq <| T.region <| SL.mv rfl <| SL.v (op_addN (q := 1) rfl rfl (by omega)) ?_
      refine SL.as rfl <| SL.nil <| T.ret1 rfl (ResIs.tmp rfl) ?_
      rw [depE]
theorem size_spec (N : Nat) : ∀ {X : PMap} {e : Ex} {r : Row4}, wtE e ≤ N → N < 4000000000000 → ExR .u8 X e r → Spec Tryz.prog 122 [.agg #[r.1, r.2.1, r.2.2.1, r.2.2.2]] X fun u _ => u = .int .i64 (sizE e : Int) := by
  induction N with
  | zero => intro X e r h; cases e; rw [wtE] at h; omega
  | succ N ih =>
    intro X e r hN hB h
    cases h with
    | @mk op n ns al vn va rows hn ha hl hr =>
    obtain ⟨Aa, ca, rfl⟩ := ha.form
    have hlen := wtL_len al
    rw [wtE] at hN
    refine Spec.enter Tryz.func122 rfl Tryz.ntmps122 rfl ?_
    intro w0 hw0
    refine T.seq <| T.region <| SL.w (op_box rfl) ?_
    rintro _ _ _ ⟨B1, rfl, rfl, rfl⟩
    refine SL.v (op_assign (v := .int .i64 ((0 : Nat) : Int)) rfl) <| SL.nil <| T.seq <| T.region <| SL.v (op_assign (v := .int .i64 ((1 : Nat) : Int)) rfl) <| SL.nil <| T.seq <| T.seq <| T.region <| SL.v (op_fieldAddr fa70_3 rfl) <| SL.v (op_load ty68 rfl (by repeat constructor) rfl) ?_
    refine SL.v (op_lenS Tryz.underlying68 rfl) <| SL.v (op_move (v := .int .i64 ((0 : Nat) : Int)) rfl) <| SL.nil <| T.block <| T.drop B1 (by repeat constructor) ?_
    refine T.loopW (fun m env own X' => ∃ i : Nat, m = rows.length - i ∧ i ≤ rows.length ∧ X.le X' ∧ env = [(3, .int .i64 ((sizL (al.take i) + 1 : Nat) : Int)), (7, .slice Aa rows.length ca), (8, .int .i64 (rows.length : Int)), (9, .int .i64 (i : Int))] ∧ own = []) rows.length ⟨0, by simp, by omega, PMap.le_refl _, rfl, rfl⟩ (by repeat (first | exact Sub.nil | refine Sub.cons rfl ?_)) ?_
    rintro m _ _ X1 ⟨i, rfl, hi, hX1, rfl, rfl⟩
    have hdw := fun l : List Ex => depL_wt l
    rcases Nat.lt_or_ge i rows.length with hil | hil
    · obtain ⟨r2, hr2⟩ : ∃ r2, rows[i]? = some r2 := ⟨_, List.getElem?_eq_getElem hil⟩
      obtain ⟨a, ha2⟩ : ∃ a, al[i]? = some a := ⟨_, List.getElem?_eq_getElem (by omega)⟩
      have hra := hr i a r2 ha2 hr2
      obtain ⟨bA, pre, rfl, hbA⟩ := ha.blk (by omega)
      obtain ⟨_, _, _, _, _, _, _, _, rfl⟩ := hra.form
      have hwa := wtL_mem (List.mem_of_getElem? ha2)
      have hts := take_snoc ha2
      have hw1 : wtL (al.take (i + 1)) ≤ wtL al := by
        have := wtL_app (al.drop (i + 1)) (al.take (i + 1))
        rw [List.take_append_drop] at this; omega
      have hw2 : wtL (al.take (i + 1)) = wtL (al.take i) + wtE a := by rw [hts, wtL_snoc]
      have q1 := sizL_wt (al.take i)
      have q2 := siz_wt a
      have q3 := depL_wt (al.take i)
      have q4 := dep_wt a
      refine T.seq <| T.region <| SL.v (op_lssT rfl rfl (by omega)) ?_
      refine SL.nil <| T.seq <| T.condT rfl <| T.skip <| T.seq <| T.block <| T.seq <| T.region <| SL.v (op_indexN Tryz.underlying68 ty70 rfl rfl (by omega)) ?_
      refine SL.v (op_loadX ty70 rfl (hbA.mono hX1) (row_read rc4_len hr2 (by omega))) ?_
      refine SL.w (op_alloc z70) ?_
      rintro _ _ _ ⟨B5, rfl, rfl, rfl⟩
      refine SL.w (op_store ty70 rfl rfl (by repeat constructor) rfl rfl rfl) ?_
      rintro _ _ _ ⟨rfl, rfl⟩
      refine SL.nil <| T.region <| SL.mv rfl <| SL.v (op_load ty70 rfl (by repeat constructor) rfl) ?_
      refine SL.w (op_callF en122 (vs := [_]) rfl (ih (by omega) (by omega) (hra.mono hX1))) ?_
      rintro _ _ X2 ⟨rfl, hX2, rfl⟩
      refine SL.v (op_addN rfl rfl (by omega)) ?_
      rw [show sizL (al.take i) + 1 + sizE a = sizL (al.take (i + 1)) + 1 by rw [hts, sizL_snoc]; omega]
      refine SL.as rfl <| SL.nil <| T.blk <| T.region <| SL.v (op_addN (q := 1) rfl rfl (by omega)) ?_
      refine SL.mv rfl <| SL.nil <| T.drop B5 (by repeat constructor) ?_
      exact T.backW (rows.length - (i + 1)) (by omega) ⟨i + 1, rfl, by omega, hX1.trans' hX2, rfl, rfl⟩ (by repeat (first | exact Sub.nil | refine Sub.cons rfl ?_))
    · obtain rfl : i = rows.length := by omega
      rw [show al.take rows.length = al from List.take_of_length_le (by omega)]
      have q1 := sizL_wt al
      have q3 := depL_wt al
      refine T.seq <| T.region <| SL.v (op_lssF rfl rfl (by omega)) ?_
      refine SL.nil <| T.seq <| T.condF rfl ?_
      refine T.exit (T.exitCode (T.exitCut (T.exitBlk ?_)))
      refine T.seq <| T.region <| SL.mv rfl <| SL.as rfl <| SL.nil <| T.ret1 rfl (ResIs.tmp rfl) ?_
      rw [sizE]
end Go.Proofs.YtnpcilglilfajaaGreatDoor
namespace Go.Proofs.YtnpcilglilfajaaGreatDoor
section
set_option maxRecDepth 100000
theorem bs9 : ∃ i z, Tryz.prog.info? 9 = some i ∧ i.size = 1 ∧ i.zero = some z ∧ z.cells = ([.string ⟨#[]⟩] : List Value).toArray := bs_of (by kernel_rfl)
theorem en81 : Enters Tryz.prog 81 := enters_mk Tryz.func81 (by kernel_rfl) rfl
theorem en82 : Enters Tryz.prog 82 := enters_mk Tryz.func82 (by kernel_rfl) rfl
theorem en83 : Enters Tryz.prog 83 := enters_mk Tryz.func83 (by kernel_rfl) rfl
theorem fa70_2 : FAdr Tryz.prog 70 2 2 := fadr_mk Tryz.underlying70 rfl rfl (by kernel_rfl)
theorem sl59 : SlT Tryz.prog 59 9 1 16 := ⟨Tryz.underlying59, sl_of (by kernel_rfl) (by decide)⟩
theorem ty59 : Ty Tryz.prog 59 false 1 := ⟨⟨_, Tryz.underlying59, rfl⟩, by kernel_rfl⟩
end
open Go.RowKit
mutual
def allE : Ex → List ByteArray
  | .mk _ _ ns al => ns ++ allL al
def allL : List Ex → List ByteArray
  | [] => []
  | a :: al => allE a ++ allL al
end
theorem allL_app (b : List Ex) : ∀ l : List Ex, allL (l ++ b) = allL l ++ allL b
  | [] => by simp [allL]
  | x :: l => by rw [List.cons_append, allL, allL, allL_app b l, List.append_assoc]
theorem allL_snoc (a : Ex) (l : List Ex) : allL (l ++ [a]) = allL l ++ allE a := by rw [allL_app]; simp [allL]
mutual
theorem all_wt : ∀ e : Ex, (allE e).length + 1 ≤ wtE e
  | .mk _ _ ns al => by
    have := allL_wt al
    have := wtS_len ns
    rw [allE, wtE, List.length_append]; omega
theorem allL_wt : ∀ l : List Ex, (allL l).length ≤ wtL l
  | [] => by simp [allL]
  | a :: al => by
    have := all_wt a
    have := allL_wt al
    rw [allL, wtL, List.length_append]; omega
end
theorem strsC_app (l m : List ByteArray) : strsC (l ++ m) = strsC l ++ strsC m := by simp [strsC]
theorem strsC_one (l : List ByteArray) : ∀ y ∈ strsC l, y.oneCell' = true := fun y hy => by
  obtain ⟨s, _, rfl⟩ := List.mem_map.1 hy; rfl
theorem gather_spec (N : Nat) : ∀ {X : PMap} {e : Ex} {r : Row4} {lv : Value} {l : List ByteArray} {G : Own}, wtE e ≤ N → l.length + wtE e < 1000000000 → ExR .u8 X e r → GrowS 9 1 lv l.length (strsC l) G →
    SpecM Tryz.prog 81 [lv, .agg #[r.1, r.2.1, r.2.2.1, r.2.2.2]] X G fun u L' _ => GrowS 9 1 u (l ++ allE e).length (strsC (l ++ allE e)) L' := by
  induction N with
  | zero => intro X e r lv l G h; cases e; rw [wtE] at h; omega
  | succ N ih =>
    intro X e r lv l G hN hB h hG
    have hmx : maxLen = 9223372036854775807 := rfl
    cases h with
    | @mk op n ns al vn va rows hn ha hl hr =>
    obtain ⟨Aa, ca, rfl⟩ := ha.form
    obtain ⟨An, cn, rfl⟩ := hn.form
    have hlen := wtL_len al
    have hnl := wtS_len ns
    rw [wtE] at hN hB
    have hsrc := fun (own : Own) => Src.ofRow (own := own) strC_len hn
    simp only [strsC_flat] at hsrc
    refine SpecM.enter Tryz.func81 rfl Tryz.ntmps81 rfl ?_
    intro w0 X0 own0
    refine T.seq <| T.region <| SL.w (op_box rfl) ?_
    rintro _ _ _ ⟨B3, rfl, rfl, rfl⟩
    refine SL.as rfl <| SL.nil <| T.seq <| T.region <| SL.mv rfl <| SL.v (op_fieldAddr fa70_2 rfl) <| SL.v (op_load ty59 rfl (by repeat constructor) rfl) ?_
    refine SL.perm (own' := (⟨B3, [.int .u8 (op : Int), .int .i64 n, .slice An ns.length cn, .slice Aa rows.length ca], 70, 4⟩ :: own0) ++ G) permA ?_
    refine SL.w (op_appendGA sl59 rfl hG rfl (hsrc _) (strsC_one ns) (by omega) (by omega)) ?_
    rintro lv1 _ _ ⟨G1, rfl, rfl, hG1⟩
    rw [← strsC_app, ← List.length_append] at hG1
    refine SL.as rfl <| SL.nil <| T.seq <| T.seq <| T.region <| SL.v (op_fieldAddr fa70_3 rfl) <| SL.v (op_load ty68 rfl (by repeat constructor) rfl) ?_
    refine SL.v (op_lenS Tryz.underlying68 rfl) <| SL.v (op_move (v := .int .i64 ((0 : Nat) : Int)) rfl) <| SL.nil <| T.block <| T.less (own' := own0 ++ G1) (List.sublist_cons_self ..) ?_
    refine T.perm (own' := G1 ++ own0) List.perm_append_comm ?_
    refine T.loopW (fun m env own X' => ∃ (i : Nat) (lv : Value) (G : Own), m = rows.length - i ∧ i ≤ rows.length ∧ X.le X' ∧ GrowS 9 1 lv (l ++ ns ++ allL (al.take i)).length (strsC (l ++ ns ++ allL (al.take i))) G ∧ env = [(0, lv), (12, .slice Aa rows.length ca), (13, .int .i64 (rows.length : Int)), (14, .int .i64 (i : Int))] ∧ own = G ++ own0) rows.length ⟨0, _, _, by simp, by omega, PMap.le_refl _, by simpa [allL] using hG1, rfl, rfl⟩ (by repeat (first | exact Sub.nil | refine Sub.cons rfl ?_)) ?_
    rintro m _ _ X1 ⟨i, lv2, G2, rfl, hi, hX1, hG2, rfl, rfl⟩
    rcases Nat.lt_or_ge i rows.length with hil | hil
    · obtain ⟨r2, hr2⟩ : ∃ r2, rows[i]? = some r2 := ⟨_, List.getElem?_eq_getElem hil⟩
      obtain ⟨a, ha2⟩ : ∃ a, al[i]? = some a := ⟨_, List.getElem?_eq_getElem (by omega)⟩
      have hra := hr i a r2 ha2 hr2
      obtain ⟨bA, pre, rfl, hbA⟩ := ha.blk (by omega)
      obtain ⟨_, _, _, _, _, _, _, _, rfl⟩ := hra.form
      have hts := take_snoc ha2
      have hw1 : wtL (al.take (i + 1)) ≤ wtL al := by
        have := wtL_app (al.drop (i + 1)) (al.take (i + 1))
        rw [List.take_append_drop] at this; omega
      have hw2 : wtL (al.take (i + 1)) = wtL (al.take i) + wtE a := by rw [hts, wtL_snoc]
      have q1 := allL_wt (al.take i)
      have q2 := all_wt a
      refine T.seq <| T.region <| SL.v (op_lssT rfl rfl (by omega)) ?_
      refine SL.nil <| T.seq <| T.condT rfl <| T.skip <| T.seq <| T.block <| T.seq <| T.region <| SL.v (op_indexN Tryz.underlying68 ty70 rfl rfl (by omega)) ?_
      refine SL.v (op_loadX ty70 rfl (hbA.mono hX1) (row_read rc4_len hr2 (by omega))) ?_
      refine SL.w (op_alloc z70) ?_
      rintro _ _ _ ⟨B6, rfl, rfl, rfl⟩
      refine SL.w (op_store ty70 rfl rfl (by repeat constructor) rfl rfl rfl) ?_
      rintro _ _ _ ⟨rfl, rfl⟩
      refine SL.nil <| T.region <| SL.mv rfl <| SL.v (op_load ty70 rfl (by repeat constructor) rfl) ?_
      refine SL.perm (own' := G2 ++ (_ :: own0)) List.perm_middle.symm ?_
      refine SL.w (op_callM en81 (vs := [_, _]) rfl (ih (by omega) (by simp only [List.length_append]; omega) (hra.mono hX1) hG2) rfl) ?_
      rintro lv3 _ X2 ⟨G3, rfl, hX2, hG3⟩
      rw [show l ++ ns ++ allL (al.take i) ++ allE a = l ++ ns ++ allL (al.take (i + 1)) by rw [hts, allL_snoc]; simp] at hG3
      refine SL.as rfl <| SL.nil <| T.blk <| T.region <| SL.v (op_addN (q := 1) rfl rfl (by omega)) ?_
      refine SL.mv rfl <| SL.nil <| T.less (own' := G3 ++ own0) (List.Sublist.append_left (List.sublist_cons_self ..) _) ?_
      exact T.backW (rows.length - (i + 1)) (by omega) ⟨i + 1, _, _, rfl, by omega, hX1.trans' hX2, hG3, rfl, rfl⟩ (by repeat (first | exact Sub.nil | refine Sub.cons rfl ?_))
    · obtain rfl : i = rows.length := by omega
      rw [show al.take rows.length = al from List.take_of_length_le (by omega)] at hG2
      refine T.seq <| T.region <| SL.v (op_lssF rfl rfl (by omega)) ?_
      refine SL.nil <| T.seq <| T.condF rfl ?_
      refine T.exit (T.exitCode (T.exitCut (T.exitBlk ?_)))
      refine T.seq <| T.region <| SL.mv rfl <| SL.as rfl <| SL.nil <| T.retM1 G2 rfl (ResIs.tmp rfl) (List.Perm.refl _) ?_
      refine ⟨hX1, ?_⟩
      rw [allE, ← List.append_assoc]
      exact hG2
theorem compact_snoc : ∀ (l : List ByteArray) (a b : ByteArray), compactS (l ++ [a] ++ [b]) = compactS (l ++ [a]) ++ (if a = b then [] else [b])
  | [], a, b => by
    simp only [List.nil_append, List.cons_append, compactS]
    split <;> simp_all
  | [x], a, b => by
    simp only [List.cons_append, List.nil_append, compactS]
    split <;> split <;> simp_all
  | x :: y :: l, a, b => by
    have := compact_snoc (y :: l) a b
    simp only [List.cons_append] at this ⊢
    rw [compactS, compactS, this]
    split
    · rfl
    · rfl
theorem compact_step {l : List ByteArray} {j : Nat} {a b : ByteArray} (ha : l[j]? = some a) (hb : l[j + 1]? = some b) : compactS (l.take (j + 2)) = compactS (l.take (j + 1)) ++ (if a = b then [] else [b]) := by
  rw [take_snoc hb, take_snoc ha, compact_snoc]
theorem set_take {α : Type} {l : List α} {k j : Nat} {x : α} (h : j < l.length) (hk : j = k) : (l.set j x).take (k + 1) = l.take k ++ [x] := by
  subst hk
  rw [List.take_succ_eq_append_getElem (by rw [List.length_set]; exact h), List.getElem_set_self, List.take_set_of_le (Nat.le_refl _)]
def zS (k : Nat) : List Value := (List.replicate k [Value.string ⟨#[]⟩]).flatten
theorem zS_len (k : Nat) : (zS k).length = k := by
  induction k with
  | zero => rfl
  | succ k ih => simp only [zS, List.replicate_succ, List.flatten_cons, List.length_append, List.length_cons, List.length_nil] at ih ⊢; omega
theorem csets_end : ∀ (vs pre old : List Value), old.length = vs.length → csets (pre ++ old) pre.length vs = pre ++ vs
  | [], pre, old, h => by
    obtain rfl := List.eq_nil_of_length_eq_zero (l := old) (by simpa using h)
    simp [csets]
  | v :: vs, pre, o :: old, h => by
    rw [csets, List.set_append_right _ _ (Nat.le_refl _), Nat.sub_self]
    have := csets_end vs (pre ++ [v]) old (by simpa using h)
    rw [List.length_append] at this
    simpa using this
theorem compact_spec {X : PMap} {b cap : Nat} {l : List ByteArray} (h0 : 0 < l.length) (hl : l.length < 1000000) (hc : l.length ≤ cap) : SpecM Tryz.prog 83 [.slice (some ⟨b, 0, none⟩) l.length cap] X [⟨b, strsC l, 9, cap * 1⟩] fun u L' _ => u = .slice (some ⟨b, 0, none⟩) (compactS l).length cap ∧ L' = [⟨b, strsC (compactS l), 9, cap * 1⟩] := by
  have hmx : maxLen = 9223372036854775807 := rfl
  rcases Nat.lt_or_ge l.length 2 with h2 | h2
  · obtain ⟨a, rfl⟩ : ∃ a, l = [a] := by
      match l, h0, h2 with
      | [a], _, _ => exact ⟨a, rfl⟩
    refine SpecM.enter Tryz.func83 rfl Tryz.ntmps83 rfl ?_
    intro w0 X0 own0
    refine T.seq <| T.region <| SL.as rfl <| SL.nil <| T.seq <| T.seq <| T.region <| SL.mv rfl <| SL.v (op_lenS Tryz.underlying59 rfl) <| SL.v (op_lssT rfl rfl (by omega)) ?_
    refine SL.nil <| T.condT rfl <| T.seq <| T.region <| SL.mv rfl <| SL.as rfl <| SL.nil <| T.retM1 [⟨b, strsC [a], 9, cap * 1⟩] rfl (ResIs.tmp rfl) (List.Perm.refl _) ?_
    exact ⟨PMap.le_refl _, rfl, rfl⟩
  refine SpecM.enter Tryz.func83 rfl Tryz.ntmps83 rfl ?_
  intro w0 X0 own0
  refine T.perm (own' := ⟨b, strsC l, 9, cap * 1⟩ :: own0) (List.Perm.refl _) ?_
  refine T.seq <| T.region <| SL.as rfl <| SL.nil <| T.seq <| T.seq <| T.region <| SL.mv rfl <| SL.v (op_lenS Tryz.underlying59 rfl) <| SL.v (op_lssF rfl rfl (by omega)) ?_
  refine SL.nil <| T.condF rfl <| T.skip <| T.seq <| T.seq <| T.region <| SL.v (op_assign (v := .int .i64 ((1 : Nat) : Int)) rfl) <| SL.nil <| T.block <| T.loopW (fun m env own X' => ∃ k : Nat, m = l.length - k ∧ 1 ≤ k ∧ k ≤ l.length ∧ X.le X' ∧ compactS (l.take k) = l.take k ∧ env = [(0, .slice (some ⟨b, 0, none⟩) l.length cap), (3, .int .i64 (k : Int))] ∧ own = ⟨b, strsC l, 9, cap * 1⟩ :: own0) (l.length - 1) ⟨1, rfl, by omega, by omega, PMap.le_refl _, by (match l, h0 with | a :: l, _ => rfl), rfl, rfl⟩ (by repeat (first | exact Sub.nil | refine Sub.cons rfl ?_)) ?_
  rintro m _ _ X1 ⟨k, rfl, hk1, hk, hX1, hcp, rfl, rfl⟩
  rcases Nat.lt_or_ge k l.length with hkl | hkl
  · obtain ⟨q, rfl⟩ : ∃ q, k = q + 1 := ⟨k - 1, by omega⟩
    obtain ⟨x, hx⟩ : ∃ x, l[q + 1]? = some x := ⟨_, List.getElem?_eq_getElem (by omega)⟩
    obtain ⟨p, hp⟩ : ∃ p, l[q]? = some p := ⟨_, List.getElem?_eq_getElem (by omega)⟩
    have hcs := compact_step hp hx
    refine T.seq <| T.seq <| T.region <| SL.mv rfl <| SL.mv rfl <| SL.v (op_lenS Tryz.underlying59 rfl) <| SL.v (op_lssT rfl rfl (by omega)) ?_
    refine SL.nil <| T.condT rfl <| T.skip <| T.seq <| T.block <| T.seq <| T.draw (by kernel_rfl) 10 [.t 0, .t 1, .t 2, .t 3, .t 4, .t 5, .t 6, .t 7, .t 8, .t 9] (by kernel_rfl) ?_
    refine SD.take rfl panicBody (op_move rfl) rfl rfl ?_
    refine SD.take rfl panicBody (op_move rfl) rfl rfl ?_
    refine SD.take rfl panicBody (op_indexN Tryz.underlying59 ty9 rfl rfl (by omega)) rfl rfl ?_
    refine SD.take rfl panicBody (op_load ty9 rfl (by repeat constructor) (cread1k' (strsC_at hx) (by omega))) rfl rfl ?_
    refine SD.take rfl panicBody (op_move rfl) rfl rfl ?_
    refine SD.take rfl panicBody (op_move rfl) rfl rfl ?_
    refine SD.take rfl panicBody (op_subN (q := 1) rfl rfl (by omega) (by omega)) rfl rfl ?_
    refine SD.take rfl panicBody (op_indexN Tryz.underlying59 ty9 rfl rfl (by omega)) rfl rfl ?_
    refine SD.take rfl panicBody (op_load ty9 rfl (by repeat constructor) (cread1k' (strsC_at hp) (by omega))) rfl rfl ?_
    refine SD.take rfl panicBody (op_eqlStrD rfl rfl) rfl rfl ?_
    refine SD.nil ?_
    show SL _ _ _ _ _ _ _ [] _ _ _
    refine SL.nil ?_
    by_cases hxp : x = p
    · rw [decide_eq_true hxp]
      rw [if_pos hxp.symm, List.append_nil] at hcs
      refine T.condT rfl <| T.seq <| T.region <| SL.mv rfl <| SL.mv rfl <| SL.v (op_sliceLoN (l := q + 1) Tryz.underlying59 ty9 rfl rfl rfl (by omega) (by omega) (by omega)) ?_
      refine SL.as rfl <| SL.nil <| T.seq <| T.seq <| T.region <| SL.v (op_assign (v := .int .i64 ((1 : Nat) : Int)) rfl) <| SL.nil <| T.block <| T.loopW (fun m env own X' => ∃ (k2 k : Nat) (cs : List ByteArray), m = l.length - (q + 1) - k2 ∧ 1 ≤ k2 ∧ k2 ≤ l.length - (q + 1) ∧ X1.le X' ∧ k ≤ q + k2 ∧ cs.length = l.length ∧ cs.take k = compactS (l.take (q + 1 + k2)) ∧ k = (compactS (l.take (q + 1 + k2))).length ∧ (∀ w, q + k2 ≤ w → cs[w]? = l[w]?) ∧ env = [(0, .slice (some ⟨b, 0, none⟩) l.length cap), (3, .int .i64 (k : Int)), (4, .slice (some ⟨b, 0 + (q + 1) * 1, none⟩) (l.length - (q + 1)) (cap - (q + 1))), (5, .int .i64 (k2 : Int))] ∧ own = ⟨b, strsC cs, 9, cap * 1⟩ :: own0) (l.length - (q + 1) - 1) ⟨1, q + 1, l, rfl, by omega, by omega, PMap.le_refl _, by omega, rfl, by rw [hcs, hcp], by rw [hcs, hcp, List.length_take]; omega, fun _ _ => rfl, rfl, rfl⟩ (by repeat (first | exact Sub.nil | refine Sub.cons rfl ?_)) ?_
      rintro m _ _ X2 ⟨k2, k, cs, rfl, hk21, hk2, hX2, hkk, hcl, hct, hkc, hun, rfl, rfl⟩
      rcases Nat.lt_or_ge k2 (l.length - (q + 1)) with hk3 | hk3
      · obtain ⟨x2, hx2⟩ : ∃ x, l[q + k2 + 1]? = some x := ⟨_, List.getElem?_eq_getElem (by omega)⟩
        obtain ⟨p2, hp2⟩ : ∃ p, l[q + k2]? = some p := ⟨_, List.getElem?_eq_getElem (by omega)⟩
        have hcs2 := compact_step hp2 hx2
        rw [show q + k2 + 2 = q + 1 + (k2 + 1) by omega, show q + k2 + 1 = q + 1 + k2 by omega] at hcs2
        have hx3 := (hun (q + k2 + 1) (by omega)).trans hx2
        have hp3 := (hun (q + k2) (by omega)).trans hp2
        refine T.seq <| T.seq <| T.region <| SL.mv rfl <| SL.mv rfl <| SL.v (op_lenS Tryz.underlying59 rfl) <| SL.v (op_lssT rfl rfl (by omega)) ?_
        refine SL.nil <| T.condT rfl <| T.skip <| T.seq <| T.block <| T.seq <| T.draw (by kernel_rfl) 10 [.t 0, .t 1, .t 2, .t 3, .t 4, .t 5, .t 6, .t 7, .t 8, .t 9] (by kernel_rfl) ?_
        refine SD.take rfl panicBody (op_move rfl) rfl rfl ?_
        refine SD.take rfl panicBody (op_move rfl) rfl rfl ?_
        refine SD.take rfl panicBody (op_indexN Tryz.underlying59 ty9 rfl rfl (by omega)) rfl rfl ?_
        refine SD.take rfl panicBody (op_load ty9 rfl (by repeat constructor) (cread1k' (strsC_at hx3) (by omega))) rfl rfl ?_
        refine SD.take rfl panicBody (op_move rfl) rfl rfl ?_
        refine SD.take rfl panicBody (op_move rfl) rfl rfl ?_
        refine SD.take rfl panicBody (op_subN (q := 1) rfl rfl (by omega) (by omega)) rfl rfl ?_
        refine SD.take rfl panicBody (op_indexN Tryz.underlying59 ty9 rfl rfl (by omega)) rfl rfl ?_
        refine SD.take rfl panicBody (op_load ty9 rfl (by repeat constructor) (cread1k' (strsC_at hp3) (by omega))) rfl rfl ?_
        refine SD.take rfl panicBody (op_neqStrD rfl rfl) rfl rfl ?_
        refine SD.nil ?_
        show SL _ _ _ _ _ _ _ [] _ _ _
        refine SL.nil ?_
        by_cases hxp2 : x2 = p2
        · rw [decide_eq_true hxp2, Bool.not_true]
          rw [if_pos hxp2.symm, List.append_nil] at hcs2
          refine T.condF rfl <| T.skip <| T.blk <| T.region <| SL.mv rfl <| SL.v (op_addN (q := 1) rfl rfl (by omega)) ?_
          refine SL.as rfl <| SL.nil ?_
          exact T.backW (l.length - (q + 1) - (k2 + 1)) (by omega) ⟨k2 + 1, k, cs, rfl, by omega, by omega, hX2, by omega, hcl, by rw [hcs2]; exact hct, by rw [hcs2]; exact hkc, fun w hw => hun w (by omega), rfl, rfl⟩ (by repeat (first | exact Sub.nil | refine Sub.cons rfl ?_))
        · rw [decide_eq_false hxp2, Bool.not_false]
          rw [if_neg fun h => hxp2 h.symm] at hcs2
          refine T.condT rfl <| T.seq <| T.region <| SL.mv rfl <| SL.mv rfl <| SL.mv rfl <| SL.mv rfl <| SL.v (op_indexN Tryz.underlying59 ty9 rfl rfl (by omega)) ?_
          refine SL.v (op_load ty9 rfl (by repeat constructor) (cread1k' (strsC_at hx3) (by omega))) ?_
          refine SL.v (op_indexN Tryz.underlying59 ty9 rfl rfl (by omega)) ?_
          refine SL.w (op_store ty9 rfl rfl (by repeat constructor) rfl rfl (Nat.ble_eq_true_of_le (by rw [strsC_len]; omega))) ?_
          rintro _ _ _ ⟨rfl, rfl⟩
          refine SL.perm (own' := ⟨b, strsC (cs.set k x2), 9, cap * 1⟩ :: own0) (List.Perm.of_eq (by rw [← strsC_set]; simp only [Nat.zero_add, Nat.mul_one]; rfl)) ?_
          refine SL.nil <| T.region <| SL.mv rfl <| SL.v (op_addN (q := 1) rfl rfl (by omega)) ?_
          refine SL.as rfl <| SL.nil <| T.blk <| T.region <| SL.mv rfl <| SL.v (op_addN (q := 1) rfl rfl (by omega)) ?_
          refine SL.as rfl <| SL.nil ?_
          exact T.backW (l.length - (q + 1) - (k2 + 1)) (by omega) ⟨k2 + 1, k + 1, cs.set k x2, rfl, by omega, by omega, hX2, by omega, by rw [List.length_set]; exact hcl, by rw [set_take (by omega) rfl, hct, hcs2], by rw [hcs2, List.length_append]; simp; omega, fun w hw => by rw [List.getElem?_set_ne (by omega)]; exact hun w (by omega), rfl, rfl⟩ (by repeat (first | exact Sub.nil | refine Sub.cons rfl ?_))
      · obtain rfl : k2 = l.length - (q + 1) := by omega
        have hfull : l.take (q + 1 + (l.length - (q + 1))) = l := List.take_of_length_le (by omega)
        rw [hfull] at hct hkc
        refine T.seq <| T.seq <| T.region <| SL.mv rfl <| SL.mv rfl <| SL.v (op_lenS Tryz.underlying59 rfl) <| SL.v (op_lssF rfl rfl (by omega)) ?_
        refine SL.nil <| T.condF rfl ?_
        refine T.exit (T.exitCode (T.exitCut (T.exitBlk ?_)))
        refine T.seq <| T.region <| SL.mv rfl <| SL.mv rfl <| SL.v (op_sliceLoN (l := k) Tryz.underlying59 ty9 rfl rfl rfl (by omega) (by omega) (by omega)) ?_
        refine SL.w (op_clear (zs := [.string ⟨#[]⟩]) Tryz.underlying59 (by obtain ⟨i, z, a, _, b, c⟩ := bs9; exact ⟨i, z, a, b, c⟩) rfl AtO.here (by omega) (by rw [strsC_len]; simp; omega) (by intro v hv; simp at hv; subst hv; rfl)) ?_
        rintro _ _ _ ⟨rfl, rfl⟩
        refine SL.perm (own' := ⟨b, strsC (compactS l) ++ zS (l.length - k), 9, cap * 1⟩ :: own0) (List.Perm.of_eq (by
          have e1 : strsC cs = strsC (compactS l) ++ strsC (cs.drop k) := by rw [← strsC_app, ← hct, List.take_append_drop]
          have e2 := csets_end (zS (l.length - k)) (strsC (compactS l)) (strsC (cs.drop k)) (by rw [strsC_len, zS_len, List.length_drop, hcl])
          rw [strsC_len, ← hkc] at e2
          rw [← e2, ← e1, show 0 + k * 1 = k by omega]
          rfl)) ?_
        refine SL.cut AtO.here ?_
        refine SL.nil <| T.seq <| T.region <| SL.mv rfl <| SL.mv rfl <| SL.v (op_sliceHiN (l := k) Tryz.underlying59 ty9 rfl rfl rfl (by omega)) ?_
        refine SL.as rfl <| SL.nil <| T.retM1 [⟨b, strsC (compactS l), 9, cap * 1⟩] rfl (ResIs.tmp rfl) (List.Perm.refl _) ?_
        exact ⟨hX1.trans' hX2, by rw [← hkc], rfl⟩
    · rw [decide_eq_false hxp]
      rw [if_neg fun h => hxp h.symm] at hcs
      refine T.condF rfl <| T.skip <| T.blk <| T.region <| SL.mv rfl <| SL.v (op_addN (q := 1) rfl rfl (by omega)) ?_
      refine SL.as rfl <| SL.nil ?_
      exact T.backW (l.length - (q + 1 + 1)) (by omega) ⟨q + 1 + 1, rfl, by omega, by omega, hX1, by rw [hcs, hcp, take_snoc hx], rfl, rfl⟩ (by repeat (first | exact Sub.nil | refine Sub.cons rfl ?_))
  · obtain rfl : k = l.length := by omega
    rw [List.take_length] at hcp
    refine T.seq <| T.seq <| T.region <| SL.mv rfl <| SL.mv rfl <| SL.v (op_lenS Tryz.underlying59 rfl) <| SL.v (op_lssF rfl rfl (by omega)) ?_
    refine SL.nil <| T.condF rfl ?_
    refine T.exit (T.exitCode (T.exitCut (T.exitBlk ?_)))
    refine T.seq <| T.region <| SL.mv rfl <| SL.as rfl <| SL.nil <| T.retM1 [⟨b, strsC l, 9, cap * 1⟩] rfl (ResIs.tmp rfl) (List.Perm.refl _) ?_
    exact ⟨hX1, by rw [hcp], by rw [hcp]⟩
/-- The names of an expression, as the program lists them: at most twelve. -/
theorem names_spec {X : PMap} {e : Ex} {r : Row4} (hw : wtE e < 100000000) (h : ExR .u8 X e r) (h1 : 0 < (allE e).length) (h12 : (allE e).length ≤ 12) : Spec Tryz.prog 35 [.agg #[r.1, r.2.1, r.2.2.1, r.2.2.2]] X fun u X' => ∃ l' : List ByteArray, l'.Perm (allE e) ∧ AscS l' ∧ RowR strC X' u (compactS l') := by
  obtain ⟨_, _, _, _, _, _, _, _, rfl⟩ := h.form
  have hmx : maxLen = 9223372036854775807 := rfl
  refine Spec.enter Tryz.func35 rfl Tryz.ntmps35 rfl ?_
  intro w0 hw0
  refine T.seq <| T.region <| SL.w (op_box rfl) ?_
  rintro _ _ _ ⟨B1, rfl, rfl, rfl⟩
  refine SL.as rfl <| SL.nil <| T.seq <| T.region <| SL.v (op_load ty70 rfl (by repeat constructor) rfl) ?_
  refine SL.w (op_callM en81 (vs := [_, _]) rfl (gather_spec _ (Nat.le_refl _) (l := []) (by simp; omega) h GrowS.nil) rfl) ?_
  rintro lv _ X1 ⟨G, rfl, hX1, hG⟩
  rw [List.nil_append] at hG
  obtain ⟨b, cap, rfl, rfl, hc1, hc2⟩ := hG.pos h1
  refine SL.as rfl <| SL.nil <| T.seq <| T.region <| SL.mv rfl <| SL.w (op_callM en82 (vs := [_]) rfl (sort_spec h1 h12) rfl) ?_
  rintro _ _ X2 ⟨_, rfl, hX2, l', rfl, hp, ha⟩
  have hpl := hp.length_eq
  rw [← hpl]
  refine SL.nil <| T.seq <| T.region <| SL.mv rfl <| SL.w (op_callM en83 (vs := [_]) rfl (compact_spec (by omega) (by omega) (by omega)) rfl) ?_
  rintro _ _ X3 ⟨_, rfl, hX3, rfl, rfl⟩
  refine SL.as rfl <| SL.nil <| T.pub b (by repeat constructor) ?_
  intro X4 hX4 hB4 _
  refine T.ret1 rfl (ResIs.tmp rfl) ?_
  refine ⟨l', hp, ha, ?_⟩
  rcases Nat.eq_zero_or_pos (compactS l').length with h0 | h0
  · rw [h0]
    exact .inl ⟨List.eq_nil_of_length_eq_zero h0, _, _, rfl⟩
  · have := compact_len l'
    exact .inr ⟨h0, b, cap, [], rfl, by rw [strsC_flat]; exact hB4, by omega, by omega⟩
end Go.Proofs.YtnpcilglilfajaaGreatDoor
namespace Go.Proofs.YtnpcilglilfajaaGreatDoor
section
set_option maxRecDepth 100000
theorem en144 : Enters Tryz.prog 144 := enters_mk Tryz.func144 (by kernel_rfl) rfl
theorem en145 : Enters Tryz.prog 145 := enters_mk Tryz.func145 (by kernel_rfl) rfl
theorem en146 : Enters Tryz.prog 146 := enters_mk Tryz.func146 (by kernel_rfl) rfl
theorem en147 : Enters Tryz.prog 147 := enters_mk Tryz.func147 (by kernel_rfl) rfl
theorem en182 : Enters Tryz.prog 182 := enters_mk Tryz.func182 (by kernel_rfl) rfl
theorem ty229 : Ty Tryz.prog 229 false 1 := ⟨⟨_, Tryz.underlying229, rfl⟩, by kernel_rfl⟩
theorem z229 : Zero Tryz.prog 229 [.nilFunc] := ⟨zero_of (by kernel_rfl)⟩
end
open Go.RowKit
theorem letter_spec {X : PMap} (b : UInt8) : Spec Tryz.prog 146 [.int .u8 (b.toNat : Int)] X fun u _ => u = .bool (letB b) := by
  have hb : b.toNat < 256 := b.toNat_lt
  by_cases h1 : 97 ≤ b.toNat
  · by_cases h2 : b.toNat ≤ 122
    · refine Spec.enter Tryz.func146 rfl Tryz.ntmps146 rfl ?_
      intro w0 hw0
      refine T.seq <| T.region <| SL.as rfl <| SL.nil <| T.seq <| T.region <| SL.mv rfl <| SL.v (op_geqT rfl rfl (by omega)) ?_
      refine SL.mv rfl <| SL.mv rfl <| SL.v (op_leqT rfl rfl (by omega)) ?_
      refine SL.v (op_pickT rfl rfl) <| SL.as rfl <| SL.nil <| T.ret1 rfl (ResIs.tmp rfl) ?_
      rw [letB, decide_eq_true ⟨h1, h2⟩]
    · refine Spec.enter Tryz.func146 rfl Tryz.ntmps146 rfl ?_
      intro w0 hw0
      refine T.seq <| T.region <| SL.as rfl <| SL.nil <| T.seq <| T.region <| SL.mv rfl <| SL.v (op_geqT rfl rfl (by omega)) ?_
      refine SL.mv rfl <| SL.mv rfl <| SL.v (op_leqF rfl rfl (by omega)) ?_
      refine SL.v (op_pickT rfl rfl) <| SL.as rfl <| SL.nil <| T.ret1 rfl (ResIs.tmp rfl) ?_
      rw [letB, decide_eq_false fun h => h2 h.2]
  · refine Spec.enter Tryz.func146 rfl Tryz.ntmps146 rfl ?_
    intro w0 hw0
    refine T.seq <| T.region <| SL.as rfl <| SL.nil <| T.seq <| T.region <| SL.mv rfl <| SL.v (op_geqF rfl rfl (by omega)) ?_
    refine SL.mv rfl <| SL.skip rfl rfl ?_
    refine SL.skip rfl rfl ?_
    refine SL.v (op_pickF rfl rfl) <| SL.as rfl <| SL.nil <| T.ret1 rfl (ResIs.tmp rfl) ?_
    rw [letB, decide_eq_false fun h => h1 h.1]
theorem inner_spec {X : PMap} {B : Nat} (hB : Blk X B [.func (.func 146) #[] #[]]) (b : UInt8) : Spec Tryz.prog 147 [.int .u8 (b.toNat : Int), .pointer (some ⟨B, 0, none⟩)] X fun u _ => u = .bool (innB b) := by
  have hb : b.toNat < 256 := b.toNat_lt
  by_cases h1 : 97 ≤ b.toNat ∧ b.toNat ≤ 122
  · refine Spec.enter Tryz.func147 rfl Tryz.ntmps147 rfl ?_
    intro w0 hw0
    refine T.seq <| T.region <| SL.as rfl <| SL.nil <| T.seq <| T.region <| SL.v (op_loadX ty229 rfl hB rfl) <| SL.mv rfl <| SL.w (op_call en146 rfl (vs := [_]) rfl (letter_spec b)) ?_
    rintro _ _ X2 ⟨rfl, hX2, rfl⟩
    rw [show letB b = true from decide_eq_true h1]
    refine SL.mv rfl <| SL.skip rfl rfl ?_
    refine SL.skip rfl rfl ?_
    refine SL.skip rfl rfl ?_
    refine SL.skip rfl rfl ?_
    refine SL.skip rfl rfl ?_
    refine SL.skip rfl rfl ?_
    refine SL.v (op_pickT rfl rfl) <| SL.mv rfl <| SL.skip rfl rfl ?_
    refine SL.skip rfl rfl ?_
    refine SL.v (op_pickT rfl rfl) <| SL.as rfl <| SL.nil <| T.ret1 rfl (ResIs.tmp rfl) ?_
    rw [innB, decide_eq_true (.inl h1)]
  · by_cases h2 : 48 ≤ b.toNat
    · by_cases h3 : b.toNat ≤ 57
      · refine Spec.enter Tryz.func147 rfl Tryz.ntmps147 rfl ?_
        intro w0 hw0
        refine T.seq <| T.region <| SL.as rfl <| SL.nil <| T.seq <| T.region <| SL.v (op_loadX ty229 rfl hB rfl) <| SL.mv rfl <| SL.w (op_call en146 rfl (vs := [_]) rfl (letter_spec b)) ?_
        rintro _ _ X2 ⟨rfl, hX2, rfl⟩
        rw [show letB b = false from decide_eq_false h1]
        refine SL.mv rfl <| SL.mv rfl <| SL.v (op_geqT rfl rfl (by omega)) ?_
        refine SL.mv rfl <| SL.mv rfl <| SL.v (op_leqT rfl rfl (by omega)) ?_
        refine SL.v (op_pickT rfl rfl) <| SL.v (op_pickF rfl rfl) <| SL.mv rfl <| SL.skip rfl rfl ?_
        refine SL.skip rfl rfl ?_
        refine SL.v (op_pickT rfl rfl) <| SL.as rfl <| SL.nil <| T.ret1 rfl (ResIs.tmp rfl) ?_
        rw [innB, decide_eq_true (.inr (.inl ⟨h2, h3⟩))]
      · by_cases h4 : b.toNat = 95
        · refine Spec.enter Tryz.func147 rfl Tryz.ntmps147 rfl ?_
          intro w0 hw0
          refine T.seq <| T.region <| SL.as rfl <| SL.nil <| T.seq <| T.region <| SL.v (op_loadX ty229 rfl hB rfl) <| SL.mv rfl <| SL.w (op_call en146 rfl (vs := [_]) rfl (letter_spec b)) ?_
          rintro _ _ X2 ⟨rfl, hX2, rfl⟩
          rw [show letB b = false from decide_eq_false h1]
          refine SL.mv rfl <| SL.mv rfl <| SL.v (op_geqT rfl rfl (by omega)) ?_
          refine SL.mv rfl <| SL.mv rfl <| SL.v (op_leqF rfl rfl (by omega)) ?_
          refine SL.v (op_pickT rfl rfl) <| SL.v (op_pickF rfl rfl) <| SL.mv rfl <| SL.mv rfl <| SL.v (op_eqlT rfl rfl (by omega)) ?_
          refine SL.v (op_pickF rfl rfl) <| SL.as rfl <| SL.nil <| T.ret1 rfl (ResIs.tmp rfl) ?_
          rw [innB, decide_eq_true (.inr (.inr h4))]
        · refine Spec.enter Tryz.func147 rfl Tryz.ntmps147 rfl ?_
          intro w0 hw0
          refine T.seq <| T.region <| SL.as rfl <| SL.nil <| T.seq <| T.region <| SL.v (op_loadX ty229 rfl hB rfl) <| SL.mv rfl <| SL.w (op_call en146 rfl (vs := [_]) rfl (letter_spec b)) ?_
          rintro _ _ X2 ⟨rfl, hX2, rfl⟩
          rw [show letB b = false from decide_eq_false h1]
          refine SL.mv rfl <| SL.mv rfl <| SL.v (op_geqT rfl rfl (by omega)) ?_
          refine SL.mv rfl <| SL.mv rfl <| SL.v (op_leqF rfl rfl (by omega)) ?_
          refine SL.v (op_pickT rfl rfl) <| SL.v (op_pickF rfl rfl) <| SL.mv rfl <| SL.mv rfl <| SL.v (op_eqlF rfl rfl (by omega)) ?_
          refine SL.v (op_pickF rfl rfl) <| SL.as rfl <| SL.nil <| T.ret1 rfl (ResIs.tmp rfl) ?_
          rw [innB, decide_eq_false (by omega)]
    · refine Spec.enter Tryz.func147 rfl Tryz.ntmps147 rfl ?_
      intro w0 hw0
      refine T.seq <| T.region <| SL.as rfl <| SL.nil <| T.seq <| T.region <| SL.v (op_loadX ty229 rfl hB rfl) <| SL.mv rfl <| SL.w (op_call en146 rfl (vs := [_]) rfl (letter_spec b)) ?_
      rintro _ _ X2 ⟨rfl, hX2, rfl⟩
      rw [show letB b = false from decide_eq_false h1]
      refine SL.mv rfl <| SL.mv rfl <| SL.v (op_geqF rfl rfl (by omega)) ?_
      refine SL.mv rfl <| SL.skip rfl rfl ?_
      refine SL.skip rfl rfl ?_
      refine SL.v (op_pickF rfl rfl) <| SL.v (op_pickF rfl rfl) <| SL.mv rfl <| SL.mv rfl <| SL.v (op_eqlF rfl rfl (by omega)) ?_
      refine SL.v (op_pickF rfl rfl) <| SL.as rfl <| SL.nil <| T.ret1 rfl (ResIs.tmp rfl) ?_
      rw [innB, decide_eq_false (by omega)]
theorem keyws_spec {X : PMap} : Spec Tryz.prog 145 [] X fun u X' => RowR strC X' u keyws := by
  refine Spec.enter Tryz.func145 rfl Tryz.ntmps145 rfl ?_
  intro w0 hw0
  refine T.seq <| T.region <| SL.as rfl <| SL.nil <| T.seq <| T.region <| SL.w (op_buildSlice Tryz.underlying59 bs9 (qs := [(0, _), (1, _), (2, _), (3, _), (4, _), (5, _), (6, _), (7, _), (8, _), (9, _), (10, _), (11, _), (12, _), (13, _), (14, _), (15, _), (16, _), (17, _), (18, _), (19, _)]) rfl rfl rfl rfl rfl) ?_
  rintro _ _ _ ⟨B1, rfl, rfl, rfl⟩
  refine SL.as rfl <| SL.nil <| T.pub B1 (by repeat constructor) ?_
  intro X1 hX1 hB1 _
  refine T.ret1 rfl (ResIs.tmp rfl) ?_
  exact .inr ⟨by decide, _, _, [], rfl, hB1, by decide, by decide⟩
theorem sindex_spec {X : PMap} {v : Value} {l : List ByteArray} {s : ByteArray} (h : RowR strC X v l) : Spec Tryz.prog 182 [v, .string s] X fun u _ => ∃ k : Int, u = .int .i64 k ∧ (0 ≤ k ↔ s ∈ l) := by
  obtain ⟨A, cp, rfl⟩ := h.form
  have hmx : l = [] ∨ l.length ≤ maxLen := by
    rcases Nat.eq_zero_or_pos l.length with h0 | h0
    · exact .inl (List.eq_nil_of_length_eq_zero h0)
    · have := h.cap h0; exact .inr (by omega)
  have hmx : l.length ≤ maxLen := by
    rcases hmx with rfl | h
    · simp
    · exact h
  have hmv : maxLen = 9223372036854775807 := rfl
  refine Spec.enter Tryz.func182 rfl Tryz.ntmps182 rfl ?_
  intro w0 hw0
  refine T.seq <| T.region <| SL.v (op_assign (v := .int .i64 ((0 : Nat) : Int)) rfl) <| SL.nil <| T.seq <| T.seq <| T.region <| SL.mv rfl <| SL.v (op_lenS Tryz.underlying59 rfl) <| SL.v (op_move (v := .int .i64 ((0 : Nat) : Int)) rfl) <| SL.nil <| T.block <| T.loopW (fun m env own X' => ∃ i : Nat, m = l.length - i ∧ i ≤ l.length ∧ X.le X' ∧ (∀ q x, q < i → l[q]? = some x → x ≠ s) ∧ env = [(0, .slice A l.length cp), (1, .string s), (7, .int .i64 (l.length : Int)), (8, .int .i64 (i : Int))] ∧ own = []) l.length ⟨0, by simp, by omega, PMap.le_refl _, fun q x hq => absurd hq (by omega), rfl, rfl⟩ (by repeat (first | exact Sub.nil | refine Sub.cons rfl ?_)) ?_
  rintro m _ _ X1 ⟨i, rfl, hi, hX1, hne, rfl, rfl⟩
  rcases Nat.lt_or_ge i l.length with hil | hil
  · obtain ⟨x, hx⟩ : ∃ x, l[i]? = some x := ⟨_, List.getElem?_eq_getElem hil⟩
    obtain ⟨b, pre, rfl, hB⟩ := h.blk (by omega)
    refine T.seq <| T.region <| SL.v (op_lssT rfl rfl (by omega)) ?_
    refine SL.nil <| T.seq <| T.condT rfl <| T.skip <| T.seq <| T.block <| T.seq <| T.region <| SL.mv rfl <| SL.as rfl <| SL.nil <| T.seq <| T.region <| SL.mv rfl <| SL.mv rfl ?_
    refine SL.mv rfl <| SL.v (op_indexN Tryz.underlying59 ty9 rfl rfl (by omega)) ?_
    refine SL.v (op_loadX ty9 rfl (hB.mono hX1) (str_read hx (by omega))) ?_
    refine SL.v (op_eqlStrD rfl rfl) <| SL.nil ?_
    by_cases hc : s = x
    · rw [decide_eq_true hc]
      refine T.condT rfl <| T.seq <| T.region <| SL.mv rfl <| SL.as rfl <| SL.nil <| T.ret1 rfl (ResIs.tmp rfl) ?_
      exact ⟨_, rfl, fun _ => hc ▸ List.mem_of_getElem? hx, fun _ => by omega⟩
    · rw [decide_eq_false hc]
      refine T.condF rfl <| T.skip <| T.blk <| T.region <| SL.v (op_addN (q := 1) rfl rfl (by omega)) ?_
      refine SL.mv rfl <| SL.nil ?_
      have hne2 : ∀ (q : Nat) (y : ByteArray), q < i + 1 → l[q]? = some y → y ≠ s := fun q y hq hy => by
        rcases Nat.lt_or_ge q i with h1 | h1
        · exact hne q y h1 hy
        · obtain rfl : q = i := by omega
          rw [hx] at hy; cases hy; exact fun h => hc h.symm
      exact T.backW (l.length - (i + 1)) (by omega) ⟨i + 1, rfl, by omega, hX1, hne2, rfl, rfl⟩ (by repeat (first | exact Sub.nil | refine Sub.cons rfl ?_))
  · refine T.seq <| T.region <| SL.v (op_lssF rfl rfl (by omega)) ?_
    refine SL.nil <| T.seq <| T.condF rfl ?_
    refine T.exit (T.exitCode (T.exitCut (T.exitBlk ?_)))
    refine T.seq <| T.region <| SL.as rfl <| SL.nil <| T.ret1 rfl (ResIs.tmp rfl) ?_
    refine ⟨_, rfl, fun h => absurd h (by omega), fun hm => ?_⟩
    obtain ⟨q, hq⟩ := List.mem_iff_getElem?.1 hm
    have h1 := (List.getElem?_eq_some_iff.1 hq).1
    exact absurd rfl (hne q s (by omega) hq)
theorem scontains_spec {X : PMap} {v : Value} {l : List ByteArray} {s : ByteArray} (h : RowR strC X v l) : Spec Tryz.prog 144 [v, .string s] X fun u _ => u = .bool (decide (s ∈ l)) := by
  obtain ⟨A, cp, rfl⟩ := h.form
  refine Spec.enter Tryz.func144 rfl Tryz.ntmps144 rfl ?_
  intro w0 hw0
  refine T.seq <| T.region <| SL.as rfl <| SL.nil <| T.seq <| T.region <| SL.mv rfl <| SL.mv rfl <| SL.w (op_callF en182 (vs := [_, _]) rfl (sindex_spec h)) ?_
  rintro _ _ X1 ⟨rfl, hX1, k, rfl, hk⟩
  refine SL.v (op_geq rfl rfl) <| SL.as rfl <| SL.nil <| T.ret1 rfl (ResIs.tmp rfl) ?_
  simp only [hk]
theorem nvalid_spec {X : PMap} {s : ByteArray} : Spec Tryz.prog 94 [.string s] X fun u _ => u = .bool (decide (validS s)) := by
  by_cases h1 : s.size = 0
  · refine Spec.enter Tryz.func94 rfl Tryz.ntmps94 rfl ?_
    intro w0 hw0
    refine T.seq <| T.region <| SL.as rfl <| SL.nil <| T.seq <| T.seq <| T.region <| SL.mv rfl <| SL.v (op_lenStr Tryz.underlying9 rfl) <| SL.v (op_eqlT rfl rfl (by omega)) ?_
    refine SL.mv rfl <| SL.skip rfl rfl ?_
    refine SL.skip rfl rfl ?_
    refine SL.skip rfl rfl ?_
    refine SL.v (op_pickT rfl rfl) <| SL.mv rfl <| SL.skip rfl rfl ?_
    refine SL.skip rfl rfl ?_
    refine SL.skip rfl rfl ?_
    refine SL.v (op_pickT rfl rfl) <| SL.nil <| T.condT rfl <| T.seq <| T.region <| SL.as rfl <| SL.nil <| T.ret1 rfl (ResIs.tmp rfl) ?_
    rw [decide_eq_false fun h => h.1 h1]
  by_cases h2 : 12 < s.size
  · refine Spec.enter Tryz.func94 rfl Tryz.ntmps94 rfl ?_
    intro w0 hw0
    refine T.seq <| T.region <| SL.as rfl <| SL.nil <| T.seq <| T.seq <| T.region <| SL.mv rfl <| SL.v (op_lenStr Tryz.underlying9 rfl) <| SL.v (op_eqlF rfl rfl (by omega)) ?_
    refine SL.mv rfl <| SL.mv rfl <| SL.v (op_lenStr Tryz.underlying9 rfl) <| SL.v (op_gtrT rfl rfl (by omega)) ?_
    refine SL.v (op_pickF rfl rfl) <| SL.mv rfl <| SL.skip rfl rfl ?_
    refine SL.skip rfl rfl ?_
    refine SL.skip rfl rfl ?_
    refine SL.v (op_pickT rfl rfl) <| SL.nil <| T.condT rfl <| T.seq <| T.region <| SL.as rfl <| SL.nil <| T.ret1 rfl (ResIs.tmp rfl) ?_
    rw [decide_eq_false fun h => by have := h.2.1; omega]
  refine Spec.enter Tryz.func94 rfl Tryz.ntmps94 rfl ?_
  intro w0 hw0
  refine T.seq <| T.region <| SL.as rfl <| SL.nil <| T.seq <| T.seq <| T.region <| SL.mv rfl <| SL.v (op_lenStr Tryz.underlying9 rfl) <| SL.v (op_eqlF rfl rfl (by omega)) ?_
  refine SL.mv rfl <| SL.mv rfl <| SL.v (op_lenStr Tryz.underlying9 rfl) <| SL.v (op_gtrF rfl rfl (by omega)) ?_
  refine SL.v (op_pickF rfl rfl) <| SL.mv rfl <| SL.w (op_callF en145 (vs := []) rfl (keyws_spec)) ?_
  rintro kv _ X1 ⟨rfl, hX1, hkv⟩
  obtain ⟨Ak, ck, rfl⟩ := hkv.form
  refine SL.mv rfl <| SL.w (op_callF en144 (vs := [_, _]) rfl (scontains_spec hkv)) ?_
  rintro _ _ X2 ⟨rfl, hX2, rfl⟩
  by_cases h3 : s ∈ keyws
  · rw [decide_eq_true h3]
    refine SL.v (op_pickF rfl rfl) <| SL.nil <| T.condT rfl <| T.seq <| T.region <| SL.as rfl <| SL.nil <| T.ret1 rfl (ResIs.tmp rfl) ?_
    rw [decide_eq_false fun h => h.2.2.1 h3]
  rw [decide_eq_false h3]
  refine SL.v (op_pickF rfl rfl) <| SL.nil <| T.condF rfl <| T.skip <| T.seq <| T.region <| SL.w (op_alloc z229) ?_
  rintro _ _ _ ⟨B3, rfl, rfl, rfl⟩
  refine SL.w (op_store ty229 rfl rfl (by repeat constructor) rfl rfl rfl) ?_
  rintro _ _ _ ⟨rfl, rfl⟩
  refine SL.nil <| T.seq <| T.region <| SL.v (op_makeFunc (vs := []) (us := [_]) rfl rfl) <| SL.as rfl <| SL.nil <| T.seq <| T.seq <| T.region <| SL.mv rfl <| SL.v (op_lenStr Tryz.underlying9 rfl) <| SL.v (op_move (v := .int .i64 ((0 : Nat) : Int)) rfl) <| SL.nil <| T.block <| T.pub B3 (by repeat constructor) ?_
  intro X3 hX3 hB3 _
  refine T.loopW (fun m env own X' => ∃ i : Nat, m = s.size - i ∧ i ≤ s.size ∧ X3.le X' ∧ (∀ q b, q < i → s[q]? = some b → innB b = true ∧ (q = 0 → letB b = true)) ∧ env = [(0, .string s), (3, .pointer (some ⟨B3, 0, none⟩)), (4, .func (.func 147) #[] #[.pointer (some ⟨B3, 0, none⟩)]), (21, .int .i64 (s.size : Int)), (22, .int .i64 (i : Int))] ∧ own = []) s.size ⟨0, by simp, by omega, PMap.le_refl _, fun q x hq => absurd hq (by omega), rfl, rfl⟩ (by repeat (first | exact Sub.nil | refine Sub.cons rfl ?_)) ?_
  rintro m _ _ X4 ⟨i, rfl, hi, hX4, hin, rfl, rfl⟩
  rcases Nat.lt_or_ge i s.size with hil | hil
  · obtain ⟨b, hb⟩ : ∃ b, s[i]? = some b := ⟨_, ByteArray.getElem?_lt' s i hil⟩
    have hgo : innB b = true → (i = 0 → letB b = true) → ∀ q b, q < i + 1 → s[q]? = some b → innB b = true ∧ (q = 0 → letB b = true) := fun g1 g2 q c hq hc => by
      rcases Nat.lt_or_ge q i with h | h
      · exact hin q c h hc
      · obtain rfl : q = i := by omega
        rw [hb] at hc; cases hc; exact ⟨g1, g2⟩
    have hB4 := hB3.mono hX4
    refine T.seq <| T.region <| SL.v (op_lssT rfl rfl (by omega)) ?_
    refine SL.nil <| T.seq <| T.condT rfl <| T.skip <| T.seq <| T.block <| T.seq <| T.region <| SL.mv rfl <| SL.as rfl <| SL.nil <| T.seq <| T.draw (by kernel_rfl) 18 [.t 0, .t 1, .t 2, .t 3, .r 4, .t 5, .t 6, .t 7, .t 8, .t 9, .t 10, .t 11, .t 12, .t 13, .r 14, .t 15, .t 16, .t 17] (by kernel_rfl) ?_
    refine SD.take rfl panicBody (op_move rfl) rfl rfl ?_
    refine SD.take rfl panicBody (op_move rfl) rfl rfl ?_
    refine SD.take rfl panicBody (op_move rfl) rfl rfl ?_
    refine SD.take rfl panicBody (op_idxStr Tryz.underlying9 rfl rfl rfl hb) rfl rfl ?_
    refine SD.run rfl (op_call en147 rfl (vs := [_]) rfl (inner_spec hB4 b)) rfl rfl ?_
    rintro _ _ X5 ⟨rfl, hX5, rfl⟩
    cases hib : innB b with
    | false =>
      refine SD.take rfl panicBody (op_not rfl) rfl rfl ?_
      refine SD.take rfl panicBody (op_move rfl) rfl rfl ?_
      refine SD.skip rfl panicBody rfl rfl ?_
      refine SD.skip rfl panicBody rfl rfl ?_
      refine SD.skip rfl panicBody rfl rfl ?_
      refine SD.skip rfl panicBody rfl rfl ?_
      refine SD.skip rfl panicBody rfl rfl ?_
      refine SD.skip rfl panicBody rfl rfl ?_
      refine SD.skip rfl panicBody rfl rfl ?_
      refine SD.skipF rfl rfl rfl ?_
      refine SD.skip rfl panicBody rfl rfl ?_
      refine SD.skip rfl panicBody rfl rfl ?_
      refine SD.take rfl panicBody (op_pickT rfl rfl) rfl rfl ?_
      refine SD.nil ?_
      show SL _ _ _ _ _ _ _ [] _ _ _
      refine SL.nil <| T.condT rfl <| T.seq <| T.region <| SL.as rfl <| SL.nil <| T.ret1 rfl (ResIs.tmp rfl) ?_
      rw [decide_eq_false fun h => by have := (h.2.2.2 i b (by omega) hb).1; rw [hib] at this; cases this]
    | true =>
      by_cases h0 : i = 0
      · subst h0
        refine SD.take rfl panicBody (op_not rfl) rfl rfl ?_
        refine SD.take rfl panicBody (op_move rfl) rfl rfl ?_
        refine SD.take rfl panicBody (op_move rfl) rfl rfl ?_
        refine SD.take rfl panicBody (op_eqlT rfl rfl (by omega)) rfl rfl ?_
        refine SD.take rfl panicBody (op_move rfl) rfl rfl ?_
        refine SD.take rfl panicBody (op_loadX ty229 rfl hB4 rfl) rfl rfl ?_
        refine SD.take rfl panicBody (op_move rfl) rfl rfl ?_
        refine SD.take rfl panicBody (op_move rfl) rfl rfl ?_
        refine SD.take rfl panicBody (op_idxStr Tryz.underlying9 rfl rfl rfl hb) rfl rfl ?_
        refine SD.run rfl (op_call en146 rfl (vs := [_]) rfl (letter_spec b)) rfl rfl ?_
        rintro _ _ X6 ⟨rfl, hX6, rfl⟩
        cases hlb : letB b with
        | false =>
          refine SD.take rfl panicBody (op_not rfl) rfl rfl ?_
          refine SD.take rfl panicBody (op_pickT rfl rfl) rfl rfl ?_
          refine SD.take rfl panicBody (op_pickF rfl rfl) rfl rfl ?_
          refine SD.nil ?_
          show SL _ _ _ _ _ _ _ [] _ _ _
          refine SL.nil <| T.condT rfl <| T.seq <| T.region <| SL.as rfl <| SL.nil <| T.ret1 rfl (ResIs.tmp rfl) ?_
          rw [decide_eq_false fun h => by have := (h.2.2.2 0 b (by omega) hb).2 rfl; rw [hlb] at this; cases this]
        | true =>
          refine SD.take rfl panicBody (op_not rfl) rfl rfl ?_
          refine SD.take rfl panicBody (op_pickT rfl rfl) rfl rfl ?_
          refine SD.take rfl panicBody (op_pickF rfl rfl) rfl rfl ?_
          refine SD.nil ?_
          show SL _ _ _ _ _ _ _ [] _ _ _
          refine SL.nil <| T.condF rfl <| T.skip <| T.blk <| T.region <| SL.v (op_addN (q := 1) rfl rfl (by omega)) ?_
          refine SL.mv rfl <| SL.nil ?_
          exact T.backW (s.size - (0 + 1)) (by omega) ⟨0 + 1, rfl, by omega, (hX4.trans' hX5).trans' hX6, hgo hib fun _ => hlb, rfl, rfl⟩ (by repeat (first | exact Sub.nil | refine Sub.cons rfl ?_))
      · refine SD.take rfl panicBody (op_not rfl) rfl rfl ?_
        refine SD.take rfl panicBody (op_move rfl) rfl rfl ?_
        refine SD.take rfl panicBody (op_move rfl) rfl rfl ?_
        refine SD.take rfl panicBody (op_eqlF rfl rfl (by omega)) rfl rfl ?_
        refine SD.take rfl panicBody (op_move rfl) rfl rfl ?_
        refine SD.skip rfl panicBody rfl rfl ?_
        refine SD.skip rfl panicBody rfl rfl ?_
        refine SD.skip rfl panicBody rfl rfl ?_
        refine SD.skip rfl panicBody rfl rfl ?_
        refine SD.skipF rfl rfl rfl ?_
        refine SD.skip rfl panicBody rfl rfl ?_
        refine SD.take rfl panicBody (op_pickF rfl rfl) rfl rfl ?_
        refine SD.take rfl panicBody (op_pickF rfl rfl) rfl rfl ?_
        refine SD.nil ?_
        show SL _ _ _ _ _ _ _ [] _ _ _
        refine SL.nil <| T.condF rfl <| T.skip <| T.blk <| T.region <| SL.v (op_addN (q := 1) rfl rfl (by omega)) ?_
        refine SL.mv rfl <| SL.nil ?_
        exact T.backW (s.size - (i + 1)) (by omega) ⟨i + 1, rfl, by omega, hX4.trans' hX5, hgo hib fun h => absurd h h0, rfl, rfl⟩ (by repeat (first | exact Sub.nil | refine Sub.cons rfl ?_))
  · refine T.seq <| T.region <| SL.v (op_lssF rfl rfl (by omega)) ?_
    refine SL.nil <| T.seq <| T.condF rfl ?_
    refine T.exit (T.exitCode (T.exitCut (T.exitBlk ?_)))
    refine T.seq <| T.region <| SL.as rfl <| SL.nil <| T.ret1 rfl (ResIs.tmp rfl) ?_
    rw [decide_eq_true (show validS s from ⟨h1, by omega, h3, fun k b _ hb => hin k b (by have := ByteArray.getElem?_ge' s k; rcases Nat.lt_or_ge k s.size with h | h; omega; rw [this (by omega)] at hb; cases hb) hb⟩)]
end Go.Proofs.YtnpcilglilfajaaGreatDoor
