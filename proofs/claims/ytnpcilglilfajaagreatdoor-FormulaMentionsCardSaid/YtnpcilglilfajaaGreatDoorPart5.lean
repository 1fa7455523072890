/- What the law's proof rests on: the engine, a small separation logic over the kit's walk, and contracts of the functions that the law reaches. Part 5. -/
import Derived.Test.YtnpcilglilfajaaGreatDoorChecked
import Derived.Shelf.Sort.AssemblysIn
import Derived.Shelf.Strconv.Itoa3
import Derived.Sort.EveryDepth
import Derived.Test.YtnpcilglilfajaaGreatDoorPart1
import Derived.Test.YtnpcilglilfajaaGreatDoorPart2
import Derived.Test.YtnpcilglilfajaaGreatDoorPart3
import Derived.Test.YtnpcilglilfajaaGreatDoorPart4
namespace Go.Proofs.YtnpcilglilfajaaGreatDoor
open Go.RowKit
/-- v is a set of numbers below 128; m are those below 64. -/
def SetB (X : PMap) (v : Value) (m : Nat) : Prop :=
  SetR X v m ∨ ∃ (g b c : Nat) (rest : List Value), g ≠ 0 ∧ g < 18446744073709551616 ∧ m < 18446744073709551616 ∧ v = .agg #[.slice (some ⟨b, 0, none⟩) 2 c] ∧ Blk X b (.int .u64 (m : Int) :: .int .u64 (g : Int) :: rest)
theorem SetB.mono {X X' : PMap} {v : Value} {m : Nat} (h : SetB X v m) (hX : X.le X') : SetB X' v m := by
  rcases h with h | ⟨g, b, c, r, h0, h1, h2, hv, hb⟩
  · exact .inl (h.mono hX)
  · exact .inr ⟨g, b, c, r, h0, h1, h2, hv, hb.mono hX⟩
theorem SetB.form {X : PMap} {v : Value} {m : Nat} (h : SetB X v m) : ∃ A l c, v = .agg #[.slice A l c] := by
  rcases h with h | ⟨g, b, c, r, h0, h1, h2, rfl, hb⟩
  · exact h.form
  · exact ⟨_, 2, c, rfl⟩
theorem word2a_spec {X : PMap} {b c m g : Nat} {rest : List Value} (hB : Blk X b (.int .u64 (m : Int) :: .int .u64 (g : Int) :: rest)) (_hm : m < 18446744073709551616) : Spec Tryz.prog 116 [.agg #[.slice (some ⟨b, 0, none⟩) 2 c], .int .i64 ((0 : Nat) : Int)] X fun u _ => u = .int .u64 (m : Int) := by
  refine Spec.enter Tryz.func116 rfl Tryz.ntmps116 rfl ?_
  intro w0 hw0
  refine T.seq <| T.region <| SL.w (op_box rfl) ?_
  rintro _ _ _ ⟨B2, rfl, rfl, rfl⟩
  refine SL.v (op_assign (v := .int .u64 ((0 : Nat) : Int)) rfl) <| SL.nil <| T.seq <| T.seq <| T.region <| SL.mv rfl <| SL.v (op_fieldAddr fa53_0 rfl) <| SL.v (op_load ty51 rfl (by repeat constructor) rfl) ?_
  refine SL.v (op_lenS Tryz.underlying51 rfl) <| SL.v (op_lssT rfl rfl (by omega)) ?_
  refine SL.nil <| T.condT rfl <| T.seq <| T.region <| SL.v (op_fieldAddr fa53_0 rfl) <| SL.v (op_load ty51 rfl (by repeat constructor) rfl) ?_
  refine SL.mv rfl <| SL.v (op_indexN Tryz.underlying51 ty58 rfl rfl (by omega)) ?_
  refine SL.v (op_loadX ty58 rfl (by assumption) rfl) ?_
  refine SL.as rfl <| SL.nil <| T.ret1 rfl (ResIs.tmp rfl) ?_
  rfl
theorem word2b_spec {X : PMap} {b c m g : Nat} {rest : List Value} (hB : Blk X b (.int .u64 (m : Int) :: .int .u64 (g : Int) :: rest)) (_hg : g < 18446744073709551616) : Spec Tryz.prog 116 [.agg #[.slice (some ⟨b, 0, none⟩) 2 c], .int .i64 ((1 : Nat) : Int)] X fun u _ => u = .int .u64 (g : Int) := by
  refine Spec.enter Tryz.func116 rfl Tryz.ntmps116 rfl ?_
  intro w0 hw0
  refine T.seq <| T.region <| SL.w (op_box rfl) ?_
  rintro _ _ _ ⟨B2, rfl, rfl, rfl⟩
  refine SL.v (op_assign (v := .int .u64 ((0 : Nat) : Int)) rfl) <| SL.nil <| T.seq <| T.seq <| T.region <| SL.mv rfl <| SL.v (op_fieldAddr fa53_0 rfl) <| SL.v (op_load ty51 rfl (by repeat constructor) rfl) ?_
  refine SL.v (op_lenS Tryz.underlying51 rfl) <| SL.v (op_lssT rfl rfl (by omega)) ?_
  refine SL.nil <| T.condT rfl <| T.seq <| T.region <| SL.v (op_fieldAddr fa53_0 rfl) <| SL.v (op_load ty51 rfl (by repeat constructor) rfl) ?_
  refine SL.mv rfl <| SL.v (op_indexN Tryz.underlying51 ty58 rfl rfl (by omega)) ?_
  refine SL.v (op_loadX ty58 rfl (by assumption) rfl) ?_
  refine SL.as rfl <| SL.nil <| T.ret1 rfl (ResIs.tmp rfl) ?_
  rfl
theorem trim2_spec {X : PMap} {b c m g : Nat} {rest : List Value} (h0 : g ≠ 0) (hg : g < 18446744073709551616) (hm : m < 18446744073709551616) (hB : Blk X b (.int .u64 (m : Int) :: .int .u64 (g : Int) :: rest)) (_hc : 2 ≤ c) : Spec Tryz.prog 84 [.slice (some ⟨b, 0, none⟩) 2 c] X fun u X' => SetB X' u m := by
  refine Spec.enter Tryz.func84 rfl Tryz.ntmps84 rfl ?_
  intro w0 hw0
  refine T.seq <| T.region <| SL.w (op_alloc z53) ?_
  rintro _ _ _ ⟨B2, rfl, rfl, rfl⟩
  refine SL.nil <| T.seq <| T.block <| T.unrollStart 1 ?_
  refine T.unroll ?_
  refine T.seq <| T.seq <| T.region <| SL.mv rfl <| SL.v (op_lenS Tryz.underlying51 rfl) <| SL.v (op_gtrT rfl rfl (by omega)) ?_
  refine SL.mv rfl <| SL.mv rfl <| SL.mv rfl <| SL.v (op_lenS Tryz.underlying51 rfl) <| SL.v (op_subN (q := 1) rfl rfl (by omega) (by omega)) ?_
  refine SL.v (op_indexN Tryz.underlying51 ty58 rfl rfl (by omega)) ?_
  refine SL.v (op_loadX ty58 rfl (by assumption) rfl) ?_
  refine SL.v (op_eqlF rfl rfl (by omega)) ?_
  refine SL.v (op_pickT rfl rfl) <| SL.nil <| T.condF rfl ?_
  refine T.exit (T.exitCode (T.exitMore (T.exitBlk ?_)))
  refine T.seq <| T.region <| SL.mv rfl <| SL.v (op_build st53 (qs := [(0, _)]) rfl rfl) <| SL.w (op_store ty53 rfl rfl (by repeat constructor) rfl rfl rfl) ?_
  rintro _ _ _ ⟨rfl, rfl⟩
  refine SL.nil <| T.ret1 rfl (ResIs.cell rfl ty53 (by repeat constructor) rfl) ?_
  exact .inr ⟨g, b, c, rest, h0, hg, hm, rfl, hB⟩
theorem or2_spec {X : PMap} {v v' : Value} {m m' : Nat} (h : SetB X v m) (h' : SetB X v' m') : Spec Tryz.prog 69 [v, v'] X fun u X' => SetB X' u (m ||| m') := by
  rcases h with h | ⟨g, b, c, rest, g0, g1, g2, rfl, hB⟩ <;> rcases h' with h' | ⟨g', b', c', rest', g0', g1', g2', rfl, hB'⟩
  · exact (or_spec h h').mono fun _ _ _ h => .inl h
  · have hlt := h.lt
    have hl : m ||| m' < 18446744073709551616 := or64 hlt g2'
    rcases h with ⟨rfl, A, c, rfl⟩ | ⟨h0, h1, b, c, rest, rfl, hB⟩
    · have z : SetR X (.agg #[.slice A 0 c]) 0 := SetR.zero
      refine Spec.enter Tryz.func69 rfl Tryz.ntmps69 rfl ?_
      intro w0 hw0
      refine T.seq <| T.region <| SL.w (op_box rfl) ?_
      rintro _ _ _ ⟨B2, rfl, rfl, rfl⟩
      refine SL.w (op_box rfl) ?_
      rintro _ _ _ ⟨B3, rfl, rfl, rfl⟩
      refine SL.w (op_alloc z53) ?_
      rintro _ _ _ ⟨B4, rfl, rfl, rfl⟩
      refine SL.nil <| T.seq <| T.region <| SL.v (op_fieldAddr fa53_0 rfl) <| SL.v (op_load ty51 rfl (by repeat constructor) rfl) ?_
      refine SL.v (op_lenS Tryz.underlying51 rfl) <| SL.v (op_fieldAddr fa53_0 rfl) <| SL.v (op_load ty51 rfl (by repeat constructor) rfl) ?_
      refine SL.v (op_lenS Tryz.underlying51 rfl) <| SL.v (op_maxR rfl rfl (by omega)) ?_
      refine SL.w (op_make Tryz.underlying51 mk51 rfl rfl rfl (Nat.le_refl _) (by omega) (by omega)) ?_
      rintro _ _ _ ⟨B14, rfl, rfl, rfl⟩
      refine SL.as rfl <| SL.nil <| T.seq <| T.seq <| T.region <| SL.mv rfl <| SL.v (op_lenS Tryz.underlying51 rfl) <| SL.v (op_move (v := .int .i64 ((0 : Nat) : Int)) rfl) <| SL.nil <| T.block <| T.unrollStart 3 ?_
      refine T.unroll ?_
      refine T.seq <| T.region <| SL.v (op_lssT rfl rfl (by omega)) ?_
      refine SL.nil <| T.seq <| T.condT rfl <| T.skip <| T.seq <| T.block <| T.seq <| T.region <| SL.mv rfl <| SL.as rfl <| SL.nil <| T.draw (by kernel_rfl) 10 [.t 0, .t 1, .t 2, .t 3, .t 5, .t 6, .r 4, .r 7, .t 8, .t 9] (by kernel_rfl) ?_
      refine SD.take rfl panicBody (op_move rfl) rfl rfl ?_
      refine SD.take rfl panicBody (op_move rfl) rfl rfl ?_
      refine SD.take rfl panicBody (op_load ty53 rfl (by repeat constructor) rfl) rfl rfl ?_
      refine SD.take rfl panicBody (op_move rfl) rfl rfl ?_
      refine SD.take rfl panicBody (op_load ty53 rfl (by repeat constructor) rfl) rfl rfl ?_
      refine SD.take rfl panicBody (op_move rfl) rfl rfl ?_
      refine SD.run rfl (op_callF en116 (vs := [_, _]) rfl (word_spec (k := 0) z 0 (if_pos rfl))) rfl rfl ?_
      rintro _ _ X1 ⟨rfl, hX1, rfl⟩
      refine SD.run rfl (op_callF en116 (vs := [_, _]) rfl (word2a_spec (hB'.mono hX1) g2')) rfl rfl ?_
      rintro _ _ X2 ⟨rfl, hX2, rfl⟩
      refine SD.take rfl panicBody (op_or rfl rfl (by first | omega | assumption | decide | exact Nat.lt_of_le_of_lt (Nat.shiftRight_le ..) (by first | omega | assumption) | exact Nat.lt_of_le_of_lt Nat.and_le_left (by first | omega | assumption) | exact Nat.lt_of_le_of_lt Nat.and_le_right (by first | omega | decide)) (by first | omega | assumption | decide | exact Nat.lt_of_le_of_lt (Nat.shiftRight_le ..) (by first | omega | assumption) | exact Nat.lt_of_le_of_lt Nat.and_le_left (by first | omega | assumption) | exact Nat.lt_of_le_of_lt Nat.and_le_right (by first | omega | decide))) rfl rfl ?_
      refine SD.take rfl panicBody (op_indexN Tryz.underlying51 ty58 rfl rfl (by omega)) rfl rfl ?_
      refine SD.nil ?_
      show SL _ _ _ _ _ _ _ [_] _ _ _
      refine SL.w (op_store ty58 rfl rfl (by repeat constructor) rfl rfl rfl) ?_
      rintro _ _ _ ⟨rfl, rfl⟩
      refine SL.nil <| T.blk <| T.region <| SL.v (op_addN (q := 1) rfl rfl (by omega)) ?_
      refine SL.mv rfl <| SL.nil <| T.unroll ?_
      refine T.seq <| T.region <| SL.v (op_lssT rfl rfl (by omega)) ?_
      refine SL.nil <| T.seq <| T.condT rfl <| T.skip <| T.seq <| T.block <| T.seq <| T.region <| SL.mv rfl <| SL.as rfl <| SL.nil <| T.draw (by kernel_rfl) 10 [.t 0, .t 1, .t 2, .t 3, .t 5, .t 6, .r 4, .r 7, .t 8, .t 9] (by kernel_rfl) ?_
      refine SD.take rfl panicBody (op_move rfl) rfl rfl ?_
      refine SD.take rfl panicBody (op_move rfl) rfl rfl ?_
      refine SD.take rfl panicBody (op_load ty53 rfl (by repeat constructor) rfl) rfl rfl ?_
      refine SD.take rfl panicBody (op_move rfl) rfl rfl ?_
      refine SD.take rfl panicBody (op_load ty53 rfl (by repeat constructor) rfl) rfl rfl ?_
      refine SD.take rfl panicBody (op_move rfl) rfl rfl ?_
      refine SD.run rfl (op_callF en116 (vs := [_, _]) rfl (word_spec (k := 1) (z.mono (hX1.trans' hX2)) 0 (if_neg (by omega)))) rfl rfl ?_
      rintro _ _ X3 ⟨rfl, hX3, rfl⟩
      refine SD.run rfl (op_callF en116 (vs := [_, _]) rfl (word2b_spec (hB'.mono ((hX1.trans' hX2).trans' hX3)) g1')) rfl rfl ?_
      rintro _ _ X4 ⟨rfl, hX4, rfl⟩
      refine SD.take rfl panicBody (op_or rfl rfl (by first | omega | assumption | decide | exact Nat.lt_of_le_of_lt (Nat.shiftRight_le ..) (by first | omega | assumption) | exact Nat.lt_of_le_of_lt Nat.and_le_left (by first | omega | assumption) | exact Nat.lt_of_le_of_lt Nat.and_le_right (by first | omega | decide)) (by first | omega | assumption | decide | exact Nat.lt_of_le_of_lt (Nat.shiftRight_le ..) (by first | omega | assumption) | exact Nat.lt_of_le_of_lt Nat.and_le_left (by first | omega | assumption) | exact Nat.lt_of_le_of_lt Nat.and_le_right (by first | omega | decide))) rfl rfl ?_
      refine SD.take rfl panicBody (op_indexN Tryz.underlying51 ty58 rfl rfl (by omega)) rfl rfl ?_
      refine SD.nil ?_
      show SL _ _ _ _ _ _ _ [_] _ _ _
      refine SL.w (op_store ty58 rfl rfl (by repeat constructor) rfl rfl rfl) ?_
      rintro _ _ _ ⟨rfl, rfl⟩
      refine SL.nil <| T.blk <| T.region <| SL.v (op_addN (q := 1) rfl rfl (by omega)) ?_
      refine SL.mv rfl <| SL.nil <| T.unroll ?_
      refine T.seq <| T.region <| SL.v (op_lssF rfl rfl (by omega)) ?_
      refine SL.nil <| T.seq <| T.condF rfl ?_
      refine T.exit (T.exitCode (T.exitMore (T.exitBlk ?_)))
      refine T.seq <| T.region <| SL.mv rfl <| SL.v (op_build st53 (qs := [(0, _)]) rfl rfl) <| SL.w (op_store ty53 rfl rfl (by repeat constructor) rfl rfl rfl) ?_
      rintro _ _ _ ⟨rfl, rfl⟩
      refine SL.nil <| T.pub _ (by repeat constructor) ?_
      intro X5 hX5 hB5 _
      refine T.ret1 rfl (ResIs.cell rfl ty53 (by repeat constructor) rfl) ?_
      exact .inr ⟨0 ||| g', _, _, _, by rw [Nat.zero_or]; exact g0', by rw [Nat.zero_or]; exact g1', hl, rfl, hB5⟩
    · have z : SetR X (.agg #[.slice (some ⟨b, 0, none⟩) 1 c]) m := SetR.one (by omega) h1 hB
      refine Spec.enter Tryz.func69 rfl Tryz.ntmps69 rfl ?_
      intro w0 hw0
      refine T.seq <| T.region <| SL.w (op_box rfl) ?_
      rintro _ _ _ ⟨B2, rfl, rfl, rfl⟩
      refine SL.w (op_box rfl) ?_
      rintro _ _ _ ⟨B3, rfl, rfl, rfl⟩
      refine SL.w (op_alloc z53) ?_
      rintro _ _ _ ⟨B4, rfl, rfl, rfl⟩
      refine SL.nil <| T.seq <| T.region <| SL.v (op_fieldAddr fa53_0 rfl) <| SL.v (op_load ty51 rfl (by repeat constructor) rfl) ?_
      refine SL.v (op_lenS Tryz.underlying51 rfl) <| SL.v (op_fieldAddr fa53_0 rfl) <| SL.v (op_load ty51 rfl (by repeat constructor) rfl) ?_
      refine SL.v (op_lenS Tryz.underlying51 rfl) <| SL.v (op_maxR rfl rfl (by omega)) ?_
      refine SL.w (op_make Tryz.underlying51 mk51 rfl rfl rfl (Nat.le_refl _) (by omega) (by omega)) ?_
      rintro _ _ _ ⟨B14, rfl, rfl, rfl⟩
      refine SL.as rfl <| SL.nil <| T.seq <| T.seq <| T.region <| SL.mv rfl <| SL.v (op_lenS Tryz.underlying51 rfl) <| SL.v (op_move (v := .int .i64 ((0 : Nat) : Int)) rfl) <| SL.nil <| T.block <| T.unrollStart 3 ?_
      refine T.unroll ?_
      refine T.seq <| T.region <| SL.v (op_lssT rfl rfl (by omega)) ?_
      refine SL.nil <| T.seq <| T.condT rfl <| T.skip <| T.seq <| T.block <| T.seq <| T.region <| SL.mv rfl <| SL.as rfl <| SL.nil <| T.draw (by kernel_rfl) 10 [.t 0, .t 1, .t 2, .t 3, .t 5, .t 6, .r 4, .r 7, .t 8, .t 9] (by kernel_rfl) ?_
      refine SD.take rfl panicBody (op_move rfl) rfl rfl ?_
      refine SD.take rfl panicBody (op_move rfl) rfl rfl ?_
      refine SD.take rfl panicBody (op_load ty53 rfl (by repeat constructor) rfl) rfl rfl ?_
      refine SD.take rfl panicBody (op_move rfl) rfl rfl ?_
      refine SD.take rfl panicBody (op_load ty53 rfl (by repeat constructor) rfl) rfl rfl ?_
      refine SD.take rfl panicBody (op_move rfl) rfl rfl ?_
      refine SD.run rfl (op_callF en116 (vs := [_, _]) rfl (word_spec (k := 0) z m (if_pos rfl))) rfl rfl ?_
      rintro _ _ X1 ⟨rfl, hX1, rfl⟩
      refine SD.run rfl (op_callF en116 (vs := [_, _]) rfl (word2a_spec (hB'.mono hX1) g2')) rfl rfl ?_
      rintro _ _ X2 ⟨rfl, hX2, rfl⟩
      refine SD.take rfl panicBody (op_or rfl rfl (by first | omega | assumption | decide | exact Nat.lt_of_le_of_lt (Nat.shiftRight_le ..) (by first | omega | assumption) | exact Nat.lt_of_le_of_lt Nat.and_le_left (by first | omega | assumption) | exact Nat.lt_of_le_of_lt Nat.and_le_right (by first | omega | decide)) (by first | omega | assumption | decide | exact Nat.lt_of_le_of_lt (Nat.shiftRight_le ..) (by first | omega | assumption) | exact Nat.lt_of_le_of_lt Nat.and_le_left (by first | omega | assumption) | exact Nat.lt_of_le_of_lt Nat.and_le_right (by first | omega | decide))) rfl rfl ?_
      refine SD.take rfl panicBody (op_indexN Tryz.underlying51 ty58 rfl rfl (by omega)) rfl rfl ?_
      refine SD.nil ?_
      show SL _ _ _ _ _ _ _ [_] _ _ _
      refine SL.w (op_store ty58 rfl rfl (by repeat constructor) rfl rfl rfl) ?_
      rintro _ _ _ ⟨rfl, rfl⟩
      refine SL.nil <| T.blk <| T.region <| SL.v (op_addN (q := 1) rfl rfl (by omega)) ?_
      refine SL.mv rfl <| SL.nil <| T.unroll ?_
      refine T.seq <| T.region <| SL.v (op_lssT rfl rfl (by omega)) ?_
      refine SL.nil <| T.seq <| T.condT rfl <| T.skip <| T.seq <| T.block <| T.seq <| T.region <| SL.mv rfl <| SL.as rfl <| SL.nil <| T.draw (by kernel_rfl) 10 [.t 0, .t 1, .t 2, .t 3, .t 5, .t 6, .r 4, .r 7, .t 8, .t 9] (by kernel_rfl) ?_
      refine SD.take rfl panicBody (op_move rfl) rfl rfl ?_
      refine SD.take rfl panicBody (op_move rfl) rfl rfl ?_
      refine SD.take rfl panicBody (op_load ty53 rfl (by repeat constructor) rfl) rfl rfl ?_
      refine SD.take rfl panicBody (op_move rfl) rfl rfl ?_
      refine SD.take rfl panicBody (op_load ty53 rfl (by repeat constructor) rfl) rfl rfl ?_
      refine SD.take rfl panicBody (op_move rfl) rfl rfl ?_
      refine SD.run rfl (op_callF en116 (vs := [_, _]) rfl (word_spec (k := 1) (z.mono (hX1.trans' hX2)) 0 (if_neg (by omega)))) rfl rfl ?_
      rintro _ _ X3 ⟨rfl, hX3, rfl⟩
      refine SD.run rfl (op_callF en116 (vs := [_, _]) rfl (word2b_spec (hB'.mono ((hX1.trans' hX2).trans' hX3)) g1')) rfl rfl ?_
      rintro _ _ X4 ⟨rfl, hX4, rfl⟩
      refine SD.take rfl panicBody (op_or rfl rfl (by first | omega | assumption | decide | exact Nat.lt_of_le_of_lt (Nat.shiftRight_le ..) (by first | omega | assumption) | exact Nat.lt_of_le_of_lt Nat.and_le_left (by first | omega | assumption) | exact Nat.lt_of_le_of_lt Nat.and_le_right (by first | omega | decide)) (by first | omega | assumption | decide | exact Nat.lt_of_le_of_lt (Nat.shiftRight_le ..) (by first | omega | assumption) | exact Nat.lt_of_le_of_lt Nat.and_le_left (by first | omega | assumption) | exact Nat.lt_of_le_of_lt Nat.and_le_right (by first | omega | decide))) rfl rfl ?_
      refine SD.take rfl panicBody (op_indexN Tryz.underlying51 ty58 rfl rfl (by omega)) rfl rfl ?_
      refine SD.nil ?_
      show SL _ _ _ _ _ _ _ [_] _ _ _
      refine SL.w (op_store ty58 rfl rfl (by repeat constructor) rfl rfl rfl) ?_
      rintro _ _ _ ⟨rfl, rfl⟩
      refine SL.nil <| T.blk <| T.region <| SL.v (op_addN (q := 1) rfl rfl (by omega)) ?_
      refine SL.mv rfl <| SL.nil <| T.unroll ?_
      refine T.seq <| T.region <| SL.v (op_lssF rfl rfl (by omega)) ?_
      refine SL.nil <| T.seq <| T.condF rfl ?_
      refine T.exit (T.exitCode (T.exitMore (T.exitBlk ?_)))
      refine T.seq <| T.region <| SL.mv rfl <| SL.v (op_build st53 (qs := [(0, _)]) rfl rfl) <| SL.w (op_store ty53 rfl rfl (by repeat constructor) rfl rfl rfl) ?_
      rintro _ _ _ ⟨rfl, rfl⟩
      refine SL.nil <| T.pub _ (by repeat constructor) ?_
      intro X5 hX5 hB5 _
      refine T.ret1 rfl (ResIs.cell rfl ty53 (by repeat constructor) rfl) ?_
      exact .inr ⟨0 ||| g', _, _, _, by rw [Nat.zero_or]; exact g0', by rw [Nat.zero_or]; exact g1', hl, rfl, hB5⟩
  · have hlt := h'.lt
    have hl : m ||| m' < 18446744073709551616 := or64 g2 hlt
    rcases h' with ⟨rfl, A', c', rfl⟩ | ⟨h0', h1', b', c', rest', rfl, hB'⟩
    · have z : SetR X (.agg #[.slice A' 0 c']) 0 := SetR.zero
      refine Spec.enter Tryz.func69 rfl Tryz.ntmps69 rfl ?_
      intro w0 hw0
      refine T.seq <| T.region <| SL.w (op_box rfl) ?_
      rintro _ _ _ ⟨B2, rfl, rfl, rfl⟩
      refine SL.w (op_box rfl) ?_
      rintro _ _ _ ⟨B3, rfl, rfl, rfl⟩
      refine SL.w (op_alloc z53) ?_
      rintro _ _ _ ⟨B4, rfl, rfl, rfl⟩
      refine SL.nil <| T.seq <| T.region <| SL.v (op_fieldAddr fa53_0 rfl) <| SL.v (op_load ty51 rfl (by repeat constructor) rfl) ?_
      refine SL.v (op_lenS Tryz.underlying51 rfl) <| SL.v (op_fieldAddr fa53_0 rfl) <| SL.v (op_load ty51 rfl (by repeat constructor) rfl) ?_
      refine SL.v (op_lenS Tryz.underlying51 rfl) <| SL.v (op_maxL rfl rfl (by omega)) ?_
      refine SL.w (op_make Tryz.underlying51 mk51 rfl rfl rfl (Nat.le_refl _) (by omega) (by omega)) ?_
      rintro _ _ _ ⟨B14, rfl, rfl, rfl⟩
      refine SL.as rfl <| SL.nil <| T.seq <| T.seq <| T.region <| SL.mv rfl <| SL.v (op_lenS Tryz.underlying51 rfl) <| SL.v (op_move (v := .int .i64 ((0 : Nat) : Int)) rfl) <| SL.nil <| T.block <| T.unrollStart 3 ?_
      refine T.unroll ?_
      refine T.seq <| T.region <| SL.v (op_lssT rfl rfl (by omega)) ?_
      refine SL.nil <| T.seq <| T.condT rfl <| T.skip <| T.seq <| T.block <| T.seq <| T.region <| SL.mv rfl <| SL.as rfl <| SL.nil <| T.draw (by kernel_rfl) 10 [.t 0, .t 1, .t 2, .t 3, .t 5, .t 6, .r 4, .r 7, .t 8, .t 9] (by kernel_rfl) ?_
      refine SD.take rfl panicBody (op_move rfl) rfl rfl ?_
      refine SD.take rfl panicBody (op_move rfl) rfl rfl ?_
      refine SD.take rfl panicBody (op_load ty53 rfl (by repeat constructor) rfl) rfl rfl ?_
      refine SD.take rfl panicBody (op_move rfl) rfl rfl ?_
      refine SD.take rfl panicBody (op_load ty53 rfl (by repeat constructor) rfl) rfl rfl ?_
      refine SD.take rfl panicBody (op_move rfl) rfl rfl ?_
      refine SD.run rfl (op_callF en116 (vs := [_, _]) rfl (word2a_spec hB g2)) rfl rfl ?_
      rintro _ _ X1 ⟨rfl, hX1, rfl⟩
      refine SD.run rfl (op_callF en116 (vs := [_, _]) rfl (word_spec (k := 0) (z.mono hX1) 0 (if_pos rfl))) rfl rfl ?_
      rintro _ _ X2 ⟨rfl, hX2, rfl⟩
      refine SD.take rfl panicBody (op_or rfl rfl (by first | omega | assumption | decide | exact Nat.lt_of_le_of_lt (Nat.shiftRight_le ..) (by first | omega | assumption) | exact Nat.lt_of_le_of_lt Nat.and_le_left (by first | omega | assumption) | exact Nat.lt_of_le_of_lt Nat.and_le_right (by first | omega | decide)) (by first | omega | assumption | decide | exact Nat.lt_of_le_of_lt (Nat.shiftRight_le ..) (by first | omega | assumption) | exact Nat.lt_of_le_of_lt Nat.and_le_left (by first | omega | assumption) | exact Nat.lt_of_le_of_lt Nat.and_le_right (by first | omega | decide))) rfl rfl ?_
      refine SD.take rfl panicBody (op_indexN Tryz.underlying51 ty58 rfl rfl (by omega)) rfl rfl ?_
      refine SD.nil ?_
      show SL _ _ _ _ _ _ _ [_] _ _ _
      refine SL.w (op_store ty58 rfl rfl (by repeat constructor) rfl rfl rfl) ?_
      rintro _ _ _ ⟨rfl, rfl⟩
      refine SL.nil <| T.blk <| T.region <| SL.v (op_addN (q := 1) rfl rfl (by omega)) ?_
      refine SL.mv rfl <| SL.nil <| T.unroll ?_
      refine T.seq <| T.region <| SL.v (op_lssT rfl rfl (by omega)) ?_
      refine SL.nil <| T.seq <| T.condT rfl <| T.skip <| T.seq <| T.block <| T.seq <| T.region <| SL.mv rfl <| SL.as rfl <| SL.nil <| T.draw (by kernel_rfl) 10 [.t 0, .t 1, .t 2, .t 3, .t 5, .t 6, .r 4, .r 7, .t 8, .t 9] (by kernel_rfl) ?_
      refine SD.take rfl panicBody (op_move rfl) rfl rfl ?_
      refine SD.take rfl panicBody (op_move rfl) rfl rfl ?_
      refine SD.take rfl panicBody (op_load ty53 rfl (by repeat constructor) rfl) rfl rfl ?_
      refine SD.take rfl panicBody (op_move rfl) rfl rfl ?_
      refine SD.take rfl panicBody (op_load ty53 rfl (by repeat constructor) rfl) rfl rfl ?_
      refine SD.take rfl panicBody (op_move rfl) rfl rfl ?_
      refine SD.run rfl (op_callF en116 (vs := [_, _]) rfl (word2b_spec (hB.mono (hX1.trans' hX2)) g1)) rfl rfl ?_
      rintro _ _ X3 ⟨rfl, hX3, rfl⟩
      refine SD.run rfl (op_callF en116 (vs := [_, _]) rfl (word_spec (k := 1) (z.mono ((hX1.trans' hX2).trans' hX3)) 0 (if_neg (by omega)))) rfl rfl ?_
      rintro _ _ X4 ⟨rfl, hX4, rfl⟩
      refine SD.take rfl panicBody (op_or rfl rfl (by first | omega | assumption | decide | exact Nat.lt_of_le_of_lt (Nat.shiftRight_le ..) (by first | omega | assumption) | exact Nat.lt_of_le_of_lt Nat.and_le_left (by first | omega | assumption) | exact Nat.lt_of_le_of_lt Nat.and_le_right (by first | omega | decide)) (by first | omega | assumption | decide | exact Nat.lt_of_le_of_lt (Nat.shiftRight_le ..) (by first | omega | assumption) | exact Nat.lt_of_le_of_lt Nat.and_le_left (by first | omega | assumption) | exact Nat.lt_of_le_of_lt Nat.and_le_right (by first | omega | decide))) rfl rfl ?_
      refine SD.take rfl panicBody (op_indexN Tryz.underlying51 ty58 rfl rfl (by omega)) rfl rfl ?_
      refine SD.nil ?_
      show SL _ _ _ _ _ _ _ [_] _ _ _
      refine SL.w (op_store ty58 rfl rfl (by repeat constructor) rfl rfl rfl) ?_
      rintro _ _ _ ⟨rfl, rfl⟩
      refine SL.nil <| T.blk <| T.region <| SL.v (op_addN (q := 1) rfl rfl (by omega)) ?_
      refine SL.mv rfl <| SL.nil <| T.unroll ?_
      refine T.seq <| T.region <| SL.v (op_lssF rfl rfl (by omega)) ?_
      refine SL.nil <| T.seq <| T.condF rfl ?_
      refine T.exit (T.exitCode (T.exitMore (T.exitBlk ?_)))
      refine T.seq <| T.region <| SL.mv rfl <| SL.v (op_build st53 (qs := [(0, _)]) rfl rfl) <| SL.w (op_store ty53 rfl rfl (by repeat constructor) rfl rfl rfl) ?_
      rintro _ _ _ ⟨rfl, rfl⟩
      refine SL.nil <| T.pub _ (by repeat constructor) ?_
      intro X5 hX5 hB5 _
      refine T.ret1 rfl (ResIs.cell rfl ty53 (by repeat constructor) rfl) ?_
      exact .inr ⟨g ||| 0, _, _, _, by rw [Nat.or_zero]; exact g0, by rw [Nat.or_zero]; exact g1, hl, rfl, hB5⟩
    · have z : SetR X (.agg #[.slice (some ⟨b', 0, none⟩) 1 c']) m' := SetR.one (by omega) h1' hB'
      refine Spec.enter Tryz.func69 rfl Tryz.ntmps69 rfl ?_
      intro w0 hw0
      refine T.seq <| T.region <| SL.w (op_box rfl) ?_
      rintro _ _ _ ⟨B2, rfl, rfl, rfl⟩
      refine SL.w (op_box rfl) ?_
      rintro _ _ _ ⟨B3, rfl, rfl, rfl⟩
      refine SL.w (op_alloc z53) ?_
      rintro _ _ _ ⟨B4, rfl, rfl, rfl⟩
      refine SL.nil <| T.seq <| T.region <| SL.v (op_fieldAddr fa53_0 rfl) <| SL.v (op_load ty51 rfl (by repeat constructor) rfl) ?_
      refine SL.v (op_lenS Tryz.underlying51 rfl) <| SL.v (op_fieldAddr fa53_0 rfl) <| SL.v (op_load ty51 rfl (by repeat constructor) rfl) ?_
      refine SL.v (op_lenS Tryz.underlying51 rfl) <| SL.v (op_maxL rfl rfl (by omega)) ?_
      refine SL.w (op_make Tryz.underlying51 mk51 rfl rfl rfl (Nat.le_refl _) (by omega) (by omega)) ?_
      rintro _ _ _ ⟨B14, rfl, rfl, rfl⟩
      refine SL.as rfl <| SL.nil <| T.seq <| T.seq <| T.region <| SL.mv rfl <| SL.v (op_lenS Tryz.underlying51 rfl) <| SL.v (op_move (v := .int .i64 ((0 : Nat) : Int)) rfl) <| SL.nil <| T.block <| T.unrollStart 3 ?_
      refine T.unroll ?_
      refine T.seq <| T.region <| SL.v (op_lssT rfl rfl (by omega)) ?_
      refine SL.nil <| T.seq <| T.condT rfl <| T.skip <| T.seq <| T.block <| T.seq <| T.region <| SL.mv rfl <| SL.as rfl <| SL.nil <| T.draw (by kernel_rfl) 10 [.t 0, .t 1, .t 2, .t 3, .t 5, .t 6, .r 4, .r 7, .t 8, .t 9] (by kernel_rfl) ?_
      refine SD.take rfl panicBody (op_move rfl) rfl rfl ?_
      refine SD.take rfl panicBody (op_move rfl) rfl rfl ?_
      refine SD.take rfl panicBody (op_load ty53 rfl (by repeat constructor) rfl) rfl rfl ?_
      refine SD.take rfl panicBody (op_move rfl) rfl rfl ?_
      refine SD.take rfl panicBody (op_load ty53 rfl (by repeat constructor) rfl) rfl rfl ?_
      refine SD.take rfl panicBody (op_move rfl) rfl rfl ?_
      refine SD.run rfl (op_callF en116 (vs := [_, _]) rfl (word2a_spec hB g2)) rfl rfl ?_
      rintro _ _ X1 ⟨rfl, hX1, rfl⟩
      refine SD.run rfl (op_callF en116 (vs := [_, _]) rfl (word_spec (k := 0) (z.mono hX1) m' (if_pos rfl))) rfl rfl ?_
      rintro _ _ X2 ⟨rfl, hX2, rfl⟩
      refine SD.take rfl panicBody (op_or rfl rfl (by first | omega | assumption | decide | exact Nat.lt_of_le_of_lt (Nat.shiftRight_le ..) (by first | omega | assumption) | exact Nat.lt_of_le_of_lt Nat.and_le_left (by first | omega | assumption) | exact Nat.lt_of_le_of_lt Nat.and_le_right (by first | omega | decide)) (by first | omega | assumption | decide | exact Nat.lt_of_le_of_lt (Nat.shiftRight_le ..) (by first | omega | assumption) | exact Nat.lt_of_le_of_lt Nat.and_le_left (by first | omega | assumption) | exact Nat.lt_of_le_of_lt Nat.and_le_right (by first | omega | decide))) rfl rfl ?_
      refine SD.take rfl panicBody (op_indexN Tryz.underlying51 ty58 rfl rfl (by omega)) rfl rfl ?_
      refine SD.nil ?_
      show SL _ _ _ _ _ _ _ [_] _ _ _
      refine SL.w (op_store ty58 rfl rfl (by repeat constructor) rfl rfl rfl) ?_
      rintro _ _ _ ⟨rfl, rfl⟩
      refine SL.nil <| T.blk <| T.region <| SL.v (op_addN (q := 1) rfl rfl (by omega)) ?_
      refine SL.mv rfl <| SL.nil <| T.unroll ?_
      refine T.seq <| T.region <| SL.v (op_lssT rfl rfl (by omega)) ?_
      refine SL.nil <| T.seq <| T.condT rfl <| T.skip <| T.seq <| T.block <| T.seq <| T.region <| SL.mv rfl <| SL.as rfl <| SL.nil <| T.draw (by kernel_rfl) 10 [.t 0, .t 1, .t 2, .t 3, .t 5, .t 6, .r 4, .r 7, .t 8, .t 9] (by kernel_rfl) ?_
      refine SD.take rfl panicBody (op_move rfl) rfl rfl ?_
      refine SD.take rfl panicBody (op_move rfl) rfl rfl ?_
      refine SD.take rfl panicBody (op_load ty53 rfl (by repeat constructor) rfl) rfl rfl ?_
      refine SD.take rfl panicBody (op_move rfl) rfl rfl ?_
      refine SD.take rfl panicBody (op_load ty53 rfl (by repeat constructor) rfl) rfl rfl ?_
      refine SD.take rfl panicBody (op_move rfl) rfl rfl ?_
      refine SD.run rfl (op_callF en116 (vs := [_, _]) rfl (word2b_spec (hB.mono (hX1.trans' hX2)) g1)) rfl rfl ?_
      rintro _ _ X3 ⟨rfl, hX3, rfl⟩
      refine SD.run rfl (op_callF en116 (vs := [_, _]) rfl (word_spec (k := 1) (z.mono ((hX1.trans' hX2).trans' hX3)) 0 (if_neg (by omega)))) rfl rfl ?_
      rintro _ _ X4 ⟨rfl, hX4, rfl⟩
      refine SD.take rfl panicBody (op_or rfl rfl (by first | omega | assumption | decide | exact Nat.lt_of_le_of_lt (Nat.shiftRight_le ..) (by first | omega | assumption) | exact Nat.lt_of_le_of_lt Nat.and_le_left (by first | omega | assumption) | exact Nat.lt_of_le_of_lt Nat.and_le_right (by first | omega | decide)) (by first | omega | assumption | decide | exact Nat.lt_of_le_of_lt (Nat.shiftRight_le ..) (by first | omega | assumption) | exact Nat.lt_of_le_of_lt Nat.and_le_left (by first | omega | assumption) | exact Nat.lt_of_le_of_lt Nat.and_le_right (by first | omega | decide))) rfl rfl ?_
      refine SD.take rfl panicBody (op_indexN Tryz.underlying51 ty58 rfl rfl (by omega)) rfl rfl ?_
      refine SD.nil ?_
      show SL _ _ _ _ _ _ _ [_] _ _ _
      refine SL.w (op_store ty58 rfl rfl (by repeat constructor) rfl rfl rfl) ?_
      rintro _ _ _ ⟨rfl, rfl⟩
      refine SL.nil <| T.blk <| T.region <| SL.v (op_addN (q := 1) rfl rfl (by omega)) ?_
      refine SL.mv rfl <| SL.nil <| T.unroll ?_
      refine T.seq <| T.region <| SL.v (op_lssF rfl rfl (by omega)) ?_
      refine SL.nil <| T.seq <| T.condF rfl ?_
      refine T.exit (T.exitCode (T.exitMore (T.exitBlk ?_)))
      refine T.seq <| T.region <| SL.mv rfl <| SL.v (op_build st53 (qs := [(0, _)]) rfl rfl) <| SL.w (op_store ty53 rfl rfl (by repeat constructor) rfl rfl rfl) ?_
      rintro _ _ _ ⟨rfl, rfl⟩
      refine SL.nil <| T.pub _ (by repeat constructor) ?_
      intro X5 hX5 hB5 _
      refine T.ret1 rfl (ResIs.cell rfl ty53 (by repeat constructor) rfl) ?_
      exact .inr ⟨g ||| 0, _, _, _, by rw [Nat.or_zero]; exact g0, by rw [Nat.or_zero]; exact g1, hl, rfl, hB5⟩
  · have hl : m ||| m' < 18446744073709551616 := or64 g2 g2'
    have hg : g ||| g' < 18446744073709551616 := or64 g1 g1'
    refine Spec.enter Tryz.func69 rfl Tryz.ntmps69 rfl ?_
    intro w0 hw0
    refine T.seq <| T.region <| SL.w (op_box rfl) ?_
    rintro _ _ _ ⟨B2, rfl, rfl, rfl⟩
    refine SL.w (op_box rfl) ?_
    rintro _ _ _ ⟨B3, rfl, rfl, rfl⟩
    refine SL.w (op_alloc z53) ?_
    rintro _ _ _ ⟨B4, rfl, rfl, rfl⟩
    refine SL.nil <| T.seq <| T.region <| SL.v (op_fieldAddr fa53_0 rfl) <| SL.v (op_load ty51 rfl (by repeat constructor) rfl) ?_
    refine SL.v (op_lenS Tryz.underlying51 rfl) <| SL.v (op_fieldAddr fa53_0 rfl) <| SL.v (op_load ty51 rfl (by repeat constructor) rfl) ?_
    refine SL.v (op_lenS Tryz.underlying51 rfl) <| SL.v (op_maxL rfl rfl (by omega)) ?_
    refine SL.w (op_make Tryz.underlying51 mk51 rfl rfl rfl (Nat.le_refl _) (by omega) (by omega)) ?_
    rintro _ _ _ ⟨B14, rfl, rfl, rfl⟩
    refine SL.as rfl <| SL.nil <| T.seq <| T.seq <| T.region <| SL.mv rfl <| SL.v (op_lenS Tryz.underlying51 rfl) <| SL.v (op_move (v := .int .i64 ((0 : Nat) : Int)) rfl) <| SL.nil <| T.block <| T.unrollStart 3 ?_
    refine T.unroll ?_
    refine T.seq <| T.region <| SL.v (op_lssT rfl rfl (by omega)) ?_
    refine SL.nil <| T.seq <| T.condT rfl <| T.skip <| T.seq <| T.block <| T.seq <| T.region <| SL.mv rfl <| SL.as rfl <| SL.nil <| T.draw (by kernel_rfl) 10 [.t 0, .t 1, .t 2, .t 3, .t 5, .t 6, .r 4, .r 7, .t 8, .t 9] (by kernel_rfl) ?_
    refine SD.take rfl panicBody (op_move rfl) rfl rfl ?_
    refine SD.take rfl panicBody (op_move rfl) rfl rfl ?_
    refine SD.take rfl panicBody (op_load ty53 rfl (by repeat constructor) rfl) rfl rfl ?_
    refine SD.take rfl panicBody (op_move rfl) rfl rfl ?_
    refine SD.take rfl panicBody (op_load ty53 rfl (by repeat constructor) rfl) rfl rfl ?_
    refine SD.take rfl panicBody (op_move rfl) rfl rfl ?_
    refine SD.run rfl (op_callF en116 (vs := [_, _]) rfl (word2a_spec hB g2)) rfl rfl ?_
    rintro _ _ X1 ⟨rfl, hX1, rfl⟩
    refine SD.run rfl (op_callF en116 (vs := [_, _]) rfl (word2a_spec (hB'.mono hX1) g2')) rfl rfl ?_
    rintro _ _ X2 ⟨rfl, hX2, rfl⟩
    refine SD.take rfl panicBody (op_or rfl rfl (by first | omega | assumption | decide | exact Nat.lt_of_le_of_lt (Nat.shiftRight_le ..) (by first | omega | assumption) | exact Nat.lt_of_le_of_lt Nat.and_le_left (by first | omega | assumption) | exact Nat.lt_of_le_of_lt Nat.and_le_right (by first | omega | decide)) (by first | omega | assumption | decide | exact Nat.lt_of_le_of_lt (Nat.shiftRight_le ..) (by first | omega | assumption) | exact Nat.lt_of_le_of_lt Nat.and_le_left (by first | omega | assumption) | exact Nat.lt_of_le_of_lt Nat.and_le_right (by first | omega | decide))) rfl rfl ?_
    refine SD.take rfl panicBody (op_indexN Tryz.underlying51 ty58 rfl rfl (by omega)) rfl rfl ?_
    refine SD.nil ?_
    show SL _ _ _ _ _ _ _ [_] _ _ _
    refine SL.w (op_store ty58 rfl rfl (by repeat constructor) rfl rfl rfl) ?_
    rintro _ _ _ ⟨rfl, rfl⟩
    refine SL.nil <| T.blk <| T.region <| SL.v (op_addN (q := 1) rfl rfl (by omega)) ?_
    refine SL.mv rfl <| SL.nil <| T.unroll ?_
    refine T.seq <| T.region <| SL.v (op_lssT rfl rfl (by omega)) ?_
    refine SL.nil <| T.seq <| T.condT rfl <| T.skip <| T.seq <| T.block <| T.seq <| T.region <| SL.mv rfl <| SL.as rfl <| SL.nil <| T.draw (by kernel_rfl) 10 [.t 0, .t 1, .t 2, .t 3, .t 5, .t 6, .r 4, .r 7, .t 8, .t 9] (by kernel_rfl) ?_
    refine SD.take rfl panicBody (op_move rfl) rfl rfl ?_
    refine SD.take rfl panicBody (op_move rfl) rfl rfl ?_
    refine SD.take rfl panicBody (op_load ty53 rfl (by repeat constructor) rfl) rfl rfl ?_
    refine SD.take rfl panicBody (op_move rfl) rfl rfl ?_
    refine SD.take rfl panicBody (op_load ty53 rfl (by repeat constructor) rfl) rfl rfl ?_
    refine SD.take rfl panicBody (op_move rfl) rfl rfl ?_
    refine SD.run rfl (op_callF en116 (vs := [_, _]) rfl (word2b_spec (hB.mono (hX1.trans' hX2)) g1)) rfl rfl ?_
    rintro _ _ X3 ⟨rfl, hX3, rfl⟩
    refine SD.run rfl (op_callF en116 (vs := [_, _]) rfl (word2b_spec (hB'.mono ((hX1.trans' hX2).trans' hX3)) g1')) rfl rfl ?_
    rintro _ _ X4 ⟨rfl, hX4, rfl⟩
    refine SD.take rfl panicBody (op_or rfl rfl (by first | omega | assumption | decide | exact Nat.lt_of_le_of_lt (Nat.shiftRight_le ..) (by first | omega | assumption) | exact Nat.lt_of_le_of_lt Nat.and_le_left (by first | omega | assumption) | exact Nat.lt_of_le_of_lt Nat.and_le_right (by first | omega | decide)) (by first | omega | assumption | decide | exact Nat.lt_of_le_of_lt (Nat.shiftRight_le ..) (by first | omega | assumption) | exact Nat.lt_of_le_of_lt Nat.and_le_left (by first | omega | assumption) | exact Nat.lt_of_le_of_lt Nat.and_le_right (by first | omega | decide))) rfl rfl ?_
    refine SD.take rfl panicBody (op_indexN Tryz.underlying51 ty58 rfl rfl (by omega)) rfl rfl ?_
    refine SD.nil ?_
    show SL _ _ _ _ _ _ _ [_] _ _ _
    refine SL.w (op_store ty58 rfl rfl (by repeat constructor) rfl rfl rfl) ?_
    rintro _ _ _ ⟨rfl, rfl⟩
    refine SL.nil <| T.blk <| T.region <| SL.v (op_addN (q := 1) rfl rfl (by omega)) ?_
    refine SL.mv rfl <| SL.nil <| T.unroll ?_
    refine T.seq <| T.region <| SL.v (op_lssF rfl rfl (by omega)) ?_
    refine SL.nil <| T.seq <| T.condF rfl ?_
    refine T.exit (T.exitCode (T.exitMore (T.exitBlk ?_)))
    refine T.seq <| T.region <| SL.mv rfl <| SL.v (op_build st53 (qs := [(0, _)]) rfl rfl) <| SL.w (op_store ty53 rfl rfl (by repeat constructor) rfl rfl rfl) ?_
    rintro _ _ _ ⟨rfl, rfl⟩
    refine SL.nil <| T.pub _ (by repeat constructor) ?_
    intro X5 hX5 hB5 _
    refine T.ret1 rfl (ResIs.cell rfl ty53 (by repeat constructor) rfl) ?_
    exact .inr ⟨g ||| g', _, _, _, fun e => g0 (Nat.or_eq_zero_iff.1 e).1, hg, hl, rfl, hB5⟩

theorem and2_spec {X : PMap} {v v' : Value} {m m' : Nat} (h : SetB X v m) (h' : SetR X v' m') : Spec Tryz.prog 42 [v, v'] X fun u X' => SetR X' u (m &&& m') := by
  rcases h with h | ⟨g, b, c, rest, g0, g1, g2, rfl, hB⟩
  · exact and_spec h h'
  have hl : m &&& m' < 18446744073709551616 := Nat.lt_of_le_of_lt Nat.and_le_left g2
  rcases h' with ⟨rfl, A', c', rfl⟩ | ⟨h0', h1', b', c', rest', rfl, hB'⟩
  · simp only [Nat.and_zero]
    refine Spec.enter Tryz.func42 rfl Tryz.ntmps42 rfl ?_
    intro w0 hw0
    refine T.seq <| T.region <| SL.w (op_box rfl) ?_
    rintro _ _ _ ⟨B2, rfl, rfl, rfl⟩
    refine SL.w (op_box rfl) ?_
    rintro _ _ _ ⟨B3, rfl, rfl, rfl⟩
    refine SL.w (op_alloc z53) ?_
    rintro _ _ _ ⟨B4, rfl, rfl, rfl⟩
    refine SL.nil <| T.seq <| T.region <| SL.v (op_fieldAddr fa53_0 rfl) <| SL.v (op_load ty51 rfl (by repeat constructor) rfl) ?_
    refine SL.v (op_lenS Tryz.underlying51 rfl) <| SL.v (op_fieldAddr fa53_0 rfl) <| SL.v (op_load ty51 rfl (by repeat constructor) rfl) ?_
    refine SL.v (op_lenS Tryz.underlying51 rfl) <| SL.v (op_minR rfl rfl (by omega)) ?_
    refine SL.w (op_make Tryz.underlying51 mk51 rfl rfl rfl (Nat.le_refl _) (by omega) (by omega)) ?_
    rintro _ _ _ ⟨B14, rfl, rfl, rfl⟩
    refine SL.as rfl <| SL.nil <| T.seq <| T.seq <| T.region <| SL.mv rfl <| SL.v (op_lenS Tryz.underlying51 rfl) <| SL.v (op_move (v := .int .i64 ((0 : Nat) : Int)) rfl) <| SL.nil <| T.block <| T.unrollStart 1 ?_
    refine T.unroll ?_
    refine T.seq <| T.region <| SL.v (op_lssF rfl rfl (by omega)) ?_
    refine SL.nil <| T.seq <| T.condF rfl ?_
    refine T.exit (T.exitCode (T.exitMore (T.exitBlk ?_)))
    refine T.seq <| T.region <| SL.mv rfl <| SL.w (op_callF en84 (vs := [_]) rfl (trim0_spec _ _)) ?_
    rintro _ _ X1 ⟨rfl, hX1, hS⟩
    obtain ⟨A1, l1, c1, rfl⟩ := hS.form
    refine SL.w (op_store ty53 rfl rfl (by repeat constructor) rfl rfl rfl) ?_
    rintro _ _ _ ⟨rfl, rfl⟩
    refine SL.nil <| T.ret1 rfl (ResIs.cell rfl ty53 (by repeat constructor) rfl) ?_
    exact hS
  · refine Spec.enter Tryz.func42 rfl Tryz.ntmps42 rfl ?_
    intro w0 hw0
    refine T.seq <| T.region <| SL.w (op_box rfl) ?_
    rintro _ _ _ ⟨B2, rfl, rfl, rfl⟩
    refine SL.w (op_box rfl) ?_
    rintro _ _ _ ⟨B3, rfl, rfl, rfl⟩
    refine SL.w (op_alloc z53) ?_
    rintro _ _ _ ⟨B4, rfl, rfl, rfl⟩
    refine SL.nil <| T.seq <| T.region <| SL.v (op_fieldAddr fa53_0 rfl) <| SL.v (op_load ty51 rfl (by repeat constructor) rfl) ?_
    refine SL.v (op_lenS Tryz.underlying51 rfl) <| SL.v (op_fieldAddr fa53_0 rfl) <| SL.v (op_load ty51 rfl (by repeat constructor) rfl) ?_
    refine SL.v (op_lenS Tryz.underlying51 rfl) <| SL.v (op_minR rfl rfl (by omega)) ?_
    refine SL.w (op_make Tryz.underlying51 mk51 rfl rfl rfl (Nat.le_refl _) (by omega) (by omega)) ?_
    rintro _ _ _ ⟨B14, rfl, rfl, rfl⟩
    refine SL.as rfl <| SL.nil <| T.seq <| T.seq <| T.region <| SL.mv rfl <| SL.v (op_lenS Tryz.underlying51 rfl) <| SL.v (op_move (v := .int .i64 ((0 : Nat) : Int)) rfl) <| SL.nil <| T.block <| T.unrollStart 2 ?_
    refine T.unroll ?_
    refine T.seq <| T.region <| SL.v (op_lssT rfl rfl (by omega)) ?_
    refine SL.nil <| T.seq <| T.condT rfl <| T.skip <| T.seq <| T.block <| T.seq <| T.region <| SL.mv rfl <| SL.as rfl <| SL.nil <| T.draw (by kernel_rfl) 14 [.t 0, .t 1, .t 2, .t 3, .t 4, .t 5, .t 6, .t 7, .t 8, .t 9, .t 10, .t 11, .t 12, .t 13] (by kernel_rfl) ?_
    refine SD.take rfl panicBody (op_move rfl) rfl rfl ?_
    refine SD.take rfl panicBody (op_move rfl) rfl rfl ?_
    refine SD.take rfl panicBody (op_fieldAddr fa53_0 rfl) rfl rfl ?_
    refine SD.take rfl panicBody (op_load ty51 rfl (by repeat constructor) rfl) rfl rfl ?_
    refine SD.take rfl panicBody (op_move rfl) rfl rfl ?_
    refine SD.take rfl panicBody (op_indexN Tryz.underlying51 ty58 rfl rfl (by omega)) rfl rfl ?_
    refine SD.take rfl panicBody (op_loadX ty58 rfl (by assumption) rfl) rfl rfl ?_
    refine SD.take rfl panicBody (op_fieldAddr fa53_0 rfl) rfl rfl ?_
    refine SD.take rfl panicBody (op_load ty51 rfl (by repeat constructor) rfl) rfl rfl ?_
    refine SD.take rfl panicBody (op_move rfl) rfl rfl ?_
    refine SD.take rfl panicBody (op_indexN Tryz.underlying51 ty58 rfl rfl (by omega)) rfl rfl ?_
    refine SD.take rfl panicBody (op_loadX ty58 rfl (by assumption) rfl) rfl rfl ?_
    refine SD.take rfl panicBody (op_and rfl rfl (by first | omega | assumption | decide | exact Nat.lt_of_le_of_lt (Nat.shiftRight_le ..) (by first | omega | assumption) | exact Nat.lt_of_le_of_lt Nat.and_le_left (by first | omega | assumption) | exact Nat.lt_of_le_of_lt Nat.and_le_right (by first | omega | decide)) (by first | omega | assumption | decide | exact Nat.lt_of_le_of_lt (Nat.shiftRight_le ..) (by first | omega | assumption) | exact Nat.lt_of_le_of_lt Nat.and_le_left (by first | omega | assumption) | exact Nat.lt_of_le_of_lt Nat.and_le_right (by first | omega | decide))) rfl rfl ?_
    refine SD.take rfl panicBody (op_indexN Tryz.underlying51 ty58 rfl rfl (by omega)) rfl rfl ?_
    refine SD.nil ?_
    show SL _ _ _ _ _ _ _ [_] _ _ _
    refine SL.w (op_store ty58 rfl rfl (by repeat constructor) rfl rfl rfl) ?_
    rintro _ _ _ ⟨rfl, rfl⟩
    refine SL.nil <| T.blk <| T.region <| SL.v (op_addN (q := 1) rfl rfl (by omega)) ?_
    refine SL.mv rfl <| SL.nil <| T.unroll ?_
    refine T.seq <| T.region <| SL.v (op_lssF rfl rfl (by omega)) ?_
    refine SL.nil <| T.seq <| T.condF rfl ?_
    refine T.exit (T.exitCode (T.exitMore (T.exitBlk ?_)))
    refine T.seq <| T.region <| SL.mv rfl <| T.pubAt _ (by repeat constructor) ?_
    intro X1 hX1 hB1 _
    refine SL.w (op_callF en84 (vs := [_]) rfl (trim1_spec hl hB1 (by omega))) ?_
    rintro _ _ X2 ⟨rfl, hX2, hS⟩
    obtain ⟨A2, l2, c2, rfl⟩ := hS.form
    refine SL.w (op_store ty53 rfl rfl (by repeat constructor) rfl rfl rfl) ?_
    rintro _ _ _ ⟨rfl, rfl⟩
    refine SL.nil <| T.ret1 rfl (ResIs.cell rfl ty53 (by repeat constructor) rfl) ?_
    exact hS
theorem below64_spec {X : PMap} {k : Nat} (hk : k = 64) : Spec Tryz.prog 43 [.int .i64 (k : Int)] X fun u X' => SetR X' u 18446744073709551615 := by
  have e : (k + 63) / 64 = 1 := by omega
  refine Spec.enter Tryz.func43 rfl Tryz.ntmps43 rfl ?_
  intro w0 hw0
  refine T.seq <| T.region <| SL.w (op_alloc z53) ?_
  rintro _ _ _ ⟨B2, rfl, rfl, rfl⟩
  refine SL.nil <| T.seq <| T.region <| SL.mv rfl <| SL.v (op_maxL rfl rfl (by omega)) ?_
  refine SL.v (op_minL rfl rfl (by omega)) ?_
  refine SL.as rfl <| SL.nil <| T.seq <| T.region <| SL.mv rfl <| SL.v (op_addN (q := 63) rfl rfl (by omega)) ?_
  refine SL.v (op_quoN (q := 64) rfl rfl rfl (by omega) (by decide)) ?_
  rw [e]
  refine SL.w (op_make (l := 1) (c := 1) Tryz.underlying51 mk51 rfl rfl rfl (Nat.le_refl _) (by omega) (by omega)) ?_
  rintro _ _ _ ⟨b1, rfl, rfl, rfl⟩
  refine SL.as rfl <| SL.nil <| T.seq <| T.seq <| T.region <| SL.mv rfl <| SL.v (op_lenS Tryz.underlying51 rfl) <| SL.v (op_move (v := .int .i64 ((0 : Nat) : Int)) rfl) <| SL.nil <| T.block <| T.unrollStart 2 ?_
  refine T.unroll ?_
  refine T.seq <| T.region <| SL.v (op_lssT rfl rfl (by omega)) ?_
  refine SL.nil <| T.seq <| T.condT rfl <| T.skip <| T.seq <| T.block <| T.seq <| T.region <| SL.mv rfl <| SL.as rfl <| SL.nil <| T.region <| SL.mv rfl <| SL.mv rfl <| SL.v (op_indexN Tryz.underlying51 ty58 rfl rfl (by omega)) ?_
  refine SL.w (op_store ty58 rfl rfl (by repeat constructor) rfl rfl rfl) ?_
  rintro _ _ _ ⟨rfl, rfl⟩
  refine SL.nil <| T.blk <| T.region <| SL.v (op_addN (q := 1) rfl rfl (by omega)) ?_
  refine SL.mv rfl <| SL.nil <| T.unroll ?_
  refine T.seq <| T.region <| SL.v (op_lssF rfl rfl (by omega)) ?_
  refine SL.nil <| T.seq <| T.condF rfl ?_
  refine T.exit (T.exitCode (T.exitMore (T.exitBlk ?_)))
  refine T.seq <| T.seq <| T.region <| SL.mv rfl <| SL.v (op_remN (q := 64) rfl rfl rfl (by decide)) ?_
  refine SL.v (op_gtrF rfl rfl (by omega)) ?_
  refine SL.nil <| T.condF rfl <| T.skip <| T.seq <| T.region <| SL.mv rfl <| SL.v (op_build st53 (qs := [(0, _)]) rfl rfl) <| SL.w (op_store ty53 rfl rfl (by repeat constructor) rfl rfl rfl) ?_
  rintro _ _ _ ⟨rfl, rfl⟩
  refine SL.nil <| T.pub _ (by repeat constructor) ?_
  intro X1 hX1 hB1 _
  refine T.ret1 rfl (ResIs.cell rfl ty53 (by repeat constructor) rfl) ?_
  exact SetR.one (m := 18446744073709551615) (by decide) (by decide) hB1
theorem and_full {m : Nat} (h : m < 18446744073709551616) : m &&& 18446744073709551615 = m := by
  have := Nat.and_two_pow_sub_one_of_lt_two_pow (n := 64) (x := m) h
  exact this
end Go.Proofs.YtnpcilglilfajaaGreatDoor
namespace Go.Proofs.YtnpcilglilfajaaGreatDoor
open Go.RowKit
theorem msk64_all {l : List Nat} (h : ∀ i ∈ l, i < 64) : msk64 l = maskOf l := by
  rw [msk64, List.filter_eq_self.2 (fun r hr => by simpa using h r hr)]
  rfl
theorem of2_spec {X : PMap} {v : Value} {l : List Nat} (h : SliceR X v l.length (ints l)) (hl : ∀ i ∈ l, i < 128) (hn : l.length < 4294967296) : Spec Tryz.prog 38 [v] X fun u X' => SetB X' u (msk64 l) := by
  by_cases hsm : ∀ i ∈ l, i < 64
  · rw [msk64_all hsm]
    exact (of_spec h hsm hn).mono fun _ _ _ h => .inl h
  obtain ⟨q0, hq0, hbig⟩ : ∃ (q : Nat) (hq : q < l.length), 64 ≤ l[q] := by
    refine Classical.not_not.1 fun hno => hsm fun i hi => ?_
    obtain ⟨q, hq, rfl⟩ := List.getElem_of_mem hi
    exact Nat.lt_of_not_le fun hc => hno ⟨q, hq, hc⟩
  rcases h with ⟨h0, _, A, c, rfl⟩ | ⟨h0, b, c, rfl, hB⟩
  · omega
  · refine Spec.enter Tryz.func38 rfl Tryz.ntmps38 rfl ?_
    intro w0 hw0
    refine T.seq <| T.region <| SL.w (op_alloc z53) ?_
    rintro _ _ _ ⟨B2, rfl, rfl, rfl⟩
    refine SL.nil <| T.seq <| T.region <| SL.as rfl <| SL.nil <| T.seq <| T.seq <| T.region <| SL.mv rfl <| SL.v (op_lenS Tryz.underlying24 rfl) <| SL.v (op_move (v := .int .i64 ((0 : Nat) : Int)) rfl) <| SL.nil <| T.block <| T.loopW (fun m env own X' => ∃ (j : Nat) (top : Int), m = l.length - j ∧ j ≤ l.length ∧ -1 ≤ top ∧ top < 128 ∧ (∀ q (h : q < l.length), q < j → (l[q] : Int) ≤ top) ∧ env = [(0, .slice (some ⟨b, 0, none⟩) l.length c), (2, .pointer (some ⟨B2, 0, none⟩)), (3, .int .i64 top), (9, .slice (some ⟨b, 0, none⟩) l.length c), (10, .int .i64 l.length), (11, .int .i64 (j : Int))] ∧ own = [⟨B2, [.slice none 0 0], 53, 1⟩] ∧ X = X') l.length ⟨0, -1, by simp, by omega, by omega, by omega, fun _ _ h => by omega, rfl, rfl, rfl⟩ (by repeat (first | exact Sub.nil | refine Sub.cons rfl ?_)) ?_
    rintro m _ _ _ ⟨j, top, rfl, hj, ht0, ht1, hall, rfl, rfl, rfl⟩
    rcases Nat.lt_or_ge j l.length with hjl | hjl
    · have h128 := hl l[j] (List.getElem_mem hjl)
      refine T.seq <| T.region <| SL.v (op_lssT rfl rfl (by omega)) ?_
      refine SL.nil <| T.seq <| T.condT rfl <| T.skip <| T.seq <| T.block <| T.seq <| T.region <| SL.v (op_indexN Tryz.underlying24 ty3 rfl rfl (by omega)) ?_
      refine SL.v (op_loadX ty3 rfl hB (cread1 (ints_get l j hjl))) <| SL.as rfl <| SL.nil <| T.seq <| T.region <| SL.mv rfl <| SL.v (op_leqT rfl rfl (by omega)) ?_
      refine SL.nil <| T.condT rfl <| T.region <| SL.mv rfl <| SL.mv rfl <| SL.v (op_max rfl rfl rfl) <| SL.as rfl <| SL.nil <| T.blk <| T.region <| SL.v (op_addN (q := 1) rfl rfl (by omega)) ?_
      refine SL.mv rfl <| SL.nil ?_
      exact T.backW (l.length - (j + 1)) (by omega) ⟨j + 1, _, rfl, by omega, by split <;> omega, by split <;> omega, top_step hall, rfl, rfl, rfl⟩ (by repeat (first | exact Sub.nil | refine Sub.cons rfl ?_))
    · have ej : j = l.length := by omega
      subst ej
      have hq1 := hall q0 hq0 hq0
      obtain ⟨tp, rfl⟩ := Int.eq_ofNat_of_zero_le (show 0 ≤ top by omega)
      have e : tp / 64 = 1 := by omega
      refine T.seq <| T.region <| SL.v (op_lssF rfl rfl (by omega)) ?_
      refine SL.nil <| T.seq <| T.condF rfl ?_
      refine T.exit (T.exitCode (T.exitCut (T.exitBlk ?_)))
      refine T.seq <| T.seq <| T.region <| SL.mv rfl <| SL.v (op_lssF rfl rfl (by omega)) ?_
      refine SL.nil <| T.condF rfl <| T.skip <| T.seq <| T.region <| SL.mv rfl <| SL.v (op_quoN (q := 64) rfl rfl rfl (by omega) (by decide)) ?_
      refine SL.v (op_addN (q := 1) rfl rfl (by omega)) ?_
      rw [e]
      refine SL.w (op_make (l := 2) (c := 2) Tryz.underlying51 mk51 rfl rfl rfl (Nat.le_refl _) (by omega) (by omega)) ?_
      rintro _ _ _ ⟨B27, rfl, rfl, rfl⟩
      refine SL.as rfl <| SL.nil <| T.seq <| T.seq <| T.region <| SL.mv rfl <| SL.v (op_lenS Tryz.underlying24 rfl) <| SL.v (op_move (v := .int .i64 ((0 : Nat) : Int)) rfl) <| SL.nil <| T.block <| T.loopW (fun m env own X' => ∃ (j g : Nat), m = l.length - j ∧ j ≤ l.length ∧ g < 18446744073709551616 ∧ (q0 < j → g ≠ 0) ∧ env = [(0, .slice (some ⟨b, 0, none⟩) l.length c), (2, .pointer (some ⟨B2, 0, none⟩)), (3, .int .i64 (tp : Int)), (6, .slice (some ⟨B27, 0, none⟩) 2 2), (28, .slice (some ⟨b, 0, none⟩) l.length c), (29, .int .i64 l.length), (30, .int .i64 (j : Int))] ∧ own = [⟨B27, [.int .u64 (msk64 (l.take j) : Nat), .int .u64 (g : Int)], 58, 2⟩, ⟨B2, [.slice none 0 0], 53, 1⟩] ∧ X = X') l.length ⟨0, 0, by simp, by omega, by omega, fun h => by omega, rfl, rfl, rfl⟩ (by repeat (first | exact Sub.nil | refine Sub.cons rfl ?_)) ?_
      rintro m _ _ _ ⟨j, g, rfl, hj, hg, hg0, rfl, rfl, rfl⟩
      rcases Nat.lt_or_ge j l.length with hjl | hjl
      · have h128 := hl l[j] (List.getElem_mem hjl)
        have hq := hall j hjl hjl
        have hmk := msk64_lt (l.take j)
        have htk : l.take (j + 1) = l.take j ++ [l[j]] := List.take_succ_eq_append_getElem hjl
        have hms := msk64_snoc (l.take j) l[j]
        rcases Nat.lt_or_ge l[j] 64 with h64 | h64
        · have hp : 2 ^ l[j] < 18446744073709551616 := Nat.pow_lt_pow_right (a := 2) (by omega) h64
          rw [if_pos h64] at hms
          have hnj : q0 ≠ j := fun e => by subst e; omega
          refine T.seq <| T.region <| SL.v (op_lssT rfl rfl (by omega)) ?_
          refine SL.nil <| T.seq <| T.condT rfl <| T.skip <| T.seq <| T.block <| T.seq <| T.region <| SL.v (op_indexN Tryz.underlying24 ty3 rfl rfl (by omega)) ?_
          refine SL.v (op_loadX ty3 rfl hB (cread1 (ints_get l j hjl))) <| SL.as rfl <| SL.nil <| T.seq <| T.region <| SL.mv rfl <| SL.v (op_geqT rfl rfl (by omega)) ?_
          refine SL.mv rfl <| SL.mv rfl <| SL.mv rfl <| SL.v (op_leqT rfl rfl (by omega)) ?_
          refine SL.v (op_pickT rfl rfl) <| SL.nil <| T.condT rfl <| T.draw (by kernel_rfl) 10 [.t 0, .t 1, .t 2, .t 3, .t 4, .t 5, .t 6, .t 7, .t 8, .t 9] (by kernel_rfl) ?_
          refine SD.take rfl panicBody (op_move rfl) rfl rfl ?_
          refine SD.take rfl panicBody (op_move rfl) rfl rfl ?_
          refine SD.take rfl panicBody (op_quo0 (q := 64) rfl rfl rfl (by omega) (by omega)) rfl rfl ?_
          refine SD.take rfl panicBody (op_indexN Tryz.underlying51 ty58 rfl rfl (by omega)) rfl rfl ?_
          refine SD.take rfl panicBody (op_load ty58 rfl (by repeat constructor) rfl) rfl rfl ?_
          refine SD.take rfl panicBody (op_move rfl) rfl rfl ?_
          refine SD.take rfl panicBody (op_remS (q := 64) rfl rfl rfl (by omega)) rfl rfl ?_
          refine SD.take rfl panicBody (op_bit rfl rfl (by omega)) rfl rfl ?_
          refine SD.take rfl panicBody (op_or rfl rfl (by first | omega | assumption | decide | exact Nat.lt_of_le_of_lt (Nat.shiftRight_le ..) (by first | omega | assumption) | exact Nat.lt_of_le_of_lt Nat.and_le_left (by first | omega | assumption) | exact Nat.lt_of_le_of_lt Nat.and_le_right (by first | omega | decide)) (by first | omega | assumption | decide | exact Nat.lt_of_le_of_lt (Nat.shiftRight_le ..) (by first | omega | assumption) | exact Nat.lt_of_le_of_lt Nat.and_le_left (by first | omega | assumption) | exact Nat.lt_of_le_of_lt Nat.and_le_right (by first | omega | decide))) rfl rfl ?_
          refine SD.take rfl panicBody (op_indexN Tryz.underlying51 ty58 rfl rfl (by omega)) rfl rfl ?_
          refine SD.nil ?_
          show SL _ _ _ _ _ _ _ [_] _ _ _
          refine SL.w (op_store ty58 rfl rfl (by repeat constructor) rfl rfl rfl) ?_
          rintro _ _ _ ⟨rfl, rfl⟩
          refine SL.nil <| T.blk <| T.region <| SL.v (op_addN (q := 1) rfl rfl (by omega)) ?_
          refine SL.mv rfl <| SL.nil ?_
          exact T.backW (l.length - (j + 1)) (by omega) ⟨j + 1, g, rfl, by omega, hg, fun h => hg0 (by omega), rfl, by rw [htk, hms]; rfl, rfl⟩ (by repeat (first | exact Sub.nil | refine Sub.cons rfl ?_))
        · have e1 : l[j] / 64 = 1 := by omega
          have hp : 2 ^ (l[j] % 64) < 18446744073709551616 := Nat.pow_lt_pow_right (a := 2) (by omega) (show l[j] % 64 < 64 by omega)
          rw [if_neg (by omega)] at hms
          refine T.seq <| T.region <| SL.v (op_lssT rfl rfl (by omega)) ?_
          refine SL.nil <| T.seq <| T.condT rfl <| T.skip <| T.seq <| T.block <| T.seq <| T.region <| SL.v (op_indexN Tryz.underlying24 ty3 rfl rfl (by omega)) ?_
          refine SL.v (op_loadX ty3 rfl hB (cread1 (ints_get l j hjl))) <| SL.as rfl <| SL.nil <| T.seq <| T.region <| SL.mv rfl <| SL.v (op_geqT rfl rfl (by omega)) ?_
          refine SL.mv rfl <| SL.mv rfl <| SL.mv rfl <| SL.v (op_leqT rfl rfl (by omega)) ?_
          refine SL.v (op_pickT rfl rfl) <| SL.nil <| T.condT rfl <| T.draw (by kernel_rfl) 10 [.t 0, .t 1, .t 2, .t 3, .t 4, .t 5, .t 6, .t 7, .t 8, .t 9] (by kernel_rfl) ?_
          refine SD.take rfl panicBody (op_move rfl) rfl rfl ?_
          refine SD.take rfl panicBody (op_move rfl) rfl rfl ?_
          refine SD.take rfl panicBody (op_quoN (q := 64) rfl rfl rfl (by omega) (by decide)) rfl rfl ?_
          rw [e1]
          refine SD.take rfl panicBody (op_indexN Tryz.underlying51 ty58 rfl rfl (by omega)) rfl rfl ?_
          refine SD.take rfl panicBody (op_load ty58 rfl (by repeat constructor) rfl) rfl rfl ?_
          refine SD.take rfl panicBody (op_move rfl) rfl rfl ?_
          refine SD.take rfl panicBody (op_remN (q := 64) rfl rfl rfl (by decide)) rfl rfl ?_
          refine SD.take rfl panicBody (op_bit rfl rfl (by omega)) rfl rfl ?_
          refine SD.take rfl panicBody (op_or rfl rfl (by first | omega | assumption | decide | exact Nat.lt_of_le_of_lt (Nat.shiftRight_le ..) (by first | omega | assumption) | exact Nat.lt_of_le_of_lt Nat.and_le_left (by first | omega | assumption) | exact Nat.lt_of_le_of_lt Nat.and_le_right (by first | omega | decide)) (by first | omega | assumption | decide | exact Nat.lt_of_le_of_lt (Nat.shiftRight_le ..) (by first | omega | assumption) | exact Nat.lt_of_le_of_lt Nat.and_le_left (by first | omega | assumption) | exact Nat.lt_of_le_of_lt Nat.and_le_right (by first | omega | decide))) rfl rfl ?_
          refine SD.take rfl panicBody (op_indexN Tryz.underlying51 ty58 rfl rfl (by omega)) rfl rfl ?_
          refine SD.nil ?_
          show SL _ _ _ _ _ _ _ [_] _ _ _
          refine SL.w (op_store ty58 rfl rfl (by repeat constructor) rfl rfl rfl) ?_
          rintro _ _ _ ⟨rfl, rfl⟩
          refine SL.nil <| T.blk <| T.region <| SL.v (op_addN (q := 1) rfl rfl (by omega)) ?_
          refine SL.mv rfl <| SL.nil ?_
          exact T.backW (l.length - (j + 1)) (by omega) ⟨j + 1, g ||| 2 ^ (l[j] % 64), rfl, by omega, or64 hg hp, fun _ => or_bit_ne _ _, rfl, by rw [htk, hms]; rfl, rfl⟩ (by repeat (first | exact Sub.nil | refine Sub.cons rfl ?_))
      · have ej : j = l.length := by omega
        subst ej
        rw [List.take_length]
        refine T.seq <| T.region <| SL.v (op_lssF rfl rfl (by omega)) ?_
        refine SL.nil <| T.seq <| T.condF rfl ?_
        refine T.exit (T.exitCode (T.exitCut (T.exitBlk ?_)))
        refine T.seq <| T.region <| SL.mv rfl <| T.pubAt B27 (by repeat constructor) ?_
        intro X1 hX1 hB1 _
        refine SL.w (op_callF en84 (vs := [_]) rfl (trim2_spec (hg0 hq0) hg (msk64_lt l) hB1 (by omega))) ?_
        rintro _ _ X2 ⟨rfl, hX2, hS⟩
        obtain ⟨A2, l2, c2, rfl⟩ := hS.form
        refine SL.w (op_store ty53 rfl rfl (by repeat constructor) rfl rfl rfl) ?_
        rintro _ _ _ ⟨rfl, rfl⟩
        refine SL.nil <| T.ret1 rfl (ResIs.cell rfl ty53 (by repeat constructor) rfl) ?_
        exact hS
end Go.Proofs.YtnpcilglilfajaaGreatDoor
namespace Go.Proofs.YtnpcilglilfajaaGreatDoor
open Go.RowKit
def nmN (ns : List ByteArray) : List Nat → Option (List ByteArray)
  | [] => some []
  | r :: l => match nameAt ns r with
    | none => none
    | some s => (nmN ns l).map (s :: ·)
mutual
def nmF (ns : List ByteArray) : Fm → Option Ex
  | .mk op n rs al => match nmN ns rs with
    | none => none
    | some l => match nmFL ns al with
      | none => none
      | some bl => some (.mk op n l bl)
def nmFL (ns : List ByteArray) : List Fm → Option (List Ex)
  | [] => some []
  | a :: al => match nmF ns a with
    | none => none
    | some e => match nmFL ns al with
      | none => none
      | some el => some (e :: el)
end
theorem nmN_app (ns : List ByteArray) (b : List Nat) : ∀ a : List Nat, nmN ns (a ++ b) = match nmN ns a with | none => none | some q => (nmN ns b).map (q ++ ·)
  | [] => by simp [nmN]
  | s :: a => by
    rw [List.cons_append, nmN, nmN, nmN_app ns b a]
    cases nameAt ns s with
    | none => rfl
    | some f =>
      cases nmN ns a with
      | none => rfl
      | some q => cases nmN ns b <;> rfl
theorem nmFL_app (ns : List ByteArray) (b : List Fm) : ∀ a : List Fm, nmFL ns (a ++ b) = match nmFL ns a with | none => none | some q => (nmFL ns b).map (q ++ ·)
  | [] => by simp [nmFL]
  | s :: a => by
    rw [List.cons_append, nmFL, nmFL, nmFL_app ns b a]
    cases nmF ns s with
    | none => rfl
    | some f =>
      cases nmFL ns a with
      | none => rfl
      | some q => cases nmFL ns b <;> rfl
theorem split_at {α : Type} {l : List α} {i : Nat} {a : α} (hs : l[i]? = some a) : l = l.take i ++ (a :: l.drop (i + 1)) := by
  obtain ⟨hi, he⟩ := List.getElem?_eq_some_iff.1 hs
  rw [← he, ← List.drop_eq_getElem_cons hi, List.take_append_drop]
theorem nmN_bad {ns : List ByteArray} {l : List Nat} {i r : Nat} (hs : l[i]? = some r) (hb : nameAt ns r = none) : nmN ns l = none := by
  rw [split_at hs, nmN_app]
  cases nmN ns (l.take i) with
  | none => rfl
  | some q => simp [nmN, hb]
theorem nmN_snoc {ns : List ByteArray} {l : List Nat} {i r : Nat} {s : ByteArray} {q : List ByteArray} (hs : l[i]? = some r) (hb : nameAt ns r = some s) (hq : nmN ns (l.take i) = some q) : nmN ns (l.take (i + 1)) = some (q ++ [s]) := by
  rw [take_snoc hs, nmN_app, hq]
  simp [nmN, hb]
theorem nmFL_bad {ns : List ByteArray} {l : List Fm} {i : Nat} {a : Fm} (hs : l[i]? = some a) (hb : nmF ns a = none) : nmFL ns l = none := by
  rw [split_at hs, nmFL_app]
  cases nmFL ns (l.take i) with
  | none => rfl
  | some q => simp [nmFL, hb]
theorem nmFL_snoc {ns : List ByteArray} {l : List Fm} {i : Nat} {a : Fm} {e : Ex} {q : List Ex} (hs : l[i]? = some a) (hb : nmF ns a = some e) (hq : nmFL ns (l.take i) = some q) : nmFL ns (l.take (i + 1)) = some (q ++ [e]) := by
  rw [take_snoc hs, nmFL_app, hq]
  simp [nmFL, hb]
theorem nm_mk {ns : List ByteArray} {op : Nat} {n : Int} {l : List ByteArray} {al : List Fm} {rs : List Nat} {bl : List Ex} (h1 : nmN ns rs = some l) (h2 : nmFL ns al = some bl) : nmF ns (.mk op n rs al) = some (.mk op n l bl) := by rw [nmF, h1]; simp only [h2]
theorem nm_no1 {ns : List ByteArray} {op : Nat} {n : Int} {rs : List Nat} {al : List Fm} (h1 : nmN ns rs = none) : nmF ns (.mk op n rs al) = none := by rw [nmF, h1]
theorem nm_no2 {ns : List ByteArray} {op : Nat} {n : Int} {rs : List Nat} {al : List Fm} (h2 : nmFL ns al = none) : nmF ns (.mk op n rs al) = none := by
  rw [nmF]
  cases nmN ns rs with
  | none => rfl
  | some rs => simp only [h2]
theorem nameAt_mem {ns : List ByteArray} {r : Nat} {s : ByteArray} (h : nameAt ns r = some s) : s ∈ ns := by
  unfold nameAt at h
  split at h
  · cases h
  · exact List.mem_of_getElem? h
/-- Room of an expression whose numbers were replaced. -/
theorem nmN_wt {ns : List ByteArray} (hz : ∀ s ∈ ns, s.size ≤ 12) : ∀ {l : List Nat} {q : List ByteArray}, nmN ns l = some q → wtS q ≤ 13 * l.length
  | [], q, h => by cases h; simp [wtS]
  | r :: l, q, h => by
    rw [nmN] at h
    cases h1 : nameAt ns r with
    | none => rw [h1] at h; cases h
    | some s =>
      rw [h1] at h
      obtain ⟨q', h2, rfl⟩ := Option.map_eq_some_iff.1 h
      have := nmN_wt hz h2
      have := hz s (nameAt_mem h1)
      simp only [wtS, List.map_cons, List.sum_cons, List.length_cons] at *
      omega
mutual
theorem nmF_wt {ns : List ByteArray} (hz : ∀ s ∈ ns, s.size ≤ 12) : ∀ (f : Fm) {e : Ex}, nmF ns f = some e → wtE e ≤ 13 * wtF f
  | .mk op n rs al, e, h => by
    rw [nmF] at h
    cases h1 : nmN ns rs with
    | none => rw [h1] at h; cases h
    | some l =>
      cases h2 : nmFL ns al with
      | none => rw [h1, h2] at h; cases h
      | some bl =>
        rw [h1, h2] at h
        cases h
        have := nmFL_wt hz al h2
        have := nmN_wt hz h1
        rw [wtF, wtE]; omega
theorem nmFL_wt {ns : List ByteArray} (hz : ∀ s ∈ ns, s.size ≤ 12) : ∀ (l : List Fm) {q : List Ex}, nmFL ns l = some q → wtL q ≤ 13 * wtFL l
  | [], q, h => by cases h; simp [wtL]
  | a :: al, q, h => by
    rw [nmFL] at h
    cases h1 : nmF ns a with
    | none => rw [h1] at h; cases h
    | some f =>
      cases h2 : nmFL ns al with
      | none => rw [h1, h2] at h; cases h
      | some fl =>
        rw [h1, h2] at h
        cases h
        have := nmF_wt hz a h1
        have := nmFL_wt hz al h2
        rw [wtFL, wtL]; omega
end
mutual
theorem nmF_ops {ns : List ByteArray} : ∀ (f : Fm) {e : Ex}, opsF f → nmF ns f = some e → opsE e
  | .mk op n rs al, e, ho, h => by
    rw [nmF] at h
    cases h1 : nmN ns rs with
    | none => rw [h1] at h; cases h
    | some l =>
      cases h2 : nmFL ns al with
      | none => rw [h1, h2] at h; cases h
      | some bl =>
        rw [h1, h2] at h
        cases h
        exact ⟨ho.1, nmFL_ops al ho.2 h2⟩
theorem nmFL_ops {ns : List ByteArray} : ∀ (l : List Fm) {q : List Ex}, opsFL l → nmFL ns l = some q → opsL q
  | [], q, _, h => by cases h; trivial
  | a :: al, q, ho, h => by
    rw [nmFL] at h
    cases h1 : nmF ns a with
    | none => rw [h1] at h; cases h
    | some f =>
      cases h2 : nmFL ns al with
      | none => rw [h1, h2] at h; cases h
      | some fl =>
        rw [h1, h2] at h
        cases h
        exact ⟨nmF_ops a ho.1 h1, nmFL_ops al ho.2 h2⟩
end
/-- The expression of a formula, and the error. -/
noncomputable def synF (ns : List ByteArray) (f : Fm) : Ex × Int := match nmF ns f with
  | none => (zeE, 9)
  | some e => if chkE e ≠ 0 then (zeE, chkE e) else (e, 0)
end Go.Proofs.YtnpcilglilfajaaGreatDoor
namespace Go.Proofs.YtnpcilglilfajaaGreatDoor
section
set_option maxRecDepth 100000
theorem en129 : Enters Tryz.prog 129 := enters_mk Tryz.func129 (by kernel_rfl) rfl
theorem en78 : Enters Tryz.prog 78 := enters_mk Tryz.func78 (by kernel_rfl) rfl
end
open Go.RowKit
theorem nmd_spec (N : Nat) : ∀ {X : PMap} {e : Fm} {r : Row4} {vt : Value} {ns : List ByteArray}, wtF e ≤ N → N < 100000000 → ns.length ≤ 63 → TabR X vt ns → FmR .u8 X e r → Spec Tryz.prog 78 [.agg #[r.1, r.2.1, r.2.2.1, r.2.2.2], vt] X fun u X' => ∃ r' : Row4, u = .tuple #[.agg #[r'.1, r'.2.1, r'.2.2.1, r'.2.2.2], .bool (nmF ns e).isSome] ∧ ExR .u8 X' ((nmF ns e).getD zeE) r' := by
  induction N with
  | zero => intro X e r _ _ h; have := wtF_pos e; omega
  | succ N ih =>
    intro X e r vt ns hN hB h63 hT h
    have hmx : maxLen = 9223372036854775807 := rfl
    cases h with
    | @mk op n l al vn va rows hn ha hl hr =>
    obtain ⟨Aa, ca, rfl⟩ := ha.form
    obtain ⟨An, cn, rfl⟩ := hn.form
    have hlen := wtFL_len al
    rw [wtF] at hN
    refine Spec.enter Tryz.func78 rfl Tryz.ntmps78 rfl ?_
    intro w0 hw0
    refine T.seq <| T.region <| SL.w (op_box rfl) ?_
    rintro _ _ _ ⟨B2, rfl, rfl, rfl⟩
    refine SL.w (op_alloc z70) ?_
    rintro _ _ _ ⟨B4, rfl, rfl, rfl⟩
    refine SL.as rfl <| SL.nil <| T.seq <| T.region <| SL.v (op_fieldAddr fa36_0 rfl) <| SL.v (op_load ty33 rfl (by repeat constructor) rfl) ?_
    refine SL.v (op_fieldAddr fa36_1 rfl) <| SL.v (op_load ty3 rfl (by repeat constructor) rfl) ?_
    refine SL.v (op_build st70 (qs := [(0, _), (1, _)]) rfl rfl) <| SL.w (op_alloc z70) ?_
    rintro _ _ _ ⟨B6, rfl, rfl, rfl⟩
    refine SL.w (op_store ty70 rfl rfl (by repeat constructor) rfl rfl rfl) ?_
    rintro _ _ _ ⟨rfl, rfl⟩
    refine SL.nil <| T.seq <| T.seq <| T.region <| SL.v (op_fieldAddr fa36_2 rfl) <| SL.v (op_load ty24 rfl (by repeat constructor) rfl) ?_
    refine SL.v (op_lenS Tryz.underlying24 rfl) <| SL.v (op_move (v := .int .i64 ((0 : Nat) : Int)) rfl) <| SL.nil <| T.block <| T.loopW (fun m env own X' => ∃ (i : Nat) (vn : Value) (Gn : Own) (rs : List ByteArray), m = l.length - i ∧ i ≤ l.length ∧ X.le X' ∧ nmN ns (l.take i) = some rs ∧ rs.length = i ∧ GrowS 9 1 vn rs.length (strsC rs) Gn ∧ env = [(1, vt), (2, .pointer (some ⟨B2, 0, none⟩)), (4, .pointer (some ⟨B4, 0, none⟩)), (6, .pointer (some ⟨B6, 0, none⟩)), (21, .slice An l.length cn), (22, .int .i64 (l.length : Int)), (23, .int .i64 (i : Int))] ∧ own = S3E B6 op n vn (.slice none 0 0) :: S3E B4 0 0 (.slice none 0 0) (.slice none 0 0) :: S3F B2 op n (.slice An l.length cn) (.slice Aa rows.length ca) :: Gn) l.length ⟨0, _, [], [], by simp, by omega, PMap.le_refl _, rfl, rfl, GrowS.nil, rfl, rfl⟩ (by repeat (first | exact Sub.nil | refine Sub.cons rfl ?_)) ?_
    rintro m _ _ X1 ⟨i, vn1, Gn, rs, rfl, hi, hX1, hrs, hrsl, hGn, rfl, rfl⟩
    obtain ⟨An1, cn1, rfl⟩ := hGn.form
    rcases Nat.lt_or_ge i l.length with hil | hil
    · have hs : l[i]? = some l[i] := List.getElem?_eq_getElem hil
      obtain ⟨bN, rfl, hbN⟩ := hn.blk (by omega)
      refine T.seq <| T.region <| SL.v (op_lssT rfl rfl (by omega)) ?_
      refine SL.nil <| T.seq <| T.condT rfl <| T.skip <| T.seq <| T.block <| T.seq <| T.region <| SL.v (op_indexN Tryz.underlying24 ty3 rfl rfl (by omega)) ?_
      refine SL.v (op_loadX ty3 rfl (hbN.mono hX1) (cread1 (ints_get l i hil))) <| SL.as rfl <| SL.nil <| T.seq <| T.region <| SL.mv rfl <| SL.mv rfl <| SL.w (op_callF en129 (vs := [_, _]) rfl (nameT_spec (r := l[i]) (hT.mono hX1) (by omega))) ?_
      rintro _ _ X2 ⟨rfl, hX2, rfl⟩
      cases hna : nameAt ns l[i] with
      | none =>
        have hno := nm_no1 (op := op) (n := n) (al := al) (nmN_bad hs hna)
        rw [Option.isSome_none]
        refine SL.mv rfl <| SL.v (op_extract rfl rfl) <| SL.v (op_extract rfl rfl) <| SL.as rfl <| SL.as rfl <| SL.nil <| T.seq <| T.seq <| T.region <| SL.mv rfl <| SL.v (op_not rfl) <| SL.nil <| T.condT rfl <| T.seq <| T.region ?_
        refine SL.v (op_build st70 (qs := []) rfl rfl) <| SL.w (op_store ty70 rfl rfl (by repeat constructor) rfl rfl rfl) ?_
        rintro _ _ _ ⟨rfl, rfl⟩
        refine SL.as rfl <| SL.nil <| T.ret2 rfl (ResIs.cell rfl ty70 (by repeat constructor) rfl) (ResIs.tmp rfl) ?_
        rw [hno]
        exact ⟨_, rfl, zeE_R⟩
      | some s =>
        rw [Option.isSome_some, Option.getD_some]
        refine SL.mv rfl <| SL.v (op_extract rfl rfl) <| SL.v (op_extract rfl rfl) <| SL.as rfl <| SL.as rfl <| SL.nil <| T.seq <| T.seq <| T.region <| SL.mv rfl <| SL.v (op_not rfl) <| SL.nil <| T.condF rfl <| T.skip <| T.region ?_
        refine SL.v (op_fieldAddr fa70_2 rfl) <| SL.v (op_load ty59 rfl (by repeat constructor) rfl) ?_
        refine SL.mv rfl <| SL.w (op_buildSlice Tryz.underlying59 bs9 (qs := [(0, _)]) rfl rfl rfl rfl rfl) ?_
        rintro _ _ _ ⟨B39, rfl, rfl, rfl⟩
        refine SL.w (op_appendGA (own0 := [_, _, _, _]) (m := 1) sl59 rfl hGn rfl (Src.ofOwn0 AtO.here rfl) (by intro y hy; have hy : y ∈ [Value.string _] := hy; simp only [List.mem_cons, List.not_mem_nil, or_false] at hy; rcases hy with rfl; rfl) (by omega) (by omega)) ?_
        rintro vn9 _ _ ⟨Gn9, rfl, rfl, hGn9⟩
        obtain ⟨An9, cn9, rfl⟩ := hGn9.form
        refine SL.v (op_fieldAddr fa70_2 rfl) <| SL.w (op_store ty59 rfl rfl (by repeat constructor) rfl rfl rfl) ?_
        rintro _ _ _ ⟨rfl, rfl⟩
        refine SL.nil <| T.blk <| T.region <| SL.v (op_addN (q := 1) rfl rfl (by omega)) ?_
        refine SL.mv rfl <| SL.nil <| T.less (List.sublist_cons_self _ _) ?_
        have hGn10 : GrowS 9 1 (.slice An9 (rs.length + 1) cn9) (rs ++ [s]).length (strsC (rs ++ [s])) Gn9 := by
          rw [List.length_append, strsC_app]
          exact hGn9
        exact T.backW (l.length - (i + 1)) (by omega) ⟨i + 1, _, _, rs ++ [s], rfl, by omega, hX1.trans' hX2, nmN_snoc hs hna hrs, by rw [List.length_append, hrsl]; rfl, hGn10, rfl, rfl⟩ (by repeat (first | exact Sub.nil | refine Sub.cons rfl ?_))
    obtain rfl : i = l.length := by omega
    rw [List.take_of_length_le (by omega)] at hrs
    refine T.seq <| T.region <| SL.v (op_lssF rfl rfl (by omega)) ?_
    refine SL.nil <| T.seq <| T.condF rfl ?_
    refine T.exit (T.exitCode (T.exitCut (T.exitBlk ?_)))
    refine T.seq <| T.seq <| T.region <| SL.v (op_fieldAddr fa36_3 rfl) <| SL.v (op_load ty34 rfl (by repeat constructor) rfl) ?_
    refine SL.v (op_lenS Tryz.underlying34 rfl) <| SL.v (op_move (v := .int .i64 ((0 : Nat) : Int)) rfl) <| SL.nil <| T.block <| T.pubG (own0 := [_, _, _]) hGn ?_
    intro Y1 hY1 hS1
    have hXY := hX1.trans' hY1
    have hN1 : RowR strC Y1 (.slice An1 rs.length cn1) rs := RowR.ofG (rc := strC) (by rw [strsC_flat]; exact hGn) (by rw [strsC_flat]; exact hS1)
    refine T.drop B2 (by repeat constructor) ?_
    refine T.loopW (fun m env own X' => ∃ (i : Nat) (va : Value) (Ga : Own) (bl : List Ex) (qs : List Row4), m = rows.length - i ∧ i ≤ rows.length ∧ Y1.le X' ∧ nmFL ns (al.take i) = some bl ∧ bl.length = i ∧ qs.length = i ∧ GrowS 70 4 va qs.length (qs.map rc4).flatten Ga ∧ (∀ (q : Nat) (a : Ex) (r : Row4), bl[q]? = some a → qs[q]? = some r → ExR .u8 X' a r) ∧ env = [(1, vt), (4, .pointer (some ⟨B4, 0, none⟩)), (6, .pointer (some ⟨B6, 0, none⟩)), (44, .slice Aa rows.length ca), (45, .int .i64 (rows.length : Int)), (46, .int .i64 (i : Int))] ∧ own = S3E B6 op n (.slice An1 rs.length cn1) va :: S3E B4 0 0 (.slice none 0 0) (.slice none 0 0) :: Ga) rows.length ⟨0, _, [], [], [], by simp, by omega, PMap.le_refl _, rfl, rfl, rfl, GrowS.nil, fun q a r _ h => by simp at h, rfl, rfl⟩ (by repeat (first | exact Sub.nil | refine Sub.cons rfl ?_)) ?_
    rintro m _ _ X2 ⟨i, va, Ga, bl, qs, rfl, hi, hX2, hbl, hbll, hqsl, hGa, hqs, rfl, rfl⟩
    obtain ⟨Aa7, ca7, rfl⟩ := hGa.form
    rcases Nat.lt_or_ge i rows.length with hil | hil
    · obtain ⟨r2, hr2⟩ : ∃ r2, rows[i]? = some r2 := ⟨_, List.getElem?_eq_getElem hil⟩
      obtain ⟨a, ha2⟩ : ∃ a, al[i]? = some a := ⟨_, List.getElem?_eq_getElem (by omega)⟩
      have hra := (hr i a r2 ha2 hr2).mono (hXY.trans' hX2)
      obtain ⟨bA, pre, rfl, hbA⟩ := ha.blk (by omega)
      have hma := List.mem_of_getElem? ha2
      have hwa := wtFL_mem hma
      have hih := ih (by omega) (by omega) h63 (hT.mono (hXY.trans' hX2)) hra
      obtain ⟨_, _, _, _, _, _, _, _, rfl⟩ := hra.form
      try simp only at hih
      refine T.seq <| T.region <| SL.v (op_lssT rfl rfl (by omega)) ?_
      refine SL.nil <| T.seq <| T.condT rfl <| T.skip <| T.seq <| T.block <| T.seq <| T.region <| SL.v (op_indexN Tryz.underlying34 ty36 rfl rfl (by omega)) ?_
      refine SL.v (op_loadX ty36 rfl (hbA.mono (hXY.trans' hX2)) (row_read rc4_len hr2 (by omega))) ?_
      refine SL.w (op_alloc z36) ?_
      rintro _ _ _ ⟨B12, rfl, rfl, rfl⟩
      refine SL.w (op_store ty36 rfl rfl (by repeat constructor) rfl rfl rfl) ?_
      rintro _ _ _ ⟨rfl, rfl⟩
      refine SL.nil <| T.seq <| T.region <| SL.v (op_load ty36 rfl (by repeat constructor) rfl) ?_
      refine SL.mv rfl <| SL.w (op_callF en78 (vs := [_, _]) rfl (hih)) ?_
      rintro _ _ X3 ⟨rfl, hX3, r8, rfl, hr8⟩
      obtain ⟨o8, n8, a8, b8, l8, c8, l9, c9, rfl⟩ := hr8.form
      cases hnf : nmF ns a with
      | none =>
        have hno := nm_no2 (op := op) (n := n) (rs := l) (nmFL_bad ha2 hnf)
        rw [Option.isSome_none]
        refine SL.mv rfl <| SL.v (op_extract rfl rfl) <| SL.v (op_extract rfl rfl) <| SL.w (op_alloc z70) ?_
        rintro _ _ _ ⟨B13, rfl, rfl, rfl⟩
        refine SL.w (op_store ty70 rfl rfl (by repeat constructor) rfl rfl rfl) ?_
        rintro _ _ _ ⟨rfl, rfl⟩
        refine SL.as rfl <| SL.nil <| T.seq <| T.seq <| T.region <| SL.mv rfl <| SL.v (op_not rfl) <| SL.nil <| T.condT rfl <| T.seq <| T.region <| SL.v (op_build st70 (qs := []) rfl rfl) <| SL.w (op_store ty70 rfl rfl (by repeat constructor) rfl rfl rfl) ?_
        rintro _ _ _ ⟨rfl, rfl⟩
        refine SL.as rfl <| SL.nil <| T.ret2 rfl (ResIs.cell rfl ty70 (by repeat constructor) rfl) (ResIs.tmp rfl) ?_
        rw [hno]
        exact ⟨_, rfl, zeE_R⟩
      | some f =>
        rw [hnf] at hr8
        rw [Option.isSome_some]
        refine SL.mv rfl <| SL.v (op_extract rfl rfl) <| SL.v (op_extract rfl rfl) <| SL.w (op_alloc z70) ?_
        rintro _ _ _ ⟨B13, rfl, rfl, rfl⟩
        refine SL.w (op_store ty70 rfl rfl (by repeat constructor) rfl rfl rfl) ?_
        rintro _ _ _ ⟨rfl, rfl⟩
        refine SL.as rfl <| SL.nil <| T.seq <| T.seq <| T.region <| SL.mv rfl <| SL.v (op_not rfl) <| SL.nil <| T.condF rfl <| T.skip <| T.region <| SL.v (op_fieldAddr fa70_3 rfl) <| SL.v (op_load ty68 rfl (by repeat constructor) rfl) ?_
        refine SL.v (op_load ty70 rfl (by repeat constructor) rfl) ?_
        refine SL.w (op_buildSlice Tryz.underlying68 bs70 (qs := [(0, _)]) rfl rfl rfl rfl rfl) ?_
        rintro _ _ _ ⟨B62, rfl, rfl, rfl⟩
        refine SL.w (op_appendGA (own0 := [_, _, _, _, _]) (m := 1) sl68 rfl hGa rfl (Src.ofOwn0 AtO.here rfl) (by intro y hy; have hy : y ∈ [Value.int _ _, Value.int _ _, Value.slice _ _ _, Value.slice _ _ _] := hy; simp only [List.mem_cons, List.not_mem_nil, or_false] at hy; rcases hy with rfl | rfl | rfl | rfl <;> rfl) (by omega) (by omega)) ?_
        rintro va9 _ _ ⟨Ga9, rfl, rfl, hGa9⟩
        obtain ⟨Aa9, ca9, rfl⟩ := hGa9.form
        refine SL.v (op_fieldAddr fa70_3 rfl) <| SL.w (op_store ty68 rfl rfl (by repeat constructor) rfl rfl rfl) ?_
        rintro _ _ _ ⟨rfl, rfl⟩
        refine SL.nil <| T.blk <| T.region <| SL.v (op_addN (q := 1) rfl rfl (by omega)) ?_
        refine SL.mv rfl <| SL.nil <| T.less (List.sublist_cons_self _ _) ?_
        refine T.less (List.sublist_cons_self _ _) ?_
        refine T.less (List.sublist_cons_self _ _) ?_
        have hGa10 : GrowS 70 4 (.slice Aa9 (qs.length + 1) ca9) (qs ++ [((.int .u8 (o8 : Int), .int .i64 n8, .slice a8 l8 c8, .slice b8 l9 c9) : Row4)]).length (((qs ++ [((.int .u8 (o8 : Int), .int .i64 n8, .slice a8 l8 c8, .slice b8 l9 c9) : Row4)]).map rc4).flatten) Ga9 := by
          rw [List.length_append, List.map_append, List.flatten_append]
          exact hGa9
        have hrows2 : ∀ (q : Nat) (a : Ex) (r : Row4), (bl ++ [f])[q]? = some a → (qs ++ [((.int .u8 (o8 : Int), .int .i64 n8, .slice a8 l8 c8, .slice b8 l9 c9) : Row4)])[q]? = some r → ExR .u8 X3 a r := rows_snoc2 (by omega) (fun q a r h1 h2 => (hqs q a r h1 h2).mono hX3) hr8
        exact T.backW (rows.length - (i + 1)) (by omega) ⟨i + 1, _, _, bl ++ [f], qs ++ [(.int .u8 (o8 : Int), .int .i64 n8, .slice a8 l8 c8, .slice b8 l9 c9)], rfl, by omega, hX2.trans' hX3, nmFL_snoc ha2 hnf hbl, by rw [List.length_append, hbll]; rfl, by rw [List.length_append, hqsl]; rfl, hGa10, hrows2, rfl, rfl⟩ (by repeat (first | exact Sub.nil | refine Sub.cons rfl ?_))
    · obtain rfl : i = rows.length := by omega
      rw [List.take_of_length_le (by omega)] at hbl
      refine T.seq <| T.region <| SL.v (op_lssF rfl rfl (by omega)) ?_
      refine SL.nil <| T.seq <| T.condF rfl ?_
      refine T.exit (T.exitCode (T.exitCut (T.exitBlk ?_)))
      refine T.seq <| T.region <| SL.v (op_load ty70 rfl (by repeat constructor) rfl) ?_
      refine SL.w (op_store ty70 rfl rfl (by repeat constructor) rfl rfl rfl) ?_
      rintro _ _ _ ⟨rfl, rfl⟩
      refine SL.as rfl <| SL.nil <| T.pubG (own0 := [_, _]) hGa ?_
      intro X9 hX9 hS9
      refine T.ret2 rfl (ResIs.cell rfl ty70 (by repeat constructor) rfl) (ResIs.tmp rfl) ?_
      have hA : RowR rc4 X9 (.slice Aa7 qs.length ca7) qs := RowR.ofG hGa hS9
      rw [nm_mk hrs hbl]
      exact ⟨(.int .u8 (op : Int), .int .i64 n, .slice An1 rs.length cn1, .slice Aa7 qs.length ca7), rfl, .mk ((hN1.mono hX2).mono hX9) hA (hqsl.trans hbll.symm) (fun q a r h1 h2 => (hqs q a r h1 h2).mono hX9)⟩
end Go.Proofs.YtnpcilglilfajaaGreatDoor
namespace Go.Proofs.YtnpcilglilfajaaGreatDoor
open Go.RowKit
end Go.Proofs.YtnpcilglilfajaaGreatDoor
namespace Go.Proofs.YtnpcilglilfajaaGreatDoor
open Go.RowKit
def digS : ByteArray := ⟨#[48, 49, 50, 51, 52, 53, 54, 55, 56, 57]⟩
def rS : ByteArray := ⟨#[114]⟩
def rname (i : Nat) : ByteArray := if i < 10 then rS ++ digS.extract i (i + 1) else (rS ++ digS.extract (i / 10) (i / 10 + 1)) ++ digS.extract (i % 10) (i % 10 + 1)
def rnames (n : Nat) : List ByteArray := (List.range n).map fun i => rname (i + 1)
theorem rnames_succ (n : Nat) : rnames (n + 1) = rnames n ++ [rname (n + 1)] := by
  rw [rnames, List.range_succ, List.map_append]; rfl
theorem rnames_len (n : Nat) : (rnames n).length = n := by simp [rnames]
theorem rnames_all : ((rnames 64).all fun s => validB s && decide (s.size ≤ 3)) = true := by kernel_rfl
theorem rnames_nd64 : (rnames 64).Nodup := of_decide_eq_true (by kernel_rfl)
theorem rnames_pre {n : Nat} (h : n ≤ 64) : (rnames n).Sublist (rnames 64) := by
  unfold rnames
  refine List.Sublist.map _ ?_
  have : List.range n = (List.range 64).take n := by
    apply List.ext_getElem?
    intro i
    rw [List.getElem?_take]
    by_cases hi : i < n
    · rw [if_pos hi, List.getElem?_eq_getElem (by simpa using hi), List.getElem?_eq_getElem (by simp; omega)]
      simp
    · rw [if_neg hi, List.getElem?_eq_none (by simpa using hi)]
  rw [this]
  exact List.take_sublist _ _
theorem rnames_ok {n : Nat} (h : n < 64) : errOf 63 [] (rnames n) = 0 :=
  errOf_ok (fun s hs => by
    have := List.all_eq_true.1 rnames_all s ((rnames_pre (by omega)).subset hs)
    rw [Bool.and_eq_true] at this
    exact validB_iff.1 this.1) ((rnames_pre (by omega)).nodup rnames_nd64) (by rw [List.nil_append, rnames_len]; omega) (by decide)
theorem rnames_size {n : Nat} (h : n < 64) : ∀ s ∈ rnames n, s.size ≤ 12 := fun s hs => by
  have := List.all_eq_true.1 rnames_all s ((rnames_pre (by omega)).subset hs)
  rw [Bool.and_eq_true, decide_eq_true_eq] at this
  omega
theorem names18_spec {X : PMap} {n : Nat} (hn : n < 64) : Spec Tryz.prog 30 [.int .i64 (n : Int)] X fun u X' => RowR strC X' u (rnames n) := by
  have hd : digS.size = 10 := rfl
  have hr : rS.size = 1 := rfl
  have hmx : maxLen = 9223372036854775807 := rfl
  refine Spec.enter Tryz.func30 rfl Tryz.ntmps30 rfl ?_
  intro w0 hw0
  refine T.seq <| T.region <| SL.as rfl <| SL.nil <| T.seq <| T.region <| SL.as rfl <| SL.nil <| T.seq <| T.seq <| T.region <| SL.v (op_assign (v := .int .i64 ((1 : Nat) : Int)) rfl) <| SL.nil <| T.block <| T.loopW (fun m env own X' => ∃ (i : Nat) (v : Value) (G : Own), m = n - i ∧ i ≤ n ∧ X.le X' ∧ GrowS 9 1 v (rnames i).length (strsC (rnames i)) G ∧ env = [(0, .int .i64 (n : Int)), (3, v), (4, .int .i64 ((1 + i : Nat) : Int))] ∧ G = own) n ⟨0, _, [], by omega, by omega, PMap.le_refl _, GrowS.nil, rfl, rfl⟩ (by repeat (first | exact Sub.nil | refine Sub.cons rfl ?_)) ?_
  rintro m _ _ X1 ⟨i, v, G, rfl, hi, hX1, hG, rfl, rfl⟩
  obtain ⟨A1, c1, rfl⟩ := hG.form
  have hl := rnames_len i
  rcases Nat.lt_or_ge i n with hin | hin
  · skip
    by_cases h10 : 1 + i < 10
    · have hrn : rname (i + 1) = rS ++ digS.extract (1 + i) (1 + i + 1) := by rw [rname, if_pos (by omega), Nat.add_comm i 1]
      refine T.seq <| T.seq <| T.region <| SL.mv rfl <| SL.mv rfl <| SL.v (op_leqT rfl rfl (by omega)) ?_
      refine SL.nil <| T.condT rfl <| T.skip <| T.seq <| T.block <| T.seq <| T.region <| SL.mv rfl <| SL.v (op_lssT rfl rfl (by omega)) ?_
      refine SL.nil <| T.condT rfl <| T.region <| SL.mv rfl <| SL.mv rfl <| SL.mv rfl <| SL.v (op_addN (p := 1 + i) (q := 1) rfl rfl (by omega)) ?_
      refine SL.v (op_sliceStr (s := digS) Tryz.underlying9 rfl rfl rfl (by omega) (by omega)) ?_
      refine SL.v (op_addStr (s := rS) rfl rfl (by rw [ByteArray.size_extract]; omega)) ?_
      rw [← hrn]
      refine SL.w (op_buildSlice Tryz.underlying59 bs9 (qs := [(0, _)]) rfl rfl rfl rfl rfl) ?_
      rintro _ _ _ ⟨B18, rfl, rfl, rfl⟩
      refine SL.w (op_appendGA (own0 := [_]) (m := 1) sl59 rfl hG rfl (Src.ofOwn0 AtO.here rfl) (by intro y hy; have hy : y ∈ [Value.string _] := hy; simp only [List.mem_cons, List.not_mem_nil, or_false] at hy; rcases hy with rfl; rfl) (by omega) (by omega)) ?_
      rintro v9 _ _ ⟨G9, rfl, rfl, hG9⟩
      obtain ⟨A9, c9, rfl⟩ := hG9.form
      refine SL.as rfl <| SL.nil <| T.blk <| T.region <| SL.mv rfl <| SL.v (op_addN (q := 1) rfl rfl (by omega)) ?_
      refine SL.as rfl <| SL.nil <| T.less (List.sublist_cons_self _ _) ?_
      have hG10 : GrowS 9 1 (.slice A9 ((rnames i).length + 1) c9) (rnames (i + 1)).length (strsC (rnames (i + 1))) G9 := by
        rw [rnames_succ, List.length_append, strsC_app]
        exact hG9
      exact T.backW (n - (i + 1)) (by omega) ⟨i + 1, _, G9, rfl, by omega, hX1, hG10, rfl, rfl⟩ (by repeat (first | exact Sub.nil | refine Sub.cons rfl ?_))
    · have hrn : rname (i + 1) = (rS ++ digS.extract ((1 + i) / 10) ((1 + i) / 10 + 1)) ++ digS.extract ((1 + i) % 10) ((1 + i) % 10 + 1) := by rw [rname, if_neg (by omega), Nat.add_comm i 1]
      refine T.seq <| T.seq <| T.region <| SL.mv rfl <| SL.mv rfl <| SL.v (op_leqT rfl rfl (by omega)) ?_
      refine SL.nil <| T.condT rfl <| T.skip <| T.seq <| T.block <| T.seq <| T.region <| SL.mv rfl <| SL.v (op_lssF rfl rfl (by omega)) ?_
      refine SL.nil <| T.condF rfl <| T.draw (by kernel_rfl) 16 [.t 0, .t 1, .t 2, .t 3, .t 4, .t 5, .t 6, .t 7, .t 8, .t 9, .t 10, .t 11, .t 12, .t 13, .t 14, .r 15] (by kernel_rfl) ?_
      refine SD.take rfl panicBody (op_move rfl) rfl rfl ?_
      refine SD.take rfl panicBody (op_move rfl) rfl rfl ?_
      refine SD.take rfl panicBody (op_quoN (p := 1 + i) (q := 10) rfl rfl rfl (by omega) (by omega)) rfl rfl ?_
      refine SD.take rfl panicBody (op_move rfl) rfl rfl ?_
      refine SD.take rfl panicBody (op_quoN (p := 1 + i) (q := 10) rfl rfl rfl (by omega) (by omega)) rfl rfl ?_
      refine SD.take rfl panicBody (op_addN (p := (1 + i) / 10) (q := 1) rfl rfl (by omega)) rfl rfl ?_
      refine SD.take rfl panicBody (op_sliceStr (s := digS) Tryz.underlying9 rfl rfl rfl (by omega) (by omega)) rfl rfl ?_
      refine SD.take rfl panicBody (op_addStr (s := rS) rfl rfl (by rw [ByteArray.size_extract]; omega)) rfl rfl ?_
      refine SD.take rfl panicBody (op_move rfl) rfl rfl ?_
      refine SD.take rfl panicBody (op_remN (p := 1 + i) (q := 10) rfl rfl rfl (by omega)) rfl rfl ?_
      refine SD.take rfl panicBody (op_move rfl) rfl rfl ?_
      refine SD.take rfl panicBody (op_remN (p := 1 + i) (q := 10) rfl rfl rfl (by omega)) rfl rfl ?_
      refine SD.take rfl panicBody (op_addN (p := (1 + i) % 10) (q := 1) rfl rfl (by omega)) rfl rfl ?_
      refine SD.take rfl panicBody (op_sliceStr (s := digS) Tryz.underlying9 rfl rfl rfl (by omega) (by omega)) rfl rfl ?_
      refine SD.take rfl panicBody (op_addStr (s := rS ++ digS.extract ((1 + i) / 10) ((1 + i) / 10 + 1)) rfl rfl (by simp only [ByteArray.size_append, ByteArray.size_extract]; omega)) rfl rfl ?_
      rw [← hrn]
      refine SD.run rfl (op_buildSlice Tryz.underlying59 bs9 (qs := [(0, _)]) rfl rfl rfl rfl rfl) rfl rfl ?_
      rintro _ _ _ ⟨B35, rfl, rfl, rfl⟩
      refine SD.nil ?_
      show SL _ _ _ _ _ _ _ [_, _] _ _ _
      refine SL.w (op_appendGA (own0 := [_]) (m := 1) sl59 rfl hG rfl (Src.ofOwn0 AtO.here rfl) (by intro y hy; have hy : y ∈ [Value.string _] := hy; simp only [List.mem_cons, List.not_mem_nil, or_false] at hy; rcases hy with rfl; rfl) (by omega) (by omega)) ?_
      rintro v9 _ _ ⟨G9, rfl, rfl, hG9⟩
      obtain ⟨A9, c9, rfl⟩ := hG9.form
      refine SL.as rfl <| SL.nil <| T.blk <| T.region <| SL.mv rfl <| SL.v (op_addN (q := 1) rfl rfl (by omega)) ?_
      refine SL.as rfl <| SL.nil <| T.less (List.sublist_cons_self _ _) ?_
      have hG10 : GrowS 9 1 (.slice A9 ((rnames i).length + 1) c9) (rnames (i + 1)).length (strsC (rnames (i + 1))) G9 := by
        rw [rnames_succ, List.length_append, strsC_app]
        exact hG9
      exact T.backW (n - (i + 1)) (by omega) ⟨i + 1, _, G9, rfl, by omega, hX1, hG10, rfl, rfl⟩ (by repeat (first | exact Sub.nil | refine Sub.cons rfl ?_))
  · obtain rfl : i = n := by omega
    refine T.seq <| T.seq <| T.region <| SL.mv rfl <| SL.mv rfl <| SL.v (op_leqF rfl rfl (by omega)) ?_
    refine SL.nil <| T.condF rfl ?_
    refine T.exit (T.exitCode (T.exitCut (T.exitBlk ?_)))
    refine T.seq <| T.region <| SL.mv rfl <| SL.as rfl <| SL.nil <| T.pubG (own0 := []) hG ?_
    intro X2 hX2 hS2
    refine T.ret1 rfl (ResIs.tmp rfl) ?_
    exact RowR.ofG (rc := strC) (by rw [strsC_flat]; exact hG) (by rw [strsC_flat]; exact hS2)
theorem syn_spec {X : PMap} {f : Fm} {r : Row4} {vt : Value} {ns : List ByteArray} (hw : wtF f < 1000000) (h63 : ns.length ≤ 63) (hz : ∀ s ∈ ns, s.size ≤ 12) (hT : TabR X vt ns) (h : FmR .u8 X f r) : Spec Tryz.prog 32 [.agg #[r.1, r.2.1, r.2.2.1, r.2.2.2], vt] X fun u X' => ∃ r' : Row4, u = .tuple #[.agg #[r'.1, r'.2.1, r'.2.2.1, r'.2.2.2], .int .i64 (synF ns f).2] ∧ ExR .u8 X' (synF ns f).1 r' := by
  have hc2 := fun {X' : PMap} (hX : X.le X') => nmd_spec (wtF f) (Nat.le_refl _) (by omega) h63 (hT.mono hX) (h.mono hX)
  obtain ⟨bt, rfl⟩ := hT.form
  obtain ⟨o, n, A, B, l, c, l', c', rfl⟩ := h.form
  try simp only at hc2
  rw [synF]
  refine Spec.enter Tryz.func32 rfl Tryz.ntmps32 rfl ?_
  intro w0 hw0
  refine T.seq <| T.region <| SL.w (op_box rfl) ?_
  rintro _ _ _ ⟨B2, rfl, rfl, rfl⟩
  refine SL.w (op_alloc z70) ?_
  rintro _ _ _ ⟨B4, rfl, rfl, rfl⟩
  refine SL.v (op_assign (v := .int .i64 ((0 : Nat) : Int)) rfl) <| SL.nil <| T.seq <| T.seq <| T.region <| SL.mv rfl <| SL.v (op_eqlNil Tryz.underlying64 rfl rfl) <| SL.nil <| T.condF rfl <| T.skip <| T.seq <| T.region <| SL.v (op_load ty36 rfl (by repeat constructor) rfl) ?_
  refine SL.mv rfl <| SL.w (op_callF en78 (vs := [_, _]) rfl (hc2 (PMap.le_refl _))) ?_
  rintro _ _ X2 ⟨rfl, hX2, r8, rfl, hr8⟩
  cases hnf : nmF ns f with
  | none =>
    obtain ⟨o8, n8, a8, b8, l8, c8, l9, c9, rfl⟩ := hr8.form
    rw [Option.isSome_none]
    refine SL.mv rfl <| SL.v (op_extract rfl rfl) <| SL.v (op_extract rfl rfl) <| SL.w (op_alloc z70) ?_
    rintro _ _ _ ⟨B6, rfl, rfl, rfl⟩
    refine SL.w (op_store ty70 rfl rfl (by repeat constructor) rfl rfl rfl) ?_
    rintro _ _ _ ⟨rfl, rfl⟩
    refine SL.as rfl <| SL.nil <| T.seq <| T.seq <| T.region <| SL.mv rfl <| SL.v (op_not rfl) <| SL.nil <| T.condT rfl <| T.seq <| T.region <| SL.v (op_build st70 (qs := []) rfl rfl) <| SL.w (op_store ty70 rfl rfl (by repeat constructor) rfl rfl rfl) ?_
    rintro _ _ _ ⟨rfl, rfl⟩
    refine SL.v (op_assign (v := .int .i64 ((9 : Nat) : Int)) rfl) <| SL.nil <| T.ret2 rfl (ResIs.cell rfl ty70 (by repeat constructor) rfl) (ResIs.tmp rfl) ?_
    exact ⟨_, rfl, zeE_R⟩
  | some e =>
    rw [hnf, Option.getD_some] at hr8
    have hwf := nmF_wt hz f hnf
    have hc3 := fun {X' : PMap} (hX : X2.le X') => chk_spec (by omega) (hr8.mono hX)
    obtain ⟨o8, n8, a8, b8, l8, c8, l9, c9, rfl⟩ := hr8.form
    try simp only at hc3
    rw [Option.isSome_some]
    refine SL.mv rfl <| SL.v (op_extract rfl rfl) <| SL.v (op_extract rfl rfl) <| SL.w (op_alloc z70) ?_
    rintro _ _ _ ⟨B6, rfl, rfl, rfl⟩
    refine SL.w (op_store ty70 rfl rfl (by repeat constructor) rfl rfl rfl) ?_
    rintro _ _ _ ⟨rfl, rfl⟩
    refine SL.as rfl <| SL.nil <| T.seq <| T.seq <| T.region <| SL.mv rfl <| SL.v (op_not rfl) <| SL.nil <| T.condF rfl <| T.skip <| T.seq <| T.seq <| T.region <| SL.v (op_load ty70 rfl (by repeat constructor) rfl) ?_
    refine SL.w (op_callF en73 (vs := [_]) rfl (hc3 (PMap.le_refl _))) ?_
    rintro _ _ X3 ⟨rfl, hX3, rfl⟩
    simp only
    by_cases d2 : chkE e = 0
    case neg =>
      rw [if_pos d2]
      refine SL.as rfl <| SL.nil <| T.seq <| T.region <| SL.mv rfl <| SL.v (op_neqT rfl rfl (by omega)) ?_
      refine SL.nil <| T.condT rfl <| T.seq <| T.region <| SL.v (op_build st70 (qs := []) rfl rfl) <| SL.mv rfl <| SL.w (op_store ty70 rfl rfl (by repeat constructor) rfl rfl rfl) ?_
      rintro _ _ _ ⟨rfl, rfl⟩
      refine SL.as rfl <| SL.nil <| T.ret2 rfl (ResIs.cell rfl ty70 (by repeat constructor) rfl) (ResIs.tmp rfl) ?_
      exact ⟨_, rfl, zeE_R⟩
    rw [if_neg (fun h => h d2), d2]
    refine SL.as rfl <| SL.nil <| T.seq <| T.region <| SL.mv rfl <| SL.v (op_neqF rfl rfl (by omega)) ?_
    refine SL.nil <| T.condF rfl <| T.skip <| T.seq <| T.region <| SL.v (op_load ty70 rfl (by repeat constructor) rfl) ?_
    refine SL.w (op_store ty70 rfl rfl (by repeat constructor) rfl rfl rfl) ?_
    rintro _ _ _ ⟨rfl, rfl⟩
    refine SL.v (op_assign (v := .int .i64 ((0 : Nat) : Int)) rfl) <| SL.nil <| T.ret2 rfl (ResIs.cell rfl ty70 (by repeat constructor) rfl) (ResIs.tmp rfl) ?_
    exact ⟨_, rfl, hr8.mono hX3⟩
theorem synF_ok {ns : List ByteArray} {f : Fm} (hz : ∀ s ∈ ns, s.size ≤ 12) (ho : opsF f) : opsE (synF ns f).1 ∧ wtE (synF ns f).1 ≤ 13 * wtF f := by
  have hq : opsE zeE ∧ wtE zeE ≤ 13 * wtF f := by
    refine ⟨⟨by omega, trivial⟩, ?_⟩
    have := wtF_pos f
    show 1 ≤ _
    omega
  unfold synF
  split
  · exact hq
  · rename_i e he
    split
    · exact hq
    · exact ⟨nmF_ops f ho he, nmF_wt hz f he⟩
end Go.Proofs.YtnpcilglilfajaaGreatDoor
namespace Go.Proofs.YtnpcilglilfajaaGreatDoor
open Go.RowKit
def nm6 (r : Nat) : ByteArray := (nameAt (rnames 6) r).getD ⟨#[]⟩
theorem nm6_all : ((List.range 6).all fun i => decide (nameAt (rnames 6) (i + 1) = some (nm6 (i + 1))) && decide (posN (nm6 (i + 1)) (rnames 6) = i + 1) && validB (nm6 (i + 1))) = true := by kernel_rfl
theorem nm6_ok {r : Nat} (h1 : 1 ≤ r) (h2 : r ≤ 6) : nameAt (rnames 6) r = some (nm6 r) ∧ posN (nm6 r) (rnames 6) = r ∧ validS (nm6 r) := by
  have h := List.all_eq_true.1 nm6_all (r - 1) (List.mem_range.2 (by omega))
  rw [Nat.sub_add_cancel h1] at h
  simp only [Bool.and_eq_true, decide_eq_true_eq] at h
  exact ⟨h.1.1, h.1.2, validB_iff.1 h.2⟩
theorem nmN6 : ∀ {rs : List Nat}, (∀ r ∈ rs, 1 ≤ r ∧ r ≤ 6) → nmN (rnames 6) rs = some (rs.map nm6)
  | [], _ => rfl
  | r :: rs, h => by
    obtain ⟨a, b⟩ := h r (by simp)
    rw [nmN, (nm6_ok a b).1, nmN6 fun q hq => h q (by simp [hq])]
    rfl
theorem numbN6 {adm : Nat} : ∀ {rs : List Nat}, (∀ r ∈ rs, 1 ≤ r ∧ r ≤ 6) → numbN (rnames 6) adm (rs.map nm6) = if ∃ r ∈ rs, adm.testBit r = true then none else some rs
  | [], _ => by simp [numbN]
  | r :: rs, h => by
    obtain ⟨a, b⟩ := h r (by simp)
    obtain ⟨_, hp, _⟩ := nm6_ok a b
    rw [List.map_cons, numbN, numbN6 fun q hq => h q (by simp [hq])]
    by_cases hb : adm.testBit r = true
    · rw [if_pos (show badN _ _ _ from .inr (by rw [hp]; exact hb)), if_pos ⟨r, by simp, hb⟩]
    · rw [if_neg (show ¬badN _ _ _ from fun h => h.elim (fun h => by omega) (fun h => hb (by rw [hp] at h; exact h))), hp]
      by_cases hq : ∃ q ∈ rs, adm.testBit q = true
      · obtain ⟨q, h1, h2⟩ := hq
        rw [if_pos ⟨q, h1, h2⟩, if_pos ⟨q, by simp [h1], h2⟩]; rfl
      · rw [if_neg hq, if_neg]
        · rfl
        · rintro ⟨q, h1, h2⟩
          rcases List.mem_cons.1 h1 with rfl | h1
          · exact hb h2
          · exact hq ⟨q, h1, h2⟩
theorem nm6_nd {rs : List Nat} (h : ∀ r ∈ rs, 1 ≤ r ∧ r ≤ 6) (hn : rs.Nodup) : (rs.map nm6).Nodup := by
  induction rs with
  | nil => simp
  | cons r rs ih =>
    obtain ⟨h1, h2⟩ := List.nodup_cons.1 hn
    rw [List.map_cons, List.nodup_cons]
    refine ⟨fun hm => ?_, ih (fun q hq => h q (by simp [hq])) h2⟩
    obtain ⟨q, hq, he⟩ := List.mem_map.1 hm
    obtain ⟨a, b⟩ := h r (by simp)
    obtain ⟨c, d⟩ := h q (by simp [hq])
    have e1 := (nm6_ok a b).2.1
    have e2 := (nm6_ok c d).2.1
    rw [he] at e2
    have : q = r := by omega
    exact h1 (this ▸ hq)
theorem node_ok6 {op : Nat} {n : Int} {rs : List Nat} {al : List Ex} {k : Nat} (h : ownF op n rs k = 0) (hk : al.length = k) (hr : ∀ r ∈ rs, 1 ≤ r ∧ r ≤ 6) (ha : nodeL al = 0) : nodeE (.mk op n (rs.map nm6) al) = 0 := by
  obtain ⟨h1, h2, h3, h4, h5, h6, h7, h8, h9, h10⟩ := ownF_ok h
  have hown : ownE op n (rs.map nm6) al.length = 0 := by
    refine own0' (by rw [hk, h3]; unfold argF argN; omega) ?_ ?_ (nm6_nd hr h10) (by omega)
    · rintro (⟨a, b⟩ | a)
      · exact a (h4 b)
      · refine a ?_
        rw [List.length_map]
        unfold namN
        unfold leaF at h5
        unfold mosF at h6
        split
        · rename_i ho
          rw [if_pos (by omega)] at h5
          rw [if_pos ho] at h6
          omega
        · rename_i ho
          rw [if_neg ho] at h6
          split
          · rename_i h5'
            rw [if_pos (by omega)] at h5
            rw [if_pos h5'] at h6
            omega
          · rename_i h5'
            rw [if_neg h5'] at h6
            omega
    · intro s hs
      obtain ⟨r, hr', rfl⟩ := List.mem_map.1 hs
      exact (nm6_ok (hr r hr').1 (hr r hr').2).2.2
  rw [node_args hown, ha]
def hitF (adm : Nat) (m : Nat) : Prop := ∃ j, m.testBit j = true ∧ adm.testBit j = true
noncomputable instance (adm m : Nat) : Decidable (hitF adm m) := Classical.propDecidable _
theorem hit_or (adm a b : Nat) : hitF adm (a ||| b) ↔ hitF adm a ∨ hitF adm b := by
  constructor
  · rintro ⟨j, h1, h2⟩
    rw [Nat.testBit_or, Bool.or_eq_true] at h1
    exact h1.elim (fun h => .inl ⟨j, h, h2⟩) (fun h => .inr ⟨j, h, h2⟩)
  · rintro (⟨j, h1, h2⟩ | ⟨j, h1, h2⟩)
    · exact ⟨j, by rw [Nat.testBit_or, h1]; simp, h2⟩
    · exact ⟨j, by rw [Nat.testBit_or, h1]; simp, h2⟩
theorem hit_msk (adm : Nat) (rs : List Nat) : hitF adm (mskF rs) ↔ ∃ r ∈ rs, adm.testBit r = true := by
  constructor
  · rintro ⟨j, h1, h2⟩
    rw [mskF_bit] at h1
    exact ⟨j, of_decide_eq_true h1, h2⟩
  · rintro ⟨r, h1, h2⟩
    exact ⟨r, by rw [mskF_bit]; exact decide_eq_true h1, h2⟩
def in6 (m : Nat) : Prop := ∀ j, m.testBit j = true → 1 ≤ j ∧ j ≤ 6
theorem in6_or {a b : Nat} (h : in6 (a ||| b)) : in6 a ∧ in6 b := ⟨fun j hj => h j (by rw [Nat.testBit_or, hj]; rfl), fun j hj => h j (by rw [Nat.testBit_or, hj]; simp)⟩
theorem in6_msk {rs : List Nat} (h : in6 (mskF rs)) : ∀ r ∈ rs, 1 ≤ r ∧ r ≤ 6 := fun r hr => h r (by rw [mskF_bit]; exact decide_eq_true hr)
mutual
theorem nm_all {kind adm : Nat} : ∀ f : Fm, insF kind f = 0 → in6 (menF f) → ∃ e, nmF (rnames 6) f = some e ∧ nodeE e = 0 ∧ depE e = depF f ∧ sizE e = sizF f ∧ numbF (rnames 6) adm e = if hitF adm (menF f) then none else some f
  | .mk op n rs al, h, hm => by
    obtain ⟨h1, _, h3⟩ := insF_ok h
    rw [menF] at hm ⊢
    obtain ⟨m1, m2⟩ := in6_or hm
    have hr := in6_msk m1
    obtain ⟨el, e1, e2, e3, e4, e5, e6⟩ := nm_allL (kind := kind) (adm := adm) al h3 m2
    refine ⟨.mk op n (rs.map nm6) el, nm_mk (nmN6 hr) e1, node_ok6 h1 e6 hr e2, by rw [depE, depF, e3], by rw [sizE, sizF, e4], ?_⟩
    rw [numbF, numbN6 hr, e5]
    by_cases c1 : ∃ r ∈ rs, adm.testBit r = true
    · rw [if_pos c1, if_pos ((hit_or _ _ _).2 (.inl ((hit_msk _ _).2 c1)))]
    · rw [if_neg c1]
      by_cases c2 : hitF adm (menFL al)
      · rw [if_pos c2, if_pos ((hit_or _ _ _).2 (.inr c2))]
      · rw [if_neg c2, if_neg (fun h => ((hit_or _ _ _).1 h).elim (fun h => c1 ((hit_msk _ _).1 h)) c2)]
theorem nm_allL {kind adm : Nat} : ∀ l : List Fm, insFL kind l = 0 → in6 (menFL l) → ∃ el, nmFL (rnames 6) l = some el ∧ nodeL el = 0 ∧ depL el = depFL l ∧ sizL el = sizFL l ∧ numbL (rnames 6) adm el = (if hitF adm (menFL l) then none else some l) ∧ el.length = l.length
  | [], _, _ => by
    refine ⟨[], rfl, rfl, rfl, rfl, ?_, rfl⟩
    rw [if_neg]
    · rfl
    · rintro ⟨j, h1, _⟩
      rw [menFL, Nat.zero_testBit] at h1
      cases h1
  | a :: l, h, hm => by
    have h0 := insFL_zero h a (by simp)
    rw [insFL, h0, if_neg (by simp)] at h
    rw [menFL] at hm ⊢
    obtain ⟨m1, m2⟩ := in6_or hm
    obtain ⟨e, a1, a2, a3, a4, a5⟩ := nm_all (kind := kind) (adm := adm) a h0 m1
    obtain ⟨el, e1, e2, e3, e4, e5, e6⟩ := nm_allL (kind := kind) (adm := adm) l h m2
    refine ⟨e :: el, by rw [nmFL, a1]; simp only [e1], by rw [nodeL, a2, if_neg (by simp), e2], by rw [depL, depFL, a3, e3], by rw [sizL, sizFL, a4, e4], ?_, by rw [List.length_cons, List.length_cons, e6]⟩
    rw [numbL, a5, e5]
    by_cases c1 : hitF adm (menF a)
    · rw [if_pos c1, if_pos ((hit_or _ _ _).2 (.inl c1))]
    · rw [if_neg c1]
      by_cases c2 : hitF adm (menFL l)
      · rw [if_pos c2, if_pos ((hit_or _ _ _).2 (.inr c2))]
      · rw [if_neg c2, if_neg (fun h => ((hit_or _ _ _).1 h).elim c1 c2)]
end
/-- What a formula of a kind is resolved to. -/
theorem fit_res {kind adm : Nat} {f : Fm} (hk : 1 ≤ kind ∧ kind ≤ 3) (h : MkOk kind 1 4 f) (hc : chkF kind f = 0) : ∃ e, synF (rnames 6) f = (e, 0) ∧ resF (rnames 6) adm kind e = if hitF adm (menF f) then (zeF, 9) else (f, 0) := by
  obtain ⟨e, e1, e2, e3, e4, e5⟩ := nm_all (kind := kind) (adm := adm) f h.ins h.men
  have h1 := h.dep
  have h2 := h.siz
  have hce : chkE e = 0 := by unfold chkE; rw [if_neg (by omega), e2]
  refine ⟨e, ?_, ?_⟩
  · rw [synF, e1]
    simp only [hce]
    rfl
  · rw [resF, if_neg (by omega), if_neg (by rw [hce]; simp), e5]
    by_cases c : hitF adm (menF f)
    · rw [if_pos c, if_pos c]
    · rw [if_neg c, if_neg c]
      simp only [hc]
      rfl
end Go.Proofs.YtnpcilglilfajaaGreatDoor
namespace Go.Proofs.YtnpcilglilfajaaGreatDoor
open Go.Shelf
def lays190_ren : Go.Shelf.Ren := ⟨fun | 190 => 82 | 125 => 131 | 258 => 130 | 128 => 178 | 129 => 179 | 302 => 169 | 303 => 170 | 304 => 171 | 305 => 172 | 306 => 173 | 307 => 174 | 308 => 175 | 309 => 176 | 310 => 177 | 333 => 194 | 329 => 195 | 330 => 196 | 334 => 197 | 335 => 198 | 336 => 199 | 344 => 211 | n => n, fun | 31 => 59 | 9 => 9 | 3 => 3 | 46 => 206 | 0 => 0 | 51 => 253 | 53 => 58 | 4 => 4 | 183 => 246 | 182 => 245 | 131 => 85 | 5 => 5 | 218 => 267 | 222 => 271 | 228 => 282 | 229 => 38 | n => n, fun | n => n⟩
theorem lays190 : Go.Proofs.Lays.n190 Tryz.prog lays190_ren := {
  mixed := by kernel_rfl
  f125 := Tryz.func131.trans (congrArg some (by kernel_rfl))
  f128 := Tryz.func178.trans (congrArg some (by kernel_rfl))
  f129 := Tryz.func179.trans (congrArg some (by kernel_rfl))
  f190 := Tryz.func82.trans (congrArg some (by kernel_rfl))
  f258 := Tryz.func130.trans (congrArg some (by kernel_rfl))
  f302 := Tryz.func169.trans (congrArg some (by kernel_rfl))
  f303 := Tryz.func170.trans (congrArg some (by kernel_rfl))
  f304 := Tryz.func171.trans (congrArg some (by kernel_rfl))
  f305 := Tryz.func172.trans (congrArg some (by kernel_rfl))
  f306 := Tryz.func173.trans (congrArg some (by kernel_rfl))
  f307 := Tryz.func174.trans (congrArg some (by kernel_rfl))
  f308 := Tryz.func175.trans (congrArg some (by kernel_rfl))
  f309 := Tryz.func176.trans (congrArg some (by kernel_rfl))
  f310 := Tryz.func177.trans (congrArg some (by kernel_rfl))
  f329 := Tryz.func195.trans (congrArg some (by kernel_rfl))
  f330 := Tryz.func196.trans (congrArg some (by kernel_rfl))
  f333 := Tryz.func194.trans (congrArg some (by kernel_rfl))
  f334 := Tryz.func197.trans (congrArg some (by kernel_rfl))
  f335 := Tryz.func198.trans (congrArg some (by kernel_rfl))
  f336 := Tryz.func199.trans (congrArg some (by kernel_rfl))
  f344 := Tryz.func211.trans (congrArg some (by kernel_rfl))
  t0 := Tryz.underlying0
  a0 := Tryz.isAgg0
  z0 := Tryz.sizeOf0
  v0 := Tryz.zeroValue0
  t3 := Tryz.underlying3
  a3 := Tryz.isAgg3
  z3 := Tryz.sizeOf3
  v3 := Tryz.zeroValue3
  t4 := Tryz.underlying4
  a4 := Tryz.isAgg4
  z4 := Tryz.sizeOf4
  v4 := Tryz.zeroValue4
  t5 := Tryz.underlying5
  a5 := Tryz.isAgg5
  z5 := Tryz.sizeOf5
  v5 := Tryz.zeroValue5
  t9 := Tryz.underlying9
  a9 := Tryz.isAgg9
  z9 := Tryz.sizeOf9
  v9 := Tryz.zeroValue9
  t31 := Tryz.underlying59
  a31 := Tryz.isAgg59
  z31 := Tryz.sizeOf59
  v31 := Tryz.zeroValue59
  t46 := Tryz.underlying206
  a46 := Tryz.isAgg206
  z46 := Tryz.sizeOf206
  v46 := Tryz.zeroValue206
  t51 := Tryz.underlying253
  a51 := Tryz.isAgg253
  z51 := Tryz.sizeOf253
  v51 := Tryz.zeroValue253
  t53 := Tryz.underlying58
  a53 := Tryz.isAgg58
  z53 := Tryz.sizeOf58
  v53 := Tryz.zeroValue58
  t131 := Tryz.underlying85
  a131 := Tryz.isAgg85
  z131 := Tryz.sizeOf85
  v131 := Tryz.zeroValue85
  t182 := Tryz.underlying245
  a182 := Tryz.isAgg245
  z182 := Tryz.sizeOf245
  v182 := Tryz.zeroValue245
  t183 := Tryz.underlying246
  a183 := Tryz.isAgg246
  z183 := Tryz.sizeOf246
  v183 := Tryz.zeroValue246
  t218 := Tryz.underlying267
  a218 := Tryz.isAgg267
  z218 := Tryz.sizeOf267
  v218 := Tryz.zeroValue267
  t222 := Tryz.underlying271
  a222 := Tryz.isAgg271
  z222 := Tryz.sizeOf271
  v222 := Tryz.zeroValue271
  t228 := Tryz.underlying282
  a228 := Tryz.isAgg282
  z228 := Tryz.sizeOf282
  v228 := Tryz.zeroValue282
  t229 := Tryz.underlying38
  a229 := Tryz.isAgg38
  z229 := Tryz.sizeOf38
  v229 := Tryz.zeroValue38 }
end Go.Proofs.YtnpcilglilfajaaGreatDoor
namespace Go.Proofs.YtnpcilglilfajaaGreatDoor
open Go.RowKit
/-- The table of powers of ten lies as its initialiser lays it. -/
def Pow10 (X : PMap) : Prop := ∀ w, PIn X w → Lib.TabIs Tryz.prog w "internal/strconv.uint64pow10" .u64 Lib.pow10Tab
theorem Pow10.mono {X X' : PMap} (h : Pow10 X) (hX : X.le X') : Pow10 X' := fun w hw => h w fun k o hk => hw k o (hX k o hk)
/-- The block that was laid last holds other cells; new blocks. -/
theorem Sat.redo {w0 : Base} {X0 X : PMap} {own0 : Own} {b sz : Nat} {cs cs' : List Value} {ty : TypeId} {W W' : World} (h : Sat w0 X0 (⟨b, cs, ty, sz⟩ :: own0) X W) (h1 : W'.os = W.os) (h2 : W'.tape = W.tape) (h3 : W'.output = W.output) (h4 : W.heap.size ≤ W'.heap.size)
    (h5 : ∀ k, k < W.heap.size → k ≠ b → W'.heap[k]? = W.heap[k]?) (h6 : Ow.In ⟨b, cs', ty, sz⟩ W') : Sat w0 X0 (⟨b, cs', ty, sz⟩ :: own0) X W' := by
  have hb0 := h.new ⟨b, cs, ty, sz⟩ (by simp)
  have hnd := List.pairwise_cons.1 h.nodup
  have hap := h.apart ⟨b, cs, ty, sz⟩ (by simp)
  simp only at hb0 hap
  refine ⟨⟨⟨h1.trans h.below.os, h2.trans h.below.tape, h3.trans h.below.output, Nat.le_trans h.below.size h4, fun k hk => (h5 k (Nat.lt_of_lt_of_le hk h.below.size) (by omega)).trans (h.below.block k hk)⟩, h.old, ⟨fun p hp => ?_, fun k o hk => ?_⟩, fun p hp => ?_, fun p hp => ?_, ?_⟩, fun p hp => ?_⟩
  · rcases List.mem_cons.1 hp with rfl | hp
    · exact h6
    · obtain ⟨r, hr, hz⟩ := h.stab.own p (by simp [hp])
      exact ⟨r, (h5 p.b (get_lt hr) (fun e => hnd.1 p hp e.symm)).trans hr, hz⟩
  · have hkb : k ≠ b := fun e => by subst e; rw [hap] at hk; cases hk
    exact (h5 k (h.stab.pers.lt hk) hkb).trans (h.stab.pers k o hk)
  · rcases List.mem_cons.1 hp with rfl | hp
    · exact hb0
    · exact h.new p (by simp [hp])
  · rcases List.mem_cons.1 hp with rfl | hp
    · exact hap
    · exact h.apart p (by simp [hp])
  · exact List.pairwise_cons.2 ⟨fun q hq => hnd.1 q hq, hnd.2⟩
  · obtain ⟨g1, g2, g3, g4⟩ := h.res p hp
    have hpb : p.1 ≠ b := fun e => g3 ⟨b, cs, ty, sz⟩ (by simp) e.symm
    refine ⟨(h5 p.1 (get_lt g1) hpb).trans g1, g2, fun q hq => ?_, g4⟩
    rcases List.mem_cons.1 hq with rfl | hq
    · exact fun e => hpb e.symm
    · exact g3 q (by simp [hq])
theorem ltS_iff (a b : ByteArray) : ltS a b = decide (a.data.toList < b.data.toList) := by
  rw [ltS, Go.Proofs.bytesLess_eq, Lib.toList_data, Lib.toList_data]
theorem strs_back (l : List ByteArray) : (l.map fun s => s.data.toList).map (fun x : List UInt8 => (⟨x.toArray⟩ : ByteArray)) = l := by
  rw [List.map_map]
  exact (List.map_congr_left fun s _ => by simp).trans (List.map_id l)
theorem sortAll_spec {X : PMap} {b cap : Nat} {l : List ByteArray} (hl : l.length < 1000000) : SpecM Tryz.prog 82 [.slice (some ⟨b, 0, none⟩) l.length cap] X [⟨b, strsC l, 9, cap * 1⟩] fun _ L' _ => ∃ l' : List ByteArray, L' = [⟨b, strsC l', 9, cap * 1⟩] ∧ l'.Perm l ∧ AscS l' := by
  intro w0 X0 own0 W hs
  let ss : List (List UInt8) := l.map fun s => s.data.toList
  let so : List (List UInt8) := ss.mergeSort fun x y => decide (x ≤ y)
  have hssl : ss.length = l.length := by simp [ss]
  have hin := hs.stab.own ⟨b, strsC l, 9, cap * 1⟩ (by simp)
  have hH : Sort.Holds encStr W b 0 ss.toArray := by
    intro j hj
    have hj' : j < l.length := by simpa [ss] using hj
    refine ⟨?_, hin.frozen _⟩
    have : (strsC l)[0 + j]? = some (encStr ss.toArray[j]!) := by
      rw [Nat.zero_add]
      have e1 : ss.toArray[j]! = (l[j]).data.toList := by simp [ss, hj']
      rw [e1]
      simp [strsC, hj', encStr]
    exact hin.cell this
  have hcall : Calls Tryz.prog 82 #[.slice (some ⟨b, 0, none⟩) ss.length cap] W fun e w' => e = .returned (.tuple #[]) ∧ ∃ n os, w' = Sort.grow (Sort.putRow encStr (Sort.ahead W n) b 0 so.toArray) os :=
    calls_of_every_depth fun D => AnyS.slices_Sort_string_in lays190 D b 0 cap ss W hH hin.lt (by rw [hssl]; omega)
  rw [hssl] at hcall
  refine hcall.mono ?_
  rintro e w' ⟨rfl, n, os, rfl⟩
  let l' : List ByteArray := so.map fun x => (⟨x.toArray⟩ : ByteArray)
  have hso : so.length = l.length := by simp [so, hssl]
  have hperm : l'.Perm l := by
    have h1 : so.Perm ss := List.mergeSort_perm _ _
    have h2 := h1.map fun x : List UInt8 => (⟨x.toArray⟩ : ByteArray)
    rw [strs_back] at h2
    exact h2
  have hasc : AscS l' := by
    have h1 := List.pairwise_mergeSort (le := fun x y : List UInt8 => decide (x ≤ y)) (fun a b c h h' => by simp only [decide_eq_true_eq] at h h' ⊢; exact List.le_trans h h') (fun a b => by simp only [Bool.or_eq_true, decide_eq_true_eq]; exact List.le_total a b) ss
    refine List.pairwise_map.2 (h1.imp fun {x y} h => ?_)
    rw [ltS_iff]
    simp only [decide_eq_true_eq] at h
    simpa using h
  refine ⟨_, [⟨b, strsC l', 9, cap * 1⟩], X, rfl, ?_, PMap.le_refl _, l', rfl, hperm, hasc⟩
  have hsz : (Sort.putRow encStr (Sort.ahead W n) b 0 so.toArray).heap.size = W.heap.size := by simp
  refine Sat.redo hs rfl rfl rfl ?_ ?_ ?_
  · rw [Sort.size_grow, hsz]; omega
  · intro k hk hkb
    show ((Sort.putRow encStr (Sort.ahead W n) b 0 so.toArray).heap ++ os)[k]? = _
    rw [Array.getElem?_append_left (by rw [hsz]; exact hk)]
    show (W.heap.modify b _)[k]? = _
    rw [Array.getElem?_modify, if_neg (Ne.symm hkb)]
  · obtain ⟨r, hr, hz⟩ := hin
    refine ⟨r, ?_, by simpa [strsC, l', hso] using hz⟩
    show ((Sort.putRow encStr (Sort.ahead W n) b 0 so.toArray).heap ++ os)[b]? = _
    rw [Array.getElem?_append_left (by rw [hsz]; exact get_lt hr)]
    show (W.heap.modify b _)[b]? = _
    rw [Array.getElem?_modify, if_pos rfl, hr]
    simp only [Option.map_some, Sort.onCells]
    congr 2
    apply Array.ext_getElem?
    intro k
    simp only [Sort.putCells, Array.getElem?_mapIdx, List.getElem?_toArray]
    rcases Nat.lt_or_ge k l.length with hkl | hkl
    · have e1 : (strsC l ++ r)[k]? = some (.string l[k]) := by rw [List.getElem?_append_left (by simpa [strsC] using hkl)]; simp [strsC, hkl]
      have e2 : (strsC l' ++ r)[k]? = some (.string ⟨so[k].toArray⟩) := by
        rw [List.getElem?_append_left (by simpa [strsC, l', hso] using hkl)]
        simp [strsC, l', hso, hkl]
      rw [e1, e2]
      simp only [Option.map_some, Nat.zero_le, Nat.zero_add, true_and, List.size_toArray, hso, hkl, if_true, Nat.sub_zero]
      congr 2
      have hk2 : k < so.length := by rw [hso]; exact hkl
      simp [hk2]
    · have e1 : (strsC l ++ r)[k]? = r[k - l.length]? := by rw [List.getElem?_append_right (by simpa [strsC] using hkl)]; simp [strsC]
      have e2 : (strsC l' ++ r)[k]? = r[k - l.length]? := by rw [List.getElem?_append_right (by simpa [strsC, l', hso] using hkl)]; simp [strsC, l', hso]
      rw [e1, e2]
      simp only [Nat.zero_le, Nat.zero_add, true_and, List.size_toArray, hso]
      cases r[k - l.length]? with
      | none => rfl
      | some v => simp [Nat.not_lt.2 hkl]
end Go.Proofs.YtnpcilglilfajaaGreatDoor
namespace Go.Proofs.YtnpcilglilfajaaGreatDoor
open Go.RowKit
theorem insertion0_spec {X : PMap} {A : Option Addr} {c : Nat} : SpecM Tryz.prog 169 [.slice A 0 c, .int .i64 0, .int .i64 0] X [] fun _ L' _ => L' = [] := by
  refine SpecM.enter Tryz.func169 rfl Tryz.ntmps169 rfl ?_
  intro w0 X0 own0
  refine T.seq <| T.region <| SL.mv rfl <| SL.v (op_add rfl rfl (by omega) (by omega)) ?_
  refine SL.as rfl <| SL.nil <| T.block <| T.unrollStart 1 ?_
  refine T.unroll ?_
  refine T.seq <| T.seq <| T.region <| SL.mv rfl <| SL.mv rfl <| SL.v (op_lssF rfl rfl (by omega)) ?_
  refine SL.nil <| T.condF rfl ?_
  refine T.exit (T.exitCode (T.exitMore (T.exitBlk ?_)))
  refine T.doneM0 [] rfl (List.Perm.refl _) ?_
  exact ⟨PMap.le_refl _, rfl⟩
theorem pdq0_spec {X : PMap} {k : Int} {A : Option Addr} {c : Nat} : SpecM Tryz.prog 130 [.slice A 0 c, .int .i64 0, .int .i64 0, .int .i64 k] X [] fun _ L' _ => L' = [] := by
  refine SpecM.enter Tryz.func130 rfl Tryz.ntmps130 rfl ?_
  intro w0 X0 own0
  refine T.seq <| T.region <| SL.as rfl <| SL.nil <| T.seq <| T.region <| SL.as rfl <| SL.nil <| T.block <| T.unrollStart 1 ?_
  refine T.unroll ?_
  refine T.block <| T.seq <| T.region <| SL.mv rfl <| SL.mv rfl <| SL.v (op_sub rfl rfl (by omega) (by omega)) ?_
  refine SL.as rfl <| SL.nil <| T.seq <| T.seq <| T.region <| SL.mv rfl <| SL.v (op_leqT rfl rfl (by omega)) ?_
  refine SL.nil <| T.condT rfl <| T.seq <| T.region <| SL.mv rfl <| SL.mv rfl <| SL.mv rfl <| SL.w (op_callM en169 (vs := [_, _, _]) rfl (insertion0_spec) rfl) ?_
  rintro _ _ X1 ⟨_, rfl, hX1, rfl⟩
  refine SL.nil <| T.retM0 [] rfl  (List.Perm.refl _) ?_
  exact ⟨hX1, rfl⟩
theorem sort0_spec {X : PMap} {A : Option Addr} {c : Nat} : SpecM Tryz.prog 82 [.slice A 0 c] X [] fun _ L' _ => L' = [] := by
  refine SpecM.enter Tryz.func82 rfl Tryz.ntmps82 rfl ?_
  intro w0 X0 own0
  refine T.seq <| T.region <| SL.mv rfl <| SL.v (op_lenS Tryz.underlying59 rfl) <| SL.as rfl <| SL.nil <| T.region <| SL.mv rfl <| SL.mv rfl <| SL.mv rfl <| SL.v (op_convU64 Tryz.underlying3 Tryz.underlying206 rfl (by omega) (by omega)) ?_
  refine SL.w (op_callF en131 (vs := [_]) rfl (len_specB (n := 0) (by omega))) ?_
  rintro _ _ X1 ⟨rfl, hX1, k, rfl, h1, h2⟩
  refine SL.w (op_callM en130 (vs := [_, _, _, _]) rfl (pdq0_spec) rfl) ?_
  rintro _ _ X2 ⟨_, rfl, hX2, rfl⟩
  refine SL.nil <| T.doneM0 [] rfl (List.Perm.refl _) ?_
  exact ⟨hX1.trans' hX2, rfl⟩
theorem compact0_spec {X : PMap} {A : Option Addr} {c : Nat} : Spec Tryz.prog 83 [.slice A 0 c] X fun u _ => u = .slice A 0 c := by
  refine Spec.enter Tryz.func83 rfl Tryz.ntmps83 rfl ?_
  intro w0 hw0
  refine T.seq <| T.region <| SL.as rfl <| SL.nil <| T.seq <| T.seq <| T.region <| SL.mv rfl <| SL.v (op_lenS Tryz.underlying59 rfl) <| SL.v (op_lssT rfl rfl (by omega)) ?_
  refine SL.nil <| T.condT rfl <| T.seq <| T.region <| SL.mv rfl <| SL.as rfl <| SL.nil <| T.ret1 rfl (ResIs.tmp rfl) ?_
  rfl
/-- The names of an expression, as the program lists them. -/
theorem namesA_spec {X : PMap} {e : Ex} {r : Row4} (hw : wtE e < 900000) (h : ExR .u8 X e r) : Spec Tryz.prog 35 [.agg #[r.1, r.2.1, r.2.2.1, r.2.2.2]] X fun u X' => ∃ l' : List ByteArray, l'.Perm (allE e) ∧ AscS l' ∧ RowR strC X' u (compactS l') := by
  obtain ⟨_, _, _, _, _, _, _, _, rfl⟩ := h.form
  have hmx : maxLen = 9223372036854775807 := rfl
  have hal := all_wt e
  refine Spec.enter Tryz.func35 rfl Tryz.ntmps35 rfl ?_
  intro w0 hw0
  refine T.seq <| T.region <| SL.w (op_box rfl) ?_
  rintro _ _ _ ⟨B1, rfl, rfl, rfl⟩
  refine SL.as rfl <| SL.nil <| T.seq <| T.region <| SL.v (op_load ty70 rfl (by repeat constructor) rfl) ?_
  refine SL.w (op_callM en81 (vs := [_, _]) rfl (gather_spec _ (Nat.le_refl _) (l := []) (by simp; omega) h GrowS.nil) rfl) ?_
  rintro lv _ X1 ⟨G, rfl, hX1, hG⟩
  rw [List.nil_append] at hG
  rcases Nat.eq_zero_or_pos (allE e).length with h0 | h1
  · have hnil := List.eq_nil_of_length_eq_zero h0
    obtain ⟨A, cap, rfl⟩ := hG.form
    rw [h0]
    refine SL.as rfl <| SL.nil <| T.seq <| T.region <| SL.mv rfl <| SL.w (op_callM en82 (vs := [_]) rfl (sort0_spec) rfl) ?_
    rintro _ _ X2 ⟨_, rfl, hX2, rfl⟩
    refine SL.nil <| T.seq <| T.region <| SL.mv rfl <| SL.w (op_callF en83 (vs := [_]) rfl (compact0_spec)) ?_
    rintro _ _ X3 ⟨rfl, hX3, rfl⟩
    refine SL.as rfl <| SL.nil <| T.ret1 rfl (ResIs.tmp rfl) ?_
    exact ⟨[], by rw [hnil], List.Pairwise.nil, .inl ⟨rfl, _, _, rfl⟩⟩
  obtain ⟨b, cap, rfl, rfl, hc1, hc2⟩ := hG.pos h1
  refine SL.as rfl <| SL.nil <| T.seq <| T.region <| SL.mv rfl <| SL.w (op_callM en82 (vs := [_]) rfl (sortAll_spec (by omega)) rfl) ?_
  rintro _ _ X2 ⟨_, rfl, hX2, l', rfl, hp, ha⟩
  have hpl := hp.length_eq
  rw [← hpl]
  refine SL.nil <| T.seq <| T.region <| SL.mv rfl <| SL.w (op_callM en83 (vs := [_]) rfl (compact_spec (by omega) (by omega) (by omega)) rfl) ?_
  rintro _ _ X3 ⟨_, rfl, hX3, rfl, rfl⟩
  refine SL.as rfl <| SL.nil <| T.pub b (by repeat constructor) ?_
  intro X4 hX4 hB4 _
  refine T.ret1 rfl (ResIs.tmp rfl) ?_
  refine ⟨l', hp, ha, ?_⟩
  rcases Nat.eq_zero_or_pos (compactS l').length with h0 | h0
  · rw [h0]
    exact .inl ⟨List.eq_nil_of_length_eq_zero h0, _, _, rfl⟩
  · have := compact_len l'
    exact .inr ⟨h0, b, cap, [], rfl, by rw [strsC_flat]; exact hB4, by omega, by omega⟩
end Go.Proofs.YtnpcilglilfajaaGreatDoor
namespace Go.Proofs.YtnpcilglilfajaaGreatDoor
open Go.RowKit
/-- Ascending, each one once. -/
def StrS (l : List ByteArray) : Prop := l.Pairwise fun a b => ltS a b = true
theorem StrS.nodup {l : List ByteArray} (h : StrS l) : l.Nodup := h.imp fun {a b} hab e => by subst e; rw [lt_irr] at hab; cases hab
theorem StrS.same : ∀ {l m : List ByteArray}, StrS l → StrS m → (∀ x, x ∈ l ↔ x ∈ m) → l = m
  | [], [], _, _, _ => rfl
  | [], b :: m, _, _, h => by have := (h b).2 (by simp); cases this
  | a :: l, [], _, _, h => by have := (h a).1 (by simp); cases this
  | a :: l, b :: m, h1, h2, h => by
    obtain ⟨g1, g2⟩ := List.pairwise_cons.1 h1
    obtain ⟨k1, k2⟩ := List.pairwise_cons.1 h2
    have hab : a = b := by
      rcases List.mem_cons.1 ((h a).1 (by simp)) with e | hm
      · exact e
      · rcases List.mem_cons.1 ((h b).2 (by simp)) with e | hl
        · exact e.symm
        · have := lt_asym (k1 a hm)
          rw [g1 b hl] at this; cases this
    subst hab
    rw [StrS.same g2 k2 fun x => ?_]
    have hx := h x
    constructor
    · intro hxl
      rcases List.mem_cons.1 (hx.1 (by simp [hxl])) with e | hm
      · subst e; have := g1 x hxl; rw [lt_irr] at this; cases this
      · exact hm
    · intro hxm
      rcases List.mem_cons.1 (hx.2 (by simp [hxm])) with e | hm
      · subst e; have := k1 x hxm; rw [lt_irr] at this; cases this
      · exact hm
theorem compactS_mem : ∀ (l : List ByteArray) (x : ByteArray), x ∈ compactS l ↔ x ∈ l
  | [], x => by simp [compactS]
  | [a], x => by simp [compactS]
  | a :: b :: l, x => by
    rw [compactS]
    split
    · rename_i e
      subst e
      rw [compactS_mem (a :: l) x]; simp
    · rw [List.mem_cons, compactS_mem (b :: l) x]; simp
end Go.Proofs.YtnpcilglilfajaaGreatDoor
namespace Go.Proofs.YtnpcilglilfajaaGreatDoor
open Go.RowKit
mutual
/-- All roles are below 128. -/
def rolW : Fm → Prop
  | .mk _ _ rs al => (∀ r ∈ rs, r < 128) ∧ rolWL al
def rolWL : List Fm → Prop
  | [] => True
  | a :: al => rolW a ∧ rolWL al
end
theorem rolWL_mem {a : Fm} : ∀ {l : List Fm}, rolWL l → a ∈ l → rolW a
  | b :: l, h, ha => by
    rw [rolWL] at h
    rcases List.mem_cons.1 ha with rfl | ha
    · exact h.1
    · exact rolWL_mem h.2 ha
theorem rolWL_app : ∀ {l m : List Fm}, rolWL l → rolWL m → rolWL (l ++ m)
  | [], _, _, h => h
  | _ :: l, m, h, h' => by rw [rolWL] at h; rw [List.cons_append, rolWL]; exact ⟨h.1, rolWL_app h.2 h'⟩
theorem rolB_lt (x : Nf) : ∀ r ∈ rolB x, r < 128 := by
  have h1 : ∀ r ∈ rol1 x, r < 128 := by
    intro r hr
    unfold rol1 at hr
    split at hr
    · simp only [List.mem_singleton] at hr; omega
    · simp at hr
  intro r hr
  unfold rolB at hr
  split at hr
  · rcases List.mem_append.1 hr with hr | hr
    · exact h1 r hr
    · simp only [List.mem_cons, List.not_mem_nil, or_false] at hr
      omega
  · exact h1 r hr
theorem manyF_rolW {f : List Nf → Fm × List Nf} (hf : ∀ l, rolW (f l).1) (l : List Nf) : ∀ k, rolWL (manyF f k l).1
  | 0 => by rw [manyF, rolWL]; trivial
  | k + 1 => by rw [manyF]; exact rolWL_app (manyF_rolW hf l k) (by rw [rolWL, rolWL]; exact ⟨hf _, trivial⟩)
theorem bldF_rolW : ∀ (d : Nat) (l : List Nf), rolW (bldF d l).1
  | 0, l => by rw [bldF, rolW, rolWL]; exact ⟨fun r hr => by simp at hr, trivial⟩
  | _ + 1, [] => by rw [bldF, rolW, rolWL]; exact ⟨fun r hr => by simp at hr, trivial⟩
  | d + 1, x :: l => by rw [bldF, rolW]; exact ⟨rolB_lt x, manyF_rolW (bldF_rolW d) l _⟩
theorem blt18_rolW (l : List Nf) : rolW (blt18 l) := bldF_rolW 12 _
mutual
theorem all_men : ∀ (f : Fm) (e : Ex), in6 (menF f) → nmF (rnames 6) f = some e → ∀ s, s ∈ allE e ↔ ∃ r, (menF f).testBit r = true ∧ s = nm6 r
  | .mk op n rs al, e, hm, he, s => by
    rw [menF] at hm
    obtain ⟨m1, m2⟩ := in6_or hm
    have hr := in6_msk m1
    rw [nmF, nmN6 hr] at he
    cases hq : nmFL (rnames 6) al with
    | none => rw [hq] at he; cases he
    | some el =>
      rw [hq] at he
      simp only [Option.some.injEq] at he
      subst he
      rw [allE, List.mem_append, all_menL al el m2 hq s, menF]
      constructor
      · rintro (h | ⟨r, h1, h2⟩)
        · obtain ⟨r, h1, rfl⟩ := List.mem_map.1 h
          exact ⟨r, by rw [Nat.testBit_or, mskF_bit, decide_eq_true h1]; rfl, rfl⟩
        · exact ⟨r, by rw [Nat.testBit_or, h1]; simp, h2⟩
      · rintro ⟨r, h1, h2⟩
        rw [Nat.testBit_or, Bool.or_eq_true] at h1
        rcases h1 with h1 | h1
        · rw [mskF_bit] at h1
          exact .inl (List.mem_map.2 ⟨r, of_decide_eq_true h1, h2.symm⟩)
        · exact .inr ⟨r, h1, h2⟩
theorem all_menL : ∀ (l : List Fm) (el : List Ex), in6 (menFL l) → nmFL (rnames 6) l = some el → ∀ s, s ∈ allL el ↔ ∃ r, (menFL l).testBit r = true ∧ s = nm6 r
  | [], el, _, he, s => by
    rw [nmFL, Option.some.injEq] at he
    subst he
    rw [allL, menFL]
    simp
  | a :: l, el, hm, he, s => by
    rw [menFL] at hm
    obtain ⟨m1, m2⟩ := in6_or hm
    rw [nmFL] at he
    cases hq : nmF (rnames 6) a with
    | none => rw [hq] at he; cases he
    | some e =>
      rw [hq] at he
      simp only at he
      cases hp : nmFL (rnames 6) l with
      | none => rw [hp] at he; cases he
      | some el2 =>
        rw [hp] at he
        simp only [Option.some.injEq] at he
        subst he
        rw [allL, List.mem_append, all_men a e m1 hq s, all_menL l el2 m2 hp s, menFL]
        constructor
        · rintro (⟨r, h1, h2⟩ | ⟨r, h1, h2⟩)
          · exact ⟨r, by rw [Nat.testBit_or, h1]; rfl, h2⟩
          · exact ⟨r, by rw [Nat.testBit_or, h1]; simp, h2⟩
        · rintro ⟨r, h1, h2⟩
          rw [Nat.testBit_or, Bool.or_eq_true] at h1
          rcases h1 with h1 | h1
          · exact .inl ⟨r, h1, h2⟩
          · exact .inr ⟨r, h1, h2⟩
end
/-- The numbers of the names of the expression are the roles of the formula. -/
theorem want_men {f : Fm} {e : Ex} {l : List ByteArray} (hm : in6 (menF f)) (he : synF (rnames 6) f = (e, 0)) (hl : ∀ s, s ∈ l ↔ s ∈ allE e) : maskOf (l.map fun s => posN s (rnames 6)) = menF f ∧ ∀ s ∈ l, 1 ≤ posN s (rnames 6) ∧ posN s (rnames 6) ≤ 6 := by
  have hnm : nmF (rnames 6) f = some e := by
    unfold synF at he
    cases hq : nmF (rnames 6) f with
    | none => rw [hq] at he; simp at he
    | some e2 =>
      rw [hq] at he
      simp only at he
      split at he
      · rename_i hc; simp only [Prod.mk.injEq] at he; exact absurd he.2 hc
      · simp only [Prod.mk.injEq] at he; rw [he.1]
  have hall := all_men f e hm hnm
  have hpos : ∀ s ∈ l, ∃ r, (menF f).testBit r = true ∧ s = nm6 r ∧ posN s (rnames 6) = r ∧ 1 ≤ r ∧ r ≤ 6 := by
    intro s hs
    obtain ⟨r, h1, rfl⟩ := (hall s).1 ((hl s).1 hs)
    obtain ⟨a, b⟩ := hm r h1
    exact ⟨r, h1, rfl, (nm6_ok a b).2.1, a, b⟩
  constructor
  · apply Nat.eq_of_testBit_eq
    intro j
    rw [show maskOf (l.map fun s => posN s (rnames 6)) = mskF (l.map fun s => posN s (rnames 6)) from rfl, mskF_bit]
    by_cases hj : (menF f).testBit j = true
    · rw [hj]
      obtain ⟨a, b⟩ := hm j hj
      exact decide_eq_true (List.mem_map.2 ⟨nm6 j, (hl _).2 ((hall _).2 ⟨j, hj, rfl⟩), (nm6_ok a b).2.1⟩)
    · rw [Bool.not_eq_true] at hj
      rw [hj]
      refine decide_eq_false fun h => ?_
      obtain ⟨s, hs, hp⟩ := List.mem_map.1 h
      obtain ⟨r, h1, _, h3, _, _⟩ := hpos s hs
      have : r = j := by rw [← h3]; exact hp
      rw [this, hj] at h1
      cases h1
  · intro s hs
    obtain ⟨r, _, _, h3, h4, h5⟩ := hpos s hs
    omega
theorem fment2_spec (N : Nat) : ∀ {X : PMap} {f : Fm} {r : Row4}, wtF f ≤ N → N < 1000000 → rolW f → FmR .u8 X f r → Spec Tryz.prog 21 [.agg #[r.1, r.2.1, r.2.2.1, r.2.2.2]] X fun u X' => SetB X' u (men64 f) := by
  induction N with
  | zero => intro X f r h; have := wtF_pos f; omega
  | succ N ih =>
    intro X f r hN hB hrol h
    cases h with
    | @mk op n rs al vn va rows hn ha hl hr =>
    obtain ⟨Aa, ca, rfl⟩ := ha.form
    obtain ⟨An, cn, rfl⟩ := hn.form
    have hlen := wtFL_len al
    rw [wtF] at hN
    rw [rolW] at hrol
    rw [men64]
    refine Spec.enter Tryz.func21 rfl Tryz.ntmps21 rfl ?_
    intro w0 hw0
    refine T.seq <| T.region <| SL.w (op_box rfl) ?_
    rintro _ _ _ ⟨B1, rfl, rfl, rfl⟩
    refine SL.w (op_alloc z53) ?_
    rintro _ _ _ ⟨B2, rfl, rfl, rfl⟩
    refine SL.nil <| T.seq <| T.region <| SL.v (op_fieldAddr fa36_2 rfl) <| SL.v (op_load ty24 rfl (by repeat constructor) rfl) ?_
    refine SL.w (op_callF en38 (vs := [_]) rfl (of2_spec hn.1 hrol.1 (by omega))) ?_
    rintro _ _ X1 ⟨rfl, hX1, hS⟩
    obtain ⟨A1, l1, c1, rfl⟩ := hS.form
    refine SL.w (op_alloc z53) ?_
    rintro _ _ _ ⟨B3, rfl, rfl, rfl⟩
    refine SL.w (op_store ty53 rfl rfl (by repeat constructor) rfl rfl rfl) ?_
    rintro _ _ _ ⟨rfl, rfl⟩
    refine SL.nil <| T.seq <| T.seq <| T.region <| SL.v (op_fieldAddr fa36_3 rfl) <| SL.v (op_load ty34 rfl (by repeat constructor) rfl) ?_
    refine SL.v (op_lenS Tryz.underlying34 rfl) <| SL.v (op_move (v := .int .i64 ((0 : Nat) : Int)) rfl) <| SL.nil <| T.block <| T.drop B1 (by repeat constructor) ?_
    refine T.loopW (fun m env own X' => ∃ (i : Nat) (As : Option Addr) (ls cs : Nat), m = rows.length - i ∧ i ≤ rows.length ∧ X1.le X' ∧ SetB X' (.agg #[.slice As ls cs]) (msk64 rs ||| men64L (al.take i)) ∧ env = [(2, .pointer (some ⟨B2, 0, none⟩)), (3, .pointer (some ⟨B3, 0, none⟩)), (10, .slice Aa rows.length ca), (11, .int .i64 (rows.length : Int)), (12, .int .i64 (i : Int))] ∧ own = [⟨B3, [.slice As ls cs], 53, 1⟩, ⟨B2, [.slice none 0 0], 53, 1⟩]) rows.length ⟨0, A1, l1, c1, by simp, by omega, PMap.le_refl _, by rw [List.take_zero, men64L, Nat.or_zero]; exact hS, rfl, rfl⟩ (by repeat (first | exact Sub.nil | refine Sub.cons rfl ?_)) ?_
    rintro m _ _ X4 ⟨i, As, ls, cs, rfl, hi, hX4, hS4, rfl, rfl⟩
    rcases Nat.lt_or_ge i rows.length with hil | hil
    · obtain ⟨r2, hr2⟩ : ∃ r2, rows[i]? = some r2 := ⟨_, List.getElem?_eq_getElem hil⟩
      obtain ⟨a, ha2⟩ : ∃ a, al[i]? = some a := ⟨_, List.getElem?_eq_getElem (by omega)⟩
      have hX04 := hX1.trans' hX4
      have hra := (hr i a r2 ha2 hr2).mono hX04
      have hma := List.mem_of_getElem? ha2
      obtain ⟨bA, pre, rfl, hbA⟩ := ha.blk (by omega)
      have hwa := wtFL_mem hma
      have hts := take_snoc ha2
      have hih := ih (by omega) (by omega) (rolWL_mem hrol.2 hma) hra
      obtain ⟨_, _, _, _, _, _, _, _, rfl⟩ := hra.form
      try simp only at hih
      refine T.seq <| T.region <| SL.v (op_lssT rfl rfl (by omega)) ?_
      refine SL.nil <| T.seq <| T.condT rfl <| T.skip <| T.seq <| T.block <| T.seq <| T.region <| SL.v (op_indexN Tryz.underlying34 ty36 rfl rfl (by omega)) ?_
      refine SL.v (op_loadX ty36 rfl (hbA.mono hX04) (row_read rc4_len hr2 (by omega))) ?_
      refine SL.w (op_alloc z36) ?_
      rintro _ _ _ ⟨B5, rfl, rfl, rfl⟩
      refine SL.w (op_store ty36 rfl rfl (by repeat constructor) rfl rfl rfl) ?_
      rintro _ _ _ ⟨rfl, rfl⟩
      refine SL.nil <| T.draw (by kernel_rfl) 4 [.t 0, .t 1, .r 2, .r 3] (by kernel_rfl) ?_
      refine SD.take rfl panicBody (op_load ty53 rfl (by repeat constructor) rfl) rfl rfl ?_
      refine SD.take rfl panicBody (op_load ty36 rfl (by repeat constructor) rfl) rfl rfl ?_
      refine SD.run rfl (op_callF en21 (vs := [_]) rfl (hih)) rfl rfl ?_
      rintro _ _ X5 ⟨rfl, hX5, hS5⟩
      obtain ⟨A5, l5, c5, rfl⟩ := hS5.form
      refine SD.run rfl (op_callF en69 (vs := [_, _]) rfl (or2_spec (hS4.mono hX5) hS5)) rfl rfl ?_
      rintro _ _ X6 ⟨rfl, hX6, hS6⟩
      refine SD.nil ?_
      show SL _ _ _ _ _ _ _ [_] _ _ _
      obtain ⟨A6, l6, c6, rfl⟩ := hS6.form
      refine SL.w (op_store ty53 rfl rfl (by repeat constructor) rfl rfl rfl) ?_
      rintro _ _ _ ⟨rfl, rfl⟩
      refine SL.nil <| T.blk <| T.region <| SL.v (op_addN (q := 1) rfl rfl (by omega)) ?_
      refine SL.mv rfl <| SL.nil <| T.drop B5 (by repeat constructor) ?_
      exact T.backW (rows.length - (i + 1)) (by omega) ⟨i + 1, A6, l6, c6, rfl, by omega, (hX4.trans' hX5).trans' hX6, by rw [hts, men64L_app, men64L, men64L, Nat.or_zero, ← Nat.or_assoc]; exact hS6, rfl, rfl⟩ (by repeat (first | exact Sub.nil | refine Sub.cons rfl ?_))
    · obtain rfl : i = rows.length := by omega
      rw [List.take_of_length_le (by omega)] at hS4
      refine T.seq <| T.region <| SL.v (op_lssF rfl rfl (by omega)) ?_
      refine SL.nil <| T.seq <| T.condF rfl ?_
      refine T.exit (T.exitCode (T.exitCut (T.exitBlk ?_)))
      refine T.seq <| T.region <| SL.v (op_load ty53 rfl (by repeat constructor) rfl) ?_
      refine SL.w (op_store ty53 rfl rfl (by repeat constructor) rfl rfl rfl) ?_
      rintro _ _ _ ⟨rfl, rfl⟩
      refine SL.nil <| T.ret1 rfl (ResIs.cell rfl ty53 (by repeat constructor) rfl) ?_
      exact hS4
end Go.Proofs.YtnpcilglilfajaaGreatDoor
namespace Go.Proofs.YtnpcilglilfajaaGreatDoor
section
set_option maxRecDepth 100000
theorem en27 : Enters Tryz.prog 27 := enters_mk Tryz.func27 (by kernel_rfl) rfl
theorem en30 : Enters Tryz.prog 30 := enters_mk Tryz.func30 (by kernel_rfl) rfl
theorem en32 : Enters Tryz.prog 32 := enters_mk Tryz.func32 (by kernel_rfl) rfl
theorem en37 : Enters Tryz.prog 37 := enters_mk Tryz.func37 (by kernel_rfl) rfl
theorem en39 : Enters Tryz.prog 39 := enters_mk Tryz.func39 (by kernel_rfl) rfl
theorem en40 : Enters Tryz.prog 40 := enters_mk Tryz.func40 (by kernel_rfl) rfl
theorem en42 : Enters Tryz.prog 42 := enters_mk Tryz.func42 (by kernel_rfl) rfl
theorem en43 : Enters Tryz.prog 43 := enters_mk Tryz.func43 (by kernel_rfl) rfl
end
open Go.RowKit
theorem fMentions_spec {X : PMap} (hT : Tab X) {v : Value} {l : List Nf} {w : Value} {bs : List Nat} {k : Nat} (h : RowR nfC X v l) (hok : ∀ x ∈ l, nfOk x) (hc : CutR X w bs) (_hk : k < 256) : Spec Tryz.prog 9 [v, .agg #[w, .int .u8 (k : Int)]] X fun u _ => u = .bool true := by
  have hmx : maxLen = 9223372036854775807 := rfl
  have hfit := fun {X' : PMap} (hX : X.le X') => fit_spec (k := k) (hc.mono hX)
  have hbl := fun {X' : PMap} (hX : X.le X') => built18_spec (h.mono hX) hok
  have gwt := blt18_wt hok
  have gops := blt18_ops l
  have grol := blt18_rolW l
  generalize blt18 l = g at *
  obtain ⟨Av, cv, rfl⟩ := h.form
  obtain ⟨_, ⟨Aw, cw, rfl, _⟩, _⟩ := hc
  have hk3 : 1 ≤ kdR k ∧ kdR k ≤ 3 := by unfold kdR; omega
  obtain ⟨f, hf⟩ : ∃ f, f = fitR bs k := ⟨_, rfl⟩
  have hwt : wtF f ≤ 961 := by rw [hf]; exact fitR_wt
  have hops : opsF f := by rw [hf]; exact fitR_ops bs k
  have hmk : MkOk (kdR k) 1 4 f := by rw [hf]; exact mkS_ok hk3 _
  have hck : chkF (kdR k) f = 0 := by rw [hf]; exact fitR_chk bs k
  have hrol := insF_rol f hmk.ins
  have hm64 : men64 f = menF f := men64_eq f hrol
  have hml := men64_lt f
  rw [hm64] at hml
  obtain ⟨e, hsy, _⟩ := fit_res (adm := 0) hk3 hmk hck
  have hz := rnames_size (n := 6) (by omega)
  have hlen : (rnames 6).length ≤ 63 := by rw [rnames_len]; omega
  obtain ⟨ho, hw⟩ := synF_ok hz hops
  rw [hsy] at ho hw
  simp only at ho hw
  rw [← hf] at hfit
  refine Spec.enter Tryz.func9 rfl Tryz.ntmps9 rfl ?_
  intro w0 hw0
  refine T.seq <| T.region <| SL.w (op_box rfl) ?_
  rintro _ _ _ ⟨B3, rfl, rfl, rfl⟩
  refine SL.as rfl <| SL.nil <| T.seq <| T.seq <| T.region <| SL.w (op_callF en13 (vs := []) rfl (awake18_spec hT)) ?_
  rintro _ _ X1 ⟨rfl, hX1, rfl⟩
  refine SL.v (op_not rfl) <| SL.nil <| T.condF rfl <| T.skip <| T.seq <| T.region <| SL.v (op_load ty46 rfl (by repeat constructor) rfl) ?_
  refine SL.w (op_callF en20 (vs := [_]) rfl (hfit hX1)) ?_
  rintro _ _ X2 ⟨rfl, hX2, r2, rfl, hr2⟩
  have hm := fun {X' : PMap} (hX : X2.le X') => make18_spec (wtF f) (Nat.le_refl _) (by omega) hops (hr2.mono hX)
  have hmn := fun {X' : PMap} (hX : X2.le X') => rment_spec (wtF f) (Nat.le_refl _) (by omega) (hr2.mono hX)
  obtain ⟨o2, n2, a2, b2, l2, c2, l3, c3, rfl⟩ := hr2.form
  try simp only at hm
  try simp only at hmn
  refine SL.mv rfl <| SL.v (op_extract rfl rfl) <| SL.v (op_extract rfl rfl) <| SL.w (op_alloc z27) ?_
  rintro _ _ _ ⟨B5, rfl, rfl, rfl⟩
  refine SL.w (op_store ty27 rfl rfl (by repeat constructor) rfl rfl rfl) ?_
  rintro _ _ _ ⟨rfl, rfl⟩
  refine SL.as rfl <| SL.nil <| T.seq <| T.region <| SL.w (op_callF en30 (vs := [_]) rfl (names18_spec (n := 6) (by omega))) ?_
  rintro vn _ X3 ⟨rfl, hX3, hR⟩
  obtain ⟨An, cn, rfl⟩ := hR.form
  refine SL.w (op_callF en24 (vs := [_]) rfl (tabl_spec hR (by omega))) ?_
  rintro vt _ X4 ⟨rfl, hX4, hTb⟩
  rw [if_pos (rnames_ok (by omega))] at hTb
  obtain ⟨bt, hbt⟩ := hTb.form
  subst hbt
  have hX24 := hX3.trans' hX4
  refine SL.as rfl <| SL.nil <| T.seq <| T.seq <| T.region <| SL.mv rfl <| SL.v (op_eqlNil Tryz.underlying64 rfl rfl) <| SL.nil <| T.condF rfl <| T.skip <| T.seq <| T.region <| SL.v (op_load ty27 rfl (by repeat constructor) rfl) ?_
  refine SL.w (op_callF en16 (vs := [_]) rfl (hm hX24)) ?_
  rintro _ _ X6 ⟨rfl, hX6, r7, rfl, hr7⟩
  have hsyn := syn_spec (by omega) hlen hz (hTb.mono hX6) hr7
  rw [hsy] at hsyn
  obtain ⟨o8, n8, a8, b8, l8, c8, l9, c9, rfl⟩ := hr7.form
  try simp only at hsyn
  refine SL.mv rfl <| SL.w (op_callF en32 (vs := [_, _]) rfl (hsyn)) ?_
  rintro _ _ X7 ⟨rfl, hX7, r9, rfl, hr9⟩
  have hna := namesA_spec (by omega) hr9
  obtain ⟨o10, n10, a10, b10, l10, c10, l11, c11, rfl⟩ := hr9.form
  try simp only at hna
  have hX27 := (hX24.trans' hX6).trans' hX7
  refine SL.mv rfl <| SL.v (op_extract rfl rfl) <| SL.v (op_extract rfl rfl) <| SL.w (op_alloc z70) ?_
  rintro _ _ _ ⟨B8, rfl, rfl, rfl⟩
  refine SL.w (op_store ty70 rfl rfl (by repeat constructor) rfl rfl rfl) ?_
  rintro _ _ _ ⟨rfl, rfl⟩
  refine SL.as rfl <| SL.nil <| T.seq <| T.seq <| T.region <| SL.mv rfl <| SL.v (op_neqF rfl rfl (by omega)) ?_
  refine SL.nil <| T.condF rfl <| T.skip <| T.seq <| T.region <| SL.as rfl <| SL.nil <| T.seq <| T.seq <| T.region <| SL.v (op_load ty70 rfl (by repeat constructor) rfl) ?_
  refine SL.w (op_callF en35 (vs := [_]) rfl (hna)) ?_
  rintro vL _ X8 ⟨rfl, hX8, l', hp, ha, hvL⟩
  have hmem : ∀ s, s ∈ compactS l' ↔ s ∈ allE e := fun s => (compactS_mem _ _).trans hp.mem_iff
  obtain ⟨hwant, hpos⟩ := want_men hmk.men hsy hmem
  have hlL : (compactS l').length < 20000 := by
    have h1 := compact_len l'
    have h2 := hp.length_eq
    have h3 := all_wt e
    omega
  generalize compactS l' = L at *
  obtain ⟨AL, cL, rfl⟩ := hvL.form
  have hX28 := hX27.trans' hX8
  have hTb8 := ((hTb.mono hX6).mono hX7).mono hX8
  refine SL.v (op_lenS Tryz.underlying59 rfl) <| SL.v (op_move (v := .int .i64 ((0 : Nat) : Int)) rfl) <| SL.nil <| T.block <| T.drop B8 (by repeat constructor) ?_
  refine T.drop B3 (by repeat constructor) ?_
  refine T.loopW (fun m env own X' => ∃ (i : Nat) (vw : Value) (Gw : Own) (rs : List Nat), m = L.length - i ∧ i ≤ L.length ∧ X8.le X' ∧ rs = (L.take i).map (fun s => posN s (rnames 6)) ∧ GrowS 3 1 vw rs.length (ints rs) Gw ∧ env = [(0, .slice Av l.length cv), (5, .pointer (some ⟨B5, 0, none⟩)), (7, .pointer (some ⟨bt, 0, none⟩)), (10, vw), (37, .slice AL L.length cL), (38, .int .i64 (L.length : Int)), (39, .int .i64 (i : Int))] ∧ own = F6 B5 o2 n2 (.slice a2 l2 c2) (.slice b2 l3 c3) :: Gw) L.length ⟨0, _, [], [], by simp, by omega, PMap.le_refl _, rfl, GrowS.nil, rfl, rfl⟩ (by repeat (first | exact Sub.nil | refine Sub.cons rfl ?_)) ?_
  rintro m _ _ X9 ⟨i, vw, Gw, rs, rfl, hi, hX9, hrs, hGw, rfl, rfl⟩
  obtain ⟨Aw1, cw1, rfl⟩ := hGw.form
  have hrl : rs.length = i := by rw [hrs, List.length_map, List.length_take]; omega
  rcases Nat.lt_or_ge i L.length with hil | hil
  · obtain ⟨s, hs⟩ : ∃ s, L[i]? = some s := ⟨_, List.getElem?_eq_getElem hil⟩
    obtain ⟨bN, preN, rfl, hbN⟩ := hvL.blk (by omega)
    have hps := hpos s (List.mem_of_getElem? hs)
    refine T.seq <| T.region <| SL.v (op_lssT rfl rfl (by omega)) ?_
    refine SL.nil <| T.seq <| T.condT rfl <| T.skip <| T.seq <| T.block <| T.seq <| T.region <| SL.v (op_indexN Tryz.underlying59 ty9 rfl rfl (by omega)) ?_
    refine SL.v (op_loadX ty9 rfl (hbN.mono hX9) (str_read hs (by omega))) ?_
    refine SL.as rfl <| SL.nil <| T.seq <| T.region <| SL.mv rfl <| SL.mv rfl <| SL.w (op_callF en36 (vs := [_, _]) rfl (numT_spec (s := s) (hTb8.mono hX9))) ?_
    rintro _ _ X10 ⟨rfl, hX10, rfl⟩
    rw [show decide (posN s (rnames 6) ≠ 0) = true from decide_eq_true (by omega)]
    refine SL.mv rfl <| SL.v (op_extract rfl rfl) <| SL.v (op_extract rfl rfl) <| SL.as rfl <| SL.as rfl <| SL.nil <| T.seq <| T.seq <| T.region <| SL.mv rfl <| SL.v (op_not rfl) <| SL.nil <| T.condF rfl <| T.skip <| T.region ?_
    refine SL.mv rfl <| SL.mv rfl <| SL.w (op_buildSlice Tryz.underlying24 bs3 (qs := [(0, _)]) rfl rfl rfl rfl rfl) ?_
    rintro _ _ _ ⟨B53, rfl, rfl, rfl⟩
    refine SL.w (op_appendGA (own0 := [_, _]) (m := 1) sl24 rfl hGw rfl (Src.ofOwn0 AtO.here rfl) (by intro y hy; have hy : y ∈ [Value.int _ _] := hy; simp only [List.mem_cons, List.not_mem_nil, or_false] at hy; rcases hy with rfl; rfl) (by omega) (by omega)) ?_
    rintro vn9 _ _ ⟨Gn9, rfl, rfl, hGn9⟩
    obtain ⟨An9, cn9, rfl⟩ := hGn9.form
    refine SL.as rfl <| SL.nil <| T.blk <| T.region <| SL.v (op_addN (q := 1) rfl rfl (by omega)) ?_
    refine SL.mv rfl <| SL.nil <| T.less (List.sublist_cons_self _ _) ?_
    have hGn10 : GrowS 3 1 (.slice An9 (rs.length + 1) cn9) (rs ++ [posN s (rnames 6)]).length (ints (rs ++ [posN s (rnames 6)])) Gn9 := by
      rw [List.length_append, show ints (rs ++ [posN s (rnames 6)]) = ints rs ++ ints [posN s (rnames 6)] by simp [ints]]
      exact hGn9
    exact T.backW (L.length - (i + 1)) (by omega) ⟨i + 1, _, _, rs ++ [posN s (rnames 6)], rfl, by omega, hX9.trans' hX10, by rw [take_snoc hs, List.map_append, hrs]; rfl, hGn10, rfl, rfl⟩ (by repeat (first | exact Sub.nil | refine Sub.cons rfl ?_))
  obtain rfl : i = L.length := by omega
  rw [List.take_of_length_le (by omega)] at hrs
  have hr64 : ∀ r ∈ rs, r < 64 := by
    intro r hr
    rw [hrs] at hr
    obtain ⟨s, hs, rfl⟩ := List.mem_map.1 hr
    have := hpos s hs
    omega
  rw [← hrs] at hwant
  refine T.seq <| T.region <| SL.v (op_lssF rfl rfl (by omega)) ?_
  refine SL.nil <| T.seq <| T.condF rfl ?_
  refine T.exit (T.exitCode (T.exitCut (T.exitBlk ?_)))
  refine T.pubG (own0 := [_]) hGw ?_
  intro Y1 hY1 hS1
  have hXY := (hX28.trans' hX9).trans' hY1
  refine T.seq <| T.region <| SL.mv rfl <| SL.w (op_callF en14 (vs := [_]) rfl (hbl ((hX1.trans' hX2).trans' hXY))) ?_
  rintro _ _ Y2 ⟨rfl, hY2, rg, rfl, hrg⟩
  have hmg := fun {X' : PMap} (hX : Y2.le X') => make18_spec (wtF g) (Nat.le_refl _) (by omega) gops (hrg.mono hX)
  have hmng := fun {X' : PMap} (hX : Y2.le X') => rment_spec (wtF g) (Nat.le_refl _) (by omega) (hrg.mono hX)
  obtain ⟨o12, n12, a12, b12, l12, c12, l13, c13, rfl⟩ := hrg.form
  try simp only at hmg
  try simp only at hmng
  have hX2Y := hXY.trans' hY2
  refine SL.w (op_alloc z27) ?_
  rintro _ _ _ ⟨B15, rfl, rfl, rfl⟩
  refine SL.w (op_store ty27 rfl rfl (by repeat constructor) rfl rfl rfl) ?_
  rintro _ _ _ ⟨rfl, rfl⟩
  refine SL.nil <| T.seq <| T.draw (by kernel_rfl) 28 [.t 0, .t 3, .r 1, .r 2, .r 4, .r 5, .t 6, .t 7, .t 11, .r 8, .r 9, .r 10, .r 12, .r 13, .r 14, .t 15, .t 16, .t 17, .t 22, .r 18, .r 19, .r 20, .r 21, .r 23, .r 24, .r 25, .t 26, .t 27] (by kernel_rfl) ?_
  refine SD.take rfl panicBody (op_load ty27 rfl (by repeat constructor) rfl) rfl rfl ?_
  refine SD.take rfl panicBody (op_move rfl) rfl rfl ?_
  refine SD.run rfl (op_callF en16 (vs := [_]) rfl (hm hX2Y)) rfl rfl ?_
  rintro _ _ Y3 ⟨rfl, hY3, r13, rfl, hr13⟩
  have hfm := fment_spec (wtF f) (Nat.le_refl _) (by omega) hrol hr13
  obtain ⟨o14, n14, a14, b14, l14, c14, l15, c15, rfl⟩ := hr13.form
  try simp only at hfm
  refine SD.run rfl (op_callF en21 (vs := [_]) rfl (hfm)) rfl rfl ?_
  rintro _ _ Y4 ⟨rfl, hY4, hS4⟩
  obtain ⟨A4, l4, c4, rfl⟩ := hS4.form
  refine SD.run rfl (op_callF en38 (vs := [_]) rfl (of_spec (((hS1.mono hY2).mono hY3).mono hY4) hr64 (by omega))) rfl rfl ?_
  rintro _ _ Y5 ⟨rfl, hY5, hS5⟩
  rw [hwant] at hS5
  have heq := equal_spec (hS4.mono hY5) hS5
  obtain ⟨A5, l5, c5, rfl⟩ := hS5.form
  simp only [decide_true] at heq
  refine SD.run rfl (op_callF en37 (vs := [_, _]) rfl (heq)) rfl rfl ?_
  rintro _ _ Y6 ⟨rfl, hY6, rfl⟩
  have hY26 := ((hY3.trans' hY4).trans' hY5).trans' hY6
  refine SD.take rfl panicBody (op_move rfl) rfl rfl ?_
  refine SD.take rfl panicBody (op_load ty27 rfl (by repeat constructor) rfl) rfl rfl ?_
  refine SD.take rfl panicBody (op_load ty27 rfl (by repeat constructor) rfl) rfl rfl ?_
  refine SD.run rfl (op_callF en16 (vs := [_]) rfl (hm (hX2Y.trans' hY26))) rfl rfl ?_
  rintro _ _ Y7 ⟨rfl, hY7, r17, rfl, hr17⟩
  have hfm := fment_spec (wtF f) (Nat.le_refl _) (by omega) hrol hr17
  obtain ⟨o18, n18, a18, b18, l18, c18, l19, c19, rfl⟩ := hr17.form
  try simp only at hfm
  refine SD.run rfl (op_callF en21 (vs := [_]) rfl (hfm)) rfl rfl ?_
  rintro _ _ Y8 ⟨rfl, hY8, hS8⟩
  have hT8 := hT.mono (((((hX1.trans' hX2).trans' hX2Y).trans' hY26).trans' hY7).trans' hY8)
  have hls := list_spec hT8 hS8
  obtain ⟨A8, l20, c20, rfl⟩ := hS8.form
  refine SD.run rfl (op_callF en40 (vs := [_]) rfl (hls)) rfl rfl ?_
  rintro vl9 _ Y9 ⟨rfl, hY9, hl9⟩
  obtain ⟨A9, c21, rfl⟩ := hl9.form
  have hY29 := ((hY26.trans' hY7).trans' hY8).trans' hY9
  refine SD.run rfl (op_callF en34 (vs := [_]) rfl (hmn (hX2Y.trans' hY29))) rfl rfl ?_
  rintro _ _ Y10 ⟨rfl, hY10, rfl⟩
  rw [hm64]
  refine SD.run rfl (op_callF en41 (vs := [_]) rfl (members_spec (menF f) hml)) rfl rfl ?_
  rintro vl11 _ Y11 ⟨rfl, hY11, hl11⟩
  have h72 := eqInts_spec ((hl9.mono hY10).mono hY11) hl11 (by have := mem64_length (menF f); omega)
  obtain ⟨A11, c22, rfl⟩ := hl11.form
  simp only [decide_true] at h72
  refine SD.run rfl (op_callF en39 (vs := [_, _]) rfl (h72)) rfl rfl ?_
  rintro _ _ Y12 ⟨rfl, hY12, rfl⟩
  have hY212 := ((hY29.trans' hY10).trans' hY11).trans' hY12
  refine SD.take rfl panicBody (op_pickT rfl rfl) rfl rfl ?_
  refine SD.take rfl panicBody (op_move rfl) rfl rfl ?_
  refine SD.take rfl panicBody (op_load ty27 rfl (by repeat constructor) rfl) rfl rfl ?_
  refine SD.take rfl panicBody (op_load ty27 rfl (by repeat constructor) rfl) rfl rfl ?_
  refine SD.run rfl (op_callF en16 (vs := [_]) rfl (hmg hY212)) rfl rfl ?_
  rintro _ _ Y13 ⟨rfl, hY13, r23, rfl, hr23⟩
  have hfm2 := fment2_spec (wtF g) (Nat.le_refl _) (by omega) grol hr23
  obtain ⟨o24, n24, a24, b24, l24, c24, l25, c25, rfl⟩ := hr23.form
  try simp only at hfm2
  refine SD.run rfl (op_callF en21 (vs := [_]) rfl (hfm2)) rfl rfl ?_
  rintro _ _ Y14 ⟨rfl, hY14, hS14⟩
  obtain ⟨A14, l26, c26, rfl⟩ := hS14.form
  have hbe := below64_spec (k := 64) (X := Y14) rfl
  refine SD.run rfl (op_callF en43 (vs := [_]) rfl (hbe)) rfl rfl ?_
  rintro _ _ Y15 ⟨rfl, hY15, hS15⟩
  have han := and2_spec (hS14.mono hY15) hS15
  rw [and_full (men64_lt g)] at han
  obtain ⟨A15, l27, c27, rfl⟩ := hS15.form
  refine SD.run rfl (op_callF en42 (vs := [_, _]) rfl (han)) rfl rfl ?_
  rintro _ _ Y16 ⟨rfl, hY16, hS16⟩
  have hY216 := (((hY212.trans' hY13).trans' hY14).trans' hY15).trans' hY16
  obtain ⟨A16, l28, c28, rfl⟩ := hS16.form
  refine SD.run rfl (op_callF en34 (vs := [_]) rfl (hmng hY216)) rfl rfl ?_
  rintro _ _ Y17 ⟨rfl, hY17, rfl⟩
  refine SD.run rfl (op_callF en27 (vs := [_]) rfl (set14_spec (men64 g) (men64_lt g))) rfl rfl ?_
  rintro _ _ Y18 ⟨rfl, hY18, hS18⟩
  have h83 := equal_spec ((hS16.mono hY17).mono hY18) hS18
  obtain ⟨A18, l29, c29, rfl⟩ := hS18.form
  simp only [decide_true] at h83
  refine SD.run rfl (op_callF en37 (vs := [_, _]) rfl (h83)) rfl rfl ?_
  rintro _ _ Y19 ⟨rfl, hY19, rfl⟩
  refine SD.take rfl panicBody (op_pickT rfl rfl) rfl rfl ?_
  refine SD.take rfl panicBody (op_assign rfl) rfl rfl ?_
  refine SD.nil ?_
  show SL _ _ _ _ _ _ _ [] _ _ _
  refine SL.nil <| T.ret1 rfl (ResIs.tmp rfl) ?_
  rfl
end Go.Proofs.YtnpcilglilfajaaGreatDoor
