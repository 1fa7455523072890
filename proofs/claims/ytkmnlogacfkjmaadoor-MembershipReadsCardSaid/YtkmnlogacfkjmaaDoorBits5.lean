/- SETS OF SMALL NUMBERS: ranging over the members. -/
import Derived.Test.YtkmnlogacfkjmaaDoorBits4
import Derived.Test.YtkmnlogacfkjmaaDoorEngine2
namespace Go.Proofs.YtkmnlogacfkjmaaDoor
section
set_option maxRecDepth 100000
theorem bs3 : ∃ i z, Tryd.prog.info? 3 = some i ∧ i.size = 1 ∧ i.zero = some z ∧ z.cells = ([.int .i64 0] : List Value).toArray := bs_of (by kernel_rfl)
theorem en60 : Enters Tryd.prog 60 := enters_mk Tryd.func60 (by kernel_rfl) rfl
theorem en61 : Enters Tryd.prog 61 := enters_mk Tryd.func61 (by kernel_rfl) rfl
theorem en83 : Enters Tryd.prog 83 := enters_mk Tryd.func83 (by kernel_rfl) rfl
theorem en84 : Enters Tryd.prog 84 := enters_mk Tryd.func84 (by kernel_rfl) rfl
theorem mk46 : ∃ i, Tryd.prog.info? 3 = some i ∧ i.size = 1 ∧ i.bytes = 8 ∧ i.zero = some (.int .i64 0) := mk_of (by kernel_rfl)
theorem sl46 : SlT Tryd.prog 46 3 1 8 := ⟨Tryd.underlying46, sl_of (by kernel_rfl) (by decide)⟩
theorem ty46 : Ty Tryd.prog 46 false 1 := ⟨⟨_, Tryd.underlying46, rfl⟩, by kernel_rfl⟩
theorem z46 : Zero Tryd.prog 46 [.slice none 0 0] := ⟨zero_of (by kernel_rfl)⟩
end
open Go.RowKit
theorem mem64_drop {m x i t q : Nat} (h : (mem64 m).drop i = mem64 x) (hx : x = 2 ^ t * (2 * q + 1)) (ht : t < 64) : (mem64 m)[i]? = some t ∧ (mem64 m).drop (i + 1) = mem64 (2 ^ t * (2 * q)) := by
  rw [hx, mem64_cons t q ht] at h
  refine ⟨?_, ?_⟩
  · have := congrArg (·[0]?) h
    simpa using this
  · have := congrArg (List.drop 1) h
    simpa using this
theorem all_seq {X : PMap} (hT : Tab X) {v : Value} {m B : Nat} (h : SetR X v m) (hbox : Blk X B (vcells v)) : Seq Tryd.prog 83 [.pointer (some ⟨B, 0, none⟩)] (ints (mem64 m)) X := by
  intro l J w0 hst hP hY hJ0
  have hw0 := hP 0 w0 hJ0
  rcases h with ⟨rfl, A, c, rfl⟩ | ⟨_, h1, b, c, rest, rfl, hB⟩
  · refine Calls.enter Tryd.func83 rfl Tryd.ntmps83 rfl hw0 ?_
    refine T.seq ?_
    refine T.region ?_
    refine SL.y (op_fieldAddr fa39_0 rfl) rfl rfl ?_
    first | refine SL.y (op_load ty37 rfl (by repeat (first | exact AtO.here | apply AtO.there)) rfl) rfl rfl ?_ | refine SL.y (op_loadX ty37 rfl (by assumption) rfl) rfl rfl ?_
    refine SL.y (op_lenS Tryd.underlying37 rfl) rfl rfl ?_
    refine SL.y (op_move (v := .int .i64 ((0 : Nat) : Int)) rfl) rfl rfl ?_
    refine SL.nil ?_
    refine T.block ?_
    -- loop live [0, 6, 7, 8]
    refine T.unrollStart 1 ?_
    refine T.unroll ?_
    refine T.seq ?_
    refine T.region ?_
    first | refine SL.y (op_lssT rfl rfl (by omega)) rfl rfl ?_ | refine SL.y (op_lssF rfl rfl (by omega)) rfl rfl ?_ | refine SL.y (op_lss rfl rfl) rfl rfl ?_
    refine SL.nil ?_
    refine T.seq ?_
    refine T.condF rfl ?_
    refine T.exit (T.exitCode (T.exitMore (T.exitBlk ?_)))
    -- end
    refine T.done0 rfl ?_
    intro W' hb hp
    exact ⟨⟨_, rfl⟩, by simpa [mem64_zero, ints] using hst 0 _ _ hJ0 hb⟩
  · refine Calls.enter Tryd.func83 rfl Tryd.ntmps83 rfl hw0 ?_
    refine T.seq ?_
    refine T.region ?_
    refine SL.y (op_fieldAddr fa39_0 rfl) rfl rfl ?_
    first | refine SL.y (op_load ty37 rfl (by repeat (first | exact AtO.here | apply AtO.there)) rfl) rfl rfl ?_ | refine SL.y (op_loadX ty37 rfl (by assumption) rfl) rfl rfl ?_
    refine SL.y (op_lenS Tryd.underlying37 rfl) rfl rfl ?_
    refine SL.y (op_move (v := .int .i64 ((0 : Nat) : Int)) rfl) rfl rfl ?_
    refine SL.nil ?_
    refine T.block ?_
    -- loop live [0, 6, 7, 8]
    refine T.unrollStart 2 ?_
    refine T.unroll ?_
    refine T.seq ?_
    refine T.region ?_
    first | refine SL.y (op_lssT rfl rfl (by omega)) rfl rfl ?_ | refine SL.y (op_lssF rfl rfl (by omega)) rfl rfl ?_ | refine SL.y (op_lss rfl rfl) rfl rfl ?_
    refine SL.nil ?_
    refine T.seq ?_
    refine T.condT rfl ?_
    refine T.skip ?_
    refine T.seq ?_
    refine T.block ?_
    refine T.seq ?_
    refine T.region ?_
    refine SL.y (op_move rfl) rfl rfl ?_
    first | refine SL.y (op_indexN Tryd.underlying37 ty95 rfl rfl (by omega)) rfl rfl ?_ | refine SL.y (op_index Tryd.underlying37 ty95 rfl rfl (by omega) (by omega)) rfl rfl ?_
    first | refine SL.y (op_load ty95 rfl (by repeat (first | exact AtO.here | apply AtO.there)) rfl) rfl rfl ?_ | refine SL.y (op_loadX ty95 rfl (by assumption) rfl) rfl rfl ?_
    refine SL.y (op_assign rfl) rfl rfl ?_
    refine SL.y (op_assign rfl) rfl rfl ?_
    refine SL.nil ?_
    refine T.block ?_
    -- loop live [0, 3, 4, 6, 7, 8]
    refine T.loopB (fun mm env w1 => ∃ i x, x = mm ∧ x < 18446744073709551616 ∧ i ≤ (mem64 m).length ∧ (mem64 m).drop i = mem64 x ∧ J i w1 ∧ env = [(0, .func (.yield l) #[] #[]), (3, .int .i64 ((0 : Nat) : Int)), (4, .int .u64 (x : Int)), (7, .int .i64 ((1 : Nat) : Int)), (8, .int .i64 ((0 : Nat) : Int))]) m ⟨0, m, rfl, h1, by omega, by simp, hJ0, rfl⟩ (by repeat (first | exact Sub.nil | refine Sub.cons rfl ?_)) rfl ?_
    rintro mm _ w1 ⟨i, x, rfl, hx, hi, hdrop, hJ, rfl⟩
    by_cases hx0 : x = 0
    · subst hx0
      have hi' : i = (mem64 m).length := by
        rw [mem64_zero] at hdrop
        have := List.drop_eq_nil_iff.1 hdrop
        omega
      subst hi'
      refine T.seq ?_
      refine T.seq ?_
      refine T.region ?_
      refine SL.y (op_move rfl) rfl rfl ?_
      first | refine SL.y (op_neqT rfl rfl (by omega)) rfl rfl ?_ | refine SL.y (op_neqF rfl rfl (by omega)) rfl rfl ?_ | refine SL.y (op_neq rfl rfl) rfl rfl ?_
      refine SL.nil ?_
      refine T.condF rfl ?_
      refine T.exit (T.exitCode (T.exitCut (T.exitBlk ?_)))
      refine T.blk ?_
      refine T.region ?_
      first | refine SL.y (op_addN (q := 1) rfl rfl (by omega)) rfl rfl ?_ | refine SL.y (op_add rfl rfl (by omega) (by omega)) rfl rfl ?_ | refine SL.y (op_addW rfl rfl) rfl rfl ?_
      refine SL.y (op_move rfl) rfl rfl ?_
      refine SL.nil ?_
      refine T.unroll ?_
      refine T.seq ?_
      refine T.region ?_
      first | refine SL.y (op_lssT rfl rfl (by omega)) rfl rfl ?_ | refine SL.y (op_lssF rfl rfl (by omega)) rfl rfl ?_ | refine SL.y (op_lss rfl rfl) rfl rfl ?_
      refine SL.nil ?_
      refine T.seq ?_
      refine T.condF rfl ?_
      refine T.exit (T.exitCode (T.exitMore (T.exitBlk ?_)))
      -- end
      refine T.done0 rfl ?_
      intro W' hb hp
      exact ⟨⟨_, rfl⟩, by simpa [ints] using hst _ _ _ hJ hb⟩
    · obtain ⟨t, q, hq⟩ := odd_part x (by omega)
      have ht : t < 64 := odd_lt (n := 64) (q := q) (by rw [← hq]; exact hx)
      obtain ⟨hget, hdrop'⟩ := mem64_drop hdrop hq ht
      refine T.seq ?_
      refine T.seq ?_
      refine T.region ?_
      refine SL.y (op_move rfl) rfl rfl ?_
      first | refine SL.y (op_neqT rfl rfl (by omega)) rfl rfl ?_ | refine SL.y (op_neqF rfl rfl (by omega)) rfl rfl ?_ | refine SL.y (op_neq rfl rfl) rfl rfl ?_
      refine SL.nil ?_
      refine T.condT rfl ?_
      refine T.skip ?_
      refine T.seq ?_
      refine T.block ?_
      refine T.seq ?_
      refine T.region ?_
      refine SL.y (op_move rfl) rfl rfl ?_
      refine SL.y (op_move rfl) rfl rfl ?_
      first | refine SL.y (op_mulN (p := 64) rfl rfl (by omega)) rfl rfl ?_ | refine SL.y (op_mul rfl rfl (by omega) (by omega)) rfl rfl ?_ | refine SL.y (op_mulW rfl rfl) rfl rfl ?_
      refine SL.y (op_move rfl) rfl rfl ?_
      -- op
      refine SL.x (op_callF en84 (vs := [_]) rfl (tz_spec hT t q x hq hx)) rfl rfl ?_
      rintro _ _ X1 ⟨rfl, hX1, rfl, rfl⟩
      first | refine SL.y (op_addN rfl rfl (by omega)) rfl rfl ?_ | refine SL.y (op_add rfl rfl (by omega) (by omega)) rfl rfl ?_ | refine SL.y (op_addW rfl rfl) rfl rfl ?_
      -- to 25: op
      refine (SL.yield (x := .int .i64 ((0 + t : Nat) : Int)) (J := J i) (J' := J (i + 1)) rfl rfl rfl rfl (fun W hb => hst i _ _ hJ hb) (fun A hA => hY i _ A hA (by simp [ints, hget])) (fun B hB => hP _ B hB) ?_)
      intro w2 hJ2 hw2
      refine SL.y (op_not rfl) rfl rfl ?_
      refine SL.nil ?_
      refine T.condF rfl ?_
      refine T.skip ?_
      refine T.blk ?_
      refine T.region ?_
      refine SL.y (op_move rfl) rfl rfl ?_
      refine SL.y (op_move rfl) rfl rfl ?_
      first | refine SL.y (op_subU (q := 1) rfl rfl (by omega) (by omega)) rfl rfl ?_ | refine SL.y (op_subW rfl rfl) rfl rfl ?_
      refine SL.y (op_and rfl rfl (by first | omega | assumption | decide | exact Nat.lt_of_le_of_lt (Nat.shiftRight_le ..) (by first | omega | assumption) | exact Nat.lt_of_le_of_lt Nat.and_le_left (by first | omega | assumption) | exact Nat.lt_of_le_of_lt Nat.and_le_right (by first | omega | decide)) (by first | omega | assumption | decide | exact Nat.lt_of_le_of_lt (Nat.shiftRight_le ..) (by first | omega | assumption) | exact Nat.lt_of_le_of_lt Nat.and_le_left (by first | omega | assumption) | exact Nat.lt_of_le_of_lt Nat.and_le_right (by first | omega | decide))) rfl rfl ?_
      -- to 4: op
      rw [show x &&& (x - 1) = 2 ^ t * (2 * q) by rw [hq]; exact drop_low t q]
      refine SL.y (op_assign rfl) rfl rfl ?_
      refine SL.nil ?_
      -- cut
      exact T.backB (2 ^ t * (2 * q)) (by rw [hq]; exact Nat.mul_lt_mul_of_pos_left (by omega) (Nat.pow_pos (by omega))) ⟨i + 1, _, rfl, by rw [hq] at hx; exact Nat.lt_of_le_of_lt (Nat.mul_le_mul_left _ (by omega)) hx, by have := (List.getElem?_eq_some_iff.1 hget).1; omega, hdrop', hJ2, rfl⟩ (by repeat (first | exact Sub.nil | refine Sub.cons rfl ?_))

theorem all_spec {X : PMap} {v : Value} : Spec Tryd.prog 61 [v] X fun u X' => ∃ B, u = .func (.func 83) #[] #[.pointer (some ⟨B, 0, none⟩)] ∧ Blk X' B (vcells v) := by
  refine Spec.enter Tryd.func61 rfl Tryd.ntmps61 rfl ?_
  intro w0 hw0
  refine T.seq ?_
  refine T.region ?_
  refine SL.x (op_box rfl) rfl rfl ?_
  rintro _ _ _ ⟨B1, rfl, rfl, rfl⟩
  refine SL.y (op_assign rfl) rfl rfl ?_
  refine SL.nil ?_
  refine T.seq ?_
  refine T.region ?_
  -- to 3: op
  refine SL.y (op_makeFunc (vs := []) (us := [_]) rfl rfl) rfl rfl ?_
  refine SL.y (op_assign rfl) rfl rfl ?_
  refine SL.nil ?_
  -- ret
  refine T.pub B1 (by repeat (first | exact AtO.here | apply AtO.there)) ?_
  intro X1 hX1 hB1 _
  refine T.ret1 rfl (ResIs.tmp rfl) ?_
  exact ⟨B1, rfl, hB1⟩

theorem list_spec {X : PMap} (hT : Tab X) {v : Value} {m : Nat} (h : SetR X v m) : Spec Tryd.prog 36 [v] X fun u X' => SliceR X' u (mem64 m).length (ints (mem64 m)) := by
  obtain ⟨A, l, c, rfl⟩ := h.form
  refine Spec.enter Tryd.func36 rfl Tryd.ntmps36 rfl ?_
  intro w0 hw0
  refine T.seq ?_
  refine T.region ?_
  refine SL.x (op_box rfl) rfl rfl ?_
  rintro _ _ _ ⟨B1, rfl, rfl, rfl⟩
  refine SL.y (op_assign rfl) rfl rfl ?_
  refine SL.nil ?_
  refine T.seq ?_
  refine T.region ?_
  first | refine SL.y (op_load ty39 rfl (by repeat (first | exact AtO.here | apply AtO.there)) rfl) rfl rfl ?_ | refine SL.y (op_loadX ty39 rfl (by assumption) rfl) rfl rfl ?_
  -- op
  refine SL.x (op_callF en60 (vs := [_]) rfl (len_spec h)) rfl rfl ?_
  rintro _ _ X1 ⟨rfl, hX1, k, hk, rfl⟩
  refine SL.x (op_make (l := 0) (c := k) Tryd.underlying46 mk46 rfl rfl rfl (by omega) (by omega) (by omega)) rfl rfl ?_
  rintro _ _ _ ⟨B7, rfl, rfl, rfl⟩
  refine SL.x (op_alloc z46) rfl rfl ?_
  rintro _ _ _ ⟨B3, rfl, rfl, rfl⟩
  refine SL.x (op_store ty46 rfl rfl (by repeat (first | exact AtO.here | apply AtO.there)) rfl rfl rfl) rfl rfl ?_
  rintro _ _ _ ⟨rfl, rfl⟩
  refine SL.nil ?_
  refine T.seq ?_
  refine T.seq ?_
  refine T.region ?_
  first | refine SL.y (op_load ty39 rfl (by repeat (first | exact AtO.here | apply AtO.there)) rfl) rfl rfl ?_ | refine SL.y (op_loadX ty39 rfl (by assumption) rfl) rfl rfl ?_
  -- op
  refine SL.x (op_callF en61 (vs := [_]) rfl (all_spec)) rfl rfl ?_
  rintro _ _ X2 ⟨rfl, hX2, B9, rfl, hB9⟩
  refine SL.nil ?_
  refine T.block ?_
  -- rangeFunc live [2, 3, 9]
  refine T.rangeFunc (xs := (ints (mem64 m))) rfl en83 rfl rfl (all_seq ((hT.mono hX1).mono hX2) ((h.mono hX1).mono hX2) hB9) (fun i own' X' => X2.le X' ∧ ∃ b cap sz, sz = cap * 1 ∧ i ≤ cap ∧ cap ≤ maxLen ∧ own' = [⟨B3, [.slice (some ⟨b, 0, none⟩) i cap], 46, 1⟩, ⟨b, ints ((mem64 m).take i), 3, sz⟩, ⟨B1, [.slice A l c], 39, 1⟩]) ⟨PMap.le_refl _, B7, k, k, by simp, by omega, by (have : maxLen = 9223372036854775807 := rfl); omega, rfl⟩ (fun i own' X' h => h.1) ?_ ?_
  · rintro i x _ X' l' r D hx ⟨hX', b, cap, sz, hsz, hic, hcm, rfl⟩
    obtain ⟨hi, rfl⟩ := ints_some hx
    have hi64 := mem64_length m
    refine T.block ?_
    refine T.region ?_
    first | refine SL.y (op_load ty46 rfl (by repeat (first | exact AtO.here | apply AtO.there)) rfl) rfl rfl ?_ | refine SL.y (op_loadX ty46 rfl (by assumption) rfl) rfl rfl ?_
    refine SL.y (op_move rfl) rfl rfl ?_
    refine SL.x (op_buildSlice Tryd.underlying46 bs3 (qs := [(0, _)]) rfl rfl rfl rfl rfl) rfl rfl ?_
    rintro _ _ _ ⟨B13, rfl, rfl, rfl⟩
    -- op
    refine SL.x (op_append sl46 rfl rfl (by repeat (first | exact AtO.here | apply AtO.there)) hsz (by simp [ints]; omega) hic hcm (Src.ofOwn0 (by repeat (first | exact AtO.here | apply AtO.there)) rfl) (by simp [Value.oneCell', csets, vcells]) (by (have : maxLen = 9223372036854775807 := rfl); omega) (by omega)) rfl rfl ?_
    rintro _ _ _ ⟨b2, cap2, rfl, rfl, rfl, hc2, hm2⟩
    refine SL.x (op_store ty46 rfl rfl (by repeat (first | exact AtO.here | apply AtO.there)) rfl rfl rfl) rfl rfl ?_
    rintro _ _ _ ⟨rfl, rfl⟩
    refine SL.nil ?_
    refine T.blk ?_
    -- end
    refine T.drop B13 (by repeat (first | exact AtO.here | apply AtO.there)) ?_
    exact T.roundEnd ⟨hX', b2, cap2, _, rfl, hc2, hm2, by rw [ints_take_succ _ _ hi]; rfl⟩
  · rintro D _ X3 ⟨hX3, b, cap, sz, hsz, hic, hcm, rfl⟩
    refine T.blk ?_
    refine T.seq ?_
    refine T.region ?_
    first | refine SL.y (op_load ty46 rfl (by repeat (first | exact AtO.here | apply AtO.there)) rfl) rfl rfl ?_ | refine SL.y (op_loadX ty46 rfl (by assumption) rfl) rfl rfl ?_
    refine SL.y (op_assign rfl) rfl rfl ?_
    refine SL.nil ?_
    -- ret
    rw [ints_len, show (ints (mem64 m)).length = (mem64 m).length by simp [ints]]
    refine T.pub b (by repeat (first | exact AtO.here | apply AtO.there)) ?_
    intro X4 hX4 hB4 _
    refine T.ret1 rfl (ResIs.tmp rfl) ?_
    rcases Nat.eq_zero_or_pos (mem64 m).length with h0 | h0
    · have e : mem64 m = [] := List.eq_nil_of_length_eq_zero h0
      rw [e]
      exact .inl ⟨rfl, rfl, _, _, rfl⟩
    · exact .inr ⟨h0, _, _, rfl, hB4⟩
end Go.Proofs.YtkmnlogacfkjmaaDoor
