/- SETS OF SMALL NUMBERS: the least member; how many. -/
import Derived.Test.YtkmnlogacfkjmaaDoorBits3
import Derived.Test.YtkmnlogacfkjmaaDoorNum
namespace Go.Proofs.YtkmnlogacfkjmaaDoor
section
set_option maxRecDepth 100000
theorem en82 : Enters Tryd.prog 82 := enters_mk Tryd.func82 (by kernel_rfl) rfl
theorem ty5 : Ty Tryd.prog 5 false 1 := ⟨⟨_, Tryd.underlying5, rfl⟩, by kernel_rfl⟩
end
/-- The table of the package math/bits. -/
def tab64 : List Nat := [0, 1, 56, 2, 57, 49, 28, 3, 61, 58, 42, 50, 38, 29, 17, 4, 62, 47, 59, 36, 45, 43, 51, 22, 53, 39, 33, 30, 24, 18, 12, 5, 63, 55, 48, 27, 60, 41, 37, 16, 46, 35, 44, 21, 52, 32, 23, 11, 54, 26, 40, 15, 34, 20, 31, 10, 25, 14, 19, 9, 13, 8, 7, 6]
def Tab (X : PMap) : Prop := Blk X 0 (tab64.map fun (i : Nat) => .int .u8 (i : Int))
theorem Tab.mono {X X' : PMap} (h : Tab X) (hX : X.le X') : Tab X' := Blk.mono h hX
theorem tab64_at : ∀ t, t < 64 → tab64[(2 ^ t * 285870213051353865 % 18446744073709551616) >>> 58]? = some t := by decide
theorem tab64_in : ∀ t, t < 64 → (2 ^ t * 285870213051353865 % 18446744073709551616) >>> 58 < 64 := by decide

theorem tz_spec {X : PMap} (hT : Tab X) (t q m : Nat) (hm : m = 2 ^ t * (2 * q + 1)) (hlt : m < 18446744073709551616) : Spec Tryd.prog 84 [.int .u64 (m : Int)] X fun u X' => u = .int .i64 (t : Int) ∧ X = X' := by
  have ht : t < 64 := odd_lt (n := 64) (q := q) (by rw [← hm]; exact hlt)
  have h0 : 0 < m := by rw [hm]; exact Nat.mul_pos (Nat.pow_pos (by omega)) (by omega)
  have hlow : m &&& (18446744073709551616 - m) = 2 ^ t := by rw [hm]; exact low_bit t q (by omega)
  have hin := tab64_in t ht
  have hat := tab64_at t ht
  refine Spec.enter Tryd.func84 rfl Tryd.ntmps84 rfl ?_
  intro w0 hw0
  refine T.seq ?_
  refine T.region ?_
  refine SL.y (op_assign (v := .int .i64 ((0 : Nat) : Int)) rfl) rfl rfl ?_
  refine SL.nil ?_
  refine T.seq ?_
  refine T.seq ?_
  refine T.region ?_
  refine SL.y (op_move rfl) rfl rfl ?_
  first | refine SL.y (op_eqlT rfl rfl (by omega)) rfl rfl ?_ | refine SL.y (op_eqlF rfl rfl (by omega)) rfl rfl ?_ | refine SL.y (op_eql rfl rfl) rfl rfl ?_
  refine SL.nil ?_
  refine T.condF rfl ?_
  refine T.skip ?_
  refine T.seq ?_
  refine T.region ?_
  refine SL.y (op_move rfl) rfl rfl ?_
  refine SL.y (op_move rfl) rfl rfl ?_
  refine SL.y (op_negU rfl (by omega) (by omega)) rfl rfl ?_
  refine SL.y (op_and rfl rfl (by first | omega | assumption | decide | exact Nat.lt_of_le_of_lt (Nat.shiftRight_le ..) (by first | omega | assumption) | exact Nat.lt_of_le_of_lt Nat.and_le_left (by first | omega | assumption) | exact Nat.lt_of_le_of_lt Nat.and_le_right (by first | omega | decide)) (by first | omega | assumption | decide | exact Nat.lt_of_le_of_lt (Nat.shiftRight_le ..) (by first | omega | assumption) | exact Nat.lt_of_le_of_lt Nat.and_le_left (by first | omega | assumption) | exact Nat.lt_of_le_of_lt Nat.and_le_right (by first | omega | decide))) rfl rfl ?_
  -- to 9: op
  rw [hlow]
  first | refine SL.y (op_mulU (q := 285870213051353865) rfl rfl) rfl rfl ?_ | refine SL.y (op_mulW rfl rfl) rfl rfl ?_
  first | refine SL.y (op_shrN (q := 58) rfl rfl (by omega)) rfl rfl ?_ | refine SL.y (op_shr rfl rfl) rfl rfl ?_
  refine SL.y (op_indexA Tryd.underlying142 ty5 rfl rfl (by omega)) rfl rfl ?_
  -- to 12: op
  refine SL.y (op_loadX ty5 rfl hT (cread1 (by rw [List.getElem?_map, hat]; rfl))) rfl rfl ?_
  first | refine SL.y (op_convI64 Tryd.underlying5 Tryd.underlying3 rfl (by omega) (by omega)) rfl rfl ?_ | refine SL.y (op_convert Tryd.underlying5 Tryd.underlying3 rfl) rfl rfl ?_
  refine SL.y (op_assign rfl) rfl rfl ?_
  refine SL.nil ?_
  -- ret
  refine T.ret1 rfl (ResIs.tmp rfl) ?_
  exact ⟨rfl, rfl⟩

/-- How many: only that it is small. -/
theorem ones_spec {X : PMap} (m : Nat) (hlt : m < 18446744073709551616) : Spec Tryd.prog 82 [.int .u64 (m : Int)] X fun u _ => ∃ k : Nat, k < 128 ∧ u = .int .i64 (k : Int) := by
  refine Spec.enter Tryd.func82 rfl Tryd.ntmps82 rfl ?_
  intro w0 hw0
  refine T.seq ?_
  refine T.region ?_
  refine SL.y (op_assign (v := .int .i64 ((0 : Nat) : Int)) rfl) rfl rfl ?_
  refine SL.nil ?_
  refine T.seq ?_
  refine T.region ?_
  refine SL.y (op_move rfl) rfl rfl ?_
  -- to 4: op
  refine SL.x (opx_of isU64 (op_shrN (q := 1) rfl rfl (by omega)) (isU64_nat (Nat.lt_of_le_of_lt (Nat.shiftRight_le ..) (by assumption))) rfl) rfl rfl ?_
  rintro _ _ _ ⟨⟨r4, hr4, rfl⟩, rfl, rfl⟩
  -- to 5: op
  refine SL.x (opx_of isU64 (op_and (q := 6148914691236517205) rfl rfl (by assumption) (by decide)) (isU64_nat (Nat.lt_of_le_of_lt Nat.and_le_left (by assumption))) rfl) rfl rfl ?_
  rintro _ _ _ ⟨⟨r5, hr5, rfl⟩, rfl, rfl⟩
  refine SL.y (op_move rfl) rfl rfl ?_
  -- to 7: op
  refine SL.x (opx_of isU64 (op_and (q := 6148914691236517205) rfl rfl (by assumption) (by decide)) (isU64_nat (Nat.lt_of_le_of_lt Nat.and_le_left (by assumption))) rfl) rfl rfl ?_
  rintro _ _ _ ⟨⟨r7, hr7, rfl⟩, rfl, rfl⟩
  -- to 8: op
  refine SL.x (opx_of isU64 (op_addW rfl rfl) (isU64_wrap _) rfl) rfl rfl ?_
  rintro _ _ _ ⟨⟨r8, hr8, rfl⟩, rfl, rfl⟩
  refine SL.y (op_assign rfl) rfl rfl ?_
  refine SL.nil ?_
  refine T.seq ?_
  refine T.region ?_
  refine SL.y (op_move rfl) rfl rfl ?_
  -- to 10: op
  refine SL.x (opx_of isU64 (op_shrN (q := 2) rfl rfl (by omega)) (isU64_nat (Nat.lt_of_le_of_lt (Nat.shiftRight_le ..) (by assumption))) rfl) rfl rfl ?_
  rintro _ _ _ ⟨⟨r10, hr10, rfl⟩, rfl, rfl⟩
  -- to 11: op
  refine SL.x (opx_of isU64 (op_and (q := 3689348814741910323) rfl rfl (by assumption) (by decide)) (isU64_nat (Nat.lt_of_le_of_lt Nat.and_le_left (by assumption))) rfl) rfl rfl ?_
  rintro _ _ _ ⟨⟨r11, hr11, rfl⟩, rfl, rfl⟩
  refine SL.y (op_move rfl) rfl rfl ?_
  -- to 13: op
  refine SL.x (opx_of isU64 (op_and (q := 3689348814741910323) rfl rfl (by assumption) (by decide)) (isU64_nat (Nat.lt_of_le_of_lt Nat.and_le_left (by assumption))) rfl) rfl rfl ?_
  rintro _ _ _ ⟨⟨r13, hr13, rfl⟩, rfl, rfl⟩
  -- to 14: op
  refine SL.x (opx_of isU64 (op_addW rfl rfl) (isU64_wrap _) rfl) rfl rfl ?_
  rintro _ _ _ ⟨⟨r14, hr14, rfl⟩, rfl, rfl⟩
  refine SL.y (op_assign rfl) rfl rfl ?_
  refine SL.nil ?_
  refine T.seq ?_
  refine T.region ?_
  refine SL.y (op_move rfl) rfl rfl ?_
  -- to 16: op
  refine SL.x (opx_of isU64 (op_shrN (q := 4) rfl rfl (by omega)) (isU64_nat (Nat.lt_of_le_of_lt (Nat.shiftRight_le ..) (by assumption))) rfl) rfl rfl ?_
  rintro _ _ _ ⟨⟨r16, hr16, rfl⟩, rfl, rfl⟩
  refine SL.y (op_move rfl) rfl rfl ?_
  -- to 18: op
  refine SL.x (opx_of isU64 (op_addW rfl rfl) (isU64_wrap _) rfl) rfl rfl ?_
  rintro _ _ _ ⟨⟨r18, hr18, rfl⟩, rfl, rfl⟩
  -- to 19: op
  refine SL.x (opx_of isU64 (op_and (q := 1085102592571150095) rfl rfl (by assumption) (by decide)) (isU64_nat (Nat.lt_of_le_of_lt Nat.and_le_left (by assumption))) rfl) rfl rfl ?_
  rintro _ _ _ ⟨⟨r19, hr19, rfl⟩, rfl, rfl⟩
  refine SL.y (op_assign rfl) rfl rfl ?_
  refine SL.nil ?_
  refine T.seq ?_
  refine T.region ?_
  refine SL.y (op_move rfl) rfl rfl ?_
  refine SL.y (op_move rfl) rfl rfl ?_
  -- to 22: op
  refine SL.x (opx_of isU64 (op_shrN (q := 8) rfl rfl (by omega)) (isU64_nat (Nat.lt_of_le_of_lt (Nat.shiftRight_le ..) (by assumption))) rfl) rfl rfl ?_
  rintro _ _ _ ⟨⟨r22, hr22, rfl⟩, rfl, rfl⟩
  -- to 23: op
  refine SL.x (opx_of isU64 (op_addW rfl rfl) (isU64_wrap _) rfl) rfl rfl ?_
  rintro _ _ _ ⟨⟨r23, hr23, rfl⟩, rfl, rfl⟩
  refine SL.y (op_assign rfl) rfl rfl ?_
  refine SL.nil ?_
  refine T.seq ?_
  refine T.region ?_
  refine SL.y (op_move rfl) rfl rfl ?_
  refine SL.y (op_move rfl) rfl rfl ?_
  -- to 26: op
  refine SL.x (opx_of isU64 (op_shrN (q := 16) rfl rfl (by omega)) (isU64_nat (Nat.lt_of_le_of_lt (Nat.shiftRight_le ..) (by assumption))) rfl) rfl rfl ?_
  rintro _ _ _ ⟨⟨r26, hr26, rfl⟩, rfl, rfl⟩
  -- to 27: op
  refine SL.x (opx_of isU64 (op_addW rfl rfl) (isU64_wrap _) rfl) rfl rfl ?_
  rintro _ _ _ ⟨⟨r27, hr27, rfl⟩, rfl, rfl⟩
  refine SL.y (op_assign rfl) rfl rfl ?_
  refine SL.nil ?_
  refine T.seq ?_
  refine T.region ?_
  refine SL.y (op_move rfl) rfl rfl ?_
  refine SL.y (op_move rfl) rfl rfl ?_
  -- to 30: op
  refine SL.x (opx_of isU64 (op_shrN (q := 32) rfl rfl (by omega)) (isU64_nat (Nat.lt_of_le_of_lt (Nat.shiftRight_le ..) (by assumption))) rfl) rfl rfl ?_
  rintro _ _ _ ⟨⟨r30, hr30, rfl⟩, rfl, rfl⟩
  -- to 31: op
  refine SL.x (opx_of isU64 (op_addW rfl rfl) (isU64_wrap _) rfl) rfl rfl ?_
  rintro _ _ _ ⟨⟨r31, hr31, rfl⟩, rfl, rfl⟩
  refine SL.y (op_assign rfl) rfl rfl ?_
  refine SL.nil ?_
  refine T.seq ?_
  refine T.region ?_
  refine SL.y (op_move rfl) rfl rfl ?_
  first | refine SL.y (op_convI64 Tryd.underlying95 Tryd.underlying3 rfl (by omega) (by omega)) rfl rfl ?_ | refine SL.y (op_convert Tryd.underlying95 Tryd.underlying3 rfl) rfl rfl ?_
  -- to 34: op
  obtain ⟨k, hk, hbits⟩ := and127 (IntKind.i64.wrap (r31 : Int))
  refine SL.y (op_bits (op := .and) rfl rfl (by simp) hbits) rfl rfl ?_
  refine SL.y (op_assign rfl) rfl rfl ?_
  refine SL.nil ?_
  -- ret
  refine T.ret1 rfl (ResIs.tmp rfl) ?_
  exact ⟨k, hk, rfl⟩

theorem len_spec {X : PMap} {v : Value} {m : Nat} (h : SetR X v m) : Spec Tryd.prog 60 [v] X fun u _ => ∃ k : Nat, k < 128 ∧ u = .int .i64 (k : Int) := by
  rcases h with ⟨rfl, A, c, rfl⟩ | ⟨_, h1, b, c, rest, rfl, hB⟩
  · refine Spec.enter Tryd.func60 rfl Tryd.ntmps60 rfl ?_
    intro w0 hw0
    refine T.seq ?_
    refine T.region ?_
    refine SL.x (op_box rfl) rfl rfl ?_
    rintro _ _ _ ⟨B1, rfl, rfl, rfl⟩
    refine SL.y (op_assign (v := .int .i64 ((0 : Nat) : Int)) rfl) rfl rfl ?_
    refine SL.nil ?_
    refine T.seq ?_
    refine T.region ?_
    refine SL.y (op_assign (v := .int .i64 ((0 : Nat) : Int)) rfl) rfl rfl ?_
    refine SL.nil ?_
    refine T.seq ?_
    refine T.seq ?_
    refine T.region ?_
    refine SL.y (op_fieldAddr fa39_0 rfl) rfl rfl ?_
    first | refine SL.y (op_load ty37 rfl (by repeat (first | exact AtO.here | apply AtO.there)) rfl) rfl rfl ?_ | refine SL.y (op_loadX ty37 rfl (by assumption) rfl) rfl rfl ?_
    refine SL.y (op_lenS Tryd.underlying37 rfl) rfl rfl ?_
    refine SL.y (op_move (v := .int .i64 ((0 : Nat) : Int)) rfl) rfl rfl ?_
    refine SL.nil ?_
    refine T.block ?_
    -- loop live [2, 3, 7, 8, 9]
    refine T.unrollStart 1 ?_
    refine T.unroll ?_
    refine T.seq ?_
    refine T.region ?_
    first | refine SL.y (op_lssT rfl rfl (by omega)) rfl rfl ?_ | refine SL.y (op_lssF rfl rfl (by omega)) rfl rfl ?_ | refine SL.y (op_lss rfl rfl) rfl rfl ?_
    refine SL.nil ?_
    refine T.seq ?_
    refine T.condF rfl ?_
    refine T.exit (T.exitCode (T.exitMore (T.exitBlk ?_)))
    refine T.seq ?_
    refine T.region ?_
    refine SL.y (op_move rfl) rfl rfl ?_
    refine SL.y (op_assign rfl) rfl rfl ?_
    refine SL.nil ?_
    -- ret
    refine T.ret1 rfl (ResIs.tmp rfl) ?_
    exact ⟨0, by omega, rfl⟩
  · refine Spec.enter Tryd.func60 rfl Tryd.ntmps60 rfl ?_
    intro w0 hw0
    refine T.seq ?_
    refine T.region ?_
    refine SL.x (op_box rfl) rfl rfl ?_
    rintro _ _ _ ⟨B1, rfl, rfl, rfl⟩
    refine SL.y (op_assign (v := .int .i64 ((0 : Nat) : Int)) rfl) rfl rfl ?_
    refine SL.nil ?_
    refine T.seq ?_
    refine T.region ?_
    refine SL.y (op_assign (v := .int .i64 ((0 : Nat) : Int)) rfl) rfl rfl ?_
    refine SL.nil ?_
    refine T.seq ?_
    refine T.seq ?_
    refine T.region ?_
    refine SL.y (op_fieldAddr fa39_0 rfl) rfl rfl ?_
    first | refine SL.y (op_load ty37 rfl (by repeat (first | exact AtO.here | apply AtO.there)) rfl) rfl rfl ?_ | refine SL.y (op_loadX ty37 rfl (by assumption) rfl) rfl rfl ?_
    refine SL.y (op_lenS Tryd.underlying37 rfl) rfl rfl ?_
    refine SL.y (op_move (v := .int .i64 ((0 : Nat) : Int)) rfl) rfl rfl ?_
    refine SL.nil ?_
    refine T.block ?_
    -- loop live [2, 3, 7, 8, 9]
    refine T.unrollStart 2 ?_
    refine T.unroll ?_
    refine T.seq ?_
    refine T.region ?_
    first | refine SL.y (op_lssT rfl rfl (by omega)) rfl rfl ?_ | refine SL.y (op_lssF rfl rfl (by omega)) rfl rfl ?_ | refine SL.y (op_lss rfl rfl) rfl rfl ?_
    refine SL.nil ?_
    refine T.seq ?_
    refine T.condT rfl ?_
    refine T.skip ?_
    refine T.seq ?_
    refine T.block ?_
    refine T.seq ?_
    refine T.region ?_
    first | refine SL.y (op_indexN Tryd.underlying37 ty95 rfl rfl (by omega)) rfl rfl ?_ | refine SL.y (op_index Tryd.underlying37 ty95 rfl rfl (by omega) (by omega)) rfl rfl ?_
    first | refine SL.y (op_load ty95 rfl (by repeat (first | exact AtO.here | apply AtO.there)) rfl) rfl rfl ?_ | refine SL.y (op_loadX ty95 rfl (by assumption) rfl) rfl rfl ?_
    refine SL.y (op_assign rfl) rfl rfl ?_
    refine SL.nil ?_
    refine T.region ?_
    refine SL.y (op_move rfl) rfl rfl ?_
    refine SL.y (op_move rfl) rfl rfl ?_
    -- op
    refine SL.x (op_callF en82 (vs := [_]) rfl (ones_spec m h1)) rfl rfl ?_
    rintro _ _ X1 ⟨rfl, hX1, k, hk, rfl⟩
    first | refine SL.y (op_addN rfl rfl (by omega)) rfl rfl ?_ | refine SL.y (op_add rfl rfl (by omega) (by omega)) rfl rfl ?_ | refine SL.y (op_addW rfl rfl) rfl rfl ?_
    refine SL.y (op_assign rfl) rfl rfl ?_
    refine SL.nil ?_
    refine T.blk ?_
    refine T.region ?_
    first | refine SL.y (op_addN (q := 1) rfl rfl (by omega)) rfl rfl ?_ | refine SL.y (op_add rfl rfl (by omega) (by omega)) rfl rfl ?_ | refine SL.y (op_addW rfl rfl) rfl rfl ?_
    refine SL.y (op_move rfl) rfl rfl ?_
    refine SL.nil ?_
    refine T.unroll ?_
    refine T.seq ?_
    refine T.region ?_
    first | refine SL.y (op_lssT rfl rfl (by omega)) rfl rfl ?_ | refine SL.y (op_lssF rfl rfl (by omega)) rfl rfl ?_ | refine SL.y (op_lss rfl rfl) rfl rfl ?_
    refine SL.nil ?_
    refine T.seq ?_
    refine T.condF rfl ?_
    refine T.exit (T.exitCode (T.exitMore (T.exitBlk ?_)))
    refine T.seq ?_
    refine T.region ?_
    refine SL.y (op_move rfl) rfl rfl ?_
    refine SL.y (op_assign rfl) rfl rfl ?_
    refine SL.nil ?_
    -- ret
    refine T.ret1 rfl (ResIs.tmp rfl) ?_
    exact ⟨0 + k, by omega, rfl⟩
end Go.Proofs.YtkmnlogacfkjmaaDoor
