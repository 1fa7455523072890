/- SETS OF SMALL NUMBERS: the least member; how many. -/
import Derived.Test.YtaooojjhlngcmaaDoorBits3
import Derived.Test.YtaooojjhlngcmaaDoorNum
namespace Go.Proofs.YtaooojjhlngcmaaDoor
section
set_option maxRecDepth 100000
theorem ty5 : Ty Tryd.prog 5 false 1 := ⟨⟨_, Tryd.underlying5, rfl⟩, by kernel_rfl⟩
end
/-- The table of the package math/bits. -/
def tab64 : List Nat := [0, 1, 56, 2, 57, 49, 28, 3, 61, 58, 42, 50, 38, 29, 17, 4, 62, 47, 59, 36, 45, 43, 51, 22, 53, 39, 33, 30, 24, 18, 12, 5, 63, 55, 48, 27, 60, 41, 37, 16, 46, 35, 44, 21, 52, 32, 23, 11, 54, 26, 40, 15, 34, 20, 31, 10, 25, 14, 19, 9, 13, 8, 7, 6]
def Tab (X : PMap) : Prop := Blk X 3 (tab64.map fun (i : Nat) => .int .u8 (i : Int))
theorem Tab.mono {X X' : PMap} (h : Tab X) (hX : X.le X') : Tab X' := Blk.mono h hX
theorem tab64_at : ∀ t, t < 64 → tab64[(2 ^ t * 285870213051353865 % 18446744073709551616) >>> 58]? = some t := by decide
theorem tab64_in : ∀ t, t < 64 → (2 ^ t * 285870213051353865 % 18446744073709551616) >>> 58 < 64 := by decide

theorem tz_spec {X : PMap} (hT : Tab X) (t q m : Nat) (hm : m = 2 ^ t * (2 * q + 1)) (hlt : m < 18446744073709551616) : Spec Tryd.prog 128 [.int .u64 (m : Int)] X fun u X' => u = .int .i64 (t : Int) ∧ X = X' := by
  have ht : t < 64 := odd_lt (n := 64) (q := q) (by rw [← hm]; exact hlt)
  have h0 : 0 < m := by rw [hm]; exact Nat.mul_pos (Nat.pow_pos (by omega)) (by omega)
  have hlow : m &&& (18446744073709551616 - m) = 2 ^ t := by rw [hm]; exact low_bit t q (by omega)
  have hin := tab64_in t ht
  have hat := tab64_at t ht
  refine Spec.enter Tryd.func128 rfl Tryd.ntmps128 rfl ?_
  intro w0 hw0
  refine T.seq ?_
  refine T.region ?_
  refine SL.y (op_assign (v := .int .i64 ((0 : Nat) : Int)) rfl) rfl rfl ?_
  refine SL.nil ?_
  refine T.seq ?_
  refine T.seq ?_
  refine T.region ?_
  refine SL.y (op_move rfl) rfl rfl ?_
  first | refine SL.y (op_eqlT rfl rfl (by omega)) rfl rfl ?_ | refine SL.y (op_eqlF rfl rfl (by omega)) rfl rfl ?_ | refine SL.y (op_eql rfl rfl) rfl rfl ?_
  refine SL.nil ?_
  refine T.condF rfl ?_
  refine T.skip ?_
  refine T.seq ?_
  refine T.region ?_
  refine SL.y (op_move rfl) rfl rfl ?_
  refine SL.y (op_move rfl) rfl rfl ?_
  refine SL.y (op_negU rfl (by omega) (by omega)) rfl rfl ?_
  refine SL.y (op_and rfl rfl (by first | omega | assumption | decide | exact Nat.lt_of_le_of_lt (Nat.shiftRight_le ..) (by first | omega | assumption) | exact Nat.lt_of_le_of_lt Nat.and_le_left (by first | omega | assumption) | exact Nat.lt_of_le_of_lt Nat.and_le_right (by first | omega | decide)) (by first | omega | assumption | decide | exact Nat.lt_of_le_of_lt (Nat.shiftRight_le ..) (by first | omega | assumption) | exact Nat.lt_of_le_of_lt Nat.and_le_left (by first | omega | assumption) | exact Nat.lt_of_le_of_lt Nat.and_le_right (by first | omega | decide))) rfl rfl ?_
  -- to 9: op
  rw [hlow]
  first | refine SL.y (op_mulU (q := 285870213051353865) rfl rfl) rfl rfl ?_ | refine SL.y (op_mulW rfl rfl) rfl rfl ?_
  first | refine SL.y (op_shrN (q := 58) rfl rfl (by omega)) rfl rfl ?_ | refine SL.y (op_shr rfl rfl) rfl rfl ?_
  refine SL.y (op_indexA Tryd.underlying166 ty5 rfl rfl (by omega)) rfl rfl ?_
  -- to 12: op
  refine SL.y (op_loadX ty5 rfl hT (cread1 (by rw [List.getElem?_map, hat]; rfl))) rfl rfl ?_
  first | refine SL.y (op_convI64 Tryd.underlying5 Tryd.underlying3 rfl (by omega) (by omega)) rfl rfl ?_ | refine SL.y (op_convert Tryd.underlying5 Tryd.underlying3 rfl) rfl rfl ?_
  refine SL.y (op_assign rfl) rfl rfl ?_
  refine SL.nil ?_
  -- ret
  refine T.ret1 rfl (ResIs.tmp rfl) ?_
  exact ⟨rfl, rfl⟩

end Go.Proofs.YtaooojjhlngcmaaDoor
