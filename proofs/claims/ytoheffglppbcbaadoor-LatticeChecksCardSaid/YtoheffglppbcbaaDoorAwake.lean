/- THE CHAPTER's EXAMPLE (arbaclaw46.awake) answers true. -/
import Derived.Test.YtoheffglppbcbaaDoorMake
import Derived.Test.YtoheffglppbcbaaDoorPair
import Derived.Test.YtoheffglppbcbaaDoorBld2
import Derived.Test.YtoheffglppbcbaaDoorLat3
namespace Go.Proofs.YtoheffglppbcbaaDoor
section
set_option maxRecDepth 100000
theorem en17 : Enters Tryd.prog 17 := enters_mk Tryd.func17 (by kernel_rfl) rfl
theorem en18 : Enters Tryd.prog 18 := enters_mk Tryd.func18 (by kernel_rfl) rfl
theorem en25 : Enters Tryd.prog 25 := enters_mk Tryd.func25 (by kernel_rfl) rfl
theorem en27 : Enters Tryd.prog 27 := enters_mk Tryd.func27 (by kernel_rfl) rfl
theorem en28 : Enters Tryd.prog 28 := enters_mk Tryd.func28 (by kernel_rfl) rfl
theorem en41 : Enters Tryd.prog 41 := enters_mk Tryd.func41 (by kernel_rfl) rfl
theorem en54 : Enters Tryd.prog 54 := enters_mk Tryd.func54 (by kernel_rfl) rfl
end
open Go.RowKit
theorem op_eqlStrT {P : Program} {n : NM} {own : Own} {X : PMap} {env : Env} {t t' : TypeId} {x y : Operand} {s : ByteArray} (ht : P.underlying t = some .string) (hx : eev env x = some (.string s)) (hy : eev env y = some (.string s)) : OpY P n env own X (.binOp .eql t x y t') (.bool true) := by
  have := op_eqlStr (P := P) (n := n) (own := own) (X := X) (t' := t') ht hx hy
  rwa [beq_self_eq_true] at this
def ms0 : List Nat := [3, 7, 6]
def L0 : List (Nat × Nat) := [(7, 2), (6, 6), (3, 3), (2, 7)]
theorem allR0 : allR 3 ms0 = L0 := by kernel_rfl
theorem Blk.slice {X : PMap} {b c len : Nat} {cs : List Value} (h : Blk X b cs) (h0 : 0 < len) : SliceR X (.slice (some ⟨b, 0, none⟩) len c) len cs := .inr ⟨h0, b, c, rfl, h⟩
section
variable {X : PMap} (hT : Tab X)
include hT
theorem aw_new {v : Value} (h : MatR X v 3 ms0) : Spec Tryd.prog 15 [v, .int .i64 4] X fun u X' => ∃ w, u = .tuple #[w, .int .i64 0] ∧ LatR X' w 3 ms0 L0 :=
  (lnewA_spec hT h (by omega) 4 (by omega) (by omega)).mono fun v X' _ hv => by
    rw [allR0, if_pos (by decide)] at hv
    exact hv
theorem aw_few {v : Value} (h : MatR X v 3 ms0) : Spec Tryd.prog 15 [v, .int .i64 3] X fun u _X' => u = .tuple #[.pointer none, .int .i64 3] :=
  (lnewA_spec hT h (by omega) 3 (by omega) (by omega)).mono fun v X' _ hv => by
    rw [allR0, if_neg (by decide)] at hv
    exact hv
theorem aw_meet {v : Value} (h : LatR X v 3 ms0 L0) : Spec Tryd.prog 18 [v, .int .i64 1, .int .i64 2] X fun u _ => u = .tuple #[.int .i64 3, .bool true] :=
  (meet_spec hT (.inl h) 1 2).mono fun v X' _ hv => by
    rw [hv]
    have : meetM 3 ms0 L0 1 2 = some 3 := by kernel_rfl
    rw [this]; rfl
theorem aw_text {v : Value} (h : SetR X v 6) : Spec Tryd.prog 54 [v] X fun u _ => u = .string { data := #[123, 49, 32, 50, 125] } :=
  (text_spec hT h (by decide)).mono fun v X' _ hv => by
    rw [hv]
    have : txtOf (mem64 6) ++ [125] = [123, 49, 32, 50, 125] := by kernel_rfl
    rw [this]
end
theorem aw_len {X : PMap} {v : Value} (h : LatR X v 3 ms0 L0) : Spec Tryd.prog 16 [v] X fun u _ => u = .int .i64 4 :=
  (llen_spec (.inl h)).mono fun v X' _ hv => by rw [hv]; rfl
theorem aw_at {X : PMap} {v : Value} (h : LatR X v 3 ms0 L0) : Spec Tryd.prog 25 [v, .int .i64 1] X fun u X' => ∃ x y, u = .tuple #[.agg #[x, y], .bool true] ∧ SetR X' (.agg #[x]) 6 ∧ SetR X' (.agg #[y]) 6 :=
  (lat_spec (.inl h) 1).mono fun v X' _ hv => by
    obtain ⟨w, rfl, x, y, rfl, h1, h2⟩ := hv
    exact ⟨x, y, rfl, h1, h2⟩
theorem aw_join {X : PMap} {v : Value} (h : LatR X v 3 ms0 L0) : Spec Tryd.prog 17 [v, .int .i64 1, .int .i64 2] X fun u _ => u = .tuple #[.int .i64 0, .bool true] :=
  (join_spec (.inl h) 1 2).mono fun v X' _ hv => by
    rw [hv]
    have : joinM L0 1 2 = some 0 := by kernel_rfl
    rw [this]; rfl
theorem aw_row {X : PMap} {v : Value} (h : LatR X v 3 ms0 L0) : Spec Tryd.prog 41 [v, .int .i64 0] X fun u _ => u = .tuple #[.int .i64 2, .bool true] :=
  (lrow_spec h 0).mono fun v X' _ hv => by
    rw [hv]
    have : lrowM ms0 L0 0 = some 2 := by kernel_rfl
    rw [this]; rfl
theorem aw_covers {X : PMap} {v : Value} (h : LatR X v 3 ms0 L0) : Spec Tryd.prog 27 [v] X fun u X' => SliceR X' u 4 (pairC [(1, 0), (2, 0), (3, 1), (3, 2)]) :=
  (covers_spec (.inl h) (by decide)).mono fun v X' _ hv => by
    have : coversM L0 = [(1, 0), (2, 0), (3, 1), (3, 2)] := by kernel_rfl
    rw [this] at hv
    exact hv
theorem awake_spec {X : PMap} (hT : Tab X) : Spec Tryd.prog 13 [] X fun u _ => u = .bool true := by
  refine Spec.enter Tryd.func13 rfl Tryd.ntmps13 rfl ?_
  intro w0 hw0
  refine T.seq ?_
  refine T.region ?_
  refine SL.y (op_assign rfl) rfl rfl ?_
  refine SL.nil ?_
  refine T.seq ?_
  refine T.region ?_
  refine SL.x (op_buildSlice Tryd.underlying73 bs3 (qs := [(0, _), (1, _)]) rfl rfl rfl rfl rfl) rfl rfl ?_
  rintro _ _ _ ⟨B15, rfl, rfl, rfl⟩
  -- op
  refine T.pubAt B15 (by repeat (first | exact AtO.here | apply AtO.there)) ?_
  intro X1 hX1 hB1 _
  refine SL.x (op_callF en30 (vs := [_]) rfl (of_spec (l := [0, 1]) (hB1.slice (by decide)) (by decide) (by decide))) rfl rfl ?_
  rintro v1 _ X2 ⟨rfl, hX2, hS1⟩
  obtain ⟨A1, l1, c1, rfl⟩ := hS1.form
  refine SL.x (op_buildSlice Tryd.underlying73 bs3 (qs := [(0, _), (1, _), (2, _)]) rfl rfl rfl rfl rfl) rfl rfl ?_
  rintro _ _ _ ⟨B17, rfl, rfl, rfl⟩
  -- op
  refine T.pubAt B17 (by repeat (first | exact AtO.here | apply AtO.there)) ?_
  intro X3 hX3 hB2 _
  refine SL.x (op_callF en30 (vs := [_]) rfl (of_spec (l := [0, 1, 2]) (hB2.slice (by decide)) (by decide) (by decide))) rfl rfl ?_
  rintro v2 _ X4 ⟨rfl, hX4, hS2⟩
  obtain ⟨A2, l2, c2, rfl⟩ := hS2.form
  refine SL.x (op_buildSlice Tryd.underlying73 bs3 (qs := [(0, _), (1, _)]) rfl rfl rfl rfl rfl) rfl rfl ?_
  rintro _ _ _ ⟨B19, rfl, rfl, rfl⟩
  -- op
  refine T.pubAt B19 (by repeat (first | exact AtO.here | apply AtO.there)) ?_
  intro X5 hX5 hB3 _
  refine SL.x (op_callF en30 (vs := [_]) rfl (of_spec (l := [1, 2]) (hB3.slice (by decide)) (by decide) (by decide))) rfl rfl ?_
  rintro v3 _ X6 ⟨rfl, hX6, hS3⟩
  obtain ⟨A3, l3, c3, rfl⟩ := hS3.form
  refine SL.x (op_buildSlice Tryd.underlying59 bs47 (qs := [(0, _), (1, _), (2, _)]) rfl rfl rfl rfl rfl) rfl rfl ?_
  rintro _ _ _ ⟨B21, rfl, rfl, rfl⟩
  -- op
  refine T.pubAt B21 (by repeat (first | exact AtO.here | apply AtO.there)) ?_
  intro X7 hX7 hB4 _
  have hSets : SetsR X7 [.slice A1 l1 c1, .slice A2 l2 c2, .slice A3 l3 c3] ms0 := by
    refine ⟨rfl, fun i m hm => ?_⟩
    match i, hm with
    | 0, hm => cases hm; exact ⟨_, rfl, ((((hS1.mono hX3).mono hX4).mono hX5).mono hX6).mono hX7⟩
    | 1, hm => cases hm; exact ⟨_, rfl, ((hS2.mono hX5).mono hX6).mono hX7⟩
    | 2, hm => cases hm; exact ⟨_, rfl, hS3.mono hX7⟩
  refine SL.x (op_callF en53 (vs := [_, _]) rfl (mof_spec 3 (hB4.slice (len := 3) (by decide)) hSets (by decide) (by decide) (by decide))) rfl rfl ?_
  rintro u4 _ X8 ⟨rfl, hX8, w, rfl, hM⟩
  have hT8 := (((((((hT.mono hX1).mono hX2).mono hX3).mono hX4).mono hX5).mono hX6).mono hX7).mono hX8
  obtain ⟨bm, rfl⟩ := hM.ptr
  refine SL.y (op_move rfl) rfl rfl ?_
  refine SL.y (op_extract rfl rfl) rfl rfl ?_
  refine SL.y (op_extract rfl rfl) rfl rfl ?_
  refine SL.y (op_assign rfl) rfl rfl ?_
  refine SL.y (op_assign rfl) rfl rfl ?_
  refine SL.nil ?_
  refine T.seq ?_
  refine T.seq ?_
  refine T.region ?_
  refine SL.y (op_move rfl) rfl rfl ?_
  first | refine SL.y (op_neqT rfl rfl (by omega)) rfl rfl ?_ | refine SL.y (op_neqF rfl rfl (by omega)) rfl rfl ?_ | refine SL.y (op_neq rfl rfl) rfl rfl ?_
  refine SL.nil ?_
  refine T.condF rfl ?_
  refine T.skip ?_
  refine T.seq ?_
  refine T.region ?_
  refine SL.y (op_move rfl) rfl rfl ?_
  -- op
  refine SL.x (op_callF en15 (vs := [_, _]) rfl (aw_new hT8 hM)) rfl rfl ?_
  rintro _ _ X9 ⟨rfl, hX9, w9, rfl, hL⟩
  refine SL.y (op_move rfl) rfl rfl ?_
  refine SL.y (op_extract rfl rfl) rfl rfl ?_
  refine SL.y (op_extract rfl rfl) rfl rfl ?_
  refine SL.y (op_assign rfl) rfl rfl ?_
  refine SL.y (op_assign rfl) rfl rfl ?_
  refine SL.nil ?_
  refine T.seq ?_
  refine T.region ?_
  refine SL.y (op_move rfl) rfl rfl ?_
  -- op
  refine SL.x (op_callF en15 (vs := [_, _]) rfl (aw_few (hT8.mono hX9) (hM.mono hX9))) rfl rfl ?_
  rintro _ _ X10 ⟨rfl, hX10, rfl⟩
  refine SL.y (op_move rfl) rfl rfl ?_
  refine SL.y (op_extract rfl rfl) rfl rfl ?_
  refine SL.y (op_extract rfl rfl) rfl rfl ?_
  refine SL.y (op_assign rfl) rfl rfl ?_
  refine SL.y (op_assign rfl) rfl rfl ?_
  refine SL.nil ?_
  refine T.seq ?_
  refine T.seq ?_
  refine T.region ?_
  refine SL.y (op_move rfl) rfl rfl ?_
  first | refine SL.y (op_neqT rfl rfl (by omega)) rfl rfl ?_ | refine SL.y (op_neqF rfl rfl (by omega)) rfl rfl ?_ | refine SL.y (op_neq rfl rfl) rfl rfl ?_
  refine SL.y (op_move rfl) rfl rfl ?_
  first | refine SL.skip rfl rfl ?_ | refine SL.y (op_move rfl) rfl rfl ?_
  first | refine SL.skip rfl rfl ?_ | refine SL.y (op_neqT rfl rfl (by omega)) rfl rfl ?_ | refine SL.y (op_neqF rfl rfl (by omega)) rfl rfl ?_ | refine SL.y (op_neq rfl rfl) rfl rfl ?_
  first | refine SL.y (op_pickT rfl rfl) rfl rfl ?_ | refine SL.y (op_pickF rfl rfl) rfl rfl ?_ | refine SL.y (op_pickB rfl rfl rfl) rfl rfl ?_
  refine SL.y (op_move rfl) rfl rfl ?_
  first | refine SL.skip rfl rfl ?_ | refine SL.y (op_move rfl) rfl rfl ?_
  -- op
  refine SL.x (op_callF en16 (vs := [_]) rfl (aw_len (hL.mono hX10))) rfl rfl ?_
  rintro _ _ X11 ⟨rfl, hX11, rfl⟩
  first | refine SL.skip rfl rfl ?_ | refine SL.y (op_neqT rfl rfl (by omega)) rfl rfl ?_ | refine SL.y (op_neqF rfl rfl (by omega)) rfl rfl ?_ | refine SL.y (op_neq rfl rfl) rfl rfl ?_
  first | refine SL.y (op_pickT rfl rfl) rfl rfl ?_ | refine SL.y (op_pickF rfl rfl) rfl rfl ?_ | refine SL.y (op_pickB rfl rfl rfl) rfl rfl ?_
  refine SL.nil ?_
  refine T.condF rfl ?_
  refine T.skip ?_
  refine T.seq ?_
  refine T.region ?_
  refine SL.y (op_move rfl) rfl rfl ?_
  -- op
  refine SL.x (op_callF en25 (vs := [_, _]) rfl (aw_at ((hL.mono hX10).mono hX11))) rfl rfl ?_
  rintro _ _ X12 ⟨rfl, hX12, x, y, rfl, hSx, hSy⟩
  obtain ⟨Ax, lx, cx, hxe⟩ := hSx.form
  obtain ⟨Ay, ly, cy, hye⟩ := hSy.form
  obtain rfl : x = .slice Ax lx cx := by simpa using hxe
  obtain rfl : y = .slice Ay ly cy := by simpa using hye
  have hT12 := (((hT8.mono hX9).mono hX10).mono hX11).mono hX12
  have hL12 := ((hL.mono hX10).mono hX11).mono hX12
  refine SL.y (op_move rfl) rfl rfl ?_
  refine SL.y (op_extract rfl rfl) rfl rfl ?_
  refine SL.y (op_extract rfl rfl) rfl rfl ?_
  refine SL.x (op_alloc z49) rfl rfl ?_
  rintro _ _ _ ⟨B6, rfl, rfl, rfl⟩
  refine SL.x (op_store ty49 rfl rfl (by repeat (first | exact AtO.here | apply AtO.there)) rfl rfl rfl) rfl rfl ?_
  rintro _ _ _ ⟨rfl, rfl⟩
  refine SL.y (op_assign rfl) rfl rfl ?_
  refine SL.nil ?_
  refine T.seq ?_
  refine T.region ?_
  refine SL.y (op_move rfl) rfl rfl ?_
  -- op
  refine SL.x (op_callF en17 (vs := [_, _, _]) rfl (aw_join hL12)) rfl rfl ?_
  rintro _ _ X13 ⟨rfl, hX13, rfl⟩
  refine SL.y (op_move rfl) rfl rfl ?_
  refine SL.y (op_extract rfl rfl) rfl rfl ?_
  refine SL.y (op_extract rfl rfl) rfl rfl ?_
  refine SL.y (op_assign rfl) rfl rfl ?_
  refine SL.y (op_assign rfl) rfl rfl ?_
  refine SL.nil ?_
  refine T.seq ?_
  refine T.region ?_
  refine SL.y (op_move rfl) rfl rfl ?_
  -- op
  refine SL.x (op_callF en18 (vs := [_, _, _]) rfl (aw_meet (hT12.mono hX13) (hL12.mono hX13))) rfl rfl ?_
  rintro _ _ X14 ⟨rfl, hX14, rfl⟩
  refine SL.y (op_move rfl) rfl rfl ?_
  refine SL.y (op_extract rfl rfl) rfl rfl ?_
  refine SL.y (op_extract rfl rfl) rfl rfl ?_
  refine SL.y (op_assign rfl) rfl rfl ?_
  refine SL.y (op_assign rfl) rfl rfl ?_
  refine SL.nil ?_
  refine T.seq ?_
  refine T.region ?_
  refine SL.y (op_move rfl) rfl rfl ?_
  -- op
  refine SL.x (op_callF en41 (vs := [_, _]) rfl (aw_row ((hL12.mono hX13).mono hX14))) rfl rfl ?_
  rintro _ _ X15 ⟨rfl, hX15, rfl⟩
  have hX125 := (hX13.trans' hX14).trans' hX15
  refine SL.y (op_move rfl) rfl rfl ?_
  refine SL.y (op_extract rfl rfl) rfl rfl ?_
  refine SL.y (op_extract rfl rfl) rfl rfl ?_
  refine SL.y (op_assign rfl) rfl rfl ?_
  refine SL.y (op_assign rfl) rfl rfl ?_
  refine SL.nil ?_
  refine T.seq ?_
  refine T.region ?_
  refine SL.y (op_move rfl) rfl rfl ?_
  refine SL.y (op_move rfl) rfl rfl ?_
  first | refine SL.skip rfl rfl ?_ | refine SL.y (op_move rfl) rfl rfl ?_
  first | refine SL.y (op_pickT rfl rfl) rfl rfl ?_ | refine SL.y (op_pickF rfl rfl) rfl rfl ?_ | refine SL.y (op_pickB rfl rfl rfl) rfl rfl ?_
  refine SL.y (op_move rfl) rfl rfl ?_
  first | refine SL.skip rfl rfl ?_ | refine SL.y (op_move rfl) rfl rfl ?_
  first | refine SL.y (op_pickT rfl rfl) rfl rfl ?_ | refine SL.y (op_pickF rfl rfl) rfl rfl ?_ | refine SL.y (op_pickB rfl rfl rfl) rfl rfl ?_
  refine SL.y (op_move rfl) rfl rfl ?_
  first | refine SL.skip rfl rfl ?_ | refine SL.y (op_move rfl) rfl rfl ?_
  first | refine SL.y (op_pickT rfl rfl) rfl rfl ?_ | refine SL.y (op_pickF rfl rfl) rfl rfl ?_ | refine SL.y (op_pickB rfl rfl rfl) rfl rfl ?_
  refine SL.y (op_move rfl) rfl rfl ?_
  first | refine SL.skip rfl rfl ?_ | refine SL.y (op_fieldAddr fa49_1 rfl) rfl rfl ?_
  first | refine SL.skip rfl rfl ?_ | refine SL.y (op_load ty47 rfl (by repeat (first | exact AtO.here | apply AtO.there)) rfl) rfl rfl ?_ | refine SL.y (op_loadX ty47 rfl (by assumption) rfl) rfl rfl ?_
  -- op
  refine SL.x (op_callF en54 (vs := [_]) rfl (aw_text (hT12.mono hX125) (hSy.mono hX125))) rfl rfl ?_
  rintro _ _ X16 ⟨rfl, hX16, rfl⟩
  refine SL.y (op_eqlStrT Tryd.underlying9 rfl rfl) rfl rfl ?_
  first | refine SL.y (op_pickT rfl rfl) rfl rfl ?_ | refine SL.y (op_pickF rfl rfl) rfl rfl ?_ | refine SL.y (op_pickB rfl rfl rfl) rfl rfl ?_
  refine SL.y (op_move rfl) rfl rfl ?_
  first | refine SL.skip rfl rfl ?_ | refine SL.y (op_fieldAddr fa49_0 rfl) rfl rfl ?_
  first | refine SL.skip rfl rfl ?_ | refine SL.y (op_load ty47 rfl (by repeat (first | exact AtO.here | apply AtO.there)) rfl) rfl rfl ?_ | refine SL.y (op_loadX ty47 rfl (by assumption) rfl) rfl rfl ?_
  -- op
  refine SL.x (op_callF en54 (vs := [_]) rfl (aw_text ((hT12.mono hX125).mono hX16) ((hSx.mono hX125).mono hX16))) rfl rfl ?_
  rintro _ _ X17 ⟨rfl, hX17, rfl⟩
  refine SL.y (op_eqlStrT Tryd.underlying9 rfl rfl) rfl rfl ?_
  first | refine SL.y (op_pickT rfl rfl) rfl rfl ?_ | refine SL.y (op_pickF rfl rfl) rfl rfl ?_ | refine SL.y (op_pickB rfl rfl rfl) rfl rfl ?_
  refine SL.y (op_move rfl) rfl rfl ?_
  first | refine SL.skip rfl rfl ?_ | refine SL.y (op_move rfl) rfl rfl ?_
  first | refine SL.skip rfl rfl ?_ | refine SL.y (op_eqlT rfl rfl (by omega)) rfl rfl ?_ | refine SL.y (op_eqlF rfl rfl (by omega)) rfl rfl ?_ | refine SL.y (op_eql rfl rfl) rfl rfl ?_
  first | refine SL.y (op_pickT rfl rfl) rfl rfl ?_ | refine SL.y (op_pickF rfl rfl) rfl rfl ?_ | refine SL.y (op_pickB rfl rfl rfl) rfl rfl ?_
  refine SL.y (op_move rfl) rfl rfl ?_
  first | refine SL.skip rfl rfl ?_ | refine SL.y (op_move rfl) rfl rfl ?_
  first | refine SL.skip rfl rfl ?_ | refine SL.y (op_eqlT rfl rfl (by omega)) rfl rfl ?_ | refine SL.y (op_eqlF rfl rfl (by omega)) rfl rfl ?_ | refine SL.y (op_eql rfl rfl) rfl rfl ?_
  first | refine SL.y (op_pickT rfl rfl) rfl rfl ?_ | refine SL.y (op_pickF rfl rfl) rfl rfl ?_ | refine SL.y (op_pickB rfl rfl rfl) rfl rfl ?_
  refine SL.y (op_move rfl) rfl rfl ?_
  first | refine SL.skip rfl rfl ?_ | refine SL.y (op_move rfl) rfl rfl ?_
  first | refine SL.skip rfl rfl ?_ | refine SL.y (op_eqlT rfl rfl (by omega)) rfl rfl ?_ | refine SL.y (op_eqlF rfl rfl (by omega)) rfl rfl ?_ | refine SL.y (op_eql rfl rfl) rfl rfl ?_
  first | refine SL.y (op_pickT rfl rfl) rfl rfl ?_ | refine SL.y (op_pickF rfl rfl) rfl rfl ?_ | refine SL.y (op_pickB rfl rfl rfl) rfl rfl ?_
  refine SL.y (op_move rfl) rfl rfl ?_
  first | refine SL.skip rfl rfl ?_ | refine SL.y (op_move rfl) rfl rfl ?_
  -- op
  refine SL.x (op_callF en27 (vs := [_]) rfl (aw_covers (((hL12.mono hX125).mono hX16).mono hX17))) rfl rfl ?_
  rintro s18 _ X18 ⟨rfl, hX18, hC⟩
  first | refine SL.skip rfl rfl ?_ | refine SL.y (op_buildA (size := 1) Tryd.underlying57 z57 (by kernel_rfl) (qs := [(0, _), (1, _)]) rfl rfl rfl) rfl rfl ?_
  first | refine SL.skip rfl rfl ?_ | refine SL.y (op_buildA (size := 1) Tryd.underlying57 z57 (by kernel_rfl) (qs := [(0, _), (1, _)]) rfl rfl rfl) rfl rfl ?_
  first | refine SL.skip rfl rfl ?_ | refine SL.y (op_buildA (size := 1) Tryd.underlying57 z57 (by kernel_rfl) (qs := [(0, _), (1, _)]) rfl rfl rfl) rfl rfl ?_
  first | refine SL.skip rfl rfl ?_ | refine SL.y (op_buildA (size := 1) Tryd.underlying57 z57 (by kernel_rfl) (qs := [(0, _), (1, _)]) rfl rfl rfl) rfl rfl ?_
  refine SL.x (op_buildSlice Tryd.underlying54 bs57 (qs := [(0, _), (1, _), (2, _), (3, _)]) rfl rfl rfl rfl rfl) rfl rfl ?_
  rintro _ _ _ ⟨B109, rfl, rfl, rfl⟩
  -- op
  refine T.pubAt B109 (by repeat (first | exact AtO.here | apply AtO.there)) ?_
  intro X19 hX19 hB19 _
  refine SL.x (op_callF en28 (vs := [_, _]) rfl (eqPairs_spec (l := [(1, 0), (2, 0), (3, 1), (3, 2)]) (l' := [(1, 0), (2, 0), (3, 1), (3, 2)]) (hC.mono hX19) (hB19.slice (by decide)) (by decide))) rfl rfl ?_
  rintro _ _ X20 ⟨rfl, hX20, rfl⟩
  first | refine SL.y (op_pickT rfl rfl) rfl rfl ?_ | refine SL.y (op_pickF rfl rfl) rfl rfl ?_ | refine SL.y (op_pickB rfl rfl rfl) rfl rfl ?_
  refine SL.y (op_assign rfl) rfl rfl ?_
  refine SL.nil ?_
  -- ret
  refine T.ret1 rfl (ResIs.tmp rfl) ?_
  rfl
end Go.Proofs.YtoheffglppbcbaaDoor
