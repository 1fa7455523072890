/- THE MATRIX, ITS LATTICE, AND THE REFERENCE's CONCEPTS (arbaclaw46.Make). -/
import Derived.Test.YtoheffglppbcbaaDoorSem3
import Derived.Test.YtoheffglppbcbaaDoorRef6
namespace Go.Proofs.YtoheffglppbcbaaDoor
section
set_option maxRecDepth 100000
theorem en15 : Enters Tryd.prog 15 := enters_mk Tryd.func15 (by kernel_rfl) rfl
theorem en55 : Enters Tryd.prog 55 := enters_mk Tryd.func55 (by kernel_rfl) rfl
theorem en56 : Enters Tryd.prog 56 := enters_mk Tryd.func56 (by kernel_rfl) rfl
theorem en57 : Enters Tryd.prog 57 := enters_mk Tryd.func57 (by kernel_rfl) rfl
theorem ty24 : Ty Tryd.prog 24 true 3 := ⟨⟨_, Tryd.underlying24, rfl⟩, by kernel_rfl⟩
end
open Go.RowKit
theorem rawBits_lt (bs : List Nat) (c i n : Nat) : rawBits bs c i n < 2 ^ n := lt_pow_of_bits fun j hj => by
  rw [rawBits_testBit] at hj
  simp at hj
  exact hj.1
theorem rawRows_lt (bs : List Nat) (r c : Nat) : ∀ m ∈ rawRows bs r c, m < 2 ^ c := fun m hm => by
  simp only [rawRows, List.mem_map] at hm
  obtain ⟨q, _, rfl⟩ := hm
  exact rawBits_lt bs c q c
theorem rawRows_len (bs : List Nat) (r c : Nat) : (rawRows bs r c).length = r := by simp [rawRows]
theorem conOf_allC {c : Nat} {ms : List Nat} (hr : ms.length ≤ 64) (hc : c < 64) : (allC c ms).map (conOf c ms) = allR c ms := by
  rw [allR, conL]
  refine List.map_congr_left fun a ha => ?_
  rw [conOf, (mem_allC hr hc a).1 ha]
/-- The lattice of a small matrix. -/
theorem lnewA_spec {X : PMap} (hT : Tab X) {v : Value} {c : Nat} {ms : List Nat} (h : MatR X v c ms) (_hc : c < 6) (most : Nat) (h1 : 1 ≤ most) (h2 : most < 2147483648) : Spec Tryd.prog 15 [v, .int .i64 (most : Int)] X fun u X' =>
    if (allR c ms).length ≤ most then ∃ w, u = .tuple #[w, .int .i64 0] ∧ LatR X' w c ms (allR c ms) else u = .tuple #[.pointer none, .int .i64 3] := by
  obtain ⟨hr, _⟩ := h.lens
  refine (lnew_spec hT h most h1 h2).mono fun v X' _ hv => ?_
  rw [gen_allC (by omega) (by omega)] at hv
  rw [allR, conL_length]
  split at hv
  · rename_i hle
    rw [if_pos hle]
    obtain ⟨w, h3, h4⟩ := hv
    exact ⟨w, h3, by rw [conOf_allC (by omega) (by omega)] at h4; exact h4⟩
  · rename_i hle
    rw [if_neg hle]
    exact hv
theorem allR_len {c : Nat} {ms : List Nat} (hr : ms.length < 64) (hc : c < 6) : (allR c ms).length ≤ 32 := by
  obtain ⟨h1, h2, _⟩ := allR_small (ms := ms) hr hc
  omega
theorem make_spec {X : PMap} (hT : Tab X) {s : Value} {bs : List Nat} (R C : Nat) (hR : R < 256) (hC : C < 256) (h : BytesR X s bs) : Spec Tryd.prog 14 [.agg #[.int .u8 (R : Int), .int .u8 (C : Int), s]] X fun u X' =>
    ∃ pm lat t, u = .tuple #[pm, lat, t] ∧ MatR X' pm (C % 6) (rawRows bs (R % 6) (C % 6)) ∧ LatR X' lat (C % 6) (rawRows bs (R % 6) (C % 6)) (allR (C % 6) (rawRows bs (R % 6) (C % 6))) ∧ ConT X' t (allR (C % 6) (rawRows bs (R % 6) (C % 6))) := by
  obtain ⟨A, cp, rfl⟩ := h.form
  have hr6 : R % 6 < 6 := Nat.mod_lt _ (by omega)
  have hc6 : C % 6 < 6 := Nat.mod_lt _ (by omega)
  have hlen := rawRows_len bs (R % 6) (C % 6)
  have hms := rawRows_lt bs (R % 6) (C % 6)
  have hmk := fun (X : PMap) (h : BytesR X (.slice A bs.length cp) bs) => make44_spec (X := X) R C hR hC h
  generalize rawRows bs (R % 6) (C % 6) = ms at *
  generalize C % 6 = c at *
  have hal := allR_len (c := c) (ms := ms) (by omega) hc6
  refine Spec.enter Tryd.func14 rfl Tryd.ntmps14 rfl ?_
  intro w0 hw0
  refine T.seq ?_
  refine T.region ?_
  refine SL.x (op_box rfl) rfl rfl ?_
  rintro _ _ _ ⟨B1, rfl, rfl, rfl⟩
  refine SL.y (op_assign rfl) rfl rfl ?_
  refine SL.y (op_assign rfl) rfl rfl ?_
  refine SL.y (op_assign rfl) rfl rfl ?_
  refine SL.nil ?_
  refine T.seq ?_
  refine T.region ?_
  first | refine SL.y (op_load ty24 rfl (by repeat (first | exact AtO.here | apply AtO.there)) rfl) rfl rfl ?_ | refine SL.y (op_loadX ty24 rfl (by assumption) rfl) rfl rfl ?_
  -- op
  refine SL.x (op_callF en55 (vs := [_]) rfl (hmk _ h)) rfl rfl ?_
  rintro v1 _ X1 ⟨rfl, hX1, hM1⟩
  obtain ⟨s1, cs1, rfl, hS1, _⟩ := id hM1
  obtain ⟨As1, cp1, rfl⟩ := hS1.form
  refine SL.x (op_alloc z91) rfl rfl ?_
  rintro _ _ _ ⟨B5, rfl, rfl, rfl⟩
  refine SL.x (op_store ty91 rfl rfl (by repeat (first | exact AtO.here | apply AtO.there)) rfl rfl rfl) rfl rfl ?_
  rintro _ _ _ ⟨rfl, rfl⟩
  refine SL.nil ?_
  refine T.seq ?_
  refine T.region ?_
  first | refine SL.y (op_load ty91 rfl (by repeat (first | exact AtO.here | apply AtO.there)) rfl) rfl rfl ?_ | refine SL.y (op_loadX ty91 rfl (by assumption) rfl) rfl rfl ?_
  -- op
  refine SL.x (op_callF en56 (vs := [_]) rfl (matrix44_spec hM1 (by omega) (by omega) hms)) rfl rfl ?_
  rintro _ _ X2 ⟨rfl, hX2, hM2⟩
  obtain ⟨bm, rfl⟩ := hM2.ptr
  refine SL.y (op_assign rfl) rfl rfl ?_
  refine SL.nil ?_
  refine T.seq ?_
  refine T.seq ?_
  refine T.region ?_
  refine SL.y (op_move rfl) rfl rfl ?_
  refine SL.y (op_eqlNil Tryd.underlying27 rfl rfl) rfl rfl ?_
  refine SL.nil ?_
  refine T.condF rfl ?_
  refine T.skip ?_
  refine T.seq ?_
  refine T.region ?_
  refine SL.y (op_move rfl) rfl rfl ?_
  -- op
  refine SL.x (op_callF en15 (vs := [_, _]) rfl (lnewA_spec ((hT.mono hX1).mono hX2) hM2 hc6 40 (by omega) (by omega))) rfl rfl ?_
  rintro u3 _ X3 ⟨rfl, hX3, hL3⟩
  rw [if_pos (by omega)] at hL3
  obtain ⟨w, rfl, hL3⟩ := hL3
  refine SL.y (op_move rfl) rfl rfl ?_
  refine SL.y (op_extract rfl rfl) rfl rfl ?_
  refine SL.y (op_extract rfl rfl) rfl rfl ?_
  refine SL.y (op_assign rfl) rfl rfl ?_
  refine SL.y (op_assign rfl) rfl rfl ?_
  refine SL.nil ?_
  refine T.seq ?_
  refine T.seq ?_
  refine T.region ?_
  refine SL.y (op_move rfl) rfl rfl ?_
  first | refine SL.y (op_neqT rfl rfl (by omega)) rfl rfl ?_ | refine SL.y (op_neqF rfl rfl (by omega)) rfl rfl ?_ | refine SL.y (op_neq rfl rfl) rfl rfl ?_
  refine SL.nil ?_
  refine T.condF rfl ?_
  refine T.skip ?_
  refine T.seq ?_
  refine T.region ?_
  refine SL.y (op_move rfl) rfl rfl ?_
  refine SL.y (op_move rfl) rfl rfl ?_
  first | refine SL.y (op_load ty91 rfl (by repeat (first | exact AtO.here | apply AtO.there)) rfl) rfl rfl ?_ | refine SL.y (op_loadX ty91 rfl (by assumption) rfl) rfl rfl ?_
  -- op
  refine SL.x (op_callF en57 (vs := [_]) rfl (all46_spec ((hM1.mono hX2).mono hX3) (by omega) hc6)) rfl rfl ?_
  rintro t4 _ X4 ⟨rfl, hX4, hT4⟩
  refine SL.y (op_assign rfl) rfl rfl ?_
  refine SL.y (op_assign rfl) rfl rfl ?_
  refine SL.y (op_assign rfl) rfl rfl ?_
  refine SL.nil ?_
  -- ret
  refine T.ret3 rfl rfl rfl rfl ?_
  exact ⟨_, _, _, rfl, (hM2.mono hX3).mono hX4, hL3.mono hX4, hT4⟩
end Go.Proofs.YtoheffglppbcbaaDoor
