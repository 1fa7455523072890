/- What the law's proof rests on: the engine, a small separation logic over the kit's walk, and contracts of the functions that the law reaches. Part 4. -/
import Derived.LaidEqlPtr
import Derived.Laws.Externs
import Derived.MapKept
import Derived.Laws.IdiomStrings
import Derived.Lib.Bytealg
import Derived.Test.YtmfiencoefbjfaaGreatDoorPart1
import Derived.Test.YtmfiencoefbjfaaGreatDoorPart2
import Derived.Test.YtmfiencoefbjfaaGreatDoorPart3
namespace Go.Proofs.YtmfiencoefbjfaaGreatDoor
section
set_option maxRecDepth 100000
theorem en23 : Enters Tryz.prog 23 := enters_mk Tryz.func23 (by kernel_rfl) rfl
theorem en24 : Enters Tryz.prog 24 := enters_mk Tryz.func24 (by kernel_rfl) rfl
theorem en26 : Enters Tryz.prog 26 := enters_mk Tryz.func26 (by kernel_rfl) rfl
theorem en28 : Enters Tryz.prog 28 := enters_mk Tryz.func28 (by kernel_rfl) rfl
theorem z36 : Zero Tryz.prog 36 [.int .i64 0, .slice none 0 0] := ⟨zero_of (by kernel_rfl)⟩
theorem st36 : StT Tryz.prog 36 [(0, 1), (1, 1)] [.int .i64 0, .slice none 0 0] := ⟨⟨_, Tryz.underlying36, fun _ => by kernel_rfl, z36⟩⟩
theorem z77 : Zero Tryz.prog 77 [.pointer none, .slice none 0 0, .int .i64 0] := ⟨zero_of (by kernel_rfl)⟩
theorem st77 : StT Tryz.prog 77 [(0, 1), (1, 1), (2, 1)] [.pointer none, .slice none 0 0, .int .i64 0] := ⟨⟨_, Tryz.underlying77, fun _ => by kernel_rfl, z77⟩⟩
theorem z83 : Zero Tryz.prog 83 [.pointer none, .slice none 0 0] := ⟨zero_of (by kernel_rfl)⟩
theorem st83 : StT Tryz.prog 83 [(0, 1), (1, 1)] [.pointer none, .slice none 0 0] := ⟨⟨_, Tryz.underlying83, fun _ => by kernel_rfl, z83⟩⟩
theorem ty36 : Ty Tryz.prog 36 true 2 := ⟨⟨_, Tryz.underlying36, rfl⟩, by kernel_rfl⟩
theorem ty83 : Ty Tryz.prog 83 true 2 := ⟨⟨_, Tryz.underlying83, rfl⟩, by kernel_rfl⟩
end
open Go.RowKit
def nodS : Nat → Nat
  | 0 => 0
  | q + 1 => nodS q + nodT q
theorem nodS_le {a b : Nat} (h : a ≤ b) : nodS a ≤ nodS b := by
  induction h with
  | refl => exact Nat.le_refl _
  | step _ ih => simp only [nodS]; omega
theorem nodG_le {a b : Nat} (h : a ≤ b) : nodG a ≤ nodG b := by
  induction h with
  | refl => exact Nat.le_refl _
  | step _ ih => simp only [nodG]; omega
section
variable {c : Nat} {ms : List Nat} (hr : ms.length < 6) (hc : c < 6) (hms : ∀ m ∈ ms, m < 2 ^ c)
include hr hc
theorem conF_len : (conF c ms).length ≤ 32 := by
  have h1 := allR_len (c := c) (ms := ms) (by omega) hc
  exact Nat.le_trans (List.length_filter_le _ _) h1
include hms
theorem conF_srH : SrH (conF c ms) (bigF c ms) ms.length where
  few := conF_few hr hc hms
  len := by have := conF_len hr hc (ms := ms); omega
  r64 := by omega
  rows p hp i hi := bits_of_lt (conF_lt hr hc hp).1 (mem_mem64.1 hi).2
end
/-- What the fewest roles are. -/
structure MinC (c : Nat) (ms : List Nat) (ch : List (Nat × Nat)) : Prop where
  mem : ∀ p ∈ ch, p ∈ conF c ms
  covs : ∀ i j, Rel ms i j = true → ∃ p ∈ ch, p.1.testBit i = true ∧ p.2.testBit j = true
  len : ch.length ≤ ms.length
  min : ∀ b, cov (conF c ms) ms b 0 → ch.length ≤ b
theorem minimal_spec {X : PMap} (hT : Tab X) {v : Value} {c : Nat} {ms : List Nat} (h : MatR X v c ms) (hr : ms.length < 6) (hc : c < 6) (hms : ∀ m ∈ ms, m < 2 ^ c) (most : Nat) (h1 : 32 ≤ most) (h2 : most < 2147483648) :
    Spec Tryz.prog 7 [v, .int .i64 (most : Int)] X fun u X' => ∃ (wu wp : Value) (q m cp : Nat) (A : Option Addr) (ch : List (Nat × Nat)), u = .tuple #[.agg #[wu, wp], .agg #[.int .i64 (q : Int), .slice A m cp], .int .i64 0] ∧ MatR X' wu ch.length (transM ms.length (ch.map (·.1))) ∧ MatR X' wp c (ch.map (·.2)) ∧ MinC c ms ch := by
  obtain ⟨bm, rfl⟩ := h.ptr
  have H := conF_srH hr hc hms
  have hll := conF_len hr hc (ms := ms)
  have hcr := cov_rows hr hc hms
  have hS6 : nodS 6 = 85590 := by decide
  have hT4 : nodT 4 = 9361 := by decide
  have hG4 : nodG 4 = 4681 := by decide
  have hLT : (conF c ms).length * nodT 4 ≤ 32 * nodT 4 := Nat.mul_le_mul_right _ hll
  refine Spec.enter Tryz.func7 rfl Tryz.ntmps7 rfl ?_
  intro w0 hw0
  refine T.seq <| T.region <| SL.w (op_alloc z33) ?_
  rintro _ _ _ ⟨B4, rfl, rfl, rfl⟩
  refine SL.w (op_alloc z36) ?_
  rintro _ _ _ ⟨B5, rfl, rfl, rfl⟩
  refine SL.v (op_assign (v := .int .i64 ((0 : Nat) : Int)) rfl) <| SL.nil <| T.seq <| T.seq <| T.region <| SL.mv rfl <| SL.v (op_eqlNil Tryz.underlying26 rfl rfl) <| SL.mv rfl <| SL.mv rfl <| SL.v (op_lssF rfl rfl (by omega)) ?_
  refine SL.v (op_pickF rfl rfl) <| SL.nil <| T.condF rfl <| T.skip <| T.seq <| T.seq <| T.region <| SL.mv rfl <| SL.w (op_callF en22 (vs := [_]) rfl (columns_spec h)) ?_
  rintro _ _ X1 ⟨rfl, hX1, rfl⟩
  refine SL.v (op_gtrF rfl rfl (by omega)) ?_
  refine SL.nil <| T.condF rfl <| T.skip <| T.seq <| T.region <| SL.mv rfl <| SL.mv rfl <| SL.w (op_callF en23 (vs := [_, _]) rfl (concepts_spec (hT.mono hX1) (h.mono hX1) hc most h1 h2)) ?_
  rintro _ _ X2 ⟨rfl, hX2, sl, rfl, hL⟩
  obtain ⟨Al, cl, rfl⟩ := hL.form
  have hX02 := hX1.trans' hX2
  refine SL.mv rfl <| SL.v (op_extract rfl rfl) <| SL.v (op_extract rfl rfl) <| SL.as rfl <| SL.as rfl <| SL.nil <| T.seq <| T.seq <| T.region <| SL.mv rfl <| SL.v (op_neqF rfl rfl (by omega)) ?_
  refine SL.nil <| T.condF rfl <| T.skip <| T.seq <| T.region <| SL.mv rfl <| SL.mv rfl <| SL.v (op_build st77 (qs := [(0, _), (1, _)]) rfl rfl) <| SL.w (op_box rfl) ?_
  rintro _ _ _ ⟨B42, rfl, rfl, rfl⟩
  refine SL.as rfl <| SL.nil <| T.seq <| T.region <| SL.mv rfl <| SL.w (op_callF en24 (vs := [_]) rfl (oall_spec (h.mono hX02))) ?_
  rintro ov _ X3 ⟨rfl, hX3, hO⟩
  have hX03 := hX02.trans' hX3
  refine SL.as rfl <| SL.nil <| T.seq <| T.region <| SL.v (op_assign (v := .int .i64 ((0 : Nat) : Int)) rfl) <| SL.nil <| T.seq <| T.block <| T.loopW (fun m env own X' => ∃ q n : Nat, m = ms.length - q ∧ q ≤ ms.length ∧ X3.le X' ∧ n ≤ nodS q ∧ (∀ b, b < q → ¬ cov (conF c ms) ms b 0) ∧ env = [(0, .pointer (some ⟨bm, 0, none⟩)), (4, .pointer (some ⟨B4, 0, none⟩)), (5, .pointer (some ⟨B5, 0, none⟩)), (9, .pointer (some ⟨B42, 0, none⟩)), (10, ov), (11, .int .i64 (q : Int))] ∧ own = [SrO B42 (.pointer (some ⟨bm, 0, none⟩)) (.slice Al (conF c ms).length cl) n, ⟨B5, [.int .i64 0, .slice none 0 0], 36, 2⟩, ⟨B4, [.pointer none, .pointer none], 33, 2⟩]) ms.length ⟨0, 0, by simp, by omega, PMap.le_refl _, by simp [nodS], by simp, rfl, rfl⟩ (by repeat (first | exact Sub.nil | refine Sub.cons rfl ?_)) ?_
  rintro m _ _ X4 ⟨q, n, rfl, hq, hX4, hn, hno, rfl, rfl⟩
  have hX04 := hX03.trans' hX4
  have hSq : nodS (q + 1) ≤ nodS 6 := nodS_le (by omega)
  have hSe : nodS (q + 1) = nodS q + nodT q := rfl
  refine T.seq <| T.seq <| T.region <| SL.mv rfl <| SL.mv rfl <| SL.mv rfl <| SL.w (op_callJ en25 rfl (vs := [_, _, _, _]) rfl (srchC_spec H q (by omega) (n := n) (o := ms) (fr := 0) (hT.mono hX04) ((hL.mono hX3).mono hX4) (hO.mono hX4) rfl (by omega) (by omega)) (by repeat constructor)) ?_
  rintro _ _ X5 ⟨_, rfl, hX5, n2, res, rfl, rfl, hres, hn2, hn3⟩
  have hX05 := hX04.trans' hX5
  cases res with
  | false =>
    have hnc : ¬ cov (conF c ms) ms q 0 := fun hcv => by have := hres.2 hcv; cases this
    have hql : q < ms.length := by
      rcases Nat.eq_or_lt_of_le hq with rfl | h0
      · exact absurd hcr hnc
      · exact h0
    have hno' : ∀ b, b < q + 1 → ¬ cov (conF c ms) ms b 0 := fun b hb => by
      rcases Nat.eq_or_lt_of_le (Nat.le_of_lt_succ hb) with rfl | h0
      · exact hnc
      · exact hno b h0
    refine SL.v (op_not rfl) <| SL.mv rfl <| SL.mv rfl <| SL.v (op_nil rfl) <| SL.v (op_fieldAddr fa77_2 rfl) <| SL.v (op_load ty3 rfl (by repeat constructor) rfl) ?_
    refine SL.v (op_leqT rfl rfl (by omega)) ?_
    refine SL.v (op_pickT rfl rfl) <| SL.nil <| T.condT rfl <| T.skip <| T.block <| T.region <| SL.mv rfl <| SL.v (op_addN (q := 1) rfl rfl (by omega)) ?_
    refine SL.as rfl <| SL.nil <| T.blk ?_
    exact T.backW (ms.length - (q + 1)) (by omega) ⟨q + 1, n2, rfl, by omega, hX4.trans' hX5, by omega, hno', rfl, rfl⟩ (by repeat (first | exact Sub.nil | refine Sub.cons rfl ?_))
  | true =>
    have hcv := hres.1 rfl
    have hmin : ∀ b, cov (conF c ms) ms b 0 → q ≤ b := fun b hb => by
      rcases Nat.lt_or_ge b q with h0 | h0
      · exact absurd hb (hno b h0)
      · exact h0
    refine SL.v (op_not rfl) <| SL.mv rfl <| SL.skip rfl rfl ?_
    refine SL.skip rfl rfl ?_
    refine SL.skip rfl rfl ?_
    refine SL.skip rfl rfl ?_
    refine SL.skip rfl rfl ?_
    refine SL.v (op_pickF rfl rfl) <| SL.nil <| T.condF rfl ?_
    refine T.exit (T.exitCode (T.exitCut (T.exitBlk ?_)))
    refine T.seq <| T.region <| SL.mv rfl <| SL.mv rfl <| SL.mv rfl <| SL.w (op_callJ en26 rfl (vs := [_, _, _]) rfl (leastC_spec H q (by omega) (n := n2) (o := ms) (hT.mono hX05) (((hL.mono hX3).mono hX4).mono hX5) ((hO.mono hX4).mono hX5) rfl hcv (by omega)) (by repeat constructor)) ?_
    rintro _ _ X6 ⟨_, rfl, hX6, n3, ch, rfl, hCh, hch, hcl, hcc, hn4⟩
    have hX06 := hX05.trans' hX6
    obtain ⟨Ac, cc, rfl⟩ := hCh.form
    refine SL.as rfl <| SL.nil <| T.seq <| T.region <| SL.mv rfl <| SL.v (op_build st83 (qs := [(0, _)]) rfl rfl) <| SL.w (op_alloc z83) ?_
    rintro _ _ _ ⟨B13, rfl, rfl, rfl⟩
    refine SL.w (op_store ty83 rfl rfl (by repeat constructor) rfl rfl rfl) ?_
    rintro _ _ _ ⟨rfl, rfl⟩
    refine SL.nil <| T.seq <| T.meet (fun _ env own X' => X6.le X' ∧ (∃ (n5 m5 : Nat) (A5 : Option Addr) (c5 : Nat), n5 ≤ 1000000 ∧ m5 ≤ 5000 ∧ env = [(0, .pointer (some ⟨bm, 0, none⟩)), (4, .pointer (some ⟨B4, 0, none⟩)), (5, .pointer (some ⟨B5, 0, none⟩)), (9, .pointer (some ⟨B42, 0, none⟩)), (11, .int .i64 (q : Int)), (12, .slice Ac ch.length cc), (13, .pointer (some ⟨B13, 0, none⟩))] ∧ own = [PfO B13 B42 (.slice A5 m5 c5), SrO B42 (.pointer (some ⟨bm, 0, none⟩)) (.slice Al (conF c ms).length cl) n5, ⟨B5, [.int .i64 0, .slice none 0 0], 36, 2⟩, ⟨B4, [.pointer none, .pointer none], 33, 2⟩])) ?_ ?_
    · rcases Nat.eq_zero_or_pos q with h0 | h0
      · skip
        refine T.seq <| T.region <| SL.mv rfl <| SL.v (op_gtrF rfl rfl (by omega)) ?_
        refine SL.nil <| T.condF rfl <| T.region <| SL.v (op_build st88 (qs := [(0, _)]) rfl rfl) <| SL.w (op_buildSlice Tryz.underlying34 bs88 (qs := [(0, _)]) rfl rfl rfl rfl rfl) ?_
        rintro _ _ _ ⟨B72, rfl, rfl, rfl⟩
        refine SL.v (op_fieldAddr fa83_1 rfl) <| SL.w (op_store ty34 rfl rfl (by repeat constructor) rfl rfl rfl) ?_
        rintro _ _ _ ⟨rfl, rfl⟩
        refine SL.nil <| T.drop B72 (by repeat constructor) ?_
        exact T.backW 0 (by omega) ⟨PMap.le_refl _, ⟨n3, 1, _, _, by omega, by omega, rfl, rfl⟩⟩ (by repeat (first | exact Sub.nil | refine Sub.cons rfl ?_))
      · obtain ⟨q1, rfl⟩ : ∃ q1, q = q1 + 1 := ⟨q - 1, by omega⟩
        have hg := nodG_le (show q1 ≤ 4 by omega)
        refine T.seq <| T.region <| SL.mv rfl <| SL.v (op_gtrT rfl rfl (by omega)) ?_
        refine SL.nil <| T.condT rfl <| T.region <| SL.mv rfl <| SL.mv rfl <| SL.v (op_subN (q := 1) rfl rfl (by omega) (by omega)) ?_
        refine SL.w (op_callM en27 (vs := [_, _, _]) rfl ((grow_spec H q1 (by omega) (n := n3) (m := 0) (cs := []) (G := []) (hT.mono hX06) (h.mono hX06) ((((hL.mono hX3).mono hX4).mono hX5).mono hX6) (((hO.mono hX4).mono hX5).mono hX6) rfl (hno q1 (by omega)) (by omega) (by omega) GrowS.nil)) rfl) ?_
        rintro _ _ X7 ⟨_, rfl, hX7, sv5, n5, m5, ex5, G5, rfl, hG5, hn5, hn6, hm5, hm6⟩
        obtain ⟨A5, c5, rfl⟩ := hG5.form
        refine SL.perm permSP ?_
        refine T.pubGAt (own0 := [_, _, _, _]) hG5 ?_
        intro X8 hX8 _
        refine SL.nil ?_
        exact T.backW 0 (by omega) ⟨hX7.trans' hX8, ⟨n5, m5, _, _, by omega, by omega, rfl, rfl⟩⟩ (by repeat (first | exact Sub.nil | refine Sub.cons rfl ?_))
    rintro _ _ _ X9 ⟨hX9, ⟨n5, m5, A5, c5, hn5, hm5, rfl, rfl⟩⟩
    have hX09 := hX06.trans' hX9
    refine T.seq <| T.seq <| T.region <| SL.mv rfl <| SL.v (op_nil rfl) <| SL.v (op_fieldAddr fa77_2 rfl) <| SL.v (op_load ty3 rfl (by repeat constructor) rfl) ?_
    refine SL.v (op_gtrF rfl rfl (by omega)) ?_
    refine SL.mv rfl <| SL.v (op_fieldAddr fa83_1 rfl) <| SL.v (op_load ty34 rfl (by repeat constructor) rfl) ?_
    refine SL.v (op_lenS Tryz.underlying34 rfl) <| SL.v (op_gtrF rfl rfl (by omega)) ?_
    refine SL.v (op_pickF rfl rfl) <| SL.nil <| T.condF rfl <| T.skip <| T.seq <| T.region <| SL.mv rfl <| SL.w (op_callF en11 (vs := [_]) rfl (rows_spec (h.mono hX09))) ?_
    rintro _ _ X10 ⟨rfl, hX10, rfl⟩
    refine SL.mv rfl <| SL.w (op_callF en22 (vs := [_]) rfl (columns_spec ((h.mono hX09).mono hX10))) ?_
    rintro _ _ X11 ⟨rfl, hX11, rfl⟩
    refine SL.mv rfl <| SL.w (op_callF en28 (vs := [_, _, _]) rfl (build_spec ms.length c (((hCh.mono hX9).mono hX10).mono hX11) (by omega) (by omega) (by omega) (fun p hp => conF_lt hr hc (hch p hp)))) ?_
    rintro _ _ X12 ⟨rfl, hX12, wu, wp, rfl, hMu, hMp⟩
    obtain ⟨bu, rfl⟩ := hMu.ptr
    obtain ⟨bp, rfl⟩ := hMp.ptr
    refine SL.mv rfl <| SL.v (op_extract rfl rfl) <| SL.v (op_extract rfl rfl) <| SL.w (op_alloc z33) ?_
    rintro _ _ _ ⟨B14, rfl, rfl, rfl⟩
    refine SL.w (op_store ty33 rfl rfl (by repeat constructor) rfl rfl rfl) ?_
    rintro _ _ _ ⟨rfl, rfl⟩
    refine SL.as rfl <| SL.nil <| T.seq <| T.seq <| T.region <| SL.mv rfl <| SL.v (op_neqF rfl rfl (by omega)) ?_
    refine SL.nil <| T.condF rfl <| T.skip <| T.seq <| T.drawG (own0 := [_, _, _, _]) (by kernel_rfl) 6 [.t 0, .t 1, .t 2, .t 3, .t 4, .r 5] (by kernel_rfl) ?_
    refine SD.take rfl panicBody (op_load ty33 rfl (by repeat constructor) rfl) rfl rfl ?_
    refine SD.take rfl panicBody (op_move rfl) rfl rfl ?_
    refine SD.take rfl panicBody (op_fieldAddr fa83_1 rfl) rfl rfl ?_
    refine SD.take rfl panicBody (op_load ty34 rfl (by repeat constructor) rfl) rfl rfl ?_
    refine SD.take rfl panicBody (op_build st36 (qs := [(0, _), (1, _)]) rfl rfl) rfl rfl ?_
    refine SD.runK rfl (op_store ty33 rfl rfl (AtO.there (AtO.there (AtO.there (AtO.there AtO.here)))) rfl rfl rfl) (by rintro _ _ _ ⟨rfl, rfl⟩; exact ⟨fun p hp => (List.mem_append_left _ hp : p ∈ [_, _, _, _] ++ [_]), PMap.le_refl _⟩) rfl rfl ?_
    rintro _ _ _ ⟨rfl, rfl⟩
    refine SD.nil ?_
    show SL _ _ _ _ _ _ _ [_, _] _ _ _
    refine SL.w (op_store ty36 rfl rfl (by repeat constructor) rfl rfl rfl) ?_
    rintro _ _ _ ⟨rfl, rfl⟩
    refine SL.v (op_assign (v := .int .i64 ((0 : Nat) : Int)) rfl) <| SL.nil <| T.retA3 rfl (ResIs.cell rfl ty33 (by repeat constructor) rfl) (ResIs.cell rfl ty36 (by repeat constructor) rfl) (ResIs.tmp rfl) ?_
    exact ⟨_, _, q, m5, c5, A5, ch, rfl, hMu, hMp, hch, hcc, by omega, fun b hb => Nat.le_trans hcl (hmin b hb)⟩
end Go.Proofs.YtmfiencoefbjfaaGreatDoor
namespace Go.Proofs.YtmfiencoefbjfaaGreatDoor
open Go.RowKit
/-- Block b is a block of cells that is not frozen. -/
def Unf (X : PMap) (b : Nat) : Prop := ∃ (cs : Array Value) (ty : TypeId), X b = some (.cells cs ty (0, 0))
theorem Unf.mono {X X' : PMap} {b : Nat} (h : Unf X b) (hX : X.le X') : Unf X' b := let ⟨cs, ty, h1⟩ := h; ⟨cs, ty, hX _ _ h1⟩
section
variable {ro : Option Nat} {P : Program} {n : NM} {w0 : Base} {X0 X : PMap} {own : Own} {env : Env} {Q : Exit → Act → World → Prop}
theorem Sat.unf {W : World} {X' : PMap} {b sz j : Nat} {cs : List Value} {ty : TypeId} (hs : Sat w0 X0 own X W) (hj : AtO own b cs ty sz j) (hB : Blk X' b cs) (hp : PIn X' W) : Unf X' b := by
  obtain ⟨r, hr, _⟩ := hs.stab.own _ hj.mem
  obtain ⟨r2, tB, fr, h2⟩ := hB
  have h3 := hp _ _ h2
  have h4 : some (Obj.cells (cs ++ r).toArray ty (0, 0)) = some (Obj.cells (cs ++ r2).toArray tB fr) := hr.symm.trans h3
  simp only [Option.some.injEq, Obj.cells.injEq] at h4
  exact ⟨_, _, by rw [h2, ← h4.2.2]⟩
theorem T.pubZ {k : List It} {e : Option Nat} (b : Nat) {cs : List Value} {ty : TypeId} {sz j : Nat} (hj : AtO own b cs ty sz j)
    (h : ∀ X', X.le X' → Blk X' b cs → Unf X' b → T ro P n w0 X0 Q k e env (own.eraseIdx j) X') : T ro P n w0 X0 Q k e env own X := by
  intro a W ha hs
  obtain ⟨X', h1, h2, _, h4⟩ := hs.pub hj
  exact h X' h1 h2 (hs.unf hj h2 h4.stab.pers) a W ha h4
theorem SD.pubZ {ops : Array Oper} {nh : Nat} {st : Option Nat} {ownS : Own} {XS : PMap} {pl : List Pl} (b : Nat) {cs : List Value} {ty : TypeId} {sz j : Nat} (hj : AtO own b cs ty sz j)
    (h : ∀ X', X.le X' → Blk X' b cs → Unf X' b → SD ro P n w0 X0 ops Q nh st ownS XS pl env (own.eraseIdx j) X') : SD ro P n w0 X0 ops Q nh st ownS XS pl env own X := by
  intro listed a W h1 h2 h3 h4 h5 h6 hs hst
  obtain ⟨X', g1, g2, _, g4⟩ := hs.pub hj
  exact h X' g1 g2 (hs.unf hj g2 g4.stab.pers) listed a W h1 h2 h3 h4 h5 h6 g4 hst
theorem op_eqlSame {tp te : TypeId} {x y : Operand} {t' : TypeId} {A : Addr} {size : Nat} (hp : P.underlying tp = some (.pointer te)) (hte : (P.info? te).map (·.size) = some size) (hx : eev env x = some (.pointer (some A))) (hy : eev env y = some (.pointer (some A))) :
    OpY P n env own X (.binOp .eql tp x y t') (.bool true) := by
  intro a W oper hop ha _
  obtain ⟨i, hi, _⟩ := Option.map_eq_some_iff.1 hte
  have := run_eql_ptr_same (P := P) W A hp hi
  have h0 : ∀ (e : BinOp) (u v : Operand), eqGuard e tp u v (.pointer (some A)) (.pointer (some A)) = pure () := fun e u v => by cases e <;> rfl
  simp only [execOp, hop, ha.eval hx, ha.eval hy, h0, Sem.run_bind, Sem.run_pure, Result.andThen_ok, this]
theorem op_eqlOther {tp te : TypeId} {x y : Operand} {t' : TypeId} {b1 b2 size : Nat} (hp : P.underlying tp = some (.pointer te)) (hte : (P.info? te).map (·.size) = some (size + 1)) (hx : eev env x = some (.pointer (some ⟨b1, 0, none⟩))) (hy : eev env y = some (.pointer (some ⟨b2, 0, none⟩)))
    (hne : b1 ≠ b2) (h1 : Unf X b1) (h2 : Unf X b2) : OpY P n env own X (.binOp .eql tp x y t') (.bool false) := by
  intro a W oper hop ha hs
  obtain ⟨i, hi, hsz⟩ := Option.map_eq_some_iff.1 hte
  obtain ⟨c1, tA, g1⟩ := h1
  obtain ⟨c2, tB, g2⟩ := h2
  have := run_eql_ptr_other (P := P) W (a := ⟨b1, 0, none⟩) (b := ⟨b2, 0, none⟩) hp hi (by omega) (fun e => hne (by injection e)) (hs.pers _ _ g1) (hs.pers _ _ g2)
  have h0 : ∀ (e : BinOp) (u v : Operand), eqGuard e tp u v (.pointer (some ⟨b1, 0, none⟩)) (.pointer (some ⟨b2, 0, none⟩)) = pure () := fun e u v => by cases e <;> rfl
  simp only [execOp, hop, ha.eval hx, ha.eval hy, h0, Sem.run_bind, Sem.run_pure, Result.andThen_ok, this]
end
end Go.Proofs.YtmfiencoefbjfaaGreatDoor
namespace Go.Proofs.YtmfiencoefbjfaaGreatDoor
section
set_option maxRecDepth 100000
theorem en64 : Enters Tryz.prog 64 := enters_mk Tryz.func64 (by kernel_rfl) rfl
end
open Go.RowKit
theorem none_of_le {X X' : PMap} {b : Nat} (h : X.le X') (hb : X' b = none) : X b = none := by
  cases hx : X b with
  | none => rfl
  | some o => rw [h b o hx] at hb; cases hb
theorem MatR.row {X : PMap} {v : Value} {c : Nat} {ms : List Nat} (h : MatR X v c ms) {i : Nat} (hi : i < ms.length) : ∃ b br cap cs x y z, v = .pointer (some ⟨b, 0, none⟩) ∧ Blk X b [.int .i64 (c : Int), .slice (some ⟨br, 0, none⟩) ms.length cap] ∧ Blk X br cs ∧ SetsR X cs ms ∧ cs[i]? = some (.slice x y z) ∧ SetR X (.agg #[.slice x y z]) ms[i] := by
  obtain ⟨b, A, cap, cs, rfl, hB, hS, hA, _⟩ := h
  obtain ⟨br, rfl, hBr⟩ := hA (by omega)
  obtain ⟨cell, h1, h2⟩ := hS.2 i ms[i] (by simp [hi])
  obtain ⟨x, y, z, e⟩ := h2.form
  obtain rfl : cell = .slice x y z := by simpa using e
  exact ⟨b, br, cap, cs, x, y, z, rfl, hB, hBr, hS, h1, h2⟩
theorem bclone_sets {X : PMap} {b cap : Nat} {cs : List Value} {ms : List Nat} (hB : Blk X b cs) (hS : SetsR X cs ms) (hl : ms.length < 100000) (h0 : 0 < ms.length) : SpecO Tryz.prog 64 [.slice (some ⟨b, 0, none⟩) ms.length cap] X fun u own1 _ => GrowS 65 1 u ms.length cs own1 := by
  refine SpecO.enter Tryz.func64 rfl Tryz.ntmps64 rfl ?_
  intro w0 hw0
  refine T.seq <| T.region <| SL.as rfl <| SL.nil <| T.seq <| T.seq <| T.region <| SL.mv rfl <| SL.v (op_eqlSNil Tryz.underlying62 rfl rfl) <| SL.nil <| T.condF rfl <| T.skip <| T.seq <| T.region <| SL.w (op_buildSlice Tryz.underlying62 bs65 (qs := []) rfl rfl rfl rfl rfl) ?_
  rintro _ _ _ ⟨B5, rfl, rfl, rfl⟩
  refine SL.mv rfl <| SL.w (op_append (m := ms.length) (news := cs) sl62 rfl rfl (by repeat constructor) rfl rfl (Nat.le_refl _) (by decide) (Src.ofExt0 hB (by rw [hS.1]; omega)) hS.one (by (have : maxLen = 9223372036854775807 := rfl); omega) (by omega)) ?_
  rintro _ _ _ ⟨b7, cap7, rfl, rfl, rfl, hc7, hm7⟩
  refine SL.as rfl <| SL.nil <| T.retO1 rfl (ResIs.tmp rfl) ?_
  exact .inr ⟨b7, cap7, by rw [Nat.zero_add], by simp, by omega, hm7, by rw [hS.1]; omega⟩
theorem insideB_at {c r i j : Nat} (hi : i < r) (hj : j < c) : insideB c r (i : Int) (j : Int) = true := by
  simp only [insideB, decide_eq_true_eq]
  omega
theorem mset_spec {X : PMap} {v : Value} {c : Nat} {ms : List Nat} (h : MatR X v c ms) {i j : Nat} (hi : i < ms.length) (hj : j < c) (one : Bool) : Spec Tryz.prog 35 [v, .int .i64 (i : Int), .int .i64 (j : Int), .bool one] X fun u X' => ∃ b, u = .tuple #[.pointer (some ⟨b, 0, none⟩), .int .i64 0] ∧ X b = none ∧ Unf X' b ∧ MatR X' (.pointer (some ⟨b, 0, none⟩)) c (setB one ms i j) := by
  obtain ⟨hr, hc⟩ := h.lens
  have hh := h
  obtain ⟨bm, br, cap, cs, x, y, z, rfl, hB, hBr, hS, hcx, hx⟩ := h.row hi
  have hgd : ms.getD i 0 = ms[i] := by simp [hi]
  refine Spec.enter Tryz.func35 rfl Tryz.ntmps35 rfl ?_
  intro w0 hw0
  refine T.seq <| T.region <| SL.as rfl <| SL.v (op_assign (v := .int .i64 ((0 : Nat) : Int)) rfl) <| SL.nil <| T.seq <| T.seq <| T.region <| SL.mv rfl <| SL.v (op_eqlNil Tryz.underlying26 rfl rfl) <| SL.nil <| T.condF rfl <| T.skip <| T.seq <| T.seq ?_
  refine T.region <| SL.mv rfl <| SL.mv rfl <| SL.mv rfl <| SL.w (op_callF en62 (vs := [_, _, _]) rfl (inside_spec hh (i : Int) (j : Int))) ?_
  rintro _ _ X1 ⟨rfl, hX1, rfl⟩
  rw [insideB_at hi hj]
  have hB1 := hB.mono hX1
  refine SL.v (op_not rfl) <| SL.nil <| T.condF rfl <| T.skip <| T.seq <| T.draw (by kernel_rfl) 12 [.t 0, .t 1, .t 2, .t 3, .t 4, .t 5, .t 6, .t 7, .r 8, .t 9, .r 10, .t 11] (by kernel_rfl) ?_
  refine SD.take rfl panicBody (op_move rfl) rfl rfl ?_
  refine SD.take rfl panicBody (op_nil rfl) rfl rfl ?_
  refine SD.take rfl panicBody (op_fieldAddr fa98_0 rfl) rfl rfl ?_
  refine SD.take rfl panicBody (op_loadX ty3 rfl (by assumption) rfl) rfl rfl ?_
  refine SD.take rfl panicBody (op_move rfl) rfl rfl ?_
  refine SD.take rfl panicBody (op_nil rfl) rfl rfl ?_
  refine SD.take rfl panicBody (op_fieldAddr fa98_1 rfl) rfl rfl ?_
  refine SD.take rfl panicBody (op_loadX ty62 rfl (by assumption) rfl) rfl rfl ?_
  refine SD.run rfl (op_callO en64 (vs := [_]) rfl (bclone_sets (hBr.mono hX1) (hS.mono hX1) (by omega) (by omega))) rfl rfl ?_
  rintro s0 _ X2 ⟨G, rfl, hX2, hG⟩
  obtain ⟨b0, cap0, rfl, rfl, hc1, hc2⟩ := hG.pos (by omega)
  have hX02 := hX1.trans' hX2
  have hcl : cs.length = ms.length := hS.1
  cases one with
  | true =>
    refine SD.take rfl panicBody (op_build st98 (qs := [(0, _), (1, _)]) rfl rfl) rfl rfl ?_
    refine SD.run rfl (op_box rfl) rfl rfl ?_
    rintro _ _ _ ⟨B28, rfl, rfl, rfl⟩
    refine SD.take rfl panicBody (op_assign rfl) rfl rfl ?_
    refine SD.nil ?_
    show SL _ _ _ _ _ _ _ [] _ _ _
    refine SL.nil <| T.seq <| T.seq <| T.region <| SL.mv rfl <| SL.nil <| T.condT rfl <| T.draw (by kernel_rfl) 15 [.t 0, .t 1, .t 2, .t 3, .t 4, .t 5, .t 6, .t 7, .t 8, .t 9, .t 10, .t 11, .t 12, .r 13, .t 14] (by kernel_rfl) ?_
    refine SD.take rfl panicBody (op_move rfl) rfl rfl ?_
    refine SD.take rfl panicBody (op_nil rfl) rfl rfl ?_
    refine SD.take rfl panicBody (op_fieldAddr fa98_1 rfl) rfl rfl ?_
    refine SD.take rfl panicBody (op_load ty62 rfl (by repeat constructor) rfl) rfl rfl ?_
    refine SD.take rfl panicBody (op_move rfl) rfl rfl ?_
    refine SD.take rfl panicBody (op_move rfl) rfl rfl ?_
    refine SD.take rfl panicBody (op_nil rfl) rfl rfl ?_
    refine SD.take rfl panicBody (op_fieldAddr fa98_1 rfl) rfl rfl ?_
    refine SD.take rfl panicBody (op_load ty62 rfl (by repeat constructor) rfl) rfl rfl ?_
    refine SD.take rfl panicBody (op_move rfl) rfl rfl ?_
    refine SD.take rfl panicBody (op_indexN Tryz.underlying62 ty65 rfl rfl (by omega)) rfl rfl ?_
    refine SD.take rfl panicBody (op_load ty65 rfl (by repeat constructor) (creadR1 hcx)) rfl rfl ?_
    refine SD.take rfl panicBody (op_move rfl) rfl rfl ?_
    refine SD.run rfl (op_callF en65 (vs := [_, _]) rfl (with_spec (hx.mono hX02) j (by omega))) rfl rfl ?_
    rintro _ _ X3 ⟨rfl, hX3, hS3⟩
    obtain ⟨A3, l3, c3, rfl⟩ := hS3.form
    refine SD.take rfl panicBody (op_indexN Tryz.underlying62 ty65 rfl rfl (by omega)) rfl rfl ?_
    refine SD.nil ?_
    show SL _ _ _ _ _ _ _ [_] _ _ _
    refine SL.w (op_store ty65 rfl rfl (by repeat constructor) rfl rfl (Nat.ble_eq_true_of_le (by omega))) ?_
    rintro _ _ _ ⟨rfl, rfl⟩
    refine SL.nil <| T.seq <| T.region <| SL.mv rfl <| SL.as rfl <| SL.v (op_assign (v := .int .i64 ((0 : Nat) : Int)) rfl) <| SL.nil <| T.apart (b := B28) AtO.here ?_
    intro hap
    refine T.pubZ B28 (by repeat constructor) ?_
    intro X4 hX4 hB4 hU4
    refine T.pub b0 (by repeat constructor) ?_
    intro X5 hX5 hB5 _
    refine T.ret2 rfl (ResIs.tmp rfl) (ResIs.tmp rfl) ?_
    have hX35 := (hX3.trans' hX4).trans' hX5
    refine ⟨B28, rfl, none_of_le (hX02.trans' hX3) hap, hU4.mono hX5, B28, _, _, _, rfl, (show Blk X5 B28 [.int .i64 (c : Int), .slice (some ⟨b0, 0, none⟩) (setB true ms i j).length cap0] by rw [setB_len]; exact hB4.mono hX5), ?_, fun _ => ⟨b0, rfl, hB5⟩, by rw [setB_len]; exact hr, hc⟩
    have := ((hS.mono hX02).mono hX35).put (i := i) hi ((hS3.mono hX4).mono hX5)
    simpa [csets, vcells, setB, hi] using this
  | false =>
    refine SD.take rfl panicBody (op_build st98 (qs := [(0, _), (1, _)]) rfl rfl) rfl rfl ?_
    refine SD.run rfl (op_box rfl) rfl rfl ?_
    rintro _ _ _ ⟨B28, rfl, rfl, rfl⟩
    refine SD.take rfl panicBody (op_assign rfl) rfl rfl ?_
    refine SD.nil ?_
    show SL _ _ _ _ _ _ _ [] _ _ _
    refine SL.nil <| T.seq <| T.seq <| T.region <| SL.mv rfl <| SL.nil <| T.condF rfl <| T.draw (by kernel_rfl) 15 [.t 0, .t 1, .t 2, .t 3, .t 4, .t 5, .t 6, .t 7, .t 8, .t 9, .t 10, .t 11, .t 12, .r 13, .t 14] (by kernel_rfl) ?_
    refine SD.take rfl panicBody (op_move rfl) rfl rfl ?_
    refine SD.take rfl panicBody (op_nil rfl) rfl rfl ?_
    refine SD.take rfl panicBody (op_fieldAddr fa98_1 rfl) rfl rfl ?_
    refine SD.take rfl panicBody (op_load ty62 rfl (by repeat constructor) rfl) rfl rfl ?_
    refine SD.take rfl panicBody (op_move rfl) rfl rfl ?_
    refine SD.take rfl panicBody (op_move rfl) rfl rfl ?_
    refine SD.take rfl panicBody (op_nil rfl) rfl rfl ?_
    refine SD.take rfl panicBody (op_fieldAddr fa98_1 rfl) rfl rfl ?_
    refine SD.take rfl panicBody (op_load ty62 rfl (by repeat constructor) rfl) rfl rfl ?_
    refine SD.take rfl panicBody (op_move rfl) rfl rfl ?_
    refine SD.take rfl panicBody (op_indexN Tryz.underlying62 ty65 rfl rfl (by omega)) rfl rfl ?_
    refine SD.take rfl panicBody (op_load ty65 rfl (by repeat constructor) (creadR1 hcx)) rfl rfl ?_
    refine SD.take rfl panicBody (op_move rfl) rfl rfl ?_
    refine SD.run rfl (op_callF en66 (vs := [_, _]) rfl (without_spec (hx.mono hX02) j (by omega))) rfl rfl ?_
    rintro _ _ X3 ⟨rfl, hX3, hS3⟩
    obtain ⟨A3, l3, c3, rfl⟩ := hS3.form
    refine SD.take rfl panicBody (op_indexN Tryz.underlying62 ty65 rfl rfl (by omega)) rfl rfl ?_
    refine SD.nil ?_
    show SL _ _ _ _ _ _ _ [_] _ _ _
    refine SL.w (op_store ty65 rfl rfl (by repeat constructor) rfl rfl (Nat.ble_eq_true_of_le (by omega))) ?_
    rintro _ _ _ ⟨rfl, rfl⟩
    refine SL.nil <| T.seq <| T.region <| SL.mv rfl <| SL.as rfl <| SL.v (op_assign (v := .int .i64 ((0 : Nat) : Int)) rfl) <| SL.nil <| T.apart (b := B28) AtO.here ?_
    intro hap
    refine T.pubZ B28 (by repeat constructor) ?_
    intro X4 hX4 hB4 hU4
    refine T.pub b0 (by repeat constructor) ?_
    intro X5 hX5 hB5 _
    refine T.ret2 rfl (ResIs.tmp rfl) (ResIs.tmp rfl) ?_
    have hX35 := (hX3.trans' hX4).trans' hX5
    refine ⟨B28, rfl, none_of_le (hX02.trans' hX3) hap, hU4.mono hX5, B28, _, _, _, rfl, (show Blk X5 B28 [.int .i64 (c : Int), .slice (some ⟨b0, 0, none⟩) (setB false ms i j).length cap0] by rw [setB_len]; exact hB4.mono hX5), ?_, fun _ => ⟨b0, rfl, hB5⟩, by rw [setB_len]; exact hr, hc⟩
    have := ((hS.mono hX02).mono hX35).put (i := i) hi ((hS3.mono hX4).mono hX5)
    simpa [csets, vcells, setB, minB, hi] using this
end Go.Proofs.YtmfiencoefbjfaaGreatDoor
namespace Go.Proofs.YtmfiencoefbjfaaGreatDoor
section
set_option maxRecDepth 100000
theorem en37 : Enters Tryz.prog 37 := enters_mk Tryz.func37 (by kernel_rfl) rfl
theorem en67 : Enters Tryz.prog 67 := enters_mk Tryz.func67 (by kernel_rfl) rfl
theorem en68 : Enters Tryz.prog 68 := enters_mk Tryz.func68 (by kernel_rfl) rfl
theorem en87 : Enters Tryz.prog 87 := enters_mk Tryz.func87 (by kernel_rfl) rfl
end
open Go.RowKit
def prodK (ps : List Nat) (row k : Nat) : Nat := ((mem64 row).take k).foldl (fun r k => r ||| ps.getD k 0) 0
theorem prodK_succ {ps : List Nat} {row k : Nat} (h : k < (mem64 row).length) : prodK ps row (k + 1) = prodK ps row k ||| ps.getD (mem64 row)[k] 0 := by
  unfold prodK
  rw [List.take_succ_eq_append_getElem h, List.foldl_append]
  rfl
theorem prodM_take {us ps : List Nat} {k : Nat} (h : k < us.length) : prodM (us.take (k + 1)) ps = prodM (us.take k) ps ++ [prodK ps us[k] (mem64 us[k]).length] := by
  rw [prodM, prodM, List.take_succ_eq_append_getElem h, List.map_append, prodK, List.take_length]
  rfl
theorem prodM_len (us ps : List Nat) : (prodM us ps).length = us.length := by simp [prodM]
theorem product_spec {X : PMap} (hT : Tab X) {v w : Value} {cp : Nat} {us ps : List Nat} (h : MatR X v ps.length us) (ho : MatR X w cp ps) (hrow : ∀ m ∈ us, m < 2 ^ ps.length) : Spec Tryz.prog 36 [v, w] X fun u X' => ∃ z, u = .tuple #[z, .int .i64 0] ∧ MatR X' z cp (prodM us ps) := by
  obtain ⟨hr, hc⟩ := h.lens
  obtain ⟨hrp, hcp⟩ := ho.lens
  have hmx : maxLen = 9223372036854775807 := rfl
  have hh := h
  have hho := ho
  obtain ⟨bm, A, cap, cs0, rfl, hB, hS, hA, _, _⟩ := h
  obtain ⟨bo, Ao, capo, cso, rfl, hBo, hSo, hAo, _, _⟩ := ho
  refine Spec.enter Tryz.func36 rfl Tryz.ntmps36 rfl ?_
  intro w0 hw0
  refine T.seq <| T.region <| SL.w (op_box rfl) ?_
  rintro _ _ _ ⟨B3, rfl, rfl, rfl⟩
  refine SL.as rfl <| SL.v (op_assign (v := .int .i64 ((0 : Nat) : Int)) rfl) <| SL.nil <| T.seq <| T.seq <| T.draw (by kernel_rfl) 18 [.t 0, .t 1, .t 2, .t 3, .t 4, .t 5, .t 6, .t 7, .t 8, .t 9, .t 10, .t 11, .t 12, .t 13, .t 14, .t 15, .t 16, .t 17] (by kernel_rfl) ?_
  refine SD.take rfl panicBody (op_move rfl) rfl rfl ?_
  refine SD.take rfl panicBody (op_eqlNil Tryz.underlying26 rfl rfl) rfl rfl ?_
  refine SD.take rfl panicBody (op_move rfl) rfl rfl ?_
  refine SD.take rfl panicBody (op_load ty26 rfl (by repeat constructor) rfl) rfl rfl ?_
  refine SD.take rfl panicBody (op_eqlNil Tryz.underlying26 rfl rfl) rfl rfl ?_
  refine SD.take rfl panicBody (op_pickF rfl rfl) rfl rfl ?_
  refine SD.take rfl panicBody (op_move rfl) rfl rfl ?_
  refine SD.take rfl panicBody (op_move rfl) rfl rfl ?_
  refine SD.take rfl panicBody (op_nil rfl) rfl rfl ?_
  refine SD.take rfl panicBody (op_fieldAddr fa98_0 rfl) rfl rfl ?_
  refine SD.take rfl panicBody (op_loadX ty3 rfl (by assumption) rfl) rfl rfl ?_
  refine SD.take rfl panicBody (op_load ty26 rfl (by repeat constructor) rfl) rfl rfl ?_
  refine SD.take rfl panicBody (op_nil rfl) rfl rfl ?_
  refine SD.take rfl panicBody (op_fieldAddr fa98_1 rfl) rfl rfl ?_
  refine SD.take rfl panicBody (op_loadX ty62 rfl (by assumption) rfl) rfl rfl ?_
  refine SD.take rfl panicBody (op_lenS Tryz.underlying62 rfl) rfl rfl ?_
  refine SD.take rfl panicBody (op_neqF rfl rfl (by omega)) rfl rfl ?_
  refine SD.take rfl panicBody (op_pickF rfl rfl) rfl rfl ?_
  refine SD.nil ?_
  show SL _ _ _ _ _ _ _ [] _ _ _
  refine SL.nil <| T.condF rfl <| T.skip <| T.seq <| T.region <| SL.v (op_load ty26 rfl (by repeat constructor) rfl) ?_
  refine SL.v (op_nil rfl) <| SL.v (op_fieldAddr fa98_0 rfl) <| SL.v (op_loadX ty3 rfl (by assumption) rfl) ?_
  refine SL.v (op_build st98 (qs := [(0, _)]) rfl rfl) <| SL.w (op_box rfl) ?_
  rintro _ _ _ ⟨B34, rfl, rfl, rfl⟩
  refine SL.as rfl <| SL.nil <| T.seq <| T.seq <| T.region <| SL.mv rfl <| SL.v (op_nil rfl) <| SL.v (op_fieldAddr fa98_1 rfl) <| SL.v (op_loadX ty62 rfl (by assumption) rfl) ?_
  refine SL.v (op_lenS Tryz.underlying62 rfl) <| SL.v (op_move (v := .int .i64 ((0 : Nat) : Int)) rfl) <| SL.nil <| T.block <| T.loopD (Ds := []) List.nodup_nil (fun m env own X' => ∃ (k : Nat) (s : Value) (cs : List Value) (G : Own), m = us.length - k ∧ k ≤ us.length ∧ X.le X' ∧ GrowS 65 1 s k cs G ∧ SetsR X' cs (prodM (us.take k) ps) ∧ env = [(3, .pointer (some ⟨B3, 0, none⟩)), (6, .pointer (some ⟨B34, 0, none⟩)), (38, .slice A us.length cap), (39, .int .i64 (us.length : Int)), (40, .int .i64 (k : Int))] ∧ own = [⟨B34, [.int .i64 (cp : Int), s], 98, 2⟩, ⟨B3, [.pointer (some ⟨bo, 0, none⟩)], 26, 1⟩] ++ G) us.length ⟨0, _, [], [], by simp, by omega, PMap.le_refl _, GrowS.nil, ⟨rfl, fun i m h => by simp [prodM] at h⟩, rfl, rfl⟩ (by repeat (first | exact Sub.nil | refine Sub.cons rfl ?_)) ?_
  rintro Ds hDs m _ _ X1 ⟨k, s, cs, G, rfl, hk, hX1, hG, hC, rfl, rfl⟩
  rcases Nat.lt_or_ge k us.length with hkl | hkl
  · obtain ⟨br, rfl, hBr⟩ := hA (by omega)
    obtain ⟨cell, hcx, hx⟩ := hS.2 k us[k] (by simp [hkl])
    obtain ⟨x, y, z, e⟩ := hx.form
    obtain rfl : cell = .slice x y z := by simpa using e
    obtain ⟨As, cps, rfl⟩ := hG.form
    have hBr1 := hBr.mono hX1
    have hrk := hrow us[k] (List.getElem_mem hkl)
    refine T.seq <| T.region <| SL.v (op_lssT rfl rfl (by omega)) ?_
    refine SL.nil <| T.seq <| T.condT rfl <| T.skip <| T.seq <| T.block <| T.seq <| T.region <| SL.v (op_indexN Tryz.underlying62 ty65 rfl rfl (by omega)) ?_
    refine SL.v (op_loadX ty65 rfl hBr1 (creadR1 hcx)) <| SL.w (op_alloc z65) ?_
    rintro _ _ _ ⟨B8, rfl, rfl, rfl⟩
    refine SL.w (op_store ty65 rfl rfl (by repeat constructor) rfl rfl rfl) ?_
    rintro _ _ _ ⟨rfl, rfl⟩
    refine SL.nil <| T.seq <| T.region <| SL.w (op_alloc z65) ?_
    rintro _ _ _ ⟨B9, rfl, rfl, rfl⟩
    refine SL.nil <| T.seq <| T.seq <| T.region <| SL.v (op_load ty65 rfl (by repeat constructor) rfl) ?_
    refine SL.w (op_callF en60 (vs := [_]) rfl (all_spec)) ?_
    rintro _ _ X2 ⟨rfl, hX2, B45, rfl, hB45⟩
    have hX02 := hX1.trans' hX2
    refine SL.nil <| T.block <| T.rangeFuncD (Ds := Ds) (xs := (ints (mem64 us[k]))) hDs rfl en85 rfl rfl (all_seq (hT.mono hX02) (hx.mono hX02) hB45) (fun i own' X' => X2.le X' ∧ ∃ A' l' c', SetR X' (.agg #[.slice A' l' c']) (prodK ps us[k] i) ∧ own' = [⟨B9, [.slice A' l' c'], 65, 1⟩, ⟨B8, [.slice x y z], 65, 1⟩, ⟨B34, [.int .i64 (cp : Int), .slice As k cps], 98, 2⟩, ⟨B3, [.pointer (some ⟨bo, 0, none⟩)], 26, 1⟩] ++ G) ⟨PMap.le_refl _, none, 0, 0, by simpa [prodK] using SetR.zero, rfl⟩ (fun i own' X' h => h.1) ?_ ?_
    · rintro i w _ X3 l' r D hz ⟨hX3, A3, l3, c3, hS3, rfl⟩
      obtain ⟨hzi, rfl⟩ := ints_some hz
      have hX03 := hX02.trans' hX3
      have hil : (mem64 us[k])[i] < ps.length := bits_of_lt hrk (mem_mem64.1 (List.getElem_mem hzi)).2
      obtain ⟨br2, rfl, hBr2⟩ := hAo (by omega)
      obtain ⟨cell2, hcx2, hx2⟩ := hSo.2 (mem64 us[k])[i] ps[(mem64 us[k])[i]] (by simp [hil])
      obtain ⟨x2, y2, z2, e2⟩ := hx2.form
      obtain rfl : cell2 = .slice x2 y2 z2 := by simpa using e2
      have hBo3 := hBo.mono hX03
      have hBr23 := hBr2.mono hX03
      have hgd : ps.getD (mem64 us[k])[i] 0 = ps[(mem64 us[k])[i]] := by simp [hil]
      refine T.block <| T.draw (by kernel_rfl) 9 [.t 0, .t 1, .t 2, .t 3, .t 4, .t 5, .t 6, .t 7, .r 8] (by kernel_rfl) ?_
      refine SD.take rfl panicRound (op_load ty65 rfl (by repeat constructor) rfl) rfl rfl ?_
      refine SD.take rfl panicRound (op_load ty26 rfl (by repeat constructor) rfl) rfl rfl ?_
      refine SD.take rfl panicRound (op_nil rfl) rfl rfl ?_
      refine SD.take rfl panicRound (op_fieldAddr fa98_1 rfl) rfl rfl ?_
      refine SD.take rfl panicRound (op_loadX ty62 rfl hBo3 rfl) rfl rfl ?_
      refine SD.take rfl panicRound (op_move rfl) rfl rfl ?_
      refine SD.take rfl panicRound (op_indexN Tryz.underlying62 ty65 rfl rfl (by omega)) rfl rfl ?_
      refine SD.take rfl panicRound (op_loadX ty65 rfl hBr23 (creadR1 hcx2)) rfl rfl ?_
      refine SD.run rfl (op_callF en67 (vs := [_, _]) rfl (or_spec hS3 (hx2.mono hX03))) rfl rfl ?_
      rintro _ _ X4 ⟨rfl, hX4, hS4⟩
      refine SD.nil ?_
      show SL _ _ _ _ _ _ _ [_] _ _ _
      obtain ⟨A4, l4, c4, rfl⟩ := hS4.form
      refine SL.w (op_store ty65 rfl rfl (by repeat constructor) rfl rfl rfl) ?_
      rintro _ _ _ ⟨rfl, rfl⟩
      refine SL.nil <| T.blk ?_
      exact T.roundEnd ⟨hX3.trans' hX4, A4, l4, c4, by rw [prodK_succ hzi, hgd]; exact hS4, rfl⟩
    · rintro D _ X3 hDs' ⟨hX3, A3, l3, c3, hS3, rfl⟩
      rw [show (ints (mem64 us[k])).length = (mem64 us[k]).length by simp [ints]] at hS3
      refine T.blk <| T.drawG (own0 := [_, _, _, _]) (by kernel_rfl) 8 [.t 0, .t 1, .t 2, .t 3, .t 4, .t 5, .r 6, .r 7] (by kernel_rfl) ?_
      refine SD.take rfl panicBody (op_move rfl) rfl rfl ?_
      refine SD.take rfl panicBody (op_move rfl) rfl rfl ?_
      refine SD.take rfl panicBody (op_nil rfl) rfl rfl ?_
      refine SD.take rfl panicBody (op_fieldAddr fa98_1 rfl) rfl rfl ?_
      refine SD.take rfl panicBody (op_load ty62 rfl (by repeat constructor) rfl) rfl rfl ?_
      refine SD.take rfl panicBody (op_load ty65 rfl (by repeat constructor) rfl) rfl rfl ?_
      refine SD.run rfl (op_buildSlice Tryz.underlying62 bs65 (qs := [(0, _)]) rfl rfl rfl rfl rfl) rfl rfl ?_
      rintro _ _ _ ⟨B62, rfl, rfl, rfl⟩
      refine SD.runK rfl (op_appendG (own0 := [_, _, _, _]) sl62 rfl hG rfl rfl rfl (by omega) (by omega)) (by rintro _ _ _ ⟨G', rfl, rfl, _⟩; exact ⟨fun p hp => List.mem_append_left _ hp, PMap.le_refl _⟩) rfl rfl ?_
      rintro s' _ _ ⟨G', rfl, rfl, hG'⟩
      refine SD.nil ?_
      show SL _ _ _ _ _ _ _ [_, _, _] _ _ _
      obtain ⟨As', cps', rfl⟩ := hG'.form
      refine SL.v (op_nil rfl) <| SL.v (op_fieldAddr fa98_1 rfl) <| SL.w (op_store ty62 rfl rfl (by repeat constructor) rfl rfl rfl) ?_
      rintro _ _ _ ⟨rfl, rfl⟩
      refine SL.nil <| T.blk <| T.region <| SL.v (op_addN (q := 1) rfl rfl (by omega)) ?_
      refine SL.mv rfl <| SL.nil <| T.drop B9 (by repeat constructor) ?_
      refine T.drop B8 (by repeat constructor) ?_
      exact T.backD hDs' (us.length - (k + 1)) (by omega) ⟨k + 1, _, _, G', rfl, by omega, hX02.trans' hX3, hG', by rw [prodM_take hkl]; exact ((hC.mono hX2).mono hX3).snoc hS3, rfl, rfl⟩ (by repeat (first | exact Sub.nil | refine Sub.cons rfl ?_))
  · obtain rfl : k = us.length := by omega
    rw [List.take_length] at hC
    refine T.seq <| T.region <| SL.v (op_lssF rfl rfl (by omega)) ?_
    refine SL.nil <| T.seq <| T.condF rfl ?_
    refine T.exit (T.exitCode (T.exitCut (T.exitBlk ?_)))
    refine T.seq <| T.region <| SL.mv rfl <| SL.as rfl <| SL.v (op_assign (v := .int .i64 ((0 : Nat) : Int)) rfl) <| SL.nil <| T.pubG (own0 := [_, _]) hG ?_
    intro X3 hX3 hS3
    refine T.pub B34 (by repeat constructor) ?_
    intro X4 hX4 hB4 _
    refine T.ret2 rfl (ResIs.tmp rfl) (ResIs.tmp rfl) ?_ ⟨_, rfl, rfl, hDs⟩
    obtain ⟨A3, cap3, rfl⟩ := hG.form
    refine ⟨_, rfl, B34, A3, cap3, cs, rfl, by rw [prodM_len]; exact hB4, (hC.mono hX3).mono hX4, fun h0 => ?_, by rw [prodM_len]; exact hr, hcp⟩
    rw [prodM_len] at h0
    obtain ⟨b, rfl, hb⟩ := hS3.blk h0
    exact ⟨b, rfl, hb.mono hX4⟩
theorem fits_spec' {X : PMap} {v w : Value} {c : Nat} {ms ns : List Nat} (h : MatR X v c ms) (h' : MatR X w c ns) (hl : ms.length = ns.length) : Spec Tryz.prog 68 [v, w] X fun u _ => u = .bool true := by
  obtain ⟨bm, A, cap, cs0, rfl, hB, hS, hA, hr, hc⟩ := h
  obtain ⟨bo, Ao, capo, cso, rfl, hBo, hSo, hAo, hr', _⟩ := h'
  refine Spec.enter Tryz.func68 rfl Tryz.ntmps68 rfl ?_
  intro w0 hw0
  refine T.seq <| T.region <| SL.as rfl <| SL.nil <| T.seq <| T.draw (by kernel_rfl) 31 [.t 0, .t 1, .t 2, .t 3, .t 4, .t 5, .t 6, .t 7, .t 8, .t 9, .t 10, .t 11, .t 12, .t 13, .t 14, .t 15, .t 16, .t 17, .t 18, .t 19, .t 20, .t 21, .t 22, .t 23, .t 24, .t 25, .t 26, .t 27, .t 28, .t 29, .t 30] (by kernel_rfl) ?_
  refine SD.take rfl panicBody (op_move rfl) rfl rfl ?_
  refine SD.take rfl panicBody (op_neqNil Tryz.underlying26 rfl rfl) rfl rfl ?_
  refine SD.take rfl panicBody (op_move rfl) rfl rfl ?_
  refine SD.take rfl panicBody (op_move rfl) rfl rfl ?_
  refine SD.take rfl panicBody (op_neqNil Tryz.underlying26 rfl rfl) rfl rfl ?_
  refine SD.take rfl panicBody (op_pickT rfl rfl) rfl rfl ?_
  refine SD.take rfl panicBody (op_move rfl) rfl rfl ?_
  refine SD.take rfl panicBody (op_move rfl) rfl rfl ?_
  refine SD.take rfl panicBody (op_nil rfl) rfl rfl ?_
  refine SD.take rfl panicBody (op_fieldAddr fa98_0 rfl) rfl rfl ?_
  refine SD.take rfl panicBody (op_loadX ty3 rfl (by assumption) rfl) rfl rfl ?_
  refine SD.take rfl panicBody (op_move rfl) rfl rfl ?_
  refine SD.take rfl panicBody (op_nil rfl) rfl rfl ?_
  refine SD.take rfl panicBody (op_fieldAddr fa98_0 rfl) rfl rfl ?_
  refine SD.take rfl panicBody (op_loadX ty3 rfl (by assumption) rfl) rfl rfl ?_
  refine SD.take rfl panicBody (op_eqlT rfl rfl (by omega)) rfl rfl ?_
  refine SD.take rfl panicBody (op_pickT rfl rfl) rfl rfl ?_
  refine SD.take rfl panicBody (op_move rfl) rfl rfl ?_
  refine SD.take rfl panicBody (op_move rfl) rfl rfl ?_
  refine SD.take rfl panicBody (op_nil rfl) rfl rfl ?_
  refine SD.take rfl panicBody (op_fieldAddr fa98_1 rfl) rfl rfl ?_
  refine SD.take rfl panicBody (op_loadX ty62 rfl (by assumption) rfl) rfl rfl ?_
  refine SD.take rfl panicBody (op_lenS Tryz.underlying62 rfl) rfl rfl ?_
  refine SD.take rfl panicBody (op_move rfl) rfl rfl ?_
  refine SD.take rfl panicBody (op_nil rfl) rfl rfl ?_
  refine SD.take rfl panicBody (op_fieldAddr fa98_1 rfl) rfl rfl ?_
  refine SD.take rfl panicBody (op_loadX ty62 rfl (by assumption) rfl) rfl rfl ?_
  refine SD.take rfl panicBody (op_lenS Tryz.underlying62 rfl) rfl rfl ?_
  refine SD.take rfl panicBody (op_eqlT rfl rfl (by omega)) rfl rfl ?_
  refine SD.take rfl panicBody (op_pickT rfl rfl) rfl rfl ?_
  refine SD.take rfl panicBody (op_assign rfl) rfl rfl ?_
  refine SD.nil ?_
  show SL _ _ _ _ _ _ _ [] _ _ _
  refine SL.nil <| T.ret1 rfl (ResIs.tmp rfl) ?_
  rfl
theorem within_self (m : Nat) (h : m < 18446744073709551616) : decide (m &&& (18446744073709551615 - m) = 0) = true := by
  rw [decide_eq_true_eq]
  refine Nat.eq_of_testBit_eq fun j => ?_
  have := minB_testBit (j := j) h h
  rw [minB] at this
  rw [this, Nat.zero_testBit]
  cases m.testBit j <;> rfl
theorem mwithin_spec {X : PMap} {v w : Value} {c : Nat} {ms : List Nat} (h : MatR X v c ms) (h' : MatR X w c ms) : Spec Tryz.prog 37 [v, w] X fun u _ => u = .bool true := by
  have hh := h
  have hh' := h'
  obtain ⟨bm, A, cap, cs0, rfl, hB, hS, hA, hr, hc⟩ := h
  obtain ⟨bo, Ao, capo, cso, rfl, hBo, hSo, hAo, hr', _⟩ := h'
  refine Spec.enter Tryz.func37 rfl Tryz.ntmps37 rfl ?_
  intro w0 hw0
  refine T.seq <| T.region <| SL.as rfl <| SL.nil <| T.seq <| T.seq <| T.region <| SL.mv rfl <| SL.mv rfl <| SL.w (op_callF en68 (vs := [_, _]) rfl (fits_spec' hh hh' rfl)) ?_
  rintro _ _ X1 ⟨rfl, hX1, rfl⟩
  have hB1 := hB.mono hX1
  refine SL.v (op_not rfl) <| SL.nil <| T.condF rfl <| T.skip <| T.seq <| T.seq <| T.region <| SL.mv rfl <| SL.v (op_nil rfl) <| SL.v (op_fieldAddr fa98_1 rfl) <| SL.v (op_loadX ty62 rfl (by assumption) rfl) ?_
  refine SL.v (op_lenS Tryz.underlying62 rfl) <| SL.v (op_move (v := .int .i64 ((0 : Nat) : Int)) rfl) <| SL.nil <| T.block <| T.loopW (fun m env own X' => ∃ k : Nat, m = ms.length - k ∧ k ≤ ms.length ∧ X1.le X' ∧ env = [(1, .pointer (some ⟨bo, 0, none⟩)), (14, .slice A ms.length cap), (15, .int .i64 (ms.length : Int)), (16, .int .i64 (k : Int))] ∧ own = []) ms.length ⟨0, by simp, by omega, PMap.le_refl _, rfl, rfl⟩ (by repeat (first | exact Sub.nil | refine Sub.cons rfl ?_)) ?_
  rintro m _ _ X2 ⟨k, rfl, hk, hX2, rfl, rfl⟩
  rcases Nat.lt_or_ge k ms.length with hkl | hkl
  · obtain ⟨br, rfl, hBr⟩ := hA (by omega)
    obtain ⟨cell, hcx, hx⟩ := hS.2 k ms[k] (by simp [hkl])
    obtain ⟨x, y, z, e⟩ := hx.form
    obtain rfl : cell = .slice x y z := by simpa using e
    obtain ⟨br2, rfl, hBr2⟩ := hAo (by omega)
    obtain ⟨cell2, hcx2, hx2⟩ := hSo.2 k ms[k] (by simp [hkl])
    obtain ⟨x2, y2, z2, e2⟩ := hx2.form
    obtain rfl : cell2 = .slice x2 y2 z2 := by simpa using e2
    have hX02 := hX1.trans' hX2
    have hBr1 := hBr.mono hX02
    have hBo1 := hBo.mono hX02
    have hBr21 := hBr2.mono hX02
    refine T.seq <| T.region <| SL.v (op_lssT rfl rfl (by omega)) ?_
    refine SL.nil <| T.seq <| T.condT rfl <| T.skip <| T.seq <| T.block <| T.seq <| T.region <| SL.mv rfl <| SL.v (op_indexN Tryz.underlying62 ty65 rfl rfl (by omega)) ?_
    refine SL.v (op_loadX ty65 rfl hBr1 (creadR1 hcx)) <| SL.w (op_alloc z65) ?_
    rintro _ _ _ ⟨B6, rfl, rfl, rfl⟩
    refine SL.as rfl <| SL.w (op_store ty65 rfl rfl (by repeat constructor) rfl rfl rfl) ?_
    rintro _ _ _ ⟨rfl, rfl⟩
    refine SL.nil <| T.seq <| T.draw (by kernel_rfl) 10 [.t 0, .t 1, .t 2, .t 3, .t 4, .t 5, .t 6, .t 7, .r 8, .t 9] (by kernel_rfl) ?_
    refine SD.take rfl panicBody (op_load ty65 rfl (by repeat constructor) rfl) rfl rfl ?_
    refine SD.take rfl panicBody (op_move rfl) rfl rfl ?_
    refine SD.take rfl panicBody (op_nil rfl) rfl rfl ?_
    refine SD.take rfl panicBody (op_fieldAddr fa98_1 rfl) rfl rfl ?_
    refine SD.take rfl panicBody (op_loadX ty62 rfl hBo1 rfl) rfl rfl ?_
    refine SD.take rfl panicBody (op_move rfl) rfl rfl ?_
    refine SD.take rfl panicBody (op_indexN Tryz.underlying62 ty65 rfl rfl (by omega)) rfl rfl ?_
    refine SD.take rfl panicBody (op_loadX ty65 rfl hBr21 (creadR1 hcx2)) rfl rfl ?_
    refine SD.run rfl (op_callF en44 (vs := [_, _]) rfl (within_spec (hx.mono hX02) (hx2.mono hX02))) rfl rfl ?_
    rintro _ _ X3 ⟨rfl, hX3, rfl⟩
    rw [within_self _ hx.lt]
    refine SD.take rfl panicBody (op_not rfl) rfl rfl ?_
    refine SD.nil ?_
    show SL _ _ _ _ _ _ _ [] _ _ _
    refine SL.nil <| T.condF rfl <| T.skip <| T.blk <| T.region <| SL.v (op_addN (q := 1) rfl rfl (by omega)) ?_
    refine SL.mv rfl <| SL.nil <| T.drop B6 (by repeat constructor) ?_
    exact T.backW (ms.length - (k + 1)) (by omega) ⟨k + 1, rfl, by omega, hX2.trans' hX3, rfl, rfl⟩ (by repeat (first | exact Sub.nil | refine Sub.cons rfl ?_))
  · obtain rfl : k = ms.length := by omega
    refine T.seq <| T.region <| SL.v (op_lssF rfl rfl (by omega)) ?_
    refine SL.nil <| T.seq <| T.condF rfl ?_
    refine T.exit (T.exitCode (T.exitCut (T.exitBlk ?_)))
    refine T.seq <| T.region <| SL.as rfl <| SL.nil <| T.ret1 rfl (ResIs.tmp rfl) ?_
    rfl
theorem mequal_spec {X : PMap} {v w : Value} {c : Nat} {ms : List Nat} (h : MatR X v c ms) (h' : MatR X w c ms) : Spec Tryz.prog 14 [v, w] X fun u _ => u = .bool true := by
  obtain ⟨bm, rfl⟩ := h.ptr
  obtain ⟨bo, rfl⟩ := h'.ptr
  refine Spec.enter Tryz.func14 rfl Tryz.ntmps14 rfl ?_
  intro w0 hw0
  refine T.seq <| T.region <| SL.as rfl <| SL.nil <| T.seq <| T.seq <| T.region <| SL.mv rfl <| SL.v (op_eqlNil Tryz.underlying26 rfl rfl) <| SL.mv rfl <| SL.mv rfl <| SL.v (op_eqlNil Tryz.underlying26 rfl rfl) <| SL.v (op_pickF rfl rfl) <| SL.nil <| T.condF rfl ?_
  refine T.skip <| T.seq <| T.region <| SL.mv rfl <| SL.mv rfl <| SL.w (op_callF en37 (vs := [_, _]) rfl (mwithin_spec h h')) ?_
  rintro _ _ X1 ⟨rfl, hX1, rfl⟩
  refine SL.mv rfl <| SL.mv rfl <| SL.mv rfl <| SL.w (op_callF en37 (vs := [_, _]) rfl (mwithin_spec (h'.mono hX1) (h.mono hX1))) ?_
  rintro _ _ X2 ⟨rfl, hX2, rfl⟩
  refine SL.v (op_pickT rfl rfl) <| SL.as rfl <| SL.nil <| T.ret1 rfl (ResIs.tmp rfl) ?_
  rfl
theorem combine_spec {X : PMap} {v w : Value} {c : Nat} {ms : List Nat} (h : MatR X v c ms) (h' : MatR X w c ms) (g : FuncId) (op : Nat → Nat → Nat) (hE : Enters Tryz.prog g) (hg : ∀ {X : PMap} {v v' : Value} {m m' : Nat}, SetR X v m → SetR X v' m' → Spec Tryz.prog g [v, v'] X fun u X' => SetR X' u (op m m')) (hop : ∀ m, op m m = m) : Spec Tryz.prog 87 [v, w, .func (.func g) #[] #[]] X fun u X' => ∃ z, u = .tuple #[z, .int .i64 0] ∧ MatR X' z c ms := by
  have hh := h
  have hh' := h'
  have hmx : maxLen = 9223372036854775807 := rfl
  obtain ⟨bm, A, cap, cs0, rfl, hB, hS, hA, hr, hc⟩ := h
  obtain ⟨bo, Ao, capo, cso, rfl, hBo, hSo, hAo, hr', _⟩ := h'
  refine Spec.enter Tryz.func87 rfl Tryz.ntmps87 rfl ?_
  intro w0 hw0
  refine T.seq <| T.region <| SL.as rfl <| SL.v (op_assign (v := .int .i64 ((0 : Nat) : Int)) rfl) <| SL.nil <| T.seq <| T.seq <| T.region <| SL.mv rfl <| SL.mv rfl <| SL.w (op_callF en68 (vs := [_, _]) rfl (fits_spec' hh hh' rfl)) ?_
  rintro _ _ X1 ⟨rfl, hX1, rfl⟩
  have hB1 := hB.mono hX1
  refine SL.v (op_not rfl) <| SL.nil <| T.condF rfl <| T.skip <| T.seq <| T.region <| SL.mv rfl <| SL.v (op_nil rfl) <| SL.v (op_fieldAddr fa98_0 rfl) <| SL.v (op_loadX ty3 rfl (by assumption) rfl) ?_
  refine SL.v (op_build st98 (qs := [(0, _)]) rfl rfl) <| SL.w (op_box rfl) ?_
  rintro _ _ _ ⟨B20, rfl, rfl, rfl⟩
  refine SL.as rfl <| SL.nil <| T.seq <| T.seq <| T.region <| SL.mv rfl <| SL.v (op_nil rfl) <| SL.v (op_fieldAddr fa98_1 rfl) <| SL.v (op_loadX ty62 rfl (by assumption) rfl) ?_
  refine SL.v (op_lenS Tryz.underlying62 rfl) <| SL.v (op_move (v := .int .i64 ((0 : Nat) : Int)) rfl) <| SL.nil <| T.block <| T.loopW (fun m env own X' => ∃ (k : Nat) (s : Value) (cs : List Value) (G : Own), m = ms.length - k ∧ k ≤ ms.length ∧ X1.le X' ∧ GrowS 65 1 s k cs G ∧ SetsR X' cs (ms.take k) ∧ env = [(1, .pointer (some ⟨bo, 0, none⟩)), (2, .func (.func g) #[] #[]), (8, .pointer (some ⟨B20, 0, none⟩)), (24, .slice A ms.length cap), (25, .int .i64 (ms.length : Int)), (26, .int .i64 (k : Int))] ∧ own = [⟨B20, [.int .i64 (c : Int), s], 98, 2⟩] ++ G) ms.length ⟨0, _, [], [], by simp, by omega, PMap.le_refl _, GrowS.nil, ⟨rfl, fun i m h => by simp at h⟩, rfl, rfl⟩ (by repeat (first | exact Sub.nil | refine Sub.cons rfl ?_)) ?_
  rintro m _ _ X2 ⟨k, s, cs, G, rfl, hk, hX2, hG, hC, rfl, rfl⟩
  rcases Nat.lt_or_ge k ms.length with hkl | hkl
  · obtain ⟨br, rfl, hBr⟩ := hA (by omega)
    obtain ⟨cell, hcx, hx⟩ := hS.2 k ms[k] (by simp [hkl])
    obtain ⟨x, y, z, e⟩ := hx.form
    obtain rfl : cell = .slice x y z := by simpa using e
    obtain ⟨br2, rfl, hBr2⟩ := hAo (by omega)
    obtain ⟨cell2, hcx2, hx2⟩ := hSo.2 k ms[k] (by simp [hkl])
    obtain ⟨x2, y2, z2, e2⟩ := hx2.form
    obtain rfl : cell2 = .slice x2 y2 z2 := by simpa using e2
    obtain ⟨As, cps, rfl⟩ := hG.form
    have hX02 := hX1.trans' hX2
    have hBr1 := hBr.mono hX02
    have hBo1 := hBo.mono hX02
    have hBr21 := hBr2.mono hX02
    refine T.seq <| T.region <| SL.v (op_lssT rfl rfl (by omega)) ?_
    refine SL.nil <| T.seq <| T.condT rfl <| T.skip <| T.seq <| T.block <| T.seq <| T.region <| SL.mv rfl <| SL.v (op_indexN Tryz.underlying62 ty65 rfl rfl (by omega)) ?_
    refine SL.v (op_loadX ty65 rfl hBr1 (creadR1 hcx)) <| SL.w (op_alloc z65) ?_
    rintro _ _ _ ⟨B10, rfl, rfl, rfl⟩
    refine SL.as rfl <| SL.w (op_store ty65 rfl rfl (by repeat constructor) rfl rfl rfl) ?_
    rintro _ _ _ ⟨rfl, rfl⟩
    refine SL.nil <| T.drawG (own0 := [_, _]) (by kernel_rfl) 17 [.t 0, .t 1, .t 2, .t 3, .t 4, .t 5, .t 6, .t 7, .t 8, .t 9, .t 10, .t 11, .t 12, .t 13, .r 14, .r 15, .r 16] (by kernel_rfl) ?_
    refine SD.take rfl panicBody (op_move rfl) rfl rfl ?_
    refine SD.take rfl panicBody (op_move rfl) rfl rfl ?_
    refine SD.take rfl panicBody (op_nil rfl) rfl rfl ?_
    refine SD.take rfl panicBody (op_fieldAddr fa98_1 rfl) rfl rfl ?_
    refine SD.take rfl panicBody (op_load ty62 rfl (by repeat constructor) rfl) rfl rfl ?_
    refine SD.take rfl panicBody (op_move rfl) rfl rfl ?_
    refine SD.take rfl panicBody (op_load ty65 rfl (by repeat constructor) rfl) rfl rfl ?_
    refine SD.take rfl panicBody (op_move rfl) rfl rfl ?_
    refine SD.take rfl panicBody (op_nil rfl) rfl rfl ?_
    refine SD.take rfl panicBody (op_fieldAddr fa98_1 rfl) rfl rfl ?_
    refine SD.take rfl panicBody (op_loadX ty62 rfl hBo1 rfl) rfl rfl ?_
    refine SD.take rfl panicBody (op_move rfl) rfl rfl ?_
    refine SD.take rfl panicBody (op_indexN Tryz.underlying62 ty65 rfl rfl (by omega)) rfl rfl ?_
    refine SD.take rfl panicBody (op_loadX ty65 rfl hBr21 (creadR1 hcx2)) rfl rfl ?_
    refine SD.run rfl (op_call hE rfl (vs := [_, _]) rfl (hg (hx.mono hX02) (hx2.mono hX02))) rfl rfl ?_
    rintro _ _ X3 ⟨rfl, hX3, hS3⟩
    rw [hop] at hS3
    obtain ⟨A3, l3, c3, rfl⟩ := hS3.form
    refine SD.run rfl (op_buildSlice Tryz.underlying62 bs65 (qs := [(0, _)]) rfl rfl rfl rfl rfl) rfl rfl ?_
    rintro _ _ _ ⟨B46, rfl, rfl, rfl⟩
    refine SD.runK rfl (op_appendG (own0 := [_, _]) sl62 rfl hG rfl rfl rfl (by omega) (by omega)) (by rintro _ _ _ ⟨G', rfl, rfl, _⟩; exact ⟨fun p hp => List.mem_append_left _ hp, PMap.le_trans hX3 (PMap.le_refl _)⟩) rfl rfl ?_
    rintro s' _ _ ⟨G', rfl, rfl, hG'⟩
    refine SD.nil ?_
    show SL _ _ _ _ _ _ _ [_, _, _] _ _ _
    obtain ⟨As', cps', rfl⟩ := hG'.form
    refine SL.v (op_nil rfl) <| SL.v (op_fieldAddr fa98_1 rfl) <| SL.w (op_store ty62 rfl rfl (by repeat constructor) rfl rfl rfl) ?_
    rintro _ _ _ ⟨rfl, rfl⟩
    refine SL.nil <| T.blk <| T.region <| SL.v (op_addN (q := 1) rfl rfl (by omega)) ?_
    refine SL.mv rfl <| SL.nil <| T.drop B10 (by repeat constructor) ?_
    exact T.backW (ms.length - (k + 1)) (by omega) ⟨k + 1, _, _, G', rfl, by omega, hX2.trans' hX3, hG', by rw [List.take_succ_eq_append_getElem hkl]; exact (hC.mono hX3).snoc hS3, rfl, rfl⟩ (by repeat (first | exact Sub.nil | refine Sub.cons rfl ?_))
  · obtain rfl : k = ms.length := by omega
    rw [List.take_length] at hC
    refine T.seq <| T.region <| SL.v (op_lssF rfl rfl (by omega)) ?_
    refine SL.nil <| T.seq <| T.condF rfl ?_
    refine T.exit (T.exitCode (T.exitCut (T.exitBlk ?_)))
    refine T.seq <| T.region <| SL.mv rfl <| SL.as rfl <| SL.v (op_assign (v := .int .i64 ((0 : Nat) : Int)) rfl) <| SL.nil <| T.pubG (own0 := [_]) hG ?_
    intro X3 hX3 hS3
    refine T.pub B20 (by repeat constructor) ?_
    intro X4 hX4 hB4 _
    refine T.ret2 rfl (ResIs.tmp rfl) (ResIs.tmp rfl) ?_
    obtain ⟨A3, cap3, rfl⟩ := hG.form
    refine ⟨_, rfl, B20, A3, cap3, cs, rfl, hB4, (hC.mono hX3).mono hX4, fun h0 => ?_, hr, hc⟩
    obtain ⟨b, rfl, hb⟩ := hS3.blk h0
    exact ⟨b, rfl, hb.mono hX4⟩
theorem mor_spec {X : PMap} {v w : Value} {c : Nat} {ms : List Nat} (h : MatR X v c ms) (h' : MatR X w c ms) : Spec Tryz.prog 69 [v, w] X fun u X' => ∃ z, u = .tuple #[z, .int .i64 0] ∧ MatR X' z c ms := by
  refine Spec.enter Tryz.func69 rfl Tryz.ntmps69 rfl ?_
  intro w0 hw0
  refine T.seq <| T.region <| SL.as rfl <| SL.v (op_assign (v := .int .i64 ((0 : Nat) : Int)) rfl) <| SL.nil <| T.seq <| T.region <| SL.mv rfl <| SL.mv rfl <| SL.w (op_callF en87 (vs := [_, _, _]) rfl (combine_spec h h' 67 _ en67 (fun h h' => or_spec h h') (fun m => Nat.or_self m))) ?_
  rintro _ _ X1 ⟨rfl, hX1, z, rfl, hM⟩
  refine SL.v (op_extract rfl rfl) <| SL.v (op_extract rfl rfl) <| SL.as rfl <| SL.as rfl <| SL.nil <| T.ret2 rfl (ResIs.tmp rfl) (ResIs.tmp rfl) ?_
  exact ⟨_, rfl, hM⟩
theorem mand_spec {X : PMap} {v w : Value} {c : Nat} {ms : List Nat} (h : MatR X v c ms) (h' : MatR X w c ms) : Spec Tryz.prog 70 [v, w] X fun u X' => ∃ z, u = .tuple #[z, .int .i64 0] ∧ MatR X' z c ms := by
  refine Spec.enter Tryz.func70 rfl Tryz.ntmps70 rfl ?_
  intro w0 hw0
  refine T.seq <| T.region <| SL.as rfl <| SL.v (op_assign (v := .int .i64 ((0 : Nat) : Int)) rfl) <| SL.nil <| T.seq <| T.region <| SL.mv rfl <| SL.mv rfl <| SL.w (op_callF en87 (vs := [_, _, _]) rfl (combine_spec h h' 88 _ en88 (fun h h' => and_spec h h') (fun m => Nat.and_self m))) ?_
  rintro _ _ X1 ⟨rfl, hX1, z, rfl, hM⟩
  refine SL.v (op_extract rfl rfl) <| SL.v (op_extract rfl rfl) <| SL.as rfl <| SL.as rfl <| SL.nil <| T.ret2 rfl (ResIs.tmp rfl) (ResIs.tmp rfl) ?_
  exact ⟨_, rfl, hM⟩
end Go.Proofs.YtmfiencoefbjfaaGreatDoor
namespace Go.Proofs.YtmfiencoefbjfaaGreatDoor
section
set_option maxRecDepth 100000
theorem en13 : Enters Tryz.prog 13 := enters_mk Tryz.func13 (by kernel_rfl) rfl
theorem en29 : Enters Tryz.prog 29 := enters_mk Tryz.func29 (by kernel_rfl) rfl
theorem en33 : Enters Tryz.prog 33 := enters_mk Tryz.func33 (by kernel_rfl) rfl
theorem en35 : Enters Tryz.prog 35 := enters_mk Tryz.func35 (by kernel_rfl) rfl
theorem en36 : Enters Tryz.prog 36 := enters_mk Tryz.func36 (by kernel_rfl) rfl
theorem en69 : Enters Tryz.prog 69 := enters_mk Tryz.func69 (by kernel_rfl) rfl
theorem en70 : Enters Tryz.prog 70 := enters_mk Tryz.func70 (by kernel_rfl) rfl
theorem fa40_0 : FAdr Tryz.prog 40 0 0 := fadr_mk Tryz.underlying40 rfl rfl (by kernel_rfl)
theorem fa40_1 : FAdr Tryz.prog 40 1 1 := fadr_mk Tryz.underlying40 rfl rfl (by kernel_rfl)
theorem fa51_0 : FAdr Tryz.prog 51 0 0 := fadr_mk Tryz.underlying51 rfl rfl (by kernel_rfl)
theorem fa51_1 : FAdr Tryz.prog 51 1 1 := fadr_mk Tryz.underlying51 rfl rfl (by kernel_rfl)
theorem fa51_2 : FAdr Tryz.prog 51 2 2 := fadr_mk Tryz.underlying51 rfl rfl (by kernel_rfl)
theorem z40 : Zero Tryz.prog 40 [.pointer none, .pointer none] := ⟨zero_of (by kernel_rfl)⟩
theorem st40 : StT Tryz.prog 40 [(0, 1), (1, 1)] [.pointer none, .pointer none] := ⟨⟨_, Tryz.underlying40, fun _ => by kernel_rfl, z40⟩⟩
theorem ty40 : Ty Tryz.prog 40 true 2 := ⟨⟨_, Tryz.underlying40, rfl⟩, by kernel_rfl⟩
theorem ty49 : Ty Tryz.prog 49 false 1 := ⟨⟨_, Tryz.underlying49, rfl⟩, by kernel_rfl⟩
end
open Go.RowKit
/-- v is a configuration: users by roles, roles by c permissions. -/
def CfgR (X : PMap) (v : Value) (c : Nat) (S : List Nat × List Nat) : Prop := ∃ bu bp, v = .agg #[.pointer (some ⟨bu, 0, none⟩), .pointer (some ⟨bp, 0, none⟩)] ∧ bu ≠ bp ∧ Unf X bu ∧ Unf X bp ∧ MatR X (.pointer (some ⟨bu, 0, none⟩)) S.2.length S.1 ∧ MatR X (.pointer (some ⟨bp, 0, none⟩)) c S.2 ∧ ∀ m ∈ S.1, m < 2 ^ S.2.length
theorem CfgR.mono {X X' : PMap} {v : Value} {c : Nat} {S : List Nat × List Nat} (h : CfgR X v c S) (hX : X.le X') : CfgR X' v c S := by
  obtain ⟨bu, bp, h1, h2, h3, h4, h5, h6, h7⟩ := h
  exact ⟨bu, bp, h1, h2, h3.mono hX, h4.mono hX, h5.mono hX, h6.mono hX, h7⟩
/-- A configuration of which nothing is said but what its matrices hold. -/
def CfgW (X : PMap) (v : Value) (c : Nat) (S : List Nat × List Nat) : Prop := ∃ bu bp, v = .agg #[.pointer (some ⟨bu, 0, none⟩), .pointer (some ⟨bp, 0, none⟩)] ∧ MatR X (.pointer (some ⟨bu, 0, none⟩)) S.2.length S.1 ∧ MatR X (.pointer (some ⟨bp, 0, none⟩)) c S.2 ∧ ∀ m ∈ S.1, m < 2 ^ S.2.length
theorem CfgW.mono {X X' : PMap} {v : Value} {c : Nat} {S : List Nat × List Nat} (h : CfgW X v c S) (hX : X.le X') : CfgW X' v c S := by
  obtain ⟨bu, bp, h1, h5, h6, h7⟩ := h
  exact ⟨bu, bp, h1, h5.mono hX, h6.mono hX, h7⟩
theorem CfgR.w {X : PMap} {v : Value} {c : Nat} {S : List Nat × List Nat} (h : CfgR X v c S) : CfgW X v c S := by
  obtain ⟨bu, bp, h1, h2, h3, h4, h5, h6, h7⟩ := h
  exact ⟨bu, bp, h1, h5, h6, h7⟩
theorem checkC_spec {X : PMap} {v : Value} {c : Nat} {S : List Nat × List Nat} (h : CfgW X v c S) : Spec Tryz.prog 29 [v] X fun u _ => u = .int .i64 0 := by
  obtain ⟨bu, bp, rfl, hu, hp, _⟩ := h
  refine Spec.enter Tryz.func29 rfl Tryz.ntmps29 rfl ?_
  intro w0 hw0
  refine T.seq <| T.region <| SL.w (op_box rfl) ?_
  rintro _ _ _ ⟨B1, rfl, rfl, rfl⟩
  refine SL.v (op_assign (v := .int .i64 ((0 : Nat) : Int)) rfl) <| SL.nil <| T.seq <| T.seq <| T.draw (by kernel_rfl) 17 [.t 0, .t 1, .t 2, .t 3, .t 4, .t 5, .t 6, .t 7, .t 8, .t 9, .t 10, .t 12, .t 13, .r 11, .r 14, .t 15, .t 16] (by kernel_rfl) ?_
  refine SD.take rfl panicBody (op_fieldAddr fa40_0 rfl) rfl rfl ?_
  refine SD.take rfl panicBody (op_load ty26 rfl (by repeat constructor) rfl) rfl rfl ?_
  refine SD.take rfl panicBody (op_eqlNil Tryz.underlying26 rfl rfl) rfl rfl ?_
  refine SD.take rfl panicBody (op_move rfl) rfl rfl ?_
  refine SD.take rfl panicBody (op_fieldAddr fa40_1 rfl) rfl rfl ?_
  refine SD.take rfl panicBody (op_load ty26 rfl (by repeat constructor) rfl) rfl rfl ?_
  refine SD.take rfl panicBody (op_eqlNil Tryz.underlying26 rfl rfl) rfl rfl ?_
  refine SD.take rfl panicBody (op_pickF rfl rfl) rfl rfl ?_
  refine SD.take rfl panicBody (op_move rfl) rfl rfl ?_
  refine SD.take rfl panicBody (op_fieldAddr fa40_0 rfl) rfl rfl ?_
  refine SD.take rfl panicBody (op_load ty26 rfl (by repeat constructor) rfl) rfl rfl ?_
  refine SD.take rfl panicBody (op_fieldAddr fa40_1 rfl) rfl rfl ?_
  refine SD.take rfl panicBody (op_load ty26 rfl (by repeat constructor) rfl) rfl rfl ?_
  refine SD.run rfl (op_callF en22 (vs := [_]) rfl (columns_spec hu)) rfl rfl ?_
  rintro _ _ X1 ⟨rfl, hX1, rfl⟩
  refine SD.run rfl (op_callF en11 (vs := [_]) rfl (rows_spec (hp.mono hX1))) rfl rfl ?_
  rintro _ _ X2 ⟨rfl, hX2, rfl⟩
  refine SD.take rfl panicBody (op_neqF rfl rfl (by omega)) rfl rfl ?_
  refine SD.take rfl panicBody (op_pickF rfl rfl) rfl rfl ?_
  refine SD.nil ?_
  show SL _ _ _ _ _ _ _ [] _ _ _
  refine SL.nil <| T.condF rfl <| T.skip <| T.seq <| T.region <| SL.v (op_assign (v := .int .i64 ((0 : Nat) : Int)) rfl) <| SL.nil <| T.ret1 rfl (ResIs.tmp rfl) ?_
  rfl
theorem access_spec {X : PMap} (hT : Tab X) {v : Value} {c : Nat} {S : List Nat × List Nat} (h : CfgW X v c S) : Spec Tryz.prog 13 [v] X fun u X' => ∃ z, u = .tuple #[z, .int .i64 0] ∧ MatR X' z c (prodM S.1 S.2) := by
  have hh := h
  obtain ⟨bu, bp, rfl, hu, hp, hrow⟩ := h
  refine Spec.enter Tryz.func13 rfl Tryz.ntmps13 rfl ?_
  intro w0 hw0
  refine T.seq <| T.region <| SL.w (op_box rfl) ?_
  rintro _ _ _ ⟨B1, rfl, rfl, rfl⟩
  refine SL.as rfl <| SL.v (op_assign (v := .int .i64 ((0 : Nat) : Int)) rfl) <| SL.nil <| T.seq <| T.seq <| T.region <| SL.v (op_load ty40 rfl (by repeat constructor) rfl) ?_
  refine SL.w (op_callF en29 (vs := [_]) rfl (checkC_spec hh)) ?_
  rintro _ _ X1 ⟨rfl, hX1, rfl⟩
  refine SL.as rfl <| SL.nil <| T.seq <| T.region <| SL.mv rfl <| SL.v (op_neqF rfl rfl (by omega)) ?_
  refine SL.nil <| T.condF rfl <| T.skip <| T.seq <| T.region <| SL.v (op_fieldAddr fa40_0 rfl) <| SL.v (op_load ty26 rfl (by repeat constructor) rfl) ?_
  refine SL.v (op_fieldAddr fa40_1 rfl) <| SL.v (op_load ty26 rfl (by repeat constructor) rfl) ?_
  refine SL.w (op_callF en36 (vs := [_, _]) rfl (product_spec (hT.mono hX1) (hu.mono hX1) (hp.mono hX1) hrow)) ?_
  rintro _ _ X2 ⟨rfl, hX2, z, rfl, hz⟩
  refine SL.v (op_extract rfl rfl) <| SL.v (op_extract rfl rfl) <| SL.as rfl <| SL.as rfl <| SL.nil <| T.ret2 rfl (ResIs.tmp rfl) (ResIs.tmp rfl) ?_
  exact ⟨z, rfl, hz⟩
theorem elemB_rel {c i j : Nat} {ms : List Nat} (hi : i < ms.length) (hj : j < c) : elemB c ms (i : Int) (j : Int) = Rel ms i j := by
  rw [elemB, insideB_at hi hj, Bool.true_and]
  rfl
theorem of_spec' {X : PMap} {bu bp : Nat} (usr one : Bool) : Spec Tryz.prog 33 [.agg #[.pointer (some ⟨bu, 0, none⟩), .pointer (some ⟨bp, 0, none⟩)], .int .u8 (kindN usr one : Int)] X fun u _ => u = .pointer (some ⟨if usr then bu else bp, 0, none⟩) := by
  cases usr <;> cases one
  · refine Spec.enter Tryz.func33 rfl Tryz.ntmps33 rfl ?_
    intro w0 hw0
    refine T.seq <| T.region <| SL.w (op_box rfl) ?_
    rintro _ _ _ ⟨B2, rfl, rfl, rfl⟩
    refine SL.as rfl <| SL.nil <| T.seq <| T.seq <| T.region <| SL.mv rfl <| SL.v (op_eql rfl rfl) <| SL.mv rfl <| SL.mv rfl <| SL.v (op_eql rfl rfl) <| SL.v (op_pickF rfl rfl) <| SL.nil <| T.condF rfl <| T.skip <| T.seq ?_
    refine T.region <| SL.v (op_fieldAddr fa40_1 rfl) <| SL.v (op_load ty26 rfl (by repeat constructor) rfl) ?_
    refine SL.as rfl <| SL.nil <| T.ret1 rfl (ResIs.tmp rfl) ?_
    rfl
  · refine Spec.enter Tryz.func33 rfl Tryz.ntmps33 rfl ?_
    intro w0 hw0
    refine T.seq <| T.region <| SL.w (op_box rfl) ?_
    rintro _ _ _ ⟨B2, rfl, rfl, rfl⟩
    refine SL.as rfl <| SL.nil <| T.seq <| T.seq <| T.region <| SL.mv rfl <| SL.v (op_eql rfl rfl) <| SL.mv rfl <| SL.mv rfl <| SL.v (op_eql rfl rfl) <| SL.v (op_pickF rfl rfl) <| SL.nil <| T.condF rfl <| T.skip <| T.seq ?_
    refine T.region <| SL.v (op_fieldAddr fa40_1 rfl) <| SL.v (op_load ty26 rfl (by repeat constructor) rfl) ?_
    refine SL.as rfl <| SL.nil <| T.ret1 rfl (ResIs.tmp rfl) ?_
    rfl
  · refine Spec.enter Tryz.func33 rfl Tryz.ntmps33 rfl ?_
    intro w0 hw0
    refine T.seq <| T.region <| SL.w (op_box rfl) ?_
    rintro _ _ _ ⟨B2, rfl, rfl, rfl⟩
    refine SL.as rfl <| SL.nil <| T.seq <| T.seq <| T.region <| SL.mv rfl <| SL.v (op_eql rfl rfl) <| SL.mv rfl <| SL.mv rfl <| SL.v (op_eql rfl rfl) <| SL.v (op_pickF rfl rfl) <| SL.nil <| T.condT rfl <| T.seq <| T.region ?_
    refine SL.v (op_fieldAddr fa40_0 rfl) <| SL.v (op_load ty26 rfl (by repeat constructor) rfl) ?_
    refine SL.as rfl <| SL.nil <| T.ret1 rfl (ResIs.tmp rfl) ?_
    rfl
  · refine Spec.enter Tryz.func33 rfl Tryz.ntmps33 rfl ?_
    intro w0 hw0
    refine T.seq <| T.region <| SL.w (op_box rfl) ?_
    rintro _ _ _ ⟨B2, rfl, rfl, rfl⟩
    refine SL.as rfl <| SL.nil <| T.seq <| T.seq <| T.region <| SL.mv rfl <| SL.v (op_eql rfl rfl) <| SL.mv rfl <| SL.skip rfl rfl ?_
    refine SL.skip rfl rfl ?_
    refine SL.v (op_pickT rfl rfl) <| SL.nil <| T.condT rfl <| T.seq <| T.region <| SL.v (op_fieldAddr fa40_0 rfl) <| SL.v (op_load ty26 rfl (by repeat constructor) rfl) ?_
    refine SL.as rfl <| SL.nil <| T.ret1 rfl (ResIs.tmp rfl) ?_
    rfl
/-- A step, as a value. -/
abbrev stpV (s : Stp) : Value := .agg #[.int .u8 (kindN s.1 s.2.1 : Int), .int .i64 (s.2.2.1 : Int), .int .i64 (s.2.2.2 : Int)]
theorem setB_lt {one : Bool} {ms : List Nat} {n i j : Nat} (h : ∀ m ∈ ms, m < 2 ^ n) (hj : j < n) : ∀ m ∈ setB one ms i j, m < 2 ^ n := fun m hm => by
  have hg : ms.getD i 0 < 2 ^ n := by
    rw [List.getD_eq_getElem?_getD]
    cases hh : ms[i]? with
    | none => simp [Nat.two_pow_pos]
    | some q => exact h q (List.mem_of_getElem? hh)
  rcases List.mem_or_eq_of_mem_set hm with h1 | rfl
  · exact h m h1
  · split
    · exact Nat.or_lt_two_pow hg (Nat.pow_lt_pow_right (a := 2) (by omega) hj)
    · exact Nat.lt_of_le_of_lt Nat.and_le_left hg
theorem apply_spec {X : PMap} {v : Value} {c : Nat} {S : List Nat × List Nat} (h : CfgR X v c S) (s : Stp) (hs : okStp S.2.length c S s) : Spec Tryz.prog 12 [v, stpV s] X fun u X' => ∃ z, u = .tuple #[z, .int .i64 0] ∧ CfgR X' z c (stepM S s) := by
  have hw := h.w
  obtain ⟨bu, bp, rfl, hne, hUu, hUp, hu, hp, hrow⟩ := h
  obtain ⟨usr, one, i, j⟩ := s
  obtain ⟨hru, hcu⟩ := hu.lens
  obtain ⟨hrp, hcp⟩ := hp.lens
  cases usr <;> cases one
  · obtain ⟨hi, hj, hrel⟩ : i < S.2.length ∧ j < c ∧ Rel S.2 i j = true := hs
    show Spec Tryz.prog 12 [_, .agg #[.int .u8 4, .int .i64 (i : Int), .int .i64 (j : Int)]] X _
    refine Spec.enter Tryz.func12 rfl Tryz.ntmps12 rfl ?_
    intro w0 hw0
    refine T.seq <| T.region <| SL.w (op_box rfl) ?_
    rintro _ _ _ ⟨B2, rfl, rfl, rfl⟩
    refine SL.w (op_box rfl) ?_
    rintro _ _ _ ⟨B3, rfl, rfl, rfl⟩
    refine SL.w (op_alloc z40) ?_
    rintro _ _ _ ⟨B4, rfl, rfl, rfl⟩
    refine SL.v (op_assign (v := .int .i64 ((0 : Nat) : Int)) rfl) <| SL.nil <| T.seq <| T.seq <| T.region <| SL.v (op_load ty40 rfl (by repeat constructor) rfl) ?_
    refine SL.w (op_callF en29 (vs := [_]) rfl (checkC_spec hw)) ?_
    rintro _ _ X1 ⟨rfl, hX1, rfl⟩
    refine SL.as rfl <| SL.nil <| T.seq <| T.region <| SL.mv rfl <| SL.v (op_neqF rfl rfl (by omega)) ?_
    refine SL.nil <| T.condF rfl <| T.skip <| T.seq <| T.seq <| T.region <| SL.v (op_fieldAddr fa51_0 rfl) <| SL.v (op_load ty49 rfl (by repeat constructor) rfl) ?_
    refine SL.v (op_lssF rfl rfl (by omega)) ?_
    refine SL.mv rfl <| SL.v (op_fieldAddr fa51_0 rfl) <| SL.v (op_load ty49 rfl (by repeat constructor) rfl) ?_
    refine SL.v (op_gtrF rfl rfl (by omega)) ?_
    refine SL.v (op_pickF rfl rfl) <| SL.nil <| T.condF rfl <| T.skip <| T.seq <| T.region <| SL.v (op_load ty40 rfl (by repeat constructor) rfl) ?_
    refine SL.v (op_fieldAddr fa51_0 rfl) <| SL.v (op_load ty49 rfl (by repeat constructor) rfl) ?_
    refine SL.w (op_callF en33 (vs := [_, _]) rfl (of_spec' false false)) ?_
    rintro _ _ X2 ⟨rfl, hX2, rfl⟩
    have hX02 := hX1.trans' hX2
    refine SL.as rfl <| SL.nil <| T.seq <| T.region <| SL.v (op_fieldAddr fa51_0 rfl) <| SL.v (op_load ty49 rfl (by repeat constructor) rfl) ?_
    refine SL.v (op_eqlF rfl rfl (by omega)) ?_
    refine SL.mv rfl <| SL.v (op_fieldAddr fa51_0 rfl) <| SL.v (op_load ty49 rfl (by repeat constructor) rfl) ?_
    refine SL.v (op_eqlF rfl rfl (by omega)) ?_
    refine SL.v (op_pickF rfl rfl) <| SL.as rfl <| SL.nil <| T.seq <| T.seq <| T.draw (by kernel_rfl) 22 [.t 0, .t 1, .t 2, .t 3, .t 4, .t 5, .t 6, .r 7, .t 8, .t 9, .t 10, .t 11, .t 12, .t 13, .t 14, .t 15, .t 16, .t 17, .t 18, .r 19, .t 20, .t 21] (by kernel_rfl) ?_
    refine SD.take rfl panicBody (op_fieldAddr fa51_1 rfl) rfl rfl ?_
    refine SD.take rfl panicBody (op_load ty3 rfl (by repeat constructor) rfl) rfl rfl ?_
    refine SD.take rfl panicBody (op_lssF rfl rfl (by omega)) rfl rfl ?_
    refine SD.take rfl panicBody (op_move rfl) rfl rfl ?_
    refine SD.take rfl panicBody (op_fieldAddr fa51_1 rfl) rfl rfl ?_
    refine SD.take rfl panicBody (op_load ty3 rfl (by repeat constructor) rfl) rfl rfl ?_
    refine SD.take rfl panicBody (op_move rfl) rfl rfl ?_
    refine SD.run rfl (op_callF en11 (vs := [_]) rfl (rows_spec (hp.mono hX02))) rfl rfl ?_
    rintro _ _ X3 ⟨rfl, hX3, rfl⟩
    refine SD.take rfl panicBody (op_geqF rfl rfl (by omega)) rfl rfl ?_
    refine SD.take rfl panicBody (op_pickF rfl rfl) rfl rfl ?_
    refine SD.take rfl panicBody (op_move rfl) rfl rfl ?_
    refine SD.take rfl panicBody (op_fieldAddr fa51_2 rfl) rfl rfl ?_
    refine SD.take rfl panicBody (op_load ty3 rfl (by repeat constructor) rfl) rfl rfl ?_
    refine SD.take rfl panicBody (op_lssF rfl rfl (by omega)) rfl rfl ?_
    refine SD.take rfl panicBody (op_pickF rfl rfl) rfl rfl ?_
    refine SD.take rfl panicBody (op_move rfl) rfl rfl ?_
    refine SD.take rfl panicBody (op_fieldAddr fa51_2 rfl) rfl rfl ?_
    refine SD.take rfl panicBody (op_load ty3 rfl (by repeat constructor) rfl) rfl rfl ?_
    refine SD.take rfl panicBody (op_move rfl) rfl rfl ?_
    refine SD.run rfl (op_callF en22 (vs := [_]) rfl (columns_spec ((hp.mono hX02).mono hX3))) rfl rfl ?_
    rintro _ _ X4 ⟨rfl, hX4, rfl⟩
    have hX04 := (hX02.trans' hX3).trans' hX4
    refine SD.take rfl panicBody (op_geqF rfl rfl (by omega)) rfl rfl ?_
    refine SD.take rfl panicBody (op_pickF rfl rfl) rfl rfl ?_
    refine SD.nil ?_
    show SL _ _ _ _ _ _ _ [] _ _ _
    refine SL.nil <| T.condF rfl <| T.skip <| T.seq <| T.seq <| T.region <| SL.mv rfl <| SL.v (op_fieldAddr fa51_1 rfl) <| SL.v (op_load ty3 rfl (by repeat constructor) rfl) ?_
    refine SL.v (op_fieldAddr fa51_2 rfl) <| SL.v (op_load ty3 rfl (by repeat constructor) rfl) ?_
    refine SL.w (op_callF en34 (vs := [_, _, _]) rfl (mhas_spec (hp.mono hX04) (i : Int) (j : Int))) ?_
    rintro _ _ X5 ⟨rfl, hX5, rfl⟩
    rw [elemB_rel hi hj, hrel]
    have hX05 := hX04.trans' hX5
    refine SL.mv rfl <| SL.v (op_eqlB Tryz.underlying4 rfl rfl) <| SL.nil <| T.condF rfl <| T.skip <| T.seq <| T.region <| SL.mv rfl <| SL.v (op_fieldAddr fa51_1 rfl) <| SL.v (op_load ty3 rfl (by repeat constructor) rfl) ?_
    refine SL.v (op_fieldAddr fa51_2 rfl) <| SL.v (op_load ty3 rfl (by repeat constructor) rfl) ?_
    refine SL.mv rfl <| SL.w (op_callF en35 (vs := [_, _, _, _]) rfl (mset_spec (hp.mono hX05) hi hj false)) ?_
    rintro _ _ X6 ⟨rfl, hX6, b6, rfl, hb6, hU6, hM6⟩
    have hX06 := hX05.trans' hX6
    have hneu : bu ≠ b6 := fun e => by subst e; obtain ⟨c0, t0, g0⟩ := hUu.mono hX05; rw [hb6] at g0; cases g0
    refine SL.mv rfl <| SL.v (op_extract rfl rfl) <| SL.v (op_extract rfl rfl) <| SL.as rfl <| SL.as rfl <| SL.nil <| T.seq <| T.seq <| T.region <| SL.mv rfl <| SL.v (op_neqF rfl rfl (by omega)) ?_
    refine SL.nil <| T.condF rfl <| T.skip <| T.seq <| T.seq <| T.region <| SL.mv rfl <| SL.v (op_fieldAddr fa40_0 rfl) <| SL.v (op_load ty26 rfl (by repeat constructor) rfl) ?_
    refine SL.v (op_eqlOther Tryz.underlying26 (size := 1) (by kernel_rfl) rfl rfl (Ne.symm hne) (hUp.mono hX06) (hUu.mono hX06)) ?_
    refine SL.nil <| T.condF rfl <| T.skip <| T.seq <| T.region <| SL.v (op_fieldAddr fa40_0 rfl) <| SL.v (op_load ty26 rfl (by repeat constructor) rfl) ?_
    refine SL.mv rfl <| SL.v (op_build st40 (qs := [(0, _), (1, _)]) rfl rfl) <| SL.w (op_store ty40 rfl rfl (by repeat constructor) rfl rfl rfl) ?_
    rintro _ _ _ ⟨rfl, rfl⟩
    refine SL.v (op_assign (v := .int .i64 ((0 : Nat) : Int)) rfl) <| SL.nil <| T.ret2 rfl (ResIs.cell rfl ty40 (by repeat constructor) rfl) (ResIs.tmp rfl) ?_
    exact ⟨_, rfl, ⟨bu, b6, rfl, hneu, hUu.mono hX06, hU6, (show MatR X6 _ (setB false S.2 i j).length S.1 by rw [setB_len]; exact hu.mono hX06), (show MatR X6 _ c (setB false S.2 i j) from hM6), (show ∀ m ∈ S.1, m < 2 ^ (setB false S.2 i j).length by rw [setB_len]; exact hrow)⟩⟩
  · obtain ⟨hi, hj, hrel⟩ : i < S.2.length ∧ j < c ∧ Rel S.2 i j = false := hs
    show Spec Tryz.prog 12 [_, .agg #[.int .u8 3, .int .i64 (i : Int), .int .i64 (j : Int)]] X _
    refine Spec.enter Tryz.func12 rfl Tryz.ntmps12 rfl ?_
    intro w0 hw0
    refine T.seq <| T.region <| SL.w (op_box rfl) ?_
    rintro _ _ _ ⟨B2, rfl, rfl, rfl⟩
    refine SL.w (op_box rfl) ?_
    rintro _ _ _ ⟨B3, rfl, rfl, rfl⟩
    refine SL.w (op_alloc z40) ?_
    rintro _ _ _ ⟨B4, rfl, rfl, rfl⟩
    refine SL.v (op_assign (v := .int .i64 ((0 : Nat) : Int)) rfl) <| SL.nil <| T.seq <| T.seq <| T.region <| SL.v (op_load ty40 rfl (by repeat constructor) rfl) ?_
    refine SL.w (op_callF en29 (vs := [_]) rfl (checkC_spec hw)) ?_
    rintro _ _ X1 ⟨rfl, hX1, rfl⟩
    refine SL.as rfl <| SL.nil <| T.seq <| T.region <| SL.mv rfl <| SL.v (op_neqF rfl rfl (by omega)) ?_
    refine SL.nil <| T.condF rfl <| T.skip <| T.seq <| T.seq <| T.region <| SL.v (op_fieldAddr fa51_0 rfl) <| SL.v (op_load ty49 rfl (by repeat constructor) rfl) ?_
    refine SL.v (op_lssF rfl rfl (by omega)) ?_
    refine SL.mv rfl <| SL.v (op_fieldAddr fa51_0 rfl) <| SL.v (op_load ty49 rfl (by repeat constructor) rfl) ?_
    refine SL.v (op_gtrF rfl rfl (by omega)) ?_
    refine SL.v (op_pickF rfl rfl) <| SL.nil <| T.condF rfl <| T.skip <| T.seq <| T.region <| SL.v (op_load ty40 rfl (by repeat constructor) rfl) ?_
    refine SL.v (op_fieldAddr fa51_0 rfl) <| SL.v (op_load ty49 rfl (by repeat constructor) rfl) ?_
    refine SL.w (op_callF en33 (vs := [_, _]) rfl (of_spec' false true)) ?_
    rintro _ _ X2 ⟨rfl, hX2, rfl⟩
    have hX02 := hX1.trans' hX2
    refine SL.as rfl <| SL.nil <| T.seq <| T.region <| SL.v (op_fieldAddr fa51_0 rfl) <| SL.v (op_load ty49 rfl (by repeat constructor) rfl) ?_
    refine SL.v (op_eqlF rfl rfl (by omega)) ?_
    refine SL.mv rfl <| SL.v (op_fieldAddr fa51_0 rfl) <| SL.v (op_load ty49 rfl (by repeat constructor) rfl) ?_
    refine SL.v (op_eqlT rfl rfl (by omega)) ?_
    refine SL.v (op_pickF rfl rfl) <| SL.as rfl <| SL.nil <| T.seq <| T.seq <| T.draw (by kernel_rfl) 22 [.t 0, .t 1, .t 2, .t 3, .t 4, .t 5, .t 6, .r 7, .t 8, .t 9, .t 10, .t 11, .t 12, .t 13, .t 14, .t 15, .t 16, .t 17, .t 18, .r 19, .t 20, .t 21] (by kernel_rfl) ?_
    refine SD.take rfl panicBody (op_fieldAddr fa51_1 rfl) rfl rfl ?_
    refine SD.take rfl panicBody (op_load ty3 rfl (by repeat constructor) rfl) rfl rfl ?_
    refine SD.take rfl panicBody (op_lssF rfl rfl (by omega)) rfl rfl ?_
    refine SD.take rfl panicBody (op_move rfl) rfl rfl ?_
    refine SD.take rfl panicBody (op_fieldAddr fa51_1 rfl) rfl rfl ?_
    refine SD.take rfl panicBody (op_load ty3 rfl (by repeat constructor) rfl) rfl rfl ?_
    refine SD.take rfl panicBody (op_move rfl) rfl rfl ?_
    refine SD.run rfl (op_callF en11 (vs := [_]) rfl (rows_spec (hp.mono hX02))) rfl rfl ?_
    rintro _ _ X3 ⟨rfl, hX3, rfl⟩
    refine SD.take rfl panicBody (op_geqF rfl rfl (by omega)) rfl rfl ?_
    refine SD.take rfl panicBody (op_pickF rfl rfl) rfl rfl ?_
    refine SD.take rfl panicBody (op_move rfl) rfl rfl ?_
    refine SD.take rfl panicBody (op_fieldAddr fa51_2 rfl) rfl rfl ?_
    refine SD.take rfl panicBody (op_load ty3 rfl (by repeat constructor) rfl) rfl rfl ?_
    refine SD.take rfl panicBody (op_lssF rfl rfl (by omega)) rfl rfl ?_
    refine SD.take rfl panicBody (op_pickF rfl rfl) rfl rfl ?_
    refine SD.take rfl panicBody (op_move rfl) rfl rfl ?_
    refine SD.take rfl panicBody (op_fieldAddr fa51_2 rfl) rfl rfl ?_
    refine SD.take rfl panicBody (op_load ty3 rfl (by repeat constructor) rfl) rfl rfl ?_
    refine SD.take rfl panicBody (op_move rfl) rfl rfl ?_
    refine SD.run rfl (op_callF en22 (vs := [_]) rfl (columns_spec ((hp.mono hX02).mono hX3))) rfl rfl ?_
    rintro _ _ X4 ⟨rfl, hX4, rfl⟩
    have hX04 := (hX02.trans' hX3).trans' hX4
    refine SD.take rfl panicBody (op_geqF rfl rfl (by omega)) rfl rfl ?_
    refine SD.take rfl panicBody (op_pickF rfl rfl) rfl rfl ?_
    refine SD.nil ?_
    show SL _ _ _ _ _ _ _ [] _ _ _
    refine SL.nil <| T.condF rfl <| T.skip <| T.seq <| T.seq <| T.region <| SL.mv rfl <| SL.v (op_fieldAddr fa51_1 rfl) <| SL.v (op_load ty3 rfl (by repeat constructor) rfl) ?_
    refine SL.v (op_fieldAddr fa51_2 rfl) <| SL.v (op_load ty3 rfl (by repeat constructor) rfl) ?_
    refine SL.w (op_callF en34 (vs := [_, _, _]) rfl (mhas_spec (hp.mono hX04) (i : Int) (j : Int))) ?_
    rintro _ _ X5 ⟨rfl, hX5, rfl⟩
    rw [elemB_rel hi hj, hrel]
    have hX05 := hX04.trans' hX5
    refine SL.mv rfl <| SL.v (op_eqlB Tryz.underlying4 rfl rfl) <| SL.nil <| T.condF rfl <| T.skip <| T.seq <| T.region <| SL.mv rfl <| SL.v (op_fieldAddr fa51_1 rfl) <| SL.v (op_load ty3 rfl (by repeat constructor) rfl) ?_
    refine SL.v (op_fieldAddr fa51_2 rfl) <| SL.v (op_load ty3 rfl (by repeat constructor) rfl) ?_
    refine SL.mv rfl <| SL.w (op_callF en35 (vs := [_, _, _, _]) rfl (mset_spec (hp.mono hX05) hi hj true)) ?_
    rintro _ _ X6 ⟨rfl, hX6, b6, rfl, hb6, hU6, hM6⟩
    have hX06 := hX05.trans' hX6
    have hneu : bu ≠ b6 := fun e => by subst e; obtain ⟨c0, t0, g0⟩ := hUu.mono hX05; rw [hb6] at g0; cases g0
    refine SL.mv rfl <| SL.v (op_extract rfl rfl) <| SL.v (op_extract rfl rfl) <| SL.as rfl <| SL.as rfl <| SL.nil <| T.seq <| T.seq <| T.region <| SL.mv rfl <| SL.v (op_neqF rfl rfl (by omega)) ?_
    refine SL.nil <| T.condF rfl <| T.skip <| T.seq <| T.seq <| T.region <| SL.mv rfl <| SL.v (op_fieldAddr fa40_0 rfl) <| SL.v (op_load ty26 rfl (by repeat constructor) rfl) ?_
    refine SL.v (op_eqlOther Tryz.underlying26 (size := 1) (by kernel_rfl) rfl rfl (Ne.symm hne) (hUp.mono hX06) (hUu.mono hX06)) ?_
    refine SL.nil <| T.condF rfl <| T.skip <| T.seq <| T.region <| SL.v (op_fieldAddr fa40_0 rfl) <| SL.v (op_load ty26 rfl (by repeat constructor) rfl) ?_
    refine SL.mv rfl <| SL.v (op_build st40 (qs := [(0, _), (1, _)]) rfl rfl) <| SL.w (op_store ty40 rfl rfl (by repeat constructor) rfl rfl rfl) ?_
    rintro _ _ _ ⟨rfl, rfl⟩
    refine SL.v (op_assign (v := .int .i64 ((0 : Nat) : Int)) rfl) <| SL.nil <| T.ret2 rfl (ResIs.cell rfl ty40 (by repeat constructor) rfl) (ResIs.tmp rfl) ?_
    exact ⟨_, rfl, ⟨bu, b6, rfl, hneu, hUu.mono hX06, hU6, (show MatR X6 _ (setB true S.2 i j).length S.1 by rw [setB_len]; exact hu.mono hX06), (show MatR X6 _ c (setB true S.2 i j) from hM6), (show ∀ m ∈ S.1, m < 2 ^ (setB true S.2 i j).length by rw [setB_len]; exact hrow)⟩⟩
  · obtain ⟨hi, hj, hrel⟩ : i < S.1.length ∧ j < S.2.length ∧ Rel S.1 i j = true := hs
    show Spec Tryz.prog 12 [_, .agg #[.int .u8 2, .int .i64 (i : Int), .int .i64 (j : Int)]] X _
    refine Spec.enter Tryz.func12 rfl Tryz.ntmps12 rfl ?_
    intro w0 hw0
    refine T.seq <| T.region <| SL.w (op_box rfl) ?_
    rintro _ _ _ ⟨B2, rfl, rfl, rfl⟩
    refine SL.w (op_box rfl) ?_
    rintro _ _ _ ⟨B3, rfl, rfl, rfl⟩
    refine SL.w (op_alloc z40) ?_
    rintro _ _ _ ⟨B4, rfl, rfl, rfl⟩
    refine SL.v (op_assign (v := .int .i64 ((0 : Nat) : Int)) rfl) <| SL.nil <| T.seq <| T.seq <| T.region <| SL.v (op_load ty40 rfl (by repeat constructor) rfl) ?_
    refine SL.w (op_callF en29 (vs := [_]) rfl (checkC_spec hw)) ?_
    rintro _ _ X1 ⟨rfl, hX1, rfl⟩
    refine SL.as rfl <| SL.nil <| T.seq <| T.region <| SL.mv rfl <| SL.v (op_neqF rfl rfl (by omega)) ?_
    refine SL.nil <| T.condF rfl <| T.skip <| T.seq <| T.seq <| T.region <| SL.v (op_fieldAddr fa51_0 rfl) <| SL.v (op_load ty49 rfl (by repeat constructor) rfl) ?_
    refine SL.v (op_lssF rfl rfl (by omega)) ?_
    refine SL.mv rfl <| SL.v (op_fieldAddr fa51_0 rfl) <| SL.v (op_load ty49 rfl (by repeat constructor) rfl) ?_
    refine SL.v (op_gtrF rfl rfl (by omega)) ?_
    refine SL.v (op_pickF rfl rfl) <| SL.nil <| T.condF rfl <| T.skip <| T.seq <| T.region <| SL.v (op_load ty40 rfl (by repeat constructor) rfl) ?_
    refine SL.v (op_fieldAddr fa51_0 rfl) <| SL.v (op_load ty49 rfl (by repeat constructor) rfl) ?_
    refine SL.w (op_callF en33 (vs := [_, _]) rfl (of_spec' true false)) ?_
    rintro _ _ X2 ⟨rfl, hX2, rfl⟩
    have hX02 := hX1.trans' hX2
    refine SL.as rfl <| SL.nil <| T.seq <| T.region <| SL.v (op_fieldAddr fa51_0 rfl) <| SL.v (op_load ty49 rfl (by repeat constructor) rfl) ?_
    refine SL.v (op_eqlF rfl rfl (by omega)) ?_
    refine SL.mv rfl <| SL.v (op_fieldAddr fa51_0 rfl) <| SL.v (op_load ty49 rfl (by repeat constructor) rfl) ?_
    refine SL.v (op_eqlF rfl rfl (by omega)) ?_
    refine SL.v (op_pickF rfl rfl) <| SL.as rfl <| SL.nil <| T.seq <| T.seq <| T.draw (by kernel_rfl) 22 [.t 0, .t 1, .t 2, .t 3, .t 4, .t 5, .t 6, .r 7, .t 8, .t 9, .t 10, .t 11, .t 12, .t 13, .t 14, .t 15, .t 16, .t 17, .t 18, .r 19, .t 20, .t 21] (by kernel_rfl) ?_
    refine SD.take rfl panicBody (op_fieldAddr fa51_1 rfl) rfl rfl ?_
    refine SD.take rfl panicBody (op_load ty3 rfl (by repeat constructor) rfl) rfl rfl ?_
    refine SD.take rfl panicBody (op_lssF rfl rfl (by omega)) rfl rfl ?_
    refine SD.take rfl panicBody (op_move rfl) rfl rfl ?_
    refine SD.take rfl panicBody (op_fieldAddr fa51_1 rfl) rfl rfl ?_
    refine SD.take rfl panicBody (op_load ty3 rfl (by repeat constructor) rfl) rfl rfl ?_
    refine SD.take rfl panicBody (op_move rfl) rfl rfl ?_
    refine SD.run rfl (op_callF en11 (vs := [_]) rfl (rows_spec (hu.mono hX02))) rfl rfl ?_
    rintro _ _ X3 ⟨rfl, hX3, rfl⟩
    refine SD.take rfl panicBody (op_geqF rfl rfl (by omega)) rfl rfl ?_
    refine SD.take rfl panicBody (op_pickF rfl rfl) rfl rfl ?_
    refine SD.take rfl panicBody (op_move rfl) rfl rfl ?_
    refine SD.take rfl panicBody (op_fieldAddr fa51_2 rfl) rfl rfl ?_
    refine SD.take rfl panicBody (op_load ty3 rfl (by repeat constructor) rfl) rfl rfl ?_
    refine SD.take rfl panicBody (op_lssF rfl rfl (by omega)) rfl rfl ?_
    refine SD.take rfl panicBody (op_pickF rfl rfl) rfl rfl ?_
    refine SD.take rfl panicBody (op_move rfl) rfl rfl ?_
    refine SD.take rfl panicBody (op_fieldAddr fa51_2 rfl) rfl rfl ?_
    refine SD.take rfl panicBody (op_load ty3 rfl (by repeat constructor) rfl) rfl rfl ?_
    refine SD.take rfl panicBody (op_move rfl) rfl rfl ?_
    refine SD.run rfl (op_callF en22 (vs := [_]) rfl (columns_spec ((hu.mono hX02).mono hX3))) rfl rfl ?_
    rintro _ _ X4 ⟨rfl, hX4, rfl⟩
    have hX04 := (hX02.trans' hX3).trans' hX4
    refine SD.take rfl panicBody (op_geqF rfl rfl (by omega)) rfl rfl ?_
    refine SD.take rfl panicBody (op_pickF rfl rfl) rfl rfl ?_
    refine SD.nil ?_
    show SL _ _ _ _ _ _ _ [] _ _ _
    refine SL.nil <| T.condF rfl <| T.skip <| T.seq <| T.seq <| T.region <| SL.mv rfl <| SL.v (op_fieldAddr fa51_1 rfl) <| SL.v (op_load ty3 rfl (by repeat constructor) rfl) ?_
    refine SL.v (op_fieldAddr fa51_2 rfl) <| SL.v (op_load ty3 rfl (by repeat constructor) rfl) ?_
    refine SL.w (op_callF en34 (vs := [_, _, _]) rfl (mhas_spec (hu.mono hX04) (i : Int) (j : Int))) ?_
    rintro _ _ X5 ⟨rfl, hX5, rfl⟩
    rw [elemB_rel hi hj, hrel]
    have hX05 := hX04.trans' hX5
    refine SL.mv rfl <| SL.v (op_eqlB Tryz.underlying4 rfl rfl) <| SL.nil <| T.condF rfl <| T.skip <| T.seq <| T.region <| SL.mv rfl <| SL.v (op_fieldAddr fa51_1 rfl) <| SL.v (op_load ty3 rfl (by repeat constructor) rfl) ?_
    refine SL.v (op_fieldAddr fa51_2 rfl) <| SL.v (op_load ty3 rfl (by repeat constructor) rfl) ?_
    refine SL.mv rfl <| SL.w (op_callF en35 (vs := [_, _, _, _]) rfl (mset_spec (hu.mono hX05) hi hj false)) ?_
    rintro _ _ X6 ⟨rfl, hX6, b6, rfl, hb6, hU6, hM6⟩
    have hX06 := hX05.trans' hX6
    have hneu : b6 ≠ bp := fun e => by subst e; obtain ⟨c0, t0, g0⟩ := hUp.mono hX05; rw [hb6] at g0; cases g0
    refine SL.mv rfl <| SL.v (op_extract rfl rfl) <| SL.v (op_extract rfl rfl) <| SL.as rfl <| SL.as rfl <| SL.nil <| T.seq <| T.seq <| T.region <| SL.mv rfl <| SL.v (op_neqF rfl rfl (by omega)) ?_
    refine SL.nil <| T.condF rfl <| T.skip <| T.seq <| T.seq <| T.region <| SL.mv rfl <| SL.v (op_fieldAddr fa40_0 rfl) <| SL.v (op_load ty26 rfl (by repeat constructor) rfl) ?_
    refine SL.v (op_eqlSame Tryz.underlying26 (size := 2) (by kernel_rfl) rfl rfl) ?_
    refine SL.nil <| T.condT rfl <| T.seq <| T.region <| SL.mv rfl <| SL.v (op_fieldAddr fa40_1 rfl) <| SL.v (op_load ty26 rfl (by repeat constructor) rfl) ?_
    refine SL.v (op_build st40 (qs := [(0, _), (1, _)]) rfl rfl) <| SL.w (op_store ty40 rfl rfl (by repeat constructor) rfl rfl rfl) ?_
    rintro _ _ _ ⟨rfl, rfl⟩
    refine SL.v (op_assign (v := .int .i64 ((0 : Nat) : Int)) rfl) <| SL.nil <| T.ret2 rfl (ResIs.cell rfl ty40 (by repeat constructor) rfl) (ResIs.tmp rfl) ?_
    exact ⟨_, rfl, ⟨b6, bp, rfl, hneu, hU6, hUp.mono hX06, (show MatR X6 _ S.2.length (setB false S.1 i j) from hM6), hp.mono hX06, setB_lt hrow hj⟩⟩
  · obtain ⟨hi, hj, hrel⟩ : i < S.1.length ∧ j < S.2.length ∧ Rel S.1 i j = false := hs
    show Spec Tryz.prog 12 [_, .agg #[.int .u8 1, .int .i64 (i : Int), .int .i64 (j : Int)]] X _
    refine Spec.enter Tryz.func12 rfl Tryz.ntmps12 rfl ?_
    intro w0 hw0
    refine T.seq <| T.region <| SL.w (op_box rfl) ?_
    rintro _ _ _ ⟨B2, rfl, rfl, rfl⟩
    refine SL.w (op_box rfl) ?_
    rintro _ _ _ ⟨B3, rfl, rfl, rfl⟩
    refine SL.w (op_alloc z40) ?_
    rintro _ _ _ ⟨B4, rfl, rfl, rfl⟩
    refine SL.v (op_assign (v := .int .i64 ((0 : Nat) : Int)) rfl) <| SL.nil <| T.seq <| T.seq <| T.region <| SL.v (op_load ty40 rfl (by repeat constructor) rfl) ?_
    refine SL.w (op_callF en29 (vs := [_]) rfl (checkC_spec hw)) ?_
    rintro _ _ X1 ⟨rfl, hX1, rfl⟩
    refine SL.as rfl <| SL.nil <| T.seq <| T.region <| SL.mv rfl <| SL.v (op_neqF rfl rfl (by omega)) ?_
    refine SL.nil <| T.condF rfl <| T.skip <| T.seq <| T.seq <| T.region <| SL.v (op_fieldAddr fa51_0 rfl) <| SL.v (op_load ty49 rfl (by repeat constructor) rfl) ?_
    refine SL.v (op_lssF rfl rfl (by omega)) ?_
    refine SL.mv rfl <| SL.v (op_fieldAddr fa51_0 rfl) <| SL.v (op_load ty49 rfl (by repeat constructor) rfl) ?_
    refine SL.v (op_gtrF rfl rfl (by omega)) ?_
    refine SL.v (op_pickF rfl rfl) <| SL.nil <| T.condF rfl <| T.skip <| T.seq <| T.region <| SL.v (op_load ty40 rfl (by repeat constructor) rfl) ?_
    refine SL.v (op_fieldAddr fa51_0 rfl) <| SL.v (op_load ty49 rfl (by repeat constructor) rfl) ?_
    refine SL.w (op_callF en33 (vs := [_, _]) rfl (of_spec' true true)) ?_
    rintro _ _ X2 ⟨rfl, hX2, rfl⟩
    have hX02 := hX1.trans' hX2
    refine SL.as rfl <| SL.nil <| T.seq <| T.region <| SL.v (op_fieldAddr fa51_0 rfl) <| SL.v (op_load ty49 rfl (by repeat constructor) rfl) ?_
    refine SL.v (op_eqlT rfl rfl (by omega)) ?_
    refine SL.mv rfl <| SL.skip rfl rfl ?_
    refine SL.skip rfl rfl ?_
    refine SL.skip rfl rfl ?_
    refine SL.v (op_pickT rfl rfl) <| SL.as rfl <| SL.nil <| T.seq <| T.seq <| T.draw (by kernel_rfl) 22 [.t 0, .t 1, .t 2, .t 3, .t 4, .t 5, .t 6, .r 7, .t 8, .t 9, .t 10, .t 11, .t 12, .t 13, .t 14, .t 15, .t 16, .t 17, .t 18, .r 19, .t 20, .t 21] (by kernel_rfl) ?_
    refine SD.take rfl panicBody (op_fieldAddr fa51_1 rfl) rfl rfl ?_
    refine SD.take rfl panicBody (op_load ty3 rfl (by repeat constructor) rfl) rfl rfl ?_
    refine SD.take rfl panicBody (op_lssF rfl rfl (by omega)) rfl rfl ?_
    refine SD.take rfl panicBody (op_move rfl) rfl rfl ?_
    refine SD.take rfl panicBody (op_fieldAddr fa51_1 rfl) rfl rfl ?_
    refine SD.take rfl panicBody (op_load ty3 rfl (by repeat constructor) rfl) rfl rfl ?_
    refine SD.take rfl panicBody (op_move rfl) rfl rfl ?_
    refine SD.run rfl (op_callF en11 (vs := [_]) rfl (rows_spec (hu.mono hX02))) rfl rfl ?_
    rintro _ _ X3 ⟨rfl, hX3, rfl⟩
    refine SD.take rfl panicBody (op_geqF rfl rfl (by omega)) rfl rfl ?_
    refine SD.take rfl panicBody (op_pickF rfl rfl) rfl rfl ?_
    refine SD.take rfl panicBody (op_move rfl) rfl rfl ?_
    refine SD.take rfl panicBody (op_fieldAddr fa51_2 rfl) rfl rfl ?_
    refine SD.take rfl panicBody (op_load ty3 rfl (by repeat constructor) rfl) rfl rfl ?_
    refine SD.take rfl panicBody (op_lssF rfl rfl (by omega)) rfl rfl ?_
    refine SD.take rfl panicBody (op_pickF rfl rfl) rfl rfl ?_
    refine SD.take rfl panicBody (op_move rfl) rfl rfl ?_
    refine SD.take rfl panicBody (op_fieldAddr fa51_2 rfl) rfl rfl ?_
    refine SD.take rfl panicBody (op_load ty3 rfl (by repeat constructor) rfl) rfl rfl ?_
    refine SD.take rfl panicBody (op_move rfl) rfl rfl ?_
    refine SD.run rfl (op_callF en22 (vs := [_]) rfl (columns_spec ((hu.mono hX02).mono hX3))) rfl rfl ?_
    rintro _ _ X4 ⟨rfl, hX4, rfl⟩
    have hX04 := (hX02.trans' hX3).trans' hX4
    refine SD.take rfl panicBody (op_geqF rfl rfl (by omega)) rfl rfl ?_
    refine SD.take rfl panicBody (op_pickF rfl rfl) rfl rfl ?_
    refine SD.nil ?_
    show SL _ _ _ _ _ _ _ [] _ _ _
    refine SL.nil <| T.condF rfl <| T.skip <| T.seq <| T.seq <| T.region <| SL.mv rfl <| SL.v (op_fieldAddr fa51_1 rfl) <| SL.v (op_load ty3 rfl (by repeat constructor) rfl) ?_
    refine SL.v (op_fieldAddr fa51_2 rfl) <| SL.v (op_load ty3 rfl (by repeat constructor) rfl) ?_
    refine SL.w (op_callF en34 (vs := [_, _, _]) rfl (mhas_spec (hu.mono hX04) (i : Int) (j : Int))) ?_
    rintro _ _ X5 ⟨rfl, hX5, rfl⟩
    rw [elemB_rel hi hj, hrel]
    have hX05 := hX04.trans' hX5
    refine SL.mv rfl <| SL.v (op_eqlB Tryz.underlying4 rfl rfl) <| SL.nil <| T.condF rfl <| T.skip <| T.seq <| T.region <| SL.mv rfl <| SL.v (op_fieldAddr fa51_1 rfl) <| SL.v (op_load ty3 rfl (by repeat constructor) rfl) ?_
    refine SL.v (op_fieldAddr fa51_2 rfl) <| SL.v (op_load ty3 rfl (by repeat constructor) rfl) ?_
    refine SL.mv rfl <| SL.w (op_callF en35 (vs := [_, _, _, _]) rfl (mset_spec (hu.mono hX05) hi hj true)) ?_
    rintro _ _ X6 ⟨rfl, hX6, b6, rfl, hb6, hU6, hM6⟩
    have hX06 := hX05.trans' hX6
    have hneu : b6 ≠ bp := fun e => by subst e; obtain ⟨c0, t0, g0⟩ := hUp.mono hX05; rw [hb6] at g0; cases g0
    refine SL.mv rfl <| SL.v (op_extract rfl rfl) <| SL.v (op_extract rfl rfl) <| SL.as rfl <| SL.as rfl <| SL.nil <| T.seq <| T.seq <| T.region <| SL.mv rfl <| SL.v (op_neqF rfl rfl (by omega)) ?_
    refine SL.nil <| T.condF rfl <| T.skip <| T.seq <| T.seq <| T.region <| SL.mv rfl <| SL.v (op_fieldAddr fa40_0 rfl) <| SL.v (op_load ty26 rfl (by repeat constructor) rfl) ?_
    refine SL.v (op_eqlSame Tryz.underlying26 (size := 2) (by kernel_rfl) rfl rfl) ?_
    refine SL.nil <| T.condT rfl <| T.seq <| T.region <| SL.mv rfl <| SL.v (op_fieldAddr fa40_1 rfl) <| SL.v (op_load ty26 rfl (by repeat constructor) rfl) ?_
    refine SL.v (op_build st40 (qs := [(0, _), (1, _)]) rfl rfl) <| SL.w (op_store ty40 rfl rfl (by repeat constructor) rfl rfl rfl) ?_
    rintro _ _ _ ⟨rfl, rfl⟩
    refine SL.v (op_assign (v := .int .i64 ((0 : Nat) : Int)) rfl) <| SL.nil <| T.ret2 rfl (ResIs.cell rfl ty40 (by repeat constructor) rfl) (ResIs.tmp rfl) ?_
    exact ⟨_, rfl, ⟨b6, bp, rfl, hneu, hU6, hUp.mono hX06, (show MatR X6 _ S.2.length (setB true S.1 i j) from hM6), hp.mono hX06, setB_lt hrow hj⟩⟩
theorem bounds_spec {X : PMap} (hT : Tab X) {v w : Value} {c : Nat} {S S' : List Nat × List Nat} {ms : List Nat} (h : CfgW X v c S) (h' : CfgW X w c S') (e1 : prodM S.1 S.2 = ms) (e2 : prodM S'.1 S'.2 = ms) : Spec Tryz.prog 38 [v, w] X fun u X' => ∃ y z, u = .tuple #[y, z, .int .i64 0] ∧ MatR X' y c ms ∧ MatR X' z c ms := by
  have hv := h
  have hv' := h'
  obtain ⟨bu, bp, rfl, _⟩ := h
  obtain ⟨bu', bp', rfl, _⟩ := h'
  refine Spec.enter Tryz.func38 rfl Tryz.ntmps38 rfl ?_
  intro w0 hw0
  refine T.seq <| T.region <| SL.w (op_box rfl) ?_
  rintro _ _ _ ⟨B2, rfl, rfl, rfl⟩
  refine SL.w (op_box rfl) ?_
  rintro _ _ _ ⟨B3, rfl, rfl, rfl⟩
  refine SL.as rfl <| SL.as rfl <| SL.v (op_assign (v := .int .i64 ((0 : Nat) : Int)) rfl) <| SL.nil <| T.seq <| T.region <| SL.v (op_load ty40 rfl (by repeat constructor) rfl) ?_
  refine SL.w (op_callF en13 (vs := [_]) rfl (access_spec hT hv)) ?_
  rintro _ _ X1 ⟨rfl, hX1, y1, rfl, h1⟩
  refine SL.mv rfl <| SL.v (op_extract rfl rfl) <| SL.v (op_extract rfl rfl) <| SL.as rfl <| SL.as rfl <| SL.nil <| T.seq <| T.seq <| T.region <| SL.mv rfl <| SL.v (op_neqF rfl rfl (by omega)) ?_
  refine SL.nil <| T.condF rfl <| T.skip <| T.seq <| T.region <| SL.v (op_load ty40 rfl (by repeat constructor) rfl) ?_
  refine SL.w (op_callF en13 (vs := [_]) rfl (access_spec (hT.mono hX1) (hv'.mono hX1))) ?_
  rintro _ _ X2 ⟨rfl, hX2, y2, rfl, h2⟩
  rw [e1] at h1
  rw [e2] at h2
  refine SL.mv rfl <| SL.v (op_extract rfl rfl) <| SL.v (op_extract rfl rfl) <| SL.as rfl <| SL.as rfl <| SL.nil <| T.seq <| T.seq <| T.region <| SL.mv rfl <| SL.v (op_neqF rfl rfl (by omega)) ?_
  refine SL.nil <| T.condF rfl <| T.skip <| T.seq <| T.seq <| T.region <| SL.mv rfl <| SL.mv rfl <| SL.w (op_callF en69 (vs := [_, _]) rfl (mor_spec (h1.mono hX2) h2)) ?_
  rintro _ _ X3 ⟨rfl, hX3, y3, rfl, h3⟩
  refine SL.mv rfl <| SL.v (op_extract rfl rfl) <| SL.v (op_extract rfl rfl) <| SL.as rfl <| SL.as rfl <| SL.nil <| T.seq <| T.region <| SL.mv rfl <| SL.v (op_neqF rfl rfl (by omega)) ?_
  refine SL.nil <| T.condF rfl <| T.skip <| T.seq <| T.region <| SL.mv rfl <| SL.mv rfl <| SL.w (op_callF en70 (vs := [_, _]) rfl (mand_spec ((h1.mono hX2).mono hX3) (h2.mono hX3))) ?_
  rintro _ _ X4 ⟨rfl, hX4, y4, rfl, h4⟩
  refine SL.mv rfl <| SL.v (op_extract rfl rfl) <| SL.v (op_extract rfl rfl) <| SL.as rfl <| SL.as rfl <| SL.nil <| T.seq <| T.region <| SL.mv rfl <| SL.mv rfl <| SL.mv rfl <| SL.as rfl <| SL.as rfl <| SL.as rfl <| SL.nil ?_
  refine T.ret3 rfl rfl rfl rfl ?_
  exact ⟨_, _, rfl, h3.mono hX4, h4⟩
end Go.Proofs.YtmfiencoefbjfaaGreatDoor
namespace Go.Proofs.YtmfiencoefbjfaaGreatDoor
open Go.RowKit Go.MapKept
section
variable {P : Program} {n : NM} {w0 : Base} {X0 X : PMap} {own : Own} {env : Env}
theorem PMap.add_at {b : Nat} {o : Obj} : X.add b o b = some o := by simp [PMap.add]
theorem PMap.add_ne {b k : Nat} {o : Obj} (h : k ≠ b) : X.add b o k = X k := by simp [PMap.add, h]
theorem PMap.le_add {b : Nat} {o : Obj} {Y : PMap} (h : Y.le X) (hb : Y b = none) : Y.le (X.add b o) := fun k q hk => by
  have hne : k ≠ b := fun e => by rw [e, hb] at hk; cases hk
  rw [PMap.add_ne hne]; exact h k q hk
/-- A new block of any kind, public at once. -/
theorem Sat.lay {W : World} (h : Sat w0 X0 own X W) (o : Obj) : Sat w0 X0 own (X.add W.heap.size o) (W.alloc o) := by
  refine h.call ((Below.refl _ W).alloc (Nat.le_refl _) _) (fun k q hk => ?_) fun k hk => PMap.add_ne (Nat.ne_of_lt hk)
  by_cases e : k = W.heap.size
  · subst e; rw [PMap.add_at] at hk; cases hk; exact (heap_alloc W _).1
  · rw [PMap.add_ne e] at hk; exact (Grow.alloc W _).pin h.stab.pers k q hk
/-- A block of no own cells, new since the call began, is written anew. -/
theorem Sat.rewrite {W : World} (h : Sat w0 X0 own X W) {b : Nat} {o : Obj} (hb : X b = some o) (hn : w0.w.heap.size ≤ b) (o' : Obj) : Sat w0 X0 own (X.add b o') { W with heap := W.heap.setIfInBounds b o' } := by
  have hin := h.stab.pers b o hb
  obtain ⟨k1, k2⟩ := heap_set (o' := o') hin
  have hne : ∀ p ∈ own, p.b ≠ b := fun p hp e => by have := h.apart p hp; rw [e, hb] at this; cases this
  refine ⟨⟨⟨h.below.os, h.below.tape, h.below.output, by simpa using h.below.size, fun k hk => (k2 k (by omega)).trans (h.below.block k hk)⟩, fun k hk => (PMap.add_ne (by omega)).trans (h.old k hk), ⟨fun p hp => ?_, fun k q hk => ?_⟩, h.new, fun p hp => (PMap.add_ne (hne p hp)).trans (h.apart p hp), h.nodup⟩, fun p hp => ?_⟩
  · obtain ⟨r, h1, h2⟩ := h.stab.own p hp
    exact ⟨r, (k2 _ (hne p hp)).trans h1, h2⟩
  · by_cases e : k = b
    · subst e; rw [PMap.add_at] at hk; cases hk; exact k1
    · rw [PMap.add_ne e] at hk; exact (k2 k e).trans (h.stab.pers k q hk)
  · obtain ⟨g1, g2, g3, g4⟩ := h.res p hp
    have e : p.1 ≠ b := fun e => by rw [e, hb] at g2; cases g2
    exact ⟨(k2 _ e).trans g1, (PMap.add_ne e).trans g2, g3, g4⟩
/-- make of a map. -/
theorem op_makeMap {t : TypeId} : OpX P n w0 X0 env own X (.makeMap t none) true fun u own' X' => ∃ b, u = .map (some b) ∧ own = own' ∧ X b = none ∧ w0.w.heap.size ≤ b ∧ X' = X.add b (.map #[] 0) := by
  intro a W oper K Q ro hop ha hs hK
  have hex : (execOp a.eval oper).run P W = .ok (.value (.map (some W.heap.size))) (W.alloc (.map #[] 0)) := by
    simp [execOp, hop, Instr.makeMap, newObj, Sem.run, World.alloc_eq]
  exact wp_value (noDefer_spec (by rw [hop]; rfl)) hex (hK _ _ _ _ ⟨_, rfl, rfl, hs.stab.pers.fresh, hs.below.size, rfl⟩ (hs.lay _) fun _ => Grow.alloc W _)
end
end Go.Proofs.YtmfiencoefbjfaaGreatDoor
namespace Go.Proofs.YtmfiencoefbjfaaGreatDoor
open Go.RowKit Go.MapKept
def entsI : Nat → List Nat → List MapEntry
  | _, [] => []
  | b, k :: l => ⟨.int .i64 (k : Int), .bool true, b⟩ :: entsI (b + 1) l
theorem entsI_snoc (k : Nat) : ∀ (l : List Nat) (b : Nat), entsI b (l ++ [k]) = entsI b l ++ [⟨.int .i64 (k : Int), .bool true, b + l.length⟩]
  | [], b => rfl
  | x :: l, b => by
    rw [List.cons_append, entsI, entsI_snoc k l (b + 1), entsI, List.cons_append, List.length_cons]
    congr 4
    omega
def MapI (l : List Nat) : Obj := .map (entsI 0 l).toArray l.length
theorem findNow_int (k : Nat) : ∀ (l : List Nat) (b i : Nat), ∃ r, Instr.findNow (.int .i64) (.int .i64 (k : Int)) (entsI b l) i = some r ∧ (k ∉ l → r = none) ∧ (k ∈ l → ∃ q, r = some (q, .bool true))
  | [], b, i => ⟨none, rfl, fun _ => rfl, fun h => by cases h⟩
  | x :: l, b, i => by
    by_cases h : k = x
    · subst h
      exact ⟨some (i, .bool true), by simp [entsI, Instr.findNow, Instr.sameNow], fun h => absurd (by simp) h, fun _ => ⟨i, rfl⟩⟩
    · obtain ⟨r, h1, h2, h3⟩ := findNow_int k l (b + 1) (i + 1)
      have hb : ((k : Int) == (x : Int)) = false := by
        cases hq : ((k : Int) == (x : Int)) with
        | false => rfl
        | true => rw [beq_iff_eq] at hq; omega
      refine ⟨r, ?_, fun hm => h2 fun hk => hm (by simp [hk]), fun hm => ?_⟩
      · simp only [entsI, Instr.findNow, Instr.sameNow, hb, if_pos]; exact h1
      · rcases List.mem_cons.1 hm with e | hm
        · exact absurd e h
        · exact h3 hm
section
variable {P : Program} {n : NM} {w0 : Base} {X0 X : PMap} {own : Own} {env : Env}
/-- An operation that only reads, as one that changes nothing. -/
theorem OpY.toG {o : Op} {v : Value} (hn : noDefer o = true) (h : OpY P n env own X o v) : OpX P n w0 X0 env own X o true fun v' own' X' => v' = v ∧ own' = own ∧ X' = X := by
  intro a W oper K Q ro hop ha hs hK
  exact wp_value (noDefer_spec (by rw [hop]; exact hn)) (h a W _ hop ha hs.stab) (hK _ _ _ _ ⟨rfl, rfl, rfl⟩ hs fun _ => Grow.refl W)
/-- Is the number in the set? -/
theorem op_lookupI {xT kt et : TypeId} {x y : Operand} {b : Nat} {l : List Nat} {k : Nat} (ht : P.underlying xT = some (.map kt et)) (hk : P.underlying kt = some (.int .i64)) (hz : (P.info? et).bind (·.zero) = some (.bool false))
    (hx : eev env x = some (.map (some b))) (hy : eev env y = some (.int .i64 (k : Int))) (hm : X b = some (MapI l)) :
    OpY P n env own X (.lookup xT x y false) (.bool (decide (k ∈ l))) := by
  intro a W oper hop ha hst
  obtain ⟨i, hi, hiz⟩ := Option.bind_eq_some_iff.1 hz
  have hzr : (zeroValue et).run P W = .ok (.bool false) W := by simp [zeroValue, typeInfo, hi, hiz]
  obtain ⟨r, h1, h2, h3⟩ := findNow_int k l 0 0
  have hf : (Instr.findKey kt (.int .i64 (k : Int)) (entsI 0 l)).run P W = .ok r W := MapKept.run_findKey hk h1
  have hck : ∀ e, (Instr.checkKey e 10000 kt (.int .i64 (k : Int))).run P W = .ok () W := fun e => MapKept.run_checkKey hk (by rfl) e 9999
  have hb := hst.pers b _ hm
  simp only [MapI] at hb
  have hl : (Instr.lookup xT (.map (some b)) (.int .i64 (k : Int)) false).run P W = .ok (.bool (decide (k ∈ l))) W := by
    by_cases hkl : k ∈ l
    · obtain ⟨q, rfl⟩ := h3 hkl
      simp [Instr.lookup, run_underlying ht, MapKept.run_getObj_map hb, hck, hf, hkl, Result.andThen]
    · obtain rfl := h2 hkl
      simp [Instr.lookup, run_underlying ht, MapKept.run_getObj_map hb, hck, hf, hzr, hkl, Result.andThen]
  simp [execOp, hop, ha.eval hx, ha.eval hy, hl]
/-- A new number is put into a set of this call's own. -/
theorem op_putI {xT kt et : TypeId} {x y z : Operand} {b : Nat} {l : List Nat} {k : Nat} (ht : P.underlying xT = some (.map kt et)) (hk : P.underlying kt = some (.int .i64))
    (hx : eev env x = some (.map (some b))) (hy : eev env y = some (.int .i64 (k : Int))) (hz : eev env z = some (.bool true)) (hb : X b = some (MapI l)) (hn : w0.w.heap.size ≤ b) (hs : k ∉ l) :
    OpX P n w0 X0 env own X (.mapUpdate xT x y z) false fun _ own' X' => own = own' ∧ X' = X.add b (MapI (l ++ [k])) := by
  intro a W oper K Q ro hop ha hsat hK
  obtain ⟨r, h1, h2, _⟩ := findNow_int k l 0 0
  obtain rfl := h2 hs
  have hb' := hsat.stab.pers b _ hb
  simp only [MapI] at hb'
  have hf : (Instr.findKey kt (.int .i64 (k : Int)) (entsI 0 l)).run P W = .ok none W := MapKept.run_findKey hk h1
  have hck : ∀ e, (Instr.checkKey e 10000 kt (.int .i64 (k : Int))).run P W = .ok () W := fun e => MapKept.run_checkKey hk (by rfl) e 9999
  have hl : (Instr.mapUpdate xT (.map (some b)) (.int .i64 (k : Int)) (.bool true)).run P W = .ok () { W with heap := W.heap.setIfInBounds b (MapI (l ++ [k])) } := by
    have e : MapI (l ++ [k]) = .map ((entsI 0 l).toArray.push { key := .int .i64 (k : Int), val := .bool true, born := l.length }) (l.length + 1) := by
      simp [MapI, entsI_snoc]
    rw [e]
    simp [Instr.mapUpdate, run_underlying ht, MapKept.run_getObj_map hb', hck, hf, MapKept.run_setObj_map _ hb', Result.andThen]
  have hex : (execOp a.eval oper).run P W = .ok .skip { W with heap := W.heap.setIfInBounds b (MapI (l ++ [k])) } := by
    simp [execOp, hop, ha.eval hx, ha.eval hy, ha.eval hz, hl]
  exact wp_skipped (noDefer_spec (by rw [hop]; rfl)) hex (hK _ _ _ _ ⟨rfl, rfl⟩ (hsat.rewrite hb hn _) fun h => by cases h)
end
end Go.Proofs.YtmfiencoefbjfaaGreatDoor
namespace Go.Proofs.YtmfiencoefbjfaaGreatDoor
section
set_option maxRecDepth 100000
theorem en58 : Enters Tryz.prog 58 := enters_mk Tryz.func58 (by kernel_rfl) rfl
end
open Go.RowKit
theorem numL_snoc (po : List Nat) (x : Nat) : ∀ (l out : List Nat) (n : Nat), numL po (l ++ [x]) out n = ((numL po l out n).1 ++ [numAt po (numL po l out n).1 (numL po l out n).2 x], if numAt po (numL po l out n).1 (numL po l out n).2 x = (numL po l out n).2 then (numL po l out n).2 + 1 else (numL po l out n).2)
  | [], out, n => rfl
  | y :: l, out, n => by
    rw [List.cons_append, numL, numL_snoc po x l]
    rfl
theorem numAt_none {po out : List Nat} {n x : Nat} (h : ∀ k, k < po.length → ¬ (k ∉ out ∧ po.getD k 0 = x)) : numAt po out n x = n := by
  rcases numAt_cases po out n x with ⟨h1, h2, h3⟩ | h1
  · exact absurd ⟨h2, h3⟩ (h _ h1)
  · exact h1
theorem numAt_some {po out : List Nat} {n x q : Nat} (hq : q < po.length) (h1 : q ∉ out ∧ po.getD q 0 = x) (h : ∀ k, k < q → ¬ (k ∉ out ∧ po.getD k 0 = x)) : numAt po out n x = q := by
  unfold numAt
  have : (List.range po.length).find? (fun k => !decide (k ∈ out) && decide (po.getD k 0 = x)) = some q := by
    rw [List.find?_eq_some_iff_getElem]
    refine ⟨by rw [Bool.and_eq_true, Bool.not_eq_true', decide_eq_false_iff_not, decide_eq_true_eq]; exact h1, q, by simpa using hq, by simp, fun j hj => ?_⟩
    rw [List.getElem_range]
    have := h j hj
    rw [Bool.not_eq_true', Bool.and_eq_false_iff, Bool.not_eq_false', decide_eq_true_eq, decide_eq_false_iff_not]
    by_cases hm : j ∈ out
    · exact .inl hm
    · exact .inr fun e => this ⟨hm, e⟩
  rw [this]
  rfl
/-- The place that has been found. -/
def atV : Option Nat → Int
  | none => -1
  | some q => (q : Int)
/-- How far the old roles have been looked through. -/
def fndI (po out : List Nat) (x k : Nat) : Option Nat → Prop
  | none => ∀ j, j < k → ¬ (j ∉ out ∧ po.getD j 0 = x)
  | some q => k = q + 1 ∧ q < po.length ∧ (q ∉ out ∧ po.getD q 0 = x) ∧ ∀ j, j < q → ¬ (j ∉ out ∧ po.getD j 0 = x)
theorem fndI_no {po out : List Nat} {x k : Nat} (h : fndI po out x k none) (hk : ¬ (k ∉ out ∧ po.getD k 0 = x)) : fndI po out x (k + 1) none := fun j hj => by
  rcases Nat.lt_or_ge j k with h1 | h1
  · exact h j h1
  · obtain rfl : j = k := by omega
    exact hk
theorem numbers_spec {X : PMap} {v w : Value} {c : Nat} {S S' : List Nat × List Nat} (h : CfgW X v c S) (h' : CfgW X w c S') : Spec Tryz.prog 30 [v, w] X fun u X' => ∃ s, u = .tuple #[s, .int .i64 ((numL S.2 S'.2 [] S.2.length).2 : Int)] ∧ SliceR X' s (numL S.2 S'.2 [] S.2.length).1.length (ints (numL S.2 S'.2 [] S.2.length).1) := by
  obtain ⟨bu, bp, rfl, hu, hp, hrow⟩ := h
  obtain ⟨bu', bp', rfl, hu', hp', hrow'⟩ := h'
  obtain ⟨po, rfl⟩ : ∃ po, po = S.2 := ⟨_, rfl⟩
  obtain ⟨pn, hpn⟩ : ∃ pn, pn = S'.2 := ⟨_, rfl⟩
  rw [← hpn] at hp' ⊢
  generalize hpo : S.2 = po at *
  obtain ⟨hrp, hcp⟩ := hp.lens
  obtain ⟨hrn, hcn⟩ := hp'.lens
  have hmx : maxLen = 9223372036854775807 := rfl
  refine Spec.enter Tryz.func30 rfl Tryz.ntmps30 rfl ?_
  intro w0 hw0
  refine T.seq <| T.region <| SL.w (op_box rfl) ?_
  rintro _ _ _ ⟨B2, rfl, rfl, rfl⟩
  refine SL.w (op_box rfl) ?_
  rintro _ _ _ ⟨B3, rfl, rfl, rfl⟩
  refine SL.as rfl <| SL.v (op_assign (v := .int .i64 ((0 : Nat) : Int)) rfl) <| SL.nil <| T.seq <| T.region <| SL.x op_makeMap rfl rfl ?_
  rintro _ _ _ ⟨bm, rfl, rfl, hb0, hb1, rfl⟩
  have hY0 : X.le (X.add bm (.map #[] 0)) := PMap.le_add (PMap.le_refl X) hb0
  refine SL.as rfl <| SL.nil <| T.seq <| T.region <| SL.v (op_fieldAddr fa40_1 rfl) <| SL.v (op_load ty26 rfl (by repeat constructor) rfl) ?_
  refine SL.w (op_callF en11 (vs := [_]) rfl (rows_spec (hp.mono hY0))) ?_
  rintro _ _ X1 ⟨rfl, hX1, rfl⟩
  refine SL.as rfl <| SL.nil <| T.seq <| T.region <| SL.as rfl <| SL.nil <| T.seq <| T.seq <| T.region <| SL.v (op_fieldAddr fa40_1 rfl) <| SL.v (op_load ty26 rfl (by repeat constructor) rfl) ?_
  refine SL.w (op_callF en11 (vs := [_]) rfl (rows_spec ((hp'.mono hY0).mono hX1))) ?_
  rintro _ _ X2 ⟨rfl, hX2, rfl⟩
  refine SL.v (op_move (v := .int .i64 ((0 : Nat) : Int)) rfl) <| SL.nil <| T.block <| T.loopW (fun m env own X' => ∃ (r n : Nat) (out : List Nat) (s : Value) (G : Own), m = pn.length - r ∧ r ≤ pn.length ∧ X.le X' ∧ X' bm = some (MapI out) ∧ numL po (pn.take r) [] po.length = (out, n) ∧ GrowS 3 1 s out.length (ints out) G ∧ env = [(2, .pointer (some ⟨B2, 0, none⟩)), (3, .pointer (some ⟨B3, 0, none⟩)), (6, .map (some bm)), (7, .int .i64 (n : Int)), (8, s), (18, .int .i64 (pn.length : Int)), (19, .int .i64 (r : Int))] ∧ own = [⟨B3, [.pointer (some ⟨bu', 0, none⟩), .pointer (some ⟨bp', 0, none⟩)], 40, 2⟩, ⟨B2, [.pointer (some ⟨bu, 0, none⟩), .pointer (some ⟨bp, 0, none⟩)], 40, 2⟩] ++ G) pn.length ⟨0, po.length, [], _, [], by simp, by omega, hY0.trans' (hX1.trans' hX2), (hX1.trans' hX2) _ _ PMap.add_at, rfl, GrowS.nil, rfl, rfl⟩ (by repeat (first | exact Sub.nil | refine Sub.cons rfl ?_)) ?_
  rintro m _ _ X3 ⟨r, n, out, s, G, rfl, hr, hX3, hmap, hnum, hG, rfl, rfl⟩
  obtain ⟨ext, e1, e2, e3, e4, e5, e6, _⟩ := numL_spec po (pn.take r) [] po.length (Nat.le_refl _) List.nodup_nil (by simp)
  rw [hnum] at e1 e3 e4 e6
  simp only [List.nil_append] at e1 e5 e6
  subst e1
  have hol : out.length ≤ pn.length := by rw [e2, List.length_take]; omega
  rw [List.length_take] at e4
  obtain ⟨As, cps, rfl⟩ := hG.form
  rcases Nat.lt_or_ge r pn.length with hrl | hrl
  · have hsn := numL_snoc po pn[r] (pn.take r) [] po.length
    rw [← List.take_succ_eq_append_getElem hrl, hnum] at hsn
    simp only at hsn
    refine T.seq <| T.region <| SL.v (op_lssT rfl rfl (by omega)) ?_
    refine SL.nil <| T.seq <| T.condT rfl <| T.skip <| T.seq <| T.block <| T.seq <| T.region <| SL.mv rfl <| SL.as rfl <| SL.nil <| T.seq <| T.region <| SL.as rfl <| SL.nil ?_
    refine T.seq <| T.seq <| T.region <| SL.v (op_assign (v := .int .i64 ((0 : Nat) : Int)) rfl) <| SL.nil <| T.block <| T.loopW (fun m env own X' => ∃ (k : Nat) (f : Option Nat), m = po.length - k ∧ k ≤ po.length ∧ X.le X' ∧ X' bm = some (MapI out) ∧ fndI po out pn[r] k f ∧ env = [(2, .pointer (some ⟨B2, 0, none⟩)), (3, .pointer (some ⟨B3, 0, none⟩)), (6, .map (some bm)), (7, .int .i64 (n : Int)), (8, .slice As out.length cps), (9, .int .i64 (r : Int)), (10, .int .i64 (atV f)), (11, .int .i64 (k : Int)), (18, .int .i64 (pn.length : Int)), (19, .int .i64 (r : Int))] ∧ own = [⟨B3, [.pointer (some ⟨bu', 0, none⟩), .pointer (some ⟨bp', 0, none⟩)], 40, 2⟩, ⟨B2, [.pointer (some ⟨bu, 0, none⟩), .pointer (some ⟨bp, 0, none⟩)], 40, 2⟩] ++ G) po.length ⟨0, none, by simp, by omega, hX3, hmap, fun j hj => by omega, rfl, rfl⟩ (by repeat (first | exact Sub.nil | refine Sub.cons rfl ?_)) ?_
    rintro m _ _ X4 ⟨k, f, rfl, hk, hX4, hmap4, hf, rfl, rfl⟩
    refine T.seq <| T.seq <| T.region <| SL.mv rfl <| SL.v (op_fieldAddr fa40_1 rfl) <| SL.v (op_load ty26 rfl (by repeat constructor) rfl) ?_
    refine SL.w (op_callF en11 (vs := [_]) rfl (rows_spec (hp.mono hX4))) ?_
    rintro _ _ X5 ⟨rfl, hX5, rfl⟩
    have hX05 := hX4.trans' hX5
    have hmap5 := hX5 _ _ hmap4
    cases f with
    | none =>
      have hat : atV none < 0 := by decide
      rcases Nat.lt_or_ge k po.length with hkl | hkl
      · skip
        refine SL.v (op_lssT rfl rfl (by omega)) ?_
        refine SL.mv rfl <| SL.mv rfl <| SL.v (op_lssT rfl rfl (by omega)) ?_
        refine SL.v (op_pickT rfl rfl) <| SL.nil <| T.condT rfl <| T.skip <| T.seq <| T.block <| T.seq <| T.draw (by kernel_rfl) 15 [.t 0, .t 1, .r 2, .t 3, .t 4, .t 5, .t 6, .t 7, .t 9, .t 10, .t 11, .r 8, .r 12, .r 13, .t 14] (by kernel_rfl) ?_
        refine SD.take rfl panicBody (op_move rfl) rfl rfl ?_
        refine SD.take rfl panicBody (op_move rfl) rfl rfl ?_
        refine SD.run rfl (OpY.toG rfl (op_lookupI Tryz.underlying129 Tryz.underlying3 (by kernel_rfl) rfl rfl hmap5)) rfl rfl ?_
        rintro _ _ _ ⟨rfl, rfl, rfl⟩
        by_cases hm : k ∈ out
        · rw [decide_eq_true hm]
          refine SD.take rfl panicBody (op_not rfl) rfl rfl ?_
          refine SD.take rfl panicBody (op_move rfl) rfl rfl ?_
          refine SD.skip rfl panicBody rfl rfl ?_
          refine SD.skip rfl panicBody rfl rfl ?_
          refine SD.skip rfl panicBody rfl rfl ?_
          refine SD.skip rfl panicBody rfl rfl ?_
          refine SD.skip rfl panicBody rfl rfl ?_
          refine SD.skip rfl panicBody rfl rfl ?_
          refine SD.skipF rfl rfl rfl ?_
          refine SD.skipF rfl rfl rfl ?_
          refine SD.skipF rfl rfl rfl ?_
          refine SD.take rfl panicBody (op_pickF rfl rfl) rfl rfl ?_
          refine SD.nil ?_
          show SL _ _ _ _ _ _ _ [] _ _ _
          refine SL.nil <| T.condF rfl <| T.skip <| T.blk <| T.region <| SL.mv rfl <| SL.v (op_addN (q := 1) rfl rfl (by omega)) ?_
          refine SL.as rfl <| SL.nil ?_
          exact T.backW (po.length - (k + 1)) (by omega) ⟨k + 1, none, rfl, by omega, hX05, hmap5, fndI_no hf (fun h => h.1 hm), rfl, rfl⟩ (by repeat (first | exact Sub.nil | refine Sub.cons rfl ?_))
        · rw [decide_eq_false hm]
          refine SD.take rfl panicBody (op_not rfl) rfl rfl ?_
          refine SD.take rfl panicBody (op_move rfl) rfl rfl ?_
          refine SD.take rfl panicBody (op_fieldAddr fa40_1 rfl) rfl rfl ?_
          refine SD.take rfl panicBody (op_load ty26 rfl (by repeat constructor) rfl) rfl rfl ?_
          refine SD.take rfl panicBody (op_move rfl) rfl rfl ?_
          refine SD.take rfl panicBody (op_fieldAddr fa40_1 rfl) rfl rfl ?_
          refine SD.take rfl panicBody (op_load ty26 rfl (by repeat constructor) rfl) rfl rfl ?_
          refine SD.take rfl panicBody (op_move rfl) rfl rfl ?_
          refine SD.run rfl (op_callF en50 (vs := [_, _]) rfl (row_spec (hp.mono hX05) (k : Int))) rfl rfl ?_
          rintro _ _ X6 ⟨rfl, hX6, hS6⟩
          rw [rowM_at hkl] at hS6
          refine SD.run rfl (op_callF en50 (vs := [_, _]) rfl (row_spec ((hp'.mono hX05).mono hX6) (r : Int))) rfl rfl ?_
          rintro _ _ X7 ⟨rfl, hX7, hS7⟩
          rw [rowM_at hrl] at hS7
          refine SD.run rfl (op_callF en58 (vs := [_, _]) rfl (equal_spec (hS6.mono hX7) hS7)) rfl rfl ?_
          rintro _ _ X8 ⟨rfl, hX8, rfl⟩
          have hX08 := ((hX05.trans' hX6).trans' hX7).trans' hX8
          have hmap8 := ((hX6.trans' hX7).trans' hX8) _ _ hmap5
          have hgd : po.getD k 0 = po[k] := by simp [hkl]
          by_cases he : po[k] = pn[r]
          · rw [decide_eq_true he]
            refine SD.take rfl panicBody (op_pickT rfl rfl) rfl rfl ?_
            refine SD.nil ?_
            show SL _ _ _ _ _ _ _ [] _ _ _
            refine SL.nil <| T.condT rfl <| T.region <| SL.mv rfl <| SL.as rfl <| SL.nil <| T.blk <| T.region <| SL.mv rfl <| SL.v (op_addN (q := 1) rfl rfl (by omega)) ?_
            refine SL.as rfl <| SL.nil ?_
            exact T.backW (po.length - (k + 1)) (by omega) ⟨k + 1, some k, rfl, by omega, hX08, hmap8, ⟨rfl, hkl, ⟨hm, by rw [hgd]; exact he⟩, hf⟩, rfl, rfl⟩ (by repeat (first | exact Sub.nil | refine Sub.cons rfl ?_))
          · rw [decide_eq_false he]
            refine SD.take rfl panicBody (op_pickT rfl rfl) rfl rfl ?_
            refine SD.nil ?_
            show SL _ _ _ _ _ _ _ [] _ _ _
            refine SL.nil <| T.condF rfl <| T.skip <| T.blk <| T.region <| SL.mv rfl <| SL.v (op_addN (q := 1) rfl rfl (by omega)) ?_
            refine SL.as rfl <| SL.nil ?_
            exact T.backW (po.length - (k + 1)) (by omega) ⟨k + 1, none, rfl, by omega, hX08, hmap8, fndI_no hf (fun h => he (by rw [← hgd]; exact h.2)), rfl, rfl⟩ (by repeat (first | exact Sub.nil | refine Sub.cons rfl ?_))
      · have hno : numAt po out n pn[r] = n := numAt_none fun j hj => hf j (by omega)
        have hnn : n ∉ out := fun hm => by have := e6 _ hm; omega
        rw [hno, if_pos rfl] at hsn
        refine SL.v (op_lssF rfl rfl (by omega)) ?_
        refine SL.mv rfl <| SL.skip rfl rfl ?_
        refine SL.skip rfl rfl ?_
        refine SL.v (op_pickF rfl rfl) <| SL.nil <| T.condF rfl ?_
        refine T.exit (T.exitCode (T.exitCut (T.exitBlk ?_)))
        refine T.seq <| T.seq <| T.region <| SL.mv rfl <| SL.v (op_lssT rfl rfl (by omega)) ?_
        refine SL.nil <| T.condT rfl <| T.seq <| T.region <| SL.mv rfl <| SL.as rfl <| SL.nil <| T.region <| SL.mv rfl <| SL.v (op_addN (q := 1) rfl rfl (by omega)) ?_
        refine SL.as rfl <| SL.nil <| T.seq <| T.region <| SL.mv rfl <| SL.mv rfl <| SL.w (op_putI Tryz.underlying129 Tryz.underlying3 rfl rfl rfl hmap5 hb1 hnn) ?_
        rintro _ _ _ ⟨rfl, rfl⟩
        refine SL.nil <| T.region <| SL.mv rfl <| SL.mv rfl <| SL.w (op_buildSlice Tryz.underlying42 bs3 (qs := [(0, _)]) rfl rfl rfl rfl rfl) ?_
        rintro _ _ _ ⟨B58, rfl, rfl, rfl⟩
        refine SL.w (op_appendG (own0 := [_, _]) sl42 rfl hG rfl rfl rfl (by omega) (by omega)) ?_
        rintro s' _ _ ⟨G', rfl, rfl, hG'⟩
        refine SL.as rfl <| SL.nil <| T.blk <| T.region <| SL.v (op_addN (q := 1) rfl rfl (by omega)) ?_
        refine SL.mv rfl <| SL.nil ?_
        exact T.backW (pn.length - (r + 1)) (by omega) ⟨r + 1, n + 1, out ++ [n], s', G', rfl, by omega, PMap.le_add hX05 hb0, PMap.add_at, hsn, by rw [List.length_append, List.length_singleton]; simpa [ints, csets, vcells] using hG', rfl, rfl⟩ (by repeat (first | exact Sub.nil | refine Sub.cons rfl ?_))
    | some q =>
      obtain ⟨rfl, hq, hq2, hq3⟩ := hf
      have hno : numAt po out n pn[r] = q := numAt_some hq hq2 hq3
      have hqn : q ≠ n := by omega
      rw [hno, if_neg hqn] at hsn
      have hat : atV (some q) = (q : Int) := rfl
      rw [hat]
      rcases Nat.lt_or_ge (q + 1) po.length with hkl | hkl
      · skip
        refine SL.v (op_lssT rfl rfl (by omega)) ?_
        refine SL.mv rfl <| SL.mv rfl <| SL.v (op_lssF rfl rfl (by omega)) ?_
        refine SL.v (op_pickT rfl rfl) <| SL.nil <| T.condF rfl ?_
        refine T.exit (T.exitCode (T.exitCut (T.exitBlk ?_)))
        refine T.seq <| T.seq <| T.region <| SL.mv rfl <| SL.v (op_lssF rfl rfl (by omega)) ?_
        refine SL.nil <| T.condF rfl <| T.skip <| T.seq <| T.region <| SL.mv rfl <| SL.mv rfl <| SL.w (op_putI Tryz.underlying129 Tryz.underlying3 rfl rfl rfl hmap5 hb1 hq2.1) ?_
        rintro _ _ _ ⟨rfl, rfl⟩
        refine SL.nil <| T.region <| SL.mv rfl <| SL.mv rfl <| SL.w (op_buildSlice Tryz.underlying42 bs3 (qs := [(0, _)]) rfl rfl rfl rfl rfl) ?_
        rintro _ _ _ ⟨B58, rfl, rfl, rfl⟩
        refine SL.w (op_appendG (own0 := [_, _]) sl42 rfl hG rfl rfl rfl (by omega) (by omega)) ?_
        rintro s' _ _ ⟨G', rfl, rfl, hG'⟩
        refine SL.as rfl <| SL.nil <| T.blk <| T.region <| SL.v (op_addN (q := 1) rfl rfl (by omega)) ?_
        refine SL.mv rfl <| SL.nil ?_
        exact T.backW (pn.length - (r + 1)) (by omega) ⟨r + 1, n, out ++ [q], s', G', rfl, by omega, PMap.le_add hX05 hb0, PMap.add_at, hsn, by rw [List.length_append, List.length_singleton]; simpa [ints, csets, vcells] using hG', rfl, rfl⟩ (by repeat (first | exact Sub.nil | refine Sub.cons rfl ?_))
      · refine SL.v (op_lssF rfl rfl (by omega)) ?_
        refine SL.mv rfl <| SL.skip rfl rfl ?_
        refine SL.skip rfl rfl ?_
        refine SL.v (op_pickF rfl rfl) <| SL.nil <| T.condF rfl ?_
        refine T.exit (T.exitCode (T.exitCut (T.exitBlk ?_)))
        refine T.seq <| T.seq <| T.region <| SL.mv rfl <| SL.v (op_lssF rfl rfl (by omega)) ?_
        refine SL.nil <| T.condF rfl <| T.skip <| T.seq <| T.region <| SL.mv rfl <| SL.mv rfl <| SL.w (op_putI Tryz.underlying129 Tryz.underlying3 rfl rfl rfl hmap5 hb1 hq2.1) ?_
        rintro _ _ _ ⟨rfl, rfl⟩
        refine SL.nil <| T.region <| SL.mv rfl <| SL.mv rfl <| SL.w (op_buildSlice Tryz.underlying42 bs3 (qs := [(0, _)]) rfl rfl rfl rfl rfl) ?_
        rintro _ _ _ ⟨B58, rfl, rfl, rfl⟩
        refine SL.w (op_appendG (own0 := [_, _]) sl42 rfl hG rfl rfl rfl (by omega) (by omega)) ?_
        rintro s' _ _ ⟨G', rfl, rfl, hG'⟩
        refine SL.as rfl <| SL.nil <| T.blk <| T.region <| SL.v (op_addN (q := 1) rfl rfl (by omega)) ?_
        refine SL.mv rfl <| SL.nil ?_
        exact T.backW (pn.length - (r + 1)) (by omega) ⟨r + 1, n, out ++ [q], s', G', rfl, by omega, PMap.le_add hX05 hb0, PMap.add_at, hsn, by rw [List.length_append, List.length_singleton]; simpa [ints, csets, vcells] using hG', rfl, rfl⟩ (by repeat (first | exact Sub.nil | refine Sub.cons rfl ?_))
  · obtain rfl : r = pn.length := by omega
    rw [List.take_length] at hnum
    refine T.seq <| T.region <| SL.v (op_lssF rfl rfl (by omega)) ?_
    refine SL.nil <| T.seq <| T.condF rfl ?_
    refine T.exit (T.exitCode (T.exitCut (T.exitBlk ?_)))
    refine T.seq <| T.region <| SL.mv rfl <| SL.mv rfl <| SL.as rfl <| SL.as rfl <| SL.nil <| T.pubG (own0 := [_, _]) hG ?_
    intro X4 hX4 hS4
    refine T.ret2 rfl (ResIs.tmp rfl) (ResIs.tmp rfl) ?_
    rw [hnum]
    exact ⟨_, rfl, hS4⟩
end Go.Proofs.YtmfiencoefbjfaaGreatDoor
namespace Go.Proofs.YtmfiencoefbjfaaGreatDoor
section
set_option maxRecDepth 100000
theorem z26 : Zero Tryz.prog 26 [.pointer none] := ⟨zero_of (by kernel_rfl)⟩
end
open Go.RowKit
theorem mat_zero {X : PMap} {b b' r c : Nat} (h : Blk X b [.int .i64 (c : Int), .slice (some ⟨b', 0, none⟩) r r]) (h' : Blk X b' (List.replicate r zset)) (hr : r < 64) (hc : c < 64) : MatR X (.pointer (some ⟨b, 0, none⟩)) c (List.replicate r 0) := by
  refine ⟨b, some ⟨b', 0, none⟩, r, List.replicate r zset, rfl, by rw [List.length_replicate]; exact h, ⟨by simp, fun i m hm => ?_⟩, fun _ => ⟨b', rfl, h'⟩, by simpa using hr, hc⟩
  rw [List.getElem?_replicate] at hm
  split at hm
  · rename_i hi
    cases hm
    exact ⟨zset, by rw [List.getElem?_replicate, if_pos hi], SetR.zero⟩
  · cases hm
theorem setAll_snoc (one : Bool) (ms : List Nat) (l : List (Nat × Nat)) (p : Nat × Nat) : setAll one ms (l ++ [p]) = setB one (setAll one ms l) p.1 p.2 := by simp [setAll]
theorem setAll_app (one : Bool) (ms : List Nat) (l l' : List (Nat × Nat)) : setAll one ms (l ++ l') = setAll one (setAll one ms l) l' := by simp [setAll]
theorem cellsU_succ (c : Nat) (us at' : List Nat) (t : Nat) : cellsU c us at' (t + 1) = cellsU c us at' t ++ (mem64 (colM c us (t : Int))).map fun u => (u, at'.getD t 0) := by simp [cellsU, List.range_succ]
theorem cellsP_succ (ps at' : List Nat) (t : Nat) : cellsP ps at' (t + 1) = cellsP ps at' t ++ (mem64 (rowM ps (t : Int))).map fun p => (at'.getD t 0, p) := by simp [cellsP, List.range_succ]
theorem setAll_lt {one : Bool} {n : Nat} : ∀ (l : List (Nat × Nat)) (ms : List Nat), (∀ m ∈ ms, m < 2 ^ n) → (∀ p ∈ l, p.2 < n) → ∀ m ∈ setAll one ms l, m < 2 ^ n
  | [], _, h, _ => h
  | p :: l, _, h, hl => setAll_lt l _ (setB_lt h (hl p (by simp))) fun q hq => hl q (by simp [hq])
theorem map_take_succ {α β : Type} (f : α → β) (l : List α) (i : Nat) (h : i < l.length) : (l.take (i + 1)).map f = (l.take i).map f ++ [f l[i]] := by
  rw [List.take_succ_eq_append_getElem h, List.map_append]
  rfl
theorem over_spec {X : PMap} (hT : Tab X) {v s : Value} {c n : Nat} {S : List Nat × List Nat} {l : List Nat} (h : CfgW X v c S) (hpc : ∀ m ∈ S.2, m < 2 ^ c) (hs : SliceR X s l.length (ints l)) (hl : l.length = S.2.length) (hn : n < 64) (hat : ∀ k ∈ l, k < n) :
    Spec Tryz.prog 31 [v, s, .int .i64 (n : Int)] X fun u X' => ∃ z, u = .tuple #[z, .int .i64 0] ∧ CfgR X' z c (overM S.1 S.2 l n) := by
  obtain ⟨bu, bp, rfl, hu, hp, hrow⟩ := h
  obtain ⟨hru, hcu⟩ := hu.lens
  obtain ⟨hrp, hcp⟩ := hp.lens
  obtain ⟨A, cp, rfl⟩ := hs.form
  have hgl : ∀ t (ht : t < l.length), l.getD t 0 = l[t] := fun t ht => by simp [ht]
  refine Spec.enter Tryz.func31 rfl Tryz.ntmps31 rfl ?_
  intro w0 hw0
  refine T.seq <| T.region <| SL.w (op_box rfl) ?_
  rintro _ _ _ ⟨B3, rfl, rfl, rfl⟩
  refine SL.w (op_alloc z40) ?_
  rintro _ _ _ ⟨B6, rfl, rfl, rfl⟩
  refine SL.v (op_assign (v := .int .i64 ((0 : Nat) : Int)) rfl) <| SL.nil <| T.seq <| T.region <| SL.v (op_fieldAddr fa40_0 rfl) <| SL.v (op_load ty26 rfl (by repeat constructor) rfl) ?_
  refine SL.w (op_callF en11 (vs := [_]) rfl (rows_spec hu)) ?_
  rintro _ _ X1 ⟨rfl, hX1, rfl⟩
  refine SL.mv rfl <| SL.w (op_callO en43 (vs := [_, _]) rfl (mnew_spec S.1.length n hru hn)) ?_
  rintro _ _ X2 ⟨_, rfl, hX2, b1, b1', rfl, rfl, rfl⟩
  refine SL.mv rfl <| SL.v (op_extract rfl rfl) <| SL.v (op_extract rfl rfl) <| SL.w (op_alloc z26) ?_
  rintro _ _ _ ⟨B8, rfl, rfl, rfl⟩
  refine SL.w (op_store ty26 rfl rfl (by repeat constructor) rfl rfl rfl) ?_
  rintro _ _ _ ⟨rfl, rfl⟩
  refine SL.as rfl <| SL.nil <| T.seq <| T.seq <| T.region <| SL.mv rfl <| SL.v (op_neqF rfl rfl (by omega)) ?_
  refine SL.nil <| T.condF rfl <| T.skip <| T.seq <| T.region <| SL.mv rfl <| SL.v (op_fieldAddr fa40_1 rfl) <| SL.v (op_load ty26 rfl (by repeat constructor) rfl) ?_
  refine SL.w (op_callF en22 (vs := [_]) rfl (columns_spec (hp.mono hX1))) ?_
  rintro _ _ X3 ⟨rfl, hX3, rfl⟩
  refine SL.w (op_callO en43 (vs := [_, _]) rfl (mnew_spec n c hn hcp)) ?_
  rintro _ _ X4 ⟨_, rfl, hX4, b2, b2', rfl, rfl, rfl⟩
  refine SL.mv rfl <| SL.v (op_extract rfl rfl) <| SL.v (op_extract rfl rfl) <| SL.w (op_alloc z26) ?_
  rintro _ _ _ ⟨B10, rfl, rfl, rfl⟩
  refine SL.w (op_store ty26 rfl rfl (by repeat constructor) rfl rfl rfl) ?_
  rintro _ _ _ ⟨rfl, rfl⟩
  refine SL.as rfl <| SL.nil <| T.seq <| T.seq <| T.region <| SL.mv rfl <| SL.v (op_neqF rfl rfl (by omega)) ?_
  refine SL.nil <| T.condF rfl <| T.skip <| T.seq <| T.seq <| T.region <| SL.mv rfl <| SL.v (op_lenS Tryz.underlying42 rfl) <| SL.v (op_move (v := .int .i64 ((0 : Nat) : Int)) rfl) <| SL.nil <| T.block <| T.ne (b1 := b1) (b2 := b2) (AtO.there (AtO.there (AtO.there (AtO.there AtO.here)))) (AtO.there AtO.here) (by decide) ?_
  intro hne
  refine T.pubZ b1 (by repeat constructor) ?_
  intro X5 hX5 hB5 hU5
  refine T.pub b1' (by repeat constructor) ?_
  intro X6 hX6 hB6 _
  refine T.pubZ b2 (by repeat constructor) ?_
  intro X7 hX7 hB7 hU7
  refine T.pub b2' (by repeat constructor) ?_
  intro X8 hX8 hB8 _
  have hX08 := (((((hX1.trans' hX3).trans' hX5).trans' hX6).trans' hX7).trans' hX8)
  have hU0 := mat_zero (((hB5.mono hX6).mono hX7).mono hX8) ((hB6.mono hX7).mono hX8) hru hn
  have hP0 := mat_zero (hB7.mono hX8) hB8 hn hcp
  have hUu := ((hU5.mono hX6).mono hX7).mono hX8
  have hUp := hU7.mono hX8
  refine T.loopD (Ds := []) List.nodup_nil (fun m env own X' => ∃ (t cu cp' : Nat), m = l.length - t ∧ t ≤ l.length ∧ X8.le X' ∧ cu ≠ cp' ∧ Unf X' cu ∧ Unf X' cp' ∧ MatR X' (.pointer (some ⟨cu, 0, none⟩)) n (setAll true (List.replicate S.1.length 0) (cellsU S.2.length S.1 l t)) ∧ MatR X' (.pointer (some ⟨cp', 0, none⟩)) c (setAll true (List.replicate n 0) (cellsP S.2 l t)) ∧ env = [(3, .pointer (some ⟨B3, 0, none⟩)), (6, .pointer (some ⟨B6, 0, none⟩)), (8, .pointer (some ⟨B8, 0, none⟩)), (10, .pointer (some ⟨B10, 0, none⟩)), (39, .slice A l.length cp), (40, .int .i64 (l.length : Int)), (41, .int .i64 (t : Int))] ∧ own = [⟨B10, [.pointer (some ⟨cp', 0, none⟩)], 26, 1⟩, ⟨B8, [.pointer (some ⟨cu, 0, none⟩)], 26, 1⟩, ⟨B6, [.pointer none, .pointer none], 40, 2⟩, ⟨B3, [.pointer (some ⟨bu, 0, none⟩), .pointer (some ⟨bp, 0, none⟩)], 40, 2⟩]) l.length ⟨0, b1, b2, by simp, by omega, PMap.le_refl _, hne, hUu, hUp, hU0, hP0, rfl, rfl⟩ (by repeat (first | exact Sub.nil | refine Sub.cons rfl ?_)) ?_
  rintro Ds hDs m _ _ X9 ⟨t, cu, cp', rfl, ht, hX9, hne9, hUu9, hUp9, hMu, hMp, rfl, rfl⟩
  have hX09 := hX08.trans' hX9
  rcases Nat.lt_or_ge t l.length with htl | htl
  · obtain ⟨bl, rfl, hBl⟩ := hs.blk (by omega)
    have hBl9 := hBl.mono hX09
    have hk := hat l[t] (List.getElem_mem htl)
    have hcl : S.2.length = l.length := hl.symm
    refine T.seq <| T.region <| SL.v (op_lssT rfl rfl (by omega)) ?_
    refine SL.nil <| T.seq <| T.condT rfl <| T.skip <| T.seq <| T.block <| T.seq <| T.region <| SL.mv rfl <| SL.v (op_indexN Tryz.underlying42 ty3 rfl rfl (by omega)) ?_
    refine SL.v (op_loadX ty3 rfl hBl9 (cread1 (ints_get l t htl))) <| SL.w (op_alloc z3) ?_
    rintro _ _ _ ⟨B12, rfl, rfl, rfl⟩
    refine SL.as rfl <| SL.w (op_store ty3 rfl rfl (by repeat constructor) rfl rfl rfl) ?_
    rintro _ _ _ ⟨rfl, rfl⟩
    refine SL.nil <| T.seq <| T.seq <| T.region <| SL.v (op_fieldAddr fa40_0 rfl) <| SL.v (op_load ty26 rfl (by repeat constructor) rfl) ?_
    refine SL.mv rfl <| SL.w (op_callF en59 (vs := [_, _]) rfl (column_spec (hu.mono hX09) (t : Int))) ?_
    rintro _ _ X10 ⟨rfl, hX10, hS10⟩
    refine SL.w (op_callF en60 (vs := [_]) rfl (all_spec)) ?_
    rintro _ _ X11 ⟨rfl, hX11, B50, rfl, hB50⟩
    have hX911 := hX10.trans' hX11
    have hX011 := hX09.trans' hX911
    obtain ⟨col, hcol⟩ : ∃ col, col = colM S.2.length S.1 (t : Int) := ⟨_, rfl⟩
    rw [← hcol] at hS10
    have hcm0 : ∀ u, col.testBit u = true → u < S.1.length := fun u h1 => by
      rw [hcol, colM_testBit S.2.length S.1 u t (by omega), Bool.and_eq_true, decide_eq_true_eq] at h1
      exact h1.1
    have hcm : ∀ i (hi : i < (mem64 col).length), (mem64 col)[i] < S.1.length := fun i hi => hcm0 _ (mem_mem64.1 (List.getElem_mem hi)).2
    refine SL.nil <| T.block <| T.rangeFuncD (Ds := Ds) (xs := (ints (mem64 col))) hDs rfl en85 rfl rfl (all_seq (hT.mono hX011) (hS10.mono hX11) hB50) (fun i own' X' => X11.le X' ∧ ∃ cu : Nat, cu ≠ cp' ∧ Unf X' cu ∧ MatR X' (.pointer (some ⟨cu, 0, none⟩)) n (setAll true (setAll true (List.replicate S.1.length 0) (cellsU S.2.length S.1 l t)) (((mem64 col).take i).map fun u => (u, l[t]))) ∧ own' = [⟨B12, [.int .i64 (l[t] : Int)], 3, 1⟩, ⟨B10, [.pointer (some ⟨cp', 0, none⟩)], 26, 1⟩, ⟨B8, [.pointer (some ⟨cu, 0, none⟩)], 26, 1⟩, ⟨B6, [.pointer none, .pointer none], 40, 2⟩, ⟨B3, [.pointer (some ⟨bu, 0, none⟩), .pointer (some ⟨bp, 0, none⟩)], 40, 2⟩]) ⟨PMap.le_refl _, cu, hne9, hUu9.mono hX911, by simpa [setAll] using hMu.mono hX911, rfl⟩ (fun i own' X' h => h.1) ?_ ?_
    · rintro i w _ X12 l' r D hz ⟨hX12, cu2, hne2, hU2, hM2, rfl⟩
      obtain ⟨hzi, rfl⟩ := ints_some hz
      have hul := hcm i hzi
      refine T.block <| T.region <| SL.v (op_load ty26 rfl (by repeat constructor) rfl) ?_
      refine SL.mv rfl <| SL.v (op_load ty3 rfl (by repeat constructor) rfl) ?_
      refine SL.w (op_callF en35 (vs := [_, _, _, _]) rfl (mset_spec hM2 (i := (mem64 col)[i]) (j := l[t]) (by simp only [setAll_len, List.length_replicate]; exact hul) hk true)) ?_
      rintro _ _ X13 ⟨rfl, hX13, b13, rfl, hb13, hU13, hM13⟩
      have hUp12 := (hUp9.mono hX911).mono hX12
      have hne13 : b13 ≠ cp' := fun e => by subst e; obtain ⟨c0, t0, g0⟩ := hUp12; rw [hb13] at g0; cases g0
      refine SL.mv rfl <| SL.v (op_extract rfl rfl) <| SL.v (op_extract rfl rfl) <| SL.w (op_store ty26 rfl rfl (by repeat constructor) rfl rfl rfl) ?_
      rintro _ _ _ ⟨rfl, rfl⟩
      refine SL.nil <| T.blk ?_
      exact T.roundEnd ⟨hX12.trans' hX13, b13, hne13, hU13, by rw [map_take_succ _ _ _ hzi, setAll_snoc]; exact hM13, rfl⟩
    · rintro D _ X12 hDs' ⟨hX12, cu2, hne2, hU2, hM2, rfl⟩
      rw [show (ints (mem64 col)).length = (mem64 col).length by simp [ints], List.take_length] at hM2
      have hX012 := hX011.trans' hX12
      have hX912 := hX911.trans' hX12
      refine T.blk <| T.seq <| T.region <| SL.v (op_fieldAddr fa40_1 rfl) <| SL.v (op_load ty26 rfl (by repeat constructor) rfl) ?_
      refine SL.mv rfl <| SL.w (op_callF en50 (vs := [_, _]) rfl (row_spec (hp.mono hX012) (t : Int))) ?_
      rintro _ _ X13 ⟨rfl, hX13, hS13⟩
      refine SL.w (op_callF en60 (vs := [_]) rfl (all_spec)) ?_
      rintro _ _ X14 ⟨rfl, hX14, B63, rfl, hB63⟩
      have hX1214 := hX13.trans' hX14
      have hX014 := hX012.trans' hX1214
      obtain ⟨row, hrw⟩ : ∃ row, row = rowM S.2 (t : Int) := ⟨_, rfl⟩
      rw [← hrw] at hS13
      have hrm0 : ∀ p, row.testBit p = true → p < c := fun p h1 => by
        rw [hrw, rowM_at (show t < S.2.length by omega)] at h1
        exact bits_of_lt (hpc _ (List.getElem_mem _)) h1
      have hrm : ∀ i (hi : i < (mem64 row).length), (mem64 row)[i] < c := fun i hi => hrm0 _ (mem_mem64.1 (List.getElem_mem hi)).2
      refine SL.nil <| T.block <| T.rangeFuncD (Ds := (D :: Ds)) (xs := (ints (mem64 row))) hDs' rfl en85 rfl rfl (all_seq (hT.mono hX014) (hS13.mono hX14) hB63) (fun i own' X' => X14.le X' ∧ ∃ cp2 : Nat, cu2 ≠ cp2 ∧ Unf X' cp2 ∧ MatR X' (.pointer (some ⟨cp2, 0, none⟩)) c (setAll true (setAll true (List.replicate n 0) (cellsP S.2 l t)) (((mem64 row).take i).map fun p => (l[t], p))) ∧ own' = [⟨B12, [.int .i64 (l[t] : Int)], 3, 1⟩, ⟨B10, [.pointer (some ⟨cp2, 0, none⟩)], 26, 1⟩, ⟨B8, [.pointer (some ⟨cu2, 0, none⟩)], 26, 1⟩, ⟨B6, [.pointer none, .pointer none], 40, 2⟩, ⟨B3, [.pointer (some ⟨bu, 0, none⟩), .pointer (some ⟨bp, 0, none⟩)], 40, 2⟩]) ⟨PMap.le_refl _, cp', hne2, (hUp9.mono hX912).mono hX1214, by simpa [setAll] using (hMp.mono hX912).mono hX1214, rfl⟩ (fun i own' X' h => h.1) ?_ ?_
      · rintro i w _ X15 l' r D2 hz ⟨hX15, cp2, hne3, hU3, hM3, rfl⟩
        obtain ⟨hzi, rfl⟩ := ints_some hz
        have hpl := hrm i hzi
        refine T.block <| T.region <| SL.v (op_load ty26 rfl (by repeat constructor) rfl) ?_
        refine SL.v (op_load ty3 rfl (by repeat constructor) rfl) ?_
        refine SL.mv rfl <| SL.w (op_callF en35 (vs := [_, _, _, _]) rfl (mset_spec hM3 (i := l[t]) (j := (mem64 row)[i]) (by simp only [setAll_len, List.length_replicate]; exact hk) hpl true)) ?_
        rintro _ _ X16 ⟨rfl, hX16, b16, rfl, hb16, hU16, hM16⟩
        have hU15 := (hU2.mono hX1214).mono hX15
        have hne16 : cu2 ≠ b16 := fun e => by subst e; obtain ⟨c0, t0, g0⟩ := hU15; rw [hb16] at g0; cases g0
        refine SL.mv rfl <| SL.v (op_extract rfl rfl) <| SL.v (op_extract rfl rfl) <| SL.w (op_store ty26 rfl rfl (by repeat constructor) rfl rfl rfl) ?_
        rintro _ _ _ ⟨rfl, rfl⟩
        refine SL.nil <| T.blk ?_
        exact T.roundEnd ⟨hX15.trans' hX16, b16, hne16, hU16, by rw [map_take_succ _ _ _ hzi, setAll_snoc]; exact hM16, rfl⟩
      · rintro D2 _ X15 hDs2 ⟨hX15, cp2, hne3, hU3, hM3, rfl⟩
        rw [show (ints (mem64 row)).length = (mem64 row).length by simp [ints], List.take_length] at hM3
        have hX1215 := hX1214.trans' hX15
        refine T.blk <| T.blk <| T.region <| SL.v (op_addN (q := 1) rfl rfl (by omega)) ?_
        refine SL.mv rfl <| SL.nil <| T.drop B12 (by repeat constructor) ?_
        exact T.backD hDs2 (l.length - (t + 1)) (by omega) ⟨t + 1, cu2, cp2, rfl, by omega, (hX9.trans' hX912).trans' hX1215, hne3, hU2.mono hX1215, hU3, by rw [cellsU_succ, setAll_app, hgl t htl, ← hcol]; exact hM2.mono hX1215, by rw [cellsP_succ, setAll_app, hgl t htl, ← hrw]; exact hM3, rfl, rfl⟩ (by repeat (first | exact Sub.nil | refine Sub.cons rfl ?_))
  · obtain rfl : t = l.length := by omega
    refine T.seq <| T.region <| SL.v (op_lssF rfl rfl (by omega)) ?_
    refine SL.nil <| T.seq <| T.condF rfl ?_
    refine T.exit (T.exitCode (T.exitCut (T.exitBlk ?_)))
    refine T.seq <| T.region <| SL.v (op_load ty26 rfl (by repeat constructor) rfl) ?_
    refine SL.v (op_load ty26 rfl (by repeat constructor) rfl) ?_
    refine SL.v (op_build st40 (qs := [(0, _), (1, _)]) rfl rfl) <| SL.w (op_store ty40 rfl rfl (by repeat constructor) rfl rfl rfl) ?_
    rintro _ _ _ ⟨rfl, rfl⟩
    refine SL.v (op_assign (v := .int .i64 ((0 : Nat) : Int)) rfl) <| SL.nil ?_
    refine T.ret2 rfl (ResIs.cell rfl ty40 (by repeat constructor) rfl) (ResIs.tmp rfl) ?_ ⟨_, rfl, rfl, hDs⟩
    have hov : overM S.1 S.2 l n = (setAll true (List.replicate S.1.length 0) (cellsU S.2.length S.1 l l.length), setAll true (List.replicate n 0) (cellsP S.2 l l.length)) := rfl
    have hln : (setAll true (List.replicate n 0) (cellsP S.2 l l.length)).length = n := by rw [setAll_len, List.length_replicate]
    refine ⟨_, rfl, cu, cp', rfl, hne9, hUu9, hUp9, ?_, hMp, ?_⟩
    · show MatR X9 _ (setAll true (List.replicate n 0) (cellsP S.2 l l.length)).length _
      rw [hln]
      exact hMu
    · show ∀ m ∈ setAll true (List.replicate S.1.length 0) (cellsU S.2.length S.1 l l.length), m < 2 ^ (setAll true (List.replicate n 0) (cellsP S.2 l l.length)).length
      rw [hln]
      refine setAll_lt _ _ (fun m hm => by rw [(List.mem_replicate.1 hm).2]; exact Nat.two_pow_pos n) fun p hp => ?_
      obtain ⟨r, h1, h2, _⟩ := (mem_cellsU (u := p.1) (k := p.2) (by omega) (by omega)).1 hp
      rw [← h2, hgl r h1]
      exact hat _ (List.getElem_mem h1)
end Go.Proofs.YtmfiencoefbjfaaGreatDoor
namespace Go.Proofs.YtmfiencoefbjfaaGreatDoor
section
set_option maxRecDepth 100000
theorem bs40 : ∃ i z, Tryz.prog.info? 40 = some i ∧ i.size = 2 ∧ i.zero = some z ∧ z.cells = ([.pointer none, .pointer none] : List Value).toArray := bs_of (by kernel_rfl)
theorem en30 : Enters Tryz.prog 30 := enters_mk Tryz.func30 (by kernel_rfl) rfl
theorem en31 : Enters Tryz.prog 31 := enters_mk Tryz.func31 (by kernel_rfl) rfl
end
open Go.RowKit
theorem cfgV {X : PMap} {v : Value} {c : Nat} {S : List Nat × List Nat} (h : CfgW X v c S) : ∃ bu bp, v = .agg #[.pointer (some ⟨bu, 0, none⟩), .pointer (some ⟨bp, 0, none⟩)] := by
  obtain ⟨bu, bp, rfl, _⟩ := h
  exact ⟨bu, bp, rfl⟩
theorem ints_range_succ (k : Nat) : ints (List.range (k + 1)) = ints (List.range k) ++ [.int .i64 (k : Int)] := by simp [ints, List.range_succ]
theorem joint_spec {X : PMap} (hT : Tab X) {v w : Value} {c : Nat} {S S' : List Nat × List Nat} (h : CfgW X v c S) (h' : CfgW X w c S') (hl : S.1.length = S'.1.length) (hpc : ∀ m ∈ S.2, m < 2 ^ c) (hpc' : ∀ m ∈ S'.2, m < 2 ^ c) (h64 : S.2.length + S'.2.length < 64) :
    Spec Tryz.prog 9 [v, w] X fun u X' => ∃ za zb A cp, u = .tuple #[za, zb, .slice A S'.2.length cp, .int .i64 0] ∧ CfgR X' za c (overM S.1 S.2 (List.range S.2.length) (numL S.2 S'.2 [] S.2.length).2) ∧ CfgR X' zb c (overM S'.1 S'.2 (numL S.2 S'.2 [] S.2.length).1 (numL S.2 S'.2 [] S.2.length).2) := by
  have hh := h
  have hh' := h'
  obtain ⟨bu, bp, rfl, hu, hp, _⟩ := h
  obtain ⟨bu', bp', rfl, hu', hp', _⟩ := h'
  have hmx : maxLen = 9223372036854775807 := rfl
  obtain ⟨ext, e1, e2, e3, e4, e5, e6, _⟩ := numL_spec S.2 S'.2 [] S.2.length (Nat.le_refl _) List.nodup_nil (by simp)
  rw [List.nil_append] at e1 e6
  rw [e1]
  have hnb := fun {X : PMap} {v w : Value} (h : CfgW X v c S) (h' : CfgW X w c S') => numbers_spec h h'
  rw [e1] at hnb
  generalize (numL S.2 S'.2 [] S.2.length).2 = n at *
  refine Spec.enter Tryz.func9 rfl Tryz.ntmps9 rfl ?_
  intro w0 hw0
  refine T.seq <| T.region <| SL.w (op_box rfl) ?_
  rintro _ _ _ ⟨B2, rfl, rfl, rfl⟩
  refine SL.w (op_box rfl) ?_
  rintro _ _ _ ⟨B3, rfl, rfl, rfl⟩
  refine SL.w (op_alloc z40) ?_
  rintro _ _ _ ⟨B4, rfl, rfl, rfl⟩
  refine SL.w (op_alloc z40) ?_
  rintro _ _ _ ⟨B5, rfl, rfl, rfl⟩
  refine SL.as rfl <| SL.v (op_assign (v := .int .i64 ((0 : Nat) : Int)) rfl) <| SL.nil <| T.seq <| T.seq <| T.region <| SL.v (op_load ty40 rfl (by repeat constructor) rfl) ?_
  refine SL.v (op_load ty40 rfl (by repeat constructor) rfl) ?_
  refine SL.w (op_buildSlice Tryz.underlying91 bs40 (qs := [(0, _), (1, _)]) rfl rfl rfl rfl rfl) ?_
  rintro _ _ _ ⟨B20, rfl, rfl, rfl⟩
  refine SL.v (op_lenS Tryz.underlying91 rfl) <| SL.v (op_move (v := .int .i64 ((0 : Nat) : Int)) rfl) <| SL.nil <| T.block <| T.unrollStart 3 ?_
  refine T.unroll ?_
  refine T.seq <| T.region <| SL.v (op_lssT rfl rfl (by omega)) ?_
  refine SL.nil <| T.seq <| T.condT rfl <| T.skip <| T.seq <| T.block <| T.seq <| T.region <| SL.v (op_indexN Tryz.underlying91 ty40 rfl rfl (by omega)) ?_
  refine SL.v (op_load ty40 rfl (by repeat constructor) rfl) ?_
  refine SL.w (op_alloc z40) ?_
  rintro _ _ _ ⟨B9, rfl, rfl, rfl⟩
  refine SL.w (op_store ty40 rfl rfl (by repeat constructor) rfl rfl rfl) ?_
  rintro _ _ _ ⟨rfl, rfl⟩
  refine SL.nil <| T.seq <| T.region <| SL.v (op_load ty40 rfl (by repeat constructor) rfl) ?_
  refine SL.w (op_callF en29 (vs := [_]) rfl (checkC_spec hh)) ?_
  rintro _ _ X1 ⟨rfl, hX1, rfl⟩
  refine SL.as rfl <| SL.nil <| T.seq <| T.region <| SL.mv rfl <| SL.v (op_neqF rfl rfl (by omega)) ?_
  refine SL.nil <| T.condF rfl <| T.skip <| T.blk <| T.region <| SL.v (op_addN (q := 1) rfl rfl (by omega)) ?_
  refine SL.mv rfl <| SL.nil <| T.drop B9 (by repeat constructor) ?_
  refine T.unroll ?_
  refine T.seq <| T.region <| SL.v (op_lssT rfl rfl (by omega)) ?_
  refine SL.nil <| T.seq <| T.condT rfl <| T.skip <| T.seq <| T.block <| T.seq <| T.region <| SL.v (op_indexN Tryz.underlying91 ty40 rfl rfl (by omega)) ?_
  refine SL.v (op_load ty40 rfl (by repeat constructor) rfl) ?_
  refine SL.w (op_alloc z40) ?_
  rintro _ _ _ ⟨B9, rfl, rfl, rfl⟩
  refine SL.w (op_store ty40 rfl rfl (by repeat constructor) rfl rfl rfl) ?_
  rintro _ _ _ ⟨rfl, rfl⟩
  refine SL.nil <| T.seq <| T.region <| SL.v (op_load ty40 rfl (by repeat constructor) rfl) ?_
  refine SL.w (op_callF en29 (vs := [_]) rfl (checkC_spec (hh'.mono hX1))) ?_
  rintro _ _ X2 ⟨rfl, hX2, rfl⟩
  have hX02 := hX1.trans' hX2
  refine SL.as rfl <| SL.nil <| T.seq <| T.region <| SL.mv rfl <| SL.v (op_neqF rfl rfl (by omega)) ?_
  refine SL.nil <| T.condF rfl <| T.skip <| T.blk <| T.region <| SL.v (op_addN (q := 1) rfl rfl (by omega)) ?_
  refine SL.mv rfl <| SL.nil <| T.drop B9 (by repeat constructor) ?_
  refine T.unroll ?_
  refine T.seq <| T.region <| SL.v (op_lssF rfl rfl (by omega)) ?_
  refine SL.nil <| T.seq <| T.condF rfl ?_
  refine T.exit (T.exitCode (T.exitMore (T.exitBlk ?_)))
  refine T.seq <| T.seq <| T.draw (by kernel_rfl) 16 [.t 0, .t 1, .t 3, .t 4, .r 2, .r 5, .t 6, .t 7, .t 8, .t 9, .t 11, .t 12, .r 10, .r 13, .t 14, .t 15] (by kernel_rfl) ?_
  refine SD.take rfl panicBody (op_fieldAddr fa40_0 rfl) rfl rfl ?_
  refine SD.take rfl panicBody (op_load ty26 rfl (by repeat constructor) rfl) rfl rfl ?_
  refine SD.take rfl panicBody (op_fieldAddr fa40_0 rfl) rfl rfl ?_
  refine SD.take rfl panicBody (op_load ty26 rfl (by repeat constructor) rfl) rfl rfl ?_
  refine SD.run rfl (op_callF en11 (vs := [_]) rfl (rows_spec (hu.mono hX02))) rfl rfl ?_
  rintro _ _ X3 ⟨rfl, hX3, rfl⟩
  have hX03 := hX02.trans' hX3
  refine SD.run rfl (op_callF en11 (vs := [_]) rfl (rows_spec (hu'.mono hX03))) rfl rfl ?_
  rintro _ _ X4 ⟨rfl, hX4, rfl⟩
  have hX04 := hX03.trans' hX4
  refine SD.take rfl panicBody (op_neqF rfl rfl (by omega)) rfl rfl ?_
  refine SD.take rfl panicBody (op_move rfl) rfl rfl ?_
  refine SD.take rfl panicBody (op_fieldAddr fa40_1 rfl) rfl rfl ?_
  refine SD.take rfl panicBody (op_load ty26 rfl (by repeat constructor) rfl) rfl rfl ?_
  refine SD.take rfl panicBody (op_fieldAddr fa40_1 rfl) rfl rfl ?_
  refine SD.take rfl panicBody (op_load ty26 rfl (by repeat constructor) rfl) rfl rfl ?_
  refine SD.run rfl (op_callF en22 (vs := [_]) rfl (columns_spec (hp.mono hX04))) rfl rfl ?_
  rintro _ _ X5 ⟨rfl, hX5, rfl⟩
  have hX05 := hX04.trans' hX5
  refine SD.run rfl (op_callF en22 (vs := [_]) rfl (columns_spec (hp'.mono hX05))) rfl rfl ?_
  rintro _ _ X6 ⟨rfl, hX6, rfl⟩
  have hX06 := hX05.trans' hX6
  refine SD.take rfl panicBody (op_neqF rfl rfl (by omega)) rfl rfl ?_
  refine SD.take rfl panicBody (op_pickF rfl rfl) rfl rfl ?_
  refine SD.nil ?_
  show SL _ _ _ _ _ _ _ [] _ _ _
  refine SL.nil <| T.condF rfl <| T.skip <| T.seq <| T.region <| SL.v (op_load ty40 rfl (by repeat constructor) rfl) ?_
  refine SL.v (op_load ty40 rfl (by repeat constructor) rfl) ?_
  refine SL.w (op_callF en30 (vs := [_, _]) rfl (hnb (hh.mono hX06) (hh'.mono hX06))) ?_
  rintro _ _ X7 ⟨rfl, hX7, sat, rfl, hSat⟩
  have hX07 := hX06.trans' hX7
  obtain ⟨Aat, cat, rfl⟩ := hSat.form
  refine SL.mv rfl <| SL.v (op_extract rfl rfl) <| SL.v (op_extract rfl rfl) <| SL.as rfl <| SL.as rfl <| SL.nil <| T.seq <| T.seq <| T.region <| SL.mv rfl <| SL.v (op_gtrF rfl rfl (by omega)) ?_
  refine SL.nil <| T.condF rfl <| T.skip <| T.seq <| T.region <| SL.as rfl <| SL.nil <| T.seq <| T.seq <| T.region <| SL.v (op_fieldAddr fa40_1 rfl) <| SL.v (op_load ty26 rfl (by repeat constructor) rfl) ?_
  refine SL.w (op_callF en11 (vs := [_]) rfl (rows_spec (hp.mono hX07))) ?_
  rintro _ _ X8 ⟨rfl, hX8, rfl⟩
  have hX08 := hX07.trans' hX8
  refine T.dropAt B20 (by repeat constructor) ?_
  refine SL.v (op_move (v := .int .i64 ((0 : Nat) : Int)) rfl) <| SL.nil <| T.block <| T.loopW (fun m env own X' => ∃ (k : Nat) (s : Value) (G : Own), m = S.2.length - k ∧ k ≤ S.2.length ∧ X8.le X' ∧ GrowS 3 1 s k (ints (List.range k)) G ∧ env = [(2, .pointer (some ⟨B2, 0, none⟩)), (3, .pointer (some ⟨B3, 0, none⟩)), (4, .pointer (some ⟨B4, 0, none⟩)), (5, .pointer (some ⟨B5, 0, none⟩)), (11, .slice Aat ext.length cat), (12, .int .i64 (n : Int)), (13, s), (64, .int .i64 (S.2.length : Int)), (65, .int .i64 (k : Int))] ∧ own = [⟨B5, [.pointer none, .pointer none], 40, 2⟩, ⟨B4, [.pointer none, .pointer none], 40, 2⟩, ⟨B3, [.pointer (some ⟨bu', 0, none⟩), .pointer (some ⟨bp', 0, none⟩)], 40, 2⟩, ⟨B2, [.pointer (some ⟨bu, 0, none⟩), .pointer (some ⟨bp, 0, none⟩)], 40, 2⟩] ++ G) S.2.length ⟨0, _, [], by simp, by omega, PMap.le_refl _, GrowS.nil, rfl, rfl⟩ (by repeat (first | exact Sub.nil | refine Sub.cons rfl ?_)) ?_
  rintro m _ _ X9 ⟨k, s, G, rfl, hk, hX9, hG, rfl, rfl⟩
  rcases Nat.lt_or_ge k S.2.length with hkl | hkl
  · skip
    refine T.seq <| T.region <| SL.v (op_lssT rfl rfl (by omega)) ?_
    refine SL.nil <| T.seq <| T.condT rfl <| T.skip <| T.seq <| T.block <| T.seq <| T.region <| SL.mv rfl <| SL.as rfl <| SL.nil <| T.region <| SL.mv rfl <| SL.mv rfl <| SL.w (op_buildSlice Tryz.underlying42 bs3 (qs := [(0, _)]) rfl rfl rfl rfl rfl) ?_
    rintro _ _ _ ⟨B70, rfl, rfl, rfl⟩
    refine SL.w (op_appendG (own0 := [_, _, _, _]) sl42 rfl hG rfl rfl rfl (by omega) (by omega)) ?_
    rintro s' _ _ ⟨G', rfl, rfl, hG'⟩
    refine SL.as rfl <| SL.nil <| T.blk <| T.region <| SL.v (op_addN (q := 1) rfl rfl (by omega)) ?_
    refine SL.mv rfl <| SL.nil ?_
    exact T.backW (S.2.length - (k + 1)) (by omega) ⟨k + 1, s', G', rfl, by omega, hX9, by rw [ints_range_succ]; exact hG', rfl, rfl⟩ (by repeat (first | exact Sub.nil | refine Sub.cons rfl ?_))
  · obtain rfl : k = S.2.length := by omega
    have hX09 := hX08.trans' hX9
    refine T.seq <| T.region <| SL.v (op_lssF rfl rfl (by omega)) ?_
    refine SL.nil <| T.seq <| T.condF rfl ?_
    refine T.exit (T.exitCode (T.exitCut (T.exitBlk ?_)))
    refine T.seq <| T.region <| SL.v (op_load ty40 rfl (by repeat constructor) rfl) ?_
    refine SL.mv rfl <| SL.mv rfl <| T.pubGAt (own0 := [_, _, _, _]) hG ?_
    intro X10 hX10 hS10
    have hX010 := hX09.trans' hX10
    refine SL.w (op_callF en31 (vs := [_, _, _]) rfl (over_spec (hT.mono hX010) (hh.mono hX010) hpc (l := List.range S.2.length) (by rw [List.length_range]; exact hS10) (by simp) (by omega) (fun k hk => by have := List.mem_range.1 hk; omega))) ?_
    rintro _ _ X11 ⟨rfl, hX11, za, rfl, hza⟩
    obtain ⟨zau, zap, rfl⟩ := cfgV hza.w
    have hX011 := hX010.trans' hX11
    refine SL.mv rfl <| SL.v (op_extract rfl rfl) <| SL.v (op_extract rfl rfl) <| SL.w (op_alloc z40) ?_
    rintro _ _ _ ⟨B15, rfl, rfl, rfl⟩
    refine SL.w (op_store ty40 rfl rfl (by repeat constructor) rfl rfl rfl) ?_
    rintro _ _ _ ⟨rfl, rfl⟩
    refine SL.as rfl <| SL.nil <| T.seq <| T.seq <| T.region <| SL.mv rfl <| SL.v (op_neqF rfl rfl (by omega)) ?_
    refine SL.nil <| T.condF rfl <| T.skip <| T.seq <| T.region <| SL.v (op_load ty40 rfl (by repeat constructor) rfl) ?_
    refine SL.mv rfl <| SL.mv rfl <| SL.w (op_callF en31 (vs := [_, _, _]) rfl (over_spec (hT.mono hX011) (hh'.mono hX011) hpc' (l := ext) ((((hSat.mono hX8).mono hX9).mono hX10).mono hX11) e2 (by omega) e6)) ?_
    rintro _ _ X12 ⟨rfl, hX12, zb, rfl, hzb⟩
    obtain ⟨zbu, zbp, rfl⟩ := cfgV hzb.w
    refine SL.mv rfl <| SL.v (op_extract rfl rfl) <| SL.v (op_extract rfl rfl) <| SL.w (op_alloc z40) ?_
    rintro _ _ _ ⟨B17, rfl, rfl, rfl⟩
    refine SL.w (op_store ty40 rfl rfl (by repeat constructor) rfl rfl rfl) ?_
    rintro _ _ _ ⟨rfl, rfl⟩
    refine SL.as rfl <| SL.nil <| T.seq <| T.seq <| T.region <| SL.mv rfl <| SL.v (op_neqF rfl rfl (by omega)) ?_
    refine SL.nil <| T.condF rfl <| T.skip <| T.seq <| T.drawG (own0 := [_, _]) (by kernel_rfl) 5 [.t 0, .t 1, .t 2, .r 3, .r 4] (by kernel_rfl) ?_
    refine SD.take rfl panicBody (op_load ty40 rfl (by repeat constructor) rfl) rfl rfl ?_
    refine SD.take rfl panicBody (op_load ty40 rfl (by repeat constructor) rfl) rfl rfl ?_
    refine SD.take rfl panicBody (op_move rfl) rfl rfl ?_
    refine SD.runK rfl (op_store ty40 rfl rfl (AtO.there (AtO.there (AtO.there AtO.here))) rfl rfl rfl) (by rintro _ _ _ ⟨rfl, rfl⟩; exact ⟨fun p hp => (List.mem_append_left _ hp : p ∈ [_, _] ++ [_, _, _, _]), PMap.le_refl _⟩) rfl rfl ?_
    rintro _ _ _ ⟨rfl, rfl⟩
    refine SD.runK rfl (op_store ty40 rfl rfl (AtO.there (AtO.there AtO.here)) rfl rfl rfl) (by rintro _ _ _ ⟨rfl, rfl⟩; exact ⟨fun p hp => (List.mem_append_left _ hp : p ∈ [_, _] ++ [_, _, _, _]), PMap.le_refl _⟩) rfl rfl ?_
    rintro _ _ _ ⟨rfl, rfl⟩
    refine SD.nil ?_
    show SL _ _ _ _ _ _ _ [_, _] _ _ _
    refine SL.as rfl <| SL.v (op_assign (v := .int .i64 ((0 : Nat) : Int)) rfl) <| SL.nil <| T.retA4 rfl (ResIs.cell rfl ty40 (by repeat constructor) rfl) (ResIs.cell rfl ty40 (by repeat constructor) rfl) (ResIs.tmp rfl) (ResIs.tmp rfl) ?_
    exact ⟨_, _, Aat, cat, by rw [← e2]; rfl, hza.mono hX12, hzb⟩
theorem jointN {po pn : List Nat} : (numL po pn [] po.length).2 ≤ po.length + pn.length ∧ po.length ≤ (numL po pn [] po.length).2 := by
  obtain ⟨_, _, _, e3, e4, _⟩ := numL_spec po pn [] po.length (Nat.le_refl _) List.nodup_nil (by simp)
  exact ⟨e4, e3⟩
theorem overM_len (us ps l : List Nat) (n : Nat) : (overM us ps l n).1.length = us.length ∧ (overM us ps l n).2.length = n := by
  simp only [overM, setAll_len, List.length_replicate]
  exact ⟨trivial, trivial⟩
end Go.Proofs.YtmfiencoefbjfaaGreatDoor
namespace Go.Proofs.YtmfiencoefbjfaaGreatDoor
section
set_option maxRecDepth 100000
theorem bs51 : ∃ i z, Tryz.prog.info? 51 = some i ∧ i.size = 3 ∧ i.zero = some z ∧ z.cells = ([.int .u8 0, .int .i64 0, .int .i64 0] : List Value).toArray := bs_of (by kernel_rfl)
theorem sl45 : SlT Tryz.prog 45 51 3 24 := ⟨Tryz.underlying45, sl_of (by kernel_rfl) (by decide)⟩
theorem z51 : Zero Tryz.prog 51 [.int .u8 0, .int .i64 0, .int .i64 0] := ⟨zero_of (by kernel_rfl)⟩
theorem st51 : StT Tryz.prog 51 [(0, 1), (1, 1), (2, 1)] [.int .u8 0, .int .i64 0, .int .i64 0] := ⟨⟨_, Tryz.underlying51, fun _ => by kernel_rfl, z51⟩⟩
theorem ty45 : Ty Tryz.prog 45 false 1 := ⟨⟨_, Tryz.underlying45, rfl⟩, by kernel_rfl⟩
theorem z45 : Zero Tryz.prog 45 [.slice none 0 0] := ⟨zero_of (by kernel_rfl)⟩
end
open Go.RowKit
def stC (s : Stp) : List Value := [.int .u8 (kindN s.1 s.2.1 : Int), .int .i64 (s.2.2.1 : Int), .int .i64 (s.2.2.2 : Int)]
def stpC (l : List Stp) : List Value := l.flatMap stC
theorem stpC_app (l l' : List Stp) : stpC (l ++ l') = stpC l ++ stpC l' := by simp [stpC]
theorem stpC_len (l : List Stp) : (stpC l).length = l.length * 3 := by
  induction l with
  | nil => rfl
  | cons s l ih =>
    have e : stpC (s :: l) = stC s ++ stpC l := rfl
    rw [e, List.length_append, ih, List.length_cons]
    simp only [stC, List.length_cons, List.length_nil]
    omega
theorem stpC_one (l : List Stp) : ∀ y ∈ stpC l, y.oneCell' = true := fun y hy => by
  simp only [stpC, List.mem_flatMap] at hy
  obtain ⟨s, _, hs⟩ := hy
  simp only [stC, List.mem_cons, List.not_mem_nil, or_false] at hs
  rcases hs with rfl | rfl | rfl <;> rfl
theorem stpC_get : ∀ (l : List Stp) (i : Nat) (h : i < l.length), (stpC l)[i * 3]? = some (.int .u8 (kindN l[i].1 l[i].2.1 : Int)) ∧ (stpC l)[i * 3 + 1]? = some (.int .i64 (l[i].2.2.1 : Int)) ∧ (stpC l)[i * 3 + 2]? = some (.int .i64 (l[i].2.2.2 : Int))
  | s :: l, 0, _ => by simp [stpC, stC]
  | s :: l, i + 1, h => by
    have := stpC_get l i (by simpa using h)
    have e : stpC (s :: l) = stC s ++ stpC l := rfl
    have e3 : (stC s).length = 3 := rfl
    rw [e, List.getElem?_append_right (by omega), List.getElem?_append_right (by omega), List.getElem?_append_right (by omega), e3, show (i + 1) * 3 - 3 = i * 3 by omega, show (i + 1) * 3 + 1 - 3 = i * 3 + 1 by omega, show (i + 1) * 3 + 2 - 3 = i * 3 + 2 by omega]
    simpa using this
theorem creadR3 {cs : List Value} {k k' : Nat} {x y z : Value} (hx : cs[k]? = some x) (hy : cs[k + 1]? = some y) (hz : cs[k + 2]? = some z) (e : k' = k) : cread true 3 cs k' = some (.agg #[x, y, z]) := by
  subst e
  have hl := (List.getElem?_eq_some_iff.1 hz).1
  have h1 : (cs.drop k').take 3 = [x, y, z] := by
    apply List.ext_getElem?
    intro i
    rcases i with _ | _ | _ | i
    · simp [hx]
    · simp [hy]
    · simp [hz]
    · simp
      omega
  have hb : Nat.ble (k' + 3) cs.length = true := Nat.ble_eq_true_of_le (by omega)
  simp [cread, hb, h1]
def diffK (a b : List Nat) (k : Nat) : List (Nat × Nat) := (List.range k).flatMap fun i => (mem64 (minB (b.getD i 0) (a.getD i 0))).map fun j => (i, j)
theorem diffK_succ (a b : List Nat) (k : Nat) : diffK a b (k + 1) = diffK a b k ++ (mem64 (minB (b.getD k 0) (a.getD k 0))).map fun j => (k, j) := by simp [diffK, List.range_succ]
theorem diffK_len (a b : List Nat) : ∀ k, (diffK a b k).length ≤ 64 * k
  | 0 => by simp [diffK]
  | k + 1 => by
    have h1 := diffK_len a b k
    have h2 := mem64_length (minB (b.getD k 0) (a.getD k 0))
    rw [diffK_succ, List.length_append, List.length_map]
    omega
/-- Places as steps. -/
def stps (usr one : Bool) (l : List (Nat × Nat)) : List Stp := l.map fun p => (usr, one, p.1, p.2)
theorem stps_snoc (usr one : Bool) (l : List (Nat × Nat)) (p : Nat × Nat) : stpC (stps usr one (l ++ [p])) = stpC (stps usr one l) ++ [.int .u8 (kindN usr one : Int), .int .i64 (p.1 : Int), .int .i64 (p.2 : Int)] := by
  simp [stps, stpC, stC]
theorem differing_spec {X : PMap} (hT : Tab X) {v w : Value} {ca cb : Nat} {a b : List Nat} (usr one : Bool) (ha : MatR X v ca a) (hb : MatR X w cb b) (hl : a.length = b.length) : SpecO Tryz.prog 32 [.int .u8 (kindN usr one : Int), v, w] X fun u own1 _ => GrowS 51 3 u (diffM a b).length (stpC (stps usr one (diffM a b))) own1 := by
  obtain ⟨hra, hca⟩ := ha.lens
  obtain ⟨hrb, hcb⟩ := hb.lens
  have hmx : maxLen = 9223372036854775807 := rfl
  refine SpecO.enter Tryz.func32 rfl Tryz.ntmps32 rfl ?_
  intro w0 hw0
  refine T.seq <| T.region <| SL.w (op_box rfl) ?_
  rintro _ _ _ ⟨B3, rfl, rfl, rfl⟩
  refine SL.as rfl <| SL.nil <| T.seq <| T.region <| SL.w (op_alloc z45) ?_
  rintro _ _ _ ⟨B7, rfl, rfl, rfl⟩
  refine SL.nil <| T.seq <| T.seq <| T.region <| SL.mv rfl <| SL.w (op_callF en11 (vs := [_]) rfl (rows_spec hb)) ?_
  rintro _ _ X1 ⟨rfl, hX1, rfl⟩
  refine SL.v (op_move (v := .int .i64 ((0 : Nat) : Int)) rfl) <| SL.nil <| T.block <| T.loopD (Ds := []) List.nodup_nil (fun m env own X' => ∃ (k : Nat) (s : Value) (G : Own), m = b.length - k ∧ k ≤ b.length ∧ X1.le X' ∧ GrowS 51 3 s (diffK a b k).length (stpC (stps usr one (diffK a b k))) G ∧ env = [(1, v), (2, w), (3, .pointer (some ⟨B3, 0, none⟩)), (7, .pointer (some ⟨B7, 0, none⟩)), (11, .int .i64 (b.length : Int)), (12, .int .i64 (k : Int))] ∧ own = [⟨B7, [s], 45, 1⟩, ⟨B3, [.int .u8 (kindN usr one : Int)], 49, 1⟩] ++ G) b.length ⟨0, _, [], by simp, by omega, PMap.le_refl _, GrowS.nil, rfl, rfl⟩ (by repeat (first | exact Sub.nil | refine Sub.cons rfl ?_)) ?_
  rintro Ds hDs m _ _ X2 ⟨k, s, G, rfl, hk, hX2, hG, rfl, rfl⟩
  have hX02 := hX1.trans' hX2
  have hdl := diffK_len a b k
  rcases Nat.lt_or_ge k b.length with hkl | hkl
  · have hka : k < a.length := by omega
    obtain ⟨As, cps, rfl⟩ := hG.form
    refine T.seq <| T.region <| SL.v (op_lssT rfl rfl (by omega)) ?_
    refine SL.nil <| T.seq <| T.condT rfl <| T.skip <| T.seq <| T.block <| T.seq <| T.region <| SL.mv rfl <| SL.w (op_alloc z3) ?_
    rintro _ _ _ ⟨B8, rfl, rfl, rfl⟩
    refine SL.w (op_store ty3 rfl rfl (by repeat constructor) rfl rfl rfl) ?_
    rintro _ _ _ ⟨rfl, rfl⟩
    refine SL.nil <| T.seq <| T.draw (by kernel_rfl) 8 [.t 0, .t 1, .t 3, .t 4, .r 2, .r 5, .r 6, .r 7] (by kernel_rfl) ?_
    refine SD.take rfl panicBody (op_move rfl) rfl rfl ?_
    refine SD.take rfl panicBody (op_load ty3 rfl (by repeat constructor) rfl) rfl rfl ?_
    refine SD.take rfl panicBody (op_move rfl) rfl rfl ?_
    refine SD.take rfl panicBody (op_load ty3 rfl (by repeat constructor) rfl) rfl rfl ?_
    refine SD.run rfl (op_callF en50 (vs := [_, _]) rfl (row_spec (hb.mono hX02) (k : Int))) rfl rfl ?_
    rintro _ _ X3 ⟨rfl, hX3, hS3⟩
    rw [rowM_at hkl] at hS3
    refine SD.run rfl (op_callF en50 (vs := [_, _]) rfl (row_spec ((ha.mono hX02).mono hX3) (k : Int))) rfl rfl ?_
    rintro _ _ X4 ⟨rfl, hX4, hS4⟩
    rw [rowM_at hka] at hS4
    refine SD.run rfl (op_callF en61 (vs := [_, _]) rfl (minus_spec (hS3.mono hX4) hS4)) rfl rfl ?_
    rintro _ _ X5 ⟨rfl, hX5, hS5⟩
    refine SD.run rfl (op_callF en60 (vs := [_]) rfl (all_spec)) rfl rfl ?_
    rintro _ _ X6 ⟨rfl, hX6, B22, rfl, hB22⟩
    refine SD.nil ?_
    show SL _ _ _ _ _ _ _ [] _ _ _
    have hX26 := ((hX3.trans' hX4).trans' hX5).trans' hX6
    have hX06 := hX02.trans' hX26
    obtain ⟨row, hrw⟩ : ∃ row, row = minB (b.getD k 0) (a.getD k 0) := ⟨_, rfl⟩
    have hS5' := hS5
    rw [show b[k] &&& (18446744073709551615 - a[k]) = row by rw [hrw]; simp [minB, hkl, hka]] at hS5'
    have hmem := mem64_length row
    refine SL.nil <| T.block <| T.rangeFuncD (Ds := Ds) (xs := (ints (mem64 row))) hDs rfl en85 rfl rfl (all_seq (hT.mono hX06) (hS5'.mono hX6) hB22) (fun i own' X' => X6.le X' ∧ ∃ (s : Value) (G : Own), GrowS 51 3 s (diffK a b k ++ ((mem64 row).take i).map fun j => (k, j)).length (stpC (stps usr one (diffK a b k ++ ((mem64 row).take i).map fun j => (k, j)))) G ∧ own' = [⟨B8, [.int .i64 (k : Int)], 3, 1⟩, ⟨B7, [s], 45, 1⟩, ⟨B3, [.int .u8 (kindN usr one : Int)], 49, 1⟩] ++ G) ⟨PMap.le_refl _, _, G, by simpa using hG, rfl⟩ (fun i own' X' h => h.1) ?_ ?_
    · rintro i z _ X7 l' r D hz ⟨hX7, s7, G7, hG7, rfl⟩
      obtain ⟨hzi, rfl⟩ := ints_some hz
      have hlen : (diffK a b k ++ ((mem64 row).take i).map fun j => (k, j)).length ≤ 64 * k + 64 := by rw [List.length_append, List.length_map, List.length_take]; omega
      refine T.block <| T.region <| SL.v (op_load ty45 rfl (by repeat constructor) rfl) ?_
      refine SL.v (op_load ty49 rfl (by repeat constructor) rfl) ?_
      refine SL.v (op_load ty3 rfl (by repeat constructor) rfl) ?_
      refine SL.mv rfl <| SL.v (op_build st51 (qs := [(0, _), (1, _), (2, _)]) rfl rfl) <| SL.w (op_buildSlice Tryz.underlying45 bs51 (qs := [(0, _)]) rfl rfl rfl rfl rfl) ?_
      rintro _ _ _ ⟨B29, rfl, rfl, rfl⟩
      refine SL.w (op_appendG (own0 := [_, _, _]) sl45 rfl hG7 rfl rfl rfl (by omega) (by omega)) ?_
      rintro s' _ _ ⟨G', rfl, rfl, hG'⟩
      obtain ⟨As', cps', rfl⟩ := hG'.form
      refine SL.w (op_store ty45 rfl rfl (by repeat constructor) rfl rfl rfl) ?_
      rintro _ _ _ ⟨rfl, rfl⟩
      refine SL.nil <| T.blk ?_
      exact T.roundEnd ⟨hX7, _, G', by rw [map_take_succ _ _ _ hzi, ← List.append_assoc, stps_snoc, List.length_append (bs := [_]), List.length_singleton]; exact hG', rfl⟩
    · rintro D _ X7 hDs' ⟨hX7, s7, G7, hG7, rfl⟩
      rw [show (ints (mem64 row)).length = (mem64 row).length by simp [ints], List.take_length, hrw, ← diffK_succ] at hG7
      refine T.blk <| T.blk <| T.region <| SL.v (op_addN (q := 1) rfl rfl (by omega)) ?_
      refine SL.mv rfl <| SL.nil <| T.drop B8 (by repeat constructor) ?_
      exact T.backD hDs' (b.length - (k + 1)) (by omega) ⟨k + 1, s7, G7, rfl, by omega, (hX2.trans' hX26).trans' hX7, hG7, rfl, rfl⟩ (by repeat (first | exact Sub.nil | refine Sub.cons rfl ?_))
  · obtain rfl : k = b.length := by omega
    obtain ⟨As, cps, rfl⟩ := hG.form
    refine T.seq <| T.region <| SL.v (op_lssF rfl rfl (by omega)) ?_
    refine SL.nil <| T.seq <| T.condF rfl ?_
    refine T.exit (T.exitCode (T.exitCut (T.exitBlk ?_)))
    refine T.seq <| T.region <| SL.v (op_load ty45 rfl (by repeat constructor) rfl) ?_
    refine SL.as rfl <| SL.nil ?_
    refine T.retOD (own' := G) (fun _ _ ha hs => run_results1 rfl (ResIs.tmp rfl) ha hs) (List.sublist_append_right _ G) ?_ ⟨_, rfl, rfl, hDs⟩
    exact hG
end Go.Proofs.YtmfiencoefbjfaaGreatDoor
namespace Go.Proofs.YtmfiencoefbjfaaGreatDoor
section
set_option maxRecDepth 100000
theorem en32 : Enters Tryz.prog 32 := enters_mk Tryz.func32 (by kernel_rfl) rfl
theorem en9 : Enters Tryz.prog 9 := enters_mk Tryz.func9 (by kernel_rfl) rfl
end
open Go.RowKit
theorem diffM_len (a b : List Nat) (h : b.length < 64) : (diffM a b).length ≤ 4096 := by
  have := diffK_len a b b.length
  have e : diffM a b = diffK a b b.length := rfl
  rw [e]
  omega
theorem stps_len (usr one : Bool) (l : List (Nat × Nat)) : (stps usr one l).length = l.length := by simp [stps]
theorem planM_eq (a b : List Nat × List Nat) : planM a b = ((stps false true (diffM a.2 b.2) ++ stps true true (diffM a.1 b.1)) ++ stps true false (diffM b.1 a.1)) ++ stps false false (diffM b.2 a.2) := rfl
theorem perm3t {G1 G2 O : Own} : (G2 ++ (O ++ G1)).Perm ((O ++ G1) ++ G2) := List.perm_append_comm
/-- The joint configurations of two. -/
def jntA (S S' : List Nat × List Nat) : List Nat × List Nat := overM S.1 S.2 (List.range S.2.length) (numL S.2 S'.2 [] S.2.length).2
def jntB (S S' : List Nat × List Nat) : List Nat × List Nat := overM S'.1 S'.2 (numL S.2 S'.2 [] S.2.length).1 (numL S.2 S'.2 [] S.2.length).2
theorem plan_spec {X : PMap} (hT : Tab X) {v w : Value} {c : Nat} {S S' : List Nat × List Nat} (h : CfgW X v c S) (h' : CfgW X w c S') (hl : S.1.length = S'.1.length) (hpc : ∀ m ∈ S.2, m < 2 ^ c) (hpc' : ∀ m ∈ S'.2, m < 2 ^ c) (h64 : S.2.length + S'.2.length < 64) :
    Spec Tryz.prog 10 [v, w] X fun u X' => ∃ s, u = .tuple #[s, .int .i64 0] ∧ SliceR X' s (planM (jntA S S') (jntB S S')).length (stpC (planM (jntA S S') (jntB S S'))) := by
  obtain ⟨bu, bp, rfl⟩ := cfgV h
  obtain ⟨bu', bp', rfl⟩ := cfgV h'
  have hmx : maxLen = 9223372036854775807 := rfl
  have hjo := joint_spec hT h h' hl hpc hpc' h64
  have hla1 : (jntA S S').1.length = (jntB S S').1.length := by rw [jntA, jntB, (overM_len _ _ _ _).1, (overM_len _ _ _ _).1, hl]
  have hla2 : (jntA S S').2.length = (jntB S S').2.length := by rw [jntA, jntB, (overM_len _ _ _ _).2, (overM_len _ _ _ _).2]
  change Spec _ _ _ _ (fun u X' => ∃ za zb A cp, u = .tuple #[za, zb, .slice A S'.2.length cp, .int .i64 0] ∧ CfgR X' za c (jntA S S') ∧ CfgR X' zb c (jntB S S')) at hjo
  generalize jntA S S' = a at *
  generalize jntB S S' = b at *
  refine Spec.enter Tryz.func10 rfl Tryz.ntmps10 rfl ?_
  intro w0 hw0
  refine T.seq <| T.region <| SL.w (op_box rfl) ?_
  rintro _ _ _ ⟨B2, rfl, rfl, rfl⟩
  refine SL.w (op_box rfl) ?_
  rintro _ _ _ ⟨B3, rfl, rfl, rfl⟩
  refine SL.as rfl <| SL.v (op_assign (v := .int .i64 ((0 : Nat) : Int)) rfl) <| SL.nil <| T.seq <| T.region <| SL.v (op_load ty40 rfl (by repeat constructor) rfl) ?_
  refine SL.v (op_load ty40 rfl (by repeat constructor) rfl) ?_
  refine SL.w (op_callF en9 (vs := [_, _]) rfl (hjo)) ?_
  rintro _ _ X1 ⟨rfl, hX1, za, zb, Aat, cat, rfl, hza, hzb⟩
  obtain ⟨au, ap, rfl, _, _, _, hau, hap, _⟩ := hza
  obtain ⟨zu, zp, rfl, _, _, _, hbu, hbp, _⟩ := hzb
  obtain ⟨hl1, _⟩ := hau.lens
  obtain ⟨hl2, _⟩ := hap.lens
  obtain ⟨hl3, _⟩ := hbu.lens
  obtain ⟨hl4, _⟩ := hbp.lens
  have hd1 := diffM_len a.2 b.2 hl4
  have hd2 := diffM_len a.1 b.1 hl3
  have hd3 := diffM_len b.1 a.1 hl1
  have hd4 := diffM_len b.2 a.2 hl2
  refine SL.mv rfl <| SL.v (op_extract rfl rfl) <| SL.v (op_extract rfl rfl) <| SL.v (op_extract rfl rfl) <| SL.v (op_extract rfl rfl) <| SL.w (op_alloc z40) ?_
  rintro _ _ _ ⟨B6, rfl, rfl, rfl⟩
  refine SL.w (op_alloc z40) ?_
  rintro _ _ _ ⟨B7, rfl, rfl, rfl⟩
  refine SL.w (op_store ty40 rfl rfl (by repeat constructor) rfl rfl rfl) ?_
  rintro _ _ _ ⟨rfl, rfl⟩
  refine SL.w (op_store ty40 rfl rfl (by repeat constructor) rfl rfl rfl) ?_
  rintro _ _ _ ⟨rfl, rfl⟩
  refine SL.as rfl <| SL.as rfl <| SL.nil <| T.seq <| T.seq <| T.region <| SL.mv rfl <| SL.v (op_neqF rfl rfl (by omega)) ?_
  refine SL.nil <| T.condF rfl <| T.skip <| T.seq <| T.region <| SL.v (op_fieldAddr fa40_1 rfl) <| SL.v (op_load ty26 rfl (by repeat constructor) rfl) ?_
  refine SL.v (op_fieldAddr fa40_1 rfl) <| SL.v (op_load ty26 rfl (by repeat constructor) rfl) ?_
  refine SL.w (op_callO en32 (vs := [_, _, _]) rfl (differing_spec (hT.mono hX1) false true hap hbp hla2)) ?_
  rintro s1 _ X2 ⟨G1, rfl, hX2, hG1⟩
  refine SL.perm List.perm_append_comm ?_
  have hX02 := hX1.trans' hX2
  refine SL.as rfl <| SL.nil <| T.seq <| T.region <| SL.mv rfl <| SL.v (op_fieldAddr fa40_0 rfl) <| SL.v (op_load ty26 rfl (by repeat constructor) rfl) ?_
  refine SL.v (op_fieldAddr fa40_0 rfl) <| SL.v (op_load ty26 rfl (by repeat constructor) rfl) ?_
  refine SL.w (op_callO en32 (vs := [_, _, _]) rfl (differing_spec (hT.mono hX02) true true (hau.mono hX2) (hbu.mono hX2) hla1)) ?_
  rintro s2 _ X3 ⟨G2, rfl, hX3, hG2⟩
  refine SL.perm perm3t ?_
  refine T.pubGAt (own0 := [_, _, _, _] ++ G1) hG2 ?_
  intro X4 hX4 hS4
  have hX24 := hX3.trans' hX4
  have hX04 := hX02.trans' hX24
  refine SL.w (op_appendGA (own0 := [_, _, _, _]) sl45 rfl hG1 rfl (Src.ofSl hS4 (by rw [stpC_len, stps_len])) (stpC_one _) (by omega) (by omega)) ?_
  rintro s3 _ _ ⟨G3, rfl, rfl, hG3⟩
  refine SL.as rfl <| SL.nil <| T.seq <| T.region <| SL.mv rfl <| SL.v (op_fieldAddr fa40_0 rfl) <| SL.v (op_load ty26 rfl (by repeat constructor) rfl) ?_
  refine SL.v (op_fieldAddr fa40_0 rfl) <| SL.v (op_load ty26 rfl (by repeat constructor) rfl) ?_
  refine SL.w (op_callO en32 (vs := [_, _, _]) rfl (differing_spec (hT.mono hX04) true false ((hbu.mono hX2).mono hX24) ((hau.mono hX2).mono hX24) hla1.symm)) ?_
  rintro s4 _ X5 ⟨G4, rfl, hX5, hG4⟩
  refine SL.perm perm3t ?_
  refine T.pubGAt (own0 := [_, _, _, _] ++ G3) hG4 ?_
  intro X6 hX6 hS6
  have hX46 := hX5.trans' hX6
  have hX06 := hX04.trans' hX46
  refine SL.w (op_appendGA (own0 := [_, _, _, _]) sl45 rfl hG3 rfl (Src.ofSl hS6 (by rw [stpC_len, stps_len])) (stpC_one _) (by omega) (by omega)) ?_
  rintro s5 _ _ ⟨G5, rfl, rfl, hG5⟩
  refine SL.as rfl <| SL.nil <| T.seq <| T.region <| SL.mv rfl <| SL.v (op_fieldAddr fa40_1 rfl) <| SL.v (op_load ty26 rfl (by repeat constructor) rfl) ?_
  refine SL.v (op_fieldAddr fa40_1 rfl) <| SL.v (op_load ty26 rfl (by repeat constructor) rfl) ?_
  refine SL.w (op_callO en32 (vs := [_, _, _]) rfl (differing_spec (hT.mono hX06) false false (((hbp.mono hX2).mono hX24).mono hX46) (((hap.mono hX2).mono hX24).mono hX46) hla2.symm)) ?_
  rintro s6 _ X7 ⟨G6, rfl, hX7, hG6⟩
  refine SL.perm perm3t ?_
  refine T.pubGAt (own0 := [_, _, _, _] ++ G5) hG6 ?_
  intro X8 hX8 hS8
  refine SL.w (op_appendGA (own0 := [_, _, _, _]) sl45 rfl hG5 rfl (Src.ofSl hS8 (by rw [stpC_len, stps_len])) (stpC_one _) (by omega) (by omega)) ?_
  rintro s7 _ _ ⟨G7, rfl, rfl, hG7⟩
  refine SL.as rfl <| SL.v (op_assign (v := .int .i64 ((0 : Nat) : Int)) rfl) <| SL.nil <| T.pubG (own0 := [_, _, _, _]) hG7 ?_
  intro X9 hX9 hS9
  refine T.ret2 rfl (ResIs.tmp rfl) (ResIs.tmp rfl) ?_
  refine ⟨_, rfl, ?_⟩
  have e : stpC (planM a b) = ((stpC (stps false true (diffM a.2 b.2)) ++ stpC (stps true true (diffM a.1 b.1))) ++ stpC (stps true false (diffM b.1 a.1))) ++ stpC (stps false false (diffM b.2 a.2)) := by
    rw [planM_eq, stpC_app, stpC_app, stpC_app]
  have e2 : (planM a b).length = (diffM a.2 b.2).length + (diffM a.1 b.1).length + (diffM b.1 a.1).length + (diffM b.2 a.2).length := by
    rw [planM_eq, List.length_append, List.length_append, List.length_append, stps_len, stps_len, stps_len, stps_len]
  rw [e, e2]
  exact hS9
end Go.Proofs.YtmfiencoefbjfaaGreatDoor
namespace Go.Proofs.YtmfiencoefbjfaaGreatDoor
section
set_option maxRecDepth 100000
theorem en12 : Enters Tryz.prog 12 := enters_mk Tryz.func12 (by kernel_rfl) rfl
theorem en14 : Enters Tryz.prog 14 := enters_mk Tryz.func14 (by kernel_rfl) rfl
theorem en38 : Enters Tryz.prog 38 := enters_mk Tryz.func38 (by kernel_rfl) rfl
theorem ty51 : Ty Tryz.prog 51 true 3 := ⟨⟨_, Tryz.underlying51, rfl⟩, by kernel_rfl⟩
theorem z5 : Zero Tryz.prog 5 [.int .u8 0] := ⟨zero_of (by kernel_rfl)⟩
end
open Go.RowKit
theorem stepM_len (S : List Nat × List Nat) (s : Stp) : (stepM S s).2.length = S.2.length := by
  unfold stepM
  split
  · rfl
  · exact setB_len _ _ _ _
theorem GoodRun.at {n c : Nat} {ms : List Nat} {S E : List Nat × List Nat} {l : List Stp} {k : Nat} (h : GoodRun n c ms S (l.drop k) E) (hk : k < l.length) : okStp n c S l[k] ∧ prodM (stepM S l[k]).1 (stepM S l[k]).2 = ms ∧ GoodRun n c ms (stepM S l[k]) (l.drop (k + 1)) E := by
  rw [List.drop_eq_getElem_cons hk] at h
  exact h
theorem GoodRun.fin {n c : Nat} {ms : List Nat} {S E : List Nat × List Nat} {l : List Stp} (h : GoodRun n c ms S (l.drop l.length) E) : S = E := by
  rw [List.drop_length] at h
  exact h
theorem planM_len {a b : List Nat × List Nat} (h1 : a.1.length < 64) (h2 : a.2.length < 64) (h3 : b.1.length < 64) (h4 : b.2.length < 64) : (planM a b).length ≤ 16384 := by
  have hd1 := diffM_len a.2 b.2 h4
  have hd2 := diffM_len a.1 b.1 h3
  have hd3 := diffM_len b.1 a.1 h1
  have hd4 := diffM_len b.2 a.2 h2
  rw [planM_eq, List.length_append, List.length_append, List.length_append, stps_len, stps_len, stps_len, stps_len]
  omega
theorem CfgR.lens {X : PMap} {v : Value} {c : Nat} {S : List Nat × List Nat} (h : CfgR X v c S) : S.1.length < 64 ∧ S.2.length < 64 := by
  obtain ⟨_, _, _, _, _, _, h1, h2, _⟩ := h
  exact ⟨h1.lens.1, h2.lens.1⟩
theorem verify_spec {X : PMap} (hT : Tab X) {v w s : Value} {c : Nat} {S S' : List Nat × List Nat} {ms : List Nat} (h : CfgW X v c S) (h' : CfgW X w c S') (hl : S.1.length = S'.1.length) (hpc : ∀ m ∈ S.2, m < 2 ^ c) (hpc' : ∀ m ∈ S'.2, m < 2 ^ c) (h64 : S.2.length + S'.2.length < 64)
    (hs : SliceR X s (planM (jntA S S') (jntB S S')).length (stpC (planM (jntA S S') (jntB S S')))) (hrun : GoodRun (jntA S S').2.length c ms (jntA S S') (planM (jntA S S') (jntB S S')) (jntB S S')) (e1 : prodM (jntA S S').1 (jntA S S').2 = ms) (e2 : prodM (jntB S S').1 (jntB S S').2 = ms) :
    Spec Tryz.prog 15 [v, w, s] X fun u _ => u = .tuple #[.int .u8 1, .int .i64 ((planM (jntA S S') (jntB S S')).length : Int), .int .i64 0] := by
  obtain ⟨bu, bp, rfl⟩ := cfgV h
  obtain ⟨bu', bp', rfl⟩ := cfgV h'
  have hjo := joint_spec hT h h' hl hpc hpc' h64
  change Spec _ _ _ _ (fun u X' => ∃ za zb A cp, u = .tuple #[za, zb, .slice A S'.2.length cp, .int .i64 0] ∧ CfgR X' za c (jntA S S') ∧ CfgR X' zb c (jntB S S')) at hjo
  generalize jntA S S' = a at *
  generalize jntB S S' = b at *
  obtain ⟨l, hle⟩ : ∃ l, l = planM a b := ⟨_, rfl⟩
  rw [← hle] at hs hrun ⊢
  obtain ⟨Al, cl, rfl⟩ := hs.form
  refine Spec.enter Tryz.func15 rfl Tryz.ntmps15 rfl ?_
  intro w0 hw0
  refine T.seq <| T.region <| SL.w (op_box rfl) ?_
  rintro _ _ _ ⟨B3, rfl, rfl, rfl⟩
  refine SL.w (op_box rfl) ?_
  rintro _ _ _ ⟨B4, rfl, rfl, rfl⟩
  refine SL.v (op_assign (v := .int .u8 ((0 : Nat) : Int)) rfl) <| SL.v (op_assign (v := .int .i64 ((0 : Nat) : Int)) rfl) <| SL.v (op_assign (v := .int .i64 ((0 : Nat) : Int)) rfl) <| SL.nil <| T.seq <| T.region <| SL.v (op_load ty40 rfl (by repeat constructor) rfl) ?_
  refine SL.v (op_load ty40 rfl (by repeat constructor) rfl) ?_
  refine SL.w (op_callF en9 (vs := [_, _]) rfl (hjo)) ?_
  rintro _ _ X1 ⟨rfl, hX1, za, zb, Aat, cat, rfl, hza, hzb⟩
  have hlb : l.length ≤ 16384 := by rw [hle]; exact planM_len hza.lens.1 hza.lens.2 hzb.lens.1 hzb.lens.2
  obtain ⟨au, ap, rfl⟩ := cfgV hza.w
  obtain ⟨zu, zp, rfl⟩ := cfgV hzb.w
  refine SL.mv rfl <| SL.v (op_extract rfl rfl) <| SL.v (op_extract rfl rfl) <| SL.v (op_extract rfl rfl) <| SL.v (op_extract rfl rfl) <| SL.w (op_alloc z40) ?_
  rintro _ _ _ ⟨B9, rfl, rfl, rfl⟩
  refine SL.w (op_alloc z40) ?_
  rintro _ _ _ ⟨B10, rfl, rfl, rfl⟩
  refine SL.w (op_store ty40 rfl rfl (by repeat constructor) rfl rfl rfl) ?_
  rintro _ _ _ ⟨rfl, rfl⟩
  refine SL.w (op_store ty40 rfl rfl (by repeat constructor) rfl rfl rfl) ?_
  rintro _ _ _ ⟨rfl, rfl⟩
  refine SL.as rfl <| SL.as rfl <| SL.nil <| T.seq <| T.seq <| T.region <| SL.mv rfl <| SL.v (op_neqF rfl rfl (by omega)) ?_
  refine SL.nil <| T.condF rfl <| T.skip <| T.seq <| T.region <| SL.v (op_load ty40 rfl (by repeat constructor) rfl) ?_
  refine SL.v (op_load ty40 rfl (by repeat constructor) rfl) ?_
  refine SL.w (op_callF en38 (vs := [_, _]) rfl (bounds_spec (hT.mono hX1) hza.w hzb.w e1 e2)) ?_
  rintro _ _ X2 ⟨rfl, hX2, yh, yl, rfl, hyh, hyl⟩
  obtain ⟨bh, rfl⟩ := hyh.ptr
  obtain ⟨bl, rfl⟩ := hyl.ptr
  have hX02 := hX1.trans' hX2
  refine SL.mv rfl <| SL.v (op_extract rfl rfl) <| SL.v (op_extract rfl rfl) <| SL.v (op_extract rfl rfl) <| SL.as rfl <| SL.as rfl <| SL.as rfl <| SL.nil <| T.seq <| T.seq <| T.region <| SL.mv rfl <| SL.v (op_neqF rfl rfl (by omega)) ?_
  refine SL.nil <| T.condF rfl <| T.skip <| T.seq <| T.seq <| T.region <| SL.mv rfl <| SL.v (op_lenS Tryz.underlying45 rfl) <| SL.v (op_move (v := .int .i64 ((0 : Nat) : Int)) rfl) <| SL.nil <| T.block <| T.loopW (fun m env own X' => ∃ (k : Nat) (x y : Nat) (Sk : List Nat × List Nat), m = l.length - k ∧ k ≤ l.length ∧ X2.le X' ∧ CfgR X' (.agg #[.pointer (some ⟨x, 0, none⟩), .pointer (some ⟨y, 0, none⟩)]) c Sk ∧ Sk.2.length = a.2.length ∧ GoodRun a.2.length c ms Sk (l.drop k) b ∧ env = [(2, .slice Al l.length cl), (9, .pointer (some ⟨B9, 0, none⟩)), (10, .pointer (some ⟨B10, 0, none⟩)), (13, .pointer (some ⟨bh, 0, none⟩)), (14, .pointer (some ⟨bl, 0, none⟩)), (41, .slice Al l.length cl), (42, .int .i64 (l.length : Int)), (43, .int .i64 (k : Int))] ∧ own = [⟨B10, [.pointer (some ⟨zu, 0, none⟩), .pointer (some ⟨zp, 0, none⟩)], 40, 2⟩, ⟨B9, [.pointer (some ⟨x, 0, none⟩), .pointer (some ⟨y, 0, none⟩)], 40, 2⟩, ⟨B4, [.pointer (some ⟨bu', 0, none⟩), .pointer (some ⟨bp', 0, none⟩)], 40, 2⟩, ⟨B3, [.pointer (some ⟨bu, 0, none⟩), .pointer (some ⟨bp, 0, none⟩)], 40, 2⟩]) l.length ⟨0, au, ap, a, by simp, by omega, PMap.le_refl _, hza.mono hX2, rfl, by simpa using hrun, rfl, rfl⟩ (by repeat (first | exact Sub.nil | refine Sub.cons rfl ?_)) ?_
  rintro m _ _ X3 ⟨k, x, y, Sk, rfl, hk, hX3, hC, hlen, hgr, rfl, rfl⟩
  have hX03 := hX02.trans' hX3
  rcases Nat.lt_or_ge k l.length with hkl | hkl
  · obtain ⟨hok, hpr, hgr'⟩ := hgr.at hkl
    obtain ⟨bs, rfl, hBs⟩ := hs.blk (by omega)
    obtain ⟨g1, g2, g3⟩ := stpC_get l k hkl
    have hBs3 := hBs.mono hX03
    refine T.seq <| T.region <| SL.v (op_lssT rfl rfl (by omega)) ?_
    refine SL.nil <| T.seq <| T.condT rfl <| T.skip <| T.seq <| T.block <| T.seq <| T.region <| SL.mv rfl <| SL.v (op_indexN Tryz.underlying45 ty51 rfl rfl (by omega)) ?_
    refine SL.v (op_loadX ty51 rfl hBs3 (creadR3 g1 g2 g3 (by omega))) ?_
    refine SL.w (op_alloc z51) ?_
    rintro _ _ _ ⟨B16, rfl, rfl, rfl⟩
    refine SL.as rfl <| SL.w (op_store ty51 rfl rfl (by repeat constructor) rfl rfl rfl) ?_
    rintro _ _ _ ⟨rfl, rfl⟩
    refine SL.nil <| T.seq <| T.region <| SL.v (op_load ty40 rfl (by repeat constructor) rfl) ?_
    refine SL.v (op_load ty51 rfl (by repeat constructor) rfl) ?_
    refine SL.w (op_callF en12 (vs := [_, _]) rfl (apply_spec hC l[k] (by rw [hlen]; exact hok))) ?_
    rintro _ _ X4 ⟨rfl, hX4, z4, rfl, hC4⟩
    obtain ⟨x4, y4, rfl⟩ := cfgV hC4.w
    have hX04 := hX03.trans' hX4
    refine SL.mv rfl <| SL.v (op_extract rfl rfl) <| SL.v (op_extract rfl rfl) <| SL.w (op_alloc z40) ?_
    rintro _ _ _ ⟨B17, rfl, rfl, rfl⟩
    refine SL.w (op_store ty40 rfl rfl (by repeat constructor) rfl rfl rfl) ?_
    rintro _ _ _ ⟨rfl, rfl⟩
    refine SL.as rfl <| SL.nil <| T.seq <| T.seq <| T.region <| SL.mv rfl <| SL.v (op_neqF rfl rfl (by omega)) ?_
    refine SL.nil <| T.condF rfl <| T.skip <| T.seq <| T.region <| SL.v (op_load ty40 rfl (by repeat constructor) rfl) ?_
    refine SL.w (op_callF en13 (vs := [_]) rfl (access_spec (hT.mono hX04) hC4.w)) ?_
    rintro _ _ X5 ⟨rfl, hX5, z5, rfl, hM5⟩
    rw [hpr] at hM5
    obtain ⟨b5, rfl⟩ := hM5.ptr
    have hX25 := (hX3.trans' hX4).trans' hX5
    refine SL.mv rfl <| SL.v (op_extract rfl rfl) <| SL.v (op_extract rfl rfl) <| SL.as rfl <| SL.as rfl <| SL.nil <| T.seq <| T.seq <| T.region <| SL.mv rfl <| SL.v (op_neqF rfl rfl (by omega)) ?_
    refine SL.nil <| T.condF rfl <| T.skip <| T.seq <| T.seq <| T.region <| SL.mv rfl <| SL.mv rfl <| SL.w (op_callF en37 (vs := [_, _]) rfl (mwithin_spec hM5 (hyh.mono hX25))) ?_
    rintro _ _ X6 ⟨rfl, hX6, rfl⟩
    refine SL.v (op_not rfl) <| SL.nil <| T.condF rfl <| T.skip <| T.seq <| T.seq <| T.region <| SL.mv rfl <| SL.mv rfl <| SL.w (op_callF en37 (vs := [_, _]) rfl (mwithin_spec ((hyl.mono hX25).mono hX6) (hM5.mono hX6))) ?_
    rintro _ _ X7 ⟨rfl, hX7, rfl⟩
    refine SL.v (op_not rfl) <| SL.nil <| T.condF rfl <| T.skip <| T.region <| SL.v (op_load ty40 rfl (by repeat constructor) rfl) ?_
    refine SL.w (op_store ty40 rfl rfl (by repeat constructor) rfl rfl rfl) ?_
    rintro _ _ _ ⟨rfl, rfl⟩
    refine SL.nil <| T.blk <| T.region <| SL.v (op_addN (q := 1) rfl rfl (by omega)) ?_
    refine SL.mv rfl <| SL.nil <| T.drop B17 (by repeat constructor) ?_
    refine T.drop B16 (by repeat constructor) ?_
    exact T.backW (l.length - (k + 1)) (by omega) ⟨k + 1, x4, y4, stepM Sk l[k], rfl, by omega, (hX25.trans' hX6).trans' hX7, ((hC4.mono hX5).mono hX6).mono hX7, by rw [stepM_len]; exact hlen, hgr', rfl, rfl⟩ (by repeat (first | exact Sub.nil | refine Sub.cons rfl ?_))
  · obtain rfl : k = l.length := by omega
    have hfin := hgr.fin
    subst hfin
    obtain ⟨x1, y1, he1, _, _, _, hMu, hMp, _⟩ := hC
    obtain ⟨x2, y2, he2, _, _, _, hMu', hMp', _⟩ := (hzb.mono hX2).mono hX3
    simp only [Value.agg.injEq, Array.mk.injEq, List.cons.injEq, Value.pointer.injEq, Option.some.injEq, Addr.mk.injEq, and_true] at he1 he2
    obtain ⟨rfl, rfl⟩ := he1
    obtain ⟨rfl, rfl⟩ := he2
    refine T.seq <| T.region <| SL.v (op_lssF rfl rfl (by omega)) ?_
    refine SL.nil <| T.seq <| T.condF rfl ?_
    refine T.exit (T.exitCode (T.exitCut (T.exitBlk ?_)))
    refine T.seq <| T.seq <| T.region <| SL.v (op_fieldAddr fa40_0 rfl) <| SL.v (op_load ty26 rfl (by repeat constructor) rfl) ?_
    refine SL.v (op_fieldAddr fa40_0 rfl) <| SL.v (op_load ty26 rfl (by repeat constructor) rfl) ?_
    refine SL.w (op_callF en14 (vs := [_, _]) rfl (mequal_spec hMu hMu')) ?_
    rintro _ _ X4 ⟨rfl, hX4, rfl⟩
    refine SL.v (op_not rfl) <| SL.mv rfl <| SL.v (op_fieldAddr fa40_1 rfl) <| SL.v (op_load ty26 rfl (by repeat constructor) rfl) ?_
    refine SL.v (op_fieldAddr fa40_1 rfl) <| SL.v (op_load ty26 rfl (by repeat constructor) rfl) ?_
    refine SL.w (op_callF en14 (vs := [_, _]) rfl (mequal_spec (hMp.mono hX4) (hMp'.mono hX4))) ?_
    rintro _ _ X5 ⟨rfl, hX5, rfl⟩
    refine SL.v (op_not rfl) <| SL.v (op_pickF rfl rfl) <| SL.nil <| T.condF rfl <| T.skip <| T.seq <| T.region <| SL.mv rfl <| SL.v (op_lenS Tryz.underlying45 rfl) <| SL.v (op_assign (v := .int .u8 ((1 : Nat) : Int)) rfl) <| SL.as rfl <| SL.v (op_assign (v := .int .i64 ((0 : Nat) : Int)) rfl) <| SL.nil <| T.ret3 rfl rfl rfl rfl ?_
    rfl
end Go.Proofs.YtmfiencoefbjfaaGreatDoor
namespace Go.Proofs.YtmfiencoefbjfaaGreatDoor
open Go.RowKit
/-- A configuration gives the access ms. -/
structure CfgOk (c : Nat) (ms : List Nat) (S : List Nat × List Nat) : Prop where
  len : S.1.length = ms.length
  wu : Wds S.1
  wp : Wds S.2
  per : ∀ m ∈ S.2, m < 2 ^ c
  rol : ∀ u k, Rel S.1 u k = true → k < S.2.length
  acc : prodM S.1 S.2 = ms
  few : S.2.length < 6
theorem ownOk {c : Nat} {ms : List Nat} (hr : ms.length < 6) (hc : c < 6) (hms : ∀ m ∈ ms, m < 2 ^ c) : CfgOk c ms (ownU ms.length, ms) where
  len := by simp [ownU]
  wu := wds_ownU (by omega)
  wp m hm := Nat.lt_of_lt_of_le (hms m hm) (Nat.le_trans (pow6 hc) (by decide))
  per := hms
  rol u k h := by show k < ms.length; have := rel_ownU.1 h; omega
  acc := prod_own (by omega)
  few := hr
theorem rolOk {c : Nat} {ms : List Nat} {ch : List (Nat × Nat)} (hr : ms.length < 6) (hc : c < 6) (h : MinC c ms ch) : CfgOk c ms (transM ms.length (ch.map (·.1)), ch.map (·.2)) where
  len := by simp [transM]
  wu := wds_transM (by have := h.len; rw [List.length_map]; omega)
  wp m hm := by
    obtain ⟨p, hp, rfl⟩ := List.mem_map.1 hm
    exact Nat.lt_of_lt_of_le (conF_lt hr hc (h.mem p hp)).2 (Nat.le_trans (pow6 hc) (by decide))
  per m hm := by
    obtain ⟨p, hp, rfl⟩ := List.mem_map.1 hm
    exact (conF_lt hr hc (h.mem p hp)).2
  rol u k hk := by
    have := rel_len ((rel_transM).1 hk).2
    rwa [List.length_map] at this ⊢
  acc := prod_roles (by have := h.len; omega) (fun p hp i j hi hj => conF_rect hr hc (h.mem p hp) hi hj) h.covs
  few := by have := h.len; rw [List.length_map]; omega
theorem rows_lt {c : Nat} {ms : List Nat} {S : List Nat × List Nat} (h : CfgOk c ms S) : ∀ m ∈ S.1, m < 2 ^ S.2.length := fun m hm => by
  obtain ⟨i, hi, rfl⟩ := List.getElem_of_mem hm
  exact lt_pow_of_bits fun j hj => h.rol i j (by simpa [Rel, hi] using hj)
section
variable {c : Nat} {ms : List Nat} {S S' : List Nat × List Nat} (h : CfgOk c ms S) (h' : CfgOk c ms S') (hl : ms.length ≤ 64)
include h h' hl
theorem meetJ : Meet (numL S.2 S'.2 [] S.2.length).2 c ms (jntA S S') (jntB S S') :=
  meet_over h.wu h.wp h'.wu h'.wp h.len h'.len hl (by have := h.few; have := h'.few; omega) (fun k p hr => bits_of_lt (h.per _ (List.getElem_mem (rel_len hr))) (by have := rel_len hr; simpa [Rel, this] using hr)) (fun k p hr => bits_of_lt (h'.per _ (List.getElem_mem (rel_len hr))) (by have := rel_len hr; simpa [Rel, this] using hr)) h.acc h'.acc h.rol h'.rol
theorem runJ (hc : c < 6) : GoodRun (jntA S S').2.length c ms (jntA S S') (planM (jntA S S') (jntB S S')) (jntB S S') ∧ prodM (jntA S S').1 (jntA S S').2 = ms ∧ prodM (jntB S S').1 (jntB S S').2 = ms := by
  have M := meetJ h h' hl
  have hn := (jointN (po := S.2) (pn := S'.2)).1
  have h1 := h.few
  have h2 := h'.few
  refine ⟨?_, mid M M.wau rfl (fun _ _ h => .inl h) (fun _ _ h => .inl h) (.inl ⟨fun _ _ h => h, fun _ _ h => h⟩), mid M M.wbu M.lu (fun _ _ h => .inr h) (fun _ _ h => .inr h) (.inr ⟨fun _ _ h => h, fun _ _ h => h⟩)⟩
  rw [show (jntA S S').2.length = (numL S.2 S'.2 [] S.2.length).2 from (overM_len _ _ _ _).2]
  exact plan_runs M (by omega) (by omega)
end
theorem maskOf_one (k : Nat) : maskOf [k] = 2 ^ k := by simp [maskOf]
theorem own_spec {X : PMap} {v : Value} {c : Nat} {ms : List Nat} (h : MatR X v c ms) (hr : ms.length < 6) : Spec Tryz.prog 8 [v] X fun u X' => CfgW X' u c (ownU ms.length, ms) := by
  obtain ⟨bm, rfl⟩ := h.ptr
  have hmx : maxLen = 9223372036854775807 := rfl
  refine Spec.enter Tryz.func8 rfl Tryz.ntmps8 rfl ?_
  intro w0 hw0
  refine T.seq <| T.region <| SL.w (op_alloc z40) ?_
  rintro _ _ _ ⟨B2, rfl, rfl, rfl⟩
  refine SL.nil <| T.seq <| T.region <| SL.as rfl <| SL.nil <| T.seq <| T.seq <| T.region <| SL.mv rfl <| SL.w (op_callF en11 (vs := [_]) rfl (rows_spec h)) ?_
  rintro _ _ X1 ⟨rfl, hX1, rfl⟩
  refine SL.v (op_move (v := .int .i64 ((0 : Nat) : Int)) rfl) <| SL.nil <| T.block <| T.loopW (fun m env own X' => ∃ (k : Nat) (s : Value) (cs : List Value) (G : Own), m = ms.length - k ∧ k ≤ ms.length ∧ X1.le X' ∧ GrowS 65 1 s k cs G ∧ SetsR X' cs (ownU k) ∧ env = [(0, .pointer (some ⟨bm, 0, none⟩)), (2, .pointer (some ⟨B2, 0, none⟩)), (3, s), (8, .int .i64 (ms.length : Int)), (9, .int .i64 (k : Int))] ∧ own = [⟨B2, [.pointer none, .pointer none], 40, 2⟩] ++ G) ms.length ⟨0, _, [], [], by simp, by omega, PMap.le_refl _, GrowS.nil, ⟨rfl, fun i m h => by simp [ownU] at h⟩, rfl, rfl⟩ (by repeat (first | exact Sub.nil | refine Sub.cons rfl ?_)) ?_
  rintro m _ _ X2 ⟨k, s, cs, G, rfl, hk, hX2, hG, hC, rfl, rfl⟩
  rcases Nat.lt_or_ge k ms.length with hkl | hkl
  · skip
    refine T.seq <| T.region <| SL.v (op_lssT rfl rfl (by omega)) ?_
    refine SL.nil <| T.seq <| T.condT rfl <| T.skip <| T.seq <| T.block <| T.seq <| T.region <| SL.mv rfl <| SL.as rfl <| SL.nil <| T.region <| SL.mv rfl <| SL.mv rfl <| SL.w (op_buildSlice Tryz.underlying42 bs3 (qs := [(0, _)]) rfl rfl rfl rfl rfl) ?_
    rintro _ _ _ ⟨B14, rfl, rfl, rfl⟩
    refine T.pubAt B14 (by repeat constructor) ?_
    intro X3 hX3 hB14 _
    refine SL.w (op_callF en17 (vs := [_]) rfl (of_spec (l := [k]) (.inr ⟨by simp, _, _, rfl, hB14⟩) (by simp; omega) (by simp))) ?_
    rintro _ _ X4 ⟨rfl, hX4, hS4⟩
    rw [maskOf_one] at hS4
    obtain ⟨A4, l4, c4, rfl⟩ := hS4.form
    refine SL.w (op_buildSlice Tryz.underlying62 bs65 (qs := [(0, _)]) rfl rfl rfl rfl rfl) ?_
    rintro _ _ _ ⟨B16, rfl, rfl, rfl⟩
    refine SL.w (op_appendG (own0 := [_]) sl62 rfl hG rfl rfl rfl (by omega) (by omega)) ?_
    rintro s' _ _ ⟨G', rfl, rfl, hG'⟩
    refine SL.as rfl <| SL.nil <| T.blk <| T.region <| SL.v (op_addN (q := 1) rfl rfl (by omega)) ?_
    refine SL.mv rfl <| SL.nil ?_
    exact T.backW (ms.length - (k + 1)) (by omega) ⟨k + 1, s', _, G', rfl, by omega, (hX2.trans' hX3).trans' hX4, hG', by rw [show ownU (k + 1) = ownU k ++ [2 ^ k] by simp [ownU, List.range_succ]]; exact ((hC.mono hX3).mono hX4).snoc hS4, rfl, rfl⟩ (by repeat (first | exact Sub.nil | refine Sub.cons rfl ?_))
  · obtain rfl : k = ms.length := by omega
    have hX02 := hX1.trans' hX2
    refine T.seq <| T.region <| SL.v (op_lssF rfl rfl (by omega)) ?_
    refine SL.nil <| T.seq <| T.condF rfl ?_
    refine T.exit (T.exitCode (T.exitCut (T.exitBlk ?_)))
    refine T.seq <| T.region <| SL.mv rfl <| SL.w (op_callF en11 (vs := [_]) rfl (rows_spec (h.mono hX02))) ?_
    rintro _ _ X3 ⟨rfl, hX3, rfl⟩
    refine T.pubGAt (own0 := [_]) hG ?_
    intro X4 hX4 hS4
    have hlo : (ownU ms.length).length = ms.length := by simp [ownU]
    have hX24 := hX3.trans' hX4
    refine SL.mv rfl <| SL.w (op_callF en19 (vs := [_, _]) rfl (mof_spec ms.length (show SliceR X4 s (ownU ms.length).length cs by rw [hlo]; exact hS4) (hC.mono hX24) (by omega) (by omega) (fun m hm => (by obtain ⟨i, hi, rfl⟩ := List.mem_map.1 hm; exact within_of_lt (Nat.pow_lt_pow_right (a := 2) (by omega) (List.mem_range.1 hi)) (by omega))))) ?_
    rintro _ _ X5 ⟨rfl, hX5, wu, rfl, hMu⟩
    obtain ⟨bu, rfl⟩ := hMu.ptr
    refine SL.mv rfl <| SL.v (op_extract rfl rfl) <| SL.v (op_extract rfl rfl) <| SL.as rfl <| SL.as rfl <| SL.nil <| T.seq <| T.region <| SL.mv rfl <| SL.mv rfl <| SL.v (op_build st40 (qs := [(0, _), (1, _)]) rfl rfl) <| SL.w (op_store ty40 rfl rfl (by repeat constructor) rfl rfl rfl) ?_
    rintro _ _ _ ⟨rfl, rfl⟩
    refine SL.nil <| T.ret1 rfl (ResIs.cell rfl ty40 (by repeat constructor) rfl) ?_
    refine ⟨bu, bm, rfl, hMu, (h.mono hX02).mono (hX24.trans' hX5), fun m hm => ?_⟩
    obtain ⟨i, hi, rfl⟩ := List.mem_map.1 hm
    exact Nat.pow_lt_pow_right (a := 2) (by omega) (List.mem_range.1 hi)
end Go.Proofs.YtmfiencoefbjfaaGreatDoor
namespace Go.Proofs.YtmfiencoefbjfaaGreatDoor
open Go.RowKit
inductive Tr where
  | nil
  | t (i : Nat) (r : Tr)
  | r (i : Nat) (r : Tr)
  | w (i j : Nat) (p q : Tr)
  | w3 (i j k : Nat) (p q s : Tr)
def tlen : Tr → Nat
  | .nil => 0
  | .t _ r => tlen r + 1
  | .r _ r => tlen r + 1
  | .w _ _ p _ => tlen p + 1
  | .w3 _ _ _ p _ _ => tlen p + 1
def treeOk (ops : Array Oper) (nh : Nat) : Tr → Array Bool → Bool
  | .nil, listed => Region.seqB .any ops (ops.size - nh) nh listed
  | .t i r, listed => Nat.blt i nh && (Region.ready .any ops listed).contains i && Region.free .any ops listed i && depB ops none i && treeOk ops nh r (listed.setIfInBounds i true)
  | .r i r, listed => Nat.blt i nh && decide (Region.ready .any ops listed = [i]) && treeOk ops nh r (listed.setIfInBounds i true)
  | .w i j p q, listed => Nat.blt i nh && Nat.blt j nh && Nat.beq (tlen p) (tlen q) && decide (Region.ready .any ops listed = [i, j]) && treeOk ops nh p (listed.setIfInBounds i true) && treeOk ops nh q (listed.setIfInBounds j true)
  | .w3 i j k p q s, listed => Nat.blt i nh && Nat.blt j nh && Nat.blt k nh && Nat.beq (tlen p) (tlen q) && Nat.beq (tlen p) (tlen s) && decide (Region.ready .any ops listed = [i, j, k]) && treeOk ops nh p (listed.setIfInBounds i true) && treeOk ops nh q (listed.setIfInBounds j true) && treeOk ops nh s (listed.setIfInBounds k true)
def treeDrawOk (ops : Array Oper) (nh : Nat) (tr : Tr) : Bool :=
  noDefers ops && Region.noSelect ops && tailB ops nh && decide (tlen tr + (ops.size - nh) = ops.size) && treeOk ops nh tr (Array.replicate ops.size false)
def SDT (ro : Option Nat) (P : Program) (n : NM) (w0 : Base) (X0 : PMap) (ops : Array Oper) (Q : Exit → Act → World → Prop) (nh : Nat) (ownS : Own) (XS : PMap) (tr : Tr) (env : Env) (own : Own) (X : PMap) : Prop :=
  ∀ (listed : Array Bool) a W, Region.noSelect ops = true → noDefers ops = true → TailWaits ops nh → HeadInv .any ops nh listed → treeOk ops nh tr listed = true →
    EOk n env a → Sat w0 X0 own X W → Stab ownS XS W → hdAny ro P ops Q none (Stab ownS XS) nh (tailL ro P ops Q nh) (tlen tr) listed a W
section
variable {P : Program} {n : NM} {w0 : Base} {X0 X XS : PMap} {own ownS : Own} {env : Env} {ops : Array Oper} {Q : Exit → Act → World → Prop} {nh : Nat} {ro : Option Nat}
theorem SDT.nil (h : SL ro P n w0 X0 ops Q (ops.toList.drop nh) env own X) : SDT ro P n w0 X0 ops Q nh ownS XS .nil env own X :=
  fun _ a W _ _ _ _ hp ha hs _ => ⟨hp, h a W ha hs⟩
theorem SDT.take {i : Nat} {tr : Tr} {d : Option Tmp} {op : Op} {ty : TypeId} {pos : String} {af : Array Edge} {g : Option (Nat × Bool)} {v : Value} (hi : ops[i]? = some ⟨d, op, ty, pos, af, g⟩)
    (hQ : ∀ c a w, Q (.panic c) (a.put d v) w → Q (.panic c) a w)
    (h : OpY P n env ownS XS op v) (hg : gwant ops env g = some true) (hd : dok n d = true) (h' : SDT ro P n w0 X0 ops Q nh ownS XS tr (eput env d v) own X) : SDT ro P n w0 X0 ops Q nh ownS XS (.t i tr) env own X := by
  intro listed a W hns hnd ht inv hp ha hs hst
  simp only [treeOk, Bool.and_eq_true] at hp
  obtain ⟨⟨⟨⟨hin, hr⟩, hf⟩, hdp⟩, hp⟩ := hp
  have hin' : i < nh := Nat.le_of_ble_eq_true hin
  have hr' : i ∈ Region.ready .any ops listed := by simpa using hr
  refine hd_first hi (Region.noSelect_spec hns) (noDefers_spec hnd) ht hin' hQ (fun _ _ _ h => tail_done h) (depB_ne hdp) (fun l w inv hun h => h (depB_opn hdp inv hun)) _ listed a W inv (Region.free_spec hi hf) hr' (.inl ⟨gwant_spec ha hg, fun w hw => h a w _ rfl ha hw⟩) (fun _ => hst) ?_
  exact h' _ _ _ hns hnd ht (inv.set hr' hin') hp (ha.eput hd v) hs hst
theorem SDT.run {i : Nat} {tr : Tr} {d : Option Tmp} {op : Op} {ty : TypeId} {pos : String} {af : Array Edge} {g : Option (Nat × Bool)} {k : Value → Own → PMap → Prop} (hi : ops[i]? = some ⟨d, op, ty, pos, af, g⟩)
    (h : OpX P n w0 X0 env own X op true k) (hg : gwant ops env g = some true) (hd : dok n d = true) (h' : ∀ v own' X', k v own' X' → SDT ro P n w0 X0 ops Q nh ownS XS tr (eput env d v) own' X') : SDT ro P n w0 X0 ops Q nh ownS XS (.r i tr) env own X := by
  intro listed a W hns hnd ht inv hp ha hs hst
  simp only [treeOk, Bool.and_eq_true, decide_eq_true_eq] at hp
  obtain ⟨⟨hin, hr⟩, hp⟩ := hp
  have hin' : i < nh := Nat.le_of_ble_eq_true hin
  have hr' : i ∈ Region.ready .any ops listed := by rw [hr]; simp
  refine ⟨by rw [hr]; simp, fun j hj => ?_⟩
  rw [hr] at hj
  have hji : j = i := by simpa using hj
  subst hji
  refine ⟨hin', ?_⟩
  unfold wpOpIn
  simp only [hi]
  rw [if_pos (gwant_spec ha hg)]
  refine h a W _ _ _ _ rfl ha hs fun v own' X' W' hk hs' hgr => ⟨fun _ => hst.grow (hgr rfl), ?_⟩
  exact h' v own' X' hk _ _ _ hns hnd ht (inv.set hr' hin') hp (ha.eput hd v) hs' (hst.grow (hgr rfl))
theorem SDT.runK {i : Nat} {tr : Tr} {d : Option Tmp} {op : Op} {ty : TypeId} {pos : String} {af : Array Edge} {g : Option (Nat × Bool)} {gr : Bool} {k : Value → Own → PMap → Prop} (hi : ops[i]? = some ⟨d, op, ty, pos, af, g⟩)
    (h : OpX P n w0 X0 env own X op gr k) (hkeep : ∀ v own' X', k v own' X' → (∀ p ∈ ownS, p ∈ own') ∧ XS.le X') (hg : gwant ops env g = some true) (hd : dok n d = true) (h' : ∀ v own' X', k v own' X' → SDT ro P n w0 X0 ops Q nh ownS XS tr (eput env d v) own' X') : SDT ro P n w0 X0 ops Q nh ownS XS (.r i tr) env own X := by
  intro listed a W hns hnd ht inv hp ha hs hst
  simp only [treeOk, Bool.and_eq_true, decide_eq_true_eq] at hp
  obtain ⟨⟨hin, hr⟩, hp⟩ := hp
  have hin' : i < nh := Nat.le_of_ble_eq_true hin
  have hr' : i ∈ Region.ready .any ops listed := by rw [hr]; simp
  refine ⟨by rw [hr]; simp, fun j hj => ?_⟩
  rw [hr] at hj
  have hji : j = i := by simpa using hj
  subst hji
  refine ⟨hin', ?_⟩
  unfold wpOpIn
  simp only [hi]
  rw [if_pos (gwant_spec ha hg)]
  refine h a W _ _ _ _ rfl ha hs fun v own' X' W' hk hs' _ => ?_
  obtain ⟨h1, h2⟩ := hkeep v own' X' hk
  have hst' : Stab ownS XS W' := ⟨fun p hp => hs'.stab.own p (h1 p hp), fun q o hq => hs'.stab.pers q o (h2 q o hq)⟩
  exact ⟨fun _ => hst', h' v own' X' hk _ _ _ hns hnd ht (inv.set hr' hin') hp (ha.eput hd v) hs' hst'⟩
theorem SDT.one {i : Nat} {tr : Tr} {d : Option Tmp} {op : Op} {ty : TypeId} {pos : String} {af : Array Edge} {g : Option (Nat × Bool)} {k : Value → Own → PMap → Prop} {listed : Array Bool} {a : Act} {W : World} (hi : ops[i]? = some ⟨d, op, ty, pos, af, g⟩)
    (h : OpX P n w0 X0 env own X op true k) (hg : gwant ops env g = some true) (hd : dok n d = true) (h' : ∀ v own' X', k v own' X' → SDT ro P n w0 X0 ops Q nh ownS XS tr (eput env d v) own' X')
    (hns : Region.noSelect ops = true) (hnd : noDefers ops = true) (ht : TailWaits ops nh) (inv : HeadInv .any ops nh listed) (hr : i ∈ Region.ready .any ops listed) (hin : i < nh) (hp : treeOk ops nh tr (listed.setIfInBounds i true) = true)
    (ha : EOk n env a) (hs : Sat w0 X0 own X W) (hst : Stab ownS XS W) : i < nh ∧ wpOpIn (FR ro) DEP P ops Q i (fun a' w' => (opn none (listed.setIfInBounds i true) = true → Stab ownS XS w') ∧ hdAny ro P ops Q none (Stab ownS XS) nh (tailL ro P ops Q nh) (tlen tr) (listed.setIfInBounds i true) a' w') a W := by
  refine ⟨hin, ?_⟩
  unfold wpOpIn
  simp only [hi]
  rw [if_pos (gwant_spec ha hg)]
  refine h a W _ _ _ _ rfl ha hs fun v own' X' W' hk hs' hgr => ⟨fun _ => hst.grow (hgr rfl), ?_⟩
  exact h' v own' X' hk _ _ _ hns hnd ht (inv.set hr hin) hp (ha.eput hd v) hs' (hst.grow (hgr rfl))
theorem SDT.two {i j : Nat} {p q : Tr} {d1 d2 : Option Tmp} {op1 op2 : Op} {tya tyb : TypeId} {pos1 pos2 : String} {af1 af2 : Array Edge} {g1 g2 : Option (Nat × Bool)} {k1 k2 : Value → Own → PMap → Prop}
    (hi : ops[i]? = some ⟨d1, op1, tya, pos1, af1, g1⟩) (hj : ops[j]? = some ⟨d2, op2, tyb, pos2, af2, g2⟩)
    (h1 : OpX P n w0 X0 env own X op1 true k1) (h2 : OpX P n w0 X0 env own X op2 true k2) (hg1 : gwant ops env g1 = some true) (hg2 : gwant ops env g2 = some true) (hd1 : dok n d1 = true) (hd2 : dok n d2 = true)
    (c1 : ∀ v own' X', k1 v own' X' → SDT ro P n w0 X0 ops Q nh ownS XS p (eput env d1 v) own' X')
    (c2 : ∀ v own' X', k2 v own' X' → SDT ro P n w0 X0 ops Q nh ownS XS q (eput env d2 v) own' X') : SDT ro P n w0 X0 ops Q nh ownS XS (.w i j p q) env own X := by
  intro listed a W hns hnd ht inv hp ha hs hst
  simp only [treeOk, Bool.and_eq_true, decide_eq_true_eq] at hp
  obtain ⟨⟨⟨⟨⟨hin, hjn⟩, hlen⟩, hr⟩, hp1⟩, hp2⟩ := hp
  have hlen := Nat.eq_of_beq_eq_true hlen
  have hr1 : i ∈ Region.ready .any ops listed := by rw [hr]; simp
  have hr2 : j ∈ Region.ready .any ops listed := by rw [hr]; simp
  have b1 := SDT.one hi h1 hg1 hd1 c1 hns hnd ht inv hr1 (Nat.le_of_ble_eq_true hin) hp1 ha hs hst
  have b2 := SDT.one hj h2 hg2 hd2 c2 hns hnd ht inv hr2 (Nat.le_of_ble_eq_true hjn) hp2 ha hs hst
  rw [← hlen] at b2
  refine ⟨by rw [hr]; simp, fun k hk => ?_⟩
  rw [hr] at hk
  rcases (by simpa using hk : k = i ∨ k = j) with rfl | rfl
  · exact b1
  · exact b2
theorem SDT.three {i j k : Nat} {p q s : Tr} {d1 d2 d3 : Option Tmp} {op1 op2 op3 : Op} {tya tyb tyc : TypeId} {pos1 pos2 pos3 : String} {af1 af2 af3 : Array Edge} {g1 g2 g3 : Option (Nat × Bool)} {k1 k2 k3 : Value → Own → PMap → Prop}
    (hi : ops[i]? = some ⟨d1, op1, tya, pos1, af1, g1⟩) (hj : ops[j]? = some ⟨d2, op2, tyb, pos2, af2, g2⟩) (hk : ops[k]? = some ⟨d3, op3, tyc, pos3, af3, g3⟩)
    (h1 : OpX P n w0 X0 env own X op1 true k1) (h2 : OpX P n w0 X0 env own X op2 true k2) (h3 : OpX P n w0 X0 env own X op3 true k3) (hg1 : gwant ops env g1 = some true) (hg2 : gwant ops env g2 = some true) (hg3 : gwant ops env g3 = some true) (hd1 : dok n d1 = true) (hd2 : dok n d2 = true) (hd3 : dok n d3 = true)
    (c1 : ∀ v own' X', k1 v own' X' → SDT ro P n w0 X0 ops Q nh ownS XS p (eput env d1 v) own' X')
    (c2 : ∀ v own' X', k2 v own' X' → SDT ro P n w0 X0 ops Q nh ownS XS q (eput env d2 v) own' X')
    (c3 : ∀ v own' X', k3 v own' X' → SDT ro P n w0 X0 ops Q nh ownS XS s (eput env d3 v) own' X') : SDT ro P n w0 X0 ops Q nh ownS XS (.w3 i j k p q s) env own X := by
  intro listed a W hns hnd ht inv hp ha hs hst
  simp only [treeOk, Bool.and_eq_true, decide_eq_true_eq] at hp
  obtain ⟨⟨⟨⟨⟨⟨⟨⟨hin, hjn⟩, hkn⟩, hlen⟩, hlen2⟩, hr⟩, hp1⟩, hp2⟩, hp3⟩ := hp
  have hlen := Nat.eq_of_beq_eq_true hlen
  have hlen2 := Nat.eq_of_beq_eq_true hlen2
  have hr1 : i ∈ Region.ready .any ops listed := by rw [hr]; simp
  have hr2 : j ∈ Region.ready .any ops listed := by rw [hr]; simp
  have hr3 : k ∈ Region.ready .any ops listed := by rw [hr]; simp
  have b1 := SDT.one hi h1 hg1 hd1 c1 hns hnd ht inv hr1 (Nat.le_of_ble_eq_true hin) hp1 ha hs hst
  have b2 := SDT.one hj h2 hg2 hd2 c2 hns hnd ht inv hr2 (Nat.le_of_ble_eq_true hjn) hp2 ha hs hst
  have b3 := SDT.one hk h3 hg3 hd3 c3 hns hnd ht inv hr3 (Nat.le_of_ble_eq_true hkn) hp3 ha hs hst
  rw [← hlen] at b2
  rw [← hlen2] at b3
  refine ⟨by rw [hr]; simp, fun x hx => ?_⟩
  rw [hr] at hx
  rcases (by simpa using hx : x = i ∨ x = j ∨ x = k) with rfl | rfl | rfl
  · exact b1
  · exact b2
  · exact b3
theorem SDT.start {id : Nat} {a : Act} {W : World} (hm : P.follows .mixedOrders = true) (tr : Tr) (hok : treeDrawOk ops nh tr = true) (ha : EOk n env a) (hs : Sat w0 X0 own X W)
    (h : SDT ro P n w0 X0 ops Q nh own X tr env own X) : (Code.region id ops true).wpIn (FR ro) DEP P Q a W := by
  simp only [treeDrawOk, Bool.and_eq_true, decide_eq_true_eq] at hok
  obtain ⟨⟨⟨⟨hnd, hns⟩, htb⟩, hlen⟩, hp⟩ := hok
  refine wpIn_region_any hm ?_
  have hs' := hs.draw (W.drawn + 1)
  have inv : HeadInv .any ops nh (Array.replicate ops.size false) := ⟨by simp, (fun j oj _ hl => by rw [getD_replicate_false] at hl; cases hl), (fun t _ ht => by simp [ht])⟩
  have h1 := h (Array.replicate ops.size false) a _ hns hnd (tailWaits_of htb) inv hp ha hs' ⟨fun p hp => hs'.stab.own p hp, hs'.stab.pers⟩
  have hsz : ops.size - nh = (ops.toList.drop nh).length := by simp
  have h2 := wpAny_of_hd (g := ops.size - nh) (fun listed a w (hL : tailL ro P ops Q nh listed a w) => by
    have := wpAnyIn_of_seq (P := P) (ops := ops) (Q := Q) (ro := ro) (ops.toList.drop nh) nh listed a w (fun j => by simp) (by rw [← hsz]; exact hL.1) hL.2
    rw [hsz]; exact this) _ _ _ _ h1
  rw [hlen] at h2
  exact h2
theorem T.drawT {id : Nat} {k : List It} (hm : P.follows .mixedOrders = true) (nh : Nat) (tr : Tr) (hok : treeDrawOk ops nh tr = true)
    (h : SDT ro P n w0 X0 ops (contQ ro P Q k) nh own X tr env own X) : T ro P n w0 X0 Q (.code (.region id ops true) :: k) none env own X :=
  fun _ _ ha hs => runL_code (SDT.start hm tr hok ha hs h)
end
end Go.Proofs.YtmfiencoefbjfaaGreatDoor
namespace Go.Proofs.YtmfiencoefbjfaaGreatDoor
section
set_option maxRecDepth 100000
theorem en10 : Enters Tryz.prog 10 := enters_mk Tryz.func10 (by kernel_rfl) rfl
theorem en15 : Enters Tryz.prog 15 := enters_mk Tryz.func15 (by kernel_rfl) rfl
theorem en4 : Enters Tryz.prog 4 := enters_mk Tryz.func4 (by kernel_rfl) rfl
theorem en5 : Enters Tryz.prog 5 := enters_mk Tryz.func5 (by kernel_rfl) rfl
theorem en6 : Enters Tryz.prog 6 := enters_mk Tryz.func6 (by kernel_rfl) rfl
theorem en7 : Enters Tryz.prog 7 := enters_mk Tryz.func7 (by kernel_rfl) rfl
theorem en8 : Enters Tryz.prog 8 := enters_mk Tryz.func8 (by kernel_rfl) rfl
theorem ty24 : Ty Tryz.prog 24 true 3 := ⟨⟨_, Tryz.underlying24, rfl⟩, by kernel_rfl⟩
theorem z10 : Zero Tryz.prog 10 [.string ⟨#[]⟩] := ⟨zero_of (by kernel_rfl)⟩
theorem z11 : Zero Tryz.prog 11 [.string ⟨#[]⟩] := ⟨zero_of (by kernel_rfl)⟩
end
open Go.RowKit
theorem topMig_spec {X : PMap} (hT : Tab X) {s : Value} {bs : List Nat} (R C : Nat) (hR : R < 256) (hC : C < 256) (h : BytesR X s bs) (back : Bool) (haw : Spec Tryz.prog 4 [] X fun u _ => u = .bool true) :
    Spec Tryz.prog 3 [.agg #[.int .u8 (R : Int), .int .u8 (C : Int), s], .bool back] X fun u _ => u = .bool true := by
  obtain ⟨A, cp, rfl⟩ := h.form
  have hr6 : R % 6 < 6 := Nat.mod_lt _ (by omega)
  have hc6 : C % 6 < 6 := Nat.mod_lt _ (by omega)
  have hlen := rawRows_len bs (R % 6) (C % 6)
  have hms := rawRows_lt bs (R % 6) (C % 6)
  have hmk := fun (X : PMap) (h : BytesR X (.slice A bs.length cp) bs) => make44_spec (X := X) R C hR hC h
  generalize rawRows bs (R % 6) (C % 6) = ms at *
  generalize C % 6 = c at *
  have hr : ms.length < 6 := by omega
  refine Spec.enter Tryz.func3 rfl Tryz.ntmps3 rfl ?_
  intro w0 hw0
  refine T.seq <| T.region <| SL.w (op_box rfl) ?_
  rintro _ _ _ ⟨B2, rfl, rfl, rfl⟩
  refine SL.as rfl <| SL.nil <| T.seq <| T.seq <| T.region <| SL.w (op_callF en4 (vs := []) rfl (haw)) ?_
  rintro _ _ X1 ⟨rfl, hX1, rfl⟩
  refine SL.v (op_not rfl) <| SL.nil <| T.condF rfl <| T.skip <| T.seq <| T.region <| SL.v (op_load ty24 rfl (by repeat constructor) rfl) ?_
  refine SL.w (op_callF en6 (vs := [_]) rfl (hmk _ (h.mono hX1))) ?_
  rintro v1 _ X2 ⟨rfl, hX2, hM1⟩
  obtain ⟨s1, cs1, rfl, hS1, _⟩ := id hM1
  obtain ⟨As1, cp1, rfl⟩ := hS1.form
  refine SL.w (op_callF en5 (vs := [_]) rfl (matrix44_spec hM1 (by omega) (by omega) hms)) ?_
  rintro _ _ X3 ⟨rfl, hX3, hM⟩
  obtain ⟨bm, rfl⟩ := hM.ptr
  have hT3 := ((hT.mono hX1).mono hX2).mono hX3
  refine SL.as rfl <| SL.nil <| T.seq <| T.seq <| T.region <| SL.mv rfl <| SL.v (op_eqlNil Tryz.underlying26 rfl rfl) <| SL.nil <| T.condF rfl <| T.skip <| T.seq <| T.region <| SL.mv rfl <| SL.w (op_callF en7 (vs := [_, _]) rfl (minimal_spec hT3 hM hr hc6 hms 2000 (by omega) (by omega))) ?_
  rintro _ _ X4 ⟨rfl, hX4, wu, wp, q, mq, cq, Aq, ch, rfl, hMu, hMp, hmin⟩
  obtain ⟨bwu, rfl⟩ := hMu.ptr
  obtain ⟨bwp, rfl⟩ := hMp.ptr
  refine SL.mv rfl <| SL.v (op_extract rfl rfl) <| SL.v (op_extract rfl rfl) <| SL.v (op_extract rfl rfl) <| SL.w (op_alloc z33) ?_
  rintro _ _ _ ⟨B6, rfl, rfl, rfl⟩
  refine SL.w (op_alloc z36) ?_
  rintro _ _ _ ⟨B7, rfl, rfl, rfl⟩
  refine SL.w (op_store ty33 rfl rfl (by repeat constructor) rfl rfl rfl) ?_
  rintro _ _ _ ⟨rfl, rfl⟩
  refine SL.w (op_store ty36 rfl rfl (by repeat constructor) rfl rfl rfl) ?_
  rintro _ _ _ ⟨rfl, rfl⟩
  refine SL.as rfl <| SL.nil <| T.seq <| T.seq <| T.region <| SL.mv rfl <| SL.v (op_neqF rfl rfl (by omega)) ?_
  refine SL.nil <| T.condF rfl <| T.skip <| T.seq <| T.drop B7 (by repeat constructor) ?_
  refine T.drop B2 (by repeat constructor) ?_
  refine T.meet (fun _ env own X' => ∃ (b9 b10 bou bop : Nat), X4.le X' ∧ CfgW X' (.agg #[.pointer (some ⟨bou, 0, none⟩), .pointer (some ⟨bop, 0, none⟩)]) c (ownU ms.length, ms) ∧ env = [(1, .bool back), (5, .pointer (some ⟨bm, 0, none⟩)), (9, .pointer (some ⟨b9, 0, none⟩)), (10, .pointer (some ⟨b10, 0, none⟩))] ∧ own = [⟨b10, [.pointer (some ⟨bwu, 0, none⟩), .pointer (some ⟨bwp, 0, none⟩)], 40, 2⟩, ⟨b9, [.pointer (some ⟨bou, 0, none⟩), .pointer (some ⟨bop, 0, none⟩)], 40, 2⟩, ⟨B6, [.pointer (some ⟨bwu, 0, none⟩), .pointer (some ⟨bwp, 0, none⟩)], 33, 2⟩]) ?_ ?_
  refine T.drawT (by kernel_rfl) 6 (.t 0 (.t 2 (.w3 1 3 4 (.w 3 4 (.r 4 (.r 5 .nil)) (.r 3 (.r 5 .nil))) (.w 1 4 (.r 4 (.r 5 .nil)) (.r 1 (.r 5 .nil))) (.w 1 3 (.r 3 (.r 5 .nil)) (.r 1 (.r 5 .nil)))))) (by kernel_rfl) ?_
  refine SDT.take rfl panicBody (op_move rfl) rfl rfl ?_
  refine SDT.take rfl panicBody (op_load ty33 rfl (by repeat constructor) rfl) rfl rfl ?_
  refine SDT.three rfl rfl rfl (op_callF en8 (vs := [_]) rfl (own_spec (hM.mono hX4) hr)) (op_alloc z40) (op_alloc z40) rfl rfl rfl rfl rfl rfl ?_ ?_ ?_
  · rintro _ _ X5 ⟨rfl, hX5, hown⟩
    obtain ⟨bou, bop, rfl⟩ := cfgV hown
    refine SDT.two rfl rfl (op_alloc z40) (op_alloc z40) rfl rfl rfl rfl ?_ ?_
    · rintro _ _ _ ⟨B9, rfl, rfl, rfl⟩
      refine SDT.run rfl (op_alloc z40) rfl rfl ?_
      rintro _ _ _ ⟨B10, rfl, rfl, rfl⟩
      refine SDT.runK rfl (op_store ty40 rfl rfl (by repeat constructor) rfl rfl rfl) (by rintro _ _ _ ⟨rfl, rfl⟩; exact ⟨fun p hp => (by rcases List.mem_singleton.1 hp with rfl; first | exact List.Mem.tail _ (List.Mem.tail _ (List.Mem.head _)) | exact List.Mem.tail _ (List.Mem.head _)), (by first | exact PMap.le_refl _ | assumption)⟩) rfl rfl ?_
      rintro _ _ _ ⟨rfl, rfl⟩
      refine SDT.nil ?_
      show SL _ _ _ _ _ _ _ [_] _ _ _
      refine SL.w (op_store ty40 rfl rfl (by repeat constructor) rfl rfl rfl) ?_
      rintro _ _ _ ⟨rfl, rfl⟩
      refine SL.nil <| T.perm (own' := [⟨B10, [.pointer (some ⟨bwu, 0, none⟩), .pointer (some ⟨bwp, 0, none⟩)], 40, 2⟩, ⟨B9, [.pointer (some ⟨bou, 0, none⟩), .pointer (some ⟨bop, 0, none⟩)], 40, 2⟩, ⟨B6, [.pointer (some ⟨bwu, 0, none⟩), .pointer (some ⟨bwp, 0, none⟩)], 33, 2⟩]) (by first | exact List.Perm.refl _ | exact List.Perm.swap _ _ _) ?_
      exact T.backW 0 (by omega) ⟨B9, B10, bou, bop, hX5, hown, rfl, rfl⟩ (by repeat (first | exact Sub.nil | refine Sub.cons rfl ?_))
    · rintro _ _ _ ⟨B10, rfl, rfl, rfl⟩
      refine SDT.run rfl (op_alloc z40) rfl rfl ?_
      rintro _ _ _ ⟨B9, rfl, rfl, rfl⟩
      refine SDT.runK rfl (op_store ty40 rfl rfl (by repeat constructor) rfl rfl rfl) (by rintro _ _ _ ⟨rfl, rfl⟩; exact ⟨fun p hp => (by rcases List.mem_singleton.1 hp with rfl; first | exact List.Mem.tail _ (List.Mem.tail _ (List.Mem.head _)) | exact List.Mem.tail _ (List.Mem.head _)), (by first | exact PMap.le_refl _ | assumption)⟩) rfl rfl ?_
      rintro _ _ _ ⟨rfl, rfl⟩
      refine SDT.nil ?_
      show SL _ _ _ _ _ _ _ [_] _ _ _
      refine SL.w (op_store ty40 rfl rfl (by repeat constructor) rfl rfl rfl) ?_
      rintro _ _ _ ⟨rfl, rfl⟩
      refine SL.nil <| T.perm (own' := [⟨B10, [.pointer (some ⟨bwu, 0, none⟩), .pointer (some ⟨bwp, 0, none⟩)], 40, 2⟩, ⟨B9, [.pointer (some ⟨bou, 0, none⟩), .pointer (some ⟨bop, 0, none⟩)], 40, 2⟩, ⟨B6, [.pointer (some ⟨bwu, 0, none⟩), .pointer (some ⟨bwp, 0, none⟩)], 33, 2⟩]) (by first | exact List.Perm.refl _ | exact List.Perm.swap _ _ _) ?_
      exact T.backW 0 (by omega) ⟨B9, B10, bou, bop, hX5, hown, rfl, rfl⟩ (by repeat (first | exact Sub.nil | refine Sub.cons rfl ?_))
  · rintro _ _ _ ⟨B9, rfl, rfl, rfl⟩
    refine SDT.two rfl rfl (op_callF en8 (vs := [_]) rfl (own_spec (hM.mono hX4) hr)) (op_alloc z40) rfl rfl rfl rfl ?_ ?_
    · rintro _ _ X5 ⟨rfl, hX5, hown⟩
      obtain ⟨bou, bop, rfl⟩ := cfgV hown
      refine SDT.run rfl (op_alloc z40) rfl rfl ?_
      rintro _ _ _ ⟨B10, rfl, rfl, rfl⟩
      refine SDT.runK rfl (op_store ty40 rfl rfl (by repeat constructor) rfl rfl rfl) (by rintro _ _ _ ⟨rfl, rfl⟩; exact ⟨fun p hp => (by rcases List.mem_singleton.1 hp with rfl; first | exact List.Mem.tail _ (List.Mem.tail _ (List.Mem.head _)) | exact List.Mem.tail _ (List.Mem.head _)), (by first | exact PMap.le_refl _ | assumption)⟩) rfl rfl ?_
      rintro _ _ _ ⟨rfl, rfl⟩
      refine SDT.nil ?_
      show SL _ _ _ _ _ _ _ [_] _ _ _
      refine SL.w (op_store ty40 rfl rfl (by repeat constructor) rfl rfl rfl) ?_
      rintro _ _ _ ⟨rfl, rfl⟩
      refine SL.nil <| T.perm (own' := [⟨B10, [.pointer (some ⟨bwu, 0, none⟩), .pointer (some ⟨bwp, 0, none⟩)], 40, 2⟩, ⟨B9, [.pointer (some ⟨bou, 0, none⟩), .pointer (some ⟨bop, 0, none⟩)], 40, 2⟩, ⟨B6, [.pointer (some ⟨bwu, 0, none⟩), .pointer (some ⟨bwp, 0, none⟩)], 33, 2⟩]) (by first | exact List.Perm.refl _ | exact List.Perm.swap _ _ _) ?_
      exact T.backW 0 (by omega) ⟨B9, B10, bou, bop, hX5, hown, rfl, rfl⟩ (by repeat (first | exact Sub.nil | refine Sub.cons rfl ?_))
    · rintro _ _ _ ⟨B10, rfl, rfl, rfl⟩
      refine SDT.run rfl (op_callF en8 (vs := [_]) rfl (own_spec (hM.mono hX4) hr)) rfl rfl ?_
      rintro _ _ X5 ⟨rfl, hX5, hown⟩
      obtain ⟨bou, bop, rfl⟩ := cfgV hown
      refine SDT.runK rfl (op_store ty40 rfl rfl (by repeat constructor) rfl rfl rfl) (by rintro _ _ _ ⟨rfl, rfl⟩; exact ⟨fun p hp => (by rcases List.mem_singleton.1 hp with rfl; first | exact List.Mem.tail _ (List.Mem.tail _ (List.Mem.head _)) | exact List.Mem.tail _ (List.Mem.head _)), (by first | exact PMap.le_refl _ | assumption)⟩) rfl rfl ?_
      rintro _ _ _ ⟨rfl, rfl⟩
      refine SDT.nil ?_
      show SL _ _ _ _ _ _ _ [_] _ _ _
      refine SL.w (op_store ty40 rfl rfl (by repeat constructor) rfl rfl rfl) ?_
      rintro _ _ _ ⟨rfl, rfl⟩
      refine SL.nil <| T.perm (own' := [⟨B10, [.pointer (some ⟨bwu, 0, none⟩), .pointer (some ⟨bwp, 0, none⟩)], 40, 2⟩, ⟨B9, [.pointer (some ⟨bou, 0, none⟩), .pointer (some ⟨bop, 0, none⟩)], 40, 2⟩, ⟨B6, [.pointer (some ⟨bwu, 0, none⟩), .pointer (some ⟨bwp, 0, none⟩)], 33, 2⟩]) (by first | exact List.Perm.refl _ | exact List.Perm.swap _ _ _) ?_
      exact T.backW 0 (by omega) ⟨B9, B10, bou, bop, hX5, hown, rfl, rfl⟩ (by repeat (first | exact Sub.nil | refine Sub.cons rfl ?_))
  · rintro _ _ _ ⟨B10, rfl, rfl, rfl⟩
    refine SDT.two rfl rfl (op_callF en8 (vs := [_]) rfl (own_spec (hM.mono hX4) hr)) (op_alloc z40) rfl rfl rfl rfl ?_ ?_
    · rintro _ _ X5 ⟨rfl, hX5, hown⟩
      obtain ⟨bou, bop, rfl⟩ := cfgV hown
      refine SDT.run rfl (op_alloc z40) rfl rfl ?_
      rintro _ _ _ ⟨B9, rfl, rfl, rfl⟩
      refine SDT.runK rfl (op_store ty40 rfl rfl (by repeat constructor) rfl rfl rfl) (by rintro _ _ _ ⟨rfl, rfl⟩; exact ⟨fun p hp => (by rcases List.mem_singleton.1 hp with rfl; first | exact List.Mem.tail _ (List.Mem.tail _ (List.Mem.head _)) | exact List.Mem.tail _ (List.Mem.head _)), (by first | exact PMap.le_refl _ | assumption)⟩) rfl rfl ?_
      rintro _ _ _ ⟨rfl, rfl⟩
      refine SDT.nil ?_
      show SL _ _ _ _ _ _ _ [_] _ _ _
      refine SL.w (op_store ty40 rfl rfl (by repeat constructor) rfl rfl rfl) ?_
      rintro _ _ _ ⟨rfl, rfl⟩
      refine SL.nil <| T.perm (own' := [⟨B10, [.pointer (some ⟨bwu, 0, none⟩), .pointer (some ⟨bwp, 0, none⟩)], 40, 2⟩, ⟨B9, [.pointer (some ⟨bou, 0, none⟩), .pointer (some ⟨bop, 0, none⟩)], 40, 2⟩, ⟨B6, [.pointer (some ⟨bwu, 0, none⟩), .pointer (some ⟨bwp, 0, none⟩)], 33, 2⟩]) (by first | exact List.Perm.refl _ | exact List.Perm.swap _ _ _) ?_
      exact T.backW 0 (by omega) ⟨B9, B10, bou, bop, hX5, hown, rfl, rfl⟩ (by repeat (first | exact Sub.nil | refine Sub.cons rfl ?_))
    · rintro _ _ _ ⟨B9, rfl, rfl, rfl⟩
      refine SDT.run rfl (op_callF en8 (vs := [_]) rfl (own_spec (hM.mono hX4) hr)) rfl rfl ?_
      rintro _ _ X5 ⟨rfl, hX5, hown⟩
      obtain ⟨bou, bop, rfl⟩ := cfgV hown
      refine SDT.runK rfl (op_store ty40 rfl rfl (by repeat constructor) rfl rfl rfl) (by rintro _ _ _ ⟨rfl, rfl⟩; exact ⟨fun p hp => (by rcases List.mem_singleton.1 hp with rfl; first | exact List.Mem.tail _ (List.Mem.tail _ (List.Mem.head _)) | exact List.Mem.tail _ (List.Mem.head _)), (by first | exact PMap.le_refl _ | assumption)⟩) rfl rfl ?_
      rintro _ _ _ ⟨rfl, rfl⟩
      refine SDT.nil ?_
      show SL _ _ _ _ _ _ _ [_] _ _ _
      refine SL.w (op_store ty40 rfl rfl (by repeat constructor) rfl rfl rfl) ?_
      rintro _ _ _ ⟨rfl, rfl⟩
      refine SL.nil <| T.perm (own' := [⟨B10, [.pointer (some ⟨bwu, 0, none⟩), .pointer (some ⟨bwp, 0, none⟩)], 40, 2⟩, ⟨B9, [.pointer (some ⟨bou, 0, none⟩), .pointer (some ⟨bop, 0, none⟩)], 40, 2⟩, ⟨B6, [.pointer (some ⟨bwu, 0, none⟩), .pointer (some ⟨bwp, 0, none⟩)], 33, 2⟩]) (by first | exact List.Perm.refl _ | exact List.Perm.swap _ _ _) ?_
      exact T.backW 0 (by omega) ⟨B9, B10, bou, bop, hX5, hown, rfl, rfl⟩ (by repeat (first | exact Sub.nil | refine Sub.cons rfl ?_))
  rintro _ _ _ X5 ⟨b9, b10, bou, bop, hX5, hown, rfl, rfl⟩
  have hokO := ownOk hr hc6 hms
  have hokR := rolOk hr hc6 hmin
  have hrolW : CfgW X5 (.agg #[.pointer (some ⟨bwu, 0, none⟩), .pointer (some ⟨bwp, 0, none⟩)]) c (transM ms.length (ch.map (·.1)), ch.map (·.2)) :=
    ⟨bwu, bwp, rfl, (show MatR X5 _ (ch.map (·.2)).length _ by rw [List.length_map]; exact hMu.mono hX5), hMp.mono hX5, rows_lt hokR⟩
  have hX35 := hX4.trans' hX5
  refine T.seq <| T.meet (fun _ env own X' => X' = X5 ∧ (∃ (xu xp yu yp : Nat) (S S' : List Nat × List Nat), CfgW X5 (.agg #[.pointer (some ⟨xu, 0, none⟩), .pointer (some ⟨xp, 0, none⟩)]) c S ∧ CfgW X5 (.agg #[.pointer (some ⟨yu, 0, none⟩), .pointer (some ⟨yp, 0, none⟩)]) c S' ∧ CfgOk c ms S ∧ CfgOk c ms S' ∧ env = [(5, .pointer (some ⟨bm, 0, none⟩)), (9, .pointer (some ⟨b9, 0, none⟩)), (10, .pointer (some ⟨b10, 0, none⟩))] ∧ own = [⟨b10, [.pointer (some ⟨yu, 0, none⟩), .pointer (some ⟨yp, 0, none⟩)], 40, 2⟩, ⟨b9, [.pointer (some ⟨xu, 0, none⟩), .pointer (some ⟨xp, 0, none⟩)], 40, 2⟩, ⟨B6, [.pointer (some ⟨bwu, 0, none⟩), .pointer (some ⟨bwp, 0, none⟩)], 33, 2⟩])) ?_ ?_
  · cases back with
    | true =>
      refine T.seq <| T.region <| SL.mv rfl <| SL.nil <| T.condT rfl <| T.region <| SL.v (op_load ty40 rfl (by repeat constructor) rfl) ?_
      refine SL.v (op_load ty40 rfl (by repeat constructor) rfl) ?_
      refine SL.w (op_store ty40 rfl rfl (by repeat constructor) rfl rfl rfl) ?_
      rintro _ _ _ ⟨rfl, rfl⟩
      refine SL.w (op_store ty40 rfl rfl (by repeat constructor) rfl rfl rfl) ?_
      rintro _ _ _ ⟨rfl, rfl⟩
      refine SL.nil ?_
      exact T.backW 0 (by omega) ⟨rfl, ⟨bwu, bwp, bou, bop, _, _, hrolW, hown, hokR, hokO, rfl, rfl⟩⟩ (by repeat (first | exact Sub.nil | refine Sub.cons rfl ?_))
    | false =>
      refine T.seq <| T.region <| SL.mv rfl <| SL.nil <| T.condF rfl <| T.skip ?_
      exact T.backW 0 (by omega) ⟨rfl, ⟨bou, bop, bwu, bwp, _, _, hown, hrolW, hokO, hokR, rfl, rfl⟩⟩ (by repeat (first | exact Sub.nil | refine Sub.cons rfl ?_))
  rintro _ _ _ _ ⟨rfl, ⟨xu, xp, yu, yp, S, S', hcS, hcS', hkS, hkS', rfl, rfl⟩⟩
  have hl64 : ms.length ≤ 64 := by omega
  obtain ⟨hrun, hp1, hp2⟩ := runJ hkS hkS' hl64 hc6
  have hT5 := hT3.mono hX35
  have hM5 := hM.mono hX35
  have hlS : S.1.length = S'.1.length := by rw [hkS.len, hkS'.len]
  have hf1 := hkS.few
  have hf2 := hkS'.few
  have hjo := fun {X : PMap} (hT : Tab X) {v w : Value} (h : CfgW X v c S) (h' : CfgW X w c S') => joint_spec hT h h' hlS hkS.per hkS'.per (by omega)
  change ∀ {X : PMap}, Tab X → ∀ {v w : Value}, CfgW X v c S → CfgW X w c S' → Spec _ _ [v, w] X (fun u X' => ∃ za zb A cp, u = .tuple #[za, zb, .slice A S'.2.length cp, .int .i64 0] ∧ CfgR X' za c (jntA S S') ∧ CfgR X' zb c (jntB S S')) at hjo
  have hpl := fun {X : PMap} (hT : Tab X) {v w : Value} (h : CfgW X v c S) (h' : CfgW X w c S') => plan_spec hT h h' hlS hkS.per hkS'.per (by omega)
  have hve := fun {X : PMap} (hT : Tab X) {v w s : Value} (h : CfgW X v c S) (h' : CfgW X w c S') (hs : SliceR X s (planM (jntA S S') (jntB S S')).length (stpC (planM (jntA S S') (jntB S S')))) => verify_spec hT h h' hlS hkS.per hkS'.per (by omega) hs hrun hp1 hp2
  generalize jntA S S' = a at *
  generalize jntB S S' = b at *
  obtain ⟨l, hle⟩ : ∃ l, l = planM a b := ⟨_, rfl⟩
  rw [← hle] at hpl hve hrun
  refine T.seq <| T.region <| SL.v (op_load ty40 rfl (by repeat constructor) rfl) ?_
  refine SL.v (op_load ty40 rfl (by repeat constructor) rfl) ?_
  refine SL.w (op_callF en9 (vs := [_, _]) rfl (hjo hT5 hcS hcS')) ?_
  rintro _ _ X6 ⟨rfl, hX6, za, zb, Aat, cat, rfl, hza, hzb⟩
  have hlb : l.length ≤ 16384 := by rw [hle]; exact planM_len hza.lens.1 hza.lens.2 hzb.lens.1 hzb.lens.2
  obtain ⟨au, ap, rfl⟩ := cfgV hza.w
  obtain ⟨zu, zp, rfl⟩ := cfgV hzb.w
  refine SL.mv rfl <| SL.v (op_extract rfl rfl) <| SL.v (op_extract rfl rfl) <| SL.v (op_extract rfl rfl) <| SL.v (op_extract rfl rfl) <| SL.w (op_alloc z40) ?_
  rintro _ _ _ ⟨B11, rfl, rfl, rfl⟩
  refine SL.w (op_alloc z40) ?_
  rintro _ _ _ ⟨B12, rfl, rfl, rfl⟩
  refine SL.w (op_store ty40 rfl rfl (by repeat constructor) rfl rfl rfl) ?_
  rintro _ _ _ ⟨rfl, rfl⟩
  refine SL.w (op_store ty40 rfl rfl (by repeat constructor) rfl rfl rfl) ?_
  rintro _ _ _ ⟨rfl, rfl⟩
  refine SL.as rfl <| SL.as rfl <| SL.nil <| T.seq <| T.region <| SL.v (op_load ty40 rfl (by repeat constructor) rfl) ?_
  refine SL.v (op_load ty40 rfl (by repeat constructor) rfl) ?_
  refine SL.w (op_callF en10 (vs := [_, _]) rfl (hpl (hT5.mono hX6) (hcS.mono hX6) (hcS'.mono hX6))) ?_
  rintro _ _ X7 ⟨rfl, hX7, sl, rfl, hsl⟩
  obtain ⟨Al, cl, rfl⟩ := hsl.form
  have hX57 := hX6.trans' hX7
  have hcS2 := hcS'
  obtain ⟨yu2, yp2, he2, _, hyp, _⟩ := hcS'
  simp only [Value.agg.injEq, Array.mk.injEq, List.cons.injEq, Value.pointer.injEq, Option.some.injEq, Addr.mk.injEq, and_true] at he2
  obtain ⟨rfl, rfl⟩ := he2
  refine SL.mv rfl <| SL.v (op_extract rfl rfl) <| SL.v (op_extract rfl rfl) <| SL.as rfl <| SL.as rfl <| SL.nil <| T.seq <| T.seq <| T.region <| SL.mv rfl <| SL.v (op_neqF rfl rfl (by omega)) ?_
  refine SL.mv rfl <| SL.mv rfl <| SL.v (op_neqF rfl rfl (by omega)) ?_
  refine SL.v (op_pickF rfl rfl) <| SL.mv rfl <| SL.mv rfl <| SL.v (op_lenS Tryz.underlying42 rfl) <| SL.v (op_fieldAddr fa40_1 rfl) <| SL.v (op_load ty26 rfl (by repeat constructor) rfl) ?_
  refine SL.w (op_callF en11 (vs := [_]) rfl (rows_spec (hyp.mono hX57))) ?_
  rintro _ _ X8 ⟨rfl, hX8, rfl⟩
  have hX58 := hX57.trans' hX8
  have hX68 := hX7.trans' hX8
  refine SL.v (op_neqF rfl rfl (by omega)) ?_
  refine SL.v (op_pickF rfl rfl) <| SL.nil <| T.condF rfl <| T.skip <| T.seq <| T.seq <| T.region <| SL.mv rfl <| SL.v (op_lenS Tryz.underlying45 rfl) <| SL.v (op_move (v := .int .i64 ((0 : Nat) : Int)) rfl) <| SL.nil <| T.block <| T.loopW (fun m env own X' => ∃ (k x y : Nat) (Sk : List Nat × List Nat), m = l.length - k ∧ k ≤ l.length ∧ X8.le X' ∧ CfgR X' (.agg #[.pointer (some ⟨x, 0, none⟩), .pointer (some ⟨y, 0, none⟩)]) c Sk ∧ Sk.2.length = a.2.length ∧ GoodRun a.2.length c ms Sk (l.drop k) b ∧ env = [(5, .pointer (some ⟨bm, 0, none⟩)), (9, .pointer (some ⟨b9, 0, none⟩)), (10, .pointer (some ⟨b10, 0, none⟩)), (11, .pointer (some ⟨B11, 0, none⟩)), (12, .pointer (some ⟨B12, 0, none⟩)), (14, .slice Al l.length cl), (72, .slice Al l.length cl), (73, .int .i64 (l.length : Int)), (74, .int .i64 (k : Int))] ∧ own = [⟨B12, [.pointer (some ⟨zu, 0, none⟩), .pointer (some ⟨zp, 0, none⟩)], 40, 2⟩, ⟨B11, [.pointer (some ⟨x, 0, none⟩), .pointer (some ⟨y, 0, none⟩)], 40, 2⟩, ⟨b10, [.pointer (some ⟨yu, 0, none⟩), .pointer (some ⟨yp, 0, none⟩)], 40, 2⟩, ⟨b9, [.pointer (some ⟨xu, 0, none⟩), .pointer (some ⟨xp, 0, none⟩)], 40, 2⟩, ⟨B6, [.pointer (some ⟨bwu, 0, none⟩), .pointer (some ⟨bwp, 0, none⟩)], 33, 2⟩]) l.length ⟨0, au, ap, a, by simp, by omega, PMap.le_refl _, hza.mono hX68, rfl, by simpa using hrun, rfl, rfl⟩ (by repeat (first | exact Sub.nil | refine Sub.cons rfl ?_)) ?_
  rintro m _ _ X9 ⟨k, x, y, Sk, rfl, hk, hX9, hC, hlen9, hgr, rfl, rfl⟩
  have hX59 := hX58.trans' hX9
  have hX69 := hX68.trans' hX9
  rcases Nat.lt_or_ge k l.length with hkl | hkl
  · obtain ⟨hok, hpr, hgr'⟩ := hgr.at hkl
    obtain ⟨bls, rfl, hBs⟩ := hsl.blk (by omega)
    obtain ⟨g1, g2, g3⟩ := stpC_get l k hkl
    have hBs9 := (hBs.mono hX8).mono hX9
    refine T.seq <| T.region <| SL.v (op_lssT rfl rfl (by omega)) ?_
    refine SL.nil <| T.seq <| T.condT rfl <| T.skip <| T.seq <| T.block <| T.seq <| T.region <| SL.v (op_indexN Tryz.underlying45 ty51 rfl rfl (by omega)) ?_
    refine SL.v (op_loadX ty51 rfl hBs9 (creadR3 g1 g2 g3 (by omega))) ?_
    refine SL.w (op_alloc z51) ?_
    rintro _ _ _ ⟨B17, rfl, rfl, rfl⟩
    refine SL.w (op_store ty51 rfl rfl (by repeat constructor) rfl rfl rfl) ?_
    rintro _ _ _ ⟨rfl, rfl⟩
    refine SL.nil <| T.seq <| T.seq <| T.region <| SL.v (op_load ty40 rfl (by repeat constructor) rfl) ?_
    refine SL.v (op_load ty51 rfl (by repeat constructor) rfl) ?_
    refine SL.w (op_callF en12 (vs := [_, _]) rfl (apply_spec hC l[k] (by rw [hlen9]; exact hok))) ?_
    rintro _ _ X10 ⟨rfl, hX10, z10, rfl, hC10⟩
    obtain ⟨x10, y10, rfl⟩ := cfgV hC10.w
    have hX510 := hX59.trans' hX10
    refine SL.mv rfl <| SL.v (op_extract rfl rfl) <| SL.v (op_extract rfl rfl) <| SL.w (op_store ty40 rfl rfl (by repeat constructor) rfl rfl rfl) ?_
    rintro _ _ _ ⟨rfl, rfl⟩
    refine SL.as rfl <| SL.nil <| T.seq <| T.region <| SL.mv rfl <| SL.v (op_neqF rfl rfl (by omega)) ?_
    refine SL.nil <| T.condF rfl <| T.skip <| T.seq <| T.region <| SL.v (op_load ty40 rfl (by repeat constructor) rfl) ?_
    refine SL.w (op_callF en13 (vs := [_]) rfl (access_spec (hT5.mono hX510) hC10.w)) ?_
    rintro _ _ X11 ⟨rfl, hX11, z11, rfl, hM11⟩
    rw [hpr] at hM11
    obtain ⟨b11, rfl⟩ := hM11.ptr
    refine SL.mv rfl <| SL.v (op_extract rfl rfl) <| SL.v (op_extract rfl rfl) <| SL.as rfl <| SL.as rfl <| SL.nil <| T.seq <| T.region <| SL.mv rfl <| SL.v (op_neqF rfl rfl (by omega)) ?_
    refine SL.mv rfl <| SL.mv rfl <| SL.mv rfl <| SL.w (op_callF en14 (vs := [_, _]) rfl (mequal_spec hM11 ((hM5.mono hX510).mono hX11))) ?_
    rintro _ _ X12 ⟨rfl, hX12, rfl⟩
    refine SL.v (op_not rfl) <| SL.v (op_pickF rfl rfl) <| SL.nil <| T.condF rfl <| T.skip <| T.blk <| T.region <| SL.v (op_addN (q := 1) rfl rfl (by omega)) ?_
    refine SL.mv rfl <| SL.nil <| T.drop B17 (by repeat constructor) ?_
    exact T.backW (l.length - (k + 1)) (by omega) ⟨k + 1, x10, y10, stepM Sk l[k], rfl, by omega, ((hX9.trans' hX10).trans' hX11).trans' hX12, (hC10.mono hX11).mono hX12, by rw [stepM_len]; exact hlen9, hgr', rfl, rfl⟩ (by repeat (first | exact Sub.nil | refine Sub.cons rfl ?_))
  · obtain rfl : k = l.length := by omega
    have hfin := hgr.fin
    subst hfin
    refine T.seq <| T.region <| SL.v (op_lssF rfl rfl (by omega)) ?_
    refine SL.nil <| T.seq <| T.condF rfl ?_
    refine T.exit (T.exitCode (T.exitCut (T.exitBlk ?_)))
    refine T.seq <| T.region <| SL.v (op_load ty40 rfl (by repeat constructor) rfl) ?_
    refine SL.v (op_load ty40 rfl (by repeat constructor) rfl) ?_
    refine SL.mv rfl <| SL.w (op_callF en15 (vs := [_, _, _]) rfl (hve (hT5.mono hX59) (hcS.mono hX59) (hcS2.mono hX59) ((hsl.mono hX8).mono hX9))) ?_
    rintro _ _ X10 ⟨rfl, hX10, rfl⟩
    obtain ⟨x1, y1, he1, _, _, _, hMu1, hMp1, _⟩ := hC.mono hX10
    obtain ⟨x2, y2, he3, _, _, _, hMu2, hMp2, _⟩ := (hzb.mono hX69).mono hX10
    simp only [Value.agg.injEq, Array.mk.injEq, List.cons.injEq, Value.pointer.injEq, Option.some.injEq, Addr.mk.injEq, and_true] at he1 he3
    obtain ⟨rfl, rfl⟩ := he1
    obtain ⟨rfl, rfl⟩ := he3
    refine SL.mv rfl <| SL.v (op_extract rfl rfl) <| SL.v (op_extract rfl rfl) <| SL.v (op_extract rfl rfl) <| SL.as rfl <| SL.as rfl <| SL.as rfl <| SL.nil <| T.seq <| T.region <| SL.v (op_fieldAddr fa40_0 rfl) <| SL.v (op_load ty26 rfl (by repeat constructor) rfl) ?_
    refine SL.v (op_fieldAddr fa40_0 rfl) <| SL.v (op_load ty26 rfl (by repeat constructor) rfl) ?_
    refine SL.w (op_callF en14 (vs := [_, _]) rfl (mequal_spec hMu1 hMu2)) ?_
    rintro _ _ X11 ⟨rfl, hX11, rfl⟩
    refine SL.mv rfl <| SL.v (op_fieldAddr fa40_1 rfl) <| SL.v (op_load ty26 rfl (by repeat constructor) rfl) ?_
    refine SL.v (op_fieldAddr fa40_1 rfl) <| SL.v (op_load ty26 rfl (by repeat constructor) rfl) ?_
    refine SL.w (op_callF en14 (vs := [_, _]) rfl (mequal_spec (hMp1.mono hX11) (hMp2.mono hX11))) ?_
    rintro _ _ X12 ⟨rfl, hX12, rfl⟩
    refine SL.v (op_pickT rfl rfl) <| SL.mv rfl <| SL.mv rfl <| SL.v (op_eqlT rfl rfl (by omega)) ?_
    refine SL.v (op_pickT rfl rfl) <| SL.mv rfl <| SL.mv rfl <| SL.mv rfl <| SL.v (op_lenS Tryz.underlying45 rfl) <| SL.v (op_eqlT rfl rfl (by omega)) ?_
    refine SL.v (op_pickT rfl rfl) <| SL.mv rfl <| SL.mv rfl <| SL.v (op_eqlT rfl rfl (by omega)) ?_
    refine SL.v (op_pickT rfl rfl) <| SL.as rfl <| SL.nil <| T.ret1 rfl (ResIs.tmp rfl) ?_
    rfl
end Go.Proofs.YtmfiencoefbjfaaGreatDoor
namespace Go.Proofs.YtmfiencoefbjfaaGreatDoor
section
set_option maxRecDepth 100000
theorem fa139_0 : FAdr Tryz.prog 139 0 0 := fadr_mk Tryz.underlying139 rfl rfl (by kernel_rfl)
theorem ty137 : Ty Tryz.prog 137 false 1 := ⟨⟨_, Tryz.underlying137, rfl⟩, by kernel_rfl⟩
end
open Go.RowKit
/-- A builder. -/
abbrev BldO (b : Nat) (p s : Value) : Ow := ⟨b, [p, s], 139, 2⟩
theorem copyCheck_spec {X : PMap} {b : Nat} {p s : Value} (hp : p = .pointer none ∨ p = .pointer (some ⟨b, 0, none⟩)) : SpecM Tryz.prog 92 [.pointer (some ⟨b, 0, none⟩)] X [BldO b p s] fun u L' _ => u = .tuple #[] ∧ L' = [BldO b (.pointer (some ⟨b, 0, none⟩)) s] := by
  rcases hp with rfl | rfl
  · refine SpecM.enter Tryz.func92 rfl Tryz.ntmps92 rfl ?_
    intro w0 X0 own0
    refine T.seq <| T.region <| SL.mv rfl <| SL.v (op_nil rfl) <| SL.v (op_fieldAddr fa139_0 rfl) <| SL.v (op_load ty137 rfl (by repeat constructor) rfl) ?_
    refine SL.v (op_eqlNil Tryz.underlying137 rfl rfl) <| SL.nil <| T.condT rfl <| T.region <| SL.mv rfl <| SL.mv rfl <| SL.v (op_toUns (size := 1) Tryz.underlying137 Tryz.underlying171 (by kernel_rfl) rfl AtO.here (by omega)) ?_
    refine SL.v (op_noEsc Tryz.func104 (by kernel_rfl) (by kernel_rfl) (by kernel_rfl) (by kernel_rfl) rfl) ?_
    refine SL.v (op_fromUns (size := 2) Tryz.underlying171 Tryz.underlying137 (by kernel_rfl) rfl AtO.here (by kernel_rfl)) ?_
    refine SL.v (op_nil rfl) <| SL.v (op_fieldAddr fa139_0 rfl) <| SL.w (op_store ty137 rfl rfl (by repeat constructor) rfl rfl rfl) ?_
    rintro _ _ _ ⟨rfl, rfl⟩
    refine SL.nil <| T.doneM0 [BldO b (.pointer (some ⟨b, 0, none⟩)) s] rfl (List.Perm.refl _) ?_
    exact ⟨PMap.le_refl _, rfl, rfl⟩
  · refine SpecM.enter Tryz.func92 rfl Tryz.ntmps92 rfl ?_
    intro w0 X0 own0
    refine T.seq <| T.region <| SL.mv rfl <| SL.v (op_nil rfl) <| SL.v (op_fieldAddr fa139_0 rfl) <| SL.v (op_load ty137 rfl (by repeat constructor) rfl) ?_
    refine SL.v (op_eqlNil Tryz.underlying137 rfl rfl) <| SL.nil <| T.condF rfl <| T.seq <| T.region <| SL.mv rfl <| SL.v (op_nil rfl) <| SL.v (op_fieldAddr fa139_0 rfl) <| SL.v (op_load ty137 rfl (by repeat constructor) rfl) ?_
    refine SL.mv rfl <| SL.v (op_neqSame (size := 2) Tryz.underlying137 (by kernel_rfl) rfl rfl) ?_
    refine SL.nil <| T.condF rfl <| T.skip <| T.doneM0 [BldO b (.pointer (some ⟨b, 0, none⟩)) s] rfl (List.Perm.refl _) ?_
    exact ⟨PMap.le_refl _, rfl, rfl⟩
end Go.Proofs.YtmfiencoefbjfaaGreatDoor
namespace Go.Proofs.YtmfiencoefbjfaaGreatDoor
section
set_option maxRecDepth 100000
theorem bs5 : ∃ i z, Tryz.prog.info? 5 = some i ∧ i.size = 1 ∧ i.zero = some z ∧ z.cells = ([.int .u8 0] : List Value).toArray := bs_of (by kernel_rfl)
theorem en92 : Enters Tryz.prog 92 := enters_mk Tryz.func92 (by kernel_rfl) rfl
theorem fa139_1 : FAdr Tryz.prog 139 1 1 := fadr_mk Tryz.underlying139 rfl rfl (by kernel_rfl)
theorem sl22 : SlT Tryz.prog 22 5 1 1 := ⟨Tryz.underlying22, sl_of (by kernel_rfl) (by decide)⟩
end
open Go.RowKit
/-- The builder's bytes. -/
def BufG (l : List UInt8) (s : Value) (G : Own) : Prop := GrowS 5 1 s l.length (Lib.byteCells l) G
theorem bufg_snoc {l : List UInt8} {c : UInt8} {s : Value} {G : Own} (h : GrowS 5 1 s (l.length + 1) (Lib.byteCells l ++ [.int .u8 (c.toNat : Int)]) G) : BufG (l ++ [c]) s G := by
  unfold BufG
  simpa [Lib.byteCells] using h
theorem writeByte_spec {X : PMap} {b : Nat} {p s : Value} {G : Own} {l : List UInt8} (c : UInt8) (hp : p = .pointer none ∨ p = .pointer (some ⟨b, 0, none⟩)) (hG : BufG l s G) (hl : l.length < 1000000000) :
    SpecM Tryz.prog 72 [.pointer (some ⟨b, 0, none⟩), .int .u8 (c.toNat : Int)] X (BldO b p s :: G) fun u L' _ => u = .nilIface ∧ ∃ s' G', L' = BldO b (.pointer (some ⟨b, 0, none⟩)) s' :: G' ∧ BufG (l ++ [c]) s' G' := by
  obtain ⟨As, cps, rfl⟩ := GrowS.form hG
  refine SpecM.enter Tryz.func72 rfl Tryz.ntmps72 rfl ?_
  intro w0 X0 own0
  show T _ _ _ _ _ _ _ _ _ (BldO b p _ :: (G ++ own0)) _
  refine T.seq <| T.region <| SL.as rfl <| SL.nil <| T.seq <| T.region <| SL.mv rfl <| SL.w (op_callM en92 (vs := [_]) rfl (copyCheck_spec hp) rfl) ?_
  rintro _ _ X1 ⟨_, rfl, hX1, rfl, rfl⟩
  refine SL.nil <| T.seq <| T.region <| SL.mv rfl <| SL.mv rfl <| SL.v (op_nil rfl) <| SL.v (op_fieldAddr fa139_1 rfl) <| SL.v (op_load ty22 rfl (by repeat constructor) rfl) ?_
  refine SL.mv rfl <| SL.w (op_buildSlice Tryz.underlying22 bs5 (qs := [(0, _)]) rfl rfl rfl rfl rfl) ?_
  rintro _ _ _ ⟨B13, rfl, rfl, rfl⟩
  refine SL.perm (own' := ⟨B13, [.int .u8 (c.toNat : Int)], 5, 1⟩ :: ((BldO b (.pointer (some ⟨b, 0, none⟩)) (.slice As l.length cps) :: own0) ++ G)) permL ?_
  refine SL.w (op_appendG (own0 := BldO b (.pointer (some ⟨b, 0, none⟩)) (.slice As l.length cps) :: own0) sl22 rfl hG rfl rfl rfl (by (have : maxLen = 9223372036854775807 := rfl); omega) (by omega)) ?_
  rintro s' _ _ ⟨G', rfl, rfl, hG'⟩
  obtain ⟨As', cps', rfl⟩ := hG'.form
  refine SL.v (op_nil rfl) <| SL.v (op_fieldAddr fa139_1 rfl) <| SL.w (op_store ty22 rfl rfl (by repeat constructor) rfl rfl rfl) ?_
  rintro _ _ _ ⟨rfl, rfl⟩
  refine SL.nil <| T.seq <| T.region <| SL.as rfl <| SL.nil <| T.retM1 (BldO b (.pointer (some ⟨b, 0, none⟩)) _ :: G') rfl (ResIs.tmp rfl) permD ?_
  exact ⟨hX1, rfl, _, G', rfl, bufg_snoc hG'⟩
theorem builderString_spec {X : PMap} {b : Nat} {p s : Value} {G : Own} {l : List UInt8} (hG : BufG l s G) (h0 : l ≠ []) (hl : l.length < 1000000000) :
    SpecM Tryz.prog 73 [.pointer (some ⟨b, 0, none⟩)] X (BldO b p s :: G) fun u L' _ => u = .string ⟨l.toArray⟩ ∧ L' = [BldO b p s] := by
  rcases hG with ⟨hz, _⟩ | ⟨g, cap, rfl, rfl, hc1, hc2, hc3⟩
  · exact absurd (List.eq_nil_of_length_eq_zero hz) h0
  have hpos : 0 < l.length := List.length_pos_iff.2 h0
  refine SpecM.enter Tryz.func73 rfl Tryz.ntmps73 rfl ?_
  intro w0 X0 own0
  refine T.perm (own' := (BldO b p (.slice (some ⟨g, 0, none⟩) l.length cap) :: own0) ++ [⟨g, Lib.byteCells l, 5, cap * 1⟩]) permC ?_
  refine T.seq <| T.region <| SL.as rfl <| SL.nil <| T.seq <| T.drawG (own0 := BldO b p (.slice (some ⟨g, 0, none⟩) l.length cap) :: own0) (by kernel_rfl) 12 [.t 0, .t 1, .t 2, .t 3, .t 4, .t 5, .t 6, .t 7, .t 8, .t 9, .r 10, .t 11] (by kernel_rfl) ?_
  refine SD.take rfl panicBody (op_move rfl) rfl rfl ?_
  refine SD.take rfl panicBody (op_nil rfl) rfl rfl ?_
  refine SD.take rfl panicBody (op_fieldAddr fa139_1 rfl) rfl rfl ?_
  refine SD.take rfl panicBody (op_load ty22 rfl (by repeat constructor) rfl) rfl rfl ?_
  refine SD.take rfl panicBody (op_sliceData rfl (by omega)) rfl rfl ?_
  refine SD.take rfl panicBody (op_move rfl) rfl rfl ?_
  refine SD.take rfl panicBody (op_nil rfl) rfl rfl ?_
  refine SD.take rfl panicBody (op_fieldAddr fa139_1 rfl) rfl rfl ?_
  refine SD.take rfl panicBody (op_load ty22 rfl (by repeat constructor) rfl) rfl rfl ?_
  refine SD.take rfl panicBody (op_lenS Tryz.underlying22 rfl) rfl rfl ?_
  refine SD.runK rfl (op_unsafeStr Tryz.underlying161 (by kernel_rfl) rfl rfl h0 hc1 hc2) (by rintro _ _ _ ⟨rfl, rfl, rfl⟩; exact ⟨fun p hp => hp, PMap.le_refl _⟩) rfl rfl ?_
  rintro _ _ _ ⟨rfl, rfl, rfl⟩
  refine SD.take rfl panicBody (op_assign rfl) rfl rfl ?_
  refine SD.nil ?_
  show SL _ _ _ _ _ _ _ [] _ _ _
  refine SL.nil <| T.retM1 [BldO b p (.slice (some ⟨g, 0, none⟩) l.length cap)] rfl (ResIs.tmp rfl) (List.Perm.refl _) ?_
  exact ⟨PMap.le_refl _, rfl, rfl⟩
end Go.Proofs.YtmfiencoefbjfaaGreatDoor
namespace Go.Proofs.YtmfiencoefbjfaaGreatDoor
section
set_option maxRecDepth 100000
theorem en72 : Enters Tryz.prog 72 := enters_mk Tryz.func72 (by kernel_rfl) rfl
theorem en73 : Enters Tryz.prog 73 := enters_mk Tryz.func73 (by kernel_rfl) rfl
theorem z139 : Zero Tryz.prog 139 [.pointer none, .slice none 0 0] := ⟨zero_of (by kernel_rfl)⟩
end
open Go.RowKit
def cellC (ms : List Nat) (i j : Nat) : UInt8 := if Rel ms i j then 49 else 48
def rowT (c : Nat) (ms : List Nat) (i : Nat) : List UInt8 := (List.range c).map (cellC ms i)
def textK (c : Nat) (ms : List Nat) (k : Nat) : List UInt8 := (List.range k).flatMap fun i => rowT c ms i ++ [10]
theorem rowT_succ (ms : List Nat) (i j : Nat) : rowT (j + 1) ms i = rowT j ms i ++ [cellC ms i j] := by simp [rowT, List.range_succ]
theorem rowT_len (c : Nat) (ms : List Nat) (i : Nat) : (rowT c ms i).length = c := by simp [rowT]
theorem textK_succ (c : Nat) (ms : List Nat) (k : Nat) : textK c ms (k + 1) = textK c ms k ++ (rowT c ms k ++ [10]) := by simp [textK, List.range_succ]
theorem textK_len (c : Nat) (ms : List Nat) : ∀ k, (textK c ms k).length = k * (c + 1)
  | 0 => by simp [textK]
  | k + 1 => by rw [textK_succ, List.length_append, textK_len c ms k, List.length_append, rowT_len, List.length_singleton, Nat.succ_mul]
theorem elemB_rel' {c i j : Nat} {ms : List Nat} (hi : i < ms.length) (hj : j < c) : elemB c ms (i : Int) (j : Int) = Rel ms i j := by
  rw [elemB, insideB_at hi hj, Bool.true_and]
  rfl
theorem mtext_spec {X : PMap} {v : Value} {c : Nat} {ms : List Nat} (h : MatR X v c ms) (h0 : 0 < ms.length) : Spec Tryz.prog 40 [v] X fun u _ => u = .string ⟨(textK c ms ms.length).toArray⟩ := by
  obtain ⟨hr, hc⟩ := h.lens
  have hh := h
  obtain ⟨bm, A, cap, cs0, rfl, hB, hS, hA, _, _⟩ := h
  have hkc : ∀ k, k ≤ ms.length → k * (c + 1) ≤ 64 * 64 := fun k hk => Nat.mul_le_mul (by omega) (by omega)
  refine Spec.enter Tryz.func40 rfl Tryz.ntmps40 rfl ?_
  intro w0 hw0
  refine T.seq <| T.region <| SL.as rfl <| SL.nil <| T.seq <| T.region <| SL.w (op_alloc z139) ?_
  rintro _ _ _ ⟨B3, rfl, rfl, rfl⟩
  refine SL.nil <| T.seq <| T.seq <| T.region <| SL.mv rfl <| SL.w (op_callF en11 (vs := [_]) rfl (rows_spec hh)) ?_
  rintro _ _ X1 ⟨rfl, hX1, rfl⟩
  refine SL.v (op_move (v := .int .i64 ((0 : Nat) : Int)) rfl) <| SL.nil <| T.block <| T.loopW (fun m env own X' => ∃ (k : Nat) (p s : Value) (G : Own), m = ms.length - k ∧ k ≤ ms.length ∧ X1.le X' ∧ (p = .pointer none ∨ p = .pointer (some ⟨B3, 0, none⟩)) ∧ BufG (textK c ms k) s G ∧ env = [(0, .pointer (some ⟨bm, 0, none⟩)), (3, .pointer (some ⟨B3, 0, none⟩)), (7, .int .i64 (ms.length : Int)), (8, .int .i64 (k : Int))] ∧ own = BldO B3 p s :: (G ++ [])) ms.length ⟨0, _, _, [], by simp, by omega, PMap.le_refl _, .inl rfl, GrowS.nil, rfl, rfl⟩ (by repeat (first | exact Sub.nil | refine Sub.cons rfl ?_)) ?_
  rintro m _ _ X2 ⟨k, p, s, G, rfl, hk, hX2, hp, hG, rfl, rfl⟩
  have hX02 := hX1.trans' hX2
  have hkl := hkc k hk
  have htl := textK_len c ms k
  rcases Nat.lt_or_ge k ms.length with hkm | hkm
  · have hB2 := hB.mono hX02
    refine T.seq <| T.region <| SL.v (op_lssT rfl rfl (by omega)) ?_
    refine SL.nil <| T.seq <| T.condT rfl <| T.skip <| T.seq <| T.block <| T.seq <| T.region <| SL.mv rfl <| SL.as rfl <| SL.nil <| T.seq <| T.seq <| T.region <| SL.mv rfl ?_
    refine SL.v (op_nil rfl) <| SL.v (op_fieldAddr fa98_0 rfl) <| SL.v (op_loadX ty3 rfl hB2 rfl) <| SL.v (op_move (v := .int .i64 ((0 : Nat) : Int)) rfl) <| SL.nil <| T.block <| T.loopW (fun m env own X' => ∃ (j : Nat) (p s : Value) (G : Own), m = c - j ∧ j ≤ c ∧ X2.le X' ∧ (p = .pointer none ∨ p = .pointer (some ⟨B3, 0, none⟩)) ∧ BufG (textK c ms k ++ rowT j ms k) s G ∧ env = [(0, .pointer (some ⟨bm, 0, none⟩)), (3, .pointer (some ⟨B3, 0, none⟩)), (4, .int .i64 (k : Int)), (7, .int .i64 (ms.length : Int)), (8, .int .i64 (k : Int)), (14, .int .i64 (c : Int)), (15, .int .i64 (j : Int))] ∧ own = BldO B3 p s :: (G ++ [])) c ⟨0, p, s, G, by simp, by omega, PMap.le_refl _, hp, by simpa [rowT] using hG, rfl, rfl⟩ (by repeat (first | exact Sub.nil | refine Sub.cons rfl ?_)) ?_
    rintro m _ _ X3 ⟨j, p, s, G, rfl, hj, hX3, hp, hG, rfl, rfl⟩
    have hX03 := hX02.trans' hX3
    have hlen : (textK c ms k ++ rowT j ms k).length < 1000000000 := by rw [List.length_append, rowT_len]; omega
    rcases Nat.lt_or_ge j c with hjc | hjc
    · skip
      refine T.seq <| T.region <| SL.v (op_lssT rfl rfl (by omega)) ?_
      refine SL.nil <| T.seq <| T.condT rfl <| T.skip <| T.seq <| T.block <| T.seq <| T.region <| SL.mv rfl <| SL.as rfl <| SL.nil <| T.seq <| T.region <| SL.mv rfl <| SL.mv rfl ?_
      refine SL.mv rfl <| SL.w (op_callF en34 (vs := [_, _, _]) rfl (mhas_spec (hh.mono hX03) (k : Int) (j : Int))) ?_
      rintro _ _ X4 ⟨rfl, hX4, rfl⟩
      rw [elemB_rel' hkm hjc]
      cases hel : Rel ms k j with
      | true =>
        have hcc : cellC ms k j = 49 := by rw [cellC, hel]; rfl
        refine SL.nil <| T.condT rfl <| T.region <| SL.w (op_callM en72 (vs := [_, _]) rfl (writeByte_spec 49 hp hG hlen) rfl) ?_
        rintro _ _ X5 ⟨_, rfl, hX5, rfl, s5, G5, rfl, hG5⟩
        refine SL.nil <| T.blk <| T.region <| SL.v (op_addN (q := 1) rfl rfl (by omega)) ?_
        refine SL.mv rfl <| SL.nil ?_
        exact T.backW (c - (j + 1)) (by omega) ⟨j + 1, _, s5, G5, rfl, by omega, (hX3.trans' hX4).trans' hX5, .inr rfl, by rw [rowT_succ, hcc, ← List.append_assoc]; exact hG5, rfl, rfl⟩ (by repeat (first | exact Sub.nil | refine Sub.cons rfl ?_))
      | false =>
        have hcc : cellC ms k j = 48 := by rw [cellC, hel]; rfl
        refine SL.nil <| T.condF rfl <| T.region <| SL.w (op_callM en72 (vs := [_, _]) rfl (writeByte_spec 48 hp hG hlen) rfl) ?_
        rintro _ _ X5 ⟨_, rfl, hX5, rfl, s5, G5, rfl, hG5⟩
        refine SL.nil <| T.blk <| T.region <| SL.v (op_addN (q := 1) rfl rfl (by omega)) ?_
        refine SL.mv rfl <| SL.nil ?_
        exact T.backW (c - (j + 1)) (by omega) ⟨j + 1, _, s5, G5, rfl, by omega, (hX3.trans' hX4).trans' hX5, .inr rfl, by rw [rowT_succ, hcc, ← List.append_assoc]; exact hG5, rfl, rfl⟩ (by repeat (first | exact Sub.nil | refine Sub.cons rfl ?_))
    · obtain rfl : j = c := by omega
      refine T.seq <| T.region <| SL.v (op_lssF rfl rfl (by omega)) ?_
      refine SL.nil <| T.seq <| T.condF rfl ?_
      refine T.exit (T.exitCode (T.exitCut (T.exitBlk ?_)))
      refine T.region <| SL.w (op_callM en72 (vs := [_, _]) rfl (writeByte_spec 10 hp hG hlen) rfl) ?_
      rintro _ _ X5 ⟨_, rfl, hX5, rfl, s5, G5, rfl, hG5⟩
      refine SL.nil <| T.blk <| T.region <| SL.v (op_addN (q := 1) rfl rfl (by omega)) ?_
      refine SL.mv rfl <| SL.nil ?_
      exact T.backW (ms.length - (k + 1)) (by omega) ⟨k + 1, _, s5, G5, rfl, by omega, (hX2.trans' hX3).trans' hX5, .inr rfl, by rw [textK_succ, ← List.append_assoc]; exact hG5, rfl, rfl⟩ (by repeat (first | exact Sub.nil | refine Sub.cons rfl ?_))
  · obtain rfl : k = ms.length := by omega
    have hne : textK c ms ms.length ≠ [] := fun e => by rw [e] at htl; have := Nat.mul_pos h0 (show 0 < c + 1 by omega); simp at htl; omega
    refine T.seq <| T.region <| SL.v (op_lssF rfl rfl (by omega)) ?_
    refine SL.nil <| T.seq <| T.condF rfl ?_
    refine T.exit (T.exitCode (T.exitCut (T.exitBlk ?_)))
    refine T.seq <| T.region <| SL.w (op_callM en73 (vs := [_]) rfl (builderString_spec hG hne (by omega)) rfl) ?_
    rintro _ _ X5 ⟨_, rfl, hX5, rfl, rfl⟩
    refine SL.as rfl <| SL.nil <| T.ret1 rfl (ResIs.tmp rfl) ?_
    rfl
end Go.Proofs.YtmfiencoefbjfaaGreatDoor
namespace Go.Proofs.YtmfiencoefbjfaaGreatDoor
open Go.RowKit
section
variable {P : Program} {n : NM} {w0 : Base} {X0 X : PMap} {own : Own} {env : Env}
theorem op_sliceStrLo {t : TypeId} {x lo : Operand} {s : ByteArray} {l : Nat} {k : IntKind} (ht : P.underlying t = some .string) (hx : eev env x = some (.string s)) (hl : eev env lo = some (.int k (l : Int))) (h1 : l ≤ s.size) :
    OpY P n env own X (.slice t x (some lo) none none) (.string (s.extract l s.size)) := by
  intro a W oper hop ha _
  have hb : (Instr.sliceBounds false s.size s.size (some (.int k (l : Int))) none none).run P W = .ok (l, s.size, s.size) W := by
    simp [Instr.sliceBounds, Instr.sliceBound, asIntOf, h1]
  have : (Instr.sliceAt t (.string s) (some (.int k (l : Int))) none none).run P W = .ok (.string (s.extract l s.size)) W := by
    simp only [Instr.sliceAt, Sem.run_bind, run_underlying ht, Result.andThen_ok, Instr.slice]
    simp [hb]
  simp [execOp, hop, ha.eval hx, ha.eval hl, this]
theorem op_sliceStrHi {t : TypeId} {x hi : Operand} {s : ByteArray} {h : Nat} {k' : IntKind} (ht : P.underlying t = some .string) (hx : eev env x = some (.string s)) (hh : eev env hi = some (.int k' (h : Int))) (h2 : h ≤ s.size) :
    OpY P n env own X (.slice t x none (some hi) none) (.string (s.extract 0 h)) := by
  intro a W oper hop ha _
  have hb : (Instr.sliceBounds false s.size s.size none (some (.int k' (h : Int))) none).run P W = .ok (0, h, s.size) W := by
    simp [Instr.sliceBounds, Instr.sliceBound, asIntOf, h2]
  have : (Instr.sliceAt t (.string s) none (some (.int k' (h : Int))) none).run P W = .ok (.string (s.extract 0 h)) W := by
    simp only [Instr.sliceAt, Sem.run_bind, run_underlying ht, Result.andThen_ok, Instr.slice]
    simp [hb]
  simp [execOp, hop, ha.eval hx, ha.eval hh, this]
end
end Go.Proofs.YtmfiencoefbjfaaGreatDoor
namespace Go.Proofs.YtmfiencoefbjfaaGreatDoor
section
set_option maxRecDepth 100000
theorem en103 : Enters Tryz.prog 103 := enters_mk Tryz.func103 (by kernel_rfl) rfl
theorem en108 : Enters Tryz.prog 108 := enters_mk Tryz.func108 (by kernel_rfl) rfl
theorem en71 : Enters Tryz.prog 71 := enters_mk Tryz.func71 (by kernel_rfl) rfl
theorem en90 : Enters Tryz.prog 90 := enters_mk Tryz.func90 (by kernel_rfl) rfl
theorem en91 : Enters Tryz.prog 91 := enters_mk Tryz.func91 (by kernel_rfl) rfl
theorem mr105 : ∃ i z, Tryz.prog.info? 9 = some i ∧ i.size = 1 ∧ i.bytes = 16 ∧ i.zero = some z ∧ z.cells = ([.string ⟨#[]⟩] : List Value).toArray := mr_of (by kernel_rfl)
theorem ty9 : Ty Tryz.prog 9 false 1 := ⟨⟨_, Tryz.underlying9, rfl⟩, by kernel_rfl⟩
end
open Go.RowKit
section
variable {P : Program} {n : NM} {env : Env} {own : Own} {X : PMap}
/-- A stand-in of two arguments that answers r. -/
theorem op_ext2 {f : FuncId} {gn : Func} {e : Array Value → Sem Value} {x y : Operand} {ts : Array TypeId} {v w r : Value} (hf : P.funcs[f]? = some gn) (h1 : (gn.name == "runtime.NumGoroutine") = false) (h2 : gn.body.isNone = true) (h3 : Extern.findNext gn = none) (h4 : Extern.find gn = some e) (hr0 : ∀ W, (e #[v, w]).run P W = .ok r W) (hx : eev env x = some v) (hy : eev env y = some w) :
    OpY P n env own X (.call { callee := .value (.func f), args := #[x, y], argTypes := ts }) r := by
  intro a W oper hop ha _
  have hc : a.eval (.func f) = .func (.func f) #[] #[] := ha.eval rfl
  have hr := run_callFunc_extern hf h1 h2 h3 h4 #[v, w] W
  rw [hr0] at hr
  simp only [execOp, hop, resolve, hc, Deferred.ofValue, invoke, Sem.run_bind, Sem.run_pure, Result.andThen_ok]
  simpa [ha.eval hx, ha.eval hy] using hr
end
theorem count_spec {X : PMap} (s : ByteArray) : Spec Tryz.prog 90 [.string s, .string ⟨#[10]⟩] X fun u _ => u = .int .i64 (Lib.countByte s.data.toList 10) := by
  have h10 : (⟨#[10]⟩ : ByteArray)[0]? = some 10 := by decide
  refine Spec.enter Tryz.func90 rfl Tryz.ntmps90 rfl ?_
  intro w0 hw0
  refine T.seq <| T.region <| SL.v (op_assign (v := .int .i64 ((0 : Nat) : Int)) rfl) <| SL.nil <| T.seq <| T.seq <| T.region <| SL.mv rfl <| SL.v (op_lenStr Tryz.underlying9 rfl) <| SL.v (op_eql rfl rfl) <| SL.nil <| T.condF rfl <| T.skip <| T.seq <| T.seq ?_
  refine T.region <| SL.mv rfl <| SL.v (op_lenStr Tryz.underlying9 rfl) <| SL.v (op_eql rfl rfl) <| SL.nil <| T.condT rfl <| T.seq <| T.region <| SL.mv rfl <| SL.mv rfl <| SL.v (op_idxStr Tryz.underlying9 rfl rfl rfl (by assumption)) ?_
  refine SL.v (op_ext2 (r := .int .i64 (Lib.countByte s.data.toList 10)) Tryz.func102 (by kernel_rfl) (by kernel_rfl) (by kernel_rfl) (e := Extern.BytealgCount.count) (by kernel_rfl) (fun W => Lib.run_countString s 10 W) rfl rfl) ?_
  refine SL.as rfl <| SL.nil <| T.ret1 rfl (ResIs.tmp rfl) ?_
  rfl
theorem indexByte_spec {X : PMap} (s : ByteArray) : Spec Tryz.prog 108 [.string s, .int .u8 10] X fun u _ => u = .int .i64 (Lib.indexByte s.data.toList 10) := by
  refine Spec.enter Tryz.func108 rfl Tryz.ntmps108 rfl ?_
  intro w0 hw0
  refine T.seq <| T.region <| SL.v (op_assign (v := .int .i64 ((0 : Nat) : Int)) rfl) <| SL.nil <| T.seq <| T.region <| SL.mv rfl <| SL.mv rfl <| SL.v (op_ext2 (r := .int .i64 (Lib.indexByte s.data.toList 10)) Tryz.func112 (by kernel_rfl) (by kernel_rfl) (by kernel_rfl) (e := Extern.BytealgIndexByte.indexByte) (by kernel_rfl) (fun W => Lib.run_indexByteString s 10 W) rfl rfl) ?_
  refine SL.as rfl <| SL.nil <| T.ret1 rfl (ResIs.tmp rfl) ?_
  rfl
theorem indexLite_spec {X : PMap} (s : ByteArray) (hs : decide ((⟨#[10]⟩ : ByteArray) = s) = false) : Spec Tryz.prog 103 [.string s, .string ⟨#[10]⟩] X fun u _ => u = .int .i64 (Lib.indexByte s.data.toList 10) := by
  have h10 : (⟨#[10]⟩ : ByteArray)[0]? = some 10 := by decide
  refine Spec.enter Tryz.func103 rfl Tryz.ntmps103 rfl ?_
  intro w0 hw0
  refine T.seq <| T.region <| SL.v (op_assign (v := .int .i64 ((0 : Nat) : Int)) rfl) <| SL.nil <| T.seq <| T.region <| SL.mv rfl <| SL.v (op_lenStr Tryz.underlying9 rfl) <| SL.as rfl <| SL.nil <| T.seq <| T.block <| T.seq <| T.region <| SL.mv rfl ?_
  refine SL.v (op_eql rfl rfl) <| SL.mv rfl <| SL.mv rfl <| SL.mv rfl <| SL.v (op_eqlStrD rfl rfl) <| SL.v (op_pickF rfl rfl) <| SL.as rfl <| SL.nil ?_
  rw [hs]
  refine T.condF rfl <| T.seq <| T.region <| SL.mv rfl <| SL.v (op_eql rfl rfl) <| SL.as rfl <| SL.nil <| T.condT rfl <| T.seq <| T.region <| SL.mv rfl <| SL.mv rfl <| SL.v (op_idxStr Tryz.underlying9 rfl rfl rfl (by assumption)) ?_
  refine SL.w (op_callF en108 (vs := [_, _]) rfl (indexByte_spec s)) ?_
  rintro _ _ X1 ⟨rfl, hX1, rfl⟩
  refine SL.as rfl <| SL.nil <| T.ret1 rfl (ResIs.tmp rfl) ?_
  rfl
theorem index_spec {X : PMap} (s : ByteArray) (hs : decide ((⟨#[10]⟩ : ByteArray) = s) = false) : Spec Tryz.prog 91 [.string s, .string ⟨#[10]⟩] X fun u _ => u = .int .i64 (Lib.indexByte s.data.toList 10) := by
  refine Spec.enter Tryz.func91 rfl Tryz.ntmps91 rfl ?_
  intro w0 hw0
  refine T.seq <| T.region <| SL.v (op_assign (v := .int .i64 ((0 : Nat) : Int)) rfl) <| SL.nil <| T.seq <| T.region <| SL.mv rfl <| SL.mv rfl <| SL.w (op_callF en103 (vs := [_, _]) rfl (indexLite_spec s hs)) ?_
  rintro _ _ X1 ⟨rfl, hX1, rfl⟩
  refine SL.as rfl <| SL.nil <| T.ret1 rfl (ResIs.tmp rfl) ?_
  rfl
def s12 : ByteArray := ⟨#[49, 49, 48, 10, 49, 49, 49, 10, 48, 49, 49, 10]⟩
def s8 : ByteArray := ⟨#[49, 49, 49, 10, 48, 49, 49, 10]⟩
def s4 : ByteArray := ⟨#[48, 49, 49, 10]⟩
def sO : ByteArray := ⟨#[]⟩
def w1 : ByteArray := ⟨#[49, 49, 48]⟩
def w2 : ByteArray := ⟨#[49, 49, 49]⟩
def w3 : ByteArray := ⟨#[48, 49, 49]⟩
theorem genSplit_spec {X : PMap} : Spec Tryz.prog 71 [.string s12, .string ⟨#[10]⟩, .int .i64 0, .int .i64 (-1)] X fun u X' => ∃ b, u = .slice (some ⟨b, 0, none⟩) 4 4 ∧ Blk X' b [.string w1, .string w2, .string w3, .string sO] := by
  have e0 : decide ((⟨#[10]⟩ : ByteArray) = ⟨#[]⟩) = false := by decide
  have ec : Lib.countByte s12.data.toList 10 = 3 := by decide
  refine Spec.enter Tryz.func71 rfl Tryz.ntmps71 rfl ?_
  intro w0 hw0
  refine T.seq <| T.region <| SL.as rfl <| SL.nil <| T.seq <| T.seq <| T.region <| SL.mv rfl <| SL.v (op_eqlF rfl rfl (by omega)) ?_
  refine SL.nil <| T.condF rfl <| T.skip <| T.seq <| T.seq <| T.region <| SL.mv rfl <| SL.v (op_eqlStrD rfl rfl) <| SL.nil ?_
  rw [e0]
  refine T.condF rfl <| T.skip <| T.seq <| T.seq <| T.region <| SL.mv rfl <| SL.v (op_lssT rfl rfl (by omega)) ?_
  refine SL.nil <| T.condT rfl <| T.region <| SL.mv rfl <| SL.mv rfl <| SL.w (op_callF en90 (vs := [_, _]) rfl (count_spec s12)) ?_
  rintro _ _ X1 ⟨rfl, hX1, rfl⟩
  rw [ec]
  refine SL.v (op_addN (q := 1) rfl rfl (by omega)) ?_
  refine SL.as rfl <| SL.nil <| T.seq <| T.region <| SL.mv rfl <| SL.mv rfl <| SL.v (op_lenStr Tryz.underlying9 rfl) <| SL.v (op_addW rfl rfl) <| SL.v (op_minN rfl rfl) <| SL.as rfl <| SL.nil <| T.seq <| T.region <| SL.mv rfl <| SL.w (op_makeR (l := 4) (c := 4) Tryz.underlying105 mr105 rfl rfl rfl (Nat.le_refl _) (by decide) (by decide)) ?_
  rintro _ _ _ ⟨b31, rfl, rfl, rfl⟩
  refine SL.as rfl <| SL.nil <| T.seq <| T.region <| SL.mv rfl <| SL.v (op_sub rfl rfl (by omega) (by omega)) ?_
  refine SL.as rfl <| SL.nil <| T.seq <| T.region <| SL.v (op_assign (v := .int .i64 ((0 : Nat) : Int)) rfl) <| SL.nil <| T.seq <| T.block <| T.unrollStart 4 ?_
  refine T.unroll ?_
  refine T.seq <| T.seq <| T.region <| SL.mv rfl <| SL.mv rfl <| SL.v (op_lss rfl rfl) <| SL.nil <| T.condT rfl <| T.skip <| T.block <| T.seq <| T.region <| SL.mv rfl <| SL.mv rfl <| SL.w (op_callF en91 (vs := [_, _]) rfl (index_spec s12 (by decide))) ?_
  rintro _ _ X2 ⟨rfl, hX2, rfl⟩
  rw [show Lib.indexByte s12.data.toList 10 = ((3 : Nat) : Int) by decide]
  refine SL.as rfl <| SL.nil <| T.seq <| T.seq <| T.region <| SL.mv rfl <| SL.v (op_lssF rfl rfl (by omega)) ?_
  refine SL.nil <| T.condF rfl <| T.skip <| T.seq <| T.region <| SL.mv rfl <| SL.mv rfl <| SL.mv rfl <| SL.mv rfl <| SL.mv rfl <| SL.v (op_add rfl rfl (by omega) (by omega)) ?_
  refine SL.v (op_sliceStrHi (h := 3) Tryz.underlying9 rfl rfl (by decide)) ?_
  rw [show s12.extract 0 3 = w1 by decide]
  refine SL.v (op_indexN Tryz.underlying105 ty9 rfl rfl (by omega)) ?_
  refine SL.w (op_store ty9 rfl rfl (by repeat constructor) rfl rfl rfl) ?_
  rintro _ _ _ ⟨rfl, rfl⟩
  refine SL.nil <| T.seq <| T.region <| SL.mv rfl <| SL.mv rfl <| SL.mv rfl <| SL.v (op_lenStr Tryz.underlying9 rfl) <| SL.v (op_addW rfl rfl) <| SL.v (op_sliceStrLo (l := 4) Tryz.underlying9 rfl rfl (by decide)) ?_
  rw [show s12.extract 4 s12.size = s8 by decide]
  refine SL.as rfl <| SL.nil <| T.region <| SL.mv rfl <| SL.v (op_addN (q := 1) rfl rfl (by omega)) ?_
  refine SL.as rfl <| SL.nil <| T.blk <| T.unroll ?_
  refine T.seq <| T.seq <| T.region <| SL.mv rfl <| SL.mv rfl <| SL.v (op_lss rfl rfl) <| SL.nil <| T.condT rfl <| T.skip <| T.block <| T.seq <| T.region <| SL.mv rfl <| SL.mv rfl <| SL.w (op_callF en91 (vs := [_, _]) rfl (index_spec s8 (by decide))) ?_
  rintro _ _ X3 ⟨rfl, hX3, rfl⟩
  rw [show Lib.indexByte s8.data.toList 10 = ((3 : Nat) : Int) by decide]
  refine SL.as rfl <| SL.nil <| T.seq <| T.seq <| T.region <| SL.mv rfl <| SL.v (op_lssF rfl rfl (by omega)) ?_
  refine SL.nil <| T.condF rfl <| T.skip <| T.seq <| T.region <| SL.mv rfl <| SL.mv rfl <| SL.mv rfl <| SL.mv rfl <| SL.mv rfl <| SL.v (op_add rfl rfl (by omega) (by omega)) ?_
  refine SL.v (op_sliceStrHi (h := 3) Tryz.underlying9 rfl rfl (by decide)) ?_
  rw [show s8.extract 0 3 = w2 by decide]
  refine SL.v (op_indexN Tryz.underlying105 ty9 rfl rfl (by omega)) ?_
  refine SL.w (op_store ty9 rfl rfl (by repeat constructor) rfl rfl rfl) ?_
  rintro _ _ _ ⟨rfl, rfl⟩
  refine SL.nil <| T.seq <| T.region <| SL.mv rfl <| SL.mv rfl <| SL.mv rfl <| SL.v (op_lenStr Tryz.underlying9 rfl) <| SL.v (op_addW rfl rfl) <| SL.v (op_sliceStrLo (l := 4) Tryz.underlying9 rfl rfl (by decide)) ?_
  rw [show s8.extract 4 s8.size = s4 by decide]
  refine SL.as rfl <| SL.nil <| T.region <| SL.mv rfl <| SL.v (op_addN (q := 1) rfl rfl (by omega)) ?_
  refine SL.as rfl <| SL.nil <| T.blk <| T.unroll ?_
  refine T.seq <| T.seq <| T.region <| SL.mv rfl <| SL.mv rfl <| SL.v (op_lss rfl rfl) <| SL.nil <| T.condT rfl <| T.skip <| T.block <| T.seq <| T.region <| SL.mv rfl <| SL.mv rfl <| SL.w (op_callF en91 (vs := [_, _]) rfl (index_spec s4 (by decide))) ?_
  rintro _ _ X4 ⟨rfl, hX4, rfl⟩
  rw [show Lib.indexByte s4.data.toList 10 = ((3 : Nat) : Int) by decide]
  refine SL.as rfl <| SL.nil <| T.seq <| T.seq <| T.region <| SL.mv rfl <| SL.v (op_lssF rfl rfl (by omega)) ?_
  refine SL.nil <| T.condF rfl <| T.skip <| T.seq <| T.region <| SL.mv rfl <| SL.mv rfl <| SL.mv rfl <| SL.mv rfl <| SL.mv rfl <| SL.v (op_add rfl rfl (by omega) (by omega)) ?_
  refine SL.v (op_sliceStrHi (h := 3) Tryz.underlying9 rfl rfl (by decide)) ?_
  rw [show s4.extract 0 3 = w3 by decide]
  refine SL.v (op_indexN Tryz.underlying105 ty9 rfl rfl (by omega)) ?_
  refine SL.w (op_store ty9 rfl rfl (by repeat constructor) rfl rfl rfl) ?_
  rintro _ _ _ ⟨rfl, rfl⟩
  refine SL.nil <| T.seq <| T.region <| SL.mv rfl <| SL.mv rfl <| SL.mv rfl <| SL.v (op_lenStr Tryz.underlying9 rfl) <| SL.v (op_addW rfl rfl) <| SL.v (op_sliceStrLo (l := 4) Tryz.underlying9 rfl rfl (by decide)) ?_
  rw [show s4.extract 4 s4.size = sO by decide]
  refine SL.as rfl <| SL.nil <| T.region <| SL.mv rfl <| SL.v (op_addN (q := 1) rfl rfl (by omega)) ?_
  refine SL.as rfl <| SL.nil <| T.blk <| T.unroll ?_
  refine T.seq <| T.seq <| T.region <| SL.mv rfl <| SL.mv rfl <| SL.v (op_lssF rfl rfl (by omega)) ?_
  refine SL.nil <| T.condF rfl ?_
  refine T.exit (T.exitCode (T.exitMore (T.exitBlk ?_)))
  refine T.seq <| T.region <| SL.mv rfl <| SL.mv rfl <| SL.mv rfl <| SL.v (op_indexN Tryz.underlying105 ty9 rfl rfl (by omega)) ?_
  refine SL.w (op_store ty9 rfl rfl (by repeat constructor) rfl rfl rfl) ?_
  rintro _ _ _ ⟨rfl, rfl⟩
  refine SL.nil <| T.seq <| T.region <| SL.mv rfl <| SL.mv rfl <| SL.v (op_addN (q := 1) rfl rfl (by omega)) ?_
  refine SL.v (op_sliceHiN (l := 4) Tryz.underlying105 ty9 rfl rfl rfl (by decide)) ?_
  refine SL.as rfl <| SL.nil <| T.pub b31 (by repeat constructor) ?_
  intro X5 hX5 hB5 _
  refine T.ret1 rfl (ResIs.tmp rfl) ?_
  exact ⟨_, rfl, hB5⟩
theorem split_spec {X : PMap} : Spec Tryz.prog 39 [.string s12, .string ⟨#[10]⟩] X fun u X' => ∃ b, u = .slice (some ⟨b, 0, none⟩) 4 4 ∧ Blk X' b [.string w1, .string w2, .string w3, .string sO] := by
  refine Spec.enter Tryz.func39 rfl Tryz.ntmps39 rfl ?_
  intro w0 hw0
  refine T.seq <| T.region <| SL.as rfl <| SL.nil <| T.seq <| T.region <| SL.mv rfl <| SL.mv rfl <| SL.w (op_callF en71 (vs := [_, _, _, _]) rfl (genSplit_spec)) ?_
  rintro _ _ X1 ⟨rfl, hX1, b, rfl, hB⟩
  refine SL.as rfl <| SL.nil <| T.ret1 rfl (ResIs.tmp rfl) ?_
  exact ⟨b, rfl, hB⟩
end Go.Proofs.YtmfiencoefbjfaaGreatDoor
