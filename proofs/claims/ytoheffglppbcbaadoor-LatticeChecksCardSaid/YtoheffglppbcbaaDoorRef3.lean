/- THE REFERENCE's MATRICES: New, Make. -/
import Derived.Test.YtoheffglppbcbaaDoorRef2
namespace Go.Proofs.YtoheffglppbcbaaDoor
section
set_option maxRecDepth 100000
theorem bs123 : ∃ i z, Tryd.prog.info? 123 = some i ∧ i.size = 1 ∧ i.zero = some z ∧ z.cells = ([.slice none 0 0] : List Value).toArray := bs_of (by kernel_rfl)
theorem fa91_1 : FAdr Tryd.prog 91 1 1 := fadr_mk Tryd.underlying91 rfl rfl (by kernel_rfl)
theorem mk123 : ∃ i, Tryd.prog.info? 4 = some i ∧ i.size = 1 ∧ i.bytes = 1 ∧ i.zero = some (.bool false) := mk_of (by kernel_rfl)
theorem sl89 : SlT Tryd.prog 89 123 1 24 := ⟨Tryd.underlying89, sl_of (by kernel_rfl) (by decide)⟩
theorem z91 : Zero Tryd.prog 91 [.int .i64 0, .slice none 0 0] := ⟨zero_of (by kernel_rfl)⟩
theorem st91 : StT Tryd.prog 91 [(0, 1), (1, 1)] [.int .i64 0, .slice none 0 0] := ⟨⟨_, Tryd.underlying91, fun _ => by kernel_rfl, z91⟩⟩
theorem ty89 : Ty Tryd.prog 89 false 1 := ⟨⟨_, Tryd.underlying89, rfl⟩, by kernel_rfl⟩
theorem ty91 : Ty Tryd.prog 91 true 2 := ⟨⟨_, Tryd.underlying91, rfl⟩, by kernel_rfl⟩
end
open Go.RowKit
def boolsC (c m : Nat) : List Value := (List.range c).map fun j => .bool (m.testBit j)
def rowO (c : Nat) (bs rows : List Nat) : Own := (bs.zip rows).map fun p => ⟨p.1, boolsC c p.2, 4, c⟩
def outC (c : Nat) (bs : List Nat) : List Value := bs.map fun b => .slice (some ⟨b, 0, none⟩) c c
theorem boolsC_zero (c : Nat) : boolsC c 0 = List.replicate c (.bool false) := by simp [boolsC, List.map_const']
theorem rowO_snoc (c : Nat) (bs rows : List Nat) (b m : Nat) (h : bs.length = rows.length) : rowO c (bs ++ [b]) (rows ++ [m]) = rowO c bs rows ++ [⟨b, boolsC c m, 4, c⟩] := by
  simp [rowO, List.zip_append h]
theorem new44_spec {X : PMap} (r c : Nat) (hr : r < 64) (hc : c < 64) : SpecO Tryd.prog 81 [.int .i64 (r : Int), .int .i64 (c : Int)] X fun u own' X' => ∃ s G bs, u = .agg #[.int .i64 (c : Int), s] ∧ bs.length = r ∧ GrowS 123 1 s r (outC c bs) G ∧ own' = rowO c bs (List.replicate r 0) ++ G ∧ X = X' := by
  refine SpecO.enter Tryd.func81 rfl Tryd.ntmps81 rfl ?_
  intro w0 hw0
  refine T.seq ?_
  refine T.region ?_
  refine SL.x (op_alloc z91) rfl rfl ?_
  rintro _ _ _ ⟨B4, rfl, rfl, rfl⟩
  refine SL.nil ?_
  refine T.seq ?_
  refine T.region ?_
  refine SL.y (op_move rfl) rfl rfl ?_
  refine SL.y (op_build st91 (qs := [(0, _)]) rfl rfl) rfl rfl ?_
  refine SL.x (op_alloc z91) rfl rfl ?_
  rintro _ _ _ ⟨B5, rfl, rfl, rfl⟩
  refine SL.x (op_store ty91 rfl rfl (by repeat (first | exact AtO.here | apply AtO.there)) rfl rfl rfl) rfl rfl ?_
  rintro _ _ _ ⟨rfl, rfl⟩
  refine SL.nil ?_
  refine T.seq ?_
  refine T.seq ?_
  refine T.region ?_
  refine SL.y (op_assign (v := .int .i64 ((0 : Nat) : Int)) rfl) rfl rfl ?_
  refine SL.nil ?_
  refine T.block ?_
  -- loop live [0, 1, 4, 5, 6]
  refine T.loopW (fun m env own X' => ∃ (bs : List Nat) (s : Value) (G : Own), m = r - bs.length ∧ bs.length ≤ r ∧ X = X' ∧ GrowS 123 1 s bs.length (outC c bs) G ∧ env = [(0, .int .i64 (r : Int)), (1, .int .i64 (c : Int)), (4, .pointer (some ⟨B4, 0, none⟩)), (5, .pointer (some ⟨B5, 0, none⟩)), (6, .int .i64 (bs.length : Int))] ∧ own = ⟨B5, [.int .i64 (c : Int), s], 91, 2⟩ :: ⟨B4, [.int .i64 0, .slice none 0 0], 91, 2⟩ :: (rowO c bs (List.replicate bs.length 0) ++ G)) r ⟨[], _, [], by simp, by simp, rfl, GrowS.nil, rfl, rfl⟩ (by repeat (first | exact Sub.nil | refine Sub.cons rfl ?_)) ?_
  rintro m _ _ _ ⟨bs, s, G, rfl, hb, rfl, hG, rfl, rfl⟩
  obtain ⟨As, cps, rfl⟩ := hG.form
  rcases Nat.lt_or_ge bs.length r with hlt | hge
  · skip
    refine T.seq ?_
    refine T.seq ?_
    refine T.region ?_
    refine SL.y (op_move rfl) rfl rfl ?_
    refine SL.y (op_move rfl) rfl rfl ?_
    first | refine SL.y (op_lssT rfl rfl (by omega)) rfl rfl ?_ | refine SL.y (op_lssF rfl rfl (by omega)) rfl rfl ?_ | refine SL.y (op_lss rfl rfl) rfl rfl ?_
    refine SL.nil ?_
    refine T.condT rfl ?_
    refine T.skip ?_
    refine T.seq ?_
    refine T.block ?_
    refine T.draw (by kernel_rfl) 5 [.t 0, .t 1, .t 2, .r 3, .r 4] (by kernel_rfl) ?_
    refine SD.take rfl panicBody (op_fieldAddr fa91_1 rfl) rfl rfl ?_
    first | refine SD.take rfl panicBody (op_load ty89 rfl (by repeat (first | exact AtO.here | apply AtO.there)) rfl) rfl rfl ?_ | refine SD.take rfl panicBody (op_loadX ty89 rfl (by assumption) rfl) rfl rfl ?_
    refine SD.take rfl panicBody (op_move rfl) rfl rfl ?_
    refine SD.run rfl (op_make Tryd.underlying123 mk123 rfl rfl rfl (Nat.le_refl _) (by omega) (by omega)) rfl rfl ?_
    rintro _ _ _ ⟨B17, rfl, rfl, rfl⟩
    refine SD.run rfl (op_buildSlice Tryd.underlying89 bs123 (qs := [(0, _)]) rfl rfl rfl rfl rfl) rfl rfl ?_
    rintro _ _ _ ⟨B18, rfl, rfl, rfl⟩
    refine SD.nil ?_
    show SL _ _ _ _ _ _ _ [_, _, _] _ _ _
    -- op
    refine SL.x (op_appendG (own0 := [_, _, _] ++ rowO c bs (List.replicate bs.length 0)) sl89 rfl hG rfl rfl rfl (by (have : maxLen = 9223372036854775807 := rfl); omega) (by omega)) rfl rfl ?_
    rintro s' _ _ ⟨G', rfl, rfl, hG'⟩
    obtain ⟨As', cps', rfl⟩ := hG'.form
    refine SL.y (op_fieldAddr fa91_1 rfl) rfl rfl ?_
    refine SL.x (op_store ty89 rfl rfl (by repeat (first | exact AtO.here | apply AtO.there)) rfl rfl rfl) rfl rfl ?_
    rintro _ _ _ ⟨rfl, rfl⟩
    refine SL.nil ?_
    refine T.blk ?_
    refine T.region ?_
    refine SL.y (op_move rfl) rfl rfl ?_
    first | refine SL.y (op_addN (q := 1) rfl rfl (by omega)) rfl rfl ?_ | refine SL.y (op_add rfl rfl (by omega) (by omega)) rfl rfl ?_ | refine SL.y (op_addW rfl rfl) rfl rfl ?_
    refine SL.y (op_assign rfl) rfl rfl ?_
    refine SL.nil ?_
    -- cut
    refine T.perm perm3 ?_
    exact T.backW (r - (bs ++ [B17]).length) (by simp; omega) ⟨bs ++ [B17], _, G', rfl, by simp; omega, rfl, by simpa [outC, csets, vcells] using hG', by rw [List.length_append], by rw [List.length_append, List.length_singleton, List.replicate_succ', rowO_snoc _ _ _ _ _ (by simp), boolsC_zero]; rfl⟩ (by repeat (first | exact Sub.nil | refine Sub.cons rfl ?_))
  · obtain rfl : bs.length = r := by omega
    refine T.seq ?_
    refine T.seq ?_
    refine T.region ?_
    refine SL.y (op_move rfl) rfl rfl ?_
    refine SL.y (op_move rfl) rfl rfl ?_
    first | refine SL.y (op_lssT rfl rfl (by omega)) rfl rfl ?_ | refine SL.y (op_lssF rfl rfl (by omega)) rfl rfl ?_ | refine SL.y (op_lss rfl rfl) rfl rfl ?_
    refine SL.nil ?_
    refine T.condF rfl ?_
    refine T.exit (T.exitCode (T.exitCut (T.exitBlk ?_)))
    refine T.seq ?_
    refine T.region ?_
    first | refine SL.y (op_load ty91 rfl (by repeat (first | exact AtO.here | apply AtO.there)) rfl) rfl rfl ?_ | refine SL.y (op_loadX ty91 rfl (by assumption) rfl) rfl rfl ?_
    refine SL.x (op_store ty91 rfl rfl (by repeat (first | exact AtO.here | apply AtO.there)) rfl rfl rfl) rfl rfl ?_
    rintro _ _ _ ⟨rfl, rfl⟩
    refine SL.nil ?_
    -- ret
    refine T.retOS1 (own' := rowO c bs (List.replicate bs.length 0) ++ G) rfl (ResIs.cell rfl ty91 (by repeat (first | exact AtO.here | apply AtO.there)) rfl) (by exact .cons _ (.cons _ (.refl _))) ?_
    exact ⟨_, G, bs, rfl, rfl, hG, rfl, rfl⟩
end Go.Proofs.YtoheffglppbcbaaDoor
