/- What the law's proof rests on: the engine, a small separation logic over the kit's walk, and contracts of the functions that the law reaches. Part 3. -/
import Derived.Laws.IdiomStrings
import Derived.Test.YtnpcilglilfajaaGreatDoorPart1
import Derived.Test.YtnpcilglilfajaaGreatDoorPart2
namespace Go.Proofs.YtnpcilglilfajaaGreatDoor
section
set_option maxRecDepth 100000
theorem en119 : Enters Tryz.prog 119 := enters_mk Tryz.func119 (by kernel_rfl) rfl
theorem en120 : Enters Tryz.prog 120 := enters_mk Tryz.func120 (by kernel_rfl) rfl
theorem en161 : Enters Tryz.prog 161 := enters_mk Tryz.func161 (by kernel_rfl) rfl
theorem en162 : Enters Tryz.prog 162 := enters_mk Tryz.func162 (by kernel_rfl) rfl
theorem fa166_0 : FAdr Tryz.prog 166 0 0 := fadr_mk Tryz.underlying166 rfl rfl (by kernel_rfl)
theorem fa166_1 : FAdr Tryz.prog 166 1 1 := fadr_mk Tryz.underlying166 rfl rfl (by kernel_rfl)
theorem z166 : Zero Tryz.prog 166 [.slice none 0 0, .map none] := ⟨zero_of (by kernel_rfl)⟩
theorem st166 : StT Tryz.prog 166 [(0, 1), (1, 1)] [.slice none 0 0, .map none] := ⟨⟨_, Tryz.underlying166, fun _ => by kernel_rfl, z166⟩⟩
theorem ty164 : Ty Tryz.prog 164 false 1 := ⟨⟨_, Tryz.underlying164, rfl⟩, by kernel_rfl⟩
end
open Go.RowKit
theorem MapAt.mono {X X' : PMap} {ns : List ByteArray} {om : Option Nat} (h : MapAt X ns om) (hX : X.le X') : MapAt X' ns om := by
  cases om with
  | none => exact h
  | some b => exact hX _ _ h
/-- A table of these names. -/
def TabR (X : PMap) (v : Value) (ns : List ByteArray) : Prop := ∃ (b : Nat) (vs : Value) (om : Option Nat), v = .pointer (some ⟨b, 0, none⟩) ∧ Blk X b [vs, .map om] ∧ RowR strC X vs ns ∧ MapAt X ns om
theorem TabR.mono {X X' : PMap} {v : Value} {ns : List ByteArray} (h : TabR X v ns) (hX : X.le X') : TabR X' v ns :=
  let ⟨b, vs, om, h1, h2, h3, h4⟩ := h
  ⟨b, vs, om, h1, h2.mono hX, h3.mono hX, h4.mono hX⟩
theorem new_spec {X : PMap} : Spec Tryz.prog 119 [] X fun u X' => TabR X' u [] := by
  refine Spec.enter Tryz.func119 rfl Tryz.ntmps119 rfl ?_
  intro w0 hw0
  refine T.seq <| T.region <| SL.as rfl <| SL.nil <| T.seq <| T.region <| SL.v (op_build st166 (qs := []) rfl rfl) <| SL.w (op_box rfl) ?_
  rintro _ _ _ ⟨B2, rfl, rfl, rfl⟩
  refine SL.as rfl <| SL.nil <| T.pub B2 (by repeat constructor) ?_
  intro X1 hX1 hB1 _
  refine T.ret1 rfl (ResIs.tmp rfl) ?_
  exact ⟨B2, _, none, rfl, hB1, .inl ⟨rfl, _, _, rfl⟩, rfl⟩
theorem mclone_spec {X : PMap} {ns : List ByteArray} {om : Option Nat} (h : MapAt X ns om) : Spec Tryz.prog 162 [.map om] X fun u X' => (om = none ∧ u = .map none) ∨ ∃ b, u = .map (some b) ∧ X b = none ∧ X' b = some (MapObj ns) := by
  cases om with
  | none =>
    refine Spec.enter Tryz.func162 rfl Tryz.ntmps162 rfl ?_
    intro w0 hw0
    refine T.seq <| T.region <| SL.as rfl <| SL.nil <| T.seq <| T.seq <| T.region <| SL.mv rfl <| SL.v (op_eqlMapNil Tryz.underlying164 rfl rfl) <| SL.nil <| T.condT rfl <| T.seq <| T.region <| SL.as rfl <| SL.nil ?_
    refine T.ret1 rfl (ResIs.tmp rfl) ?_
    exact .inl ⟨rfl, rfl⟩
  | some b0 =>
    refine Spec.enter Tryz.func162 rfl Tryz.ntmps162 rfl ?_
    intro w0 hw0
    refine T.seq <| T.region <| SL.as rfl <| SL.nil <| T.seq <| T.seq <| T.region <| SL.mv rfl <| SL.v (op_eqlMapNil Tryz.underlying164 rfl rfl) <| SL.nil <| T.condF rfl <| T.skip <| T.seq <| T.region <| SL.mv rfl ?_
    refine SL.v (op_makeIface Tryz.underlying164 (fun _ h => by cases h) rfl) ?_
    refine SL.w (op_cloneMap Tryz.func192 (by kernel_rfl) (by kernel_rfl) (by kernel_rfl) (by kernel_rfl) rfl h) ?_
    rintro _ _ _ ⟨b, rfl, rfl, hb0, hb1, rfl⟩
    refine SL.v (op_assertMap Tryz.underlying164 rfl) <| SL.as rfl <| SL.nil <| T.ret1 rfl (ResIs.tmp rfl) ?_
    exact .inr ⟨b, rfl, hb0, PMap.add_at⟩
theorem sclone_spec {X : PMap} {v : Value} {l : List ByteArray} (h : RowR strC X v l) (hl : l.length < 100000) : SpecO Tryz.prog 161 [v] X fun u own1 _ => GrowS 9 1 u l.length (strsC l) own1 := by
  obtain ⟨A, cp, rfl⟩ := h.form
  rcases A with _ | ad
  · have hn : l = [] := by
      rcases h with ⟨h1, _⟩ | ⟨_, b, c, pre, hv, _⟩
      · exact h1
      · cases hv
    subst hn
    refine SpecO.enter Tryz.func161 rfl Tryz.ntmps161 rfl ?_
    intro w0 hw0
    refine T.seq <| T.region <| SL.as rfl <| SL.nil <| T.seq <| T.seq <| T.region <| SL.mv rfl <| SL.v (op_eqlSNil Tryz.underlying59 rfl rfl) <| SL.nil <| T.condT rfl <| T.seq <| T.region <| SL.as rfl <| SL.nil ?_
    refine T.retO1 rfl (ResIs.tmp rfl) ?_
    exact .inl ⟨rfl, rfl, rfl, rfl⟩
  · refine SpecO.enter Tryz.func161 rfl Tryz.ntmps161 rfl ?_
    intro w0 hw0
    refine T.seq <| T.region <| SL.as rfl <| SL.nil <| T.seq <| T.seq <| T.region <| SL.mv rfl <| SL.v (op_eqlSNil Tryz.underlying59 rfl rfl) <| SL.nil <| T.condF rfl <| T.skip <| T.seq <| T.region <| SL.w (op_buildSlice Tryz.underlying59 bs9 (qs := []) rfl rfl rfl rfl rfl) ?_
    rintro _ _ _ ⟨B5, rfl, rfl, rfl⟩
    refine SL.mv rfl <| SL.w (op_append (m := l.length) (news := strsC l) sl59 rfl rfl (by repeat constructor) rfl rfl (Nat.le_refl _) (by decide) (by rw [← strsC_flat]; exact Src.ofRow strC_len h) (strsC_one l) (by (have : maxLen = 9223372036854775807 := rfl); omega) (by omega)) ?_
    rintro _ _ _ ⟨b7, cap7, rfl, rfl, rfl, hc7, hm7⟩
    refine SL.as rfl <| SL.nil <| T.retO1 rfl (ResIs.tmp rfl) ?_
    exact .inr ⟨b7, cap7, by rw [Nat.zero_add], rfl, by omega, hm7, by rw [Nat.mul_one]; exact strsC_len l⟩
/-- What is wrong with one more name. -/
noncomputable def errA (ns : List ByteArray) (s : ByteArray) (n : Nat) : Int := if ¬validS s then 9 else if s ∈ ns then 5 else if n ≤ ns.length ∨ 256 ≤ ns.length then 14 else 0
theorem add_spec {X : PMap} {v : Value} {ns : List ByteArray} {s : ByteArray} {n : Nat} (h : TabR X v ns) (hl : ns.length ≤ 256) : Spec Tryz.prog 120 [v, .string s, .int .i64 (n : Int)] X fun u X' => if errA ns s n = 0 then ∃ v', u = .tuple #[v', .int .i64 ((ns ++ [s]).length : Int), .int .i64 0] ∧ TabR X' v' (ns ++ [s]) else u = .tuple #[.pointer none, .int .i64 0, .int .i64 (errA ns s n)] := by
  obtain ⟨b, vs, om, rfl, hB, hR, hM⟩ := h
  obtain ⟨A, cp, rfl⟩ := hR.form
  refine Spec.enter Tryz.func120 rfl Tryz.ntmps120 rfl ?_
  intro w0 hw0
  refine T.seq <| T.region <| SL.as rfl <| SL.v (op_assign (v := .int .i64 ((0 : Nat) : Int)) rfl) <| SL.v (op_assign (v := .int .i64 ((0 : Nat) : Int)) rfl) <| SL.nil <| T.seq <| T.block <| T.seq <| T.region <| SL.mv rfl <| SL.v (op_eqlNil Tryz.underlying64 rfl rfl) <| SL.as rfl <| SL.nil <| T.condF rfl ?_
  refine T.seq <| T.region <| SL.mv rfl <| SL.w (op_callF en94 (vs := [_]) rfl (nvalid_spec)) ?_
  rintro _ _ X1 ⟨rfl, hX1, rfl⟩
  have hB := hB.mono hX1
  by_cases hv : validS s
  case neg =>
    have he : errA ns s n = 9 := by rw [errA, if_pos hv]
    rw [decide_eq_false hv]
    refine SL.v (op_not rfl) <| SL.as rfl <| SL.nil <| T.condT rfl <| T.seq <| T.region <| SL.as rfl <| SL.v (op_assign (v := .int .i64 ((0 : Nat) : Int)) rfl) <| SL.v (op_assign (v := .int .i64 ((9 : Nat) : Int)) rfl) <| SL.nil <| T.ret3 rfl rfl rfl rfl ?_
    rw [he, if_neg (by decide)]
    rfl
  rw [decide_eq_true hv]
  refine SL.v (op_not rfl) <| SL.as rfl <| SL.nil <| T.condF rfl <| T.seq <| T.region <| SL.mv rfl <| SL.v (op_nil rfl) <| SL.v (op_fieldAddr fa166_1 rfl) <| SL.v (op_loadX ty164 rfl (by assumption) rfl) ?_
  refine SL.mv rfl <| SL.v (op_lookupN (s := s) Tryz.underlying164 Tryz.underlying9 (by kernel_rfl) rfl rfl (hM.mono hX1)) ?_
  by_cases hm : s ∈ ns
  case pos =>
    have he : errA ns s n = 5 := by rw [errA, if_neg (by simpa using hv), if_pos hm]
    have hp := posN_pos.2 hm
    refine SL.v (op_gtrT rfl rfl (by omega)) ?_
    refine SL.as rfl <| SL.nil <| T.condT rfl <| T.seq <| T.region <| SL.as rfl <| SL.v (op_assign (v := .int .i64 ((0 : Nat) : Int)) rfl) <| SL.v (op_assign (v := .int .i64 ((5 : Nat) : Int)) rfl) <| SL.nil <| T.ret3 rfl rfl rfl rfl ?_
    rw [he, if_neg (by decide)]
    rfl
  have hp : posN s ns = 0 := Nat.eq_zero_of_not_pos fun h => hm (posN_pos.1 h)
  rw [hp]
  by_cases h1 : n ≤ ns.length
  · have he : errA ns s n = 14 := by rw [errA, if_neg (by simpa using hv), if_neg hm, if_pos (.inl h1)]
    refine SL.v (op_gtrF rfl rfl (by omega)) ?_
    refine SL.as rfl <| SL.nil <| T.condF rfl <| T.seq <| T.region <| SL.mv rfl <| SL.v (op_nil rfl) <| SL.v (op_fieldAddr fa166_0 rfl) <| SL.v (op_loadX ty59 rfl (by assumption) rfl) ?_
    refine SL.v (op_lenS Tryz.underlying59 rfl) <| SL.mv rfl <| SL.v (op_geqT rfl rfl (by omega)) ?_
    refine SL.mv rfl <| SL.skip rfl rfl ?_
    refine SL.skip rfl rfl ?_
    refine SL.skip rfl rfl ?_
    refine SL.skip rfl rfl ?_
    refine SL.skip rfl rfl ?_
    refine SL.skip rfl rfl ?_
    refine SL.v (op_pickT rfl rfl) <| SL.as rfl <| SL.nil <| T.condT rfl <| T.seq <| T.region <| SL.as rfl <| SL.v (op_assign (v := .int .i64 ((0 : Nat) : Int)) rfl) <| SL.v (op_assign (v := .int .i64 ((14 : Nat) : Int)) rfl) <| SL.nil <| T.ret3 rfl rfl rfl rfl ?_
    rw [he, if_neg (by decide)]
    rfl
  by_cases h2 : 256 ≤ ns.length
  · have he : errA ns s n = 14 := by rw [errA, if_neg (by simpa using hv), if_neg hm, if_pos (.inr h2)]
    refine SL.v (op_gtrF rfl rfl (by omega)) ?_
    refine SL.as rfl <| SL.nil <| T.condF rfl <| T.seq <| T.region <| SL.mv rfl <| SL.v (op_nil rfl) <| SL.v (op_fieldAddr fa166_0 rfl) <| SL.v (op_loadX ty59 rfl (by assumption) rfl) ?_
    refine SL.v (op_lenS Tryz.underlying59 rfl) <| SL.mv rfl <| SL.v (op_geqF rfl rfl (by omega)) ?_
    refine SL.mv rfl <| SL.mv rfl <| SL.v (op_nil rfl) <| SL.v (op_fieldAddr fa166_0 rfl) <| SL.v (op_loadX ty59 rfl (by assumption) rfl) ?_
    refine SL.v (op_lenS Tryz.underlying59 rfl) <| SL.v (op_geqT rfl rfl (by omega)) ?_
    refine SL.v (op_pickF rfl rfl) <| SL.as rfl <| SL.nil <| T.condT rfl <| T.seq <| T.region <| SL.as rfl <| SL.v (op_assign (v := .int .i64 ((0 : Nat) : Int)) rfl) <| SL.v (op_assign (v := .int .i64 ((14 : Nat) : Int)) rfl) <| SL.nil <| T.ret3 rfl rfl rfl rfl ?_
    rw [he, if_neg (by decide)]
    rfl
  have he : errA ns s n = 0 := by rw [errA, if_neg (by simpa using hv), if_neg hm, if_neg (by omega)]
  rw [he]
  refine SL.v (op_gtrF rfl rfl (by omega)) ?_
  refine SL.as rfl <| SL.nil <| T.condF rfl <| T.seq <| T.region <| SL.mv rfl <| SL.v (op_nil rfl) <| SL.v (op_fieldAddr fa166_0 rfl) <| SL.v (op_loadX ty59 rfl (by assumption) rfl) ?_
  refine SL.v (op_lenS Tryz.underlying59 rfl) <| SL.mv rfl <| SL.v (op_geqF rfl rfl (by omega)) ?_
  refine SL.mv rfl <| SL.mv rfl <| SL.v (op_nil rfl) <| SL.v (op_fieldAddr fa166_0 rfl) <| SL.v (op_loadX ty59 rfl (by assumption) rfl) ?_
  refine SL.v (op_lenS Tryz.underlying59 rfl) <| SL.v (op_geqF rfl rfl (by omega)) ?_
  refine SL.v (op_pickF rfl rfl) <| SL.as rfl <| SL.nil <| T.condF rfl <| T.skip <| T.blk <| T.seq <| T.draw (by kernel_rfl) 12 [.t 0, .t 1, .t 2, .t 3, .t 5, .t 8, .t 9, .t 10, .t 11, .f 4 6, .r 7] (by kernel_rfl) ?_
  refine SD.take rfl panicBody (op_move rfl) rfl rfl ?_
  refine SD.take rfl panicBody (op_nil rfl) rfl rfl ?_
  refine SD.take rfl panicBody (op_fieldAddr fa166_0 rfl) rfl rfl ?_
  refine SD.take rfl panicBody (op_loadX ty59 rfl (by assumption) rfl) rfl rfl ?_
  refine SD.take rfl panicBody (op_move rfl) rfl rfl ?_
  refine SD.take rfl panicBody (op_move rfl) rfl rfl ?_
  refine SD.take rfl panicBody (op_nil rfl) rfl rfl ?_
  refine SD.take rfl panicBody (op_fieldAddr fa166_1 rfl) rfl rfl ?_
  refine SD.take rfl panicBody (op_loadX ty164 rfl (by assumption) rfl) rfl rfl ?_
  have hR := hR.mono hX1
  have hM := hM.mono hX1
  refine SD.fork rfl rfl (K := (fun v1 v2 own' X' => ∃ (G : Own) (bb : Nat), v2 = .slice (some ⟨bb, 0, none⟩) 1 1 ∧ own' = ⟨bb, [.string s], 9, 1⟩ :: ([] ++ G) ∧ GrowS 9 1 v1 ns.length (strsC ns) G ∧ X1.le X')) ((op_callO (vs := [_]) en161 rfl (sclone_spec hR (by omega))).mono (by rintro v own' X' ⟨G, rfl, hX2, hG⟩; exact (op_buildSlice Tryz.underlying59 bs9 (qs := [(0, _)]) rfl rfl rfl rfl rfl).mono (by rintro v2 own2 X2 ⟨bb, rfl, rfl, rfl⟩; exact ⟨G, bb, rfl, by rw [List.append_nil]; rfl, hG, hX2⟩))) ((op_buildSlice Tryz.underlying59 bs9 (qs := [(0, _)]) rfl rfl rfl rfl rfl).mono (by rintro v2 own2 X2 ⟨bb, rfl, rfl, rfl⟩; exact (op_callO (vs := [_]) en161 rfl (sclone_spec hR (by omega))).mono (by rintro v own' X' ⟨G, rfl, hX2, hG⟩; exact ⟨_, List.perm_append_singleton _ _, G, bb, rfl, rfl, hG, hX2⟩))) rfl (fun _ => rfl) rfl (fun _ => rfl) rfl rfl rfl ?_
  rintro v1 _ _ X2 ⟨G, bb, rfl, rfl, hG, hX2⟩
  refine SD.runK rfl (op_appendG (own0 := []) sl59 rfl hG rfl rfl rfl (by (have : maxLen = 9223372036854775807 := rfl); omega) (by omega)) (by rintro _ _ _ ⟨G2, rfl, rfl, hG2⟩; exact ⟨fun p hp => (by cases hp), hX2⟩) rfl rfl ?_
  rintro v3 G2 _ ⟨_, rfl, rfl, hG2⟩
  refine SD.nil ?_
  show SL _ _ _ _ _ _ _ [_, _, _, _] _ _ _
  have hG2 : GrowS 9 1 v3 (ns ++ [s]).length (strsC (ns ++ [s])) G2 := by rw [List.length_append, strsC_app]; exact hG2
  obtain ⟨A3, c3, rfl⟩ := hG2.form
  refine SL.w (op_callN (vs := [_]) en162 rfl (mclone_spec (hM.mono hX2))) ?_
  rintro v4 _ X3 ⟨rfl, hX3, hnew, hcl⟩
  rcases hcl with ⟨rfl, rfl⟩ | ⟨bm, rfl, hb0, hb1⟩
  · have hns : ns = [] := hM
    subst hns
    refine SL.v (op_build st166 (qs := [(0, _), (1, _)]) rfl rfl) <| SL.w (op_box rfl) ?_
    rintro _ _ _ ⟨B55, rfl, rfl, rfl⟩
    refine SL.as rfl <| SL.nil <| T.seq <| T.seq <| T.region <| SL.mv rfl <| SL.v (op_nil rfl) <| SL.v (op_fieldAddr fa166_1 rfl) <| SL.v (op_load ty164 rfl (by repeat constructor) rfl) ?_
    refine SL.v (op_eqlMapNil Tryz.underlying164 rfl rfl) <| SL.nil <| T.condT rfl <| T.region <| SL.mv rfl <| SL.x op_makeMap rfl rfl ?_
    rintro _ _ _ ⟨bm, rfl, rfl, hb0, hb1, rfl⟩
    refine SL.v (op_nil rfl) <| SL.v (op_fieldAddr fa166_1 rfl) <| SL.w (op_store ty164 rfl rfl (by repeat constructor) rfl rfl rfl) ?_
    rintro _ _ _ ⟨rfl, rfl⟩
    refine SL.nil <| T.seq <| T.draw (by kernel_rfl) 10 [.t 0, .t 1, .t 2, .t 3, .t 4, .t 5, .t 6, .t 7, .t 8, .t 9] (by kernel_rfl) ?_
    refine SD.take rfl panicBody (op_move rfl) rfl rfl ?_
    refine SD.take rfl panicBody (op_nil rfl) rfl rfl ?_
    refine SD.take rfl panicBody (op_fieldAddr fa166_1 rfl) rfl rfl ?_
    refine SD.take rfl panicBody (op_load ty164 rfl (by repeat constructor) rfl) rfl rfl ?_
    refine SD.take rfl panicBody (op_move rfl) rfl rfl ?_
    refine SD.take rfl panicBody (op_move rfl) rfl rfl ?_
    refine SD.take rfl panicBody (op_nil rfl) rfl rfl ?_
    refine SD.take rfl panicBody (op_fieldAddr fa166_0 rfl) rfl rfl ?_
    refine SD.take rfl panicBody (op_load ty59 rfl (by repeat constructor) rfl) rfl rfl ?_
    refine SD.take rfl panicBody (op_lenS Tryz.underlying59 rfl) rfl rfl ?_
    refine SD.nil ?_
    show SL _ _ _ _ _ _ _ [_] _ _ _
    refine SL.w (op_putN (ns := []) (s := s) Tryz.underlying164 Tryz.underlying9 rfl rfl rfl PMap.add_at hb1 hm) ?_
    rintro _ _ _ ⟨rfl, rfl⟩
    refine SL.nil <| T.seq <| T.draw (by kernel_rfl) 9 [.t 0, .t 1, .t 2, .t 3, .t 4, .t 5, .t 6, .t 7, .t 8] (by kernel_rfl) ?_
    refine SD.take rfl panicBody (op_move rfl) rfl rfl ?_
    refine SD.take rfl panicBody (op_move rfl) rfl rfl ?_
    refine SD.take rfl panicBody (op_nil rfl) rfl rfl ?_
    refine SD.take rfl panicBody (op_fieldAddr fa166_0 rfl) rfl rfl ?_
    refine SD.take rfl panicBody (op_load ty59 rfl (by repeat constructor) rfl) rfl rfl ?_
    refine SD.take rfl panicBody (op_lenS Tryz.underlying59 rfl) rfl rfl ?_
    refine SD.take rfl panicBody (op_assign rfl) rfl rfl ?_
    refine SD.take rfl panicBody (op_assign rfl) rfl rfl ?_
    refine SD.take rfl panicBody (op_assign (v := .int .i64 ((0 : Nat) : Int)) rfl) rfl rfl ?_
    refine SD.nil ?_
    show SL _ _ _ _ _ _ _ [] _ _ _
    refine SL.nil <| T.pub B55 (by repeat constructor) ?_
    intro X8 hX8 hB55 _
    refine T.pubG (own0 := []) hG2 ?_
    intro X9 hX9 hS9
    refine T.ret3 rfl rfl rfl rfl ?_
    exact ⟨_, rfl, B55, _, some bm, rfl, hB55.mono hX9, RowR.ofG (rc := strC) (by rw [strsC_flat]; exact hG2) (by rw [strsC_flat]; exact hS9), hX9 _ _ (hX8 _ _ PMap.add_at)⟩
  · refine SL.v (op_build st166 (qs := [(0, _), (1, _)]) rfl rfl) <| SL.w (op_box rfl) ?_
    rintro _ _ _ ⟨B55, rfl, rfl, rfl⟩
    refine SL.as rfl <| SL.nil <| T.seq <| T.seq <| T.region <| SL.mv rfl <| SL.v (op_nil rfl) <| SL.v (op_fieldAddr fa166_1 rfl) <| SL.v (op_load ty164 rfl (by repeat constructor) rfl) ?_
    refine SL.v (op_eqlMapNil Tryz.underlying164 rfl rfl) <| SL.nil <| T.condF rfl <| T.skip <| T.seq <| T.draw (by kernel_rfl) 10 [.t 0, .t 1, .t 2, .t 3, .t 4, .t 5, .t 6, .t 7, .t 8, .t 9] (by kernel_rfl) ?_
    refine SD.take rfl panicBody (op_move rfl) rfl rfl ?_
    refine SD.take rfl panicBody (op_nil rfl) rfl rfl ?_
    refine SD.take rfl panicBody (op_fieldAddr fa166_1 rfl) rfl rfl ?_
    refine SD.take rfl panicBody (op_load ty164 rfl (by repeat constructor) rfl) rfl rfl ?_
    refine SD.take rfl panicBody (op_move rfl) rfl rfl ?_
    refine SD.take rfl panicBody (op_move rfl) rfl rfl ?_
    refine SD.take rfl panicBody (op_nil rfl) rfl rfl ?_
    refine SD.take rfl panicBody (op_fieldAddr fa166_0 rfl) rfl rfl ?_
    refine SD.take rfl panicBody (op_load ty59 rfl (by repeat constructor) rfl) rfl rfl ?_
    refine SD.take rfl panicBody (op_lenS Tryz.underlying59 rfl) rfl rfl ?_
    refine SD.nil ?_
    show SL _ _ _ _ _ _ _ [_] _ _ _
    refine SL.w (op_putN (ns := ns) (s := s) Tryz.underlying164 Tryz.underlying9 rfl rfl rfl hb1 (hnew bm hb0 (by rw [hb1]; simp)) hm) ?_
    rintro _ _ _ ⟨rfl, rfl⟩
    refine SL.nil <| T.seq <| T.draw (by kernel_rfl) 9 [.t 0, .t 1, .t 2, .t 3, .t 4, .t 5, .t 6, .t 7, .t 8] (by kernel_rfl) ?_
    refine SD.take rfl panicBody (op_move rfl) rfl rfl ?_
    refine SD.take rfl panicBody (op_move rfl) rfl rfl ?_
    refine SD.take rfl panicBody (op_nil rfl) rfl rfl ?_
    refine SD.take rfl panicBody (op_fieldAddr fa166_0 rfl) rfl rfl ?_
    refine SD.take rfl panicBody (op_load ty59 rfl (by repeat constructor) rfl) rfl rfl ?_
    refine SD.take rfl panicBody (op_lenS Tryz.underlying59 rfl) rfl rfl ?_
    refine SD.take rfl panicBody (op_assign rfl) rfl rfl ?_
    refine SD.take rfl panicBody (op_assign rfl) rfl rfl ?_
    refine SD.take rfl panicBody (op_assign (v := .int .i64 ((0 : Nat) : Int)) rfl) rfl rfl ?_
    refine SD.nil ?_
    show SL _ _ _ _ _ _ _ [] _ _ _
    refine SL.nil <| T.pub B55 (by repeat constructor) ?_
    intro X8 hX8 hB55 _
    refine T.pubG (own0 := []) hG2 ?_
    intro X9 hX9 hS9
    refine T.ret3 rfl rfl rfl rfl ?_
    exact ⟨_, rfl, B55, _, some bm, rfl, hB55.mono hX9, RowR.ofG (rc := strC) (by rw [strsC_flat]; exact hG2) (by rw [strsC_flat]; exact hS9), hX9 _ _ (hX8 _ _ PMap.add_at)⟩
/-- What is wrong with the first of these names with which something is wrong. -/
noncomputable def errOf (n : Nat) (pre : List ByteArray) : List ByteArray → Int
  | [] => 0
  | s :: l => if errA pre s n ≠ 0 then errA pre s n else errOf n (pre ++ [s]) l
theorem errOf_app (n : Nat) (b : List ByteArray) : ∀ (a pre : List ByteArray), errOf n pre (a ++ b) = if errOf n pre a ≠ 0 then errOf n pre a else errOf n (pre ++ a) b
  | [], pre => by simp [errOf]
  | s :: a, pre => by
    rw [List.cons_append, errOf, errOf, errOf_app n b a (pre ++ [s])]
    by_cases h : errA pre s n ≠ 0
    · rw [if_pos h, if_pos h, if_pos h]
    · rw [if_neg h, if_neg h, List.append_assoc]; rfl
theorem errA_zero {ns : List ByteArray} {s : ByteArray} {n : Nat} (h : errA ns s n = 0) : validS s ∧ s ∉ ns ∧ ns.length < n ∧ ns.length < 256 := by
  unfold errA at h
  split at h
  · cases h
  · rename_i h1
    split at h
    · cases h
    · rename_i h2
      split at h
      · cases h
      · rename_i h3
        exact ⟨by simpa using h1, h2, by omega, by omega⟩
theorem errOf_len {n : Nat} : ∀ {a pre : List ByteArray}, errOf n pre a = 0 → pre.length ≤ 256 → (pre ++ a).length ≤ 256
  | [], pre, _, h => by simpa using h
  | s :: a, pre, h, hp => by
    rw [errOf] at h
    by_cases h1 : errA pre s n ≠ 0
    · rw [if_pos h1] at h; exact absurd h h1
    · rw [if_neg h1] at h
      have h2 := errA_zero (Decidable.not_not.1 h1)
      have := errOf_len h (by rw [List.length_append]; simp; omega)
      simp only [List.length_append, List.length_cons, List.length_nil] at this ⊢; omega
/-- Names that are all well. -/
theorem errOf_ok {n : Nat} : ∀ {a pre : List ByteArray}, (∀ s ∈ a, validS s) → (pre ++ a).Nodup → (pre ++ a).length ≤ n → n ≤ 256 → errOf n pre a = 0
  | [], _, _, _, _, _ => rfl
  | s :: a, pre, hv, hd, hl, hn => by
    have h1 : errA pre s n = 0 := by
      rw [errA, if_neg (by simpa using hv s (by simp)), if_neg, if_neg]
      · simp only [List.length_append, List.length_cons] at hl; omega
      · intro hm
        rw [List.nodup_append] at hd
        exact hd.2.2 s hm s (by simp) rfl
    rw [errOf, if_neg (by simpa using h1)]
    have e : pre ++ [s] ++ a = pre ++ s :: a := by simp
    exact errOf_ok (fun t ht => hv t (by simp [ht])) (e ▸ hd) (e ▸ hl) hn
theorem of_tab_spec {X : PMap} {v : Value} {l : List ByteArray} {n : Nat} (h : RowR strC X v l) (hl : l.length < 1000000) : Spec Tryz.prog 72 [v, .int .i64 (n : Int)] X fun u X' => if errOf n [] l = 0 then ∃ v', u = .tuple #[v', .int .i64 0] ∧ TabR X' v' l else u = .tuple #[.pointer none, .int .i64 (errOf n [] l)] := by
  obtain ⟨A, cp, rfl⟩ := h.form
  refine Spec.enter Tryz.func72 rfl Tryz.ntmps72 rfl ?_
  intro w0 hw0
  refine T.seq <| T.region <| SL.as rfl <| SL.v (op_assign (v := .int .i64 ((0 : Nat) : Int)) rfl) <| SL.nil <| T.seq <| T.region <| SL.w (op_callF en119 (vs := []) rfl (new_spec)) ?_
  rintro vt _ X1 ⟨rfl, hX1, hT⟩
  refine SL.as rfl <| SL.nil <| T.seq <| T.seq <| T.region <| SL.mv rfl <| SL.v (op_lenS Tryz.underlying59 rfl) <| SL.v (op_move (v := .int .i64 ((0 : Nat) : Int)) rfl) <| SL.nil <| T.block <| T.loopW (fun m env own X' => ∃ (i : Nat) (vt : Value), m = l.length - i ∧ i ≤ l.length ∧ X.le X' ∧ errOf n [] (l.take i) = 0 ∧ TabR X' vt (l.take i) ∧ env = [(1, .int .i64 (n : Int)), (6, vt), (13, .slice A l.length cp), (14, .int .i64 (l.length : Int)), (15, .int .i64 (i : Int))] ∧ own = []) l.length ⟨0, vt, by simp, by omega, hX1, by simp [errOf], by simpa using hT, rfl, rfl⟩ (by repeat (first | exact Sub.nil | refine Sub.cons rfl ?_)) ?_
  rintro m _ _ X2 ⟨i, vt, rfl, hi, hX2, hz, hT, rfl, rfl⟩
  rcases Nat.lt_or_ge i l.length with hil | hil
  · obtain ⟨s, hs⟩ : ∃ s, l[i]? = some s := ⟨_, List.getElem?_eq_getElem hil⟩
    obtain ⟨bA, pre, rfl, hbA⟩ := h.blk (by omega)
    have hta : l.take (i + 1) = l.take i ++ [s] := by rw [List.take_add_one, hs]; rfl
    have hle : (l.take i).length ≤ 256 := by simpa using errOf_len hz (by simp)
    have hat : errOf n [] (l.take (i + 1)) = errA (l.take i) s n := by
      rw [hta, errOf_app, if_neg (by simpa using hz), List.nil_append, errOf]
      split
      · rfl
      · rename_i h0; exact (Decidable.not_not.1 h0).symm
    refine T.seq <| T.region <| SL.v (op_lssT rfl rfl (by omega)) ?_
    refine SL.nil <| T.seq <| T.condT rfl <| T.skip <| T.seq <| T.block <| T.seq <| T.region <| SL.v (op_indexN Tryz.underlying59 ty9 rfl rfl (by omega)) ?_
    refine SL.v (op_loadX ty9 rfl (hbA.mono hX2) (str_read hs (by omega))) ?_
    refine SL.as rfl <| SL.nil <| T.seq <| T.region <| SL.mv rfl <| SL.mv rfl <| SL.mv rfl <| SL.w (op_callF en120 (vs := [_, _, _]) rfl (add_spec (s := s) (n := n) hT hle)) ?_
    rintro u3 _ X3 ⟨rfl, hX3, hu3⟩
    by_cases he : errA (l.take i) s n = 0
    · rw [if_pos he] at hu3
      obtain ⟨v3, rfl, hT3⟩ := hu3
      refine SL.mv rfl <| SL.v (op_extract rfl rfl) <| SL.v (op_extract rfl rfl) <| SL.v (op_extract rfl rfl) <| SL.as rfl <| SL.as rfl <| SL.as rfl <| SL.nil <| T.seq <| T.seq <| T.region <| SL.mv rfl <| SL.v (op_neqF rfl rfl (by omega)) ?_
      refine SL.nil <| T.condF rfl <| T.skip <| T.region <| SL.mv rfl <| SL.as rfl <| SL.nil <| T.blk <| T.region <| SL.v (op_addN (q := 1) rfl rfl (by omega)) ?_
      refine SL.mv rfl <| SL.nil ?_
      exact T.backW (l.length - (i + 1)) (by omega) ⟨i + 1, v3, rfl, by omega, hX2.trans' hX3, by rw [hat, he], by rw [hta]; exact hT3, rfl, rfl⟩ (by repeat (first | exact Sub.nil | refine Sub.cons rfl ?_))
    · rw [if_neg he] at hu3
      subst hu3
      refine SL.mv rfl <| SL.v (op_extract rfl rfl) <| SL.v (op_extract rfl rfl) <| SL.v (op_extract rfl rfl) <| SL.as rfl <| SL.as rfl <| SL.as rfl <| SL.nil <| T.seq <| T.seq <| T.region <| SL.mv rfl <| SL.v (op_neqT rfl rfl (by omega)) ?_
      refine SL.nil <| T.condT rfl <| T.seq <| T.region <| SL.mv rfl <| SL.as rfl <| SL.as rfl <| SL.nil <| T.ret2 rfl (ResIs.tmp rfl) (ResIs.tmp rfl) ?_
      have ht : errOf n [] l = errA (l.take i) s n := by
        have h0 : errOf n [] (l.take (i + 1) ++ l.drop (i + 1)) = errA (l.take i) s n := by rw [errOf_app, hat, if_pos he]
        rwa [List.take_append_drop] at h0
      rw [if_neg (by rw [ht]; exact he), ht]
      rfl
  · obtain rfl : i = l.length := by omega
    rw [List.take_of_length_le (Nat.le_refl _)] at hz hT
    refine T.seq <| T.region <| SL.v (op_lssF rfl rfl (by omega)) ?_
    refine SL.nil <| T.seq <| T.condF rfl ?_
    refine T.exit (T.exitCode (T.exitCut (T.exitBlk ?_)))
    refine T.seq <| T.region <| SL.mv rfl <| SL.as rfl <| SL.v (op_assign (v := .int .i64 ((0 : Nat) : Int)) rfl) <| SL.nil <| T.ret2 rfl (ResIs.tmp rfl) (ResIs.tmp rfl) ?_
    rw [if_pos hz]
    exact ⟨_, rfl, hT⟩
end Go.Proofs.YtnpcilglilfajaaGreatDoor
namespace Go.Proofs.YtnpcilglilfajaaGreatDoor
open Go.RowKit
theorem and127n {p : Nat} (h : p < 9223372036854775808) : bits .and .i64 (p : Int) 127 = ((p % 128 : Nat) : Int) := by
  have e : (BitVec.ofInt 64 (p : Int) &&& BitVec.ofInt 64 127).toNat = p % 128 := by
    rw [BitVec.toNat_and, BitVec.toNat_ofInt, BitVec.toNat_ofInt, show (127 : Int) % ((2 ^ 64 : Nat) : Int) = ((127 : Nat) : Int) from rfl, Int.toNat_natCast, show (p : Int) % ((2 ^ 64 : Nat) : Int) = (p : Int) by omega, Int.toNat_natCast, show (127 : Nat) = 2 ^ 7 - 1 from rfl, Nat.and_two_pow_sub_one_eq_mod]
  show IntKind.i64.wrap ((BitVec.ofInt 64 (p : Int) &&& BitVec.ofInt 64 127).toNat : Int) = _
  rw [e]
  exact wrap_i64_in (by omega) (by omega)
theorem ones_exact {X : PMap} {m : Nat} (hlt : m < 18446744073709551616) : Spec Tryz.prog 70 [.int .u64 (m : Int)] X fun u _ => u = .int .i64 (cntB 64 m : Int) := by
  obtain ⟨a, b, c, e1, ha, e2, hb, hb2, e3, hc1, hc2, hc3, hfin, hle⟩ := swar hlt
  have hc0 : c < 18446744073709551616 := by omega
  refine Spec.enter Tryz.func70 rfl Tryz.ntmps70 rfl ?_
  intro w0 hw0
  refine T.seq <| T.region <| SL.v (op_assign (v := .int .i64 ((0 : Nat) : Int)) rfl) <| SL.nil <| T.seq <| T.region <| SL.mv rfl <| SL.v (op_shrN (q := 1) rfl rfl (by omega)) ?_
  refine SL.v (op_and (q := 6148914691236517205) rfl rfl (Nat.lt_of_le_of_lt (Nat.shiftRight_le ..) hlt) (by decide)) ?_
  refine SL.mv rfl <| SL.v (op_and (q := 6148914691236517205) rfl rfl hlt (by decide)) ?_
  refine SL.v (op_addU rfl rfl (by rw [e1]; exact ha)) ?_
  rw [e1]
  refine SL.as rfl <| SL.nil <| T.seq <| T.region <| SL.mv rfl <| SL.v (op_shrN (q := 2) rfl rfl (by omega)) ?_
  refine SL.v (op_and (q := 3689348814741910323) rfl rfl (Nat.lt_of_le_of_lt (Nat.shiftRight_le ..) ha) (by decide)) ?_
  refine SL.mv rfl <| SL.v (op_and (q := 3689348814741910323) rfl rfl ha (by decide)) ?_
  refine SL.v (op_addU rfl rfl (by rw [e2]; exact hb)) ?_
  rw [e2]
  refine SL.as rfl <| SL.nil <| T.seq <| T.region <| SL.mv rfl <| SL.v (op_shrN (q := 4) rfl rfl (by omega)) ?_
  refine SL.mv rfl <| SL.v (op_addU rfl rfl hb2) <| SL.v (op_and (q := 1085102592571150095) rfl rfl hb2 (by decide)) ?_
  rw [e3]
  refine SL.as rfl <| SL.nil <| T.seq <| T.region <| SL.mv rfl <| SL.mv rfl <| SL.v (op_shrN (q := 8) rfl rfl (by omega)) ?_
  refine SL.v (op_addU rfl rfl hc1) <| SL.as rfl <| SL.nil <| T.seq <| T.region <| SL.mv rfl <| SL.mv rfl <| SL.v (op_shrN (q := 16) rfl rfl (by omega)) ?_
  refine SL.v (op_addU rfl rfl hc2) <| SL.as rfl <| SL.nil <| T.seq <| T.region <| SL.mv rfl <| SL.mv rfl <| SL.v (op_shrN (q := 32) rfl rfl (by omega)) ?_
  refine SL.v (op_addU rfl rfl (by omega)) ?_
  generalize ((c + c >>> 8) + (c + c >>> 8) >>> 16) + ((c + c >>> 8) + (c + c >>> 8) >>> 16) >>> 32 = f at *
  refine SL.as rfl <| SL.nil <| T.seq <| T.region <| SL.mv rfl <| SL.v (op_convI64 Tryz.underlying58 Tryz.underlying3 rfl (by omega) (by omega)) ?_
  refine SL.v (op_bits (op := .and) rfl rfl (by simp) (and127n hc3)) ?_
  refine SL.as rfl <| SL.nil <| T.ret1 rfl (ResIs.tmp rfl) ?_
  rw [hfin]
theorem len_exact {X : PMap} {v : Value} {m : Nat} (h : SetR X v m) : Spec Tryz.prog 22 [v] X fun u _ => u = .int .i64 ((mem64 m).length : Int) := by
  have hcnt : ∀ m, (mem64 m).length = cntB 64 m := fun m => by rw [mem64, cntB, List.countP_eq_length_filter]
  rcases h with ⟨rfl, A, c, rfl⟩ | ⟨_, h1, b, c, rest, rfl, hB⟩
  · refine Spec.enter Tryz.func22 rfl Tryz.ntmps22 rfl ?_
    intro w0 hw0
    refine T.seq <| T.region <| SL.w (op_box rfl) ?_
    rintro _ _ _ ⟨B1, rfl, rfl, rfl⟩
    refine SL.v (op_assign (v := .int .i64 ((0 : Nat) : Int)) rfl) <| SL.nil <| T.seq <| T.region <| SL.v (op_assign (v := .int .i64 ((0 : Nat) : Int)) rfl) <| SL.nil <| T.seq <| T.seq <| T.region <| SL.v (op_fieldAddr fa53_0 rfl) <| SL.v (op_load ty51 rfl (by repeat constructor) rfl) ?_
    refine SL.v (op_lenS Tryz.underlying51 rfl) <| SL.v (op_move (v := .int .i64 ((0 : Nat) : Int)) rfl) <| SL.nil <| T.block <| T.unrollStart 1 ?_
    refine T.unroll ?_
    refine T.seq <| T.region <| SL.v (op_lssF rfl rfl (by omega)) ?_
    refine SL.nil <| T.seq <| T.condF rfl ?_
    refine T.exit (T.exitCode (T.exitMore (T.exitBlk ?_)))
    refine T.seq <| T.region <| SL.mv rfl <| SL.as rfl <| SL.nil <| T.ret1 rfl (ResIs.tmp rfl) ?_
    rw [mem64_zero]
    rfl
  · have hle := cnt_le m
    refine Spec.enter Tryz.func22 rfl Tryz.ntmps22 rfl ?_
    intro w0 hw0
    refine T.seq <| T.region <| SL.w (op_box rfl) ?_
    rintro _ _ _ ⟨B1, rfl, rfl, rfl⟩
    refine SL.v (op_assign (v := .int .i64 ((0 : Nat) : Int)) rfl) <| SL.nil <| T.seq <| T.region <| SL.v (op_assign (v := .int .i64 ((0 : Nat) : Int)) rfl) <| SL.nil <| T.seq <| T.seq <| T.region <| SL.v (op_fieldAddr fa53_0 rfl) <| SL.v (op_load ty51 rfl (by repeat constructor) rfl) ?_
    refine SL.v (op_lenS Tryz.underlying51 rfl) <| SL.v (op_move (v := .int .i64 ((0 : Nat) : Int)) rfl) <| SL.nil <| T.block <| T.unrollStart 2 ?_
    refine T.unroll ?_
    refine T.seq <| T.region <| SL.v (op_lssT rfl rfl (by omega)) ?_
    refine SL.nil <| T.seq <| T.condT rfl <| T.skip <| T.seq <| T.block <| T.seq <| T.region <| SL.v (op_indexN Tryz.underlying51 ty58 rfl rfl (by omega)) ?_
    refine SL.v (op_loadX ty58 rfl (by assumption) rfl) ?_
    refine SL.as rfl <| SL.nil <| T.region <| SL.mv rfl <| SL.mv rfl <| SL.w (op_callF en70 (vs := [_]) rfl (ones_exact h1)) ?_
    rintro _ _ X1 ⟨rfl, hX1, rfl⟩
    refine SL.v (op_addN rfl rfl (by omega)) ?_
    refine SL.as rfl <| SL.nil <| T.blk <| T.region <| SL.v (op_addN (q := 1) rfl rfl (by omega)) ?_
    refine SL.mv rfl <| SL.nil <| T.unroll ?_
    refine T.seq <| T.region <| SL.v (op_lssF rfl rfl (by omega)) ?_
    refine SL.nil <| T.seq <| T.condF rfl ?_
    refine T.exit (T.exitCode (T.exitMore (T.exitBlk ?_)))
    refine T.seq <| T.region <| SL.mv rfl <| SL.as rfl <| SL.nil <| T.ret1 rfl (ResIs.tmp rfl) ?_
    rw [hcnt, Nat.zero_add]
end Go.Proofs.YtnpcilglilfajaaGreatDoor
namespace Go.Proofs.YtnpcilglilfajaaGreatDoor
section
set_option maxRecDepth 100000
theorem en112 : Enters Tryz.prog 112 := enters_mk Tryz.func112 (by kernel_rfl) rfl
theorem fa36_3 : FAdr Tryz.prog 36 3 3 := fadr_mk Tryz.underlying36 rfl rfl (by kernel_rfl)
theorem ty34 : Ty Tryz.prog 34 false 1 := ⟨⟨_, Tryz.underlying34, rfl⟩, by kernel_rfl⟩
theorem ty36 : Ty Tryz.prog 36 true 4 := ⟨⟨_, Tryz.underlying36, rfl⟩, by kernel_rfl⟩
theorem z36 : Zero Tryz.prog 36 [.int .u8 0, .int .i64 0, .slice none 0 0, .slice none 0 0] := ⟨zero_of (by kernel_rfl)⟩
end
open Go.RowKit
/-- A slice of small numbers. -/
def IntsR (X : PMap) (v : Value) (rs : List Nat) : Prop := SliceR X v rs.length (ints rs) ∧ ∃ A c, v = .slice A rs.length c ∧ rs.length ≤ c
theorem IntsR.mono {X X' : PMap} {v : Value} {rs : List Nat} (h : IntsR X v rs) (hX : X.le X') : IntsR X' v rs := ⟨h.1.mono hX, h.2⟩
theorem IntsR.form {X : PMap} {v : Value} {rs : List Nat} (h : IntsR X v rs) : ∃ A c, v = .slice A rs.length c := by
  obtain ⟨_, A, c, hv, _⟩ := h
  exact ⟨A, c, hv⟩
theorem IntsR.cap {X : PMap} {A : Option Addr} {l c : Nat} {rs : List Nat} (h : IntsR X (.slice A l c) rs) : rs.length ≤ c := by
  obtain ⟨_, A', c', hv, hc⟩ := h
  cases hv
  exact hc
theorem IntsR.blk {X : PMap} {A : Option Addr} {c : Nat} {rs : List Nat} (h : IntsR X (.slice A rs.length c) rs) (h0 : 0 < rs.length) : ∃ b, A = some ⟨b, 0, none⟩ ∧ Blk X b (ints rs) := SliceR.blk h.1 h0
theorem IntsR.nil {X : PMap} {A : Option Addr} {c : Nat} : IntsR X (.slice A 0 c) [] := ⟨.inl ⟨rfl, rfl, _, _, rfl⟩, _, _, rfl, Nat.zero_le _⟩
theorem IntsR.ofG {X : PMap} {e : TypeId} {v : Value} {rs : List Nat} {G : Own} (hg : GrowS e 1 v rs.length (ints rs) G) (h : SliceR X v rs.length (ints rs)) : IntsR X v rs := by
  refine ⟨h, ?_⟩
  rcases hg with ⟨h0, _, hv, _⟩ | ⟨b, cap, hv, _, h2, _⟩
  · exact ⟨_, _, by rw [hv, h0], by omega⟩
  · exact ⟨_, _, hv, h2⟩
/-- The four fields of a formula whose operator is of kind k. -/
inductive FmR (k : IntKind) (X : PMap) : Fm → Row4 → Prop
  | mk {op : Nat} {n : Int} {rs : List Nat} {al : List Fm} {vn va : Value} {rows : List Row4} (hn : IntsR X vn rs) (ha : RowR rc4 X va rows) (hl : rows.length = al.length)
      (hr : ∀ (i : Nat) (a : Fm) (r : Row4), al[i]? = some a → rows[i]? = some r → FmR k X a r) : FmR k X (.mk op n rs al) (.int k (op : Int), .int .i64 n, vn, va)
theorem FmR.mono {k : IntKind} {X X' : PMap} {e : Fm} {r : Row4} (h : FmR k X e r) (hX : X.le X') : FmR k X' e r := by
  induction h with
  | mk hn ha hl hr ih => exact .mk (hn.mono hX) (ha.mono hX) hl ih
theorem FmR.form {k : IntKind} {X : PMap} {e : Fm} {r : Row4} (h : FmR k X e r) : ∃ (o : Nat) (n : Int) (A B : Option Addr) (l c l' c' : Nat), r = (.int k (o : Int), .int .i64 n, .slice A l c, .slice B l' c') := by
  cases h with
  | mk hn ha hl hr =>
    obtain ⟨A, c, rfl⟩ := hn.form
    obtain ⟨B, c', rfl⟩ := ha.form
    exact ⟨_, _, _, _, _, _, _, _, rfl⟩
theorem FmR.op {k : IntKind} {X : PMap} {e : Fm} {r : Row4} (h : FmR k X e r) : r.1 = .int k (e.op : Int) := by
  cases h; rfl
theorem fmeas_spec (N : Nat) : ∀ {X : PMap} {e : Fm} {r : Row4}, wtF e ≤ N → N < 4000000000000 → FmR .u8 X e r → Spec Tryz.prog 112 [.agg #[r.1, r.2.1, r.2.2.1, r.2.2.2]] X fun u _ => u = .tuple #[.int .i64 (depF e : Int), .int .i64 (sizF e : Int)] := by
  induction N with
  | zero => intro X e r h; have := wtF_pos e; omega
  | succ N ih =>
    intro X e r hN hB h
    cases h with
    | @mk op n rs al vn va rows hn ha hl hr =>
    obtain ⟨Aa, ca, rfl⟩ := ha.form
    have hlen := wtFL_len al
    rw [wtF] at hN
    refine Spec.enter Tryz.func112 rfl Tryz.ntmps112 rfl ?_
    intro w0 hw0
    refine T.seq <| T.region <| SL.w (op_box rfl) ?_
    rintro _ _ _ ⟨B1, rfl, rfl, rfl⟩
    refine SL.v (op_assign (v := .int .i64 ((0 : Nat) : Int)) rfl) <| SL.v (op_assign (v := .int .i64 ((0 : Nat) : Int)) rfl) <| SL.nil <| T.seq <| T.seq <| T.region <| SL.v (op_fieldAddr fa36_3 rfl) <| SL.v (op_load ty34 rfl (by repeat constructor) rfl) ?_
    refine SL.v (op_lenS Tryz.underlying34 rfl) <| SL.v (op_move (v := .int .i64 ((0 : Nat) : Int)) rfl) <| SL.nil <| T.block <| T.drop B1 (by repeat constructor) ?_
    refine T.loopW (fun m env own X' => ∃ i : Nat, m = rows.length - i ∧ i ≤ rows.length ∧ X.le X' ∧ env = [(2, .int .i64 (depFL (al.take i) : Int)), (3, .int .i64 (sizFL (al.take i) : Int)), (9, .slice Aa rows.length ca), (10, .int .i64 (rows.length : Int)), (11, .int .i64 (i : Int))] ∧ own = []) rows.length ⟨0, by simp, by omega, PMap.le_refl _, rfl, rfl⟩ (by repeat (first | exact Sub.nil | refine Sub.cons rfl ?_)) ?_
    rintro m _ _ X1 ⟨i, rfl, hi, hX1, rfl, rfl⟩
    rcases Nat.lt_or_ge i rows.length with hil | hil
    · obtain ⟨r2, hr2⟩ : ∃ r2, rows[i]? = some r2 := ⟨_, List.getElem?_eq_getElem hil⟩
      obtain ⟨a, ha2⟩ : ∃ a, al[i]? = some a := ⟨_, List.getElem?_eq_getElem (by omega)⟩
      have hra := hr i a r2 ha2 hr2
      obtain ⟨bA, pre, rfl, hbA⟩ := ha.blk (by omega)
      obtain ⟨_, _, _, _, _, _, _, _, rfl⟩ := hra.form
      have hwa := wtFL_mem (List.mem_of_getElem? ha2)
      have hts := take_snoc ha2
      have hw1 : wtFL (al.take (i + 1)) ≤ wtFL al := by
        have := wtFL_app (al.drop (i + 1)) (al.take (i + 1))
        rw [List.take_append_drop] at this; omega
      have hw2 : wtFL (al.take (i + 1)) = wtFL (al.take i) + wtF a := by rw [hts, wtFL_snoc]
      have q1 := siz_wtFL (al.take i)
      have q2 := siz_wtF a
      have q3 := dep_wtFL (al.take i)
      have q4 := dep_wtF a
      refine T.seq <| T.region <| SL.v (op_lssT rfl rfl (by omega)) ?_
      refine SL.nil <| T.seq <| T.condT rfl <| T.skip <| T.seq <| T.block <| T.seq <| T.region <| SL.v (op_indexN Tryz.underlying34 ty36 rfl rfl (by omega)) ?_
      refine SL.v (op_loadX ty36 rfl (hbA.mono hX1) (row_read rc4_len hr2 (by omega))) ?_
      refine SL.w (op_alloc z36) ?_
      rintro _ _ _ ⟨B5, rfl, rfl, rfl⟩
      refine SL.w (op_store ty36 rfl rfl (by repeat constructor) rfl rfl rfl) ?_
      rintro _ _ _ ⟨rfl, rfl⟩
      refine SL.nil <| T.seq <| T.region <| SL.v (op_load ty36 rfl (by repeat constructor) rfl) ?_
      refine SL.w (op_callF en112 (vs := [_]) rfl (ih (by omega) (by omega) (hra.mono hX1))) ?_
      rintro _ _ X2 ⟨rfl, hX2, rfl⟩
      refine SL.mv rfl <| SL.v (op_extract rfl rfl) <| SL.v (op_extract rfl rfl) <| SL.as rfl <| SL.as rfl <| SL.nil <| T.region <| SL.mv rfl <| SL.mv rfl <| SL.v (op_maxN rfl rfl) ?_
      rw [show max (depFL (al.take i)) (depF a) = depFL (al.take (i + 1)) by rw [hts, depFL_snoc]]
      refine SL.mv rfl <| SL.mv rfl <| SL.v (op_addN (p := sizFL (al.take i)) (q := sizF a) rfl rfl (by omega)) ?_
      rw [show sizFL (al.take i) + sizF a = sizFL (al.take (i + 1)) by rw [hts, sizFL_snoc]]
      refine SL.as rfl <| SL.as rfl <| SL.nil <| T.blk <| T.region <| SL.v (op_addN (q := 1) rfl rfl (by omega)) ?_
      refine SL.mv rfl <| SL.nil <| T.drop B5 (by repeat constructor) ?_
      exact T.backW (rows.length - (i + 1)) (by omega) ⟨i + 1, rfl, by omega, hX1.trans' hX2, rfl, rfl⟩ (by repeat (first | exact Sub.nil | refine Sub.cons rfl ?_))
    · obtain rfl : i = rows.length := by omega
      rw [show al.take rows.length = al from List.take_of_length_le (by omega)]
      have q1 := siz_wtFL al
      have q3 := dep_wtFL al
      refine T.seq <| T.region <| SL.v (op_lssF rfl rfl (by omega)) ?_
      refine SL.nil <| T.seq <| T.condF rfl ?_
      refine T.exit (T.exitCode (T.exitCut (T.exitBlk ?_)))
      refine T.seq <| T.region <| SL.mv rfl <| SL.v (op_addN (q := 1) rfl rfl (by omega)) ?_
      refine SL.mv rfl <| SL.v (op_addN (q := 1) rfl rfl (by omega)) ?_
      refine SL.as rfl <| SL.as rfl <| SL.nil <| T.ret2 rfl (ResIs.tmp rfl) (ResIs.tmp rfl) ?_
      rw [depF, sizF]
end Go.Proofs.YtnpcilglilfajaaGreatDoor
namespace Go.Proofs.YtnpcilglilfajaaGreatDoor
open Go.RowKit
section
variable {P : Program} {n : NM} {own : Own} {X : PMap} {env : Env}
/-- The number of a name in a map of names, and whether it is there. -/
theorem op_lookupN2 {xT kt et : TypeId} {x y : Operand} {om : Option Nat} {ns : List ByteArray} {s : ByteArray} (ht : P.underlying xT = some (.map kt et)) (hk : P.underlying kt = some .string) (hz : (P.info? et).bind (·.zero) = some (.int .i64 0))
    (hx : eev env x = some (.map om)) (hy : eev env y = some (.string s)) (hm : MapAt X ns om) :
    OpY P n env own X (.lookup xT x y true) (.tuple #[.int .i64 (posN s ns : Int), .bool (decide (posN s ns ≠ 0))]) := by
  intro a W oper hop ha hst
  obtain ⟨i, hi, hiz⟩ := Option.bind_eq_some_iff.1 hz
  have hzr : (zeroValue et).run P W = .ok (.int .i64 0) W := by simp [zeroValue, typeInfo, hi, hiz]
  obtain ⟨r, h1, h2, h3⟩ := findNow_pos s ns (fun q => .int .i64 ((q : Int) + 1)) (fun q => q) 0
  have hf : (Instr.findKey kt (.string s) (entsOf ns)).run P W = .ok r W := MapKept.run_findKey hk h1
  have hck : ∀ e, (Instr.checkKey e 10000 kt (.string s)).run P W = .ok () W := fun e => MapKept.run_checkKey hk (by trivial) e 9999
  have hl : (Instr.lookup xT (.map om) (.string s) true).run P W = .ok (.tuple #[.int .i64 (posN s ns : Int), .bool (decide (posN s ns ≠ 0))]) W := by
    have key : ∀ es : Array MapEntry, es.toList = entsOf ns → (om = none → es = #[]) → (∀ b, om = some b → ∃ clk, W.heap[b]? = some (.map es clk)) → (Instr.lookup xT (.map om) (.string s) true).run P W = .ok (.tuple #[.int .i64 (posN s ns : Int), .bool (decide (posN s ns ≠ 0))]) W := by
      intro es he ho hb
      rw [← he] at hf
      rcases Nat.eq_zero_or_pos (posN s ns) with h0 | h0
      · obtain rfl := h2 h0
        cases om with
        | none => have ho : es = #[] := ho rfl; subst ho; simp [Instr.lookup, run_underlying ht, hck, hf, hzr, h0, Result.andThen]
        | some b => obtain ⟨clk, hb⟩ := hb b rfl; simp [Instr.lookup, run_underlying ht, MapKept.run_getObj_map hb, hck, hf, hzr, h0, Result.andThen]
      · obtain ⟨k, hk'⟩ : ∃ k, posN s ns = k + 1 := ⟨posN s ns - 1, by omega⟩
        obtain ⟨q, rfl⟩ := h3 k hk'
        cases om with
        | none => have ho : es = #[] := ho rfl; subst ho; simp [Instr.lookup, run_underlying ht, hck, hf, hk', Result.andThen]
        | some b => obtain ⟨clk, hb⟩ := hb b rfl; simp [Instr.lookup, run_underlying ht, MapKept.run_getObj_map hb, hck, hf, hk', Result.andThen]
    cases om with
    | none => have hm : ns = [] := hm; subst hm; exact key #[] rfl (fun _ => rfl) (fun _ h => by cases h)
    | some b => exact key (entsOf ns).toArray rfl (fun h => by cases h) (fun b' h => by cases h; exact ⟨_, hst.pers b _ hm⟩)
  simp [execOp, hop, ha.eval hx, ha.eval hy, hl]
end
theorem numT_spec {X : PMap} {v : Value} {ns : List ByteArray} {s : ByteArray} (h : TabR X v ns) : Spec Tryz.prog 36 [v, .string s] X fun u _ => u = .tuple #[.int .i64 (posN s ns : Int), .bool (decide (posN s ns ≠ 0))] := by
  obtain ⟨b, vs, om, rfl, hB, hR, hM⟩ := h
  obtain ⟨A, cp, rfl⟩ := hR.form
  refine Spec.enter Tryz.func36 rfl Tryz.ntmps36 rfl ?_
  intro w0 hw0
  refine T.seq <| T.region <| SL.v (op_assign (v := .int .i64 ((0 : Nat) : Int)) rfl) <| SL.as rfl <| SL.nil <| T.seq <| T.seq <| T.region <| SL.mv rfl <| SL.v (op_eqlNil Tryz.underlying64 rfl rfl) <| SL.nil <| T.condF rfl <| T.skip <| T.seq <| T.region ?_
  refine SL.mv rfl <| SL.v (op_nil rfl) <| SL.v (op_fieldAddr fa166_1 rfl) <| SL.v (op_loadX ty164 rfl (by assumption) rfl) ?_
  refine SL.mv rfl <| SL.v (op_lookupN2 (s := s) Tryz.underlying164 Tryz.underlying9 (by kernel_rfl) rfl rfl hM) ?_
  refine SL.mv rfl <| SL.v (op_extract rfl rfl) <| SL.v (op_extract rfl rfl) <| SL.as rfl <| SL.as rfl <| SL.nil <| T.seq <| T.region <| SL.mv rfl <| SL.mv rfl <| SL.as rfl <| SL.as rfl <| SL.nil <| T.ret2 rfl (ResIs.tmp rfl) (ResIs.tmp rfl) ?_
  rfl
end Go.Proofs.YtnpcilglilfajaaGreatDoor
namespace Go.Proofs.YtnpcilglilfajaaGreatDoor
open Go.RowKit
/-- The zero formula. -/
def zeF : Fm := .mk 0 0 [] []
def badN (ns : List ByteArray) (adm : Nat) (s : ByteArray) : Prop := posN s ns = 0 ∨ adm.testBit (posN s ns) = true
instance (ns : List ByteArray) (adm : Nat) (s : ByteArray) : Decidable (badN ns adm s) := inferInstanceAs (Decidable (_ ∨ _))
def numbN (ns : List ByteArray) (adm : Nat) : List ByteArray → Option (List Nat)
  | [] => some []
  | s :: l => if badN ns adm s then none else (numbN ns adm l).map (posN s ns :: ·)
mutual
def numbF (ns : List ByteArray) (adm : Nat) : Ex → Option Fm
  | .mk op n l al => match numbN ns adm l with
    | none => none
    | some rs => match numbL ns adm al with
      | none => none
      | some bl => some (.mk op n rs bl)
def numbL (ns : List ByteArray) (adm : Nat) : List Ex → Option (List Fm)
  | [] => some []
  | a :: al => match numbF ns adm a with
    | none => none
    | some f => match numbL ns adm al with
      | none => none
      | some fl => some (f :: fl)
end
theorem numbN_app (ns : List ByteArray) (adm : Nat) (b : List ByteArray) : ∀ a : List ByteArray, numbN ns adm (a ++ b) = match numbN ns adm a with | none => none | some q => (numbN ns adm b).map (q ++ ·)
  | [] => by simp [numbN]
  | s :: a => by
    rw [List.cons_append, numbN, numbN, numbN_app ns adm b a]
    split
    · rfl
    · cases numbN ns adm a with
      | none => rfl
      | some q => cases numbN ns adm b <;> rfl
theorem numbL_app (ns : List ByteArray) (adm : Nat) (b : List Ex) : ∀ a : List Ex, numbL ns adm (a ++ b) = match numbL ns adm a with | none => none | some q => (numbL ns adm b).map (q ++ ·)
  | [] => by simp [numbL]
  | s :: a => by
    rw [List.cons_append, numbL, numbL, numbL_app ns adm b a]
    cases numbF ns adm s with
    | none => rfl
    | some f =>
      cases numbL ns adm a with
      | none => rfl
      | some q => cases numbL ns adm b <;> rfl
theorem numbN_bad {ns : List ByteArray} {adm : Nat} {l : List ByteArray} {i : Nat} {s : ByteArray} (hs : l[i]? = some s) (hb : badN ns adm s) : numbN ns adm l = none := by
  have e : l = l.take i ++ (s :: l.drop (i + 1)) := by
    obtain ⟨hi, he⟩ := List.getElem?_eq_some_iff.1 hs
    rw [← he, ← List.drop_eq_getElem_cons hi, List.take_append_drop]
  rw [e, numbN_app]
  cases numbN ns adm (l.take i) with
  | none => rfl
  | some q => simp [numbN, if_pos hb]
theorem numbN_snoc {ns : List ByteArray} {adm : Nat} {l : List ByteArray} {i : Nat} {s : ByteArray} {q : List Nat} (hs : l[i]? = some s) (hb : ¬badN ns adm s) (hq : numbN ns adm (l.take i) = some q) : numbN ns adm (l.take (i + 1)) = some (q ++ [posN s ns]) := by
  rw [take_snoc hs, numbN_app, hq]
  simp [numbN, if_neg hb]
theorem numbL_bad {ns : List ByteArray} {adm : Nat} {l : List Ex} {i : Nat} {a : Ex} (hs : l[i]? = some a) (hb : numbF ns adm a = none) : numbL ns adm l = none := by
  have e : l = l.take i ++ (a :: l.drop (i + 1)) := by
    obtain ⟨hi, he⟩ := List.getElem?_eq_some_iff.1 hs
    rw [← he, ← List.drop_eq_getElem_cons hi, List.take_append_drop]
  rw [e, numbL_app]
  cases numbL ns adm (l.take i) with
  | none => rfl
  | some q => simp [numbL, hb]
theorem numbL_snoc {ns : List ByteArray} {adm : Nat} {l : List Ex} {i : Nat} {a : Ex} {f : Fm} {q : List Fm} (hs : l[i]? = some a) (hb : numbF ns adm a = some f) (hq : numbL ns adm (l.take i) = some q) : numbL ns adm (l.take (i + 1)) = some (q ++ [f]) := by
  rw [take_snoc hs, numbL_app, hq]
  simp [numbL, hb]
theorem zeF_R {k : IntKind} {X : PMap} : FmR k X zeF (.int k 0, .int .i64 0, .slice none 0 0, .slice none 0 0) := .mk (rows := []) (op := 0) IntsR.nil (.inl ⟨rfl, _, _, rfl⟩) rfl (fun i a r h => by simp at h)
/-- Room of a formula whose names were replaced. -/
theorem numbN_len {ns : List ByteArray} {adm : Nat} : ∀ {l : List ByteArray} {q : List Nat}, numbN ns adm l = some q → q.length = l.length
  | [], q, h => by cases h; rfl
  | s :: l, q, h => by
    rw [numbN] at h
    split at h
    · cases h
    · obtain ⟨q', h1, rfl⟩ := Option.map_eq_some_iff.1 h
      rw [List.length_cons, List.length_cons, numbN_len h1]
mutual
theorem numbF_wt {ns : List ByteArray} {adm : Nat} : ∀ (e : Ex) {f : Fm}, numbF ns adm e = some f → wtF f ≤ wtE e
  | .mk op n l al, f, h => by
    rw [numbF] at h
    cases h1 : numbN ns adm l with
    | none => rw [h1] at h; cases h
    | some rs =>
      cases h2 : numbL ns adm al with
      | none => rw [h1, h2] at h; cases h
      | some bl =>
        rw [h1, h2] at h
        cases h
        have := numbL_wt al h2
        have := numbN_len h1
        have := wtS_len l
        rw [wtF, wtE]; omega
theorem numbL_wt {ns : List ByteArray} {adm : Nat} : ∀ (l : List Ex) {q : List Fm}, numbL ns adm l = some q → wtFL q ≤ wtL l
  | [], q, h => by cases h; simp [wtFL]
  | a :: al, q, h => by
    rw [numbL] at h
    cases h1 : numbF ns adm a with
    | none => rw [h1] at h; cases h
    | some f =>
      cases h2 : numbL ns adm al with
      | none => rw [h1, h2] at h; cases h
      | some fl =>
        rw [h1, h2] at h
        cases h
        have := numbF_wt a h1
        have := numbL_wt al h2
        rw [wtFL, wtL]; omega
end
theorem numb_mk {ns : List ByteArray} {adm op : Nat} {n : Int} {l : List ByteArray} {al : List Ex} {rs : List Nat} {bl : List Fm} (h1 : numbN ns adm l = some rs) (h2 : numbL ns adm al = some bl) : numbF ns adm (.mk op n l al) = some (.mk op n rs bl) := by rw [numbF, h1]; simp only [h2]
theorem numb_no1 {ns : List ByteArray} {adm op : Nat} {n : Int} {l : List ByteArray} {al : List Ex} (h1 : numbN ns adm l = none) : numbF ns adm (.mk op n l al) = none := by rw [numbF, h1]
theorem numb_no2 {ns : List ByteArray} {adm op : Nat} {n : Int} {l : List ByteArray} {al : List Ex} (h2 : numbL ns adm al = none) : numbF ns adm (.mk op n l al) = none := by
  rw [numbF]
  cases numbN ns adm l with
  | none => rfl
  | some rs => simp only [h2]
theorem rows_snoc2 {α β : Type} {R : α → β → Prop} {l : List α} {q : List β} {a : α} {b : β} (hl : l.length = q.length) (h : ∀ (i : Nat) (x : α) (y : β), l[i]? = some x → q[i]? = some y → R x y) (hab : R a b) : ∀ (i : Nat) (x : α) (y : β), (l ++ [a])[i]? = some x → (q ++ [b])[i]? = some y → R x y := by
  intro i x y h1 h2
  rcases Nat.lt_or_ge i l.length with hi | hi
  · rw [List.getElem?_append_left hi] at h1
    rw [List.getElem?_append_left (by omega)] at h2
    exact h i x y h1 h2
  · have hi2 : i = l.length := by
      have := (List.getElem?_eq_some_iff.1 h1).1
      rw [List.length_append] at this; simp at this; omega
    subst hi2
    rw [List.getElem?_append_right (Nat.le_refl _), Nat.sub_self] at h1
    rw [hl, List.getElem?_append_right (Nat.le_refl _), Nat.sub_self] at h2
    simp only [List.getElem?_cons_zero, Option.some.injEq] at h1 h2
    subst h1 h2
    exact hab
end Go.Proofs.YtnpcilglilfajaaGreatDoor
namespace Go.Proofs.YtnpcilglilfajaaGreatDoor
section
set_option maxRecDepth 100000
theorem en190 : Enters Tryz.prog 190 := enters_mk Tryz.func190 (by kernel_rfl) rfl
theorem fa36_0 : FAdr Tryz.prog 36 0 0 := fadr_mk Tryz.underlying36 rfl rfl (by kernel_rfl)
theorem fa36_1 : FAdr Tryz.prog 36 1 1 := fadr_mk Tryz.underlying36 rfl rfl (by kernel_rfl)
theorem fa36_2 : FAdr Tryz.prog 36 2 2 := fadr_mk Tryz.underlying36 rfl rfl (by kernel_rfl)
end
open Go.RowKit
theorem arity_spec {X : PMap} {op : Nat} : Spec Tryz.prog 190 [.int .u8 (op : Int)] X fun u _ => u = .tuple #[.int .i64 (argF op : Int), .int .i64 (leaF op : Int), .int .i64 (mosF op : Int)] := by
  unfold argF leaF mosF
  by_cases c8 : 8 ≤ op
  · rw [if_neg (by omega), if_neg (by omega), if_neg (by omega), if_neg (by omega), if_neg (by omega)]
    refine Spec.enter Tryz.func190 rfl Tryz.ntmps190 rfl ?_
    intro w0 hw0
    refine T.seq <| T.region <| SL.v (op_assign (v := .int .i64 ((0 : Nat) : Int)) rfl) <| SL.v (op_assign (v := .int .i64 ((0 : Nat) : Int)) rfl) <| SL.v (op_assign (v := .int .i64 ((0 : Nat) : Int)) rfl) <| SL.nil <| T.seq <| T.block <| T.seq <| T.region <| SL.mv rfl <| SL.v (op_geqT rfl rfl (by omega)) ?_
    refine SL.as rfl <| SL.nil <| T.condT rfl <| T.seq <| T.region <| SL.v (op_assign (v := .int .i64 ((2 : Nat) : Int)) rfl) <| SL.v (op_assign (v := .int .i64 ((0 : Nat) : Int)) rfl) <| SL.v (op_assign (v := .int .i64 ((0 : Nat) : Int)) rfl) <| SL.nil <| T.ret3 rfl rfl rfl rfl ?_
    rfl
  by_cases c7 : op = 7
  · rw [if_neg (by omega), if_pos c7, if_neg (by omega), if_neg (by omega), if_neg (by omega)]
    refine Spec.enter Tryz.func190 rfl Tryz.ntmps190 rfl ?_
    intro w0 hw0
    refine T.seq <| T.region <| SL.v (op_assign (v := .int .i64 ((0 : Nat) : Int)) rfl) <| SL.v (op_assign (v := .int .i64 ((0 : Nat) : Int)) rfl) <| SL.v (op_assign (v := .int .i64 ((0 : Nat) : Int)) rfl) <| SL.nil <| T.seq <| T.block <| T.seq <| T.region <| SL.mv rfl <| SL.v (op_geqF rfl rfl (by omega)) ?_
    refine SL.as rfl <| SL.nil <| T.condF rfl <| T.seq <| T.region <| SL.mv rfl <| SL.v (op_eqlT rfl rfl (by omega)) ?_
    refine SL.as rfl <| SL.nil <| T.condT rfl <| T.seq <| T.region <| SL.v (op_assign (v := .int .i64 ((1 : Nat) : Int)) rfl) <| SL.v (op_assign (v := .int .i64 ((0 : Nat) : Int)) rfl) <| SL.v (op_assign (v := .int .i64 ((0 : Nat) : Int)) rfl) <| SL.nil <| T.ret3 rfl rfl rfl rfl ?_
    rfl
  rw [if_pos (by omega)]
  by_cases c4 : op = 4
  · rw [if_pos (by omega), if_pos (by omega)]
    refine Spec.enter Tryz.func190 rfl Tryz.ntmps190 rfl ?_
    intro w0 hw0
    refine T.seq <| T.region <| SL.v (op_assign (v := .int .i64 ((0 : Nat) : Int)) rfl) <| SL.v (op_assign (v := .int .i64 ((0 : Nat) : Int)) rfl) <| SL.v (op_assign (v := .int .i64 ((0 : Nat) : Int)) rfl) <| SL.nil <| T.seq <| T.block <| T.seq <| T.region <| SL.mv rfl <| SL.v (op_geqF rfl rfl (by omega)) ?_
    refine SL.as rfl <| SL.nil <| T.condF rfl <| T.seq <| T.region <| SL.mv rfl <| SL.v (op_eqlF rfl rfl (by omega)) ?_
    refine SL.as rfl <| SL.nil <| T.condF rfl <| T.seq <| T.region <| SL.mv rfl <| SL.v (op_eqlT rfl rfl (by omega)) ?_
    refine SL.mv rfl <| SL.skip rfl rfl ?_
    refine SL.skip rfl rfl ?_
    refine SL.v (op_pickT rfl rfl) <| SL.as rfl <| SL.nil <| T.condT rfl <| T.seq <| T.region <| SL.v (op_assign (v := .int .i64 ((0 : Nat) : Int)) rfl) <| SL.v (op_assign (v := .int .i64 ((1 : Nat) : Int)) rfl) <| SL.v (op_assign (v := .int .i64 ((1 : Nat) : Int)) rfl) <| SL.nil <| T.ret3 rfl rfl rfl rfl ?_
    rfl
  by_cases c6 : op = 6
  · rw [if_pos (by omega), if_pos (by omega)]
    refine Spec.enter Tryz.func190 rfl Tryz.ntmps190 rfl ?_
    intro w0 hw0
    refine T.seq <| T.region <| SL.v (op_assign (v := .int .i64 ((0 : Nat) : Int)) rfl) <| SL.v (op_assign (v := .int .i64 ((0 : Nat) : Int)) rfl) <| SL.v (op_assign (v := .int .i64 ((0 : Nat) : Int)) rfl) <| SL.nil <| T.seq <| T.block <| T.seq <| T.region <| SL.mv rfl <| SL.v (op_geqF rfl rfl (by omega)) ?_
    refine SL.as rfl <| SL.nil <| T.condF rfl <| T.seq <| T.region <| SL.mv rfl <| SL.v (op_eqlF rfl rfl (by omega)) ?_
    refine SL.as rfl <| SL.nil <| T.condF rfl <| T.seq <| T.region <| SL.mv rfl <| SL.v (op_eqlF rfl rfl (by omega)) ?_
    refine SL.mv rfl <| SL.mv rfl <| SL.v (op_eqlT rfl rfl (by omega)) ?_
    refine SL.v (op_pickF rfl rfl) <| SL.as rfl <| SL.nil <| T.condT rfl <| T.seq <| T.region <| SL.v (op_assign (v := .int .i64 ((0 : Nat) : Int)) rfl) <| SL.v (op_assign (v := .int .i64 ((1 : Nat) : Int)) rfl) <| SL.v (op_assign (v := .int .i64 ((1 : Nat) : Int)) rfl) <| SL.nil <| T.ret3 rfl rfl rfl rfl ?_
    rfl
  by_cases c5 : op = 5
  · rw [if_pos (by omega), if_neg (by omega), if_pos c5]
    refine Spec.enter Tryz.func190 rfl Tryz.ntmps190 rfl ?_
    intro w0 hw0
    refine T.seq <| T.region <| SL.v (op_assign (v := .int .i64 ((0 : Nat) : Int)) rfl) <| SL.v (op_assign (v := .int .i64 ((0 : Nat) : Int)) rfl) <| SL.v (op_assign (v := .int .i64 ((0 : Nat) : Int)) rfl) <| SL.nil <| T.seq <| T.block <| T.seq <| T.region <| SL.mv rfl <| SL.v (op_geqF rfl rfl (by omega)) ?_
    refine SL.as rfl <| SL.nil <| T.condF rfl <| T.seq <| T.region <| SL.mv rfl <| SL.v (op_eqlF rfl rfl (by omega)) ?_
    refine SL.as rfl <| SL.nil <| T.condF rfl <| T.seq <| T.region <| SL.mv rfl <| SL.v (op_eqlF rfl rfl (by omega)) ?_
    refine SL.mv rfl <| SL.mv rfl <| SL.v (op_eqlF rfl rfl (by omega)) ?_
    refine SL.v (op_pickF rfl rfl) <| SL.as rfl <| SL.nil <| T.condF rfl <| T.seq <| T.region <| SL.mv rfl <| SL.v (op_eqlT rfl rfl (by omega)) ?_
    refine SL.as rfl <| SL.nil <| T.condT rfl <| T.seq <| T.region <| SL.v (op_assign (v := .int .i64 ((0 : Nat) : Int)) rfl) <| SL.v (op_assign (v := .int .i64 ((1 : Nat) : Int)) rfl) <| SL.v (op_assign (v := .int .i64 ((8 : Nat) : Int)) rfl) <| SL.nil <| T.ret3 rfl rfl rfl rfl ?_
    rfl
  rw [if_neg (by omega), if_neg (by omega), if_neg c5]
  refine Spec.enter Tryz.func190 rfl Tryz.ntmps190 rfl ?_
  intro w0 hw0
  refine T.seq <| T.region <| SL.v (op_assign (v := .int .i64 ((0 : Nat) : Int)) rfl) <| SL.v (op_assign (v := .int .i64 ((0 : Nat) : Int)) rfl) <| SL.v (op_assign (v := .int .i64 ((0 : Nat) : Int)) rfl) <| SL.nil <| T.seq <| T.block <| T.seq <| T.region <| SL.mv rfl <| SL.v (op_geqF rfl rfl (by omega)) ?_
  refine SL.as rfl <| SL.nil <| T.condF rfl <| T.seq <| T.region <| SL.mv rfl <| SL.v (op_eqlF rfl rfl (by omega)) ?_
  refine SL.as rfl <| SL.nil <| T.condF rfl <| T.seq <| T.region <| SL.mv rfl <| SL.v (op_eqlF rfl rfl (by omega)) ?_
  refine SL.mv rfl <| SL.mv rfl <| SL.v (op_eqlF rfl rfl (by omega)) ?_
  refine SL.v (op_pickF rfl rfl) <| SL.as rfl <| SL.nil <| T.condF rfl <| T.seq <| T.region <| SL.mv rfl <| SL.v (op_eqlF rfl rfl (by omega)) ?_
  refine SL.as rfl <| SL.nil <| T.condF rfl <| T.skip <| T.blk <| T.seq <| T.region <| SL.v (op_assign (v := .int .i64 ((0 : Nat) : Int)) rfl) <| SL.v (op_assign (v := .int .i64 ((0 : Nat) : Int)) rfl) <| SL.v (op_assign (v := .int .i64 ((0 : Nat) : Int)) rfl) <| SL.nil <| T.ret3 rfl rfl rfl rfl ?_
  rfl
theorem result_spec {X : PMap} {op : Nat} : Spec Tryz.prog 61 [.int .u8 (op : Int)] X fun u _ => u = .int .u8 (resT op : Int) := by
  unfold resT
  by_cases c1 : op = 1
  · rw [if_pos (by omega)]
    refine Spec.enter Tryz.func61 rfl Tryz.ntmps61 rfl ?_
    intro w0 hw0
    refine T.seq <| T.region <| SL.v (op_assign (v := .int .u8 ((0 : Nat) : Int)) rfl) <| SL.nil <| T.seq <| T.seq <| T.region <| SL.mv rfl <| SL.nil <| T.block <| T.seq <| T.seq <| T.region <| SL.v (op_eqlT rfl rfl (by omega)) ?_
    refine SL.as rfl <| SL.nil <| T.condT rfl <| T.skip <| T.condT rfl <| T.seq <| T.region <| SL.v (op_assign (v := .int .u8 ((2 : Nat) : Int)) rfl) <| SL.nil <| T.ret1 rfl (ResIs.tmp rfl) ?_
    rfl
  by_cases c5 : op = 5
  · rw [if_pos (by omega)]
    refine Spec.enter Tryz.func61 rfl Tryz.ntmps61 rfl ?_
    intro w0 hw0
    refine T.seq <| T.region <| SL.v (op_assign (v := .int .u8 ((0 : Nat) : Int)) rfl) <| SL.nil <| T.seq <| T.seq <| T.region <| SL.mv rfl <| SL.nil <| T.block <| T.seq <| T.seq <| T.region <| SL.v (op_eqlF rfl rfl (by omega)) ?_
    refine SL.as rfl <| SL.nil <| T.condF rfl <| T.seq <| T.region <| SL.v (op_eqlT rfl rfl (by omega)) ?_
    refine SL.as rfl <| SL.nil <| T.condT rfl <| T.skip <| T.condT rfl <| T.seq <| T.region <| SL.v (op_assign (v := .int .u8 ((2 : Nat) : Int)) rfl) <| SL.nil <| T.ret1 rfl (ResIs.tmp rfl) ?_
    rfl
  by_cases c6 : op = 6
  · rw [if_pos (by omega)]
    refine Spec.enter Tryz.func61 rfl Tryz.ntmps61 rfl ?_
    intro w0 hw0
    refine T.seq <| T.region <| SL.v (op_assign (v := .int .u8 ((0 : Nat) : Int)) rfl) <| SL.nil <| T.seq <| T.seq <| T.region <| SL.mv rfl <| SL.nil <| T.block <| T.seq <| T.seq <| T.region <| SL.v (op_eqlF rfl rfl (by omega)) ?_
    refine SL.as rfl <| SL.nil <| T.condF rfl <| T.seq <| T.region <| SL.v (op_eqlF rfl rfl (by omega)) ?_
    refine SL.as rfl <| SL.nil <| T.condF rfl <| T.seq <| T.region <| SL.v (op_eqlT rfl rfl (by omega)) ?_
    refine SL.as rfl <| SL.nil <| T.condT rfl <| T.skip <| T.condT rfl <| T.seq <| T.region <| SL.v (op_assign (v := .int .u8 ((2 : Nat) : Int)) rfl) <| SL.nil <| T.ret1 rfl (ResIs.tmp rfl) ?_
    rfl
  by_cases c16 : op = 16
  · rw [if_pos (by omega)]
    refine Spec.enter Tryz.func61 rfl Tryz.ntmps61 rfl ?_
    intro w0 hw0
    refine T.seq <| T.region <| SL.v (op_assign (v := .int .u8 ((0 : Nat) : Int)) rfl) <| SL.nil <| T.seq <| T.seq <| T.region <| SL.mv rfl <| SL.nil <| T.block <| T.seq <| T.seq <| T.region <| SL.v (op_eqlF rfl rfl (by omega)) ?_
    refine SL.as rfl <| SL.nil <| T.condF rfl <| T.seq <| T.region <| SL.v (op_eqlF rfl rfl (by omega)) ?_
    refine SL.as rfl <| SL.nil <| T.condF rfl <| T.seq <| T.region <| SL.v (op_eqlF rfl rfl (by omega)) ?_
    refine SL.as rfl <| SL.nil <| T.condF rfl <| T.region <| SL.v (op_eqlT rfl rfl (by omega)) ?_
    refine SL.as rfl <| SL.nil <| T.condT rfl <| T.seq <| T.region <| SL.v (op_assign (v := .int .u8 ((2 : Nat) : Int)) rfl) <| SL.nil <| T.ret1 rfl (ResIs.tmp rfl) ?_
    rfl
  rw [if_neg (by omega)]
  refine Spec.enter Tryz.func61 rfl Tryz.ntmps61 rfl ?_
  intro w0 hw0
  refine T.seq <| T.region <| SL.v (op_assign (v := .int .u8 ((0 : Nat) : Int)) rfl) <| SL.nil <| T.seq <| T.seq <| T.region <| SL.mv rfl <| SL.nil <| T.block <| T.seq <| T.seq <| T.region <| SL.v (op_eqlF rfl rfl (by omega)) ?_
  refine SL.as rfl <| SL.nil <| T.condF rfl <| T.seq <| T.region <| SL.v (op_eqlF rfl rfl (by omega)) ?_
  refine SL.as rfl <| SL.nil <| T.condF rfl <| T.seq <| T.region <| SL.v (op_eqlF rfl rfl (by omega)) ?_
  refine SL.as rfl <| SL.nil <| T.condF rfl <| T.region <| SL.v (op_eqlF rfl rfl (by omega)) ?_
  refine SL.as rfl <| SL.nil <| T.condF rfl <| T.skip <| T.blk <| T.seq <| T.region <| SL.v (op_assign (v := .int .u8 ((1 : Nat) : Int)) rfl) <| SL.nil <| T.ret1 rfl (ResIs.tmp rfl) ?_
  rfl
theorem maskOf_msk : maskOf = mskF := rfl
theorem cnt_mem (m : Nat) : (mem64 m).length = cntB 64 m := by rw [mem64, cntB, List.countP_eq_length_filter]
theorem fnode_spec {X : PMap} {op : Nat} {n : Int} {rs : List Nat} {al : List Fm} {r : Row4} (hrl : rs.length < 1000000) (_hal : al.length < 1000000) (h : FmR .u8 X (.mk op n rs al) r) : Spec Tryz.prog 158 [.agg #[r.1, r.2.1, r.2.2.1, r.2.2.2]] X fun u _ => u = .int .i64 (ownF op n rs al.length) := by
  cases h with
  | @mk _ _ _ _ vn va rows hn ha hl hr =>
  obtain ⟨Aa, ca, rfl⟩ := ha.form
  obtain ⟨An, cn, rfl⟩ := hn.form
  have harg : argF op ≤ 2 := by unfold argF; split <;> (try split) <;> omega
  have hmos : mosF op ≤ 8 := by unfold mosF; split <;> (try split) <;> omega
  have hlea : leaF op ≤ 1 := by unfold leaF; split <;> omega
  rw [← hl] at _hal ⊢
  by_cases c1 : op < 1 ∨ 16 < op ∨ rows.length ≠ argF op
  · have e : ownF op n rs rows.length = 1 := by rw [ownF, if_pos c1]
    rw [e]
    by_cases d1 : op < 1
    · refine Spec.enter Tryz.func158 rfl Tryz.ntmps158 rfl ?_
      intro w0 hw0
      refine T.seq <| T.region <| SL.w (op_box rfl) ?_
      rintro _ _ _ ⟨B1, rfl, rfl, rfl⟩
      refine SL.v (op_assign (v := .int .i64 ((0 : Nat) : Int)) rfl) <| SL.nil <| T.seq <| T.region <| SL.v (op_fieldAddr fa36_0 rfl) <| SL.v (op_load ty33 rfl (by repeat constructor) rfl) ?_
      refine SL.w (op_callF en190 (vs := [_]) rfl (arity_spec)) ?_
      rintro _ _ X1 ⟨rfl, hX1, rfl⟩
      refine SL.mv rfl <| SL.v (op_extract rfl rfl) <| SL.v (op_extract rfl rfl) <| SL.v (op_extract rfl rfl) <| SL.as rfl <| SL.as rfl <| SL.as rfl <| SL.nil <| T.seq <| T.seq <| T.region <| SL.v (op_fieldAddr fa36_0 rfl) <| SL.v (op_load ty33 rfl (by repeat constructor) rfl) ?_
      refine SL.v (op_lssT rfl rfl (by omega)) ?_
      refine SL.mv rfl <| SL.skip rfl rfl ?_
      refine SL.skip rfl rfl ?_
      refine SL.skip rfl rfl ?_
      refine SL.v (op_pickT rfl rfl) <| SL.mv rfl <| SL.skip rfl rfl ?_
      refine SL.skip rfl rfl ?_
      refine SL.skip rfl rfl ?_
      refine SL.skip rfl rfl ?_
      refine SL.skip rfl rfl ?_
      refine SL.v (op_pickT rfl rfl) <| SL.nil <| T.condT rfl <| T.seq <| T.region <| SL.v (op_assign (v := .int .i64 ((1 : Nat) : Int)) rfl) <| SL.nil <| T.ret1 rfl (ResIs.tmp rfl) ?_
      rfl
    by_cases d2 : 16 < op
    · refine Spec.enter Tryz.func158 rfl Tryz.ntmps158 rfl ?_
      intro w0 hw0
      refine T.seq <| T.region <| SL.w (op_box rfl) ?_
      rintro _ _ _ ⟨B1, rfl, rfl, rfl⟩
      refine SL.v (op_assign (v := .int .i64 ((0 : Nat) : Int)) rfl) <| SL.nil <| T.seq <| T.region <| SL.v (op_fieldAddr fa36_0 rfl) <| SL.v (op_load ty33 rfl (by repeat constructor) rfl) ?_
      refine SL.w (op_callF en190 (vs := [_]) rfl (arity_spec)) ?_
      rintro _ _ X1 ⟨rfl, hX1, rfl⟩
      refine SL.mv rfl <| SL.v (op_extract rfl rfl) <| SL.v (op_extract rfl rfl) <| SL.v (op_extract rfl rfl) <| SL.as rfl <| SL.as rfl <| SL.as rfl <| SL.nil <| T.seq <| T.seq <| T.region <| SL.v (op_fieldAddr fa36_0 rfl) <| SL.v (op_load ty33 rfl (by repeat constructor) rfl) ?_
      refine SL.v (op_lssF rfl rfl (by omega)) ?_
      refine SL.mv rfl <| SL.v (op_fieldAddr fa36_0 rfl) <| SL.v (op_load ty33 rfl (by repeat constructor) rfl) ?_
      refine SL.v (op_gtrT rfl rfl (by omega)) ?_
      refine SL.v (op_pickF rfl rfl) <| SL.mv rfl <| SL.skip rfl rfl ?_
      refine SL.skip rfl rfl ?_
      refine SL.skip rfl rfl ?_
      refine SL.skip rfl rfl ?_
      refine SL.skip rfl rfl ?_
      refine SL.v (op_pickT rfl rfl) <| SL.nil <| T.condT rfl <| T.seq <| T.region <| SL.v (op_assign (v := .int .i64 ((1 : Nat) : Int)) rfl) <| SL.nil <| T.ret1 rfl (ResIs.tmp rfl) ?_
      rfl
    have d3 : rows.length ≠ argF op := by omega
    refine Spec.enter Tryz.func158 rfl Tryz.ntmps158 rfl ?_
    intro w0 hw0
    refine T.seq <| T.region <| SL.w (op_box rfl) ?_
    rintro _ _ _ ⟨B1, rfl, rfl, rfl⟩
    refine SL.v (op_assign (v := .int .i64 ((0 : Nat) : Int)) rfl) <| SL.nil <| T.seq <| T.region <| SL.v (op_fieldAddr fa36_0 rfl) <| SL.v (op_load ty33 rfl (by repeat constructor) rfl) ?_
    refine SL.w (op_callF en190 (vs := [_]) rfl (arity_spec)) ?_
    rintro _ _ X1 ⟨rfl, hX1, rfl⟩
    refine SL.mv rfl <| SL.v (op_extract rfl rfl) <| SL.v (op_extract rfl rfl) <| SL.v (op_extract rfl rfl) <| SL.as rfl <| SL.as rfl <| SL.as rfl <| SL.nil <| T.seq <| T.seq <| T.region <| SL.v (op_fieldAddr fa36_0 rfl) <| SL.v (op_load ty33 rfl (by repeat constructor) rfl) ?_
    refine SL.v (op_lssF rfl rfl (by omega)) ?_
    refine SL.mv rfl <| SL.v (op_fieldAddr fa36_0 rfl) <| SL.v (op_load ty33 rfl (by repeat constructor) rfl) ?_
    refine SL.v (op_gtrF rfl rfl (by omega)) ?_
    refine SL.v (op_pickF rfl rfl) <| SL.mv rfl <| SL.v (op_fieldAddr fa36_3 rfl) <| SL.v (op_load ty34 rfl (by repeat constructor) rfl) ?_
    refine SL.v (op_lenS Tryz.underlying34 rfl) <| SL.mv rfl <| SL.v (op_neqT rfl rfl (by omega)) ?_
    refine SL.v (op_pickF rfl rfl) <| SL.nil <| T.condT rfl <| T.seq <| T.region <| SL.v (op_assign (v := .int .i64 ((1 : Nat) : Int)) rfl) <| SL.nil <| T.ret1 rfl (ResIs.tmp rfl) ?_
    rfl
  have c1a : ¬op < 1 := fun h => c1 (.inl h)
  have c1b : ¬16 < op := fun h => c1 (.inr (.inl h))
  have c1c : rows.length = argF op := by omega
  by_cases c2 : (op ≠ 1 ∧ n ≠ 0) ∨ rs.length < leaF op ∨ mosF op < rs.length
  · have e : ownF op n rs rows.length = 6 := by rw [ownF, if_neg c1, if_pos c2]
    rw [e]
    by_cases d1 : op = 1
    · by_cases d2 : rs.length < leaF op
      · refine Spec.enter Tryz.func158 rfl Tryz.ntmps158 rfl ?_
        intro w0 hw0
        refine T.seq <| T.region <| SL.w (op_box rfl) ?_
        rintro _ _ _ ⟨B1, rfl, rfl, rfl⟩
        refine SL.v (op_assign (v := .int .i64 ((0 : Nat) : Int)) rfl) <| SL.nil <| T.seq <| T.region <| SL.v (op_fieldAddr fa36_0 rfl) <| SL.v (op_load ty33 rfl (by repeat constructor) rfl) ?_
        refine SL.w (op_callF en190 (vs := [_]) rfl (arity_spec)) ?_
        rintro _ _ X1 ⟨rfl, hX1, rfl⟩
        refine SL.mv rfl <| SL.v (op_extract rfl rfl) <| SL.v (op_extract rfl rfl) <| SL.v (op_extract rfl rfl) <| SL.as rfl <| SL.as rfl <| SL.as rfl <| SL.nil <| T.seq <| T.seq <| T.region <| SL.v (op_fieldAddr fa36_0 rfl) <| SL.v (op_load ty33 rfl (by repeat constructor) rfl) ?_
        refine SL.v (op_lssF rfl rfl (by omega)) ?_
        refine SL.mv rfl <| SL.v (op_fieldAddr fa36_0 rfl) <| SL.v (op_load ty33 rfl (by repeat constructor) rfl) ?_
        refine SL.v (op_gtrF rfl rfl (by omega)) ?_
        refine SL.v (op_pickF rfl rfl) <| SL.mv rfl <| SL.v (op_fieldAddr fa36_3 rfl) <| SL.v (op_load ty34 rfl (by repeat constructor) rfl) ?_
        refine SL.v (op_lenS Tryz.underlying34 rfl) <| SL.mv rfl <| SL.v (op_neqF rfl rfl (by omega)) ?_
        refine SL.v (op_pickF rfl rfl) <| SL.nil <| T.condF rfl <| T.skip <| T.seq <| T.seq <| T.region <| SL.v (op_fieldAddr fa36_0 rfl) <| SL.v (op_load ty33 rfl (by repeat constructor) rfl) ?_
        refine SL.v (op_neqF rfl rfl (by omega)) ?_
        refine SL.mv rfl <| SL.skip rfl rfl ?_
        refine SL.skip rfl rfl ?_
        refine SL.skip rfl rfl ?_
        refine SL.v (op_pickF rfl rfl) <| SL.mv rfl <| SL.v (op_fieldAddr fa36_2 rfl) <| SL.v (op_load ty24 rfl (by repeat constructor) rfl) ?_
        refine SL.v (op_lenS Tryz.underlying24 rfl) <| SL.mv rfl <| SL.v (op_lssT rfl rfl (by omega)) ?_
        refine SL.v (op_pickF rfl rfl) <| SL.mv rfl <| SL.skip rfl rfl ?_
        refine SL.skip rfl rfl ?_
        refine SL.skip rfl rfl ?_
        refine SL.skip rfl rfl ?_
        refine SL.skip rfl rfl ?_
        refine SL.v (op_pickT rfl rfl) <| SL.nil <| T.condT rfl <| T.seq <| T.region <| SL.v (op_assign (v := .int .i64 ((6 : Nat) : Int)) rfl) <| SL.nil <| T.ret1 rfl (ResIs.tmp rfl) ?_
        rfl
      · have d3 : mosF op < rs.length := by omega
        refine Spec.enter Tryz.func158 rfl Tryz.ntmps158 rfl ?_
        intro w0 hw0
        refine T.seq <| T.region <| SL.w (op_box rfl) ?_
        rintro _ _ _ ⟨B1, rfl, rfl, rfl⟩
        refine SL.v (op_assign (v := .int .i64 ((0 : Nat) : Int)) rfl) <| SL.nil <| T.seq <| T.region <| SL.v (op_fieldAddr fa36_0 rfl) <| SL.v (op_load ty33 rfl (by repeat constructor) rfl) ?_
        refine SL.w (op_callF en190 (vs := [_]) rfl (arity_spec)) ?_
        rintro _ _ X1 ⟨rfl, hX1, rfl⟩
        refine SL.mv rfl <| SL.v (op_extract rfl rfl) <| SL.v (op_extract rfl rfl) <| SL.v (op_extract rfl rfl) <| SL.as rfl <| SL.as rfl <| SL.as rfl <| SL.nil <| T.seq <| T.seq <| T.region <| SL.v (op_fieldAddr fa36_0 rfl) <| SL.v (op_load ty33 rfl (by repeat constructor) rfl) ?_
        refine SL.v (op_lssF rfl rfl (by omega)) ?_
        refine SL.mv rfl <| SL.v (op_fieldAddr fa36_0 rfl) <| SL.v (op_load ty33 rfl (by repeat constructor) rfl) ?_
        refine SL.v (op_gtrF rfl rfl (by omega)) ?_
        refine SL.v (op_pickF rfl rfl) <| SL.mv rfl <| SL.v (op_fieldAddr fa36_3 rfl) <| SL.v (op_load ty34 rfl (by repeat constructor) rfl) ?_
        refine SL.v (op_lenS Tryz.underlying34 rfl) <| SL.mv rfl <| SL.v (op_neqF rfl rfl (by omega)) ?_
        refine SL.v (op_pickF rfl rfl) <| SL.nil <| T.condF rfl <| T.skip <| T.seq <| T.seq <| T.region <| SL.v (op_fieldAddr fa36_0 rfl) <| SL.v (op_load ty33 rfl (by repeat constructor) rfl) ?_
        refine SL.v (op_neqF rfl rfl (by omega)) ?_
        refine SL.mv rfl <| SL.skip rfl rfl ?_
        refine SL.skip rfl rfl ?_
        refine SL.skip rfl rfl ?_
        refine SL.v (op_pickF rfl rfl) <| SL.mv rfl <| SL.v (op_fieldAddr fa36_2 rfl) <| SL.v (op_load ty24 rfl (by repeat constructor) rfl) ?_
        refine SL.v (op_lenS Tryz.underlying24 rfl) <| SL.mv rfl <| SL.v (op_lssF rfl rfl (by omega)) ?_
        refine SL.v (op_pickF rfl rfl) <| SL.mv rfl <| SL.v (op_fieldAddr fa36_2 rfl) <| SL.v (op_load ty24 rfl (by repeat constructor) rfl) ?_
        refine SL.v (op_lenS Tryz.underlying24 rfl) <| SL.mv rfl <| SL.v (op_gtrT rfl rfl (by omega)) ?_
        refine SL.v (op_pickF rfl rfl) <| SL.nil <| T.condT rfl <| T.seq <| T.region <| SL.v (op_assign (v := .int .i64 ((6 : Nat) : Int)) rfl) <| SL.nil <| T.ret1 rfl (ResIs.tmp rfl) ?_
        rfl
    · by_cases d0 : n = 0
      · by_cases d2 : rs.length < leaF op
        · refine Spec.enter Tryz.func158 rfl Tryz.ntmps158 rfl ?_
          intro w0 hw0
          refine T.seq <| T.region <| SL.w (op_box rfl) ?_
          rintro _ _ _ ⟨B1, rfl, rfl, rfl⟩
          refine SL.v (op_assign (v := .int .i64 ((0 : Nat) : Int)) rfl) <| SL.nil <| T.seq <| T.region <| SL.v (op_fieldAddr fa36_0 rfl) <| SL.v (op_load ty33 rfl (by repeat constructor) rfl) ?_
          refine SL.w (op_callF en190 (vs := [_]) rfl (arity_spec)) ?_
          rintro _ _ X1 ⟨rfl, hX1, rfl⟩
          refine SL.mv rfl <| SL.v (op_extract rfl rfl) <| SL.v (op_extract rfl rfl) <| SL.v (op_extract rfl rfl) <| SL.as rfl <| SL.as rfl <| SL.as rfl <| SL.nil <| T.seq <| T.seq <| T.region <| SL.v (op_fieldAddr fa36_0 rfl) <| SL.v (op_load ty33 rfl (by repeat constructor) rfl) ?_
          refine SL.v (op_lssF rfl rfl (by omega)) ?_
          refine SL.mv rfl <| SL.v (op_fieldAddr fa36_0 rfl) <| SL.v (op_load ty33 rfl (by repeat constructor) rfl) ?_
          refine SL.v (op_gtrF rfl rfl (by omega)) ?_
          refine SL.v (op_pickF rfl rfl) <| SL.mv rfl <| SL.v (op_fieldAddr fa36_3 rfl) <| SL.v (op_load ty34 rfl (by repeat constructor) rfl) ?_
          refine SL.v (op_lenS Tryz.underlying34 rfl) <| SL.mv rfl <| SL.v (op_neqF rfl rfl (by omega)) ?_
          refine SL.v (op_pickF rfl rfl) <| SL.nil <| T.condF rfl <| T.skip <| T.seq <| T.seq <| T.region <| SL.v (op_fieldAddr fa36_0 rfl) <| SL.v (op_load ty33 rfl (by repeat constructor) rfl) ?_
          refine SL.v (op_neqT rfl rfl (by omega)) ?_
          refine SL.mv rfl <| SL.v (op_fieldAddr fa36_1 rfl) <| SL.v (op_load ty3 rfl (by repeat constructor) rfl) ?_
          refine SL.v (op_neqF rfl rfl (by omega)) ?_
          refine SL.v (op_pickT rfl rfl) <| SL.mv rfl <| SL.v (op_fieldAddr fa36_2 rfl) <| SL.v (op_load ty24 rfl (by repeat constructor) rfl) ?_
          refine SL.v (op_lenS Tryz.underlying24 rfl) <| SL.mv rfl <| SL.v (op_lssT rfl rfl (by omega)) ?_
          refine SL.v (op_pickF rfl rfl) <| SL.mv rfl <| SL.skip rfl rfl ?_
          refine SL.skip rfl rfl ?_
          refine SL.skip rfl rfl ?_
          refine SL.skip rfl rfl ?_
          refine SL.skip rfl rfl ?_
          refine SL.v (op_pickT rfl rfl) <| SL.nil <| T.condT rfl <| T.seq <| T.region <| SL.v (op_assign (v := .int .i64 ((6 : Nat) : Int)) rfl) <| SL.nil <| T.ret1 rfl (ResIs.tmp rfl) ?_
          rfl
        · have d3 : mosF op < rs.length := by omega
          refine Spec.enter Tryz.func158 rfl Tryz.ntmps158 rfl ?_
          intro w0 hw0
          refine T.seq <| T.region <| SL.w (op_box rfl) ?_
          rintro _ _ _ ⟨B1, rfl, rfl, rfl⟩
          refine SL.v (op_assign (v := .int .i64 ((0 : Nat) : Int)) rfl) <| SL.nil <| T.seq <| T.region <| SL.v (op_fieldAddr fa36_0 rfl) <| SL.v (op_load ty33 rfl (by repeat constructor) rfl) ?_
          refine SL.w (op_callF en190 (vs := [_]) rfl (arity_spec)) ?_
          rintro _ _ X1 ⟨rfl, hX1, rfl⟩
          refine SL.mv rfl <| SL.v (op_extract rfl rfl) <| SL.v (op_extract rfl rfl) <| SL.v (op_extract rfl rfl) <| SL.as rfl <| SL.as rfl <| SL.as rfl <| SL.nil <| T.seq <| T.seq <| T.region <| SL.v (op_fieldAddr fa36_0 rfl) <| SL.v (op_load ty33 rfl (by repeat constructor) rfl) ?_
          refine SL.v (op_lssF rfl rfl (by omega)) ?_
          refine SL.mv rfl <| SL.v (op_fieldAddr fa36_0 rfl) <| SL.v (op_load ty33 rfl (by repeat constructor) rfl) ?_
          refine SL.v (op_gtrF rfl rfl (by omega)) ?_
          refine SL.v (op_pickF rfl rfl) <| SL.mv rfl <| SL.v (op_fieldAddr fa36_3 rfl) <| SL.v (op_load ty34 rfl (by repeat constructor) rfl) ?_
          refine SL.v (op_lenS Tryz.underlying34 rfl) <| SL.mv rfl <| SL.v (op_neqF rfl rfl (by omega)) ?_
          refine SL.v (op_pickF rfl rfl) <| SL.nil <| T.condF rfl <| T.skip <| T.seq <| T.seq <| T.region <| SL.v (op_fieldAddr fa36_0 rfl) <| SL.v (op_load ty33 rfl (by repeat constructor) rfl) ?_
          refine SL.v (op_neqT rfl rfl (by omega)) ?_
          refine SL.mv rfl <| SL.v (op_fieldAddr fa36_1 rfl) <| SL.v (op_load ty3 rfl (by repeat constructor) rfl) ?_
          refine SL.v (op_neqF rfl rfl (by omega)) ?_
          refine SL.v (op_pickT rfl rfl) <| SL.mv rfl <| SL.v (op_fieldAddr fa36_2 rfl) <| SL.v (op_load ty24 rfl (by repeat constructor) rfl) ?_
          refine SL.v (op_lenS Tryz.underlying24 rfl) <| SL.mv rfl <| SL.v (op_lssF rfl rfl (by omega)) ?_
          refine SL.v (op_pickF rfl rfl) <| SL.mv rfl <| SL.v (op_fieldAddr fa36_2 rfl) <| SL.v (op_load ty24 rfl (by repeat constructor) rfl) ?_
          refine SL.v (op_lenS Tryz.underlying24 rfl) <| SL.mv rfl <| SL.v (op_gtrT rfl rfl (by omega)) ?_
          refine SL.v (op_pickF rfl rfl) <| SL.nil <| T.condT rfl <| T.seq <| T.region <| SL.v (op_assign (v := .int .i64 ((6 : Nat) : Int)) rfl) <| SL.nil <| T.ret1 rfl (ResIs.tmp rfl) ?_
          rfl
      · refine Spec.enter Tryz.func158 rfl Tryz.ntmps158 rfl ?_
        intro w0 hw0
        refine T.seq <| T.region <| SL.w (op_box rfl) ?_
        rintro _ _ _ ⟨B1, rfl, rfl, rfl⟩
        refine SL.v (op_assign (v := .int .i64 ((0 : Nat) : Int)) rfl) <| SL.nil <| T.seq <| T.region <| SL.v (op_fieldAddr fa36_0 rfl) <| SL.v (op_load ty33 rfl (by repeat constructor) rfl) ?_
        refine SL.w (op_callF en190 (vs := [_]) rfl (arity_spec)) ?_
        rintro _ _ X1 ⟨rfl, hX1, rfl⟩
        refine SL.mv rfl <| SL.v (op_extract rfl rfl) <| SL.v (op_extract rfl rfl) <| SL.v (op_extract rfl rfl) <| SL.as rfl <| SL.as rfl <| SL.as rfl <| SL.nil <| T.seq <| T.seq <| T.region <| SL.v (op_fieldAddr fa36_0 rfl) <| SL.v (op_load ty33 rfl (by repeat constructor) rfl) ?_
        refine SL.v (op_lssF rfl rfl (by omega)) ?_
        refine SL.mv rfl <| SL.v (op_fieldAddr fa36_0 rfl) <| SL.v (op_load ty33 rfl (by repeat constructor) rfl) ?_
        refine SL.v (op_gtrF rfl rfl (by omega)) ?_
        refine SL.v (op_pickF rfl rfl) <| SL.mv rfl <| SL.v (op_fieldAddr fa36_3 rfl) <| SL.v (op_load ty34 rfl (by repeat constructor) rfl) ?_
        refine SL.v (op_lenS Tryz.underlying34 rfl) <| SL.mv rfl <| SL.v (op_neqF rfl rfl (by omega)) ?_
        refine SL.v (op_pickF rfl rfl) <| SL.nil <| T.condF rfl <| T.skip <| T.seq <| T.seq <| T.region <| SL.v (op_fieldAddr fa36_0 rfl) <| SL.v (op_load ty33 rfl (by repeat constructor) rfl) ?_
        refine SL.v (op_neqT rfl rfl (by omega)) ?_
        refine SL.mv rfl <| SL.v (op_fieldAddr fa36_1 rfl) <| SL.v (op_load ty3 rfl (by repeat constructor) rfl) ?_
        refine SL.v (op_neqT rfl rfl (by omega)) ?_
        refine SL.v (op_pickT rfl rfl) <| SL.mv rfl <| SL.skip rfl rfl ?_
        refine SL.skip rfl rfl ?_
        refine SL.skip rfl rfl ?_
        refine SL.skip rfl rfl ?_
        refine SL.skip rfl rfl ?_
        refine SL.v (op_pickT rfl rfl) <| SL.mv rfl <| SL.skip rfl rfl ?_
        refine SL.skip rfl rfl ?_
        refine SL.skip rfl rfl ?_
        refine SL.skip rfl rfl ?_
        refine SL.skip rfl rfl ?_
        refine SL.v (op_pickT rfl rfl) <| SL.nil <| T.condT rfl <| T.seq <| T.region <| SL.v (op_assign (v := .int .i64 ((6 : Nat) : Int)) rfl) <| SL.nil <| T.ret1 rfl (ResIs.tmp rfl) ?_
        rfl
  have c2a : ¬rs.length < leaF op := fun h => c2 (.inr (.inl h))
  have c2b : ¬mosF op < rs.length := fun h => c2 (.inr (.inr h))
  refine Spec.enter Tryz.func158 rfl Tryz.ntmps158 rfl ?_
  intro w0 hw0
  refine T.seq <| T.region <| SL.w (op_box rfl) ?_
  rintro _ _ _ ⟨B1, rfl, rfl, rfl⟩
  refine SL.v (op_assign (v := .int .i64 ((0 : Nat) : Int)) rfl) <| SL.nil <| T.seq <| T.region <| SL.v (op_fieldAddr fa36_0 rfl) <| SL.v (op_load ty33 rfl (by repeat constructor) rfl) ?_
  refine SL.w (op_callF en190 (vs := [_]) rfl (arity_spec)) ?_
  rintro _ _ X1 ⟨rfl, hX1, rfl⟩
  refine SL.mv rfl <| SL.v (op_extract rfl rfl) <| SL.v (op_extract rfl rfl) <| SL.v (op_extract rfl rfl) <| SL.as rfl <| SL.as rfl <| SL.as rfl <| SL.nil <| T.seq <| T.seq <| T.region <| SL.v (op_fieldAddr fa36_0 rfl) <| SL.v (op_load ty33 rfl (by repeat constructor) rfl) ?_
  refine SL.v (op_lssF rfl rfl (by omega)) ?_
  refine SL.mv rfl <| SL.v (op_fieldAddr fa36_0 rfl) <| SL.v (op_load ty33 rfl (by repeat constructor) rfl) ?_
  refine SL.v (op_gtrF rfl rfl (by omega)) ?_
  refine SL.v (op_pickF rfl rfl) <| SL.mv rfl <| SL.v (op_fieldAddr fa36_3 rfl) <| SL.v (op_load ty34 rfl (by repeat constructor) rfl) ?_
  refine SL.v (op_lenS Tryz.underlying34 rfl) <| SL.mv rfl <| SL.v (op_neqF rfl rfl (by omega)) ?_
  refine SL.v (op_pickF rfl rfl) <| SL.nil <| T.condF rfl <| T.skip <| T.seq <| T.meet (fun _ env own X' => X1.le X' ∧ env = [(1, .pointer (some ⟨B1, 0, none⟩))] ∧ own = [⟨B1, [.int .u8 (op : Int), .int .i64 n, .slice An rs.length cn, .slice Aa rows.length ca], 36, 4⟩]) ?_ ?_
  · by_cases d1 : op = 1
    · skip
      refine T.seq <| T.region <| SL.v (op_fieldAddr fa36_0 rfl) <| SL.v (op_load ty33 rfl (by repeat constructor) rfl) ?_
      refine SL.v (op_neqF rfl rfl (by omega)) ?_
      refine SL.mv rfl <| SL.skip rfl rfl ?_
      refine SL.skip rfl rfl ?_
      refine SL.skip rfl rfl ?_
      refine SL.v (op_pickF rfl rfl) <| SL.mv rfl <| SL.v (op_fieldAddr fa36_2 rfl) <| SL.v (op_load ty24 rfl (by repeat constructor) rfl) ?_
      refine SL.v (op_lenS Tryz.underlying24 rfl) <| SL.mv rfl <| SL.v (op_lssF rfl rfl (by omega)) ?_
      refine SL.v (op_pickF rfl rfl) <| SL.mv rfl <| SL.v (op_fieldAddr fa36_2 rfl) <| SL.v (op_load ty24 rfl (by repeat constructor) rfl) ?_
      refine SL.v (op_lenS Tryz.underlying24 rfl) <| SL.mv rfl <| SL.v (op_gtrF rfl rfl (by omega)) ?_
      refine SL.v (op_pickF rfl rfl) <| SL.nil <| T.condF rfl <| T.skip ?_
      exact T.backW 0 (by omega) ⟨PMap.le_refl _, rfl, rfl⟩ (by repeat (first | exact Sub.nil | refine Sub.cons rfl ?_))
    · have d0 : n = 0 := Classical.byContradiction fun h => c2 (.inl ⟨d1, h⟩)
      refine T.seq <| T.region <| SL.v (op_fieldAddr fa36_0 rfl) <| SL.v (op_load ty33 rfl (by repeat constructor) rfl) ?_
      refine SL.v (op_neqT rfl rfl (by omega)) ?_
      refine SL.mv rfl <| SL.v (op_fieldAddr fa36_1 rfl) <| SL.v (op_load ty3 rfl (by repeat constructor) rfl) ?_
      refine SL.v (op_neqF rfl rfl (by omega)) ?_
      refine SL.v (op_pickT rfl rfl) <| SL.mv rfl <| SL.v (op_fieldAddr fa36_2 rfl) <| SL.v (op_load ty24 rfl (by repeat constructor) rfl) ?_
      refine SL.v (op_lenS Tryz.underlying24 rfl) <| SL.mv rfl <| SL.v (op_lssF rfl rfl (by omega)) ?_
      refine SL.v (op_pickF rfl rfl) <| SL.mv rfl <| SL.v (op_fieldAddr fa36_2 rfl) <| SL.v (op_load ty24 rfl (by repeat constructor) rfl) ?_
      refine SL.v (op_lenS Tryz.underlying24 rfl) <| SL.mv rfl <| SL.v (op_gtrF rfl rfl (by omega)) ?_
      refine SL.v (op_pickF rfl rfl) <| SL.nil <| T.condF rfl <| T.skip ?_
      exact T.backW 0 (by omega) ⟨PMap.le_refl _, rfl, rfl⟩ (by repeat (first | exact Sub.nil | refine Sub.cons rfl ?_))
  rintro _ _ _ X2 ⟨hX2, rfl, rfl⟩
  by_cases c3 : n < 0 ∨ 999999 < n
  · have e : ownF op n rs rows.length = 2 := by rw [ownF, if_neg c1, if_neg c2, if_pos c3]
    rw [e]
    by_cases d1 : n < 0
    · skip
      refine T.seq <| T.seq <| T.region <| SL.v (op_fieldAddr fa36_1 rfl) <| SL.v (op_load ty3 rfl (by repeat constructor) rfl) ?_
      refine SL.v (op_lssT rfl rfl (by omega)) ?_
      refine SL.mv rfl <| SL.skip rfl rfl ?_
      refine SL.skip rfl rfl ?_
      refine SL.skip rfl rfl ?_
      refine SL.v (op_pickT rfl rfl) <| SL.nil <| T.condT rfl <| T.seq <| T.region <| SL.v (op_assign (v := .int .i64 ((2 : Nat) : Int)) rfl) <| SL.nil <| T.ret1 rfl (ResIs.tmp rfl) ?_
      rfl
    · have d2 : 999999 < n := by omega
      refine T.seq <| T.seq <| T.region <| SL.v (op_fieldAddr fa36_1 rfl) <| SL.v (op_load ty3 rfl (by repeat constructor) rfl) ?_
      refine SL.v (op_lssF rfl rfl (by omega)) ?_
      refine SL.mv rfl <| SL.v (op_fieldAddr fa36_1 rfl) <| SL.v (op_load ty3 rfl (by repeat constructor) rfl) ?_
      refine SL.v (op_gtrT rfl rfl (by omega)) ?_
      refine SL.v (op_pickF rfl rfl) <| SL.nil <| T.condT rfl <| T.seq <| T.region <| SL.v (op_assign (v := .int .i64 ((2 : Nat) : Int)) rfl) <| SL.nil <| T.ret1 rfl (ResIs.tmp rfl) ?_
      rfl
  have c3a : ¬n < 0 := fun h => c3 (.inl h)
  have c3b : ¬999999 < n := fun h => c3 (.inr h)
  refine T.seq <| T.seq <| T.region <| SL.v (op_fieldAddr fa36_1 rfl) <| SL.v (op_load ty3 rfl (by repeat constructor) rfl) ?_
  refine SL.v (op_lssF rfl rfl (by omega)) ?_
  refine SL.mv rfl <| SL.v (op_fieldAddr fa36_1 rfl) <| SL.v (op_load ty3 rfl (by repeat constructor) rfl) ?_
  refine SL.v (op_gtrF rfl rfl (by omega)) ?_
  refine SL.v (op_pickF rfl rfl) <| SL.nil <| T.condF rfl <| T.skip <| T.seq <| T.seq <| T.region <| SL.v (op_fieldAddr fa36_2 rfl) <| SL.v (op_load ty24 rfl (by repeat constructor) rfl) ?_
  refine SL.v (op_lenS Tryz.underlying24 rfl) <| SL.v (op_move (v := .int .i64 ((0 : Nat) : Int)) rfl) <| SL.nil <| T.block <| T.loopW (fun m env own X' => ∃ i : Nat, m = rs.length - i ∧ i ≤ rs.length ∧ X2.le X' ∧ (∀ r ∈ rs.take i, 1 ≤ r ∧ r ≤ 63) ∧ env = [(1, .pointer (some ⟨B1, 0, none⟩)), (61, .slice An rs.length cn), (62, .int .i64 (rs.length : Int)), (63, .int .i64 (i : Int))] ∧ own = [⟨B1, [.int .u8 (op : Int), .int .i64 n, .slice An rs.length cn, .slice Aa rows.length ca], 36, 4⟩]) rs.length ⟨0, by simp, by omega, PMap.le_refl _, (fun r hr => by simp at hr), rfl, rfl⟩ (by repeat (first | exact Sub.nil | refine Sub.cons rfl ?_)) ?_
  rintro m _ _ X3 ⟨i, rfl, hi, hX3, hall, rfl, rfl⟩
  rcases Nat.lt_or_ge i rs.length with hil | hil
  · obtain ⟨b, rfl, hB⟩ := hn.blk (by omega)
    have hB3 := ((hB.mono hX1).mono hX2).mono hX3
    have hmem : rs[i] ∈ rs := List.getElem_mem hil
    by_cases d : rs[i] < 1 ∨ 63 < rs[i]
    · have e : ownF op n rs rows.length = 2 := by rw [ownF, if_neg c1, if_neg c2, if_neg c3, if_pos ⟨_, hmem, d⟩]
      rw [e]
      by_cases d1 : rs[i] < 1
      · skip
        refine T.seq <| T.region <| SL.v (op_lssT rfl rfl (by omega)) ?_
        refine SL.nil <| T.seq <| T.condT rfl <| T.skip <| T.seq <| T.block <| T.seq <| T.region <| SL.v (op_indexN Tryz.underlying24 ty3 rfl rfl (by omega)) ?_
        refine SL.v (op_loadX ty3 rfl hB3 (cread1 (ints_get rs i hil))) <| SL.as rfl <| SL.nil <| T.seq <| T.region <| SL.mv rfl <| SL.v (op_lssT rfl rfl (by omega)) ?_
        refine SL.mv rfl <| SL.skip rfl rfl ?_
        refine SL.skip rfl rfl ?_
        refine SL.v (op_pickT rfl rfl) <| SL.nil <| T.condT rfl <| T.seq <| T.region <| SL.v (op_assign (v := .int .i64 ((2 : Nat) : Int)) rfl) <| SL.nil <| T.ret1 rfl (ResIs.tmp rfl) ?_
        rfl
      · have d2 : 63 < rs[i] := by omega
        refine T.seq <| T.region <| SL.v (op_lssT rfl rfl (by omega)) ?_
        refine SL.nil <| T.seq <| T.condT rfl <| T.skip <| T.seq <| T.block <| T.seq <| T.region <| SL.v (op_indexN Tryz.underlying24 ty3 rfl rfl (by omega)) ?_
        refine SL.v (op_loadX ty3 rfl hB3 (cread1 (ints_get rs i hil))) <| SL.as rfl <| SL.nil <| T.seq <| T.region <| SL.mv rfl <| SL.v (op_lssF rfl rfl (by omega)) ?_
        refine SL.mv rfl <| SL.mv rfl <| SL.v (op_gtrT rfl rfl (by omega)) ?_
        refine SL.v (op_pickF rfl rfl) <| SL.nil <| T.condT rfl <| T.seq <| T.region <| SL.v (op_assign (v := .int .i64 ((2 : Nat) : Int)) rfl) <| SL.nil <| T.ret1 rfl (ResIs.tmp rfl) ?_
        rfl
    · have da : ¬rs[i] < 1 := fun h => d (.inl h)
      have db : ¬63 < rs[i] := fun h => d (.inr h)
      have htk : rs.take (i + 1) = rs.take i ++ [rs[i]] := List.take_succ_eq_append_getElem hil
      refine T.seq <| T.region <| SL.v (op_lssT rfl rfl (by omega)) ?_
      refine SL.nil <| T.seq <| T.condT rfl <| T.skip <| T.seq <| T.block <| T.seq <| T.region <| SL.v (op_indexN Tryz.underlying24 ty3 rfl rfl (by omega)) ?_
      refine SL.v (op_loadX ty3 rfl hB3 (cread1 (ints_get rs i hil))) <| SL.as rfl <| SL.nil <| T.seq <| T.region <| SL.mv rfl <| SL.v (op_lssF rfl rfl (by omega)) ?_
      refine SL.mv rfl <| SL.mv rfl <| SL.v (op_gtrF rfl rfl (by omega)) ?_
      refine SL.v (op_pickF rfl rfl) <| SL.nil <| T.condF rfl <| T.skip <| T.blk <| T.region <| SL.v (op_addN (q := 1) rfl rfl (by omega)) ?_
      refine SL.mv rfl <| SL.nil ?_
      exact T.backW (rs.length - (i + 1)) (by omega) ⟨i + 1, rfl, by omega, hX3, (fun r hr => by rw [htk] at hr; rcases List.mem_append.1 hr with hr | hr; exact hall r hr; rw [List.mem_singleton.1 hr]; omega), rfl, rfl⟩ (by repeat (first | exact Sub.nil | refine Sub.cons rfl ?_))
  · obtain rfl : i = rs.length := by omega
    rw [List.take_of_length_le (Nat.le_refl _)] at hall
    have c4 : ¬∃ r ∈ rs, r < 1 ∨ 63 < r := fun ⟨r, hr, hh⟩ => by have := hall r hr; omega
    have h64 : ∀ r ∈ rs, r < 64 := fun r hr => by have := hall r hr; omega
    have hcnt := cnt_msk h64
    refine T.seq <| T.region <| SL.v (op_lssF rfl rfl (by omega)) ?_
    refine SL.nil <| T.seq <| T.condF rfl ?_
    refine T.exit (T.exitCode (T.exitCut (T.exitBlk ?_)))
    refine T.seq <| T.seq <| T.draw (by kernel_rfl) 8 [.t 0, .t 1, .t 4, .t 5, .t 6, .r 2, .r 3, .t 7] (by kernel_rfl) ?_
    refine SD.take rfl panicBody (op_fieldAddr fa36_2 rfl) rfl rfl ?_
    refine SD.take rfl panicBody (op_load ty24 rfl (by repeat constructor) rfl) rfl rfl ?_
    refine SD.take rfl panicBody (op_fieldAddr fa36_2 rfl) rfl rfl ?_
    refine SD.take rfl panicBody (op_load ty24 rfl (by repeat constructor) rfl) rfl rfl ?_
    refine SD.take rfl panicBody (op_lenS Tryz.underlying24 rfl) rfl rfl ?_
    refine SD.run rfl (op_callF en38 (vs := [_]) rfl (of_spec (((hn.mono hX1).mono hX2).mono hX3).1 h64 (by omega))) rfl rfl ?_
    rintro _ _ X4 ⟨rfl, hX4, hS⟩
    obtain ⟨A4, l4, c4', rfl⟩ := hS.form
    refine SD.run rfl (op_callF en22 (vs := [_]) rfl (len_exact hS)) rfl rfl ?_
    rintro _ _ X5 ⟨rfl, hX5, rfl⟩
    rw [maskOf_msk, cnt_mem]
    have hle := cnt_le (mskF rs)
    by_cases c5 : rs.Nodup
    · have hq := hcnt.2 c5
      have e : ownF op n rs rows.length = 0 := by rw [ownF, if_neg c1, if_neg c2, if_neg c3, if_neg c4, if_neg (fun h => h c5)]
      rw [e]
      refine SD.take rfl panicBody (op_neqF rfl rfl (by omega)) rfl rfl ?_
      refine SD.nil ?_
      show SL _ _ _ _ _ _ _ [] _ _ _
      refine SL.nil <| T.condF rfl <| T.skip <| T.seq <| T.region <| SL.v (op_assign (v := .int .i64 ((0 : Nat) : Int)) rfl) <| SL.nil <| T.ret1 rfl (ResIs.tmp rfl) ?_
      rfl
    · have hq : cntB 64 (mskF rs) ≠ rs.length := fun h => c5 (hcnt.1 h)
      have e : ownF op n rs rows.length = 5 := by rw [ownF, if_neg c1, if_neg c2, if_neg c3, if_neg c4, if_pos c5]
      rw [e]
      refine SD.take rfl panicBody (op_neqT rfl rfl (by omega)) rfl rfl ?_
      refine SD.nil ?_
      show SL _ _ _ _ _ _ _ [] _ _ _
      refine SL.nil <| T.condT rfl <| T.seq <| T.region <| SL.v (op_assign (v := .int .i64 ((5 : Nat) : Int)) rfl) <| SL.nil <| T.ret1 rfl (ResIs.tmp rfl) ?_
      rfl
end Go.Proofs.YtnpcilglilfajaaGreatDoor
namespace Go.Proofs.YtnpcilglilfajaaGreatDoor
section
set_option maxRecDepth 100000
theorem en113 : Enters Tryz.prog 113 := enters_mk Tryz.func113 (by kernel_rfl) rfl
theorem en158 : Enters Tryz.prog 158 := enters_mk Tryz.func158 (by kernel_rfl) rfl
theorem en60 : Enters Tryz.prog 60 := enters_mk Tryz.func60 (by kernel_rfl) rfl
theorem en61 : Enters Tryz.prog 61 := enters_mk Tryz.func61 (by kernel_rfl) rfl
end
open Go.RowKit
theorem finside_spec (N : Nat) : ∀ {X : PMap} {f : Fm} {r : Row4} {kind : Nat}, wtF f ≤ N → N < 1000000 → kind < 256 → FmR .u8 X f r → Spec Tryz.prog 113 [.agg #[r.1, r.2.1, r.2.2.1, r.2.2.2], .int .u8 (kind : Int)] X fun u _ => u = .int .i64 (insF kind f) := by
  induction N with
  | zero => intro X f r kind h; have := wtF_pos f; omega
  | succ N ih =>
    intro X f r kind hN hB hk h
    have h0 := h
    cases h with
    | @mk op n rs al vn va rows hn ha hl hr =>
    obtain ⟨Aa, ca, rfl⟩ := ha.form
    obtain ⟨An, cn, rfl⟩ := hn.form
    have hlen := wtFL_len al
    rw [wtF] at hN
    have hnode := fnode_spec (by omega) (by omega) h0
    try simp only at hnode
    by_cases c0 : ownF op n rs al.length = 0
    case neg =>
      have e : insF kind (.mk op n rs al) = ownF op n rs al.length := by rw [insF, if_pos c0]
      rw [e]
      refine Spec.enter Tryz.func113 rfl Tryz.ntmps113 rfl ?_
      intro w0 hw0
      refine T.seq <| T.region <| SL.w (op_box rfl) ?_
      rintro _ _ _ ⟨B2, rfl, rfl, rfl⟩
      refine SL.v (op_assign (v := .int .i64 ((0 : Nat) : Int)) rfl) <| SL.nil <| T.seq <| T.seq <| T.region <| SL.v (op_load ty36 rfl (by repeat constructor) rfl) ?_
      refine SL.w (op_callF en158 (vs := [_]) rfl (hnode)) ?_
      rintro _ _ X1 ⟨rfl, hX1, rfl⟩
      refine SL.as rfl <| SL.nil <| T.seq <| T.region <| SL.mv rfl <| SL.v (op_neqT rfl rfl (by omega)) ?_
      refine SL.nil <| T.condT rfl <| T.seq <| T.region <| SL.mv rfl <| SL.as rfl <| SL.nil <| T.ret1 rfl (ResIs.tmp rfl) ?_
      rfl
    have e0 : insF kind (.mk op n rs al) = if kinF kind op then 10 else insFL kind al := by rw [insF, if_neg (fun h => h c0)]
    refine Spec.enter Tryz.func113 rfl Tryz.ntmps113 rfl ?_
    intro w0 hw0
    refine T.seq <| T.region <| SL.w (op_box rfl) ?_
    rintro _ _ _ ⟨B2, rfl, rfl, rfl⟩
    refine SL.v (op_assign (v := .int .i64 ((0 : Nat) : Int)) rfl) <| SL.nil <| T.seq <| T.seq <| T.region <| SL.v (op_load ty36 rfl (by repeat constructor) rfl) ?_
    refine SL.w (op_callF en158 (vs := [_]) rfl (hnode)) ?_
    rintro _ _ X1 ⟨rfl, hX1, rfl⟩
    refine SL.as rfl <| SL.nil <| T.seq <| T.region <| SL.mv rfl <| SL.v (op_neqF rfl rfl (by omega)) ?_
    refine SL.nil <| T.condF rfl <| T.skip <| T.seq <| T.meet (fun _ env own X' => X1.le X' ∧ env = [(1, .int .u8 (kind : Int)), (2, .pointer (some ⟨B2, 0, none⟩)), (6, .bool (decide (op = 4 ∨ op = 5)))] ∧ own = [⟨B2, [.int .u8 (op : Int), .int .i64 n, .slice An rs.length cn, .slice Aa rows.length ca], 36, 4⟩]) ?_ ?_
    · by_cases d4 : op = 4
      · rw [decide_eq_true (.inl d4)]
        refine T.region <| SL.v (op_fieldAddr fa36_0 rfl) <| SL.v (op_load ty33 rfl (by repeat constructor) rfl) ?_
        refine SL.v (op_eqlT rfl rfl (by omega)) ?_
        refine SL.mv rfl <| SL.skip rfl rfl ?_
        refine SL.skip rfl rfl ?_
        refine SL.skip rfl rfl ?_
        refine SL.v (op_pickT rfl rfl) <| SL.as rfl <| SL.nil ?_
        exact T.backW 0 (by omega) ⟨PMap.le_refl _, rfl, rfl⟩ (by repeat (first | exact Sub.nil | refine Sub.cons rfl ?_))
      · by_cases d5 : op = 5
        · rw [decide_eq_true (.inr d5)]
          refine T.region <| SL.v (op_fieldAddr fa36_0 rfl) <| SL.v (op_load ty33 rfl (by repeat constructor) rfl) ?_
          refine SL.v (op_eqlF rfl rfl (by omega)) ?_
          refine SL.mv rfl <| SL.v (op_fieldAddr fa36_0 rfl) <| SL.v (op_load ty33 rfl (by repeat constructor) rfl) ?_
          refine SL.v (op_eqlT rfl rfl (by omega)) ?_
          refine SL.v (op_pickF rfl rfl) <| SL.as rfl <| SL.nil ?_
          exact T.backW 0 (by omega) ⟨PMap.le_refl _, rfl, rfl⟩ (by repeat (first | exact Sub.nil | refine Sub.cons rfl ?_))
        · rw [decide_eq_false (fun h => h.elim d4 d5)]
          refine T.region <| SL.v (op_fieldAddr fa36_0 rfl) <| SL.v (op_load ty33 rfl (by repeat constructor) rfl) ?_
          refine SL.v (op_eqlF rfl rfl (by omega)) ?_
          refine SL.mv rfl <| SL.v (op_fieldAddr fa36_0 rfl) <| SL.v (op_load ty33 rfl (by repeat constructor) rfl) ?_
          refine SL.v (op_eqlF rfl rfl (by omega)) ?_
          refine SL.v (op_pickF rfl rfl) <| SL.as rfl <| SL.nil ?_
          exact T.backW 0 (by omega) ⟨PMap.le_refl _, rfl, rfl⟩ (by repeat (first | exact Sub.nil | refine Sub.cons rfl ?_))
    rintro _ _ _ X2 ⟨hX2, rfl, rfl⟩
    by_cases hkin : kinF kind op
    · rw [if_pos hkin] at e0
      rw [e0]
      by_cases k3 : kind = 3
      · have d : op = 4 ∨ op = 5 := by
          rcases hkin with h | h
          · exact h.2
          · exact absurd k3 h.2.1
        rw [decide_eq_true d]
        refine T.seq <| T.seq <| T.region <| SL.mv rfl <| SL.v (op_eqlT rfl rfl (by omega)) ?_
        refine SL.mv rfl <| SL.mv rfl <| SL.v (op_pickT rfl rfl) <| SL.mv rfl <| SL.skip rfl rfl ?_
        refine SL.skip rfl rfl ?_
        refine SL.skip rfl rfl ?_
        refine SL.skip rfl rfl ?_
        refine SL.skip rfl rfl ?_
        refine SL.skip rfl rfl ?_
        refine SL.skip rfl rfl ?_
        refine SL.skip rfl rfl ?_
        refine SL.skip rfl rfl ?_
        refine SL.skip rfl rfl ?_
        refine SL.skip rfl rfl ?_
        refine SL.v (op_pickT rfl rfl) <| SL.nil <| T.condT rfl <| T.seq <| T.region <| SL.v (op_assign (v := .int .i64 ((10 : Nat) : Int)) rfl) <| SL.nil <| T.ret1 rfl (ResIs.tmp rfl) ?_
        rfl
      · have d : kind ≠ 0 ∧ op = 6 := by
          rcases hkin with h | h
          · exact absurd h.1 k3
          · exact ⟨h.1, h.2.2⟩
        have d6 := d.2
        have d0 := d.1
        refine T.seq <| T.seq <| T.region <| SL.mv rfl <| SL.v (op_eqlF rfl rfl (by omega)) ?_
        refine SL.mv rfl <| SL.skip rfl rfl ?_
        refine SL.v (op_pickF rfl rfl) <| SL.mv rfl <| SL.mv rfl <| SL.v (op_neqT rfl rfl (by omega)) ?_
        refine SL.mv rfl <| SL.mv rfl <| SL.v (op_neqT rfl rfl (by omega)) ?_
        refine SL.v (op_pickT rfl rfl) <| SL.mv rfl <| SL.v (op_fieldAddr fa36_0 rfl) <| SL.v (op_load ty33 rfl (by repeat constructor) rfl) ?_
        refine SL.v (op_eqlT rfl rfl (by omega)) ?_
        refine SL.v (op_pickT rfl rfl) <| SL.v (op_pickF rfl rfl) <| SL.nil <| T.condT rfl <| T.seq <| T.region <| SL.v (op_assign (v := .int .i64 ((10 : Nat) : Int)) rfl) <| SL.nil <| T.ret1 rfl (ResIs.tmp rfl) ?_
        rfl
    rw [if_neg hkin] at e0
    rw [e0]
    refine T.seq <| T.meet (fun _ env own X' => X2.le X' ∧ env = [(1, .int .u8 (kind : Int)), (2, .pointer (some ⟨B2, 0, none⟩))] ∧ own = [⟨B2, [.int .u8 (op : Int), .int .i64 n, .slice An rs.length cn, .slice Aa rows.length ca], 36, 4⟩]) ?_ ?_
    · by_cases k3 : kind = 3
      · rw [decide_eq_false (fun h => hkin (.inl ⟨k3, h⟩))]
        refine T.seq <| T.region <| SL.mv rfl <| SL.v (op_eqlT rfl rfl (by omega)) ?_
        refine SL.mv rfl <| SL.mv rfl <| SL.v (op_pickT rfl rfl) <| SL.mv rfl <| SL.mv rfl <| SL.v (op_neqT rfl rfl (by omega)) ?_
        refine SL.mv rfl <| SL.mv rfl <| SL.v (op_neqF rfl rfl (by omega)) ?_
        refine SL.v (op_pickT rfl rfl) <| SL.mv rfl <| SL.skip rfl rfl ?_
        refine SL.skip rfl rfl ?_
        refine SL.skip rfl rfl ?_
        refine SL.v (op_pickF rfl rfl) <| SL.v (op_pickF rfl rfl) <| SL.nil <| T.condF rfl <| T.skip ?_
        exact T.backW 0 (by omega) ⟨PMap.le_refl _, rfl, rfl⟩ (by repeat (first | exact Sub.nil | refine Sub.cons rfl ?_))
      · by_cases k0 : kind = 0
        · skip
          refine T.seq <| T.region <| SL.mv rfl <| SL.v (op_eqlF rfl rfl (by omega)) ?_
          refine SL.mv rfl <| SL.skip rfl rfl ?_
          refine SL.v (op_pickF rfl rfl) <| SL.mv rfl <| SL.mv rfl <| SL.v (op_neqF rfl rfl (by omega)) ?_
          refine SL.mv rfl <| SL.skip rfl rfl ?_
          refine SL.skip rfl rfl ?_
          refine SL.v (op_pickF rfl rfl) <| SL.mv rfl <| SL.skip rfl rfl ?_
          refine SL.skip rfl rfl ?_
          refine SL.skip rfl rfl ?_
          refine SL.v (op_pickF rfl rfl) <| SL.v (op_pickF rfl rfl) <| SL.nil <| T.condF rfl <| T.skip ?_
          exact T.backW 0 (by omega) ⟨PMap.le_refl _, rfl, rfl⟩ (by repeat (first | exact Sub.nil | refine Sub.cons rfl ?_))
        · have d6 : op ≠ 6 := fun h => hkin (.inr ⟨k0, k3, h⟩)
          refine T.seq <| T.region <| SL.mv rfl <| SL.v (op_eqlF rfl rfl (by omega)) ?_
          refine SL.mv rfl <| SL.skip rfl rfl ?_
          refine SL.v (op_pickF rfl rfl) <| SL.mv rfl <| SL.mv rfl <| SL.v (op_neqT rfl rfl (by omega)) ?_
          refine SL.mv rfl <| SL.mv rfl <| SL.v (op_neqT rfl rfl (by omega)) ?_
          refine SL.v (op_pickT rfl rfl) <| SL.mv rfl <| SL.v (op_fieldAddr fa36_0 rfl) <| SL.v (op_load ty33 rfl (by repeat constructor) rfl) ?_
          refine SL.v (op_eqlF rfl rfl (by omega)) ?_
          refine SL.v (op_pickT rfl rfl) <| SL.v (op_pickF rfl rfl) <| SL.nil <| T.condF rfl <| T.skip ?_
          exact T.backW 0 (by omega) ⟨PMap.le_refl _, rfl, rfl⟩ (by repeat (first | exact Sub.nil | refine Sub.cons rfl ?_))
    rintro _ _ _ X3 ⟨hX3, rfl, rfl⟩
    refine T.seq <| T.seq <| T.region <| SL.v (op_fieldAddr fa36_3 rfl) <| SL.v (op_load ty34 rfl (by repeat constructor) rfl) ?_
    refine SL.v (op_lenS Tryz.underlying34 rfl) <| SL.v (op_move (v := .int .i64 ((0 : Nat) : Int)) rfl) <| SL.nil <| T.block <| T.drop B2 (by repeat constructor) ?_
    refine T.loopW (fun m env own X' => ∃ i : Nat, m = rows.length - i ∧ i ≤ rows.length ∧ X3.le X' ∧ insFL kind (al.take i) = 0 ∧ env = [(1, .int .u8 (kind : Int)), (42, .slice Aa rows.length ca), (43, .int .i64 (rows.length : Int)), (44, .int .i64 (i : Int))] ∧ own = []) rows.length ⟨0, by simp, by omega, PMap.le_refl _, rfl, rfl, rfl⟩ (by repeat (first | exact Sub.nil | refine Sub.cons rfl ?_)) ?_
    rintro m _ _ X4 ⟨i, rfl, hi, hX4, hz, rfl, rfl⟩
    rcases Nat.lt_or_ge i rows.length with hil | hil
    · obtain ⟨r2, hr2⟩ : ∃ r2, rows[i]? = some r2 := ⟨_, List.getElem?_eq_getElem hil⟩
      obtain ⟨a, ha2⟩ : ∃ a, al[i]? = some a := ⟨_, List.getElem?_eq_getElem (by omega)⟩
      have hX04 := ((hX1.trans' hX2).trans' hX3).trans' hX4
      have hra := (hr i a r2 ha2 hr2).mono hX04
      obtain ⟨bA, pre, rfl, hbA⟩ := ha.blk (by omega)
      have hwa := wtFL_mem (List.mem_of_getElem? ha2)
      have hts := take_snoc ha2
      have hih := ih (by omega) (by omega) hk hra
      obtain ⟨_, _, _, _, _, _, _, _, rfl⟩ := hra.form
      try simp only at hih
      have hsn : insFL kind (al.take (i + 1)) = insF kind a := by
        rw [hts, insFL_app, if_neg (fun h => h hz), insFL, insFL]
        split
        · rfl
        · rename_i h; exact (Classical.not_not.1 h).symm
      by_cases hca : insF kind a = 0
      · skip
        refine T.seq <| T.region <| SL.v (op_lssT rfl rfl (by omega)) ?_
        refine SL.nil <| T.seq <| T.condT rfl <| T.skip <| T.seq <| T.block <| T.seq <| T.region <| SL.v (op_indexN Tryz.underlying34 ty36 rfl rfl (by omega)) ?_
        refine SL.v (op_loadX ty36 rfl (hbA.mono hX04) (row_read rc4_len hr2 (by omega))) ?_
        refine SL.w (op_alloc z36) ?_
        rintro _ _ _ ⟨B8, rfl, rfl, rfl⟩
        refine SL.w (op_store ty36 rfl rfl (by repeat constructor) rfl rfl rfl) ?_
        rintro _ _ _ ⟨rfl, rfl⟩
        refine SL.nil <| T.seq <| T.region <| SL.v (op_load ty36 rfl (by repeat constructor) rfl) ?_
        refine SL.mv rfl <| SL.w (op_callF en113 (vs := [_, _]) rfl (hih)) ?_
        rintro _ _ X5 ⟨rfl, hX5, rfl⟩
        rw [hca]
        refine SL.as rfl <| SL.nil <| T.seq <| T.region <| SL.mv rfl <| SL.v (op_neqF rfl rfl (by omega)) ?_
        refine SL.nil <| T.condF rfl <| T.skip <| T.blk <| T.region <| SL.v (op_addN (q := 1) rfl rfl (by omega)) ?_
        refine SL.mv rfl <| SL.nil <| T.drop B8 (by repeat constructor) ?_
        exact T.backW (rows.length - (i + 1)) (by omega) ⟨i + 1, rfl, by omega, hX4.trans' hX5, by rw [hsn, hca], rfl, rfl⟩ (by repeat (first | exact Sub.nil | refine Sub.cons rfl ?_))
      · have e : insFL kind al = insF kind a := by
          have := insFL_app kind (al.drop (i + 1)) (al.take (i + 1))
          rw [List.take_append_drop, hsn, if_pos hca] at this
          exact this
        rw [e]
        refine T.seq <| T.region <| SL.v (op_lssT rfl rfl (by omega)) ?_
        refine SL.nil <| T.seq <| T.condT rfl <| T.skip <| T.seq <| T.block <| T.seq <| T.region <| SL.v (op_indexN Tryz.underlying34 ty36 rfl rfl (by omega)) ?_
        refine SL.v (op_loadX ty36 rfl (hbA.mono hX04) (row_read rc4_len hr2 (by omega))) ?_
        refine SL.w (op_alloc z36) ?_
        rintro _ _ _ ⟨B8, rfl, rfl, rfl⟩
        refine SL.w (op_store ty36 rfl rfl (by repeat constructor) rfl rfl rfl) ?_
        rintro _ _ _ ⟨rfl, rfl⟩
        refine SL.nil <| T.seq <| T.region <| SL.v (op_load ty36 rfl (by repeat constructor) rfl) ?_
        refine SL.mv rfl <| SL.w (op_callF en113 (vs := [_, _]) rfl (hih)) ?_
        rintro _ _ X5 ⟨rfl, hX5, rfl⟩
        refine SL.as rfl <| SL.nil <| T.seq <| T.region <| SL.mv rfl <| SL.v (op_neqT rfl rfl (by omega)) ?_
        refine SL.nil <| T.condT rfl <| T.seq <| T.region <| SL.mv rfl <| SL.as rfl <| SL.nil <| T.ret1 rfl (ResIs.tmp rfl) ?_
        rfl
    · obtain rfl : i = rows.length := by omega
      rw [List.take_of_length_le (by omega)] at hz
      rw [hz]
      refine T.seq <| T.region <| SL.v (op_lssF rfl rfl (by omega)) ?_
      refine SL.nil <| T.seq <| T.condF rfl ?_
      refine T.exit (T.exitCode (T.exitCut (T.exitBlk ?_)))
      refine T.seq <| T.region <| SL.v (op_assign (v := .int .i64 ((0 : Nat) : Int)) rfl) <| SL.nil <| T.ret1 rfl (ResIs.tmp rfl) ?_
      rfl
theorem ffits_spec (N : Nat) : ∀ {X : PMap} {f : Fm} {r : Row4}, wtF f ≤ N → N < 1000000 → FmR .u8 X f r → Spec Tryz.prog 60 [.agg #[r.1, r.2.1, r.2.2.1, r.2.2.2]] X fun u _ => u = .bool (fitF f) := by
  induction N with
  | zero => intro X f r h; have := wtF_pos f; omega
  | succ N ih =>
    intro X f r hN hB h
    cases h with
    | @mk op n rs al vn va rows hn ha hl hr =>
    obtain ⟨Aa, ca, rfl⟩ := ha.form
    obtain ⟨An, cn, rfl⟩ := hn.form
    have hlen := wtFL_len al
    rw [wtF] at hN
    rw [fitF]
    refine Spec.enter Tryz.func60 rfl Tryz.ntmps60 rfl ?_
    intro w0 hw0
    refine T.seq <| T.region <| SL.w (op_box rfl) ?_
    rintro _ _ _ ⟨B1, rfl, rfl, rfl⟩
    refine SL.as rfl <| SL.nil <| T.seq <| T.region <| SL.v (op_assign (v := .int .u8 ((1 : Nat) : Int)) rfl) <| SL.nil <| T.seq <| T.meet (fun _ env own X' => X.le X' ∧ env = [(1, .pointer (some ⟨B1, 0, none⟩)), (3, .int .u8 (wanT op : Int))] ∧ own = [⟨B1, [.int .u8 (op : Int), .int .i64 n, .slice An rs.length cn, .slice Aa rows.length ca], 36, 4⟩]) ?_ ?_
    · by_cases d : 11 ≤ op
      · rw [show wanT op = 2 from if_pos d]
        refine T.seq <| T.region <| SL.v (op_fieldAddr fa36_0 rfl) <| SL.v (op_load ty33 rfl (by repeat constructor) rfl) ?_
        refine SL.v (op_geqT rfl rfl (by omega)) ?_
        refine SL.nil <| T.condT rfl <| T.region <| SL.v (op_assign (v := .int .u8 ((2 : Nat) : Int)) rfl) <| SL.nil ?_
        exact T.backW 0 (by omega) ⟨PMap.le_refl _, rfl, rfl⟩ (by repeat (first | exact Sub.nil | refine Sub.cons rfl ?_))
      · rw [show wanT op = 1 from if_neg d]
        refine T.seq <| T.region <| SL.v (op_fieldAddr fa36_0 rfl) <| SL.v (op_load ty33 rfl (by repeat constructor) rfl) ?_
        refine SL.v (op_geqF rfl rfl (by omega)) ?_
        refine SL.nil <| T.condF rfl <| T.skip ?_
        exact T.backW 0 (by omega) ⟨PMap.le_refl _, rfl, rfl⟩ (by repeat (first | exact Sub.nil | refine Sub.cons rfl ?_))
    rintro _ _ _ X3 ⟨hX3, rfl, rfl⟩
    have hw2 : wanT op ≤ 2 := by unfold wanT; split <;> omega
    refine T.seq <| T.seq <| T.region <| SL.v (op_fieldAddr fa36_3 rfl) <| SL.v (op_load ty34 rfl (by repeat constructor) rfl) ?_
    refine SL.v (op_lenS Tryz.underlying34 rfl) <| SL.v (op_move (v := .int .i64 ((0 : Nat) : Int)) rfl) <| SL.nil <| T.block <| T.drop B1 (by repeat constructor) ?_
    refine T.loopW (fun m env own X' => ∃ i : Nat, m = rows.length - i ∧ i ≤ rows.length ∧ X3.le X' ∧ fitFL (wanT op) (al.take i) = true ∧ env = [(3, .int .u8 (wanT op : Int)), (10, .slice Aa rows.length ca), (11, .int .i64 (rows.length : Int)), (12, .int .i64 (i : Int))] ∧ own = []) rows.length ⟨0, by simp, by omega, PMap.le_refl _, rfl, rfl, rfl⟩ (by repeat (first | exact Sub.nil | refine Sub.cons rfl ?_)) ?_
    rintro m _ _ X4 ⟨i, rfl, hi, hX4, hz, rfl, rfl⟩
    rcases Nat.lt_or_ge i rows.length with hil | hil
    · obtain ⟨r2, hr2⟩ : ∃ r2, rows[i]? = some r2 := ⟨_, List.getElem?_eq_getElem hil⟩
      obtain ⟨a, ha2⟩ : ∃ a, al[i]? = some a := ⟨_, List.getElem?_eq_getElem (by omega)⟩
      have hX04 := hX3.trans' hX4
      have hra := (hr i a r2 ha2 hr2).mono hX04
      obtain ⟨bA, pre, rfl, hbA⟩ := ha.blk (by omega)
      have hwa := wtFL_mem (List.mem_of_getElem? ha2)
      have hts := take_snoc ha2
      have hop := hra.op
      have hih := fun {X' : PMap} (hX : X4.le X') => ih (by omega) (by omega) (hra.mono hX)
      obtain ⟨o2, _, _, _, _, _, _, _, rfl⟩ := hra.form
      simp only [Value.int.injEq, true_and] at hop
      obtain rfl : o2 = a.op := by exact_mod_cast hop
      try simp only at hih
      have hsn : fitFL (wanT op) (al.take (i + 1)) = (decide (resT a.op = wanT op) && fitF a) := by
        rw [hts, fitFL_app, hz, fitFL, fitFL, Bool.and_true, Bool.true_and]
      have hfull : fitFL (wanT op) al = (fitFL (wanT op) (al.take (i + 1)) && fitFL (wanT op) (al.drop (i + 1))) := by
        rw [← fitFL_app, List.take_append_drop]
      have hr2' : resT a.op ≤ 2 := by unfold resT; split <;> omega
      by_cases hw : resT a.op = wanT op
      · cases hfa : fitF a with
        | true =>
          refine T.seq <| T.region <| SL.v (op_lssT rfl rfl (by omega)) ?_
          refine SL.nil <| T.seq <| T.condT rfl <| T.skip <| T.seq <| T.block <| T.seq <| T.region <| SL.v (op_indexN Tryz.underlying34 ty36 rfl rfl (by omega)) ?_
          refine SL.v (op_loadX ty36 rfl (hbA.mono hX04) (row_read rc4_len hr2 (by omega))) ?_
          refine SL.w (op_alloc z36) ?_
          rintro _ _ _ ⟨B5, rfl, rfl, rfl⟩
          refine SL.w (op_store ty36 rfl rfl (by repeat constructor) rfl rfl rfl) ?_
          rintro _ _ _ ⟨rfl, rfl⟩
          refine SL.nil <| T.seq <| T.region <| SL.v (op_fieldAddr fa36_0 rfl) <| SL.v (op_load ty33 rfl (by repeat constructor) rfl) ?_
          refine SL.w (op_callF en61 (vs := [_]) rfl (result_spec)) ?_
          rintro _ _ X5 ⟨rfl, hX5, rfl⟩
          refine SL.mv rfl <| SL.v (op_neqF rfl rfl (by omega)) ?_
          refine SL.mv rfl <| SL.v (op_load ty36 rfl (by repeat constructor) rfl) ?_
          refine SL.w (op_callF en60 (vs := [_]) rfl (hih hX5)) ?_
          rintro _ _ X6 ⟨rfl, hX6, rfl⟩
          rw [hfa]
          refine SL.v (op_not rfl) <| SL.v (op_pickF rfl rfl) <| SL.nil <| T.condF rfl <| T.skip <| T.blk <| T.region <| SL.v (op_addN (q := 1) rfl rfl (by omega)) ?_
          refine SL.mv rfl <| SL.nil <| T.drop B5 (by repeat constructor) ?_
          exact T.backW (rows.length - (i + 1)) (by omega) ⟨i + 1, rfl, by omega, (hX4.trans' hX5).trans' hX6, by rw [hsn, decide_eq_true hw, hfa]; rfl, rfl, rfl⟩ (by repeat (first | exact Sub.nil | refine Sub.cons rfl ?_))
        | false =>
          rw [hfull, hsn, hfa]
          refine T.seq <| T.region <| SL.v (op_lssT rfl rfl (by omega)) ?_
          refine SL.nil <| T.seq <| T.condT rfl <| T.skip <| T.seq <| T.block <| T.seq <| T.region <| SL.v (op_indexN Tryz.underlying34 ty36 rfl rfl (by omega)) ?_
          refine SL.v (op_loadX ty36 rfl (hbA.mono hX04) (row_read rc4_len hr2 (by omega))) ?_
          refine SL.w (op_alloc z36) ?_
          rintro _ _ _ ⟨B5, rfl, rfl, rfl⟩
          refine SL.w (op_store ty36 rfl rfl (by repeat constructor) rfl rfl rfl) ?_
          rintro _ _ _ ⟨rfl, rfl⟩
          refine SL.nil <| T.seq <| T.region <| SL.v (op_fieldAddr fa36_0 rfl) <| SL.v (op_load ty33 rfl (by repeat constructor) rfl) ?_
          refine SL.w (op_callF en61 (vs := [_]) rfl (result_spec)) ?_
          rintro _ _ X5 ⟨rfl, hX5, rfl⟩
          refine SL.mv rfl <| SL.v (op_neqF rfl rfl (by omega)) ?_
          refine SL.mv rfl <| SL.v (op_load ty36 rfl (by repeat constructor) rfl) ?_
          refine SL.w (op_callF en60 (vs := [_]) rfl (hih hX5)) ?_
          rintro _ _ X6 ⟨rfl, hX6, rfl⟩
          rw [hfa]
          refine SL.v (op_not rfl) <| SL.v (op_pickF rfl rfl) <| SL.nil <| T.condT rfl <| T.seq <| T.region <| SL.as rfl <| SL.nil <| T.ret1 rfl (ResIs.tmp rfl) ?_
          simp
      · rw [hfull, hsn, decide_eq_false hw]
        refine T.seq <| T.region <| SL.v (op_lssT rfl rfl (by omega)) ?_
        refine SL.nil <| T.seq <| T.condT rfl <| T.skip <| T.seq <| T.block <| T.seq <| T.region <| SL.v (op_indexN Tryz.underlying34 ty36 rfl rfl (by omega)) ?_
        refine SL.v (op_loadX ty36 rfl (hbA.mono hX04) (row_read rc4_len hr2 (by omega))) ?_
        refine SL.w (op_alloc z36) ?_
        rintro _ _ _ ⟨B5, rfl, rfl, rfl⟩
        refine SL.w (op_store ty36 rfl rfl (by repeat constructor) rfl rfl rfl) ?_
        rintro _ _ _ ⟨rfl, rfl⟩
        refine SL.nil <| T.seq <| T.region <| SL.v (op_fieldAddr fa36_0 rfl) <| SL.v (op_load ty33 rfl (by repeat constructor) rfl) ?_
        refine SL.w (op_callF en61 (vs := [_]) rfl (result_spec)) ?_
        rintro _ _ X5 ⟨rfl, hX5, rfl⟩
        refine SL.mv rfl <| SL.v (op_neqT rfl rfl (by omega)) ?_
        refine SL.mv rfl <| SL.skip rfl rfl ?_
        refine SL.skip rfl rfl ?_
        refine SL.skip rfl rfl ?_
        refine SL.v (op_pickT rfl rfl) <| SL.nil <| T.condT rfl <| T.seq <| T.region <| SL.as rfl <| SL.nil <| T.ret1 rfl (ResIs.tmp rfl) ?_
        simp
    · obtain rfl : i = rows.length := by omega
      rw [List.take_of_length_le (by omega)] at hz
      rw [hz]
      refine T.seq <| T.region <| SL.v (op_lssF rfl rfl (by omega)) ?_
      refine SL.nil <| T.seq <| T.condF rfl ?_
      refine T.exit (T.exitCode (T.exitCut (T.exitBlk ?_)))
      refine T.seq <| T.region <| SL.as rfl <| SL.nil <| T.ret1 rfl (ResIs.tmp rfl) ?_
      rfl
end Go.Proofs.YtnpcilglilfajaaGreatDoor
namespace Go.Proofs.YtnpcilglilfajaaGreatDoor
section
set_option maxRecDepth 100000
theorem en21 : Enters Tryz.prog 21 := enters_mk Tryz.func21 (by kernel_rfl) rfl
theorem en59 : Enters Tryz.prog 59 := enters_mk Tryz.func59 (by kernel_rfl) rfl
theorem en69 : Enters Tryz.prog 69 := enters_mk Tryz.func69 (by kernel_rfl) rfl
end
open Go.RowKit
mutual
/-- All roles are small. -/
def rolF : Fm → Prop
  | .mk _ _ rs al => (∀ r ∈ rs, r < 64) ∧ rolFL al
def rolFL : List Fm → Prop
  | [] => True
  | a :: al => rolF a ∧ rolFL al
end
theorem rolFL_mem {a : Fm} : ∀ {l : List Fm}, rolFL l → a ∈ l → rolF a
  | b :: l, h, ha => by
    rw [rolFL] at h
    rcases List.mem_cons.1 ha with rfl | ha
    · exact h.1
    · exact rolFL_mem h.2 ha
mutual
theorem insF_rol {kind : Nat} : ∀ f : Fm, insF kind f = 0 → rolF f
  | .mk op n rs al, h => by
    obtain ⟨h1, _, h3⟩ := insF_ok h
    obtain ⟨_, _, _, _, _, _, _, _, h9, _⟩ := ownF_ok h1
    rw [rolF]
    exact ⟨fun r hr => by have := h9 r hr; omega, insFL_rol al h3⟩
theorem insFL_rol {kind : Nat} : ∀ l : List Fm, insFL kind l = 0 → rolFL l
  | [], _ => by rw [rolFL]; trivial
  | a :: l, h => by
    have h1 : insF kind a = 0 := insFL_zero h a (by simp)
    rw [insFL, if_neg (fun h => h h1)] at h
    rw [rolFL]
    exact ⟨insF_rol a h1, insFL_rol l h⟩
end
theorem flook_spec {X : PMap} {f : Fm} {r : Row4} {kind : Nat} (hw : wtF f < 1000000) (hk : kind < 256) (h : FmR .u8 X f r) : Spec Tryz.prog 59 [.agg #[r.1, r.2.1, r.2.2.1, r.2.2.2], .int .u8 (kind : Int)] X fun u _ => u = .int .i64 (lookF kind f) := by
  have hc1 := fmeas_spec (X := X) (wtF f) (Nat.le_refl _) (by omega) h
  have hc2 := fun {X' : PMap} (hX : X.le X') => finside_spec (wtF f) (Nat.le_refl _) (by omega) hk (h.mono hX)
  obtain ⟨o, n, A, B, l, c, l', c', rfl⟩ := h.form
  try simp only at hc1
  try simp only at hc2
  rw [lookF]
  by_cases d : 10 < depF f
  · rw [if_pos (.inl d)]
    refine Spec.enter Tryz.func59 rfl Tryz.ntmps59 rfl ?_
    intro w0 hw0
    refine T.seq <| T.region <| SL.w (op_box rfl) ?_
    rintro _ _ _ ⟨B2, rfl, rfl, rfl⟩
    refine SL.v (op_assign (v := .int .i64 ((0 : Nat) : Int)) rfl) <| SL.nil <| T.seq <| T.region <| SL.v (op_load ty36 rfl (by repeat constructor) rfl) ?_
    refine SL.w (op_callF en112 (vs := [_]) rfl (hc1)) ?_
    rintro _ _ X1 ⟨rfl, hX1, rfl⟩
    refine SL.mv rfl <| SL.v (op_extract rfl rfl) <| SL.v (op_extract rfl rfl) <| SL.as rfl <| SL.as rfl <| SL.nil <| T.seq <| T.seq <| T.region <| SL.mv rfl <| SL.v (op_gtrT rfl rfl (by omega)) ?_
    refine SL.mv rfl <| SL.skip rfl rfl ?_
    refine SL.skip rfl rfl ?_
    refine SL.v (op_pickT rfl rfl) <| SL.nil <| T.condT rfl <| T.seq <| T.region <| SL.v (op_assign (v := .int .i64 ((3 : Nat) : Int)) rfl) <| SL.nil <| T.ret1 rfl (ResIs.tmp rfl) ?_
    rfl
  by_cases d2 : 200 < sizF f
  · rw [if_pos (.inr d2)]
    refine Spec.enter Tryz.func59 rfl Tryz.ntmps59 rfl ?_
    intro w0 hw0
    refine T.seq <| T.region <| SL.w (op_box rfl) ?_
    rintro _ _ _ ⟨B2, rfl, rfl, rfl⟩
    refine SL.v (op_assign (v := .int .i64 ((0 : Nat) : Int)) rfl) <| SL.nil <| T.seq <| T.region <| SL.v (op_load ty36 rfl (by repeat constructor) rfl) ?_
    refine SL.w (op_callF en112 (vs := [_]) rfl (hc1)) ?_
    rintro _ _ X1 ⟨rfl, hX1, rfl⟩
    refine SL.mv rfl <| SL.v (op_extract rfl rfl) <| SL.v (op_extract rfl rfl) <| SL.as rfl <| SL.as rfl <| SL.nil <| T.seq <| T.seq <| T.region <| SL.mv rfl <| SL.v (op_gtrF rfl rfl (by omega)) ?_
    refine SL.mv rfl <| SL.mv rfl <| SL.v (op_gtrT rfl rfl (by omega)) ?_
    refine SL.v (op_pickF rfl rfl) <| SL.nil <| T.condT rfl <| T.seq <| T.region <| SL.v (op_assign (v := .int .i64 ((3 : Nat) : Int)) rfl) <| SL.nil <| T.ret1 rfl (ResIs.tmp rfl) ?_
    rfl
  rw [if_neg (fun h => h.elim d d2)]
  refine Spec.enter Tryz.func59 rfl Tryz.ntmps59 rfl ?_
  intro w0 hw0
  refine T.seq <| T.region <| SL.w (op_box rfl) ?_
  rintro _ _ _ ⟨B2, rfl, rfl, rfl⟩
  refine SL.v (op_assign (v := .int .i64 ((0 : Nat) : Int)) rfl) <| SL.nil <| T.seq <| T.region <| SL.v (op_load ty36 rfl (by repeat constructor) rfl) ?_
  refine SL.w (op_callF en112 (vs := [_]) rfl (hc1)) ?_
  rintro _ _ X1 ⟨rfl, hX1, rfl⟩
  refine SL.mv rfl <| SL.v (op_extract rfl rfl) <| SL.v (op_extract rfl rfl) <| SL.as rfl <| SL.as rfl <| SL.nil <| T.seq <| T.seq <| T.region <| SL.mv rfl <| SL.v (op_gtrF rfl rfl (by omega)) ?_
  refine SL.mv rfl <| SL.mv rfl <| SL.v (op_gtrF rfl rfl (by omega)) ?_
  refine SL.v (op_pickF rfl rfl) <| SL.nil <| T.condF rfl <| T.skip <| T.seq <| T.region <| SL.v (op_load ty36 rfl (by repeat constructor) rfl) ?_
  refine SL.mv rfl <| SL.w (op_callF en113 (vs := [_, _]) rfl (hc2 hX1)) ?_
  rintro _ _ X2 ⟨rfl, hX2, rfl⟩
  refine SL.as rfl <| SL.nil <| T.ret1 rfl (ResIs.tmp rfl) ?_
  rfl
theorem ftyp_spec {X : PMap} {f : Fm} {r : Row4} (hw : wtF f < 1000000) (h : FmR .u8 X f r) : Spec Tryz.prog 15 [.agg #[r.1, r.2.1, r.2.2.1, r.2.2.2]] X fun u _ => u = .tuple #[.int .u8 ((typF f).1 : Int), .int .i64 (typF f).2] := by
  have hc1 := fun {X' : PMap} (hX : X.le X') => flook_spec (kind := 0) hw (by omega) (h.mono hX)
  have hc2 := fun {X' : PMap} (hX : X.le X') => ffits_spec (wtF f) (Nat.le_refl _) (by omega) (h.mono hX)
  have hop := h.op
  obtain ⟨o, n, A, B, l, c, l', c', rfl⟩ := h.form
  simp only [Value.int.injEq, true_and] at hop
  obtain rfl : o = f.op := by exact_mod_cast hop
  try simp only at hc1
  try simp only at hc2
  rw [typF]
  by_cases d : lookF 0 f = 0
  case neg =>
    rw [if_pos d]
    refine Spec.enter Tryz.func15 rfl Tryz.ntmps15 rfl ?_
    intro w0 hw0
    refine T.seq <| T.region <| SL.w (op_box rfl) ?_
    rintro _ _ _ ⟨B1, rfl, rfl, rfl⟩
    refine SL.v (op_assign (v := .int .u8 ((0 : Nat) : Int)) rfl) <| SL.v (op_assign (v := .int .i64 ((0 : Nat) : Int)) rfl) <| SL.nil <| T.seq <| T.seq <| T.region <| SL.v (op_load ty36 rfl (by repeat constructor) rfl) ?_
    refine SL.w (op_callF en59 (vs := [_, _]) rfl (hc1 (PMap.le_refl _))) ?_
    rintro _ _ X1 ⟨rfl, hX1, rfl⟩
    refine SL.as rfl <| SL.nil <| T.seq <| T.region <| SL.mv rfl <| SL.v (op_neqT rfl rfl (by omega)) ?_
    refine SL.nil <| T.condT rfl <| T.seq <| T.region <| SL.mv rfl <| SL.v (op_assign (v := .int .u8 ((0 : Nat) : Int)) rfl) <| SL.as rfl <| SL.nil <| T.ret2 rfl (ResIs.tmp rfl) (ResIs.tmp rfl) ?_
    rfl
  rw [if_neg (fun h => h d)]
  cases hf : fitF f with
  | false =>
    rw [if_pos rfl]
    refine Spec.enter Tryz.func15 rfl Tryz.ntmps15 rfl ?_
    intro w0 hw0
    refine T.seq <| T.region <| SL.w (op_box rfl) ?_
    rintro _ _ _ ⟨B1, rfl, rfl, rfl⟩
    refine SL.v (op_assign (v := .int .u8 ((0 : Nat) : Int)) rfl) <| SL.v (op_assign (v := .int .i64 ((0 : Nat) : Int)) rfl) <| SL.nil <| T.seq <| T.seq <| T.region <| SL.v (op_load ty36 rfl (by repeat constructor) rfl) ?_
    refine SL.w (op_callF en59 (vs := [_, _]) rfl (hc1 (PMap.le_refl _))) ?_
    rintro _ _ X1 ⟨rfl, hX1, rfl⟩
    rw [d]
    refine SL.as rfl <| SL.nil <| T.seq <| T.region <| SL.mv rfl <| SL.v (op_neqF rfl rfl (by omega)) ?_
    refine SL.nil <| T.condF rfl <| T.skip <| T.seq <| T.seq <| T.region <| SL.v (op_load ty36 rfl (by repeat constructor) rfl) ?_
    refine SL.w (op_callF en60 (vs := [_]) rfl (hc2 hX1)) ?_
    rintro _ _ X2 ⟨rfl, hX2, rfl⟩
    rw [hf]
    refine SL.v (op_not rfl) <| SL.nil <| T.condT rfl <| T.seq <| T.region <| SL.v (op_assign (v := .int .u8 ((0 : Nat) : Int)) rfl) <| SL.v (op_assign (v := .int .i64 ((10 : Nat) : Int)) rfl) <| SL.nil <| T.ret2 rfl (ResIs.tmp rfl) (ResIs.tmp rfl) ?_
    rfl
  | true =>
    rw [if_neg (by simp)]
    refine Spec.enter Tryz.func15 rfl Tryz.ntmps15 rfl ?_
    intro w0 hw0
    refine T.seq <| T.region <| SL.w (op_box rfl) ?_
    rintro _ _ _ ⟨B1, rfl, rfl, rfl⟩
    refine SL.v (op_assign (v := .int .u8 ((0 : Nat) : Int)) rfl) <| SL.v (op_assign (v := .int .i64 ((0 : Nat) : Int)) rfl) <| SL.nil <| T.seq <| T.seq <| T.region <| SL.v (op_load ty36 rfl (by repeat constructor) rfl) ?_
    refine SL.w (op_callF en59 (vs := [_, _]) rfl (hc1 (PMap.le_refl _))) ?_
    rintro _ _ X1 ⟨rfl, hX1, rfl⟩
    rw [d]
    refine SL.as rfl <| SL.nil <| T.seq <| T.region <| SL.mv rfl <| SL.v (op_neqF rfl rfl (by omega)) ?_
    refine SL.nil <| T.condF rfl <| T.skip <| T.seq <| T.seq <| T.region <| SL.v (op_load ty36 rfl (by repeat constructor) rfl) ?_
    refine SL.w (op_callF en60 (vs := [_]) rfl (hc2 hX1)) ?_
    rintro _ _ X2 ⟨rfl, hX2, rfl⟩
    rw [hf]
    refine SL.v (op_not rfl) <| SL.nil <| T.condF rfl <| T.skip <| T.seq <| T.region <| SL.v (op_fieldAddr fa36_0 rfl) <| SL.v (op_load ty33 rfl (by repeat constructor) rfl) ?_
    refine SL.w (op_callF en61 (vs := [_]) rfl (result_spec)) ?_
    rintro _ _ X3 ⟨rfl, hX3, rfl⟩
    refine SL.as rfl <| SL.v (op_assign (v := .int .i64 ((0 : Nat) : Int)) rfl) <| SL.nil <| T.ret2 rfl (ResIs.tmp rfl) (ResIs.tmp rfl) ?_
    rfl
theorem fment_spec (N : Nat) : ∀ {X : PMap} {f : Fm} {r : Row4}, wtF f ≤ N → N < 1000000 → rolF f → FmR .u8 X f r → Spec Tryz.prog 21 [.agg #[r.1, r.2.1, r.2.2.1, r.2.2.2]] X fun u X' => SetR X' u (menF f) := by
  induction N with
  | zero => intro X f r h; have := wtF_pos f; omega
  | succ N ih =>
    intro X f r hN hB hrol h
    cases h with
    | @mk op n rs al vn va rows hn ha hl hr =>
    obtain ⟨Aa, ca, rfl⟩ := ha.form
    obtain ⟨An, cn, rfl⟩ := hn.form
    have hlen := wtFL_len al
    rw [wtF] at hN
    rw [rolF] at hrol
    rw [menF]
    refine Spec.enter Tryz.func21 rfl Tryz.ntmps21 rfl ?_
    intro w0 hw0
    refine T.seq <| T.region <| SL.w (op_box rfl) ?_
    rintro _ _ _ ⟨B1, rfl, rfl, rfl⟩
    refine SL.w (op_alloc z53) ?_
    rintro _ _ _ ⟨B2, rfl, rfl, rfl⟩
    refine SL.nil <| T.seq <| T.region <| SL.v (op_fieldAddr fa36_2 rfl) <| SL.v (op_load ty24 rfl (by repeat constructor) rfl) ?_
    refine SL.w (op_callF en38 (vs := [_]) rfl (of_spec hn.1 hrol.1 (by omega))) ?_
    rintro _ _ X1 ⟨rfl, hX1, hS⟩
    obtain ⟨A1, l1, c1, rfl⟩ := hS.form
    refine SL.w (op_alloc z53) ?_
    rintro _ _ _ ⟨B3, rfl, rfl, rfl⟩
    refine SL.w (op_store ty53 rfl rfl (by repeat constructor) rfl rfl rfl) ?_
    rintro _ _ _ ⟨rfl, rfl⟩
    refine SL.nil <| T.seq <| T.seq <| T.region <| SL.v (op_fieldAddr fa36_3 rfl) <| SL.v (op_load ty34 rfl (by repeat constructor) rfl) ?_
    refine SL.v (op_lenS Tryz.underlying34 rfl) <| SL.v (op_move (v := .int .i64 ((0 : Nat) : Int)) rfl) <| SL.nil <| T.block <| T.drop B1 (by repeat constructor) ?_
    refine T.loopW (fun m env own X' => ∃ (i : Nat) (As : Option Addr) (ls cs : Nat), m = rows.length - i ∧ i ≤ rows.length ∧ X1.le X' ∧ SetR X' (.agg #[.slice As ls cs]) (mskF rs ||| menFL (al.take i)) ∧ env = [(2, .pointer (some ⟨B2, 0, none⟩)), (3, .pointer (some ⟨B3, 0, none⟩)), (10, .slice Aa rows.length ca), (11, .int .i64 (rows.length : Int)), (12, .int .i64 (i : Int))] ∧ own = [⟨B3, [.slice As ls cs], 53, 1⟩, ⟨B2, [.slice none 0 0], 53, 1⟩]) rows.length ⟨0, A1, l1, c1, by simp, by omega, PMap.le_refl _, by rw [List.take_zero, menFL, Nat.or_zero]; exact hS, rfl, rfl⟩ (by repeat (first | exact Sub.nil | refine Sub.cons rfl ?_)) ?_
    rintro m _ _ X4 ⟨i, As, ls, cs, rfl, hi, hX4, hS4, rfl, rfl⟩
    rcases Nat.lt_or_ge i rows.length with hil | hil
    · obtain ⟨r2, hr2⟩ : ∃ r2, rows[i]? = some r2 := ⟨_, List.getElem?_eq_getElem hil⟩
      obtain ⟨a, ha2⟩ : ∃ a, al[i]? = some a := ⟨_, List.getElem?_eq_getElem (by omega)⟩
      have hX04 := hX1.trans' hX4
      have hra := (hr i a r2 ha2 hr2).mono hX04
      have hma := List.mem_of_getElem? ha2
      obtain ⟨bA, pre, rfl, hbA⟩ := ha.blk (by omega)
      have hwa := wtFL_mem hma
      have hts := take_snoc ha2
      have hih := ih (by omega) (by omega) (rolFL_mem hrol.2 hma) hra
      obtain ⟨_, _, _, _, _, _, _, _, rfl⟩ := hra.form
      try simp only at hih
      refine T.seq <| T.region <| SL.v (op_lssT rfl rfl (by omega)) ?_
      refine SL.nil <| T.seq <| T.condT rfl <| T.skip <| T.seq <| T.block <| T.seq <| T.region <| SL.v (op_indexN Tryz.underlying34 ty36 rfl rfl (by omega)) ?_
      refine SL.v (op_loadX ty36 rfl (hbA.mono hX04) (row_read rc4_len hr2 (by omega))) ?_
      refine SL.w (op_alloc z36) ?_
      rintro _ _ _ ⟨B5, rfl, rfl, rfl⟩
      refine SL.w (op_store ty36 rfl rfl (by repeat constructor) rfl rfl rfl) ?_
      rintro _ _ _ ⟨rfl, rfl⟩
      refine SL.nil <| T.draw (by kernel_rfl) 4 [.t 0, .t 1, .r 2, .r 3] (by kernel_rfl) ?_
      refine SD.take rfl panicBody (op_load ty53 rfl (by repeat constructor) rfl) rfl rfl ?_
      refine SD.take rfl panicBody (op_load ty36 rfl (by repeat constructor) rfl) rfl rfl ?_
      refine SD.run rfl (op_callF en21 (vs := [_]) rfl (hih)) rfl rfl ?_
      rintro _ _ X5 ⟨rfl, hX5, hS5⟩
      obtain ⟨A5, l5, c5, rfl⟩ := hS5.form
      refine SD.run rfl (op_callF en69 (vs := [_, _]) rfl (or_spec (hS4.mono hX5) hS5)) rfl rfl ?_
      rintro _ _ X6 ⟨rfl, hX6, hS6⟩
      refine SD.nil ?_
      show SL _ _ _ _ _ _ _ [_] _ _ _
      obtain ⟨A6, l6, c6, rfl⟩ := hS6.form
      refine SL.w (op_store ty53 rfl rfl (by repeat constructor) rfl rfl rfl) ?_
      rintro _ _ _ ⟨rfl, rfl⟩
      refine SL.nil <| T.blk <| T.region <| SL.v (op_addN (q := 1) rfl rfl (by omega)) ?_
      refine SL.mv rfl <| SL.nil <| T.drop B5 (by repeat constructor) ?_
      exact T.backW (rows.length - (i + 1)) (by omega) ⟨i + 1, A6, l6, c6, rfl, by omega, (hX4.trans' hX5).trans' hX6, by rw [hts, menFL_app, menFL, menFL, Nat.or_zero, ← Nat.or_assoc]; exact hS6, rfl, rfl⟩ (by repeat (first | exact Sub.nil | refine Sub.cons rfl ?_))
    · obtain rfl : i = rows.length := by omega
      rw [List.take_of_length_le (by omega)] at hS4
      refine T.seq <| T.region <| SL.v (op_lssF rfl rfl (by omega)) ?_
      refine SL.nil <| T.seq <| T.condF rfl ?_
      refine T.exit (T.exitCode (T.exitCut (T.exitBlk ?_)))
      refine T.seq <| T.region <| SL.v (op_load ty53 rfl (by repeat constructor) rfl) ?_
      refine SL.w (op_store ty53 rfl rfl (by repeat constructor) rfl rfl rfl) ?_
      rintro _ _ _ ⟨rfl, rfl⟩
      refine SL.nil <| T.ret1 rfl (ResIs.cell rfl ty53 (by repeat constructor) rfl) ?_
      exact hS4
theorem fchk_spec {X : PMap} {f : Fm} {r : Row4} {kind : Nat} (hw : wtF f < 1000000) (hk : kind < 256) (h : FmR .u8 X f r) : Spec Tryz.prog 18 [.agg #[r.1, r.2.1, r.2.2.1, r.2.2.2], .int .u8 (kind : Int)] X fun u _ => u = .int .i64 (chkF kind f) := by
  have hc1 := fun {X' : PMap} (hX : X.le X') => flook_spec (kind := kind) hw hk (h.mono hX)
  have hc2 := fun {X' : PMap} (hX : X.le X') => ffits_spec (wtF f) (Nat.le_refl _) (by omega) (h.mono hX)
  have hc3 := fun {X' : PMap} (hrol : rolF f) (hX : X.le X') => fment_spec (wtF f) (Nat.le_refl _) (by omega) hrol (h.mono hX)
  have hop := h.op
  obtain ⟨o, n, A, B, l, c, l', c', rfl⟩ := h.form
  simp only [Value.int.injEq, true_and] at hop
  obtain rfl : o = f.op := by exact_mod_cast hop
  try simp only at hc1
  try simp only at hc2
  try simp only at hc3
  have hr2 : resT f.op ≤ 2 := by unfold resT; split <;> omega
  rw [chkF]
  by_cases k1 : kind < 1
  · rw [if_pos (.inl k1)]
    refine Spec.enter Tryz.func18 rfl Tryz.ntmps18 rfl ?_
    intro w0 hw0
    refine T.seq <| T.region <| SL.w (op_box rfl) ?_
    rintro _ _ _ ⟨B2, rfl, rfl, rfl⟩
    refine SL.v (op_assign (v := .int .i64 ((0 : Nat) : Int)) rfl) <| SL.nil <| T.seq <| T.seq <| T.region <| SL.mv rfl <| SL.v (op_lssT rfl rfl (by omega)) ?_
    refine SL.mv rfl <| SL.skip rfl rfl ?_
    refine SL.skip rfl rfl ?_
    refine SL.v (op_pickT rfl rfl) <| SL.nil <| T.condT rfl <| T.seq <| T.region <| SL.v (op_assign (v := .int .i64 ((1 : Nat) : Int)) rfl) <| SL.nil <| T.ret1 rfl (ResIs.tmp rfl) ?_
    rfl
  by_cases k2 : 3 < kind
  · rw [if_pos (.inr k2)]
    refine Spec.enter Tryz.func18 rfl Tryz.ntmps18 rfl ?_
    intro w0 hw0
    refine T.seq <| T.region <| SL.w (op_box rfl) ?_
    rintro _ _ _ ⟨B2, rfl, rfl, rfl⟩
    refine SL.v (op_assign (v := .int .i64 ((0 : Nat) : Int)) rfl) <| SL.nil <| T.seq <| T.seq <| T.region <| SL.mv rfl <| SL.v (op_lssF rfl rfl (by omega)) ?_
    refine SL.mv rfl <| SL.mv rfl <| SL.v (op_gtrT rfl rfl (by omega)) ?_
    refine SL.v (op_pickF rfl rfl) <| SL.nil <| T.condT rfl <| T.seq <| T.region <| SL.v (op_assign (v := .int .i64 ((1 : Nat) : Int)) rfl) <| SL.nil <| T.ret1 rfl (ResIs.tmp rfl) ?_
    rfl
  rw [if_neg (fun h => h.elim k1 k2)]
  refine Spec.enter Tryz.func18 rfl Tryz.ntmps18 rfl ?_
  intro w0 hw0
  refine T.seq <| T.region <| SL.w (op_box rfl) ?_
  rintro _ _ _ ⟨B2, rfl, rfl, rfl⟩
  refine SL.v (op_assign (v := .int .i64 ((0 : Nat) : Int)) rfl) <| SL.nil <| T.seq <| T.seq <| T.region <| SL.mv rfl <| SL.v (op_lssF rfl rfl (by omega)) ?_
  refine SL.mv rfl <| SL.mv rfl <| SL.v (op_gtrF rfl rfl (by omega)) ?_
  refine SL.v (op_pickF rfl rfl) <| SL.nil <| T.condF rfl <| T.skip <| T.seq <| T.seq <| T.region <| SL.v (op_load ty36 rfl (by repeat constructor) rfl) ?_
  refine SL.mv rfl <| SL.w (op_callF en59 (vs := [_, _]) rfl (hc1 (PMap.le_refl _))) ?_
  rintro _ _ X1 ⟨rfl, hX1, rfl⟩
  by_cases d : lookF kind f = 0
  case neg =>
    rw [if_pos d]
    refine SL.as rfl <| SL.nil <| T.seq <| T.region <| SL.mv rfl <| SL.v (op_neqT rfl rfl (by omega)) ?_
    refine SL.nil <| T.condT rfl <| T.seq <| T.region <| SL.mv rfl <| SL.as rfl <| SL.nil <| T.ret1 rfl (ResIs.tmp rfl) ?_
    rfl
  rw [if_neg (fun h => h d), d]
  refine SL.as rfl <| SL.nil <| T.seq <| T.region <| SL.mv rfl <| SL.v (op_neqF rfl rfl (by omega)) ?_
  refine SL.nil <| T.condF rfl <| T.skip <| T.seq <| T.seq <| T.region <| SL.v (op_load ty36 rfl (by repeat constructor) rfl) ?_
  refine SL.w (op_callF en60 (vs := [_]) rfl (hc2 hX1)) ?_
  rintro _ _ X2 ⟨rfl, hX2, rfl⟩
  cases hf : fitF f with
  | false =>
    rw [if_pos (.inl rfl)]
    refine SL.v (op_not rfl) <| SL.mv rfl <| SL.skip rfl rfl ?_
    refine SL.skip rfl rfl ?_
    refine SL.skip rfl rfl ?_
    refine SL.skip rfl rfl ?_
    refine SL.v (op_pickT rfl rfl) <| SL.nil <| T.condT rfl <| T.seq <| T.region <| SL.v (op_assign (v := .int .i64 ((10 : Nat) : Int)) rfl) <| SL.nil <| T.ret1 rfl (ResIs.tmp rfl) ?_
    rfl
  | true =>
    refine SL.v (op_not rfl) <| SL.mv rfl <| SL.v (op_fieldAddr fa36_0 rfl) <| SL.v (op_load ty33 rfl (by repeat constructor) rfl) ?_
    refine SL.w (op_callF en61 (vs := [_]) rfl (result_spec)) ?_
    rintro _ _ X3 ⟨rfl, hX3, rfl⟩
    by_cases hres : resT f.op = 1
    case neg =>
      rw [if_pos (.inr hres)]
      refine SL.v (op_neqT rfl rfl (by omega)) ?_
      refine SL.v (op_pickF rfl rfl) <| SL.nil <| T.condT rfl <| T.seq <| T.region <| SL.v (op_assign (v := .int .i64 ((10 : Nat) : Int)) rfl) <| SL.nil <| T.ret1 rfl (ResIs.tmp rfl) ?_
      rfl
    rw [if_neg (by simp [hres])]
    by_cases k3 : kind = 3
    · rw [if_neg (fun h => h.1 k3)]
      refine SL.v (op_neqF rfl rfl (by omega)) ?_
      refine SL.v (op_pickF rfl rfl) <| SL.nil <| T.condF rfl <| T.skip <| T.seq <| T.seq <| T.region <| SL.mv rfl <| SL.v (op_neqF rfl rfl (by omega)) ?_
      refine SL.mv rfl <| SL.skip rfl rfl ?_
      refine SL.skip rfl rfl ?_
      refine SL.skip rfl rfl ?_
      refine SL.skip rfl rfl ?_
      refine SL.v (op_pickF rfl rfl) <| SL.nil <| T.condF rfl <| T.skip <| T.seq <| T.region <| SL.v (op_assign (v := .int .i64 ((0 : Nat) : Int)) rfl) <| SL.nil <| T.ret1 rfl (ResIs.tmp rfl) ?_
      rfl
    have hin : insF kind f = 0 := by
      rw [lookF] at d
      split at d
      · cases d
      · exact d
    refine SL.v (op_neqF rfl rfl (by omega)) ?_
    refine SL.v (op_pickF rfl rfl) <| SL.nil <| T.condF rfl <| T.skip <| T.seq <| T.seq <| T.region <| SL.mv rfl <| SL.v (op_neqT rfl rfl (by omega)) ?_
    refine SL.mv rfl <| SL.v (op_load ty36 rfl (by repeat constructor) rfl) ?_
    refine SL.w (op_callF en21 (vs := [_]) rfl (hc3 (insF_rol f hin) ((hX1.trans' hX2).trans' hX3))) ?_
    rintro _ _ X4 ⟨rfl, hX4, hS⟩
    obtain ⟨A6, l6, c6, rfl⟩ := hS.form
    refine SL.w (op_callF en22 (vs := [_]) rfl (len_exact hS)) ?_
    rintro _ _ X5 ⟨rfl, hX5, rfl⟩
    rw [cnt_mem]
    by_cases h8 : 8 < cntB 64 (menF f)
    · rw [if_pos ⟨k3, h8⟩]
      refine SL.v (op_gtrT rfl rfl (by omega)) ?_
      refine SL.v (op_pickT rfl rfl) <| SL.nil <| T.condT rfl <| T.seq <| T.region <| SL.v (op_assign (v := .int .i64 ((3 : Nat) : Int)) rfl) <| SL.nil <| T.ret1 rfl (ResIs.tmp rfl) ?_
      rfl
    · rw [if_neg (fun h => h8 h.2)]
      refine SL.v (op_gtrF rfl rfl (by omega)) ?_
      refine SL.v (op_pickT rfl rfl) <| SL.nil <| T.condF rfl <| T.skip <| T.seq <| T.region <| SL.v (op_assign (v := .int .i64 ((0 : Nat) : Int)) rfl) <| SL.nil <| T.ret1 rfl (ResIs.tmp rfl) ?_
      rfl
end Go.Proofs.YtnpcilglilfajaaGreatDoor
namespace Go.Proofs.YtnpcilglilfajaaGreatDoor
open Go.RowKit
end Go.Proofs.YtnpcilglilfajaaGreatDoor
namespace Go.Proofs.YtnpcilglilfajaaGreatDoor
open Go.RowKit
end Go.Proofs.YtnpcilglilfajaaGreatDoor
namespace Go.Proofs.YtnpcilglilfajaaGreatDoor
section
set_option maxRecDepth 100000
theorem bs36 : ∃ i z, Tryz.prog.info? 36 = some i ∧ i.size = 4 ∧ i.zero = some z ∧ z.cells = ([.int .u8 0, .int .i64 0, .slice none 0 0, .slice none 0 0] : List Value).toArray := bs_of (by kernel_rfl)
theorem sl34 : SlT Tryz.prog 34 36 4 64 := ⟨Tryz.underlying34, sl_of (by kernel_rfl) (by decide)⟩
theorem st36 : StT Tryz.prog 36 [(0, 1), (1, 1), (2, 1), (3, 1)] [.int .u8 0, .int .i64 0, .slice none 0 0, .slice none 0 0] := ⟨⟨_, Tryz.underlying36, fun _ => by kernel_rfl, z36⟩⟩
end
open Go.RowKit
abbrev S3F (b : Nat) (op : Nat) (n : Int) (vn va : Value) : Ow := ⟨b, [.int .u8 (op : Int), .int .i64 n, vn, va], 36, 4⟩
end Go.Proofs.YtnpcilglilfajaaGreatDoor
namespace Go.Proofs.YtnpcilglilfajaaGreatDoor
section
set_option maxRecDepth 100000
theorem en124 : Enters Tryz.prog 124 := enters_mk Tryz.func124 (by kernel_rfl) rfl
theorem en36 : Enters Tryz.prog 36 := enters_mk Tryz.func36 (by kernel_rfl) rfl
theorem en74 : Enters Tryz.prog 74 := enters_mk Tryz.func74 (by kernel_rfl) rfl
end
open Go.RowKit
abbrev S3E (b : Nat) (op : Nat) (n : Int) (vn va : Value) : Ow := ⟨b, [.int .u8 (op : Int), .int .i64 n, vn, va], 70, 4⟩
abbrev SetO (b : Nat) (A : Option Addr) (l c : Nat) : Ow := ⟨b, [.slice A l c], 53, 1⟩
theorem numb_spec (N : Nat) : ∀ {X : PMap} {e : Ex} {r : Row4} {vt vs : Value} {ns : List ByteArray} {adm : Nat}, wtE e ≤ N → N < 100000000 → ns.length ≤ 63 → TabR X vt ns → SetR X vs adm → ExR .u8 X e r → Spec Tryz.prog 74 [.agg #[r.1, r.2.1, r.2.2.1, r.2.2.2], vt, vs] X fun u X' => ∃ r' : Row4, u = .tuple #[.agg #[r'.1, r'.2.1, r'.2.2.1, r'.2.2.2], .bool (numbF ns adm e).isSome] ∧ FmR .u8 X' ((numbF ns adm e).getD zeF) r' := by
  induction N with
  | zero => intro X e r _ _ _ _ h; cases e; rw [wtE] at h; omega
  | succ N ih =>
    intro X e r vt vs ns adm hN hB h63 hT hS h
    have hmx : maxLen = 9223372036854775807 := rfl
    cases h with
    | @mk op n l al vn va rows hn ha hl hr =>
    obtain ⟨Aa, ca, rfl⟩ := ha.form
    obtain ⟨An, cn, rfl⟩ := hn.form
    obtain ⟨As, ls, cs, rfl⟩ := hS.form
    have hlen := wtL_len al
    have hnl := wtS_len l
    rw [wtE] at hN
    refine Spec.enter Tryz.func74 rfl Tryz.ntmps74 rfl ?_
    intro w0 hw0
    refine T.seq <| T.region <| SL.w (op_box rfl) ?_
    rintro _ _ _ ⟨B3, rfl, rfl, rfl⟩
    refine SL.w (op_box rfl) ?_
    rintro _ _ _ ⟨B5, rfl, rfl, rfl⟩
    refine SL.w (op_alloc z36) ?_
    rintro _ _ _ ⟨B6, rfl, rfl, rfl⟩
    refine SL.as rfl <| SL.nil <| T.seq <| T.region <| SL.v (op_fieldAddr fa70_0 rfl) <| SL.v (op_load ty33 rfl (by repeat constructor) rfl) ?_
    refine SL.v (op_fieldAddr fa70_1 rfl) <| SL.v (op_load ty3 rfl (by repeat constructor) rfl) ?_
    refine SL.v (op_build st36 (qs := [(0, _), (1, _)]) rfl rfl) <| SL.w (op_alloc z36) ?_
    rintro _ _ _ ⟨B8, rfl, rfl, rfl⟩
    refine SL.w (op_store ty36 rfl rfl (by repeat constructor) rfl rfl rfl) ?_
    rintro _ _ _ ⟨rfl, rfl⟩
    refine SL.nil <| T.seq <| T.seq <| T.region <| SL.v (op_fieldAddr fa70_2 rfl) <| SL.v (op_load ty59 rfl (by repeat constructor) rfl) ?_
    refine SL.v (op_lenS Tryz.underlying59 rfl) <| SL.v (op_move (v := .int .i64 ((0 : Nat) : Int)) rfl) <| SL.nil <| T.block <| T.loopW (fun m env own X' => ∃ (i : Nat) (vn : Value) (Gn : Own) (rs : List Nat), m = l.length - i ∧ i ≤ l.length ∧ X.le X' ∧ numbN ns adm (l.take i) = some rs ∧ rs.length = i ∧ GrowS 3 1 vn rs.length (ints rs) Gn ∧ env = [(1, vt), (3, .pointer (some ⟨B3, 0, none⟩)), (5, .pointer (some ⟨B5, 0, none⟩)), (6, .pointer (some ⟨B6, 0, none⟩)), (8, .pointer (some ⟨B8, 0, none⟩)), (23, .slice An l.length cn), (24, .int .i64 (l.length : Int)), (25, .int .i64 (i : Int))] ∧ own = S3F B8 op n vn (.slice none 0 0) :: S3F B6 0 0 (.slice none 0 0) (.slice none 0 0) :: SetO B5 As ls cs :: S3E B3 op n (.slice An l.length cn) (.slice Aa rows.length ca) :: Gn) l.length ⟨0, _, [], [], by simp, by omega, PMap.le_refl _, rfl, rfl, GrowS.nil, rfl, rfl⟩ (by repeat (first | exact Sub.nil | refine Sub.cons rfl ?_)) ?_
    rintro m _ _ X1 ⟨i, vn1, Gn, rs, rfl, hi, hX1, hrs, hrsl, hGn, rfl, rfl⟩
    obtain ⟨An1, cn1, rfl⟩ := hGn.form
    rcases Nat.lt_or_ge i l.length with hil | hil
    · obtain ⟨s, hs⟩ : ∃ s, l[i]? = some s := ⟨_, List.getElem?_eq_getElem hil⟩
      obtain ⟨bN, preN, rfl, hbN⟩ := hn.blk (by omega)
      have hple := posN_le (s := s) (ns := ns)
      refine T.seq <| T.region <| SL.v (op_lssT rfl rfl (by omega)) ?_
      refine SL.nil <| T.seq <| T.condT rfl <| T.skip <| T.seq <| T.block <| T.seq <| T.region <| SL.v (op_indexN Tryz.underlying59 ty9 rfl rfl (by omega)) ?_
      refine SL.v (op_loadX ty9 rfl (hbN.mono hX1) (str_read hs (by omega))) ?_
      refine SL.as rfl <| SL.nil <| T.seq <| T.region <| SL.mv rfl <| SL.mv rfl <| SL.w (op_callF en36 (vs := [_, _]) rfl (numT_spec (s := s) (hT.mono hX1))) ?_
      rintro _ _ X2 ⟨rfl, hX2, rfl⟩
      by_cases hp : posN s ns = 0
      · have hno := numb_no1 (op := op) (n := n) (al := al) (numbN_bad (adm := adm) hs (.inl hp))
        rw [show decide (posN s ns ≠ 0) = false from decide_eq_false (by simpa using hp)]
        refine SL.mv rfl <| SL.v (op_extract rfl rfl) <| SL.v (op_extract rfl rfl) <| SL.as rfl <| SL.as rfl <| SL.nil <| T.seq <| T.seq <| T.region <| SL.mv rfl <| SL.v (op_not rfl) <| SL.mv rfl <| SL.skip rfl rfl ?_
        refine SL.skip rfl rfl ?_
        refine SL.skip rfl rfl ?_
        refine SL.v (op_pickT rfl rfl) <| SL.nil <| T.condT rfl <| T.seq <| T.region <| SL.v (op_build st36 (qs := []) rfl rfl) <| SL.w (op_store ty36 rfl rfl (by repeat constructor) rfl rfl rfl) ?_
        rintro _ _ _ ⟨rfl, rfl⟩
        refine SL.as rfl <| SL.nil <| T.ret2 rfl (ResIs.cell rfl ty36 (by repeat constructor) rfl) (ResIs.tmp rfl) ?_
        rw [hno]
        exact ⟨_, rfl, zeF_R⟩
      rw [show decide (posN s ns ≠ 0) = true from decide_eq_true hp]
      refine SL.mv rfl <| SL.v (op_extract rfl rfl) <| SL.v (op_extract rfl rfl) <| SL.as rfl <| SL.as rfl <| SL.nil <| T.seq <| T.seq <| T.region <| SL.mv rfl <| SL.v (op_not rfl) <| SL.mv rfl <| SL.v (op_load ty53 rfl (by repeat constructor) rfl) ?_
      refine SL.mv rfl <| SL.w (op_callF en124 (vs := [_, _]) rfl (has_spec ((hS.mono hX1).mono hX2) (posN s ns : Int))) ?_
      rintro _ _ X3 ⟨rfl, hX3, rfl⟩
      by_cases hb : adm.testBit (posN s ns) = true
      · have hno := numb_no1 (op := op) (n := n) (al := al) (numbN_bad (adm := adm) hs (.inr hb))
        rw [show hasB adm (posN s ns : Int) = true by simp [hasB, hb]]
        refine SL.v (op_pickF rfl rfl) <| SL.nil <| T.condT rfl <| T.seq <| T.region <| SL.v (op_build st36 (qs := []) rfl rfl) <| SL.w (op_store ty36 rfl rfl (by repeat constructor) rfl rfl rfl) ?_
        rintro _ _ _ ⟨rfl, rfl⟩
        refine SL.as rfl <| SL.nil <| T.ret2 rfl (ResIs.cell rfl ty36 (by repeat constructor) rfl) (ResIs.tmp rfl) ?_
        rw [hno]
        exact ⟨_, rfl, zeF_R⟩
      rw [show hasB adm (posN s ns : Int) = false by simp [hasB, hb]]
      refine SL.v (op_pickF rfl rfl) <| SL.nil <| T.condF rfl <| T.skip <| T.region <| SL.v (op_fieldAddr fa36_2 rfl) <| SL.v (op_load ty24 rfl (by repeat constructor) rfl) ?_
      refine SL.mv rfl <| SL.w (op_buildSlice Tryz.underlying24 bs3 (qs := [(0, _)]) rfl rfl rfl rfl rfl) ?_
      rintro _ _ _ ⟨B46, rfl, rfl, rfl⟩
      refine SL.w (op_appendGA (own0 := [_, _, _, _, _]) (m := 1) sl24 rfl hGn rfl (Src.ofOwn0 AtO.here rfl) (by intro y hy; have hy : y ∈ [Value.int _ _] := hy; simp only [List.mem_cons, List.not_mem_nil, or_false] at hy; rcases hy with rfl; rfl) (by omega) (by omega)) ?_
      rintro vn9 _ _ ⟨Gn9, rfl, rfl, hGn9⟩
      obtain ⟨An9, cn9, rfl⟩ := hGn9.form
      refine SL.v (op_fieldAddr fa36_2 rfl) <| SL.w (op_store ty24 rfl rfl (by repeat constructor) rfl rfl rfl) ?_
      rintro _ _ _ ⟨rfl, rfl⟩
      refine SL.nil <| T.blk <| T.region <| SL.v (op_addN (q := 1) rfl rfl (by omega)) ?_
      refine SL.mv rfl <| SL.nil <| T.less (List.sublist_cons_self _ _) ?_
      have hGn10 : GrowS 3 1 (.slice An9 (rs.length + 1) cn9) (rs ++ [posN s ns]).length (ints (rs ++ [posN s ns])) Gn9 := by
        rw [List.length_append, show ints (rs ++ [posN s ns]) = ints rs ++ ints [posN s ns] by simp [ints]]
        exact hGn9
      exact T.backW (l.length - (i + 1)) (by omega) ⟨i + 1, _, _, rs ++ [posN s ns], rfl, by omega, (hX1.trans' hX2).trans' hX3, numbN_snoc hs (fun h => h.elim hp hb) hrs, by rw [List.length_append, hrsl]; rfl, hGn10, rfl, rfl⟩ (by repeat (first | exact Sub.nil | refine Sub.cons rfl ?_))
    obtain rfl : i = l.length := by omega
    rw [List.take_of_length_le (by omega)] at hrs
    refine T.seq <| T.region <| SL.v (op_lssF rfl rfl (by omega)) ?_
    refine SL.nil <| T.seq <| T.condF rfl ?_
    refine T.exit (T.exitCode (T.exitCut (T.exitBlk ?_)))
    refine T.seq <| T.seq <| T.region <| SL.v (op_fieldAddr fa70_3 rfl) <| SL.v (op_load ty68 rfl (by repeat constructor) rfl) ?_
    refine SL.v (op_lenS Tryz.underlying68 rfl) <| SL.v (op_move (v := .int .i64 ((0 : Nat) : Int)) rfl) <| SL.nil <| T.block <| T.pubG (own0 := [_, _, _, _]) hGn ?_
    intro Y1 hY1 hS1
    have hXY := hX1.trans' hY1
    have hN1 := IntsR.ofG hGn hS1
    obtain ⟨vn8, hvn8⟩ : ∃ v, v = Value.slice An1 rs.length cn1 := ⟨_, rfl⟩
    refine T.drop B3 (by repeat constructor) ?_
    refine T.loopW (fun m env own X' => ∃ (i : Nat) (va : Value) (Ga : Own) (bl : List Fm) (qs : List Row4), m = rows.length - i ∧ i ≤ rows.length ∧ Y1.le X' ∧ numbL ns adm (al.take i) = some bl ∧ bl.length = i ∧ qs.length = i ∧ GrowS 36 4 va qs.length (qs.map rc4).flatten Ga ∧ (∀ (q : Nat) (a : Fm) (r : Row4), bl[q]? = some a → qs[q]? = some r → FmR .u8 X' a r) ∧ env = [(1, vt), (5, .pointer (some ⟨B5, 0, none⟩)), (6, .pointer (some ⟨B6, 0, none⟩)), (8, .pointer (some ⟨B8, 0, none⟩)), (51, .slice Aa rows.length ca), (52, .int .i64 (rows.length : Int)), (53, .int .i64 (i : Int))] ∧ own = S3F B8 op n (.slice An1 rs.length cn1) va :: S3F B6 0 0 (.slice none 0 0) (.slice none 0 0) :: SetO B5 As ls cs :: Ga) rows.length ⟨0, _, [], [], [], by simp, by omega, PMap.le_refl _, rfl, rfl, rfl, GrowS.nil, fun q a r _ h => by simp at h, rfl, rfl⟩ (by repeat (first | exact Sub.nil | refine Sub.cons rfl ?_)) ?_
    rintro m _ _ X2 ⟨i, va, Ga, bl, qs, rfl, hi, hX2, hbl, hbll, hqsl, hGa, hqs, rfl, rfl⟩
    obtain ⟨Aa7, ca7, rfl⟩ := hGa.form
    rcases Nat.lt_or_ge i rows.length with hil | hil
    · obtain ⟨r2, hr2⟩ : ∃ r2, rows[i]? = some r2 := ⟨_, List.getElem?_eq_getElem hil⟩
      obtain ⟨a, ha2⟩ : ∃ a, al[i]? = some a := ⟨_, List.getElem?_eq_getElem (by omega)⟩
      have hra := (hr i a r2 ha2 hr2).mono (hXY.trans' hX2)
      obtain ⟨bA, pre, rfl, hbA⟩ := ha.blk (by omega)
      have hma := List.mem_of_getElem? ha2
      have hwa := wtL_mem hma
      have hih := ih (by omega) (by omega) h63 (hT.mono (hXY.trans' hX2)) (hS.mono (hXY.trans' hX2)) hra
      obtain ⟨_, _, _, _, _, _, _, _, rfl⟩ := hra.form
      try simp only at hih
      refine T.seq <| T.region <| SL.v (op_lssT rfl rfl (by omega)) ?_
      refine SL.nil <| T.seq <| T.condT rfl <| T.skip <| T.seq <| T.block <| T.seq <| T.region <| SL.v (op_indexN Tryz.underlying68 ty70 rfl rfl (by omega)) ?_
      refine SL.v (op_loadX ty70 rfl (hbA.mono (hXY.trans' hX2)) (row_read rc4_len hr2 (by omega))) ?_
      refine SL.w (op_alloc z70) ?_
      rintro _ _ _ ⟨B14, rfl, rfl, rfl⟩
      refine SL.w (op_store ty70 rfl rfl (by repeat constructor) rfl rfl rfl) ?_
      rintro _ _ _ ⟨rfl, rfl⟩
      refine SL.nil <| T.seq <| T.region <| SL.v (op_load ty70 rfl (by repeat constructor) rfl) ?_
      refine SL.mv rfl <| SL.v (op_load ty53 rfl (by repeat constructor) rfl) ?_
      refine SL.w (op_callF en74 (vs := [_, _, _]) rfl (hih)) ?_
      rintro _ _ X3 ⟨rfl, hX3, r8, rfl, hr8⟩
      obtain ⟨o8, n8, a8, b8, l8, c8, l9, c9, rfl⟩ := hr8.form
      cases hnf : numbF ns adm a with
      | none =>
        have hno := numb_no2 (op := op) (n := n) (l := l) (numbL_bad (adm := adm) ha2 hnf)
        rw [Option.isSome_none]
        refine SL.mv rfl <| SL.v (op_extract rfl rfl) <| SL.v (op_extract rfl rfl) <| SL.w (op_alloc z36) ?_
        rintro _ _ _ ⟨B15, rfl, rfl, rfl⟩
        refine SL.w (op_store ty36 rfl rfl (by repeat constructor) rfl rfl rfl) ?_
        rintro _ _ _ ⟨rfl, rfl⟩
        refine SL.as rfl <| SL.nil <| T.seq <| T.seq <| T.region <| SL.mv rfl <| SL.v (op_not rfl) <| SL.nil <| T.condT rfl <| T.seq <| T.region <| SL.v (op_build st36 (qs := []) rfl rfl) <| SL.w (op_store ty36 rfl rfl (by repeat constructor) rfl rfl rfl) ?_
        rintro _ _ _ ⟨rfl, rfl⟩
        refine SL.as rfl <| SL.nil <| T.ret2 rfl (ResIs.cell rfl ty36 (by repeat constructor) rfl) (ResIs.tmp rfl) ?_
        rw [hno]
        exact ⟨_, rfl, zeF_R⟩
      | some f =>
        rw [hnf] at hr8
        rw [Option.isSome_some]
        refine SL.mv rfl <| SL.v (op_extract rfl rfl) <| SL.v (op_extract rfl rfl) <| SL.w (op_alloc z36) ?_
        rintro _ _ _ ⟨B15, rfl, rfl, rfl⟩
        refine SL.w (op_store ty36 rfl rfl (by repeat constructor) rfl rfl rfl) ?_
        rintro _ _ _ ⟨rfl, rfl⟩
        refine SL.as rfl <| SL.nil <| T.seq <| T.seq <| T.region <| SL.mv rfl <| SL.v (op_not rfl) <| SL.nil <| T.condF rfl <| T.skip <| T.region <| SL.v (op_fieldAddr fa36_3 rfl) <| SL.v (op_load ty34 rfl (by repeat constructor) rfl) ?_
        refine SL.v (op_load ty36 rfl (by repeat constructor) rfl) ?_
        refine SL.w (op_buildSlice Tryz.underlying34 bs36 (qs := [(0, _)]) rfl rfl rfl rfl rfl) ?_
        rintro _ _ _ ⟨B70, rfl, rfl, rfl⟩
        refine SL.w (op_appendGA (own0 := [_, _, _, _, _, _]) (m := 1) sl34 rfl hGa rfl (Src.ofOwn0 AtO.here rfl) (by intro y hy; have hy : y ∈ [Value.int _ _, Value.int _ _, Value.slice _ _ _, Value.slice _ _ _] := hy; simp only [List.mem_cons, List.not_mem_nil, or_false] at hy; rcases hy with rfl | rfl | rfl | rfl <;> rfl) (by omega) (by omega)) ?_
        rintro va9 _ _ ⟨Ga9, rfl, rfl, hGa9⟩
        obtain ⟨Aa9, ca9, rfl⟩ := hGa9.form
        refine SL.v (op_fieldAddr fa36_3 rfl) <| SL.w (op_store ty34 rfl rfl (by repeat constructor) rfl rfl rfl) ?_
        rintro _ _ _ ⟨rfl, rfl⟩
        refine SL.nil <| T.blk <| T.region <| SL.v (op_addN (q := 1) rfl rfl (by omega)) ?_
        refine SL.mv rfl <| SL.nil <| T.less (List.sublist_cons_self _ _) ?_
        refine T.less (List.sublist_cons_self _ _) ?_
        refine T.less (List.sublist_cons_self _ _) ?_
        have hGa10 : GrowS 36 4 (.slice Aa9 (qs.length + 1) ca9) (qs ++ [((.int .u8 (o8 : Int), .int .i64 n8, .slice a8 l8 c8, .slice b8 l9 c9) : Row4)]).length (((qs ++ [((.int .u8 (o8 : Int), .int .i64 n8, .slice a8 l8 c8, .slice b8 l9 c9) : Row4)]).map rc4).flatten) Ga9 := by
          rw [List.length_append, List.map_append, List.flatten_append]
          exact hGa9
        have hrows2 : ∀ (q : Nat) (a : Fm) (r : Row4), (bl ++ [f])[q]? = some a → (qs ++ [((.int .u8 (o8 : Int), .int .i64 n8, .slice a8 l8 c8, .slice b8 l9 c9) : Row4)])[q]? = some r → FmR .u8 X3 a r := rows_snoc2 (by omega) (fun q a r h1 h2 => (hqs q a r h1 h2).mono hX3) hr8
        exact T.backW (rows.length - (i + 1)) (by omega) ⟨i + 1, _, _, bl ++ [f], qs ++ [(.int .u8 (o8 : Int), .int .i64 n8, .slice a8 l8 c8, .slice b8 l9 c9)], rfl, by omega, hX2.trans' hX3, numbL_snoc ha2 hnf hbl, by rw [List.length_append, hbll]; rfl, by rw [List.length_append, hqsl]; rfl, hGa10, hrows2, rfl, rfl⟩ (by repeat (first | exact Sub.nil | refine Sub.cons rfl ?_))
    · obtain rfl : i = rows.length := by omega
      rw [List.take_of_length_le (by omega)] at hbl
      refine T.seq <| T.region <| SL.v (op_lssF rfl rfl (by omega)) ?_
      refine SL.nil <| T.seq <| T.condF rfl ?_
      refine T.exit (T.exitCode (T.exitCut (T.exitBlk ?_)))
      refine T.seq <| T.region <| SL.v (op_load ty36 rfl (by repeat constructor) rfl) ?_
      refine SL.w (op_store ty36 rfl rfl (by repeat constructor) rfl rfl rfl) ?_
      rintro _ _ _ ⟨rfl, rfl⟩
      refine SL.as rfl <| SL.nil <| T.pubG (own0 := [_, _, _]) hGa ?_
      intro X9 hX9 hS9
      refine T.ret2 rfl (ResIs.cell rfl ty36 (by repeat constructor) rfl) (ResIs.tmp rfl) ?_
      have hA : RowR rc4 X9 (.slice Aa7 qs.length ca7) qs := RowR.ofG hGa hS9
      rw [numb_mk hrs hbl]
      exact ⟨(.int .u8 (op : Int), .int .i64 n, .slice An1 rs.length cn1, .slice Aa7 qs.length ca7), rfl, .mk ((hN1.mono hX2).mono hX9) hA (hqsl.trans hbll.symm) (fun q a r h1 h2 => (hqs q a r h1 h2).mono hX9)⟩
end Go.Proofs.YtnpcilglilfajaaGreatDoor
namespace Go.Proofs.YtnpcilglilfajaaGreatDoor
open Go.RowKit
end Go.Proofs.YtnpcilglilfajaaGreatDoor
namespace Go.Proofs.YtnpcilglilfajaaGreatDoor
open Go.RowKit
end Go.Proofs.YtnpcilglilfajaaGreatDoor
namespace Go.Proofs.YtnpcilglilfajaaGreatDoor
section
set_option maxRecDepth 100000
theorem en18 : Enters Tryz.prog 18 := enters_mk Tryz.func18 (by kernel_rfl) rfl
theorem en72 : Enters Tryz.prog 72 := enters_mk Tryz.func72 (by kernel_rfl) rfl
theorem en73 : Enters Tryz.prog 73 := enters_mk Tryz.func73 (by kernel_rfl) rfl
end
open Go.RowKit
/-- The formula of an expression, and the error. -/
noncomputable def resF (ns : List ByteArray) (adm kind : Nat) (e : Ex) : Fm × Int :=
  if kind < 1 ∨ 3 < kind then (zeF, 1) else if chkE e ≠ 0 then (zeF, chkE e) else match numbF ns adm e with
    | none => (zeF, 9)
    | some f => if chkF kind f ≠ 0 then (zeF, chkF kind f) else (f, 0)
theorem TabR.form {X : PMap} {v : Value} {ns : List ByteArray} (h : TabR X v ns) : ∃ b, v = .pointer (some ⟨b, 0, none⟩) := let ⟨b, _, _, h1, _⟩ := h; ⟨b, h1⟩
theorem resolve_spec {X : PMap} {e : Ex} {r : Row4} {vt vs : Value} {ns : List ByteArray} {adm kind : Nat} (hw : wtE e < 1000000) (hk : kind < 256) (h63 : ns.length ≤ 63) (hT : TabR X vt ns) (hS : SetR X vs adm) (h : ExR .u8 X e r) : Spec Tryz.prog 25 [.agg #[r.1, r.2.1, r.2.2.1, r.2.2.2], .int .u8 (kind : Int), vt, vs] X fun u X' => ∃ r' : Row4, u = .tuple #[.agg #[r'.1, r'.2.1, r'.2.2.1, r'.2.2.2], .int .i64 (resF ns adm kind e).2] ∧ FmR .u8 X' (resF ns adm kind e).1 r' := by
  have hc1 := fun {X' : PMap} (hX : X.le X') => chk_spec (by omega) (h.mono hX)
  have hc2 := fun {X' : PMap} (hX : X.le X') => numb_spec (wtE e) (Nat.le_refl _) (by omega) h63 (hT.mono hX) (hS.mono hX) (h.mono hX)
  obtain ⟨bt, rfl⟩ := hT.form
  obtain ⟨As, ls, cs, rfl⟩ := hS.form
  obtain ⟨o, n, A, B, l, c, l', c', rfl⟩ := h.form
  try simp only at hc1
  try simp only at hc2
  rw [resF]
  by_cases k1 : kind < 1
  · rw [if_pos (.inl k1)]
    refine Spec.enter Tryz.func25 rfl Tryz.ntmps25 rfl ?_
    intro w0 hw0
    refine T.seq <| T.region <| SL.w (op_box rfl) ?_
    rintro _ _ _ ⟨B4, rfl, rfl, rfl⟩
    refine SL.w (op_box rfl) ?_
    rintro _ _ _ ⟨B7, rfl, rfl, rfl⟩
    refine SL.w (op_alloc z36) ?_
    rintro _ _ _ ⟨B8, rfl, rfl, rfl⟩
    refine SL.v (op_assign (v := .int .i64 ((0 : Nat) : Int)) rfl) <| SL.nil <| T.seq <| T.seq <| T.region <| SL.mv rfl <| SL.v (op_eqlNil Tryz.underlying64 rfl rfl) <| SL.mv rfl <| SL.mv rfl <| SL.v (op_lssT rfl rfl (by omega)) ?_
    refine SL.v (op_pickF rfl rfl) <| SL.mv rfl <| SL.skip rfl rfl ?_
    refine SL.skip rfl rfl ?_
    refine SL.v (op_pickT rfl rfl) <| SL.nil <| T.condT rfl <| T.seq <| T.region <| SL.v (op_build st36 (qs := []) rfl rfl) <| SL.w (op_store ty36 rfl rfl (by repeat constructor) rfl rfl rfl) ?_
    rintro _ _ _ ⟨rfl, rfl⟩
    refine SL.v (op_assign (v := .int .i64 ((1 : Nat) : Int)) rfl) <| SL.nil <| T.ret2 rfl (ResIs.cell rfl ty36 (by repeat constructor) rfl) (ResIs.tmp rfl) ?_
    exact ⟨_, rfl, zeF_R⟩
  by_cases k2 : 3 < kind
  · rw [if_pos (.inr k2)]
    refine Spec.enter Tryz.func25 rfl Tryz.ntmps25 rfl ?_
    intro w0 hw0
    refine T.seq <| T.region <| SL.w (op_box rfl) ?_
    rintro _ _ _ ⟨B4, rfl, rfl, rfl⟩
    refine SL.w (op_box rfl) ?_
    rintro _ _ _ ⟨B7, rfl, rfl, rfl⟩
    refine SL.w (op_alloc z36) ?_
    rintro _ _ _ ⟨B8, rfl, rfl, rfl⟩
    refine SL.v (op_assign (v := .int .i64 ((0 : Nat) : Int)) rfl) <| SL.nil <| T.seq <| T.seq <| T.region <| SL.mv rfl <| SL.v (op_eqlNil Tryz.underlying64 rfl rfl) <| SL.mv rfl <| SL.mv rfl <| SL.v (op_lssF rfl rfl (by omega)) ?_
    refine SL.v (op_pickF rfl rfl) <| SL.mv rfl <| SL.mv rfl <| SL.v (op_gtrT rfl rfl (by omega)) ?_
    refine SL.v (op_pickF rfl rfl) <| SL.nil <| T.condT rfl <| T.seq <| T.region <| SL.v (op_build st36 (qs := []) rfl rfl) <| SL.w (op_store ty36 rfl rfl (by repeat constructor) rfl rfl rfl) ?_
    rintro _ _ _ ⟨rfl, rfl⟩
    refine SL.v (op_assign (v := .int .i64 ((1 : Nat) : Int)) rfl) <| SL.nil <| T.ret2 rfl (ResIs.cell rfl ty36 (by repeat constructor) rfl) (ResIs.tmp rfl) ?_
    exact ⟨_, rfl, zeF_R⟩
  rw [if_neg (fun h => h.elim k1 k2)]
  refine Spec.enter Tryz.func25 rfl Tryz.ntmps25 rfl ?_
  intro w0 hw0
  refine T.seq <| T.region <| SL.w (op_box rfl) ?_
  rintro _ _ _ ⟨B4, rfl, rfl, rfl⟩
  refine SL.w (op_box rfl) ?_
  rintro _ _ _ ⟨B7, rfl, rfl, rfl⟩
  refine SL.w (op_alloc z36) ?_
  rintro _ _ _ ⟨B8, rfl, rfl, rfl⟩
  refine SL.v (op_assign (v := .int .i64 ((0 : Nat) : Int)) rfl) <| SL.nil <| T.seq <| T.seq <| T.region <| SL.mv rfl <| SL.v (op_eqlNil Tryz.underlying64 rfl rfl) <| SL.mv rfl <| SL.mv rfl <| SL.v (op_lssF rfl rfl (by omega)) ?_
  refine SL.v (op_pickF rfl rfl) <| SL.mv rfl <| SL.mv rfl <| SL.v (op_gtrF rfl rfl (by omega)) ?_
  refine SL.v (op_pickF rfl rfl) <| SL.nil <| T.condF rfl <| T.skip <| T.seq <| T.seq <| T.region <| SL.v (op_load ty70 rfl (by repeat constructor) rfl) ?_
  refine SL.w (op_callF en73 (vs := [_]) rfl (hc1 (PMap.le_refl _))) ?_
  rintro _ _ X1 ⟨rfl, hX1, rfl⟩
  by_cases d : chkE e = 0
  case neg =>
    rw [if_pos d]
    refine SL.as rfl <| SL.nil <| T.seq <| T.region <| SL.mv rfl <| SL.v (op_neqT rfl rfl (by omega)) ?_
    refine SL.nil <| T.condT rfl <| T.seq <| T.region <| SL.v (op_build st36 (qs := []) rfl rfl) <| SL.mv rfl <| SL.w (op_store ty36 rfl rfl (by repeat constructor) rfl rfl rfl) ?_
    rintro _ _ _ ⟨rfl, rfl⟩
    refine SL.as rfl <| SL.nil <| T.ret2 rfl (ResIs.cell rfl ty36 (by repeat constructor) rfl) (ResIs.tmp rfl) ?_
    exact ⟨_, rfl, zeF_R⟩
  rw [if_neg (fun h => h d), d]
  refine SL.as rfl <| SL.nil <| T.seq <| T.region <| SL.mv rfl <| SL.v (op_neqF rfl rfl (by omega)) ?_
  refine SL.nil <| T.condF rfl <| T.skip <| T.seq <| T.region <| SL.v (op_load ty70 rfl (by repeat constructor) rfl) ?_
  refine SL.mv rfl <| SL.v (op_load ty53 rfl (by repeat constructor) rfl) ?_
  refine SL.w (op_callF en74 (vs := [_, _, _]) rfl (hc2 hX1)) ?_
  rintro _ _ X2 ⟨rfl, hX2, r8, rfl, hr8⟩
  cases hnf : numbF ns adm e with
  | none =>
    obtain ⟨o8, n8, a8, b8, l8, c8, l9, c9, rfl⟩ := hr8.form
    rw [Option.isSome_none]
    refine SL.mv rfl <| SL.v (op_extract rfl rfl) <| SL.v (op_extract rfl rfl) <| SL.w (op_alloc z36) ?_
    rintro _ _ _ ⟨B11, rfl, rfl, rfl⟩
    refine SL.w (op_store ty36 rfl rfl (by repeat constructor) rfl rfl rfl) ?_
    rintro _ _ _ ⟨rfl, rfl⟩
    refine SL.as rfl <| SL.nil <| T.seq <| T.seq <| T.region <| SL.mv rfl <| SL.v (op_not rfl) <| SL.nil <| T.condT rfl <| T.seq <| T.region <| SL.v (op_build st36 (qs := []) rfl rfl) <| SL.w (op_store ty36 rfl rfl (by repeat constructor) rfl rfl rfl) ?_
    rintro _ _ _ ⟨rfl, rfl⟩
    refine SL.v (op_assign (v := .int .i64 ((9 : Nat) : Int)) rfl) <| SL.nil <| T.ret2 rfl (ResIs.cell rfl ty36 (by repeat constructor) rfl) (ResIs.tmp rfl) ?_
    exact ⟨_, rfl, zeF_R⟩
  | some f =>
    rw [hnf, Option.getD_some] at hr8
    have hwf := numbF_wt e hnf
    have hc3 := fun {X' : PMap} (hX : X2.le X') => fchk_spec (kind := kind) (by omega) hk (hr8.mono hX)
    obtain ⟨o8, n8, a8, b8, l8, c8, l9, c9, rfl⟩ := hr8.form
    try simp only at hc3
    rw [Option.isSome_some]
    refine SL.mv rfl <| SL.v (op_extract rfl rfl) <| SL.v (op_extract rfl rfl) <| SL.w (op_alloc z36) ?_
    rintro _ _ _ ⟨B11, rfl, rfl, rfl⟩
    refine SL.w (op_store ty36 rfl rfl (by repeat constructor) rfl rfl rfl) ?_
    rintro _ _ _ ⟨rfl, rfl⟩
    refine SL.as rfl <| SL.nil <| T.seq <| T.seq <| T.region <| SL.mv rfl <| SL.v (op_not rfl) <| SL.nil <| T.condF rfl <| T.skip <| T.seq <| T.seq <| T.region <| SL.v (op_load ty36 rfl (by repeat constructor) rfl) ?_
    refine SL.mv rfl <| SL.w (op_callF en18 (vs := [_, _]) rfl (hc3 (PMap.le_refl _))) ?_
    rintro _ _ X3 ⟨rfl, hX3, rfl⟩
    simp only
    by_cases d2 : chkF kind f = 0
    case neg =>
      rw [if_pos d2]
      refine SL.as rfl <| SL.nil <| T.seq <| T.region <| SL.mv rfl <| SL.v (op_neqT rfl rfl (by omega)) ?_
      refine SL.nil <| T.condT rfl <| T.seq <| T.region <| SL.v (op_build st36 (qs := []) rfl rfl) <| SL.mv rfl <| SL.w (op_store ty36 rfl rfl (by repeat constructor) rfl rfl rfl) ?_
      rintro _ _ _ ⟨rfl, rfl⟩
      refine SL.as rfl <| SL.nil <| T.ret2 rfl (ResIs.cell rfl ty36 (by repeat constructor) rfl) (ResIs.tmp rfl) ?_
      exact ⟨_, rfl, zeF_R⟩
    rw [if_neg (fun h => h d2), d2]
    refine SL.as rfl <| SL.nil <| T.seq <| T.region <| SL.mv rfl <| SL.v (op_neqF rfl rfl (by omega)) ?_
    refine SL.nil <| T.condF rfl <| T.skip <| T.seq <| T.region <| SL.v (op_load ty36 rfl (by repeat constructor) rfl) ?_
    refine SL.w (op_store ty36 rfl rfl (by repeat constructor) rfl rfl rfl) ?_
    rintro _ _ _ ⟨rfl, rfl⟩
    refine SL.v (op_assign (v := .int .i64 ((0 : Nat) : Int)) rfl) <| SL.nil <| T.ret2 rfl (ResIs.cell rfl ty36 (by repeat constructor) rfl) (ResIs.tmp rfl) ?_
    exact ⟨_, rfl, hr8.mono hX3⟩
theorem tabl_spec {X : PMap} {v : Value} {l : List ByteArray} (h : RowR strC X v l) (hl : l.length < 1000000) : Spec Tryz.prog 24 [v] X fun u X' => if errOf 63 [] l = 0 then TabR X' u l else u = .pointer none := by
  obtain ⟨A, cp, rfl⟩ := h.form
  refine Spec.enter Tryz.func24 rfl Tryz.ntmps24 rfl ?_
  intro w0 hw0
  refine T.seq <| T.region <| SL.as rfl <| SL.nil <| T.seq <| T.region <| SL.mv rfl <| SL.w (op_callF en72 (vs := [_, _]) rfl (of_tab_spec (n := 63) h hl)) ?_
  rintro u2 _ X1 ⟨rfl, hX1, hu⟩
  by_cases he : errOf 63 [] l = 0
  · rw [if_pos he] at hu
    obtain ⟨v', rfl, hT⟩ := hu
    refine SL.mv rfl <| SL.v (op_extract rfl rfl) <| SL.v (op_extract rfl rfl) <| SL.as rfl <| SL.as rfl <| SL.nil <| T.seq <| T.seq <| T.region <| SL.mv rfl <| SL.v (op_neqF rfl rfl (by omega)) ?_
    refine SL.nil <| T.condF rfl <| T.skip <| T.seq <| T.region <| SL.mv rfl <| SL.as rfl <| SL.nil <| T.ret1 rfl (ResIs.tmp rfl) ?_
    rw [if_pos he]
    exact hT
  · rw [if_neg he] at hu
    subst hu
    refine SL.mv rfl <| SL.v (op_extract rfl rfl) <| SL.v (op_extract rfl rfl) <| SL.as rfl <| SL.as rfl <| SL.nil <| T.seq <| T.seq <| T.region <| SL.mv rfl <| SL.v (op_neqT rfl rfl (by omega)) ?_
    refine SL.nil <| T.condT rfl <| T.seq <| T.region <| SL.as rfl <| SL.nil <| T.ret1 rfl (ResIs.tmp rfl) ?_
    rw [if_neg he]
end Go.Proofs.YtnpcilglilfajaaGreatDoor
namespace Go.Proofs.YtnpcilglilfajaaGreatDoor
section
set_option maxRecDepth 100000
theorem en148 : Enters Tryz.prog 148 := enters_mk Tryz.func148 (by kernel_rfl) rfl
theorem en149 : Enters Tryz.prog 149 := enters_mk Tryz.func149 (by kernel_rfl) rfl
theorem en183 : Enters Tryz.prog 183 := enters_mk Tryz.func183 (by kernel_rfl) rfl
theorem fa231_0 : FAdr Tryz.prog 231 0 0 := fadr_mk Tryz.underlying231 rfl rfl (by kernel_rfl)
theorem z231 : Zero Tryz.prog 231 [.slice none 0 0] := ⟨zero_of (by kernel_rfl)⟩
theorem st231 : StT Tryz.prog 231 [(0, 1)] [.slice none 0 0] := ⟨⟨_, Tryz.underlying231, fun _ => by kernel_rfl, z231⟩⟩
end
open Go.RowKit
theorem groups_spec {X : PMap} {n : Nat} (hn : n < 18446744073709551616) : SpecO Tryz.prog 149 [.int .u64 (n : Int)] X fun u own1 _ => GrowS 5 1 u (numB n).length (bytesC (numB n)) own1 := by
  have hnl := numB_len hn
  have hs7 : ∀ v : Nat, v >>> 7 = v / 128 := fun v => Nat.shiftRight_eq_div_pow v 7
  refine SpecO.enter Tryz.func149 rfl Tryz.ntmps149 rfl ?_
  intro w0 hw0
  refine T.seq <| T.region <| SL.as rfl <| SL.nil <| T.seq <| T.region <| SL.mv rfl <| SL.v (op_and127L rfl rfl hn) <| SL.v (op_convU8 Tryz.underlying58 Tryz.underlying5 rfl (by omega) (by omega)) ?_
  refine SL.w (op_buildSlice Tryz.underlying44 bs5 (qs := [(0, _)]) rfl rfl rfl rfl rfl) ?_
  rintro _ _ _ ⟨B7, rfl, rfl, rfl⟩
  refine SL.as rfl <| SL.nil <| T.seq <| T.seq <| T.region <| SL.mv rfl <| SL.v (op_shrN (q := 7) rfl rfl (by omega)) ?_
  refine SL.as rfl <| SL.nil <| T.block <| T.loopW (fun m env own X' => ∃ (v : Nat) (out : List Nat) (sv : Value) (G : Own), v = m ∧ v < 18446744073709551616 ∧ X.le X' ∧ 0 < out.length ∧ numB n = numHi v ++ out.reverse ∧ GrowS 5 1 sv out.length (bytesC out) G ∧ env = [(0, .int .u64 (v : Int)), (3, sv)] ∧ G = own) (n >>> 7) ⟨n >>> 7, [n % 128], _, _, rfl, by rw [hs7]; omega, PMap.le_refl _, by simp, by rw [hs7]; rfl, .inr ⟨B7, 1, rfl, rfl, by simp, by decide, rfl⟩, rfl, rfl⟩ (by repeat (first | exact Sub.nil | refine Sub.cons rfl ?_)) ?_
  rintro m _ _ X1 ⟨v, out, sv, G, rfl, hv, hX1, ho0, hinv, hG, rfl, rfl⟩
  obtain ⟨As, cs, rfl⟩ := hG.form
  have hol : out.length ≤ 10 := by
    have := congrArg List.length hinv
    rw [List.length_append, List.length_reverse] at this; omega
  rcases Nat.eq_zero_or_pos v with h0 | h0
  · subst h0
    rw [numHi_zero, List.nil_append] at hinv
    rcases hG with ⟨h1, _⟩ | ⟨bo, cap, hv2, rfl, hc1, hc2, hc3⟩
    · omega
    obtain ⟨rfl, rfl⟩ : As = some ⟨bo, 0, none⟩ ∧ cs = cap := by injection hv2 with h1 h2 h3; exact ⟨h1, h3⟩
    refine T.seq <| T.seq <| T.region <| SL.mv rfl <| SL.v (op_gtrF rfl rfl (by omega)) ?_
    refine SL.nil <| T.condF rfl ?_
    refine T.exit (T.exitCode (T.exitCut (T.exitBlk ?_)))
    refine T.seq <| T.region <| SL.mv rfl <| SL.w (op_callM en183 (vs := [_]) rfl (reverse_spec ho0 (by omega) hc1) rfl) ?_
    rintro _ _ X2 ⟨_, rfl, hX2, rfl⟩
    refine SL.nil <| T.seq <| T.region <| SL.mv rfl <| SL.as rfl <| SL.nil <| T.retO1 rfl (ResIs.tmp rfl) ?_
    refine .inr ⟨bo, cs, by rw [hinv, List.length_reverse], by rw [hinv]; rfl, by rw [hinv, List.length_reverse]; exact hc1, hc2, by rw [bytesC_len]; omega⟩
  · refine T.seq <| T.seq <| T.region <| SL.mv rfl <| SL.v (op_gtrT rfl rfl (by omega)) ?_
    refine SL.nil <| T.condT rfl <| T.skip <| T.seq <| T.block <| T.region <| SL.mv rfl <| SL.mv rfl <| SL.v (op_and127L rfl rfl hv) <| SL.v (op_convU8 Tryz.underlying58 Tryz.underlying5 rfl (by omega) (by omega)) ?_
    refine SL.v (op_or128 rfl rfl (by omega)) ?_
    refine SL.w (op_buildSlice Tryz.underlying44 bs5 (qs := [(0, _)]) rfl rfl rfl rfl rfl) ?_
    rintro _ _ _ ⟨B19, rfl, rfl, rfl⟩
    refine SL.w (op_appendG (own0 := []) sl44 rfl hG rfl rfl rfl (by (have : maxLen = 9223372036854775807 := rfl); omega) (by omega)) ?_
    rintro s' G' _ ⟨_, rfl, rfl, hG'⟩
    obtain ⟨As', cps', rfl⟩ := hG'.form
    refine SL.as rfl <| SL.nil <| T.blk <| T.region <| SL.mv rfl <| SL.v (op_shrN (q := 7) rfl rfl (by omega)) ?_
    refine SL.as rfl <| SL.nil ?_
    exact T.backW (v >>> 7) (by rw [hs7]; omega) ⟨v >>> 7, out ++ [128 + v % 128], _, G', rfl, by rw [hs7]; omega, hX1, by simp, by rw [hinv, hs7, numHi_pos (by omega)]; simp, by rw [bytesC_append, List.length_append]; exact hG', rfl, rfl⟩ (by repeat (first | exact Sub.nil | refine Sub.cons rfl ?_))
theorem newW_spec {X : PMap} : SpecO Tryz.prog 95 [] X fun w own1 _ => ∃ b, w = .pointer (some ⟨b, 0, none⟩) ∧ own1 = [⟨b, [.slice none 0 0], 231, 1⟩] := by
  refine SpecO.enter Tryz.func95 rfl Tryz.ntmps95 rfl ?_
  intro w0 hw0
  refine T.seq <| T.region <| SL.as rfl <| SL.nil <| T.seq <| T.region <| SL.v (op_build st231 (qs := []) rfl rfl) <| SL.w (op_box rfl) ?_
  rintro _ _ _ ⟨B2, rfl, rfl, rfl⟩
  refine SL.as rfl <| SL.nil <| T.retO1 rfl (ResIs.tmp rfl) ?_
  exact ⟨B2, rfl, rfl⟩
theorem rawW_spec {X : PMap} {bw m len : Nat} {sv p : Value} {cs : List Value} {l : List Nat} {G : Own} (hG : GrowS 5 1 sv len cs G) (hp : BytesR X p l) (hm : m = l.length) (h0 : 0 < m) (hl : len + m < 1000000000) :
    SpecM Tryz.prog 148 [.pointer (some ⟨bw, 0, none⟩), p] X (⟨bw, [sv], 231, 1⟩ :: G) fun _ L' _ => ∃ sv' G', L' = ⟨bw, [sv'], 231, 1⟩ :: G' ∧ GrowS 5 1 sv' (len + m) (cs ++ bytesC l) G' := by
  subst hm
  have hmx : maxLen = 9223372036854775807 := rfl
  obtain ⟨A, cp, rfl⟩ := hp.form
  obtain ⟨As, css, rfl⟩ := hG.form
  refine SpecM.enter Tryz.func148 rfl Tryz.ntmps148 rfl ?_
  intro w0 X0 own0
  refine T.perm (own' := (⟨bw, [.slice As len css], 231, 1⟩ :: own0) ++ G) permD ?_
  refine T.seq <| T.region <| SL.mv rfl <| SL.v (op_neqNil Tryz.underlying179 rfl rfl) <| SL.nil <| T.condT rfl <| T.region <| SL.mv rfl <| SL.mv rfl <| SL.v (op_nil rfl) <| SL.v (op_fieldAddr fa231_0 rfl) <| SL.v (op_load ty44 rfl (by repeat constructor) rfl) ?_
  refine SL.mv rfl <| SL.w (op_appendGM (own0 := ⟨bw, [.slice As len css], 231, 1⟩ :: own0) sl44 rfl hG rfl (Src.ofBytes hp) h0 (bytesC_one l) (by omega) (by omega)) ?_
  rintro s' _ _ ⟨G', rfl, rfl, hG'⟩
  obtain ⟨As', cps', rfl⟩ := hG'.form
  refine SL.v (op_nil rfl) <| SL.v (op_fieldAddr fa231_0 rfl) <| SL.w (op_store ty44 rfl rfl (by repeat constructor) rfl rfl rfl) ?_
  rintro _ _ _ ⟨rfl, rfl⟩
  refine SL.nil <| T.doneM0 (⟨bw, [.slice As' (len + l.length) cps'], 231, 1⟩ :: G') rfl permD ?_
  exact ⟨PMap.le_refl _, _, G', rfl, hG'⟩
theorem uintW_spec {X : PMap} {bw len : Nat} {sv : Value} {l : List Nat} {G : Own} {n : Nat} (hn : n < 18446744073709551616) (hG : GrowS 5 1 sv len (bytesC l) G) (hl : len < 900000000) :
    SpecM Tryz.prog 97 [.pointer (some ⟨bw, 0, none⟩), .int .u64 (n : Int)] X (⟨bw, [sv], 231, 1⟩ :: G) fun _ L' _ => ∃ sv' G', L' = ⟨bw, [sv'], 231, 1⟩ :: G' ∧ GrowS 5 1 sv' (len + (numB n).length) (bytesC (l ++ numB n)) G' := by
  have hnl := numB_len hn
  refine SpecM.enter Tryz.func97 rfl Tryz.ntmps97 rfl ?_
  intro w0 X0 own0
  refine T.region <| SL.mv rfl <| SL.mv rfl <| SL.w (op_callF en149 (vs := [_]) rfl ((groups_spec hn).pubG)) ?_
  rintro u _ X1 ⟨rfl, hX1, hu⟩
  obtain ⟨A1, c1, rfl⟩ := SliceR.form hu
  refine SL.w (op_callM en148 (vs := [_, _]) rfl (rawW_spec hG (BytesR.ofS hu) rfl (numB_pos n) (by omega)) rfl) ?_
  rintro _ _ X2 ⟨L', rfl, hX2, sv', G', rfl, hG'⟩
  refine SL.nil <| T.doneM0 (⟨bw, [sv'], 231, 1⟩ :: G') rfl (List.Perm.refl _) ?_
  exact ⟨hX1.trans' hX2, sv', G', rfl, by rw [bytesC_append]; exact hG'⟩
theorem out_spec {X : PMap} {bw : Nat} {sv : Value} {l : List Nat} (hb : Blk X bw [sv]) (hs : BytesR X sv l) (hl : l.length < 1000000) : SpecO Tryz.prog 100 [.pointer (some ⟨bw, 0, none⟩)] X fun u own1 _ => GrowS 5 1 u l.length (bytesC l) own1 := by
  obtain ⟨A, cp, rfl⟩ := hs.form
  refine SpecO.enter Tryz.func100 rfl Tryz.ntmps100 rfl ?_
  intro w0 hw0
  refine T.seq <| T.region <| SL.as rfl <| SL.nil <| T.seq <| T.seq <| T.region <| SL.mv rfl <| SL.v (op_eqlNil Tryz.underlying179 rfl rfl) <| SL.nil <| T.condF rfl <| T.skip <| T.seq <| T.region <| SL.mv rfl ?_
  refine SL.v (op_nil rfl) <| SL.v (op_fieldAddr fa231_0 rfl) <| SL.v (op_loadX ty44 rfl (by assumption) rfl) ?_
  refine SL.w (op_callO en134 (vs := [_]) rfl (bclone_spec hs hl)) ?_
  rintro u own1 X1 ⟨_, rfl, hX1, hG⟩
  obtain ⟨A1, cp1, rfl⟩ := hG.form
  refine SL.as rfl <| SL.nil <| T.retO1 rfl (ResIs.tmp rfl) ?_
  simpa using hG
end Go.Proofs.YtnpcilglilfajaaGreatDoor
namespace Go.Proofs.YtnpcilglilfajaaGreatDoor
open Go.RowKit
section
variable {P : Program} {n : NM} {w0 : Base} {X0 X : PMap} {own : Own} {env : Env}
def byteC (s : ByteArray) : List Value := s.data.toList.map fun b => .int .u8 (b.toNat : Int)
/-- []byte(s): a row that nobody writes. -/
theorem op_bytesOf {src dst e : TypeId} {x : Operand} {s : ByteArray} (hs : P.underlying src = some .string) (hd : P.underlying dst = some (.slice e)) (he : P.underlying e = some (.int .u8)) (hx : eev env x = some (.string s)) :
    OpX P n w0 X0 env own X (.convert src dst x) true fun u own' X' => ∃ b cap, u = .slice (some ⟨b, 0, none⟩) s.size cap ∧ own = own' ∧ X.le X' ∧ Blk X' b (byteC s) := by
  intro a W oper K Q ro hop ha hsat hK
  have hr := run_bytes_of_string (P := P) W src dst e s hs hd he
  have hex : (execOp a.eval oper).run P W = .ok (.value (.slice (some ⟨W.heap.size, 0, none⟩) s.size (grownCap W s.size 0 e))) (W.drew.alloc (.cells (bytesRow s (grownCap W s.size 0 e)) e ((bytesRow s (grownCap W s.size 0 e)).size, (bytesRow s (grownCap W s.size 0 e)).size + 1))) := by
    simp [execOp, hop, ha.eval hx, hr]
  have h1 := hsat.draw (W.drawn + 1)
  have h2 := h1.lay (.cells (bytesRow s (grownCap W s.size 0 e)) e ((bytesRow s (grownCap W s.size 0 e)).size, (bytesRow s (grownCap W s.size 0 e)).size + 1))
  refine wp_value (noDefer_spec (by rw [hop]; rfl)) hex (hK _ _ _ _ ⟨_, _, rfl, rfl, PMap.le_add (PMap.le_refl _) hsat.stab.pers.fresh, ?_⟩ h2 fun _ => ?_)
  · have e1 : bytesRow s (grownCap W s.size 0 e) = (byteC s ++ List.replicate (grownCap W s.size 0 e - s.size) (Value.int .u8 0)).toArray := by
      apply Array.ext'
      simp [bytesRow, byteC]
    refine ⟨List.replicate (grownCap W s.size 0 e - s.size) (Value.int .u8 0), e, ((bytesRow s (grownCap W s.size 0 e)).size, (bytesRow s (grownCap W s.size 0 e)).size + 1), ?_⟩
    rw [← e1]
    exact PMap.add_at
  · have := Grow.alloc W.drew (.cells (bytesRow s (grownCap W s.size 0 e)) e ((bytesRow s (grownCap W s.size 0 e)).size, (bytesRow s (grownCap W s.size 0 e)).size + 1))
    exact ⟨this.size, this.same⟩
end
end Go.Proofs.YtnpcilglilfajaaGreatDoor
namespace Go.Proofs.YtnpcilglilfajaaGreatDoor
section
set_option maxRecDepth 100000
theorem en150 : Enters Tryz.prog 150 := enters_mk Tryz.func150 (by kernel_rfl) rfl
theorem en97 : Enters Tryz.prog 97 := enters_mk Tryz.func97 (by kernel_rfl) rfl
theorem en99 : Enters Tryz.prog 99 := enters_mk Tryz.func99 (by kernel_rfl) rfl
end
open Go.RowKit
def byN (s : ByteArray) : List Nat := s.data.toList.map (·.toNat)
theorem byN_C (s : ByteArray) : byteC s = bytesC (byN s) := by simp [byteC, bytesC, byN]
theorem byN_len (s : ByteArray) : (byN s).length = s.size := by simp [byN]
theorem SpecM.mono {P : Program} {f : FuncId} {vs : List Value} {X : PMap} {L : Own} {Φ Ψ : Value → Own → PMap → Prop} (h : SpecM P f vs X L Φ) (hk : ∀ v L' X', X.le X' → Φ v L' X' → Ψ v L' X') : SpecM P f vs X L Ψ :=
  fun w0 X0 own0 W hs => (h w0 X0 own0 W hs).mono fun _ _ ⟨v, L', X', he, hsat, hX, hΦ⟩ => ⟨v, L', X', he, hsat, hX, hk v L' X' hX hΦ⟩
abbrev WrO (b : Nat) (sv : Value) : Ow := ⟨b, [sv], 231, 1⟩
def WrS (sv : Value) (l : List Nat) (G : Own) : Prop := GrowS 5 1 sv l.length (bytesC l) G
theorem rawW2_spec {X : PMap} {bw : Nat} {sv p : Value} {a l : List Nat} {G : Own} (hG : WrS sv a G) (hp : BytesR X p l) (h0 : 0 < l.length) (hl : a.length + l.length < 1000000000) :
    SpecM Tryz.prog 148 [.pointer (some ⟨bw, 0, none⟩), p] X (WrO bw sv :: G) fun _ L' _ => ∃ sv' G', L' = WrO bw sv' :: G' ∧ WrS sv' (a ++ l) G' := by
  refine SpecM.mono (rawW_spec hG hp rfl h0 hl) ?_
  rintro _ _ _ _ ⟨sv', G', rfl, h⟩
  exact ⟨sv', G', rfl, by rw [WrS, List.length_append, bytesC_append]; exact h⟩
theorem uintW2_spec {X : PMap} {bw : Nat} {sv : Value} {l : List Nat} {G : Own} {n : Nat} (hn : n < 18446744073709551616) (hG : WrS sv l G) (hl : l.length < 900000000) :
    SpecM Tryz.prog 97 [.pointer (some ⟨bw, 0, none⟩), .int .u64 (n : Int)] X (WrO bw sv :: G) fun _ L' _ => ∃ sv' G', L' = WrO bw sv' :: G' ∧ WrS sv' (l ++ numB n) G' := by
  refine SpecM.mono (uintW_spec hn hG hl) ?_
  rintro _ _ _ _ ⟨sv', G', rfl, h⟩
  exact ⟨sv', G', rfl, by rw [WrS, List.length_append]; exact h⟩
theorem flagW_spec {X : PMap} {bw : Nat} {sv : Value} {l : List Nat} {G : Own} {b : Bool} (hG : WrS sv l G) (hl : l.length < 900000000) :
    SpecM Tryz.prog 96 [.pointer (some ⟨bw, 0, none⟩), .bool b] X (WrO bw sv :: G) fun _ L' _ => ∃ sv' G', L' = WrO bw sv' :: G' ∧ WrS sv' (l ++ [if b then 1 else 0]) G' := by
  cases b with
  | true =>
    refine SpecM.enter Tryz.func96 rfl Tryz.ntmps96 rfl ?_
    intro w0 X0 own0
    refine T.seq <| T.seq <| T.region <| SL.mv rfl <| SL.nil <| T.condT rfl <| T.seq <| T.region <| SL.mv rfl <| SL.w (op_buildSlice Tryz.underlying44 bs5 (qs := [(0, _)]) rfl rfl rfl rfl rfl) ?_
    rintro _ _ _ ⟨B6, rfl, rfl, rfl⟩
    refine T.pubAt B6 (by repeat constructor) ?_
    intro X1 hX1 hB6 _
    refine SL.w (op_callM en148 (vs := [_, _]) rfl (rawW2_spec (l := [1]) hG (.inr ⟨by decide, B6, 1, [], rfl, hB6⟩) (by decide) (by simp; omega)) rfl) ?_
    rintro _ _ X2 ⟨_, rfl, hX2, sv2, G2, rfl, hG2⟩
    refine SL.nil <| T.retM0 (WrO bw sv2 :: G2) rfl (List.Perm.refl _) ?_
    exact ⟨hX1.trans' hX2, sv2, G2, rfl, hG2⟩
  | false =>
    refine SpecM.enter Tryz.func96 rfl Tryz.ntmps96 rfl ?_
    intro w0 X0 own0
    refine T.seq <| T.seq <| T.region <| SL.mv rfl <| SL.nil <| T.condF rfl <| T.skip <| T.region <| SL.mv rfl <| SL.w (op_buildSlice Tryz.underlying44 bs5 (qs := [(0, _)]) rfl rfl rfl rfl rfl) ?_
    rintro _ _ _ ⟨B9, rfl, rfl, rfl⟩
    refine T.pubAt B9 (by repeat constructor) ?_
    intro X1 hX1 hB9 _
    refine SL.w (op_callM en148 (vs := [_, _]) rfl (rawW2_spec (l := [0]) hG (.inr ⟨by decide, B9, 1, [], rfl, hB9⟩) (by decide) (by simp; omega)) rfl) ?_
    rintro _ _ X2 ⟨_, rfl, hX2, sv2, G2, rfl, hG2⟩
    refine SL.nil <| T.doneM0 (WrO bw sv2 :: G2) rfl (List.Perm.refl _) ?_
    exact ⟨hX1.trans' hX2, sv2, G2, rfl, hG2⟩
theorem bytesW_spec {X : PMap} {bw : Nat} {sv p : Value} {a l : List Nat} {G : Own} (hG : WrS sv a G) (hp : BytesR X p l) (h0 : 0 < l.length) (hl : a.length + l.length < 800000000) :
    SpecM Tryz.prog 150 [.pointer (some ⟨bw, 0, none⟩), p] X (WrO bw sv :: G) fun _ L' _ => ∃ sv' G', L' = WrO bw sv' :: G' ∧ WrS sv' (a ++ numB l.length ++ l) G' := by
  obtain ⟨A, cp, rfl⟩ := hp.form
  have hnl := numB_len (n := l.length) (by omega)
  refine SpecM.enter Tryz.func150 rfl Tryz.ntmps150 rfl ?_
  intro w0 X0 own0
  refine T.seq <| T.region <| SL.mv rfl <| SL.mv rfl <| SL.v (op_lenS Tryz.underlying44 rfl) <| SL.v (op_convU64 Tryz.underlying3 Tryz.underlying58 rfl (by omega) (by omega)) ?_
  refine SL.w (op_callM en97 (vs := [_, _]) rfl (uintW2_spec (n := l.length) (by omega) hG (by omega)) rfl) ?_
  rintro _ _ X1 ⟨_, rfl, hX1, sv1, G1, rfl, hG1⟩
  refine SL.nil <| T.region <| SL.mv rfl <| SL.mv rfl <| SL.w (op_callM en148 (vs := [_, _]) rfl (rawW2_spec hG1 (hp.mono hX1) h0 (by rw [List.length_append]; omega)) rfl) ?_
  rintro _ _ X2 ⟨_, rfl, hX2, sv2, G2, rfl, hG2⟩
  refine SL.nil <| T.doneM0 (WrO bw sv2 :: G2) rfl (List.Perm.refl _) ?_
  exact ⟨hX1.trans' hX2, sv2, G2, rfl, hG2⟩
theorem strW_spec {X : PMap} {bw : Nat} {sv : Value} {a : List Nat} {s : ByteArray} {G : Own} (hG : WrS sv a G) (h0 : 0 < s.size) (hl : a.length + s.size < 800000000) :
    SpecM Tryz.prog 98 [.pointer (some ⟨bw, 0, none⟩), .string s] X (WrO bw sv :: G) fun _ L' _ => ∃ sv' G', L' = WrO bw sv' :: G' ∧ WrS sv' (a ++ numB s.size ++ byN s) G' := by
  refine SpecM.enter Tryz.func98 rfl Tryz.ntmps98 rfl ?_
  intro w0 X0 own0
  refine T.region <| SL.mv rfl <| SL.mv rfl <| SL.w (op_bytesOf Tryz.underlying9 Tryz.underlying44 Tryz.underlying5 rfl) ?_
  rintro _ _ X1 ⟨b6, c6, rfl, rfl, hX1, hB6⟩
  rw [byN_C] at hB6
  have hlen := byN_len s
  rw [← hlen] at h0 hl ⊢
  refine SL.w (op_callM en150 (vs := [_, _]) rfl (bytesW_spec (l := byN s) hG (.inr ⟨h0, b6, c6, [], rfl, hB6⟩) h0 (by omega)) rfl) ?_
  rintro _ _ X2 ⟨_, rfl, hX2, sv2, G2, rfl, hG2⟩
  refine SL.nil <| T.doneM0 (WrO bw sv2 :: G2) rfl (List.Perm.refl _) ?_
  exact ⟨hX1.trans' hX2, sv2, G2, rfl, hG2⟩
mutual
/-- The bytes of a formula. -/
def encF : Fm → List Nat
  | .mk op n rs al => numB op ++ (numB n.toNat ++ (numB rs.length ++ ((rs.map numB).flatten ++ (numB al.length ++ encFL al))))
def encFL : List Fm → List Nat
  | [] => []
  | a :: al => encF a ++ encFL al
end
theorem encFL_app (b : List Fm) : ∀ l : List Fm, encFL (l ++ b) = encFL l ++ encFL b
  | [] => by simp [encFL]
  | a :: l => by rw [List.cons_append, encFL, encFL, encFL_app b l, List.append_assoc]
mutual
def nokF : Fm → Prop
  | .mk op n rs al => op < 256 ∧ 0 ≤ n ∧ n < 1000000 ∧ (∀ r ∈ rs, r < 64) ∧ nokFL al
def nokFL : List Fm → Prop
  | [] => True
  | a :: al => nokF a ∧ nokFL al
end
theorem nokFL_mem {a : Fm} : ∀ {l : List Fm}, nokFL l → a ∈ l → nokF a
  | x :: l, h, hm => by
    rw [nokFL] at h
    rcases List.mem_cons.1 hm with rfl | hm
    · exact h.1
    · exact nokFL_mem h.2 hm
theorem nokFL_take : ∀ {l : List Fm} {i : Nat}, nokFL l → nokFL (l.take i)
  | [], _, h => by rw [List.take_nil]; exact h
  | a :: l, 0, _ => trivial
  | a :: l, i + 1, h => ⟨h.1, nokFL_take h.2⟩
mutual
theorem insF_nok {kind : Nat} : ∀ f : Fm, insF kind f = 0 → nokF f
  | .mk op n rs al, h => by
    obtain ⟨h1, _, h3⟩ := insF_ok h
    obtain ⟨a1, a2, _, _, _, _, a3, a4, a5, _⟩ := ownF_ok h1
    exact ⟨by omega, a3, by omega, fun r hr => by have := a5 r hr; omega, insFL_nok al h3⟩
theorem insFL_nok {kind : Nat} : ∀ l : List Fm, insFL kind l = 0 → nokFL l
  | [], _ => trivial
  | a :: l, h => by
    have h0 := insFL_zero h a (by simp)
    rw [insFL, if_neg (by simp [h0])] at h
    exact ⟨insF_nok a h0, insFL_nok l h⟩
end
theorem flatB_len {l : List Nat} (h : ∀ r ∈ l, r < 64) : ((l.map numB).flatten).length ≤ 10 * l.length := by
  induction l with
  | nil => simp
  | cons r l ih =>
    have := numB_len (n := r) (by have := h r (by simp); omega)
    have := ih fun q hq => h q (by simp [hq])
    simp only [List.map_cons, List.flatten_cons, List.length_append, List.length_cons]; omega
mutual
theorem encF_len : ∀ f : Fm, nokF f → wtF f < 1000000 → (encF f).length ≤ 40 * wtF f
  | .mk op n rs al, h, hw => by
    rw [nokF] at h
    obtain ⟨h1, h2, h3, h4, h5⟩ := h
    have q := wtFL_len al
    rw [wtF] at hw ⊢
    have a1 := numB_len (n := op) (by omega)
    have a2 := numB_len (n := n.toNat) (by omega)
    have a3 := numB_len (n := rs.length) (by omega)
    have a4 := numB_len (n := al.length) (by omega)
    have a5 := flatB_len h4
    have a6 := encFL_len al h5 (by omega)
    rw [encF]
    simp only [List.length_append]; omega
theorem encFL_len : ∀ l : List Fm, nokFL l → wtFL l < 1000000 → (encFL l).length ≤ 40 * wtFL l
  | [], _, _ => by simp [encFL]
  | a :: l, h, hw => by
    rw [nokFL] at h
    rw [wtFL] at hw ⊢
    have := encF_len a h.1 (by omega)
    have := encFL_len l h.2 (by omega)
    rw [encFL, List.length_append]; omega
end
theorem write_spec (N : Nat) : ∀ {X : PMap} {f : Fm} {r : Row4} {bw : Nat} {sv : Value} {l : List Nat} {G : Own}, wtF f ≤ N → N < 1000000 → nokF f → l.length + 40 * wtF f < 700000000 → WrS sv l G → FmR .u8 X f r → SpecM Tryz.prog 99 [.agg #[r.1, r.2.1, r.2.2.1, r.2.2.2], .pointer (some ⟨bw, 0, none⟩)] X (WrO bw sv :: G) fun _ L' _ => ∃ sv' G', L' = WrO bw sv' :: G' ∧ WrS sv' (l ++ encF f) G' := by
  induction N with
  | zero => intro X f r bw sv l G h; have := wtF_pos f; omega
  | succ N ih =>
    intro X f r bw sv l G hN hB hok hll hG h
    cases h with
    | @mk op n rs al vn va rows hn ha hl hr =>
    obtain ⟨Aa, ca, rfl⟩ := ha.form
    obtain ⟨An, cn, rfl⟩ := hn.form
    have hlen := wtFL_len al
    rw [nokF] at hok
    obtain ⟨h1, h2, h3, h4, h5⟩ := hok
    rw [wtF] at hN hll
    obtain ⟨m, rfl⟩ : ∃ m : Nat, n = (m : Int) := ⟨n.toNat, by omega⟩
    have a1 := numB_len (n := op) (by omega)
    have a2 := numB_len (n := m) (by omega)
    have a3 := numB_len (n := rs.length) (by omega)
    have a4 := numB_len (n := al.length) (by omega)
    have a5 := flatB_len h4
    rw [encF]
    refine SpecM.enter Tryz.func99 rfl Tryz.ntmps99 rfl ?_
    intro w0 X0 own0
    refine T.seq <| T.region <| SL.w (op_box rfl) ?_
    rintro _ _ _ ⟨B2, rfl, rfl, rfl⟩
    refine SL.nil <| T.seq <| T.region <| T.pubAt B2 (by repeat constructor) ?_
    intro X1 hX1 hB2 _
    refine SL.mv rfl <| SL.v (op_fieldAddr fa36_0 rfl) <| SL.v (op_loadX ty33 rfl (by assumption) rfl) ?_
    refine SL.v (op_convU64 Tryz.underlying33 Tryz.underlying58 rfl (by omega) (by omega)) ?_
    refine SL.w (op_callM en97 (vs := [_, _]) rfl (uintW2_spec (n := op) (by omega) hG (by omega)) rfl) ?_
    rintro _ _ X2 ⟨_, rfl, hX2, sv2, G2, rfl, hG2⟩
    have hB2 := hB2.mono hX2
    refine SL.nil <| T.seq <| T.region <| SL.mv rfl <| SL.v (op_fieldAddr fa36_1 rfl) <| SL.v (op_loadX ty3 rfl (by assumption) rfl) ?_
    refine SL.v (op_convU64 Tryz.underlying3 Tryz.underlying58 rfl (by omega) (by omega)) ?_
    refine SL.w (op_callM en97 (vs := [_, _]) rfl (uintW2_spec (n := m) (by omega) hG2 (by rw [List.length_append]; omega)) rfl) ?_
    rintro _ _ X3 ⟨_, rfl, hX3, sv3, G3, rfl, hG3⟩
    have hB2 := hB2.mono hX3
    refine SL.nil <| T.seq <| T.region <| SL.mv rfl <| SL.v (op_fieldAddr fa36_2 rfl) <| SL.v (op_loadX ty24 rfl (by assumption) rfl) ?_
    refine SL.v (op_lenS Tryz.underlying24 rfl) <| SL.v (op_convU64 Tryz.underlying3 Tryz.underlying58 rfl (by omega) (by omega)) ?_
    refine SL.w (op_callM en97 (vs := [_, _]) rfl (uintW2_spec (n := rs.length) (by omega) hG3 (by simp only [List.length_append]; omega)) rfl) ?_
    rintro _ _ X4 ⟨_, rfl, hX4, sv4, G4, rfl, hG4⟩
    have hB2 := hB2.mono hX4
    have hX04 := ((hX1.trans' hX2).trans' hX3).trans' hX4
    obtain ⟨L3, hL3⟩ : ∃ L3, L3 = l ++ numB op ++ numB m ++ numB rs.length := ⟨_, rfl⟩
    have hL3l : L3.length ≤ l.length + 30 := by rw [hL3]; simp only [List.length_append]; omega
    rw [← hL3] at hG4
    refine SL.nil <| T.seq <| T.seq <| T.region <| SL.v (op_fieldAddr fa36_2 rfl) <| SL.v (op_loadX ty24 rfl (by assumption) rfl) ?_
    refine SL.v (op_lenS Tryz.underlying24 rfl) <| SL.v (op_move (v := .int .i64 ((0 : Nat) : Int)) rfl) <| SL.nil <| T.block <| T.loopW (fun q env own X' => ∃ (i : Nat) (sv : Value) (G : Own), q = rs.length - i ∧ i ≤ rs.length ∧ X4.le X' ∧ WrS sv (L3 ++ ((rs.take i).map numB).flatten) G ∧ env = [(1, .pointer (some ⟨bw, 0, none⟩)), (2, .pointer (some ⟨B2, 0, none⟩)), (25, .slice An rs.length cn), (26, .int .i64 (rs.length : Int)), (27, .int .i64 (i : Int))] ∧ own = WrO bw sv :: G ++ own0) rs.length ⟨0, sv4, G4, by simp, by omega, PMap.le_refl _, by simpa using hG4, rfl, rfl⟩ (by repeat (first | exact Sub.nil | refine Sub.cons rfl ?_)) ?_
    rintro q _ _ X5 ⟨i, sv5, G5, rfl, hi, hX5, hG5, rfl, rfl⟩
    have hB2 := hB2.mono hX5
    have a6 := flatB_len (l := rs.take i) fun r hr => h4 r (List.mem_of_mem_take hr)
    have a7 : (rs.take i).length ≤ rs.length := by rw [List.length_take]; omega
    rcases Nat.lt_or_ge i rs.length with hil | hil
    · obtain ⟨b, rfl, hB⟩ := hn.blk (by omega)
      have htk : rs.take (i + 1) = rs.take i ++ [rs[i]] := List.take_succ_eq_append_getElem hil
      have hri := h4 _ (List.getElem_mem hil)
      refine T.seq <| T.region <| SL.v (op_lssT rfl rfl (by omega)) ?_
      refine SL.nil <| T.seq <| T.condT rfl <| T.skip <| T.seq <| T.block <| T.seq <| T.region <| SL.v (op_indexN Tryz.underlying24 ty3 rfl rfl (by omega)) ?_
      refine SL.v (op_loadX ty3 rfl ((hB.mono hX04).mono hX5) (cread1 (ints_get rs i hil))) <| SL.as rfl <| SL.nil <| T.region <| SL.mv rfl <| SL.mv rfl <| SL.v (op_convU64 Tryz.underlying3 Tryz.underlying58 rfl (by omega) (by omega)) ?_
      refine SL.w (op_callM en97 (vs := [_, _]) rfl (uintW2_spec (n := rs[i]) (by omega) hG5 (by simp only [List.length_append]; omega)) rfl) ?_
      rintro _ _ X6 ⟨_, rfl, hX6, sv6, G6, rfl, hG6⟩
      refine SL.nil <| T.blk <| T.region <| SL.v (op_addN (q := 1) rfl rfl (by omega)) ?_
      refine SL.mv rfl <| SL.nil ?_
      exact T.backW (rs.length - (i + 1)) (by omega) ⟨i + 1, sv6, G6, rfl, by omega, hX5.trans' hX6, by rw [htk, List.map_append, List.flatten_append, List.map_singleton, List.flatten_singleton, ← List.append_assoc]; exact hG6, rfl, rfl⟩ (by repeat (first | exact Sub.nil | refine Sub.cons rfl ?_))
    obtain rfl : i = rs.length := by omega
    rw [List.take_of_length_le (Nat.le_refl _)] at hG5 a6
    have hX05 := hX04.trans' hX5
    refine T.seq <| T.region <| SL.v (op_lssF rfl rfl (by omega)) ?_
    refine SL.nil <| T.seq <| T.condF rfl ?_
    refine T.exit (T.exitCode (T.exitCut (T.exitBlk ?_)))
    refine T.seq <| T.region <| SL.mv rfl <| SL.v (op_fieldAddr fa36_3 rfl) <| SL.v (op_loadX ty34 rfl (by assumption) rfl) ?_
    refine SL.v (op_lenS Tryz.underlying34 rfl) <| SL.v (op_convU64 Tryz.underlying3 Tryz.underlying58 rfl (by omega) (by omega)) ?_
    refine SL.w (op_callM en97 (vs := [_, _]) rfl (uintW2_spec (n := rows.length) (by omega) hG5 (by simp only [List.length_append]; omega)) rfl) ?_
    rintro _ _ X6 ⟨_, rfl, hX6, sv6, G6, rfl, hG6⟩
    have hB2 := hB2.mono hX6
    have hX06 := hX05.trans' hX6
    obtain ⟨L5, hL5⟩ : ∃ L5, L5 = L3 ++ (rs.map numB).flatten ++ numB rows.length := ⟨_, rfl⟩
    have hL5l : L5.length ≤ l.length + 40 + 10 * rs.length := by rw [hL5, hl]; simp only [List.length_append]; omega
    rw [← hL5] at hG6
    refine SL.nil <| T.seq <| T.region <| SL.v (op_fieldAddr fa36_3 rfl) <| SL.v (op_loadX ty34 rfl (by assumption) rfl) ?_
    refine SL.v (op_lenS Tryz.underlying34 rfl) <| SL.v (op_move (v := .int .i64 ((0 : Nat) : Int)) rfl) <| SL.nil <| T.block <| T.loopW (fun q env own X' => ∃ (i : Nat) (sv : Value) (G : Own), q = rows.length - i ∧ i ≤ rows.length ∧ X6.le X' ∧ WrS sv (L5 ++ encFL (al.take i)) G ∧ env = [(1, .pointer (some ⟨bw, 0, none⟩)), (43, .slice Aa rows.length ca), (44, .int .i64 (rows.length : Int)), (45, .int .i64 (i : Int))] ∧ own = WrO bw sv :: G ++ own0) rows.length ⟨0, sv6, G6, by simp, by omega, PMap.le_refl _, by simpa [encFL] using hG6, rfl, rfl⟩ (by repeat (first | exact Sub.nil | refine Sub.cons rfl ?_)) ?_
    rintro q _ _ X7 ⟨i, sv7, G7, rfl, hi, hX7, hG7, rfl, rfl⟩
    have hX07 := hX06.trans' hX7
    rcases Nat.lt_or_ge i rows.length with hil | hil
    · obtain ⟨r2, hr2⟩ : ∃ r2, rows[i]? = some r2 := ⟨_, List.getElem?_eq_getElem hil⟩
      obtain ⟨a, ha2⟩ : ∃ a, al[i]? = some a := ⟨_, List.getElem?_eq_getElem (by omega)⟩
      have hma := List.mem_of_getElem? ha2
      have hra := (hr i a r2 ha2 hr2).mono hX07
      obtain ⟨bA, pre, rfl, hbA⟩ := ha.blk (by omega)
      have hwa := wtFL_mem hma
      have hts := take_snoc ha2
      have hw1 : wtFL (al.take (i + 1)) ≤ wtFL al := by
        have := wtFL_app (al.drop (i + 1)) (al.take (i + 1))
        rw [List.take_append_drop] at this; omega
      have hw2 : wtFL (al.take (i + 1)) = wtFL (al.take i) + wtF a := by rw [hts, wtFL_snoc]
      have hnt : nokFL (al.take i) := nokFL_take h5
      have hel := encFL_len (al.take i) hnt (by omega)
      have hih := fun {X' : PMap} (hX : X7.le X') => ih (bw := bw) (by omega) (by omega) (nokFL_mem h5 hma) (by simp only [List.length_append]; omega) hG7 (hra.mono hX)
      obtain ⟨_, _, _, _, _, _, _, _, rfl⟩ := hra.form
      try simp only at hih
      refine T.seq <| T.region <| SL.v (op_lssT rfl rfl (by omega)) ?_
      refine SL.nil <| T.seq <| T.condT rfl <| T.skip <| T.seq <| T.block <| T.seq <| T.region <| SL.v (op_indexN Tryz.underlying34 ty36 rfl rfl (by omega)) ?_
      refine SL.v (op_loadX ty36 rfl (hbA.mono hX07) (row_read rc4_len hr2 (by omega))) ?_
      refine SL.w (op_alloc z36) ?_
      rintro _ _ _ ⟨B7, rfl, rfl, rfl⟩
      refine SL.w (op_store ty36 rfl rfl (by repeat constructor) rfl rfl rfl) ?_
      rintro _ _ _ ⟨rfl, rfl⟩
      refine SL.nil <| T.region <| T.pubAt B7 (by repeat constructor) ?_
      intro X8 hX8 hB7 _
      refine SL.v (op_loadX ty36 rfl (by assumption) rfl) ?_
      refine SL.mv rfl <| SL.w (op_callM en99 (vs := [_, _]) rfl (hih hX8) rfl) ?_
      rintro _ _ X9 ⟨_, rfl, hX9, sv9, G9, rfl, hG9⟩
      refine SL.nil <| T.blk <| T.region <| SL.v (op_addN (q := 1) rfl rfl (by omega)) ?_
      refine SL.mv rfl <| SL.nil ?_
      exact T.backW (rows.length - (i + 1)) (by omega) ⟨i + 1, sv9, G9, rfl, by omega, (hX7.trans' hX8).trans' hX9, by rw [hts, encFL_app, encFL, encFL, List.append_nil, ← List.append_assoc]; exact hG9, rfl, rfl⟩ (by repeat (first | exact Sub.nil | refine Sub.cons rfl ?_))
    · obtain rfl : i = rows.length := by omega
      rw [List.take_of_length_le (by omega)] at hG7
      refine T.seq <| T.region <| SL.v (op_lssF rfl rfl (by omega)) ?_
      refine SL.nil <| T.seq <| T.condF rfl ?_
      refine T.exit (T.exitCode (T.exitCut (T.exitBlk ?_)))
      refine T.doneM0 (WrO bw sv7 :: G7) rfl (List.Perm.refl _) ?_
      refine ⟨hX07, sv7, G7, rfl, ?_⟩
      rw [hL5, hL3, hl] at hG7
      simp only [List.append_assoc] at hG7 ⊢
      exact hG7
end Go.Proofs.YtnpcilglilfajaaGreatDoor
namespace Go.Proofs.YtnpcilglilfajaaGreatDoor
section
set_option maxRecDepth 100000
theorem en100 : Enters Tryz.prog 100 := enters_mk Tryz.func100 (by kernel_rfl) rfl
theorem en47 : Enters Tryz.prog 47 := enters_mk Tryz.func47 (by kernel_rfl) rfl
theorem en95 : Enters Tryz.prog 95 := enters_mk Tryz.func95 (by kernel_rfl) rfl
theorem en96 : Enters Tryz.prog 96 := enters_mk Tryz.func96 (by kernel_rfl) rfl
theorem en98 : Enters Tryz.prog 98 := enters_mk Tryz.func98 (by kernel_rfl) rfl
theorem fa101_0 : FAdr Tryz.prog 101 0 0 := fadr_mk Tryz.underlying101 rfl rfl (by kernel_rfl)
theorem fa101_1 : FAdr Tryz.prog 101 1 1 := fadr_mk Tryz.underlying101 rfl rfl (by kernel_rfl)
theorem fa101_2 : FAdr Tryz.prog 101 2 2 := fadr_mk Tryz.underlying101 rfl rfl (by kernel_rfl)
theorem fa101_3 : FAdr Tryz.prog 101 3 3 := fadr_mk Tryz.underlying101 rfl rfl (by kernel_rfl)
theorem ty101 : Ty Tryz.prog 101 true 7 := ⟨⟨_, Tryz.underlying101, rfl⟩, by kernel_rfl⟩
end
open Go.RowKit
/-- What is wrong with a constraint. -/
noncomputable def chkC18 (kind : Nat) (name : ByteArray) (f : Fm) : Int := if kind < 1 ∨ 3 < kind then 1 else if ¬validS name then 9 else chkF kind f
def enc18 (enf : Bool) (kind : Nat) (name : ByteArray) (f : Fm) : List Nat := [if enf then 1 else 0] ++ numB kind ++ numB name.size ++ byN name ++ encF f
theorem conchk_spec {X : PMap} {enf : Bool} {kind : Nat} {name : ByteArray} {f : Fm} {r : Row4} (hw : wtF f < 1000000) (hk : kind < 256) (h : FmR .u8 X f r) : Spec Tryz.prog 47 [.agg #[.bool enf, .int .u8 (kind : Int), .string name, r.1, r.2.1, r.2.2.1, r.2.2.2]] X fun u _ => u = .int .i64 (chkC18 kind name f) := by
  have hc1 := fun {X' : PMap} (hX : X.le X') => fchk_spec (kind := kind) hw hk (h.mono hX)
  obtain ⟨o, n, A, B, l, c, l', c', rfl⟩ := h.form
  try simp only at hc1
  rw [chkC18]
  by_cases k1 : kind < 1
  · rw [if_pos (.inl k1)]
    refine Spec.enter Tryz.func47 rfl Tryz.ntmps47 rfl ?_
    intro w0 hw0
    refine T.seq <| T.region <| SL.w (op_box rfl) ?_
    rintro _ _ _ ⟨B1, rfl, rfl, rfl⟩
    refine SL.v (op_assign (v := .int .i64 ((0 : Nat) : Int)) rfl) <| SL.nil <| T.seq <| T.block <| T.seq <| T.region <| SL.v (op_fieldAddr fa101_1 rfl) <| SL.v (op_load ty41 rfl (by repeat constructor) rfl) ?_
    refine SL.v (op_lssT rfl rfl (by omega)) ?_
    refine SL.mv rfl <| SL.skip rfl rfl ?_
    refine SL.skip rfl rfl ?_
    refine SL.skip rfl rfl ?_
    refine SL.v (op_pickT rfl rfl) <| SL.as rfl <| SL.nil <| T.condT rfl <| T.seq <| T.region <| SL.v (op_assign (v := .int .i64 ((1 : Nat) : Int)) rfl) <| SL.nil <| T.ret1 rfl (ResIs.tmp rfl) ?_
    rfl
  by_cases k2 : 3 < kind
  · rw [if_pos (.inr k2)]
    refine Spec.enter Tryz.func47 rfl Tryz.ntmps47 rfl ?_
    intro w0 hw0
    refine T.seq <| T.region <| SL.w (op_box rfl) ?_
    rintro _ _ _ ⟨B1, rfl, rfl, rfl⟩
    refine SL.v (op_assign (v := .int .i64 ((0 : Nat) : Int)) rfl) <| SL.nil <| T.seq <| T.block <| T.seq <| T.region <| SL.v (op_fieldAddr fa101_1 rfl) <| SL.v (op_load ty41 rfl (by repeat constructor) rfl) ?_
    refine SL.v (op_lssF rfl rfl (by omega)) ?_
    refine SL.mv rfl <| SL.v (op_fieldAddr fa101_1 rfl) <| SL.v (op_load ty41 rfl (by repeat constructor) rfl) ?_
    refine SL.v (op_gtrT rfl rfl (by omega)) ?_
    refine SL.v (op_pickF rfl rfl) <| SL.as rfl <| SL.nil <| T.condT rfl <| T.seq <| T.region <| SL.v (op_assign (v := .int .i64 ((1 : Nat) : Int)) rfl) <| SL.nil <| T.ret1 rfl (ResIs.tmp rfl) ?_
    rfl
  rw [if_neg (fun h => h.elim k1 k2)]
  refine Spec.enter Tryz.func47 rfl Tryz.ntmps47 rfl ?_
  intro w0 hw0
  refine T.seq <| T.region <| SL.w (op_box rfl) ?_
  rintro _ _ _ ⟨B1, rfl, rfl, rfl⟩
  refine SL.v (op_assign (v := .int .i64 ((0 : Nat) : Int)) rfl) <| SL.nil <| T.seq <| T.block <| T.seq <| T.region <| SL.v (op_fieldAddr fa101_1 rfl) <| SL.v (op_load ty41 rfl (by repeat constructor) rfl) ?_
  refine SL.v (op_lssF rfl rfl (by omega)) ?_
  refine SL.mv rfl <| SL.v (op_fieldAddr fa101_1 rfl) <| SL.v (op_load ty41 rfl (by repeat constructor) rfl) ?_
  refine SL.v (op_gtrF rfl rfl (by omega)) ?_
  refine SL.v (op_pickF rfl rfl) <| SL.as rfl <| SL.nil <| T.condF rfl <| T.seq <| T.region <| SL.v (op_fieldAddr fa101_2 rfl) <| SL.v (op_load ty9 rfl (by repeat constructor) rfl) ?_
  refine SL.w (op_callF en94 (vs := [_]) rfl (nvalid_spec)) ?_
  rintro _ _ X1 ⟨rfl, hX1, rfl⟩
  by_cases hv : validS name
  case neg =>
    rw [decide_eq_false hv, if_pos hv]
    refine SL.v (op_not rfl) <| SL.as rfl <| SL.nil <| T.condT rfl <| T.seq <| T.region <| SL.v (op_assign (v := .int .i64 ((9 : Nat) : Int)) rfl) <| SL.nil <| T.ret1 rfl (ResIs.tmp rfl) ?_
    rfl
  rw [decide_eq_true hv, if_neg (fun h => h hv)]
  refine SL.v (op_not rfl) <| SL.as rfl <| SL.nil <| T.condF rfl <| T.skip <| T.blk <| T.seq <| T.region <| SL.v (op_fieldAddr fa101_3 rfl) <| SL.v (op_load ty36 rfl (by repeat constructor) rfl) ?_
  refine SL.v (op_fieldAddr fa101_1 rfl) <| SL.v (op_load ty41 rfl (by repeat constructor) rfl) ?_
  refine SL.w (op_callF en18 (vs := [_, _]) rfl (hc1 hX1)) ?_
  rintro _ _ X2 ⟨rfl, hX2, rfl⟩
  refine SL.as rfl <| SL.nil <| T.ret1 rfl (ResIs.tmp rfl) ?_
  rfl
theorem chkC18_ok {kind : Nat} {name : ByteArray} {f : Fm} (h : chkC18 kind name f = 0) : 1 ≤ kind ∧ kind ≤ 3 ∧ validS name ∧ chkF kind f = 0 := by
  unfold chkC18 at h
  split at h
  · cases h
  · split at h
    · cases h
    · rename_i h1 h2
      exact ⟨by omega, by omega, Classical.not_not.1 h2, h⟩
theorem chkF_ins {kind : Nat} {f : Fm} (h : chkF kind f = 0) : insF kind f = 0 := by
  unfold chkF at h
  split at h
  · cases h
  · split at h
    · rename_i hl; exact absurd h hl
    · rename_i hl
      have hl := Classical.not_not.1 hl
      rw [lookF] at hl
      split at hl
      · cases hl
      · exact hl
theorem cbytes_spec {X : PMap} {enf : Bool} {kind : Nat} {name : ByteArray} {f : Fm} {r : Row4} (hw : wtF f < 20000) (hk : kind < 256) (h : FmR .u8 X f r) : Spec Tryz.prog 50 [.agg #[.bool enf, .int .u8 (kind : Int), .string name, r.1, r.2.1, r.2.2.1, r.2.2.2]] X fun u X' => if chkC18 kind name f = 0 then BytesR X' u (enc18 enf kind name f) else u = .slice none 0 0 := by
  have hc1 := fun {X' : PMap} (hX : X.le X') => conchk_spec (enf := enf) (name := name) (by omega) hk (h.mono hX)
  have hc2 := fun {X' : PMap} {bw : Nat} {sv : Value} {l : List Nat} {G : Own} (hn : nokF f) (hl : l.length + 40 * wtF f < 700000000) (hG : WrS sv l G) (hX : X.le X') => write_spec (bw := bw) (wtF f) (Nat.le_refl _) (by omega) hn hl hG (h.mono hX)
  obtain ⟨o, n, A, B, l, c, l', c', rfl⟩ := h.form
  try simp only at hc1
  try simp only at hc2
  by_cases hck : chkC18 kind name f = 0
  case neg =>
    refine Spec.enter Tryz.func50 rfl Tryz.ntmps50 rfl ?_
    intro w0 hw0
    refine T.seq <| T.region <| SL.w (op_box rfl) ?_
    rintro _ _ _ ⟨B1, rfl, rfl, rfl⟩
    refine SL.as rfl <| SL.nil <| T.seq <| T.seq <| T.region <| SL.v (op_load ty101 rfl (by repeat constructor) rfl) ?_
    refine SL.w (op_callF en47 (vs := [_]) rfl (hc1 (PMap.le_refl _))) ?_
    rintro _ _ X1 ⟨rfl, hX1, rfl⟩
    refine SL.v (op_neqT rfl rfl (by omega)) ?_
    refine SL.nil <| T.condT rfl <| T.seq <| T.region <| SL.as rfl <| SL.nil <| T.ret1 rfl (ResIs.tmp rfl) ?_
    rw [if_neg hck]
  obtain ⟨k1, k2, hv, hcf⟩ := chkC18_ok hck
  have hnok := insF_nok f (chkF_ins hcf)
  have hel := encF_len f hnok (by omega)
  have hsz : 0 < name.size ∧ name.size ≤ 12 := ⟨by have := hv.1; omega, hv.2.1⟩
  have a1 := numB_len (n := kind) (by omega)
  have a2 := numB_len (n := name.size) (by omega)
  have a3 := byN_len name
  refine Spec.enter Tryz.func50 rfl Tryz.ntmps50 rfl ?_
  intro w0 hw0
  refine T.seq <| T.region <| SL.w (op_box rfl) ?_
  rintro _ _ _ ⟨B1, rfl, rfl, rfl⟩
  refine SL.as rfl <| SL.nil <| T.seq <| T.seq <| T.region <| T.pubAt B1 (by repeat constructor) ?_
  intro Y1 hY1 hB1 _
  refine SL.v (op_loadX ty101 rfl (by assumption) rfl) ?_
  refine SL.w (op_callF en47 (vs := [_]) rfl (hc1 hY1)) ?_
  rintro _ _ X1 ⟨rfl, hX1, rfl⟩
  rw [hck]
  have hB1 := hB1.mono hX1
  refine SL.v (op_neqF rfl rfl (by omega)) ?_
  refine SL.nil <| T.condF rfl <| T.skip <| T.seq <| T.region <| SL.w (op_callO en95 (vs := []) rfl (newW_spec)) ?_
  rintro _ _ X2 ⟨_, rfl, hX2, bw, rfl, rfl⟩
  have hB1 := hB1.mono hX2
  refine SL.as rfl <| SL.nil <| T.seq <| T.region <| SL.mv rfl <| SL.v (op_fieldAddr fa101_0 rfl) <| SL.v (op_loadX ty4 rfl (by assumption) rfl) ?_
  refine SL.perm (own' := (WrO bw (.slice none 0 0) :: []) ++ []) (List.Perm.of_eq rfl) ?_
  refine SL.w (op_callM en96 (vs := [_, _]) rfl (flagW_spec (l := []) (GrowS.nil : WrS _ [] []) (by decide)) rfl) ?_
  rintro _ _ X3 ⟨_, rfl, hX3, sv3, G3, rfl, hG3⟩
  have hB1 := hB1.mono hX3
  refine SL.nil <| T.seq <| T.region <| SL.mv rfl <| SL.v (op_fieldAddr fa101_1 rfl) <| SL.v (op_loadX ty41 rfl (by assumption) rfl) ?_
  refine SL.v (op_convU64 Tryz.underlying41 Tryz.underlying58 rfl (by omega) (by omega)) ?_
  refine SL.w (op_callM en97 (vs := [_, _]) rfl (uintW2_spec (n := kind) (by omega) hG3 (by simp)) rfl) ?_
  rintro _ _ X4 ⟨_, rfl, hX4, sv4, G4, rfl, hG4⟩
  have hB1 := hB1.mono hX4
  refine SL.nil <| T.seq <| T.region <| SL.mv rfl <| SL.v (op_fieldAddr fa101_2 rfl) <| SL.v (op_loadX ty9 rfl (by assumption) rfl) ?_
  refine SL.w (op_callM en98 (vs := [_, _]) rfl (strW_spec (s := name) hG4 hsz.1 (by simp only [List.length_append, List.length_cons, List.length_nil]; omega)) rfl) ?_
  rintro _ _ X5 ⟨_, rfl, hX5, sv5, G5, rfl, hG5⟩
  have hB1 := hB1.mono hX5
  refine SL.nil <| T.seq <| T.region <| SL.v (op_fieldAddr fa101_3 rfl) <| SL.v (op_loadX ty36 rfl (by assumption) rfl) ?_
  refine SL.mv rfl <| SL.w (op_callM en99 (vs := [_, _]) rfl (hc2 hnok (by simp only [List.length_append, List.length_cons, List.length_nil]; omega) hG5 ((((hY1.trans' hX1).trans' hX2).trans' hX3).trans' (hX4.trans' hX5))) rfl) ?_
  rintro _ _ X6 ⟨_, rfl, hX6, sv6, G6, rfl, hG6⟩
  refine SL.nil <| T.seq <| T.region <| SL.mv rfl <| SL.perm (own' := [WrO bw sv6] ++ G6) (by simp) ?_
  refine T.pubGAt (own0 := [WrO bw sv6]) hG6 ?_
  intro X7 hX7 hS7
  refine T.pubAt bw (by repeat constructor) ?_
  intro X8 hX8 hB8 _
  refine SL.w (op_callF en100 (vs := [_]) rfl ((out_spec hB8 (BytesR.ofS (hS7.mono hX8)) (by simp only [List.length_append, List.length_cons, List.length_nil]; omega)).pubG)) ?_
  rintro u _ X9 ⟨rfl, hX9, hu⟩
  refine SL.as rfl <| SL.nil <| T.ret1 rfl (ResIs.tmp rfl) ?_
  rw [if_pos rfl]
  exact BytesR.ofS hu
end Go.Proofs.YtnpcilglilfajaaGreatDoor
namespace Go.Proofs.YtnpcilglilfajaaGreatDoor
section
set_option maxRecDepth 100000
theorem en15 : Enters Tryz.prog 15 := enters_mk Tryz.func15 (by kernel_rfl) rfl
theorem en24 : Enters Tryz.prog 24 := enters_mk Tryz.func24 (by kernel_rfl) rfl
theorem en25 : Enters Tryz.prog 25 := enters_mk Tryz.func25 (by kernel_rfl) rfl
theorem en50 : Enters Tryz.prog 50 := enters_mk Tryz.func50 (by kernel_rfl) rfl
theorem en57 : Enters Tryz.prog 57 := enters_mk Tryz.func57 (by kernel_rfl) rfl
theorem z101 : Zero Tryz.prog 101 [.bool false, .int .u8 0, .string ⟨#[]⟩, .int .u8 0, .int .i64 0, .slice none 0 0, .slice none 0 0] := ⟨zero_of (by kernel_rfl)⟩
theorem st101 : StT Tryz.prog 101 [(0, 1), (1, 1), (2, 1), (3, 4)] [.bool false, .int .u8 0, .string ⟨#[]⟩, .int .u8 0, .int .i64 0, .slice none 0 0, .slice none 0 0] := ⟨⟨_, Tryz.underlying101, fun _ => by kernel_rfl, z101⟩⟩
end
open Go.RowKit
section
variable {P : Program} {n : NM} {own : Own} {X : PMap} {env : Env}
/-- string(b) of published bytes. -/
theorem op_strBytesR {src dst e : TypeId} {x : Operand} {v : Value} {l : List UInt8} (hs : P.underlying src = some (.slice e)) (he : P.underlying e = some (.int .u8)) (hd : P.underlying dst = some .string)
    (hx : eev env x = some v) (hv : BytesR X v (l.map (·.toNat))) (h0 : 0 < l.length) : OpY P n env own X (.convert src dst x) (.string ⟨l.toArray⟩) := by
  rcases hv with ⟨h1, _⟩ | ⟨_, b, c, pre, rfl, hB⟩
  · rw [List.map_eq_nil_iff] at h1; rw [h1] at h0; exact absurd h0 (by simp)
  · refine op_strBytes (a := ⟨b, pre.length, none⟩) (cap := c) hs he hd (by rw [hx, List.length_map]) fun W hst j hj => ?_
    refine Eq.trans (congrArg W.cell? (show Addr.add ⟨b, pre.length, none⟩ j = ⟨b, pre.length + j, none⟩ by unfold Addr.add; split <;> simp_all)) (hB.cell hst.pers (i := pre.length + j) (v := .int .u8 (l[j].toNat : Int)) ?_)
    exact (by
      rw [List.getElem?_append_right (by omega), Nat.add_sub_cancel_left]
      exact bytesC_at (b := l[j].toNat) (by simp [hj]))
end
theorem exLeaf {k : IntKind} {X : PMap} {op : Nat} {n : Int} {vn : Value} {ns : List ByteArray} (hn : RowR strC X vn ns) : ExR k X (.mk op n ns []) (.int k (op : Int), .int .i64 n, vn, .slice none 0 0) := .mk (rows := []) hn (.inl ⟨rfl, _, _, rfl⟩) rfl (fun i a r h => by simp at h)
theorem exTwo {k : IntKind} {X : PMap} {op : Nat} {n : Int} {va : Value} {a b : Ex} {ra rb : Row4} (h : RowR rc4 X va [ra, rb]) (ha : ExR k X a ra) (hb : ExR k X b rb) : ExR k X (.mk op n [] [a, b]) (.int k (op : Int), .int .i64 n, .slice none 0 0, va) := .mk (rows := [ra, rb]) (.inl ⟨rfl, _, _, rfl⟩) h rfl (fun i x r h1 h2 => by
  match i with
  | 0 => simp at h1 h2; subst h1 h2; exact ha
  | 1 => simp at h1 h2; subst h1 h2; exact hb
  | i + 2 => simp at h1)
def sClerk : ByteArray := ⟨#[99, 108, 101, 114, 107]⟩
def sAud : ByteArray := ⟨#[97, 117, 100, 105, 116, 111, 114]⟩
def sTell : ByteArray := ⟨#[116, 101, 108, 108, 101, 114]⟩
def nsA : List ByteArray := [sClerk, sAud, sTell]
def e1A : Ex := .mk 11 0 [] [.mk 5 0 [sClerk, sAud] [], .mk 1 1 [] []]
def e2A : Ex := .mk 11 0 [] [.mk 16 0 [] [.mk 4 0 [sClerk] [], .mk 1 1 [] []], .mk 1 2 [] []]
def f1A : Fm := .mk 11 0 [] [.mk 5 0 [1, 2] [], .mk 1 1 [] []]
def f3A : Fm := .mk 4 0 [3] []
def sSod : ByteArray := ⟨#[115, 111, 100]⟩
theorem aw18n : errOf 63 [] nsA = 0 := errOf_ok (by intro s hs; simp only [nsA, List.mem_cons, List.not_mem_nil, or_false] at hs; rcases hs with rfl | rfl | rfl <;> exact of_decide_eq_true (by kernel_rfl)) (of_decide_eq_true (by kernel_rfl)) (by decide) (by decide)
theorem aw18a : resF nsA 0 1 e1A = (f1A, 0) := by kernel_rfl
theorem aw18b : (resF nsA 0 3 e1A).2 = 10 := by kernel_rfl
theorem aw18c : (resF nsA 0 1 e2A).2 = 10 := by kernel_rfl
theorem aw18t : typF f1A = (1, 0) := by kernel_rfl
theorem aw18m : menF f1A = 6 := by kernel_rfl
theorem aw18k : chkC18 1 sSod f3A = 0 := by kernel_rfl
theorem numB_small {n : Nat} (h : n < 128) : numB n = [n] := by rw [numB, Nat.div_eq_of_lt h, numHi_zero, Nat.mod_eq_of_lt h]; rfl
theorem aw18e : enc18 true 1 sSod f3A = [1, 1, 3, 115, 111, 100, 4, 0, 1, 3, 0] := by
  rw [enc18, show sSod.size = 3 from rfl, numB_small (by decide), numB_small (by decide)]
  simp [encF, encFL, f3A, numB_small, byN, sSod]
theorem awt18 {X : PMap} (hT : Tab X) {v : Value} {m : Nat} (h : SetR X v m) (hd : ∀ i ∈ mem64 m, i < 10) {s : List UInt8} (hs : txtOf (mem64 m) ++ [125] = s) : Spec Tryz.prog 57 [v] X fun u _ => u = .string ⟨s.toArray⟩ :=
  (text_spec hT h hd).mono fun _ _ _ hv => by rw [hv, hs]
theorem awake18_spec {X : PMap} (hT : Tab X) : Spec Tryz.prog 13 [] X fun u _ => u = .bool true := by
  refine Spec.enter Tryz.func13 rfl Tryz.ntmps13 rfl ?_
  intro w0 hw0
  refine T.seq <| T.region <| SL.as rfl <| SL.nil <| T.seq <| T.region <| SL.w (op_buildSlice Tryz.underlying59 bs9 (qs := [(0, _), (1, _), (2, _)]) rfl rfl rfl rfl rfl) ?_
  rintro _ _ _ ⟨B15, rfl, rfl, rfl⟩
  refine T.pubAt B15 (by repeat constructor) ?_
  intro X1 hX1 hB15 _
  refine SL.w (op_callF en24 (vs := [_]) rfl (tabl_spec (l := nsA) (.inr ⟨by decide, B15, 3, [], rfl, hB15, by decide, by decide⟩) (by decide))) ?_
  rintro vt _ X2 ⟨rfl, hX2, hTb⟩
  rw [if_pos aw18n] at hTb
  obtain ⟨bt, hbt⟩ := hTb.form
  subst hbt
  refine SL.as rfl <| SL.nil <| T.seq <| T.seq <| T.region <| SL.mv rfl <| SL.v (op_eqlNil Tryz.underlying64 rfl rfl) <| SL.nil <| T.condF rfl <| T.skip <| T.seq <| T.region <| SL.v (op_build st70 (qs := [(0, _), (1, _)]) rfl rfl) <| SL.w (op_alloc z70) ?_
  rintro _ _ _ ⟨B2, rfl, rfl, rfl⟩
  refine SL.w (op_store ty70 rfl rfl (by repeat constructor) rfl rfl rfl) ?_
  rintro _ _ _ ⟨rfl, rfl⟩
  refine SL.nil <| T.seq <| T.region <| SL.w (op_buildSlice Tryz.underlying59 bs9 (qs := [(0, _), (1, _)]) rfl rfl rfl rfl rfl) ?_
  rintro _ _ _ ⟨B20, rfl, rfl, rfl⟩
  refine SL.v (op_build st70 (qs := [(0, _), (2, _)]) rfl rfl) <| SL.w (op_alloc z70) ?_
  rintro _ _ _ ⟨B3, rfl, rfl, rfl⟩
  refine SL.w (op_store ty70 rfl rfl (by repeat constructor) rfl rfl rfl) ?_
  rintro _ _ _ ⟨rfl, rfl⟩
  refine SL.nil <| T.seq <| T.region <| T.pubAt B20 (by repeat constructor) ?_
  intro X3 hX3 hB20 _
  refine SL.v (op_load ty70 rfl (by repeat constructor) rfl) ?_
  refine SL.v (op_load ty70 rfl (by repeat constructor) rfl) ?_
  refine SL.w (op_buildSlice Tryz.underlying68 bs70 (qs := [(0, _), (1, _)]) rfl rfl rfl rfl rfl) ?_
  rintro _ _ _ ⟨B24, rfl, rfl, rfl⟩
  refine SL.v (op_build st70 (qs := [(0, _), (3, _)]) rfl rfl) <| SL.w (op_alloc z70) ?_
  rintro _ _ _ ⟨B4, rfl, rfl, rfl⟩
  refine SL.w (op_store ty70 rfl rfl (by repeat constructor) rfl rfl rfl) ?_
  rintro _ _ _ ⟨rfl, rfl⟩
  refine SL.nil <| T.seq <| T.region <| T.pubAt B24 (by repeat constructor) ?_
  intro X4 hX4 hB24 _
  have hR20 : RowR strC X4 (.slice (some ⟨B20, 0, none⟩) 2 2) [sClerk, sAud] := .inr ⟨by decide, B20, 2, [], rfl, hB20.mono hX4, by decide, by decide⟩
  have hE0 := exLeaf (k := .u8) (op := 5) (n := 0) hR20
  have hE1 := exLeaf (k := .u8) (X := X4) (op := 1) (n := 1) (vn := .slice none 0 0) (.inl ⟨rfl, _, _, rfl⟩)
  have hE : ExR .u8 X4 e1A (.int .u8 11, .int .i64 0, .slice none 0 0, .slice (some ⟨B24, 0, none⟩) 2 2) := exTwo (op := 11) (n := 0) (ra := (.int .u8 5, .int .i64 0, .slice (some ⟨B20, 0, none⟩) 2 2, .slice none 0 0)) (rb := (.int .u8 1, .int .i64 1, .slice none 0 0, .slice none 0 0)) (.inr ⟨Nat.zero_lt_succ _, B24, 2, [], rfl, hB24, Nat.le_refl _, by (have : maxLen = 9223372036854775807 := rfl); omega⟩) hE0 hE1
  have hT4 := (hTb.mono hX3).mono hX4
  have hr1 := resolve_spec (kind := 1) (by decide) (by decide) (by decide) hT4 (SetR.zero (A := none) (c := 0)) hE
  rw [aw18a] at hr1
  try simp only at hr1
  refine SL.v (op_load ty70 rfl (by repeat constructor) rfl) ?_
  refine SL.mv rfl <| SL.v (op_build st53 (qs := []) rfl rfl) <| SL.w (op_callF en25 (vs := [_, _, _, _]) rfl (hr1)) ?_
  rintro _ _ X5 ⟨rfl, hX5, r8, rfl, hr8⟩
  have hr2 := resolve_spec (kind := 3) (by decide) (by decide) (by decide) (hT4.mono hX5) (SetR.zero (A := none) (c := 0)) (hE.mono hX5)
  rw [aw18b] at hr2
  try simp only at hr2
  have hty := fun {X' : PMap} (hX : X5.le X') => ftyp_spec (by decide) (hr8.mono hX)
  simp only [aw18t] at hty
  have hmn := fun {X' : PMap} (hX : X5.le X') => fment_spec (wtF f1A) (Nat.le_refl _) (by decide) (insF_rol f1A (kind := 1) (by kernel_rfl)) (hr8.mono hX)
  simp only [aw18m] at hmn
  obtain ⟨o8, n8, a8, b8, l8, c8, l9, c9, rfl⟩ := hr8.form
  try simp only at hty
  try simp only at hmn
  refine SL.mv rfl <| SL.v (op_extract rfl rfl) <| SL.v (op_extract rfl rfl) <| SL.w (op_alloc z36) ?_
  rintro _ _ _ ⟨B5, rfl, rfl, rfl⟩
  refine SL.w (op_store ty36 rfl rfl (by repeat constructor) rfl rfl rfl) ?_
  rintro _ _ _ ⟨rfl, rfl⟩
  refine SL.as rfl <| SL.nil <| T.seq <| T.region <| SL.v (op_load ty70 rfl (by repeat constructor) rfl) ?_
  refine SL.mv rfl <| SL.v (op_build st53 (qs := []) rfl rfl) <| SL.w (op_callF en25 (vs := [_, _, _, _]) rfl (hr2)) ?_
  rintro _ _ X6 ⟨rfl, hX6, r9, rfl, hr9⟩
  obtain ⟨o9, n9, a9, b9, l10, c10, l11, c11, rfl⟩ := hr9.form
  refine SL.mv rfl <| SL.v (op_extract rfl rfl) <| SL.v (op_extract rfl rfl) <| SL.w (op_alloc z36) ?_
  rintro _ _ _ ⟨B7, rfl, rfl, rfl⟩
  refine SL.w (op_store ty36 rfl rfl (by repeat constructor) rfl rfl rfl) ?_
  rintro _ _ _ ⟨rfl, rfl⟩
  refine SL.as rfl <| SL.nil <| T.seq <| T.region <| SL.w (op_buildSlice Tryz.underlying59 bs9 (qs := [(0, _)]) rfl rfl rfl rfl rfl) ?_
  rintro _ _ _ ⟨B40, rfl, rfl, rfl⟩
  refine SL.v (op_build st70 (qs := [(0, _), (2, _)]) rfl rfl) <| SL.v (op_load ty70 rfl (by repeat constructor) rfl) ?_
  refine SL.w (op_buildSlice Tryz.underlying68 bs70 (qs := [(0, _), (1, _)]) rfl rfl rfl rfl rfl) ?_
  rintro _ _ _ ⟨B43, rfl, rfl, rfl⟩
  refine SL.v (op_build st70 (qs := [(0, _), (3, _)]) rfl rfl) <| SL.w (op_alloc z70) ?_
  rintro _ _ _ ⟨B9, rfl, rfl, rfl⟩
  refine SL.w (op_store ty70 rfl rfl (by repeat constructor) rfl rfl rfl) ?_
  rintro _ _ _ ⟨rfl, rfl⟩
  refine SL.nil <| T.seq <| T.region <| SL.v (op_load ty70 rfl (by repeat constructor) rfl) ?_
  refine SL.v (op_build st70 (qs := [(0, _), (1, _)]) rfl rfl) <| SL.w (op_buildSlice Tryz.underlying68 bs70 (qs := [(0, _), (1, _)]) rfl rfl rfl rfl rfl) ?_
  rintro _ _ _ ⟨B48, rfl, rfl, rfl⟩
  refine SL.v (op_build st70 (qs := [(0, _), (3, _)]) rfl rfl) <| T.pubAt B40 (by repeat constructor) ?_
  intro X7 hX7 hB40 _
  refine T.pubAt B43 (by repeat constructor) ?_
  intro X8 hX8 hB43 _
  refine T.pubAt B48 (by repeat constructor) ?_
  intro X9 hX9 hB48 _
  have hR40 : RowR strC X9 (.slice (some ⟨B40, 0, none⟩) 1 1) [sClerk] := .inr ⟨by decide, B40, 1, [], rfl, (hB40.mono hX8).mono hX9, by decide, by decide⟩
  have hF0 := exLeaf (k := .u8) (op := 4) (n := 0) hR40
  have hF1 := exLeaf (k := .u8) (X := X9) (op := 1) (n := 1) (vn := .slice none 0 0) (.inl ⟨rfl, _, _, rfl⟩)
  have hF2 := exLeaf (k := .u8) (X := X9) (op := 1) (n := 2) (vn := .slice none 0 0) (.inl ⟨rfl, _, _, rfl⟩)
  have hF3 := exTwo (op := 16) (n := 0) (va := .slice (some ⟨B43, 0, none⟩) 2 2) (ra := (.int .u8 4, .int .i64 0, .slice (some ⟨B40, 0, none⟩) 1 1, .slice none 0 0)) (rb := (.int .u8 1, .int .i64 1, .slice none 0 0, .slice none 0 0)) (.inr ⟨Nat.zero_lt_succ _, B43, 2, [], rfl, hB43.mono hX9, Nat.le_refl _, by (have : maxLen = 9223372036854775807 := rfl); omega⟩) hF0 hF1
  have hF : ExR .u8 X9 e2A (.int .u8 11, .int .i64 0, .slice none 0 0, .slice (some ⟨B48, 0, none⟩) 2 2) := exTwo (op := 11) (n := 0) (ra := (.int .u8 16, .int .i64 0, .slice none 0 0, .slice (some ⟨B43, 0, none⟩) 2 2)) (rb := (.int .u8 1, .int .i64 2, .slice none 0 0, .slice none 0 0)) (.inr ⟨Nat.zero_lt_succ _, B48, 2, [], rfl, hB48, Nat.le_refl _, by (have : maxLen = 9223372036854775807 := rfl); omega⟩) hF3 hF2
  have hX59 := ((hX6.trans' hX7).trans' hX8).trans' hX9
  have hr3 := resolve_spec (kind := 1) (by decide) (by decide) (by decide) ((hT4.mono hX5).mono hX59) (SetR.zero (A := none) (c := 0)) hF
  rw [aw18c] at hr3
  try simp only at hr3
  refine SL.mv rfl <| SL.v (op_build st53 (qs := []) rfl rfl) <| SL.w (op_callF en25 (vs := [_, _, _, _]) rfl (hr3)) ?_
  rintro _ _ X10 ⟨rfl, hX10, r12, rfl, hr12⟩
  obtain ⟨o13, n13, a13, b13, l13, c13, l14, c14, rfl⟩ := hr12.form
  have hX510 := hX59.trans' hX10
  refine SL.mv rfl <| SL.v (op_extract rfl rfl) <| SL.v (op_extract rfl rfl) <| SL.w (op_alloc z36) ?_
  rintro _ _ _ ⟨B10, rfl, rfl, rfl⟩
  refine SL.w (op_store ty36 rfl rfl (by repeat constructor) rfl rfl rfl) ?_
  rintro _ _ _ ⟨rfl, rfl⟩
  refine SL.as rfl <| SL.nil <| T.seq <| T.region <| SL.v (op_load ty36 rfl (by repeat constructor) rfl) ?_
  refine SL.w (op_callF en15 (vs := [_]) rfl (hty hX510)) ?_
  rintro _ _ X11 ⟨rfl, hX11, rfl⟩
  refine SL.mv rfl <| SL.v (op_extract rfl rfl) <| SL.v (op_extract rfl rfl) <| SL.as rfl <| SL.as rfl <| SL.nil <| T.seq <| T.region <| SL.w (op_buildSlice Tryz.underlying24 bs3 (qs := [(0, _)]) rfl rfl rfl rfl rfl) ?_
  rintro _ _ _ ⟨B60, rfl, rfl, rfl⟩
  refine SL.v (op_build st36 (qs := [(0, _), (2, _)]) rfl rfl) <| SL.v (op_build st101 (qs := [(0, _), (1, _), (2, _), (3, _)]) rfl rfl) <| SL.w (op_alloc z101) ?_
  rintro _ _ _ ⟨B14, rfl, rfl, rfl⟩
  refine SL.w (op_store ty101 rfl rfl (by repeat constructor) rfl rfl rfl) ?_
  rintro _ _ _ ⟨rfl, rfl⟩
  refine SL.nil <| T.seq <| T.region <| SL.mv rfl <| SL.v (op_eqlT rfl rfl (by omega)) ?_
  refine SL.mv rfl <| SL.mv rfl <| SL.v (op_eqlT rfl rfl (by omega)) ?_
  refine SL.v (op_pickT rfl rfl) <| SL.mv rfl <| SL.mv rfl <| SL.v (op_eqlT rfl rfl (by omega)) ?_
  refine SL.v (op_pickT rfl rfl) <| SL.mv rfl <| SL.mv rfl <| SL.v (op_eqlT rfl rfl (by omega)) ?_
  refine SL.v (op_pickT rfl rfl) <| SL.mv rfl <| SL.mv rfl <| SL.v (op_eqlT rfl rfl (by omega)) ?_
  refine SL.v (op_pickT rfl rfl) <| SL.mv rfl <| T.pubAt B60 (by repeat constructor) ?_
  intro X12 hX12 hB60 _
  have hX512 := (hX510.trans' hX11).trans' hX12
  refine SL.v (op_load ty36 rfl (by repeat constructor) rfl) ?_
  refine SL.w (op_callF en21 (vs := [_]) rfl (hmn hX512)) ?_
  rintro v83 _ X13 ⟨rfl, hX13, hS13⟩
  have hT13 := ((((hT.mono hX1).mono hX2).mono hX3).mono hX4).mono ((hX5.trans' hX512).trans' hX13)
  refine SL.w (op_callF en57 (vs := [_]) rfl (awt18 hT13 hS13 (by decide) (s := [123, 49, 32, 50, 125]) (by decide))) ?_
  rintro _ _ X14 ⟨rfl, hX14, rfl⟩
  refine SL.v (op_eqlStrT Tryz.underlying9 rfl rfl) ?_
  have hcb := cbytes_spec (enf := true) (kind := 1) (name := sSod) (f := f3A) (r := (.int .u8 4, .int .i64 0, .slice (some ⟨B60, 0, none⟩) 1 1, .slice none 0 0)) (by decide) (by decide) (.mk (rows := []) (op := 4) (rs := [3]) ⟨.inr ⟨by decide, B60, 1, rfl, (hB60.mono hX13).mono hX14⟩, _, _, rfl, by decide⟩ (.inl ⟨rfl, _, _, rfl⟩) rfl (fun i a r h => by simp at h))
  simp only [aw18k, aw18e, ↓reduceIte] at hcb
  refine SL.v (op_pickT rfl rfl) <| SL.mv rfl <| SL.v (op_load ty101 rfl (by repeat constructor) rfl) ?_
  refine SL.w (op_callF en50 (vs := [_]) rfl (hcb)) ?_
  rintro v89 _ X15 ⟨rfl, hX15, hb15⟩
  obtain ⟨A89, c89, rfl⟩ := hb15.form
  refine SL.v (op_strBytesR (l := [1, 1, 3, 115, 111, 100, 4, 0, 1, 3, 0]) Tryz.underlying44 Tryz.underlying5 Tryz.underlying9 rfl hb15 (by decide)) ?_
  refine SL.v (op_eqlStrT Tryz.underlying9 rfl rfl) <| SL.v (op_pickT rfl rfl) <| SL.as rfl <| SL.nil <| T.ret1 rfl (ResIs.tmp rfl) ?_
  rfl
end Go.Proofs.YtnpcilglilfajaaGreatDoor
namespace Go.Proofs.YtnpcilglilfajaaGreatDoor
section
set_option maxRecDepth 100000
theorem bs41 : ∃ i z, Tryz.prog.info? 41 = some i ∧ i.size = 1 ∧ i.zero = some z ∧ z.cells = ([.int .u8 0] : List Value).toArray := bs_of (by kernel_rfl)
theorem en13 : Enters Tryz.prog 13 := enters_mk Tryz.func13 (by kernel_rfl) rfl
end
open Go.RowKit
theorem fmLeaf {k : IntKind} {X : PMap} {op : Nat} {n : Int} {vn : Value} {rs : List Nat} (hn : IntsR X vn rs) : FmR k X (.mk op n rs []) (.int k (op : Int), .int .i64 n, vn, .slice none 0 0) := .mk (rows := []) hn (.inl ⟨rfl, _, _, rfl⟩) rfl (fun i a r h => by simp at h)
theorem fmTwo {k : IntKind} {X : PMap} {op : Nat} {n : Int} {va : Value} {a b : Fm} {ra rb : Row4} (h : RowR rc4 X va [ra, rb]) (ha : FmR k X a ra) (hb : FmR k X b rb) : FmR k X (.mk op n [] [a, b]) (.int k (op : Int), .int .i64 n, .slice none 0 0, va) := .mk (rows := [ra, rb]) IntsR.nil h rfl (fun i x r h1 h2 => by
  match i with
  | 0 => simp at h1 h2; subst h1 h2; exact ha
  | 1 => simp at h1 h2; subst h1 h2; exact hb
  | i + 2 => simp at h1)
theorem ints1 {X : PMap} {b : Nat} {r : Nat} (h : Blk X b [.int .i64 (r : Int)]) : IntsR X (.slice (some ⟨b, 0, none⟩) 1 1) [r] := ⟨.inr ⟨Nat.zero_lt_one, b, 1, rfl, h⟩, _, _, rfl, Nat.le_refl _⟩
theorem row2 {X : PMap} {b : Nat} {r s : Row4} (h : Blk X b [r.1, r.2.1, r.2.2.1, r.2.2.2, s.1, s.2.1, s.2.2.1, s.2.2.2]) : RowR rc4 X (.slice (some ⟨b, 0, none⟩) 2 2) [r, s] := .inr ⟨Nat.zero_lt_succ _, b, 2, [], rfl, h, Nat.le_refl _, by (have : maxLen = 9223372036854775807 := rfl); omega⟩
/-- One role mentioned. -/
def lefF (c r : Nat) : Fm := if c = 2 then .mk 13 0 [] [.mk 6 0 [7 * r % 64] [], .mk 1 (r : Int) [] []] else .mk 4 0 [7 * r % 64] []
def limF (c : Nat) : Nat → Fm
  | 0 => .mk 2 0 [] []
  | 1 => lefF c 1
  | k + 2 => .mk 8 0 [] [lefF c (k + 2), limF c (k + 1)]
def limW (c k : Nat) : Int := if (c ≠ 2 ∧ 8 < k) ∨ (c = 2 ∧ 9 < k) then 3 else 0
theorem lim_all : ((List.range 10).all fun i => (List.range 3).all fun c => decide (chkF (c + 1) (limF c (i + 1)) = limW c (i + 1)) && decide ((mem64 (menF (limF c (i + 1)))).length = i + 1) && decide (wtF (limF c (i + 1)) ≤ 100)) = true := by kernel_rfl
theorem lim_ok {c k : Nat} (hc : c < 3) (h1 : 1 ≤ k) (h2 : k ≤ 10) : chkF (c + 1) (limF c k) = limW c k ∧ (mem64 (menF (limF c k))).length = k ∧ wtF (limF c k) ≤ 100 := by
  have h := List.all_eq_true.1 (List.all_eq_true.1 lim_all (k - 1) (List.mem_range.2 (by omega))) c (List.mem_range.2 hc)
  rw [Nat.sub_add_cancel h1] at h
  simp only [Bool.and_eq_true, decide_eq_true_eq] at h
  exact ⟨h.1.1, h.1.2, h.2⟩
theorem lef_rol (c r : Nat) : rolF (lefF c r) := by
  have h : 7 * r % 64 < 64 := Nat.mod_lt _ (by omega)
  unfold lefF
  split
  · exact ⟨fun _ h => (by cases h), ⟨fun x hx => (by rw [List.mem_singleton.1 hx]; exact h), trivial⟩, ⟨fun _ h => (by cases h), trivial⟩, trivial⟩
  · exact ⟨fun x hx => (by rw [List.mem_singleton.1 hx]; exact h), trivial⟩
theorem lim_rol (c : Nat) : ∀ k, rolF (limF c k)
  | 0 => ⟨fun _ h => (by cases h), trivial⟩
  | 1 => lef_rol c 1
  | _ + 2 => ⟨fun _ h => (by cases h), lef_rol c _, lim_rol c _, trivial⟩
theorem lim_succ {c r : Nat} (h : 2 ≤ r) : limF c r = .mk 8 0 [] [lefF c r, limF c (r - 1)] := by
  obtain ⟨k, rfl⟩ : ∃ k, r = k + 2 := ⟨r - 2, by omega⟩
  rfl
theorem kinds_read {c : Nat} (h : c < 3) : cread false 1 [.int .u8 1, .int .u8 2, .int .u8 3] (0 + c * 1) = some (.int .u8 ((c + 1 : Nat) : Int)) := by
  match c, h with
  | 0, _ => rfl
  | 1, _ => rfl
  | 2, _ => rfl
abbrev FmO (b : Nat) (r : Row4) : Ow := ⟨b, [r.1, r.2.1, r.2.2.1, r.2.2.2], 36, 4⟩
theorem fLimits_spec {X : PMap} (hT : Tab X) {n kind : Nat} : Spec Tryz.prog 5 [.int .u8 (n : Int), .int .u8 (kind : Int)] X fun u _ => u = .bool true := by
  obtain ⟨c, hc⟩ : ∃ c, c = kind % 3 := ⟨_, rfl⟩
  obtain ⟨K, hK⟩ : ∃ K, K = 1 + n % 10 := ⟨_, rfl⟩
  have hc3 : c < 3 := by omega
  refine Spec.enter Tryz.func5 rfl Tryz.ntmps5 rfl ?_
  intro w0 hw0
  refine T.seq <| T.region <| SL.as rfl <| SL.nil <| T.seq <| T.seq <| T.region <| SL.w (op_callF en13 (vs := []) rfl (awake18_spec hT)) ?_
  rintro _ _ X1 ⟨rfl, hX1, rfl⟩
  refine SL.v (op_not rfl) <| SL.nil <| T.condF rfl <| T.skip <| T.seq <| T.region <| SL.mv rfl <| SL.v (op_remN (p := n) (q := 10) rfl rfl rfl (by omega)) ?_
  refine SL.v (op_convI64 Tryz.underlying5 Tryz.underlying3 rfl (by omega) (by omega)) ?_
  refine SL.v (op_addN (p := 1) (q := n % 10) rfl rfl (by omega)) ?_
  rw [← hK]
  refine SL.as rfl <| SL.nil <| T.seq <| T.region <| SL.v (op_assign (v := .int .u8 ((4 : Nat) : Int)) rfl) <| SL.nil <| T.seq <| T.region <| SL.v (op_build st36 (qs := [(0, _)]) rfl rfl) <| SL.w (op_alloc z36) ?_
  rintro _ _ _ ⟨B7, rfl, rfl, rfl⟩
  refine SL.w (op_store ty36 rfl rfl (by repeat constructor) rfl rfl rfl) ?_
  rintro _ _ _ ⟨rfl, rfl⟩
  refine SL.nil <| T.seq <| T.seq <| T.region <| SL.v (op_assign (v := .int .i64 ((1 : Nat) : Int)) rfl) <| SL.nil <| T.block <| T.loopW (fun m env own X' => ∃ (r : Nat) (row : Row4), m = K + 1 - r ∧ 1 ≤ r ∧ r ≤ K + 1 ∧ X1.le X' ∧ FmR .u8 X' (limF c (r - 1)) row ∧ env = [(1, .int .u8 (kind : Int)), (5, .int .i64 (K : Int)), (6, .int .u8 4), (7, .pointer (some ⟨B7, 0, none⟩)), (8, .int .i64 (r : Int))] ∧ own = [FmO B7 row]) K ⟨1, (.int .u8 2, .int .i64 0, .slice none 0 0, .slice none 0 0), rfl, by omega, by omega, PMap.le_refl _, fmLeaf (op := 2) IntsR.nil, rfl, rfl⟩ (by repeat (first | exact Sub.nil | refine Sub.cons rfl ?_)) ?_
  rintro m _ _ X2 ⟨r, row, rfl, hr1, hr2, hX2, hrow, rfl, rfl⟩
  rcases Nat.lt_or_ge K r with hKr | hKr
  case inr =>
    refine T.seq <| T.seq <| T.region <| SL.mv rfl <| SL.mv rfl <| SL.v (op_leqT rfl rfl (by omega)) ?_
    refine SL.nil <| T.condT rfl <| T.skip <| T.seq <| T.block <| T.seq <| T.region <| SL.mv rfl <| SL.mv rfl <| SL.v (op_mulN (p := 7) (q := r) rfl rfl (by omega)) ?_
    refine SL.v (op_remN (p := 7 * r) (q := 64) rfl rfl rfl (by omega)) ?_
    refine SL.w (op_buildSlice Tryz.underlying24 bs3 (qs := [(0, _)]) rfl rfl rfl rfl rfl) ?_
    rintro _ _ _ ⟨B29, rfl, rfl, rfl⟩
    refine SL.v (op_build st36 (qs := [(0, _), (2, _)]) rfl rfl) <| SL.w (op_alloc z36) ?_
    rintro _ _ _ ⟨B9, rfl, rfl, rfl⟩
    refine SL.w (op_store ty36 rfl rfl (by repeat constructor) rfl rfl rfl) ?_
    rintro _ _ _ ⟨rfl, rfl⟩
    refine SL.nil <| T.seq <| T.meet (fun _ env own X' => ∃ lrow : Row4, X2.le X' ∧ FmR .u8 X' (lefF c r) lrow ∧ env = [(1, .int .u8 (kind : Int)), (5, .int .i64 (K : Int)), (6, .int .u8 4), (7, .pointer (some ⟨B7, 0, none⟩)), (8, .int .i64 (r : Int)), (9, .pointer (some ⟨B9, 0, none⟩))] ∧ own = [FmO B9 lrow, FmO B7 row]) ?_ ?_
    · by_cases h2 : c = 2
      · skip
        refine T.seq <| T.region <| SL.mv rfl <| SL.v (op_remN (p := kind) (q := 3) rfl rfl rfl (by omega)) ?_
        rw [← hc]
        refine SL.v (op_eqlT rfl rfl (by omega)) ?_
        refine SL.nil <| T.condT rfl <| T.seq <| T.region <| SL.mv rfl <| SL.v (op_mulN (p := 7) (q := r) rfl rfl (by omega)) ?_
        refine SL.v (op_remN (p := 7 * r) (q := 64) rfl rfl rfl (by omega)) ?_
        refine SL.w (op_buildSlice Tryz.underlying24 bs3 (qs := [(0, _)]) rfl rfl rfl rfl rfl) ?_
        rintro _ _ _ ⟨B37, rfl, rfl, rfl⟩
        refine SL.v (op_build st36 (qs := [(0, _), (2, _)]) rfl rfl) <| SL.w (op_alloc z36) ?_
        rintro _ _ _ ⟨B10, rfl, rfl, rfl⟩
        refine SL.w (op_store ty36 rfl rfl (by repeat constructor) rfl rfl rfl) ?_
        rintro _ _ _ ⟨rfl, rfl⟩
        refine SL.nil <| T.region <| SL.v (op_load ty36 rfl (by repeat constructor) rfl) ?_
        refine SL.mv rfl <| SL.v (op_build st36 (qs := [(0, _), (1, _)]) rfl rfl) <| SL.w (op_buildSlice Tryz.underlying34 bs36 (qs := [(0, _), (1, _)]) rfl rfl rfl rfl rfl) ?_
        rintro _ _ _ ⟨B42, rfl, rfl, rfl⟩
        refine SL.v (op_build st36 (qs := [(0, _), (3, _)]) rfl rfl) <| SL.w (op_store ty36 rfl rfl (by repeat constructor) rfl rfl rfl) ?_
        rintro _ _ _ ⟨rfl, rfl⟩
        refine SL.nil <| T.pub B37 (by repeat constructor) ?_
        intro X3 hX3 hB37 _
        refine T.pub B42 (by repeat constructor) ?_
        intro X4 hX4 hB42 _
        refine T.drop B29 (by repeat constructor) ?_
        refine T.drop B10 (by repeat constructor) ?_
        exact T.backW 0 (by omega) ⟨(.int .u8 13, .int .i64 0, .slice none 0 0, .slice (some ⟨B42, 0, none⟩) 2 2), hX3.trans' hX4, by rw [lefF, if_pos h2]; exact fmTwo (op := 13) (ra := (.int .u8 6, .int .i64 0, .slice (some ⟨B37, 0, none⟩) 1 1, .slice none 0 0)) (rb := (.int .u8 1, .int .i64 (r : Int), .slice none 0 0, .slice none 0 0)) (row2 hB42) (fmLeaf (op := 6) (ints1 (hB37.mono hX4))) (fmLeaf (op := 1) IntsR.nil), rfl, rfl⟩ (by repeat (first | exact Sub.nil | refine Sub.cons rfl ?_))
      · refine T.seq <| T.region <| SL.mv rfl <| SL.v (op_remN (p := kind) (q := 3) rfl rfl rfl (by omega)) ?_
        rw [← hc]
        refine SL.v (op_eqlF rfl rfl (by omega)) ?_
        refine SL.nil <| T.condF rfl <| T.skip <| T.pub B29 (by repeat constructor) ?_
        intro X3 hX3 hB29 _
        exact T.backW 0 (by omega) ⟨(.int .u8 4, .int .i64 0, .slice (some ⟨B29, 0, none⟩) 1 1, .slice none 0 0), hX3, by rw [lefF, if_neg h2]; exact fmLeaf (op := 4) (ints1 hB29), rfl, rfl⟩ (by repeat (first | exact Sub.nil | refine Sub.cons rfl ?_))
    rintro _ _ _ X3 ⟨lrow, hX3, hlrow, rfl, rfl⟩
    obtain ⟨o8, n8, a8, b8, l8, c8, l9, c9, rfl⟩ := hlrow.form
    obtain ⟨o7, n7, a7, b7, l7, c7, l6, c6, rfl⟩ := hrow.form
    by_cases h1 : r = 1
    · subst h1
      refine T.seq <| T.region <| SL.mv rfl <| SL.v (op_eqlT rfl rfl (by omega)) ?_
      refine SL.nil <| T.condT rfl <| T.region <| SL.v (op_load ty36 rfl (by repeat constructor) rfl) ?_
      refine SL.w (op_store ty36 rfl rfl (by repeat constructor) rfl rfl rfl) ?_
      rintro _ _ _ ⟨rfl, rfl⟩
      refine SL.nil <| T.blk <| T.region <| SL.mv rfl <| SL.v (op_addN (q := 1) rfl rfl (by omega)) ?_
      refine SL.as rfl <| SL.nil <| T.drop B9 (by repeat constructor) ?_
      exact T.backW (K + 1 - (1 + 1)) (by omega) ⟨1 + 1, _, rfl, by omega, by omega, hX2.trans' hX3, hlrow, rfl, rfl⟩ (by repeat (first | exact Sub.nil | refine Sub.cons rfl ?_))
    · refine T.seq <| T.region <| SL.mv rfl <| SL.v (op_eqlF rfl rfl (by omega)) ?_
      refine SL.nil <| T.condF rfl <| T.region <| SL.v (op_load ty36 rfl (by repeat constructor) rfl) ?_
      refine SL.v (op_load ty36 rfl (by repeat constructor) rfl) ?_
      refine SL.w (op_buildSlice Tryz.underlying34 bs36 (qs := [(0, _), (1, _)]) rfl rfl rfl rfl rfl) ?_
      rintro _ _ _ ⟨B49, rfl, rfl, rfl⟩
      refine SL.v (op_build st36 (qs := [(0, _), (3, _)]) rfl rfl) <| SL.w (op_store ty36 rfl rfl (by repeat constructor) rfl rfl rfl) ?_
      rintro _ _ _ ⟨rfl, rfl⟩
      refine SL.nil <| T.blk <| T.region <| SL.mv rfl <| SL.v (op_addN (q := 1) rfl rfl (by omega)) ?_
      refine SL.as rfl <| SL.nil <| T.pub B49 (by repeat constructor) ?_
      intro X4 hX4 hB49 _
      refine T.drop B9 (by repeat constructor) ?_
      exact T.backW (K + 1 - (r + 1)) (by omega) ⟨r + 1, (.int .u8 8, .int .i64 0, .slice none 0 0, .slice (some ⟨B49, 0, none⟩) 2 2), rfl, by omega, by omega, (hX2.trans' hX3).trans' hX4, by rw [Nat.add_sub_cancel, lim_succ (by omega)]; exact fmTwo (op := 8) (row2 hB49) (hlrow.mono hX4) ((hrow.mono hX3).mono hX4), rfl, rfl⟩ (by repeat (first | exact Sub.nil | refine Sub.cons rfl ?_))
  obtain rfl : r = K + 1 := by omega
  rw [Nat.add_sub_cancel] at hrow
  obtain ⟨q1, q2, q3⟩ := lim_ok (k := K) hc3 (by omega) (by omega)
  have hck := fchk_spec (kind := c + 1) (by omega) (by omega) hrow
  have hmn := fun {X' : PMap} (hX : X2.le X') => fment_spec (wtF (limF c K)) (Nat.le_refl _) (by omega) (lim_rol c K) (hrow.mono hX)
  rw [q1] at hck
  obtain ⟨o7, n7, a7, b7, l7, c7, l6, c6, rfl⟩ := hrow.form
  try simp only at hck
  try simp only at hmn
  refine T.seq <| T.seq <| T.region <| SL.mv rfl <| SL.mv rfl <| SL.v (op_leqF rfl rfl (by omega)) ?_
  refine SL.nil <| T.condF rfl ?_
  refine T.exit (T.exitCode (T.exitCut (T.exitBlk ?_)))
  refine T.seq <| T.draw (by kernel_rfl) 8 [.t 0, .t 2, .t 3, .r 1, .t 4, .t 5, .r 6, .t 7] (by kernel_rfl) ?_
  refine SD.take rfl panicBody (op_load ty36 rfl (by repeat constructor) rfl) rfl rfl ?_
  refine SD.take rfl panicBody (op_move rfl) rfl rfl ?_
  refine SD.take rfl panicBody (op_remN (p := kind) (q := 3) rfl rfl rfl (by omega)) rfl rfl ?_
  rw [← hc]
  refine SD.run rfl (op_buildSlice Tryz.underlying50 bs41 (qs := [(0, _), (1, _), (2, _)]) rfl rfl rfl rfl rfl) rfl rfl ?_
  rintro _ _ _ ⟨B52, rfl, rfl, rfl⟩
  refine SD.take rfl panicBody (op_indexN Tryz.underlying50 ty41 rfl rfl (by omega)) rfl rfl ?_
  refine SD.up (by intro p hp; first | exact hp | exact List.mem_cons_of_mem _ hp | exact List.mem_append_right _ hp) (by first | exact PMap.le_refl _ | assumption) ?_
  refine SD.take rfl panicBody (op_load (v := .int .u8 ((c + 1 : Nat) : Int)) ty41 rfl (by repeat constructor) (kinds_read hc3)) rfl rfl ?_
  refine SD.run rfl (op_callF en18 (vs := [_, _]) rfl (hck)) rfl rfl ?_
  rintro _ _ X3 ⟨rfl, hX3, rfl⟩
  refine SD.take rfl panicBody (op_assign rfl) rfl rfl ?_
  refine SD.nil ?_
  show SL _ _ _ _ _ _ _ [] _ _ _
  refine SL.nil <| T.seq <| T.region <| SL.v (op_assign (v := .int .i64 ((0 : Nat) : Int)) rfl) <| SL.nil <| T.seq <| T.meet (fun _ env own X' => X3.le X' ∧ env = [(5, .int .i64 (K : Int)), (7, .pointer (some ⟨B7, 0, none⟩)), (11, .int .i64 (limW c K)), (12, .int .i64 (limW c K))] ∧ own = [⟨B52, [.int .u8 1, .int .u8 2, .int .u8 3], 41, 3⟩, FmO B7 (.int .u8 (o7 : Int), .int .i64 n7, .slice a7 l7 c7, .slice b7 l6 c6)]) ?_ ?_
  · by_cases h2 : c = 2
    · by_cases h9 : 9 < K
      · rw [show limW c K = 3 from if_pos (.inr ⟨h2, h9⟩)]
        refine T.seq <| T.region <| SL.mv rfl <| SL.v (op_remN (p := kind) (q := 3) rfl rfl rfl (by omega)) ?_
        rw [← hc]
        refine SL.v (op_neqF rfl rfl (by omega)) ?_
        refine SL.mv rfl <| SL.skip rfl rfl ?_
        refine SL.skip rfl rfl ?_
        refine SL.v (op_pickF rfl rfl) <| SL.mv rfl <| SL.mv rfl <| SL.v (op_remN (p := kind) (q := 3) rfl rfl rfl (by omega)) ?_
        rw [← hc]
        refine SL.v (op_eqlT rfl rfl (by omega)) ?_
        refine SL.mv rfl <| SL.mv rfl <| SL.v (op_gtrT rfl rfl (by omega)) ?_
        refine SL.v (op_pickT rfl rfl) <| SL.v (op_pickF rfl rfl) <| SL.nil <| T.condT rfl <| T.region <| SL.v (op_assign (v := .int .i64 ((3 : Nat) : Int)) rfl) <| SL.nil ?_
        exact T.backW 0 (by omega) ⟨PMap.le_refl _, rfl, rfl⟩ (by repeat (first | exact Sub.nil | refine Sub.cons rfl ?_))
      · rw [show limW c K = 0 from if_neg (by omega)]
        refine T.seq <| T.region <| SL.mv rfl <| SL.v (op_remN (p := kind) (q := 3) rfl rfl rfl (by omega)) ?_
        rw [← hc]
        refine SL.v (op_neqF rfl rfl (by omega)) ?_
        refine SL.mv rfl <| SL.skip rfl rfl ?_
        refine SL.skip rfl rfl ?_
        refine SL.v (op_pickF rfl rfl) <| SL.mv rfl <| SL.mv rfl <| SL.v (op_remN (p := kind) (q := 3) rfl rfl rfl (by omega)) ?_
        rw [← hc]
        refine SL.v (op_eqlT rfl rfl (by omega)) ?_
        refine SL.mv rfl <| SL.mv rfl <| SL.v (op_gtrF rfl rfl (by omega)) ?_
        refine SL.v (op_pickT rfl rfl) <| SL.v (op_pickF rfl rfl) <| SL.nil <| T.condF rfl <| T.skip ?_
        exact T.backW 0 (by omega) ⟨PMap.le_refl _, rfl, rfl⟩ (by repeat (first | exact Sub.nil | refine Sub.cons rfl ?_))
    · by_cases h8 : 8 < K
      · rw [show limW c K = 3 from if_pos (.inl ⟨h2, h8⟩)]
        refine T.seq <| T.region <| SL.mv rfl <| SL.v (op_remN (p := kind) (q := 3) rfl rfl rfl (by omega)) ?_
        rw [← hc]
        refine SL.v (op_neqT rfl rfl (by omega)) ?_
        refine SL.mv rfl <| SL.mv rfl <| SL.v (op_gtrT rfl rfl (by omega)) ?_
        refine SL.v (op_pickT rfl rfl) <| SL.mv rfl <| SL.skip rfl rfl ?_
        refine SL.skip rfl rfl ?_
        refine SL.skip rfl rfl ?_
        refine SL.skip rfl rfl ?_
        refine SL.skip rfl rfl ?_
        refine SL.skip rfl rfl ?_
        refine SL.skip rfl rfl ?_
        refine SL.v (op_pickT rfl rfl) <| SL.nil <| T.condT rfl <| T.region <| SL.v (op_assign (v := .int .i64 ((3 : Nat) : Int)) rfl) <| SL.nil ?_
        exact T.backW 0 (by omega) ⟨PMap.le_refl _, rfl, rfl⟩ (by repeat (first | exact Sub.nil | refine Sub.cons rfl ?_))
      · rw [show limW c K = 0 from if_neg (by omega)]
        refine T.seq <| T.region <| SL.mv rfl <| SL.v (op_remN (p := kind) (q := 3) rfl rfl rfl (by omega)) ?_
        rw [← hc]
        refine SL.v (op_neqT rfl rfl (by omega)) ?_
        refine SL.mv rfl <| SL.mv rfl <| SL.v (op_gtrF rfl rfl (by omega)) ?_
        refine SL.v (op_pickT rfl rfl) <| SL.mv rfl <| SL.mv rfl <| SL.v (op_remN (p := kind) (q := 3) rfl rfl rfl (by omega)) ?_
        rw [← hc]
        refine SL.v (op_eqlF rfl rfl (by omega)) ?_
        refine SL.mv rfl <| SL.skip rfl rfl ?_
        refine SL.skip rfl rfl ?_
        refine SL.v (op_pickF rfl rfl) <| SL.v (op_pickF rfl rfl) <| SL.nil <| T.condF rfl <| T.skip ?_
        exact T.backW 0 (by omega) ⟨PMap.le_refl _, rfl, rfl⟩ (by repeat (first | exact Sub.nil | refine Sub.cons rfl ?_))
  rintro _ _ _ X4 ⟨hX4, rfl, rfl⟩
  refine T.seq <| T.region <| SL.mv rfl <| SL.mv rfl <| SL.v (op_eqlT rfl rfl (by omega)) ?_
  refine SL.mv rfl <| SL.v (op_load ty36 rfl (by repeat constructor) rfl) ?_
  refine SL.w (op_callF en21 (vs := [_]) rfl (hmn (hX3.trans' hX4))) ?_
  rintro v79 _ X5 ⟨rfl, hX5, hS⟩
  obtain ⟨A6, l8, c8, rfl⟩ := hS.form
  refine SL.w (op_callF en22 (vs := [_]) rfl (len_exact hS)) ?_
  rintro _ _ X6 ⟨rfl, hX6, rfl⟩
  rw [q2]
  refine SL.mv rfl <| SL.v (op_eqlT rfl rfl (by omega)) ?_
  refine SL.v (op_pickT rfl rfl) <| SL.as rfl <| SL.nil <| T.ret1 rfl (ResIs.tmp rfl) ?_
  rfl
end Go.Proofs.YtnpcilglilfajaaGreatDoor
