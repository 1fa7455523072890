/- Expressions built of nodes, walked. -/
import Derived.Test.YtaooojjhlngcmaaDoorFacts
import Derived.Test.YtaooojjhlngcmaaDoorSort
import Derived.Test.YtaooojjhlngcmaaDoorBuildL
import Derived.Test.YtaooojjhlngcmaaDoorRnode
namespace Go.Proofs.YtaooojjhlngcmaaDoor
section
set_option maxRecDepth 100000
theorem bs27 : ∃ i z, Tryd.prog.info? 27 = some i ∧ i.size = 4 ∧ i.zero = some z ∧ z.cells = ([.int .i64 0, .int .i64 0, .slice none 0 0, .slice none 0 0] : List Value).toArray := bs_of (by kernel_rfl)
theorem en37 : Enters Tryd.prog 37 := enters_mk Tryd.func37 (by kernel_rfl) rfl
theorem en40 : Enters Tryd.prog 40 := enters_mk Tryd.func40 (by kernel_rfl) rfl
theorem en62 : Enters Tryd.prog 62 := enters_mk Tryd.func62 (by kernel_rfl) rfl
theorem en64 : Enters Tryd.prog 64 := enters_mk Tryd.func64 (by kernel_rfl) rfl
theorem fa72_0 : FAdr Tryd.prog 72 0 0 := fadr_mk Tryd.underlying72 rfl rfl (by kernel_rfl)
theorem fa98_0 : FAdr Tryd.prog 98 0 0 := fadr_mk Tryd.underlying98 rfl rfl (by kernel_rfl)
theorem fa98_1 : FAdr Tryd.prog 98 1 1 := fadr_mk Tryd.underlying98 rfl rfl (by kernel_rfl)
theorem fa98_2 : FAdr Tryd.prog 98 2 2 := fadr_mk Tryd.underlying98 rfl rfl (by kernel_rfl)
theorem fa98_3 : FAdr Tryd.prog 98 3 3 := fadr_mk Tryd.underlying98 rfl rfl (by kernel_rfl)
theorem sl25 : SlT Tryd.prog 25 27 4 64 := ⟨Tryd.underlying25, sl_of (by kernel_rfl) (by decide)⟩
theorem st27 : StT Tryd.prog 27 [(0, 1), (1, 1), (2, 1), (3, 1)] [.int .i64 0, .int .i64 0, .slice none 0 0, .slice none 0 0] := ⟨⟨_, Tryd.underlying27, fun _ => by kernel_rfl, z27⟩⟩
theorem z72 : Zero Tryd.prog 72 [.slice none 0 0] := ⟨zero_of (by kernel_rfl)⟩
theorem st72 : StT Tryd.prog 72 [(0, 1)] [.slice none 0 0] := ⟨⟨_, Tryd.underlying72, fun _ => by kernel_rfl, z72⟩⟩
theorem z98 : Zero Tryd.prog 98 [.int .u8 0, .int .u8 0, .int .u8 0, .int .i64 0] := ⟨zero_of (by kernel_rfl)⟩
theorem st98 : StT Tryd.prog 98 [(0, 1), (1, 1), (2, 1), (3, 1)] [.int .u8 0, .int .u8 0, .int .u8 0, .int .i64 0] := ⟨⟨_, Tryd.underlying98, fun _ => by kernel_rfl, z98⟩⟩
theorem ty22 : Ty Tryd.prog 22 false 1 := ⟨⟨_, Tryd.underlying22, rfl⟩, by kernel_rfl⟩
theorem ty98 : Ty Tryd.prog 98 true 4 := ⟨⟨_, Tryd.underlying98, rfl⟩, by kernel_rfl⟩
end
open Go.RowKit
theorem word6_spec {X : PMap} {n : Nat} (hn : n < 256) : Spec Tryd.prog 64 [.int .u8 (n : Int)] X fun u _ => u = .string (word6 n) := by
  have h6 : n % 6 < 6 := Nat.mod_lt _ (by omega)
  have hw := strsC_at (word6_at n)
  refine Spec.enter Tryd.func64 rfl Tryd.ntmps64 rfl ?_
  intro w0 hw0
  refine T.seq ?_
  refine T.region ?_
  refine SL.y (op_assign rfl) rfl rfl ?_
  refine SL.nil ?_
  refine T.seq ?_
  refine T.region ?_
  refine SL.x (op_buildSlice Tryd.underlying24 bs9 (qs := [(0, _), (1, _), (2, _), (3, _), (4, _), (5, _)]) rfl rfl rfl rfl rfl) rfl rfl ?_
  rintro _ _ _ ⟨B4, rfl, rfl, rfl⟩
  refine SL.y (op_assign rfl) rfl rfl ?_
  refine SL.nil ?_
  refine T.seq ?_
  refine T.region ?_
  refine SL.y (op_move rfl) rfl rfl ?_
  refine SL.y (op_move rfl) rfl rfl ?_
  first | refine SL.y (op_convI64 Tryd.underlying5 Tryd.underlying3 rfl (by omega) (by omega)) rfl rfl ?_ | refine SL.y (op_convert Tryd.underlying5 Tryd.underlying3 rfl) rfl rfl ?_
  refine SL.y (op_move rfl) rfl rfl ?_
  refine SL.y (op_lenS Tryd.underlying24 rfl) rfl rfl ?_
  -- to 10: op
  refine SL.y (op_remN (q := 6) rfl rfl rfl (by omega)) rfl rfl ?_
  first | refine SL.y (op_indexN Tryd.underlying24 ty9 rfl rfl (by omega)) rfl rfl ?_ | refine SL.y (op_index Tryd.underlying24 ty9 rfl rfl (by omega) (by omega)) rfl rfl ?_
  -- to 12: op
  refine SL.y (op_load ty9 rfl (by repeat (first | exact AtO.here | apply AtO.there)) (cread1k' hw (by omega))) rfl rfl ?_
  refine SL.y (op_assign rfl) rfl rfl ?_
  refine SL.nil ?_
  -- ret
  refine T.ret1 rfl (ResIs.tmp rfl) ?_
  rfl
theorem word20_spec {X : PMap} {n : Nat} (hn : n < 256) : Spec Tryd.prog 40 [.int .u8 (n : Int)] X fun u _ => u = .string (word20 n) := by
  have h6 : n % 20 < 20 := Nat.mod_lt _ (by omega)
  have hw := strsC_at (word20_at n)
  refine Spec.enter Tryd.func40 rfl Tryd.ntmps40 rfl ?_
  intro w0 hw0
  refine T.seq ?_
  refine T.region ?_
  refine SL.y (op_assign rfl) rfl rfl ?_
  refine SL.nil ?_
  refine T.seq ?_
  refine T.region ?_
  refine SL.x (op_buildSlice Tryd.underlying24 bs9 (qs := [(0, _), (1, _), (2, _), (3, _), (4, _), (5, _), (6, _), (7, _), (8, _), (9, _), (10, _), (11, _), (12, _), (13, _), (14, _), (15, _), (16, _), (17, _), (18, _), (19, _)]) rfl rfl rfl rfl rfl) rfl rfl ?_
  rintro _ _ _ ⟨B4, rfl, rfl, rfl⟩
  refine SL.y (op_assign rfl) rfl rfl ?_
  refine SL.nil ?_
  refine T.seq ?_
  refine T.region ?_
  refine SL.y (op_move rfl) rfl rfl ?_
  refine SL.y (op_move rfl) rfl rfl ?_
  first | refine SL.y (op_convI64 Tryd.underlying5 Tryd.underlying3 rfl (by omega) (by omega)) rfl rfl ?_ | refine SL.y (op_convert Tryd.underlying5 Tryd.underlying3 rfl) rfl rfl ?_
  refine SL.y (op_move rfl) rfl rfl ?_
  refine SL.y (op_lenS Tryd.underlying24 rfl) rfl rfl ?_
  -- to 10: op
  refine SL.y (op_remN (q := 20) rfl rfl rfl (by omega)) rfl rfl ?_
  first | refine SL.y (op_indexN Tryd.underlying24 ty9 rfl rfl (by omega)) rfl rfl ?_ | refine SL.y (op_index Tryd.underlying24 ty9 rfl rfl (by omega) (by omega)) rfl rfl ?_
  -- to 12: op
  refine SL.y (op_load ty9 rfl (by repeat (first | exact AtO.here | apply AtO.there)) (cread1k' hw (by omega))) rfl rfl ?_
  refine SL.y (op_assign rfl) rfl rfl ?_
  refine SL.nil ?_
  -- ret
  refine T.ret1 rfl (ResIs.tmp rfl) ?_
  rfl
abbrev BdO (b : Nat) (A : Option Addr) (l c : Nat) : Ow := ⟨b, [.slice A l c], 72, 1⟩
theorem take_spec {X : PMap} {b cp : Nat} {A : Option Addr} {l : List Nd} (h : RowR ndC X (.slice A l.length cp) l) : SpecM Tryd.prog 62 [.pointer (some ⟨b, 0, none⟩)] X [BdO b A l.length cp] fun u L' _ => u = .agg #[.int .u8 ((takeN l).1.op : Int), .int .u8 ((takeN l).1.name : Int), .int .u8 ((takeN l).1.odd : Int), .int .i64 (takeN l).1.num] ∧ ∃ A' cp', L' = [BdO b A' (takeN l).2.length cp'] ∧ RowR ndC X (.slice A' (takeN l).2.length cp') (takeN l).2 := by
  match l, h with
  | [], h =>
    refine SpecM.enter Tryd.func62 rfl Tryd.ntmps62 rfl ?_
    intro w0 X0 own0
    refine T.seq ?_
    refine T.region ?_
    refine SL.x (op_alloc z98) rfl rfl ?_
    rintro _ _ _ ⟨B2, rfl, rfl, rfl⟩
    refine SL.nil ?_
    refine T.seq ?_
    refine T.seq ?_
    refine T.region ?_
    refine SL.y (op_move rfl) rfl rfl ?_
    first | refine SL.y (op_nil rfl) rfl rfl ?_ | refine SL.y (op_nilFn rfl) rfl rfl ?_
    refine SL.y (op_fieldAddr fa72_0 rfl) rfl rfl ?_
    first | refine SL.y (op_load ty22 rfl (by repeat (first | exact AtO.here | apply AtO.there)) rfl) rfl rfl ?_ | refine SL.y (op_loadX ty22 rfl (by assumption) rfl) rfl rfl ?_
    refine SL.y (op_lenS Tryd.underlying22 rfl) rfl rfl ?_
    first | refine SL.y (op_eqlT rfl rfl (by omega)) rfl rfl ?_ | refine SL.y (op_eqlF rfl rfl (by omega)) rfl rfl ?_ | refine SL.y (op_eql rfl rfl) rfl rfl ?_
    refine SL.nil ?_
    refine T.condT rfl ?_
    refine T.seq ?_
    refine T.region ?_
    refine SL.y (op_build st98 (qs := [(0, _)]) rfl rfl) rfl rfl ?_
    refine SL.x (op_store ty98 rfl rfl (by repeat (first | exact AtO.here | apply AtO.there)) rfl rfl rfl) rfl rfl ?_
    rintro _ _ _ ⟨rfl, rfl⟩
    refine SL.nil ?_
    -- ret
    refine T.retM1S [_] _ rfl (ResIs.cell rfl ty98 (by repeat (first | exact AtO.here | apply AtO.there)) rfl) (List.sublist_cons_self _ _) (List.Perm.refl _) ?_
    exact ⟨PMap.le_refl _, rfl, A, cp, rfl, .inl ⟨rfl, _, _, rfl⟩⟩
  | x :: l, h =>
    have hd := h.drop (sz := 4) ndC_len (k := 1) (by simp)
    obtain ⟨bn, pre, rfl, hB⟩ := h.blk (by simp)
    have hcap := h.cap (by simp)
    rw [List.length_cons] at *
    refine SpecM.enter Tryd.func62 rfl Tryd.ntmps62 rfl ?_
    intro w0 X0 own0
    refine T.seq ?_
    refine T.region ?_
    refine SL.x (op_alloc z98) rfl rfl ?_
    rintro _ _ _ ⟨B2, rfl, rfl, rfl⟩
    refine SL.nil ?_
    refine T.seq ?_
    refine T.seq ?_
    refine T.region ?_
    refine SL.y (op_move rfl) rfl rfl ?_
    first | refine SL.y (op_nil rfl) rfl rfl ?_ | refine SL.y (op_nilFn rfl) rfl rfl ?_
    refine SL.y (op_fieldAddr fa72_0 rfl) rfl rfl ?_
    first | refine SL.y (op_load ty22 rfl (by repeat (first | exact AtO.here | apply AtO.there)) rfl) rfl rfl ?_ | refine SL.y (op_loadX ty22 rfl (by assumption) rfl) rfl rfl ?_
    refine SL.y (op_lenS Tryd.underlying22 rfl) rfl rfl ?_
    first | refine SL.y (op_eqlT rfl rfl (by omega)) rfl rfl ?_ | refine SL.y (op_eqlF rfl rfl (by omega)) rfl rfl ?_ | refine SL.y (op_eql rfl rfl) rfl rfl ?_
    refine SL.nil ?_
    refine T.condF rfl ?_
    refine T.skip ?_
    refine T.seq ?_
    refine T.region ?_
    refine SL.y (op_move rfl) rfl rfl ?_
    first | refine SL.y (op_nil rfl) rfl rfl ?_ | refine SL.y (op_nilFn rfl) rfl rfl ?_
    refine SL.y (op_fieldAddr fa72_0 rfl) rfl rfl ?_
    first | refine SL.y (op_load ty22 rfl (by repeat (first | exact AtO.here | apply AtO.there)) rfl) rfl rfl ?_ | refine SL.y (op_loadX ty22 rfl (by assumption) rfl) rfl rfl ?_
    first | refine SL.y (op_indexN Tryd.underlying22 ty98 rfl rfl (by omega)) rfl rfl ?_ | refine SL.y (op_index Tryd.underlying22 ty98 rfl rfl (by omega) (by omega)) rfl rfl ?_
    -- to 16: op
    refine SL.y (op_loadX ty98 rfl hB (row_read ndC_len (rs := x :: l) (k := 0) rfl (by omega))) rfl rfl ?_
    refine SL.x (op_alloc z98) rfl rfl ?_
    rintro _ _ _ ⟨B3, rfl, rfl, rfl⟩
    refine SL.x (op_store ty98 rfl rfl (by repeat (first | exact AtO.here | apply AtO.there)) rfl rfl rfl) rfl rfl ?_
    rintro _ _ _ ⟨rfl, rfl⟩
    refine SL.nil ?_
    refine T.seq ?_
    refine T.region ?_
    refine SL.y (op_move rfl) rfl rfl ?_
    refine SL.y (op_move rfl) rfl rfl ?_
    first | refine SL.y (op_nil rfl) rfl rfl ?_ | refine SL.y (op_nilFn rfl) rfl rfl ?_
    refine SL.y (op_fieldAddr fa72_0 rfl) rfl rfl ?_
    first | refine SL.y (op_load ty22 rfl (by repeat (first | exact AtO.here | apply AtO.there)) rfl) rfl rfl ?_ | refine SL.y (op_loadX ty22 rfl (by assumption) rfl) rfl rfl ?_
    -- to 22: op
    refine SL.y (op_sliceLo (l := 1) Tryd.underlying22 ty98 rfl rfl (by omega) (by omega)) rfl rfl ?_
    first | refine SL.y (op_nil rfl) rfl rfl ?_ | refine SL.y (op_nilFn rfl) rfl rfl ?_
    refine SL.y (op_fieldAddr fa72_0 rfl) rfl rfl ?_
    refine SL.x (op_store ty22 rfl rfl (by repeat (first | exact AtO.here | apply AtO.there)) rfl rfl rfl) rfl rfl ?_
    rintro _ _ _ ⟨rfl, rfl⟩
    refine SL.nil ?_
    refine T.seq ?_
    refine T.region ?_
    first | refine SL.y (op_load ty98 rfl (by repeat (first | exact AtO.here | apply AtO.there)) rfl) rfl rfl ?_ | refine SL.y (op_loadX ty98 rfl (by assumption) rfl) rfl rfl ?_
    refine SL.x (op_store ty98 rfl rfl (by repeat (first | exact AtO.here | apply AtO.there)) rfl rfl rfl) rfl rfl ?_
    rintro _ _ _ ⟨rfl, rfl⟩
    refine SL.nil ?_
    -- ret
    refine T.retM1S [_] _ rfl (ResIs.cell rfl ty98 (by repeat (first | exact AtO.here | apply AtO.there)) rfl) (List.Sublist.cons _ (List.sublist_cons_self _ _)) (List.Perm.refl _) ?_
    refine ⟨PMap.le_refl _, rfl, _, _, rfl, ?_⟩
    exact hd
theorem build_eq (d : Nat) (l : List Nd) : buildE d l = (oddE (takeN l).1 (opN d (takeN l).1.op) (manyN (buildE (d - 1)) (argN (opN d (takeN l).1.op)) (takeN l).2).1, (manyN (buildE (d - 1)) (argN (opN d (takeN l).1.op)) (takeN l).2).2) := by
  cases d with
  | zero =>
    have : argN (opN 0 (takeN l).1.op) = 0 := by
      by_cases hc : 0 < argN (takeN l).1.op
      · rw [opN, if_pos ⟨rfl, hc⟩]; rfl
      · rw [opN, if_neg fun h => hc h.2]; exact Nat.eq_zero_of_not_pos hc
    rw [this, buildE]; rfl
  | succ d => rw [buildE, show opN (d + 1) (takeN l).1.op = (takeN l).1.op from if_neg (by omega)]; rfl
abbrev E6 (b : Nat) (op : Nat) (n : Int) (vn va : Value) : Ow := ⟨b, [.int .i64 (op : Int), .int .i64 n, vn, va], 27, 4⟩
abbrev N5 (b : Nat) (x : Nd) : Ow := ⟨b, ndC x, 98, 4⟩
theorem wrapU8a (p : Nat) : IntKind.u8.wrap ((p : Int) + 1) = (((p + 1) % 256 : Nat) : Int) := by simp [IntKind.wrap, IntKind.signed, IntKind.bits]
theorem wrapU8c (p : Nat) : IntKind.u8.wrap ((p : Int) + 3) = (((p + 3) % 256 : Nat) : Int) := by simp [IntKind.wrap, IntKind.signed, IntKind.bits]
theorem perm5 {a b c d e : Ow} {G O : Own} : (a :: b :: c :: d :: e :: (G ++ O)).Perm ((a :: b :: c :: d :: e :: O) ++ G) := .cons _ (.cons _ (.cons _ (.cons _ (.cons _ (show (G ++ O).Perm (O ++ G) from List.perm_append_comm)))))
theorem perm4 {a b c d : Ow} {G O : Own} : (a :: b :: c :: d :: (G ++ O)).Perm ((a :: b :: c :: d :: O) ++ G) := .cons _ (.cons _ (.cons _ (.cons _ (show (G ++ O).Perm (O ++ G) from List.perm_append_comm))))
theorem permG {G H O : Own} : (G ++ (H ++ O)).Perm ((G ++ O) ++ H) := by
  rw [List.append_assoc]
  exact List.Perm.append_left G List.perm_append_comm
theorem perm4G {a b c d : Ow} {G H O : Own} : (a :: b :: c :: d :: (G ++ (H ++ O))).Perm ((a :: b :: c :: d :: (G ++ O)) ++ H) := .cons _ (.cons _ (.cons _ (.cons _ (show (G ++ (H ++ O)).Perm ((G ++ O) ++ H) from permG))))
theorem perm5G {a b c d e : Ow} {G H O : Own} : (a :: b :: c :: d :: e :: (G ++ (H ++ O))).Perm ((a :: b :: c :: d :: e :: (G ++ O)) ++ H) := .cons _ perm4G
theorem grow1 {e : TypeId} {b : Nat} {cs : List Value} {size : Nat} (h : cs.length = size) (hm : 1 ≤ maxLen) : GrowS e size (.slice (some ⟨b, 0, none⟩) 1 1) 1 cs [⟨b, cs, e, 1 * size⟩] := .inr ⟨b, 1, rfl, rfl, Nat.le_refl _, hm, by omega⟩
theorem build_spec (d : Nat) : ∀ {X : PMap} {b cp : Nat} {A : Option Addr} {l : List Nd}, RowR ndC X (.slice A l.length cp) l → (∀ x ∈ l, ndOk x) → d ≤ 11 → SpecM Tryd.prog 37 [.pointer (some ⟨b, 0, none⟩), .int .i64 (d : Int)] X [BdO b A l.length cp] fun u L' X' => ∃ (r : Row4) (A' : Option Addr) (cp' : Nat), u = .agg #[r.1, r.2.1, r.2.2.1, r.2.2.2] ∧ ExR .i64 X' (buildE d l).1 r ∧ L' = [BdO b A' (buildE d l).2.length cp'] ∧ RowR ndC X' (.slice A' (buildE d l).2.length cp') (buildE d l).2 := by
  induction d using Nat.strongRecOn with
  | _ d ih =>
  intro X b cp A l h hok hd
  have hmx : maxLen = 9223372036854775807 := rfl
  rw [build_eq]
  obtain ⟨⟨g1, g2, g3⟩, hok1⟩ := takeN_ok hok
  have hok2 := manyN_ok (build_ok (d - 1)) hok1
  refine SpecM.enter Tryd.func37 rfl Tryd.ntmps37 rfl ?_
  intro w0 X0 own0
  refine T.seq ?_
  refine T.region ?_
  refine SL.x (op_alloc z27) rfl rfl ?_
  rintro _ _ _ ⟨B4, rfl, rfl, rfl⟩
  refine SL.nil ?_
  refine T.seq ?_
  refine T.region ?_
  refine SL.y (op_move rfl) rfl rfl ?_
  -- op
  refine SL.perm (own' := [BdO b A l.length cp] ++ (_ :: own0)) (List.Perm.swap _ _ _) ?_
  refine SL.x (op_callM en62 (vs := [_]) rfl (take_spec h) rfl) rfl rfl ?_
  rintro _ _ X1 ⟨_, rfl, hX1, rfl, A1, cp1, rfl, h1⟩
  generalize (takeN l).1 = x at *
  generalize (takeN l).2 = l1 at *
  refine SL.x (op_alloc z98) rfl rfl ?_
  rintro _ _ _ ⟨B5, rfl, rfl, rfl⟩
  refine SL.x (op_store ty98 rfl rfl (by repeat (first | exact AtO.here | apply AtO.there)) rfl rfl rfl) rfl rfl ?_
  rintro _ _ _ ⟨rfl, rfl⟩
  refine SL.nil ?_
  refine T.seq ?_
  refine T.region ?_
  refine SL.y (op_fieldAddr fa98_0 rfl) rfl rfl ?_
  first | refine SL.y (op_load ty5 rfl (by repeat (first | exact AtO.here | apply AtO.there)) rfl) rfl rfl ?_ | refine SL.y (op_loadX ty5 rfl (by assumption) rfl) rfl rfl ?_
  first | refine SL.y (op_convI64 Tryd.underlying5 Tryd.underlying3 rfl (by omega) (by omega)) rfl rfl ?_ | refine SL.y (op_convert Tryd.underlying5 Tryd.underlying3 rfl) rfl rfl ?_
  refine SL.y (op_build st27 (qs := [(0, _)]) rfl rfl) rfl rfl ?_
  refine SL.x (op_alloc z27) rfl rfl ?_
  rintro _ _ _ ⟨B6, rfl, rfl, rfl⟩
  refine SL.x (op_store ty27 rfl rfl (by repeat (first | exact AtO.here | apply AtO.there)) rfl rfl rfl) rfl rfl ?_
  rintro _ _ _ ⟨rfl, rfl⟩
  refine SL.nil ?_
  refine T.seq ?_
  -- upto 3
  refine T.meet (fun _ env own X' => X1.le X' ∧ env = [(0, .pointer (some ⟨b, 0, none⟩)), (1, .int .i64 (d : Int)), (4, .pointer (some ⟨B4, 0, none⟩)), (5, .pointer (some ⟨B5, 0, none⟩)), (6, .pointer (some ⟨B6, 0, none⟩))] ∧ own = E6 B6 (opN d x.op) 0 (.slice none 0 0) (.slice none 0 0) :: N5 B5 x :: BdO b A1 l1.length cp1 :: E6 B4 0 0 (.slice none 0 0) (.slice none 0 0) :: own0) ?_ ?_
  · rcases Nat.eq_zero_or_pos d with hd0 | hd0
    · by_cases hc : 0 < argN x.op
      · have ho : opN d x.op = 4 := if_pos ⟨hd0, hc⟩
        refine T.seq ?_
        refine T.region ?_
        refine SL.y (op_move rfl) rfl rfl ?_
        first | refine SL.y (op_leqT rfl rfl (by omega)) rfl rfl ?_ | refine SL.y (op_leqF rfl rfl (by omega)) rfl rfl ?_ | refine SL.y (op_leq rfl rfl) rfl rfl ?_
        refine SL.y (op_move rfl) rfl rfl ?_
        first | refine SL.skip rfl rfl ?_ | refine SL.y (op_fieldAddr fa27_0 rfl) rfl rfl ?_
        first | refine SL.skip rfl rfl ?_ | refine SL.y (op_load ty3 rfl (by repeat (first | exact AtO.here | apply AtO.there)) rfl) rfl rfl ?_ | refine SL.y (op_loadX ty3 rfl (by assumption) rfl) rfl rfl ?_
        -- op
        refine SL.x (op_callF en63 (vs := [_]) rfl (rargN_spec (op := x.op))) rfl rfl ?_
        rintro _ _ X2 ⟨rfl, hX2, rfl⟩
        first | refine SL.skip rfl rfl ?_ | refine SL.y (op_gtrT rfl rfl (by omega)) rfl rfl ?_ | refine SL.y (op_gtrF rfl rfl (by omega)) rfl rfl ?_ | refine SL.y (op_gtr rfl rfl) rfl rfl ?_
        first | refine SL.y (op_pickT rfl rfl) rfl rfl ?_ | refine SL.y (op_pickF rfl rfl) rfl rfl ?_ | refine SL.y (op_pickB rfl rfl rfl) rfl rfl ?_
        refine SL.nil ?_
        refine T.condT rfl ?_
        refine T.region ?_
        refine SL.y (op_fieldAddr fa27_0 rfl) rfl rfl ?_
        refine SL.x (op_store ty3 rfl rfl (by repeat (first | exact AtO.here | apply AtO.there)) rfl rfl rfl) rfl rfl ?_
        rintro _ _ _ ⟨rfl, rfl⟩
        refine SL.nil ?_
        -- cut
        rw [ho]
        exact T.backW 0 (by omega) ⟨hX2, rfl, rfl⟩ (by repeat (first | exact Sub.nil | refine Sub.cons rfl ?_))
      · have ho : opN d x.op = x.op := if_neg fun h => hc h.2
        refine T.seq ?_
        refine T.region ?_
        refine SL.y (op_move rfl) rfl rfl ?_
        first | refine SL.y (op_leqT rfl rfl (by omega)) rfl rfl ?_ | refine SL.y (op_leqF rfl rfl (by omega)) rfl rfl ?_ | refine SL.y (op_leq rfl rfl) rfl rfl ?_
        refine SL.y (op_move rfl) rfl rfl ?_
        first | refine SL.skip rfl rfl ?_ | refine SL.y (op_fieldAddr fa27_0 rfl) rfl rfl ?_
        first | refine SL.skip rfl rfl ?_ | refine SL.y (op_load ty3 rfl (by repeat (first | exact AtO.here | apply AtO.there)) rfl) rfl rfl ?_ | refine SL.y (op_loadX ty3 rfl (by assumption) rfl) rfl rfl ?_
        -- op
        refine SL.x (op_callF en63 (vs := [_]) rfl (rargN_spec (op := x.op))) rfl rfl ?_
        rintro _ _ X2 ⟨rfl, hX2, rfl⟩
        first | refine SL.skip rfl rfl ?_ | refine SL.y (op_gtrT rfl rfl (by omega)) rfl rfl ?_ | refine SL.y (op_gtrF rfl rfl (by omega)) rfl rfl ?_ | refine SL.y (op_gtr rfl rfl) rfl rfl ?_
        first | refine SL.y (op_pickT rfl rfl) rfl rfl ?_ | refine SL.y (op_pickF rfl rfl) rfl rfl ?_ | refine SL.y (op_pickB rfl rfl rfl) rfl rfl ?_
        refine SL.nil ?_
        refine T.condF rfl ?_
        refine T.skip ?_
        -- cut
        rw [ho]
        exact T.backW 0 (by omega) ⟨hX2, rfl, rfl⟩ (by repeat (first | exact Sub.nil | refine Sub.cons rfl ?_))
    · have ho : opN d x.op = x.op := if_neg fun h => by omega
      refine T.seq ?_
      refine T.region ?_
      refine SL.y (op_move rfl) rfl rfl ?_
      first | refine SL.y (op_leqT rfl rfl (by omega)) rfl rfl ?_ | refine SL.y (op_leqF rfl rfl (by omega)) rfl rfl ?_ | refine SL.y (op_leq rfl rfl) rfl rfl ?_
      refine SL.y (op_move rfl) rfl rfl ?_
      first | refine SL.skip rfl rfl ?_ | refine SL.y (op_fieldAddr fa27_0 rfl) rfl rfl ?_
      first | refine SL.skip rfl rfl ?_ | refine SL.y (op_load ty3 rfl (by repeat (first | exact AtO.here | apply AtO.there)) rfl) rfl rfl ?_ | refine SL.y (op_loadX ty3 rfl (by assumption) rfl) rfl rfl ?_
      -- op
      refine SL.skip rfl rfl ?_
      first | refine SL.skip rfl rfl ?_ | refine SL.y (op_gtrT rfl rfl (by omega)) rfl rfl ?_ | refine SL.y (op_gtrF rfl rfl (by omega)) rfl rfl ?_ | refine SL.y (op_gtr rfl rfl) rfl rfl ?_
      first | refine SL.y (op_pickT rfl rfl) rfl rfl ?_ | refine SL.y (op_pickF rfl rfl) rfl rfl ?_ | refine SL.y (op_pickB rfl rfl rfl) rfl rfl ?_
      refine SL.nil ?_
      refine T.condF rfl ?_
      refine T.skip ?_
      -- cut
      rw [ho]
      exact T.backW 0 (by omega) ⟨PMap.le_refl _, rfl, rfl⟩ (by repeat (first | exact Sub.nil | refine Sub.cons rfl ?_))
  rintro _ _ _ X2 ⟨hX2, rfl, rfl⟩
  have hop : opN d x.op < 256 := by unfold opN; split <;> omega
  have hd00 : d = 0 → argN (opN d x.op) = 0 := fun h => by
    by_cases hc : 0 < argN x.op
    · rw [opN, if_pos ⟨h, hc⟩]; rfl
    · rw [opN, if_neg fun h => hc h.2]; exact Nat.eq_zero_of_not_pos hc
  generalize opN d x.op = op at *
  refine T.seq ?_
  -- upto 5
  refine T.meet (fun _ env own X' => X2.le X' ∧ env = [(0, .pointer (some ⟨b, 0, none⟩)), (1, .int .i64 (d : Int)), (4, .pointer (some ⟨B4, 0, none⟩)), (5, .pointer (some ⟨B5, 0, none⟩)), (6, .pointer (some ⟨B6, 0, none⟩))] ∧ own = E6 B6 op (if op = 1 then x.num else 0) (.slice none 0 0) (.slice none 0 0) :: N5 B5 x :: BdO b A1 l1.length cp1 :: E6 B4 0 0 (.slice none 0 0) (.slice none 0 0) :: own0) ?_ ?_
  · by_cases ho : op = 1
    · rw [if_pos ho]
      refine T.seq ?_
      refine T.region ?_
      refine SL.y (op_fieldAddr fa27_0 rfl) rfl rfl ?_
      first | refine SL.y (op_load ty3 rfl (by repeat (first | exact AtO.here | apply AtO.there)) rfl) rfl rfl ?_ | refine SL.y (op_loadX ty3 rfl (by assumption) rfl) rfl rfl ?_
      first | refine SL.y (op_eqlT rfl rfl (by omega)) rfl rfl ?_ | refine SL.y (op_eqlF rfl rfl (by omega)) rfl rfl ?_ | refine SL.y (op_eql rfl rfl) rfl rfl ?_
      refine SL.nil ?_
      refine T.condT rfl ?_
      refine T.region ?_
      refine SL.y (op_fieldAddr fa98_3 rfl) rfl rfl ?_
      first | refine SL.y (op_load ty3 rfl (by repeat (first | exact AtO.here | apply AtO.there)) rfl) rfl rfl ?_ | refine SL.y (op_loadX ty3 rfl (by assumption) rfl) rfl rfl ?_
      refine SL.y (op_fieldAddr fa27_1 rfl) rfl rfl ?_
      refine SL.x (op_store ty3 rfl rfl (by repeat (first | exact AtO.here | apply AtO.there)) rfl rfl rfl) rfl rfl ?_
      rintro _ _ _ ⟨rfl, rfl⟩
      refine SL.nil ?_
      -- cut
      exact T.backW 0 (by omega) ⟨PMap.le_refl _, rfl, rfl⟩ (by repeat (first | exact Sub.nil | refine Sub.cons rfl ?_))
    · rw [if_neg ho]
      refine T.seq ?_
      refine T.region ?_
      refine SL.y (op_fieldAddr fa27_0 rfl) rfl rfl ?_
      first | refine SL.y (op_load ty3 rfl (by repeat (first | exact AtO.here | apply AtO.there)) rfl) rfl rfl ?_ | refine SL.y (op_loadX ty3 rfl (by assumption) rfl) rfl rfl ?_
      first | refine SL.y (op_eqlT rfl rfl (by omega)) rfl rfl ?_ | refine SL.y (op_eqlF rfl rfl (by omega)) rfl rfl ?_ | refine SL.y (op_eql rfl rfl) rfl rfl ?_
      refine SL.nil ?_
      refine T.condF rfl ?_
      refine T.skip ?_
      -- cut
      exact T.backW 0 (by omega) ⟨PMap.le_refl _, rfl, rfl⟩ (by repeat (first | exact Sub.nil | refine Sub.cons rfl ?_))
  rintro _ _ _ X3 ⟨hX3, rfl, rfl⟩
  have hn0 : (if op = 1 then x.num else 0) = (if op = 1 then x.num else 0) := rfl
  generalize hnn : (if op = 1 then x.num else 0) = n0 at *
  refine T.seq ?_
  -- upto 7
  refine T.meet (fun _ env own X' => ∃ (vn : Value) (Gn : Own), X3.le X' ∧ GrowS 9 1 vn (if 4 ≤ op ∧ op ≤ 6 then [word6 x.name] else []).length (strsC (if 4 ≤ op ∧ op ≤ 6 then [word6 x.name] else [])) Gn ∧ env = [(0, .pointer (some ⟨b, 0, none⟩)), (1, .int .i64 (d : Int)), (4, .pointer (some ⟨B4, 0, none⟩)), (5, .pointer (some ⟨B5, 0, none⟩)), (6, .pointer (some ⟨B6, 0, none⟩))] ∧ own = E6 B6 op n0 vn (.slice none 0 0) :: N5 B5 x :: BdO b A1 l1.length cp1 :: E6 B4 0 0 (.slice none 0 0) (.slice none 0 0) :: (Gn ++ own0)) ?_ ?_
  · by_cases ho : 4 ≤ op ∧ op ≤ 6
    · rw [if_pos ho]
      refine T.seq ?_
      refine T.region ?_
      refine SL.y (op_fieldAddr fa27_0 rfl) rfl rfl ?_
      first | refine SL.y (op_load ty3 rfl (by repeat (first | exact AtO.here | apply AtO.there)) rfl) rfl rfl ?_ | refine SL.y (op_loadX ty3 rfl (by assumption) rfl) rfl rfl ?_
      first | refine SL.y (op_geqT rfl rfl (by omega)) rfl rfl ?_ | refine SL.y (op_geqF rfl rfl (by omega)) rfl rfl ?_ | refine SL.y (op_geq rfl rfl) rfl rfl ?_
      refine SL.y (op_move rfl) rfl rfl ?_
      first | refine SL.skip rfl rfl ?_ | refine SL.y (op_fieldAddr fa27_0 rfl) rfl rfl ?_
      first | refine SL.skip rfl rfl ?_ | refine SL.y (op_load ty3 rfl (by repeat (first | exact AtO.here | apply AtO.there)) rfl) rfl rfl ?_ | refine SL.y (op_loadX ty3 rfl (by assumption) rfl) rfl rfl ?_
      first | refine SL.skip rfl rfl ?_ | refine SL.y (op_leqT rfl rfl (by omega)) rfl rfl ?_ | refine SL.y (op_leqF rfl rfl (by omega)) rfl rfl ?_ | refine SL.y (op_leq rfl rfl) rfl rfl ?_
      first | refine SL.y (op_pickT rfl rfl) rfl rfl ?_ | refine SL.y (op_pickF rfl rfl) rfl rfl ?_ | refine SL.y (op_pickB rfl rfl rfl) rfl rfl ?_
      refine SL.nil ?_
      refine T.condT rfl ?_
      refine T.region ?_
      refine SL.y (op_fieldAddr fa98_1 rfl) rfl rfl ?_
      first | refine SL.y (op_load ty5 rfl (by repeat (first | exact AtO.here | apply AtO.there)) rfl) rfl rfl ?_ | refine SL.y (op_loadX ty5 rfl (by assumption) rfl) rfl rfl ?_
      -- op
      refine SL.x (op_callF en64 (vs := [_]) rfl (word6_spec g2)) rfl rfl ?_
      rintro _ _ X4 ⟨rfl, hX4, rfl⟩
      refine SL.x (op_buildSlice Tryd.underlying24 bs9 (qs := [(0, _)]) rfl rfl rfl rfl rfl) rfl rfl ?_
      rintro _ _ _ ⟨B40, rfl, rfl, rfl⟩
      refine SL.y (op_fieldAddr fa27_2 rfl) rfl rfl ?_
      refine SL.x (op_store ty24 rfl rfl (by repeat (first | exact AtO.here | apply AtO.there)) rfl rfl rfl) rfl rfl ?_
      rintro _ _ _ ⟨rfl, rfl⟩
      refine SL.nil ?_
      -- cut
      refine T.perm (List.perm_middle (l₁ := [_, _, _, _])).symm ?_
      exact T.backW 0 (by omega) ⟨_, _, hX4, grow1 rfl (by omega), rfl, rfl⟩ (by repeat (first | exact Sub.nil | refine Sub.cons rfl ?_))
    · rw [if_neg ho]
      by_cases ho4 : 4 ≤ op
      · skip
        refine T.seq ?_
        refine T.region ?_
        refine SL.y (op_fieldAddr fa27_0 rfl) rfl rfl ?_
        first | refine SL.y (op_load ty3 rfl (by repeat (first | exact AtO.here | apply AtO.there)) rfl) rfl rfl ?_ | refine SL.y (op_loadX ty3 rfl (by assumption) rfl) rfl rfl ?_
        first | refine SL.y (op_geqT rfl rfl (by omega)) rfl rfl ?_ | refine SL.y (op_geqF rfl rfl (by omega)) rfl rfl ?_ | refine SL.y (op_geq rfl rfl) rfl rfl ?_
        refine SL.y (op_move rfl) rfl rfl ?_
        first | refine SL.skip rfl rfl ?_ | refine SL.y (op_fieldAddr fa27_0 rfl) rfl rfl ?_
        first | refine SL.skip rfl rfl ?_ | refine SL.y (op_load ty3 rfl (by repeat (first | exact AtO.here | apply AtO.there)) rfl) rfl rfl ?_ | refine SL.y (op_loadX ty3 rfl (by assumption) rfl) rfl rfl ?_
        first | refine SL.skip rfl rfl ?_ | refine SL.y (op_leqT rfl rfl (by omega)) rfl rfl ?_ | refine SL.y (op_leqF rfl rfl (by omega)) rfl rfl ?_ | refine SL.y (op_leq rfl rfl) rfl rfl ?_
        first | refine SL.y (op_pickT rfl rfl) rfl rfl ?_ | refine SL.y (op_pickF rfl rfl) rfl rfl ?_ | refine SL.y (op_pickB rfl rfl rfl) rfl rfl ?_
        refine SL.nil ?_
        refine T.condF rfl ?_
        refine T.skip ?_
        -- cut
        exact T.backW 0 (by omega) ⟨_, [], PMap.le_refl _, GrowS.nil, rfl, rfl⟩ (by repeat (first | exact Sub.nil | refine Sub.cons rfl ?_))
      · refine T.seq ?_
        refine T.region ?_
        refine SL.y (op_fieldAddr fa27_0 rfl) rfl rfl ?_
        first | refine SL.y (op_load ty3 rfl (by repeat (first | exact AtO.here | apply AtO.there)) rfl) rfl rfl ?_ | refine SL.y (op_loadX ty3 rfl (by assumption) rfl) rfl rfl ?_
        first | refine SL.y (op_geqT rfl rfl (by omega)) rfl rfl ?_ | refine SL.y (op_geqF rfl rfl (by omega)) rfl rfl ?_ | refine SL.y (op_geq rfl rfl) rfl rfl ?_
        refine SL.y (op_move rfl) rfl rfl ?_
        first | refine SL.skip rfl rfl ?_ | refine SL.y (op_fieldAddr fa27_0 rfl) rfl rfl ?_
        first | refine SL.skip rfl rfl ?_ | refine SL.y (op_load ty3 rfl (by repeat (first | exact AtO.here | apply AtO.there)) rfl) rfl rfl ?_ | refine SL.y (op_loadX ty3 rfl (by assumption) rfl) rfl rfl ?_
        first | refine SL.skip rfl rfl ?_ | refine SL.y (op_leqT rfl rfl (by omega)) rfl rfl ?_ | refine SL.y (op_leqF rfl rfl (by omega)) rfl rfl ?_ | refine SL.y (op_leq rfl rfl) rfl rfl ?_
        first | refine SL.y (op_pickT rfl rfl) rfl rfl ?_ | refine SL.y (op_pickF rfl rfl) rfl rfl ?_ | refine SL.y (op_pickB rfl rfl rfl) rfl rfl ?_
        refine SL.nil ?_
        refine T.condF rfl ?_
        refine T.skip ?_
        -- cut
        exact T.backW 0 (by omega) ⟨_, [], PMap.le_refl _, GrowS.nil, rfl, rfl⟩ (by repeat (first | exact Sub.nil | refine Sub.cons rfl ?_))
  rintro _ _ _ X4 ⟨vn4, Gn4, hX4, hGn4, rfl, rfl⟩
  refine T.seq ?_
  -- upto 9
  refine T.meet (fun _ env own X' => ∃ (vn : Value) (Gn : Own), X4.le X' ∧ GrowS 9 1 vn (namesN op x.name).length (strsC (namesN op x.name)) Gn ∧ env = [(0, .pointer (some ⟨b, 0, none⟩)), (1, .int .i64 (d : Int)), (4, .pointer (some ⟨B4, 0, none⟩)), (5, .pointer (some ⟨B5, 0, none⟩)), (6, .pointer (some ⟨B6, 0, none⟩))] ∧ own = E6 B6 op n0 vn (.slice none 0 0) :: N5 B5 x :: BdO b A1 l1.length cp1 :: E6 B4 0 0 (.slice none 0 0) (.slice none 0 0) :: (Gn ++ own0)) ?_ ?_
  · by_cases ho : op = 5
    · have hq : x.name % 3 < 3 := Nat.mod_lt _ (by omega)
      by_cases h3 : 0 < x.name % 3
      · rw [show namesN op x.name = [word6 x.name, word6 ((x.name + 1) % 256), word6 ((x.name + 3) % 256)] from if_pos ⟨ho, h3⟩]
        rw [if_pos (by omega)] at hGn4
        refine T.seq ?_
        refine T.region ?_
        refine SL.y (op_fieldAddr fa27_0 rfl) rfl rfl ?_
        first | refine SL.y (op_load ty3 rfl (by repeat (first | exact AtO.here | apply AtO.there)) rfl) rfl rfl ?_ | refine SL.y (op_loadX ty3 rfl (by assumption) rfl) rfl rfl ?_
        first | refine SL.y (op_eqlT rfl rfl (by omega)) rfl rfl ?_ | refine SL.y (op_eqlF rfl rfl (by omega)) rfl rfl ?_ | refine SL.y (op_eql rfl rfl) rfl rfl ?_
        refine SL.y (op_move rfl) rfl rfl ?_
        first | refine SL.skip rfl rfl ?_ | refine SL.y (op_fieldAddr fa98_1 rfl) rfl rfl ?_
        first | refine SL.skip rfl rfl ?_ | refine SL.y (op_load ty5 rfl (by repeat (first | exact AtO.here | apply AtO.there)) rfl) rfl rfl ?_ | refine SL.y (op_loadX ty5 rfl (by assumption) rfl) rfl rfl ?_
        -- to 48: op
        refine SL.y (op_remN (q := 3) rfl rfl rfl (by omega)) rfl rfl ?_
        first | refine SL.skip rfl rfl ?_ | refine SL.y (op_gtrT rfl rfl (by omega)) rfl rfl ?_ | refine SL.y (op_gtrF rfl rfl (by omega)) rfl rfl ?_ | refine SL.y (op_gtr rfl rfl) rfl rfl ?_
        first | refine SL.y (op_pickT rfl rfl) rfl rfl ?_ | refine SL.y (op_pickF rfl rfl) rfl rfl ?_ | refine SL.y (op_pickB rfl rfl rfl) rfl rfl ?_
        refine SL.nil ?_
        refine T.condT rfl ?_
        refine T.drawG (own0 := [_, _]) (by kernel_rfl) 11 [.t 0, .t 1, .t 2, .t 3, .t 4, .t 6, .t 7, .t 8, .r 5, .r 9, .r 10] (by kernel_rfl) ?_
        refine SD.take rfl panicBody (op_fieldAddr fa27_2 rfl) rfl rfl ?_
        first | refine SD.take rfl panicBody (op_load ty24 rfl (by repeat (first | exact AtO.here | apply AtO.there)) rfl) rfl rfl ?_ | refine SD.take rfl panicBody (op_loadX ty24 rfl (by assumption) rfl) rfl rfl ?_
        refine SD.take rfl panicBody (op_fieldAddr fa98_1 rfl) rfl rfl ?_
        first | refine SD.take rfl panicBody (op_load ty5 rfl (by repeat (first | exact AtO.here | apply AtO.there)) rfl) rfl rfl ?_ | refine SD.take rfl panicBody (op_loadX ty5 rfl (by assumption) rfl) rfl rfl ?_
        refine SD.take rfl panicBody (op_addW rfl rfl) rfl rfl ?_
        refine SD.take rfl panicBody (op_fieldAddr fa98_1 rfl) rfl rfl ?_
        first | refine SD.take rfl panicBody (op_load ty5 rfl (by repeat (first | exact AtO.here | apply AtO.there)) rfl) rfl rfl ?_ | refine SD.take rfl panicBody (op_loadX ty5 rfl (by assumption) rfl) rfl rfl ?_
        refine SD.take rfl panicBody (op_addW rfl rfl) rfl rfl ?_
        -- op
        rw [wrapU8a]
        refine SD.run rfl (op_callF en64 (vs := [_]) rfl (word6_spec (Nat.mod_lt _ (by omega)))) rfl rfl ?_
        rintro _ _ X5 ⟨rfl, hX5, rfl⟩
        -- op
        rw [wrapU8c]
        refine SD.run rfl (op_callF en64 (vs := [_]) rfl (word6_spec (Nat.mod_lt _ (by omega)))) rfl rfl ?_
        rintro _ _ X6 ⟨rfl, hX6, rfl⟩
        refine SD.run rfl (op_buildSlice Tryd.underlying24 bs9 (qs := [(0, _), (1, _)]) rfl rfl rfl rfl rfl) rfl rfl ?_
        rintro _ _ _ ⟨B61, rfl, rfl, rfl⟩
        refine SD.nil ?_
        show SL _ _ _ _ _ _ _ [_, _, _] _ _ _
        -- op
        refine SL.perm perm5 ?_
        refine SL.x (op_appendGA (own0 := _ :: _ :: _ :: _ :: _ :: own0) (m := 2) sl24 rfl hGn4 rfl (Src.ofOwn0 AtO.here rfl) (by intro y hy; have hy : y ∈ [Value.string _, Value.string _] := hy; simp only [List.mem_cons, List.not_mem_nil, or_false] at hy; rcases hy with rfl | rfl <;> rfl) (by simp; omega) (by simp)) rfl rfl ?_
        rintro vn5 _ _ ⟨Gn5, rfl, rfl, hGn5⟩
        obtain ⟨_, _, rfl⟩ := hGn5.form
        refine SL.y (op_fieldAddr fa27_2 rfl) rfl rfl ?_
        refine SL.x (op_store ty24 rfl rfl (by repeat (first | exact AtO.here | apply AtO.there)) rfl rfl rfl) rfl rfl ?_
        rintro _ _ _ ⟨rfl, rfl⟩
        refine SL.nil ?_
        -- cut
        refine T.less (List.sublist_cons_self _ _) ?_
        refine T.perm perm4.symm ?_
        exact T.backW 0 (by omega) ⟨_, _, hX5.trans' hX6, hGn5, rfl, rfl⟩ (by repeat (first | exact Sub.nil | refine Sub.cons rfl ?_))
      · rw [show namesN op x.name = (if 4 ≤ op ∧ op ≤ 6 then [word6 x.name] else []) from if_neg fun h => h3 h.2]
        refine T.seq ?_
        refine T.region ?_
        refine SL.y (op_fieldAddr fa27_0 rfl) rfl rfl ?_
        first | refine SL.y (op_load ty3 rfl (by repeat (first | exact AtO.here | apply AtO.there)) rfl) rfl rfl ?_ | refine SL.y (op_loadX ty3 rfl (by assumption) rfl) rfl rfl ?_
        first | refine SL.y (op_eqlT rfl rfl (by omega)) rfl rfl ?_ | refine SL.y (op_eqlF rfl rfl (by omega)) rfl rfl ?_ | refine SL.y (op_eql rfl rfl) rfl rfl ?_
        refine SL.y (op_move rfl) rfl rfl ?_
        first | refine SL.skip rfl rfl ?_ | refine SL.y (op_fieldAddr fa98_1 rfl) rfl rfl ?_
        first | refine SL.skip rfl rfl ?_ | refine SL.y (op_load ty5 rfl (by repeat (first | exact AtO.here | apply AtO.there)) rfl) rfl rfl ?_ | refine SL.y (op_loadX ty5 rfl (by assumption) rfl) rfl rfl ?_
        -- to 48: op
        refine SL.y (op_remN (q := 3) rfl rfl rfl (by omega)) rfl rfl ?_
        first | refine SL.skip rfl rfl ?_ | refine SL.y (op_gtrT rfl rfl (by omega)) rfl rfl ?_ | refine SL.y (op_gtrF rfl rfl (by omega)) rfl rfl ?_ | refine SL.y (op_gtr rfl rfl) rfl rfl ?_
        first | refine SL.y (op_pickT rfl rfl) rfl rfl ?_ | refine SL.y (op_pickF rfl rfl) rfl rfl ?_ | refine SL.y (op_pickB rfl rfl rfl) rfl rfl ?_
        refine SL.nil ?_
        refine T.condF rfl ?_
        refine T.skip ?_
        -- cut
        exact T.backW 0 (by omega) ⟨_, _, PMap.le_refl _, hGn4, rfl, rfl⟩ (by repeat (first | exact Sub.nil | refine Sub.cons rfl ?_))
    · rw [show namesN op x.name = (if 4 ≤ op ∧ op ≤ 6 then [word6 x.name] else []) from if_neg fun h => ho h.1]
      refine T.seq ?_
      refine T.region ?_
      refine SL.y (op_fieldAddr fa27_0 rfl) rfl rfl ?_
      first | refine SL.y (op_load ty3 rfl (by repeat (first | exact AtO.here | apply AtO.there)) rfl) rfl rfl ?_ | refine SL.y (op_loadX ty3 rfl (by assumption) rfl) rfl rfl ?_
      first | refine SL.y (op_eqlT rfl rfl (by omega)) rfl rfl ?_ | refine SL.y (op_eqlF rfl rfl (by omega)) rfl rfl ?_ | refine SL.y (op_eql rfl rfl) rfl rfl ?_
      refine SL.y (op_move rfl) rfl rfl ?_
      first | refine SL.skip rfl rfl ?_ | refine SL.y (op_fieldAddr fa98_1 rfl) rfl rfl ?_
      first | refine SL.skip rfl rfl ?_ | refine SL.y (op_load ty5 rfl (by repeat (first | exact AtO.here | apply AtO.there)) rfl) rfl rfl ?_ | refine SL.y (op_loadX ty5 rfl (by assumption) rfl) rfl rfl ?_
      first | refine SL.skip rfl rfl ?_ | refine SL.y (op_remS (q := 3) rfl rfl rfl (by omega)) rfl rfl ?_ | refine SL.y (op_remN (q := 3) rfl rfl rfl (by decide)) rfl rfl ?_ | refine SL.y (op_rem rfl rfl (by omega) (by omega)) rfl rfl ?_
      first | refine SL.skip rfl rfl ?_ | refine SL.y (op_gtrT rfl rfl (by omega)) rfl rfl ?_ | refine SL.y (op_gtrF rfl rfl (by omega)) rfl rfl ?_ | refine SL.y (op_gtr rfl rfl) rfl rfl ?_
      first | refine SL.y (op_pickT rfl rfl) rfl rfl ?_ | refine SL.y (op_pickF rfl rfl) rfl rfl ?_ | refine SL.y (op_pickB rfl rfl rfl) rfl rfl ?_
      refine SL.nil ?_
      refine T.condF rfl ?_
      refine T.skip ?_
      -- cut
      exact T.backW 0 (by omega) ⟨_, _, PMap.le_refl _, hGn4, rfl, rfl⟩ (by repeat (first | exact Sub.nil | refine Sub.cons rfl ?_))
  rintro _ _ _ X5 ⟨vn5, Gn5, hX5, hGn5, rfl, rfl⟩
  have hX15 := ((hX2.trans' hX3).trans' hX4).trans' hX5
  have hk2 := argN_le op
  refine T.seq ?_
  -- upto 11
  refine T.seq ?_
  refine T.region ?_
  refine SL.y (op_assign (v := .int .i64 ((0 : Nat) : Int)) rfl) rfl rfl ?_
  refine SL.nil ?_
  refine T.block ?_
  -- loop live [0, 1, 4, 5, 6, 7]
  refine T.perm (own' := E6 B6 op n0 vn5 (.slice none 0 0) :: N5 B5 x :: E6 B4 0 0 (.slice none 0 0) (.slice none 0 0) :: BdO b A1 l1.length cp1 :: (Gn5 ++ ([] ++ own0))) (.cons _ (.cons _ (.swap _ _ _))) ?_
  have hmw := fun k => manyN_len (buildE (d - 1)) l1 k
  refine T.loopW (fun m env own X' => ∃ (k : Nat) (A' : Option Addr) (cp' : Nat) (va : Value) (Ga : Own) (rows : List Row4), m = argN op - k ∧ k ≤ argN op ∧ X5.le X' ∧ rows.length = k ∧ GrowS 27 4 va rows.length (rows.map rc4).flatten Ga ∧ (∀ (i : Nat) (a : Ex) (r : Row4), (manyN (buildE (d - 1)) k l1).1[i]? = some a → rows[i]? = some r → ExR .i64 X' a r) ∧ RowR ndC X' (.slice A' (manyN (buildE (d - 1)) k l1).2.length cp') (manyN (buildE (d - 1)) k l1).2 ∧ env = [(0, .pointer (some ⟨b, 0, none⟩)), (1, .int .i64 (d : Int)), (4, .pointer (some ⟨B4, 0, none⟩)), (5, .pointer (some ⟨B5, 0, none⟩)), (6, .pointer (some ⟨B6, 0, none⟩)), (7, .int .i64 (k : Int))] ∧ own = E6 B6 op n0 vn5 va :: N5 B5 x :: E6 B4 0 0 (.slice none 0 0) (.slice none 0 0) :: BdO b A' (manyN (buildE (d - 1)) k l1).2.length cp' :: (Gn5 ++ (Ga ++ own0))) (argN op) ⟨0, _, _, _, [], [], by simp, by omega, PMap.le_refl _, rfl, GrowS.nil, fun i a r h => by simp [manyN] at h, h1.mono (hX1.trans' hX15), rfl, rfl⟩ (by repeat (first | exact Sub.nil | refine Sub.cons rfl ?_)) ?_
  rintro m _ _ X6 ⟨k, A6, cp6, va6, Ga6, rows, rfl, hk, hX6, hrl, hGa6, hrows, hb6, rfl, rfl⟩
  refine T.seq ?_
  refine T.seq ?_
  refine T.region ?_
  refine SL.y (op_move rfl) rfl rfl ?_
  refine SL.y (op_fieldAddr fa27_0 rfl) rfl rfl ?_
  first | refine SL.y (op_load ty3 rfl (by repeat (first | exact AtO.here | apply AtO.there)) rfl) rfl rfl ?_ | refine SL.y (op_loadX ty3 rfl (by assumption) rfl) rfl rfl ?_
  -- op
  refine SL.x (op_callF en63 (vs := [_]) rfl (rargN_spec (op := op))) rfl rfl ?_
  rintro _ _ X7 ⟨rfl, hX7, rfl⟩
  rcases Nat.lt_or_ge k (argN op) with hkl | hkl
  · have hd0 : 0 < d := Nat.pos_of_ne_zero fun h => by have := hd00 h; omega
    first | refine SL.y (op_lssT rfl rfl (by omega)) rfl rfl ?_ | refine SL.y (op_lssF rfl rfl (by omega)) rfl rfl ?_ | refine SL.y (op_lss rfl rfl) rfl rfl ?_
    refine SL.nil ?_
    refine T.condT rfl ?_
    refine T.skip ?_
    refine T.seq ?_
    refine T.block ?_
    refine T.drawG (own0 := [_, _, _]) (by kernel_rfl) 7 [.t 0, .t 1, .t 2, .t 3, .t 4, .r 5, .r 6] (by kernel_rfl) ?_
    refine SD.take rfl panicBody (op_fieldAddr fa27_3 rfl) rfl rfl ?_
    first | refine SD.take rfl panicBody (op_load ty25 rfl (by repeat (first | exact AtO.here | apply AtO.there)) rfl) rfl rfl ?_ | refine SD.take rfl panicBody (op_loadX ty25 rfl (by assumption) rfl) rfl rfl ?_
    refine SD.take rfl panicBody (op_move rfl) rfl rfl ?_
    refine SD.take rfl panicBody (op_move rfl) rfl rfl ?_
    -- to 75: op
    refine SD.take rfl panicBody (op_subN (q := 1) rfl rfl (by omega) (by omega)) rfl rfl ?_
    -- op
    refine SD.perm (own' := [BdO b A6 (manyN (buildE (d - 1)) k l1).2.length cp6] ++ (E6 B6 op n0 vn5 va6 :: N5 B5 x :: E6 B4 0 0 (.slice none 0 0) (.slice none 0 0) :: (Gn5 ++ (Ga6 ++ own0)))) (List.perm_middle (l₁ := [_, _, _])) ?_
    refine SD.runK rfl (op_callM en37 (vs := [_, _]) rfl (ih (d - 1) (by omega) (hb6.mono hX7) (hok2 k) (by omega)) rfl) (by rintro _ _ _ ⟨L', rfl, hX, _⟩; exact ⟨fun p hp => List.mem_append_right _ (show p ∈ [_, _, _] ++ _ from List.mem_append_left _ hp), hX⟩) rfl rfl ?_
    rintro _ _ X8 ⟨_, rfl, hX8, r8, A8, cp8, rfl, hr8, rfl, hb8⟩
    obtain ⟨o8, n8, a8, b8, l8, c8, l9, c9, rfl⟩ := hr8.form
    refine SD.run rfl (op_buildSlice Tryd.underlying25 bs27 (qs := [(0, _)]) rfl rfl rfl rfl rfl) rfl rfl ?_
    rintro _ _ _ ⟨B77, rfl, rfl, rfl⟩
    refine SD.nil ?_
    show SL _ _ _ _ _ _ _ [_, _, _] _ _ _
    -- op
    refine SL.perm perm5G ?_
    refine SL.x (op_appendGA (own0 := _ :: _ :: _ :: _ :: _ :: (Gn5 ++ own0)) (m := 1) sl25 rfl hGa6 rfl (Src.ofOwn0 AtO.here rfl) (by intro y hy; have hy : y ∈ [Value.int _ _, Value.int _ _, Value.slice _ _ _, Value.slice _ _ _] := hy; simp only [List.mem_cons, List.not_mem_nil, or_false] at hy; rcases hy with rfl | rfl | rfl | rfl <;> rfl) (by omega) (by omega)) rfl rfl ?_
    rintro va9 _ _ ⟨Ga9, rfl, rfl, hGa9⟩
    obtain ⟨Aa9, ca9, rfl⟩ := hGa9.form
    refine SL.y (op_fieldAddr fa27_3 rfl) rfl rfl ?_
    refine SL.x (op_store ty25 rfl rfl (by repeat (first | exact AtO.here | apply AtO.there)) rfl rfl rfl) rfl rfl ?_
    rintro _ _ _ ⟨rfl, rfl⟩
    refine SL.nil ?_
    refine T.blk ?_
    refine T.region ?_
    refine SL.y (op_move rfl) rfl rfl ?_
    first | refine SL.y (op_addN (q := 1) rfl rfl (by omega)) rfl rfl ?_ | refine SL.y (op_add rfl rfl (by omega) (by omega)) rfl rfl ?_ | refine SL.y (op_addW rfl rfl) rfl rfl ?_
    refine SL.y (op_assign rfl) rfl rfl ?_
    refine SL.nil ?_
    -- cut
    refine T.less (List.sublist_cons_self _ _) ?_
    refine T.perm perm4G.symm ?_
    refine T.perm (List.perm_middle (l₁ := [_, _, _])).symm ?_
    have hGa10 : GrowS 27 4 (.slice Aa9 (rows.length + 1) ca9) (rows ++ [((.int .i64 (o8 : Int), .int .i64 n8, .slice a8 l8 c8, .slice b8 l9 c9) : Row4)]).length (((rows ++ [((.int .i64 (o8 : Int), .int .i64 n8, .slice a8 l8 c8, .slice b8 l9 c9) : Row4)]).map rc4).flatten) Ga9 := by
      rw [List.length_append, List.map_append, List.flatten_append]
      exact hGa9
    have hrows2 : ∀ (i : Nat) (a : Ex) (r : Row4), (manyN (buildE (d - 1)) (k + 1) l1).1[i]? = some a → (rows ++ [((.int .i64 (o8 : Int), .int .i64 n8, .slice a8 l8 c8, .slice b8 l9 c9) : Row4)])[i]? = some r → ExR .i64 X8 a r := by
      intro i a r hi hr
      rcases Nat.lt_or_ge i k with hik | hik
      · rw [manyN, List.getElem?_append_left (by rw [hmw]; exact hik)] at hi
        rw [List.getElem?_append_left (by omega)] at hr
        exact ((hrows i a r hi hr).mono hX7).mono hX8
      · have hik2 : i = k := by
          have := (List.getElem?_eq_some_iff.1 hr).1
          rw [List.length_append] at this; simp at this; omega
        subst hik2
        rw [manyN, List.getElem?_append_right (by rw [hmw]; omega), hmw, Nat.sub_self] at hi
        rw [List.getElem?_append_right (by omega), hrl, Nat.sub_self] at hr
        simp only [List.getElem?_cons_zero, Option.some.injEq] at hi hr
        subst hi hr
        exact hr8
    exact T.backW (argN op - (k + 1)) (by omega) ⟨k + 1, _, _, _, _, rows ++ [(.int .i64 (o8 : Int), .int .i64 n8, .slice a8 l8 c8, .slice b8 l9 c9)], rfl, by omega, (hX6.trans' hX7).trans' hX8, by rw [List.length_append, hrl]; rfl, hGa10, hrows2, hb8, rfl, rfl⟩ (by repeat (first | exact Sub.nil | refine Sub.cons rfl ?_))
  · obtain rfl : k = argN op := by omega
    have hX17 := hX15.trans' (hX6.trans' hX7)
    generalize hmn : manyN (buildE (d - 1)) (argN op) l1 = z at *
    obtain ⟨al0, l2⟩ := z
    simp only at *
    have hal : rows.length = al0.length := by have := hmw (argN op); rw [hmn] at this; simp only at this; omega
    first | refine SL.y (op_lssT rfl rfl (by omega)) rfl rfl ?_ | refine SL.y (op_lssF rfl rfl (by omega)) rfl rfl ?_ | refine SL.y (op_lss rfl rfl) rfl rfl ?_
    refine SL.nil ?_
    refine T.condF rfl ?_
    refine T.exit (T.exitCode (T.exitCut (T.exitBlk ?_)))
    refine T.seq ?_
    -- upto 15
    refine T.meet (fun _ env own X' => ∃ (op' : Nat) (n' : Int) (ns : List ByteArray) (al : List Ex) (vn va : Value) (Gn Ga : Own) (rs : List Row4), oddE x op al0 = .mk op' n' ns al ∧ X7.le X' ∧ GrowS 9 1 vn ns.length (strsC ns) Gn ∧ GrowS 27 4 va rs.length (rs.map rc4).flatten Ga ∧ rs.length = al.length ∧ (∀ (i : Nat) (a : Ex) (r : Row4), al[i]? = some a → rs[i]? = some r → ExR .i64 X' a r) ∧ env = [(4, .pointer (some ⟨B4, 0, none⟩)), (5, .pointer (some ⟨B5, 0, none⟩)), (6, .pointer (some ⟨B6, 0, none⟩))] ∧ own = E6 B6 op' n' vn va :: N5 B5 x :: E6 B4 0 0 (.slice none 0 0) (.slice none 0 0) :: BdO b A6 l2.length cp6 :: (Gn ++ (Ga ++ own0))) ?_ ?_
    · have hrow7 : ∀ (i : Nat) (a : Ex) (r : Row4), al0[i]? = some a → rows[i]? = some r → ExR .i64 X7 a r := fun i a r h1 h2 => (hrows i a r h1 h2).mono hX7
      have hn5 := namesN_wt op x.name
      have hn6 := wtS_len (namesN op x.name)
      by_cases o1 : x.odd = 1
      · have e : oddE x op al0 = .mk op n0 (namesN op x.name) (al0 ++ [.mk 2 0 [] []]) := by simp only [oddE, if_pos o1, hnn]
        refine T.seq ?_
        refine T.region ?_
        refine SL.y (op_fieldAddr fa98_2 rfl) rfl rfl ?_
        first | refine SL.y (op_load ty5 rfl (by repeat (first | exact AtO.here | apply AtO.there)) rfl) rfl rfl ?_ | refine SL.y (op_loadX ty5 rfl (by assumption) rfl) rfl rfl ?_
        refine SL.nil ?_
        refine T.block ?_
        refine T.seq ?_
        refine T.region ?_
        first | refine SL.y (op_eqlT rfl rfl (by omega)) rfl rfl ?_ | refine SL.y (op_eqlF rfl rfl (by omega)) rfl rfl ?_ | refine SL.y (op_eql rfl rfl) rfl rfl ?_
        refine SL.y (op_assign rfl) rfl rfl ?_
        refine SL.nil ?_
        refine T.condT rfl ?_
        refine T.region ?_
        refine SL.y (op_fieldAddr fa27_3 rfl) rfl rfl ?_
        first | refine SL.y (op_load ty25 rfl (by repeat (first | exact AtO.here | apply AtO.there)) rfl) rfl rfl ?_ | refine SL.y (op_loadX ty25 rfl (by assumption) rfl) rfl rfl ?_
        refine SL.y (op_build st27 (qs := [(0, _)]) rfl rfl) rfl rfl ?_
        refine SL.x (op_buildSlice Tryd.underlying25 bs27 (qs := [(0, _)]) rfl rfl rfl rfl rfl) rfl rfl ?_
        rintro _ _ _ ⟨B87, rfl, rfl, rfl⟩
        -- op
        refine SL.perm perm5G ?_
        refine SL.x (op_appendGA (own0 := _ :: _ :: _ :: _ :: _ :: (Gn5 ++ own0)) (m := 1) sl25 rfl hGa6 rfl (Src.ofOwn0 AtO.here rfl) (by intro y hy; have hy : y ∈ [Value.int _ _, Value.int _ _, Value.slice _ _ _, Value.slice _ _ _] := hy; simp only [List.mem_cons, List.not_mem_nil, or_false] at hy; rcases hy with rfl | rfl | rfl | rfl <;> rfl) (by omega) (by omega)) rfl rfl ?_
        rintro va9 _ _ ⟨Ga9, rfl, rfl, hGa9⟩
        obtain ⟨Aa9, ca9, rfl⟩ := hGa9.form
        refine SL.y (op_fieldAddr fa27_3 rfl) rfl rfl ?_
        refine SL.x (op_store ty25 rfl rfl (by repeat (first | exact AtO.here | apply AtO.there)) rfl rfl rfl) rfl rfl ?_
        rintro _ _ _ ⟨rfl, rfl⟩
        refine SL.nil ?_
        refine T.blk ?_
        -- cut
        refine T.less (List.sublist_cons_self _ _) ?_
        refine T.perm perm4G.symm ?_
        have hGa10 : GrowS 27 4 (.slice Aa9 (rows.length + 1) ca9) (rows ++ [((.int .i64 2, .int .i64 0, .slice none 0 0, .slice none 0 0) : Row4)]).length (((rows ++ [((.int .i64 2, .int .i64 0, .slice none 0 0, .slice none 0 0) : Row4)]).map rc4).flatten) Ga9 := by
          rw [List.length_append, List.map_append, List.flatten_append]
          exact hGa9
        have hrows2 : ∀ (i : Nat) (a : Ex) (r : Row4), (al0 ++ [.mk 2 0 [] []])[i]? = some a → (rows ++ [((.int .i64 2, .int .i64 0, .slice none 0 0, .slice none 0 0) : Row4)])[i]? = some r → ExR .i64 X7 a r := by
          intro i a r hi hr
          rcases Nat.lt_or_ge i al0.length with hik | hik
          · rw [List.getElem?_append_left hik] at hi
            rw [List.getElem?_append_left (by omega)] at hr
            exact hrow7 i a r hi hr
          · have hik2 : i = al0.length := by
              have := (List.getElem?_eq_some_iff.1 hi).1
              rw [List.length_append] at this; simp at this; omega
            subst hik2
            rw [List.getElem?_append_right (by omega), Nat.sub_self] at hi
            rw [List.getElem?_append_right (by omega), hal, Nat.sub_self] at hr
            simp only [List.getElem?_cons_zero, Option.some.injEq] at hi hr
            subst hi hr
            exact .mk (rows := []) (.inl ⟨rfl, _, _, rfl⟩) (.inl ⟨rfl, _, _, rfl⟩) rfl (fun i a r h => by simp at h)
        exact T.backW 0 (by omega) ⟨_, _, _, _, _, _, _, _, _, e, PMap.le_refl _, hGn5, hGa10, by rw [List.length_append, List.length_append, hal]; rfl, hrows2, rfl, rfl⟩ (by repeat (first | exact Sub.nil | refine Sub.cons rfl ?_))
      by_cases o2 : x.odd = 2
      · have e : oddE x op al0 = .mk op n0 (namesN op x.name) [] := by simp only [oddE, if_neg o1, if_pos o2, hnn]
        refine T.seq ?_
        refine T.region ?_
        refine SL.y (op_fieldAddr fa98_2 rfl) rfl rfl ?_
        first | refine SL.y (op_load ty5 rfl (by repeat (first | exact AtO.here | apply AtO.there)) rfl) rfl rfl ?_ | refine SL.y (op_loadX ty5 rfl (by assumption) rfl) rfl rfl ?_
        refine SL.nil ?_
        refine T.block ?_
        refine T.seq ?_
        refine T.region ?_
        first | refine SL.y (op_eqlT rfl rfl (by omega)) rfl rfl ?_ | refine SL.y (op_eqlF rfl rfl (by omega)) rfl rfl ?_ | refine SL.y (op_eql rfl rfl) rfl rfl ?_
        refine SL.y (op_assign rfl) rfl rfl ?_
        refine SL.nil ?_
        refine T.condF rfl ?_
        refine T.seq ?_
        refine T.region ?_
        first | refine SL.y (op_eqlT rfl rfl (by omega)) rfl rfl ?_ | refine SL.y (op_eqlF rfl rfl (by omega)) rfl rfl ?_ | refine SL.y (op_eql rfl rfl) rfl rfl ?_
        refine SL.y (op_assign rfl) rfl rfl ?_
        refine SL.nil ?_
        refine T.condT rfl ?_
        refine T.region ?_
        refine SL.y (op_fieldAddr fa27_3 rfl) rfl rfl ?_
        refine SL.x (op_store ty25 rfl rfl (by repeat (first | exact AtO.here | apply AtO.there)) rfl rfl rfl) rfl rfl ?_
        rintro _ _ _ ⟨rfl, rfl⟩
        refine SL.nil ?_
        refine T.blk ?_
        -- cut
        refine T.less (own' := _ :: _ :: _ :: _ :: (Gn5 ++ ([] ++ own0))) (.cons_cons _ (.cons_cons _ (.cons_cons _ (.cons_cons _ (List.Sublist.append_left (List.sublist_append_right Ga6 own0) Gn5))))) ?_
        exact T.backW 0 (by omega) ⟨_, _, _, _, _, _, _, [], [], e, PMap.le_refl _, hGn5, GrowS.nil, rfl, fun i a r h => by simp at h, rfl, rfl⟩ (by repeat (first | exact Sub.nil | refine Sub.cons rfl ?_))
      by_cases o3 : x.odd = 3
      · have e : oddE x op al0 = .mk op n0 (namesN op x.name ++ [word6 x.name]) al0 := by simp only [oddE, if_neg o1, if_neg o2, if_pos o3, hnn]
        refine T.seq ?_
        refine T.region ?_
        refine SL.y (op_fieldAddr fa98_2 rfl) rfl rfl ?_
        first | refine SL.y (op_load ty5 rfl (by repeat (first | exact AtO.here | apply AtO.there)) rfl) rfl rfl ?_ | refine SL.y (op_loadX ty5 rfl (by assumption) rfl) rfl rfl ?_
        refine SL.nil ?_
        refine T.block ?_
        refine T.seq ?_
        refine T.region ?_
        first | refine SL.y (op_eqlT rfl rfl (by omega)) rfl rfl ?_ | refine SL.y (op_eqlF rfl rfl (by omega)) rfl rfl ?_ | refine SL.y (op_eql rfl rfl) rfl rfl ?_
        refine SL.y (op_assign rfl) rfl rfl ?_
        refine SL.nil ?_
        refine T.condF rfl ?_
        refine T.seq ?_
        refine T.region ?_
        first | refine SL.y (op_eqlT rfl rfl (by omega)) rfl rfl ?_ | refine SL.y (op_eqlF rfl rfl (by omega)) rfl rfl ?_ | refine SL.y (op_eql rfl rfl) rfl rfl ?_
        refine SL.y (op_assign rfl) rfl rfl ?_
        refine SL.nil ?_
        refine T.condF rfl ?_
        refine T.seq ?_
        refine T.region ?_
        first | refine SL.y (op_eqlT rfl rfl (by omega)) rfl rfl ?_ | refine SL.y (op_eqlF rfl rfl (by omega)) rfl rfl ?_ | refine SL.y (op_eql rfl rfl) rfl rfl ?_
        refine SL.y (op_assign rfl) rfl rfl ?_
        refine SL.nil ?_
        refine T.condT rfl ?_
        refine T.drawG (own0 := [_, _, _]) (by kernel_rfl) 6 [.t 0, .t 1, .t 2, .t 3, .r 4, .r 5] (by kernel_rfl) ?_
        refine SD.take rfl panicBody (op_fieldAddr fa27_2 rfl) rfl rfl ?_
        first | refine SD.take rfl panicBody (op_load ty24 rfl (by repeat (first | exact AtO.here | apply AtO.there)) rfl) rfl rfl ?_ | refine SD.take rfl panicBody (op_loadX ty24 rfl (by assumption) rfl) rfl rfl ?_
        refine SD.take rfl panicBody (op_fieldAddr fa98_1 rfl) rfl rfl ?_
        first | refine SD.take rfl panicBody (op_load ty5 rfl (by repeat (first | exact AtO.here | apply AtO.there)) rfl) rfl rfl ?_ | refine SD.take rfl panicBody (op_loadX ty5 rfl (by assumption) rfl) rfl rfl ?_
        -- op
        refine SD.run rfl (op_callF en64 (vs := [_]) rfl (word6_spec g2)) rfl rfl ?_
        rintro _ _ X8 ⟨rfl, hX8, rfl⟩
        refine SD.run rfl (op_buildSlice Tryd.underlying24 bs9 (qs := [(0, _)]) rfl rfl rfl rfl rfl) rfl rfl ?_
        rintro _ _ _ ⟨B100, rfl, rfl, rfl⟩
        refine SD.nil ?_
        show SL _ _ _ _ _ _ _ [_, _, _] _ _ _
        -- op
        refine SL.perm perm5 ?_
        refine SL.x (op_appendGA (own0 := _ :: _ :: _ :: _ :: _ :: (Ga6 ++ own0)) (m := 1) sl24 rfl hGn5 rfl (Src.ofOwn0 AtO.here rfl) (by intro y hy; have hy : y ∈ [Value.string _] := hy; simp only [List.mem_cons, List.not_mem_nil, or_false] at hy; subst hy; rfl) (by omega) (by omega)) rfl rfl ?_
        rintro vn9 _ _ ⟨Gn9, rfl, rfl, hGn9⟩
        obtain ⟨An9, cn9, rfl⟩ := hGn9.form
        refine SL.y (op_fieldAddr fa27_2 rfl) rfl rfl ?_
        refine SL.x (op_store ty24 rfl rfl (by repeat (first | exact AtO.here | apply AtO.there)) rfl rfl rfl) rfl rfl ?_
        rintro _ _ _ ⟨rfl, rfl⟩
        refine SL.nil ?_
        refine T.blk ?_
        -- cut
        refine T.less (List.sublist_cons_self _ _) ?_
        refine T.perm perm4.symm ?_
        have hGn10 : GrowS 9 1 (.slice An9 ((namesN op x.name).length + 1) cn9) (namesN op x.name ++ [word6 x.name]).length (strsC (namesN op x.name ++ [word6 x.name])) Gn9 := by
          rw [List.length_append, strsC_app]
          exact hGn9
        exact T.backW 0 (by omega) ⟨_, _, _, _, _, _, _, _, _, e, hX8, hGn10, hGa6, hal, fun i a r h1 h2 => (hrow7 i a r h1 h2).mono hX8, rfl, rfl⟩ (by repeat (first | exact Sub.nil | refine Sub.cons rfl ?_))
      by_cases o4 : x.odd = 4
      · have e : oddE x op al0 = .mk op x.num (namesN op x.name) al0 := by simp only [oddE, if_neg o1, if_neg o2, if_neg o3, if_pos o4]
        refine T.seq ?_
        refine T.region ?_
        refine SL.y (op_fieldAddr fa98_2 rfl) rfl rfl ?_
        first | refine SL.y (op_load ty5 rfl (by repeat (first | exact AtO.here | apply AtO.there)) rfl) rfl rfl ?_ | refine SL.y (op_loadX ty5 rfl (by assumption) rfl) rfl rfl ?_
        refine SL.nil ?_
        refine T.block ?_
        refine T.seq ?_
        refine T.region ?_
        first | refine SL.y (op_eqlT rfl rfl (by omega)) rfl rfl ?_ | refine SL.y (op_eqlF rfl rfl (by omega)) rfl rfl ?_ | refine SL.y (op_eql rfl rfl) rfl rfl ?_
        refine SL.y (op_assign rfl) rfl rfl ?_
        refine SL.nil ?_
        refine T.condF rfl ?_
        refine T.seq ?_
        refine T.region ?_
        first | refine SL.y (op_eqlT rfl rfl (by omega)) rfl rfl ?_ | refine SL.y (op_eqlF rfl rfl (by omega)) rfl rfl ?_ | refine SL.y (op_eql rfl rfl) rfl rfl ?_
        refine SL.y (op_assign rfl) rfl rfl ?_
        refine SL.nil ?_
        refine T.condF rfl ?_
        refine T.seq ?_
        refine T.region ?_
        first | refine SL.y (op_eqlT rfl rfl (by omega)) rfl rfl ?_ | refine SL.y (op_eqlF rfl rfl (by omega)) rfl rfl ?_ | refine SL.y (op_eql rfl rfl) rfl rfl ?_
        refine SL.y (op_assign rfl) rfl rfl ?_
        refine SL.nil ?_
        refine T.condF rfl ?_
        refine T.seq ?_
        refine T.region ?_
        first | refine SL.y (op_eqlT rfl rfl (by omega)) rfl rfl ?_ | refine SL.y (op_eqlF rfl rfl (by omega)) rfl rfl ?_ | refine SL.y (op_eql rfl rfl) rfl rfl ?_
        refine SL.y (op_assign rfl) rfl rfl ?_
        refine SL.nil ?_
        refine T.condT rfl ?_
        refine T.region ?_
        refine SL.y (op_fieldAddr fa98_3 rfl) rfl rfl ?_
        first | refine SL.y (op_load ty3 rfl (by repeat (first | exact AtO.here | apply AtO.there)) rfl) rfl rfl ?_ | refine SL.y (op_loadX ty3 rfl (by assumption) rfl) rfl rfl ?_
        refine SL.y (op_fieldAddr fa27_1 rfl) rfl rfl ?_
        refine SL.x (op_store ty3 rfl rfl (by repeat (first | exact AtO.here | apply AtO.there)) rfl rfl rfl) rfl rfl ?_
        rintro _ _ _ ⟨rfl, rfl⟩
        refine SL.nil ?_
        refine T.blk ?_
        -- cut
        exact T.backW 0 (by omega) ⟨_, _, _, _, _, _, _, _, _, e, PMap.le_refl _, hGn5, hGa6, hal, hrow7, rfl, rfl⟩ (by repeat (first | exact Sub.nil | refine Sub.cons rfl ?_))
      by_cases o5 : x.odd = 5
      · have e : oddE x op al0 = .mk op n0 [word20 x.name] al0 := by simp only [oddE, if_neg o1, if_neg o2, if_neg o3, if_neg o4, if_pos o5, hnn]
        refine T.seq ?_
        refine T.region ?_
        refine SL.y (op_fieldAddr fa98_2 rfl) rfl rfl ?_
        first | refine SL.y (op_load ty5 rfl (by repeat (first | exact AtO.here | apply AtO.there)) rfl) rfl rfl ?_ | refine SL.y (op_loadX ty5 rfl (by assumption) rfl) rfl rfl ?_
        refine SL.nil ?_
        refine T.block ?_
        refine T.seq ?_
        refine T.region ?_
        first | refine SL.y (op_eqlT rfl rfl (by omega)) rfl rfl ?_ | refine SL.y (op_eqlF rfl rfl (by omega)) rfl rfl ?_ | refine SL.y (op_eql rfl rfl) rfl rfl ?_
        refine SL.y (op_assign rfl) rfl rfl ?_
        refine SL.nil ?_
        refine T.condF rfl ?_
        refine T.seq ?_
        refine T.region ?_
        first | refine SL.y (op_eqlT rfl rfl (by omega)) rfl rfl ?_ | refine SL.y (op_eqlF rfl rfl (by omega)) rfl rfl ?_ | refine SL.y (op_eql rfl rfl) rfl rfl ?_
        refine SL.y (op_assign rfl) rfl rfl ?_
        refine SL.nil ?_
        refine T.condF rfl ?_
        refine T.seq ?_
        refine T.region ?_
        first | refine SL.y (op_eqlT rfl rfl (by omega)) rfl rfl ?_ | refine SL.y (op_eqlF rfl rfl (by omega)) rfl rfl ?_ | refine SL.y (op_eql rfl rfl) rfl rfl ?_
        refine SL.y (op_assign rfl) rfl rfl ?_
        refine SL.nil ?_
        refine T.condF rfl ?_
        refine T.seq ?_
        refine T.region ?_
        first | refine SL.y (op_eqlT rfl rfl (by omega)) rfl rfl ?_ | refine SL.y (op_eqlF rfl rfl (by omega)) rfl rfl ?_ | refine SL.y (op_eql rfl rfl) rfl rfl ?_
        refine SL.y (op_assign rfl) rfl rfl ?_
        refine SL.nil ?_
        refine T.condF rfl ?_
        refine T.seq ?_
        refine T.region ?_
        first | refine SL.y (op_eqlT rfl rfl (by omega)) rfl rfl ?_ | refine SL.y (op_eqlF rfl rfl (by omega)) rfl rfl ?_ | refine SL.y (op_eql rfl rfl) rfl rfl ?_
        refine SL.y (op_assign rfl) rfl rfl ?_
        refine SL.nil ?_
        refine T.condT rfl ?_
        refine T.region ?_
        refine SL.y (op_fieldAddr fa98_1 rfl) rfl rfl ?_
        first | refine SL.y (op_load ty5 rfl (by repeat (first | exact AtO.here | apply AtO.there)) rfl) rfl rfl ?_ | refine SL.y (op_loadX ty5 rfl (by assumption) rfl) rfl rfl ?_
        -- op
        refine SL.x (op_callF en40 (vs := [_]) rfl (word20_spec g2)) rfl rfl ?_
        rintro _ _ X8 ⟨rfl, hX8, rfl⟩
        refine SL.x (op_buildSlice Tryd.underlying24 bs9 (qs := [(0, _)]) rfl rfl rfl rfl rfl) rfl rfl ?_
        rintro _ _ _ ⟨B113, rfl, rfl, rfl⟩
        refine SL.y (op_fieldAddr fa27_2 rfl) rfl rfl ?_
        refine SL.x (op_store ty24 rfl rfl (by repeat (first | exact AtO.here | apply AtO.there)) rfl rfl rfl) rfl rfl ?_
        rintro _ _ _ ⟨rfl, rfl⟩
        refine SL.nil ?_
        refine T.blk ?_
        -- cut
        refine T.less (own' := _ :: _ :: _ :: _ :: _ :: (Ga6 ++ own0)) (.cons_cons _ (.cons_cons _ (.cons_cons _ (.cons_cons _ (.cons_cons _ (List.sublist_append_right Gn5 (Ga6 ++ own0))))))) ?_
        refine T.perm (List.perm_middle (l₁ := [_, _, _, _])).symm ?_
        exact T.backW 0 (by omega) ⟨_, _, _, _, _, _, _, _, _, e, hX8, grow1 rfl (by omega), hGa6, hal, fun i a r h1 h2 => (hrow7 i a r h1 h2).mono hX8, rfl, rfl⟩ (by repeat (first | exact Sub.nil | refine Sub.cons rfl ?_))
      have e : oddE x op al0 = .mk op n0 (namesN op x.name) al0 := by simp only [oddE, if_neg o1, if_neg o2, if_neg o3, if_neg o4, if_neg o5, hnn]
      refine T.seq ?_
      refine T.region ?_
      refine SL.y (op_fieldAddr fa98_2 rfl) rfl rfl ?_
      first | refine SL.y (op_load ty5 rfl (by repeat (first | exact AtO.here | apply AtO.there)) rfl) rfl rfl ?_ | refine SL.y (op_loadX ty5 rfl (by assumption) rfl) rfl rfl ?_
      refine SL.nil ?_
      refine T.block ?_
      refine T.seq ?_
      refine T.region ?_
      first | refine SL.y (op_eqlT rfl rfl (by omega)) rfl rfl ?_ | refine SL.y (op_eqlF rfl rfl (by omega)) rfl rfl ?_ | refine SL.y (op_eql rfl rfl) rfl rfl ?_
      refine SL.y (op_assign rfl) rfl rfl ?_
      refine SL.nil ?_
      refine T.condF rfl ?_
      refine T.seq ?_
      refine T.region ?_
      first | refine SL.y (op_eqlT rfl rfl (by omega)) rfl rfl ?_ | refine SL.y (op_eqlF rfl rfl (by omega)) rfl rfl ?_ | refine SL.y (op_eql rfl rfl) rfl rfl ?_
      refine SL.y (op_assign rfl) rfl rfl ?_
      refine SL.nil ?_
      refine T.condF rfl ?_
      refine T.seq ?_
      refine T.region ?_
      first | refine SL.y (op_eqlT rfl rfl (by omega)) rfl rfl ?_ | refine SL.y (op_eqlF rfl rfl (by omega)) rfl rfl ?_ | refine SL.y (op_eql rfl rfl) rfl rfl ?_
      refine SL.y (op_assign rfl) rfl rfl ?_
      refine SL.nil ?_
      refine T.condF rfl ?_
      refine T.seq ?_
      refine T.region ?_
      first | refine SL.y (op_eqlT rfl rfl (by omega)) rfl rfl ?_ | refine SL.y (op_eqlF rfl rfl (by omega)) rfl rfl ?_ | refine SL.y (op_eql rfl rfl) rfl rfl ?_
      refine SL.y (op_assign rfl) rfl rfl ?_
      refine SL.nil ?_
      refine T.condF rfl ?_
      refine T.seq ?_
      refine T.region ?_
      first | refine SL.y (op_eqlT rfl rfl (by omega)) rfl rfl ?_ | refine SL.y (op_eqlF rfl rfl (by omega)) rfl rfl ?_ | refine SL.y (op_eql rfl rfl) rfl rfl ?_
      refine SL.y (op_assign rfl) rfl rfl ?_
      refine SL.nil ?_
      refine T.condF rfl ?_
      refine T.skip ?_
      refine T.blk ?_
      -- cut
      exact T.backW 0 (by omega) ⟨_, _, _, _, _, _, _, _, _, e, PMap.le_refl _, hGn5, hGa6, hal, hrow7, rfl, rfl⟩ (by repeat (first | exact Sub.nil | refine Sub.cons rfl ?_))
    rintro _ _ _ X8 ⟨op', n', ns, al, vn, va, Gn, Ga, rs, hodd, hX8, hGn, hGa, hrsl, hrs, rfl, rfl⟩
    obtain ⟨An8, cn8, rfl⟩ := hGn.form
    obtain ⟨Aa8, ca8, rfl⟩ := hGa.form
    refine T.seq ?_
    refine T.region ?_
    first | refine SL.y (op_load ty27 rfl (by repeat (first | exact AtO.here | apply AtO.there)) rfl) rfl rfl ?_ | refine SL.y (op_loadX ty27 rfl (by assumption) rfl) rfl rfl ?_
    refine SL.x (op_store ty27 rfl rfl (by repeat (first | exact AtO.here | apply AtO.there)) rfl rfl rfl) rfl rfl ?_
    rintro _ _ _ ⟨rfl, rfl⟩
    refine SL.nil ?_
    -- ret
    refine T.perm perm4G ?_
    refine T.pubG (own0 := _ :: _ :: _ :: _ :: (Gn ++ own0)) hGa ?_
    intro X9 hX9 hS9
    refine T.perm perm4 ?_
    refine T.pubG (own0 := _ :: _ :: _ :: _ :: own0) hGn ?_
    intro X10 hX10 hS10
    refine T.retM1S [_] _ rfl (ResIs.cell rfl ty27 (by repeat (first | exact AtO.here | apply AtO.there)) rfl) (.cons _ (.cons _ (.cons _ (.refl _)))) (List.Perm.refl _) ?_
    rw [hodd]
    have hN : RowR strC X10 (.slice An8 ns.length cn8) ns := RowR.ofG (by rw [strsC_flat]; exact hGn) (by rw [strsC_flat]; exact hS10)
    have hA : RowR rc4 X10 (.slice Aa8 rs.length ca8) rs := (RowR.ofG hGa hS9).mono hX10
    exact ⟨((((hX1.trans' hX17).trans' hX8).trans' hX9).trans' hX10), (.int .i64 (op' : Int), .int .i64 n', .slice An8 ns.length cn8, .slice Aa8 rs.length ca8), A6, cp6, rfl, .mk hN hA hrsl (fun i a r h1 h2 => ((hrs i a r h1 h2).mono hX9).mono hX10), rfl, (((hb6.mono hX7).mono hX8).mono hX9).mono hX10⟩
/-- Build. -/
theorem built_spec {X : PMap} {v : Value} {l : List Nd} (h : RowR ndC X v l) (hok : ∀ x ∈ l, ndOk x) : Spec Tryd.prog 12 [v] X fun u X' => ∃ r : Row4, u = .agg #[r.1, r.2.1, r.2.2.1, r.2.2.2] ∧ ExR .i64 X' (builtE l) r := by
  obtain ⟨A, cp, rfl⟩ := h.form
  have hok2 : ∀ x ∈ l.take 60, ndOk x := fun x hx => hok x (List.mem_of_mem_take hx)
  by_cases hc : 60 < l.length
  · have ht := h.take (sz := 4) (k := 60) (by omega)
    have hcap := h.cap (by omega)
    have e60 : (l.take 60).length = 60 := by rw [List.length_take]; omega
    have hb := fun (b : Nat) => build_spec 11 (b := b) (A := slA A cp 0 4) (cp := cp) (l := l.take 60) (by rw [e60]; exact ht) hok2 (by omega)
    rw [e60] at hb
    refine Spec.enter Tryd.func12 rfl Tryd.ntmps12 rfl ?_
    intro w0 hw0
    refine T.seq ?_
    refine T.region ?_
    refine SL.x (op_alloc z27) rfl rfl ?_
    rintro _ _ _ ⟨B2, rfl, rfl, rfl⟩
    refine SL.nil ?_
    refine T.seq ?_
    refine T.seq ?_
    refine T.region ?_
    refine SL.y (op_move rfl) rfl rfl ?_
    refine SL.y (op_lenS Tryd.underlying22 rfl) rfl rfl ?_
    first | refine SL.y (op_gtrT rfl rfl (by omega)) rfl rfl ?_ | refine SL.y (op_gtrF rfl rfl (by omega)) rfl rfl ?_ | refine SL.y (op_gtr rfl rfl) rfl rfl ?_
    refine SL.nil ?_
    refine T.condT rfl ?_
    refine T.region ?_
    refine SL.y (op_move rfl) rfl rfl ?_
    -- to 8: op
    refine SL.y (op_sliceHi (l := 60) Tryd.underlying22 ty98 rfl rfl (by omega)) rfl rfl ?_
    refine SL.y (op_assign rfl) rfl rfl ?_
    refine SL.nil ?_
    refine T.seq ?_
    refine T.region ?_
    refine SL.y (op_move rfl) rfl rfl ?_
    refine SL.y (op_build st72 (qs := [(0, _)]) rfl rfl) rfl rfl ?_
    refine SL.x (op_box rfl) rfl rfl ?_
    rintro _ _ _ ⟨B11, rfl, rfl, rfl⟩
    refine SL.y (op_assign rfl) rfl rfl ?_
    refine SL.nil ?_
    refine T.seq ?_
    refine T.region ?_
    refine SL.y (op_move rfl) rfl rfl ?_
    -- op
    refine SL.x (op_callM en37 (vs := [_, _]) rfl (hb _) rfl) rfl rfl ?_
    rintro _ _ X1 ⟨_, rfl, hX1, r, A1, cp1, rfl, hr, rfl, _⟩
    obtain ⟨_, _, _, _, _, _, _, _, rfl⟩ := hr.form
    refine SL.x (op_store ty27 rfl rfl (by repeat (first | exact AtO.here | apply AtO.there)) rfl rfl rfl) rfl rfl ?_
    rintro _ _ _ ⟨rfl, rfl⟩
    refine SL.nil ?_
    -- ret
    refine T.ret1 rfl (ResIs.cell rfl ty27 (by repeat (first | exact AtO.here | apply AtO.there)) rfl) ?_
    exact ⟨_, rfl, hr⟩
  · have hb := fun (b : Nat) => build_spec 11 (b := b) h hok (by omega)
    have e : l.take 60 = l := List.take_of_length_le (by omega)
    refine Spec.enter Tryd.func12 rfl Tryd.ntmps12 rfl ?_
    intro w0 hw0
    refine T.seq ?_
    refine T.region ?_
    refine SL.x (op_alloc z27) rfl rfl ?_
    rintro _ _ _ ⟨B2, rfl, rfl, rfl⟩
    refine SL.nil ?_
    refine T.seq ?_
    refine T.seq ?_
    refine T.region ?_
    refine SL.y (op_move rfl) rfl rfl ?_
    refine SL.y (op_lenS Tryd.underlying22 rfl) rfl rfl ?_
    first | refine SL.y (op_gtrT rfl rfl (by omega)) rfl rfl ?_ | refine SL.y (op_gtrF rfl rfl (by omega)) rfl rfl ?_ | refine SL.y (op_gtr rfl rfl) rfl rfl ?_
    refine SL.nil ?_
    refine T.condF rfl ?_
    refine T.skip ?_
    refine T.seq ?_
    refine T.region ?_
    refine SL.y (op_move rfl) rfl rfl ?_
    refine SL.y (op_build st72 (qs := [(0, _)]) rfl rfl) rfl rfl ?_
    refine SL.x (op_box rfl) rfl rfl ?_
    rintro _ _ _ ⟨B11, rfl, rfl, rfl⟩
    refine SL.y (op_assign rfl) rfl rfl ?_
    refine SL.nil ?_
    refine T.seq ?_
    refine T.region ?_
    refine SL.y (op_move rfl) rfl rfl ?_
    -- op
    refine SL.x (op_callM en37 (vs := [_, _]) rfl (hb _) rfl) rfl rfl ?_
    rintro _ _ X1 ⟨_, rfl, hX1, r, A1, cp1, rfl, hr, rfl, _⟩
    obtain ⟨_, _, _, _, _, _, _, _, rfl⟩ := hr.form
    refine SL.x (op_store ty27 rfl rfl (by repeat (first | exact AtO.here | apply AtO.there)) rfl rfl rfl) rfl rfl ?_
    rintro _ _ _ ⟨rfl, rfl⟩
    refine SL.nil ?_
    -- ret
    refine T.ret1 rfl (ResIs.cell rfl ty27 (by repeat (first | exact AtO.here | apply AtO.there)) rfl) ?_
    exact ⟨_, rfl, by rw [builtE, e]; exact hr⟩
end Go.Proofs.YtaooojjhlngcmaaDoor
