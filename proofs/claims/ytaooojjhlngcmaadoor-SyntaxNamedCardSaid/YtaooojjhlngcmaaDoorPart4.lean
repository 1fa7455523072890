/- What the law's proof rests on: the engine, a small separation logic over the kit's walk, and contracts of the functions that the law reaches. Part 4. -/
import Derived.Test.YtaooojjhlngcmaaDoorChecked
import Derived.Shelf.Sort.AssemblysIn
import Derived.Shelf.Strconv.Itoa3
import Derived.Sort.EveryDepth
import Derived.Laws.Externs
import Derived.MapKept
import Derived.Test.YtaooojjhlngcmaaDoorPart1
import Derived.Test.YtaooojjhlngcmaaDoorPart2
import Derived.Test.YtaooojjhlngcmaaDoorPart3
namespace Go.Proofs.YtaooojjhlngcmaaDoor
section
set_option maxRecDepth 100000
theorem bs61 : ∃ i z, Tryd.prog.info? 61 = some i ∧ i.size = 7 ∧ i.zero = some z ∧ z.cells = ([.bool false, .int .u8 0, .string ⟨#[]⟩, .int .u8 0, .int .i64 0, .slice none 0 0, .slice none 0 0] : List Value).toArray := bs_of (by kernel_rfl)
theorem en26 : Enters Tryd.prog 26 := enters_mk Tryd.func26 (by kernel_rfl) rfl
theorem en29 : Enters Tryd.prog 29 := enters_mk Tryd.func29 (by kernel_rfl) rfl
theorem en30 : Enters Tryd.prog 30 := enters_mk Tryd.func30 (by kernel_rfl) rfl
theorem en36 : Enters Tryd.prog 36 := enters_mk Tryd.func36 (by kernel_rfl) rfl
theorem st61 : StT Tryd.prog 61 [(0, 1), (1, 1), (2, 1), (3, 4)] [.bool false, .int .u8 0, .string ⟨#[]⟩, .int .u8 0, .int .i64 0, .slice none 0 0, .slice none 0 0] := ⟨⟨_, Tryd.underlying61, fun _ => by kernel_rfl, z61⟩⟩
end
open Go.RowKit
theorem itoa10 {X : PMap} (v : Nat) (h : v < 10) : Spec Tryd.prog 82 [.int .i64 (v : Int)] X fun u _ => u = .string (decB v) := by
  have := itoa_spec (X := X) v h
  have e : decB v = ⟨#[UInt8.ofNat (48 + v)]⟩ := by rw [decB, decG, if_pos h]
  rwa [← e] at this
def leafE (s : ByteArray) : Ex := .mk 4 0 [s] []
theorem leaf_spec {X : PMap} {s : ByteArray} : Spec Tryd.prog 29 [.string s] X fun u X' => ∃ r : Row4, u = .agg #[r.1, r.2.1, r.2.2.1, r.2.2.2] ∧ ExR .u8 X' (leafE s) r := by
  refine Spec.enter Tryd.func29 rfl Tryd.ntmps29 rfl ?_
  intro w0 hw0
  refine T.seq ?_
  refine T.region ?_
  refine SL.x (op_alloc z34) rfl rfl ?_
  rintro _ _ _ ⟨B2, rfl, rfl, rfl⟩
  refine SL.nil ?_
  refine T.seq ?_
  refine T.region ?_
  refine SL.y (op_move rfl) rfl rfl ?_
  refine SL.x (op_buildSlice Tryd.underlying24 bs9 (qs := [(0, _)]) rfl rfl rfl rfl rfl) rfl rfl ?_
  rintro _ _ _ ⟨B4, rfl, rfl, rfl⟩
  refine SL.y (op_build st34 (qs := [(0, _), (2, _)]) rfl rfl) rfl rfl ?_
  refine SL.x (op_store ty34 rfl rfl (by repeat constructor) rfl rfl rfl) rfl rfl ?_
  rintro _ _ _ ⟨rfl, rfl⟩
  refine SL.nil ?_
  refine T.pub B4 (by repeat constructor) ?_
  intro X1 hX1 hB4 _
  refine T.ret1 rfl (ResIs.cell rfl ty34 (by repeat constructor) rfl) ?_
  exact ⟨(.int .u8 ((4 : Nat) : Int), .int .i64 0, .slice (some ⟨B4, 0, none⟩) 1 1, .slice none 0 0), rfl, .mk (rows := []) (.inr ⟨by simp, B4, 1, [], rfl, hB4, by simp, by decide⟩) (.inl ⟨rfl, _, _, rfl⟩) rfl (fun i a r h => by simp at h)⟩
theorem pair_spec {X : PMap} {op : Nat} {a b : Ex} {ra rb : Row4} (ha : ExR .u8 X a ra) (hb : ExR .u8 X b rb) : Spec Tryd.prog 30 [.int .u8 (op : Int), .agg #[ra.1, ra.2.1, ra.2.2.1, ra.2.2.2], .agg #[rb.1, rb.2.1, rb.2.2.1, rb.2.2.2]] X fun u X' => ∃ r : Row4, u = .agg #[r.1, r.2.1, r.2.2.1, r.2.2.2] ∧ ExR .u8 X' (.mk op 0 [] [a, b]) r := by
  obtain ⟨o1, n1, a1, b1, l1, c1, l2, c2, rfl⟩ := ha.form
  obtain ⟨o3, n3, a3, b3, l3, c3, l4, c4, rfl⟩ := hb.form
  refine Spec.enter Tryd.func30 rfl Tryd.ntmps30 rfl ?_
  intro w0 hw0
  refine T.seq ?_
  refine T.region ?_
  refine SL.x (op_box rfl) rfl rfl ?_
  rintro _ _ _ ⟨B4, rfl, rfl, rfl⟩
  refine SL.x (op_box rfl) rfl rfl ?_
  rintro _ _ _ ⟨B5, rfl, rfl, rfl⟩
  refine SL.x (op_alloc z34) rfl rfl ?_
  rintro _ _ _ ⟨B6, rfl, rfl, rfl⟩
  refine SL.nil ?_
  refine T.seq ?_
  refine T.region ?_
  refine SL.y (op_move rfl) rfl rfl ?_
  first | refine SL.y (op_load ty34 rfl (by repeat constructor) rfl) rfl rfl ?_ | refine SL.y (op_loadX ty34 rfl (by assumption) rfl) rfl rfl ?_
  first | refine SL.y (op_load ty34 rfl (by repeat constructor) rfl) rfl rfl ?_ | refine SL.y (op_loadX ty34 rfl (by assumption) rfl) rfl rfl ?_
  refine SL.x (op_buildSlice Tryd.underlying32 bs34 (qs := [(0, _), (1, _)]) rfl rfl rfl rfl rfl) rfl rfl ?_
  rintro _ _ _ ⟨B10, rfl, rfl, rfl⟩
  refine SL.y (op_build st34 (qs := [(0, _), (3, _)]) rfl rfl) rfl rfl ?_
  refine SL.x (op_store ty34 rfl rfl (by repeat constructor) rfl rfl rfl) rfl rfl ?_
  rintro _ _ _ ⟨rfl, rfl⟩
  refine SL.nil ?_
  refine T.pub B10 (by repeat constructor) ?_
  intro X1 hX1 hB10 _
  refine T.ret1 rfl (ResIs.cell rfl ty34 (by repeat constructor) rfl) ?_
  refine ⟨(.int .u8 (op : Int), .int .i64 0, .slice none 0 0, .slice (some ⟨B10, 0, none⟩) 2 2), rfl, .mk (rows := [(.int .u8 (o1 : Int), .int .i64 n1, .slice a1 l1 c1, .slice b1 l2 c2), (.int .u8 (o3 : Int), .int .i64 n3, .slice a3 l3 c3, .slice b3 l4 c4)]) (.inl ⟨rfl, _, _, rfl⟩) (.inr ⟨by simp, B10, 2, [], rfl, hB10, by simp, by decide⟩) rfl (fun i x r h h' => ?_)⟩
  match i, h, h' with
  | 0, h, h' => cases h; cases h'; exact ha.mono hX1
  | 1, h, h' => cases h; cases h'; exact hb.mono hX1
theorem valid_of {s : ByteArray} (h1 : s.size ≠ 0) (h2 : s.size ≤ 12) (h3 : s ∉ keyws) (h4 : (List.range s.size).all (fun k => match s[k]? with | some b => innB b && (k != 0 || letB b) | none => true) = true) : validS s := by
  refine ⟨h1, h2, h3, fun k b _ hb => ?_⟩
  have hk : k < s.size := by
    rcases Nat.lt_or_ge k s.size with h | h
    · exact h
    · rw [ByteArray.getElem?_ge' s k (by omega)] at hb; cases hb
  have := List.all_eq_true.1 h4 k (List.mem_range.2 hk)
  rw [hb] at this
  simp only [Bool.and_eq_true, Bool.or_eq_true, bne_iff_ne, ne_eq] at this
  exact ⟨this.1, fun h0 => this.2.resolve_left fun h => h h0⟩
theorem valA : validS ⟨#[97]⟩ := valid_of (by decide) (by decide) (by simp [keyws]) (by decide)
theorem valB : validS ⟨#[98]⟩ := valid_of (by decide) (by decide) (by simp [keyws]) (by decide)
theorem valC : validS ⟨#[99]⟩ := valid_of (by decide) (by decide) (by simp [keyws]) (by decide)
theorem valSod : validS ⟨#[115, 111, 100]⟩ := valid_of (by decide) (by decide) (by simp [keyws]) (by decide)
theorem node_of {op : Nat} {n : Int} {ns : List ByteArray} {al : List Ex} (h1 : ¬(op < 1 ∨ 16 < op ∨ al.length ≠ argN op)) (h2 : ¬((n ≠ 0 ∧ op ≠ 1) ∨ ¬namN op ns.length)) (h3 : ∀ s ∈ ns, validS s) (h4 : ns.Nodup) (h5 : ¬(n < 0 ∨ 999999 < n)) (h6 : nodeL al = 0) : nodeE (.mk op n ns al) = 0 := by
  rw [node_args (own0' h1 h2 h3 h4 h5), h6]
theorem nodeL_of {al : List Ex} (h : ∀ a ∈ al, nodeE a = 0) : nodeL al = 0 := by
  induction al with
  | nil => rfl
  | cons a al ih => rw [nodeL, if_neg (fun hh => hh (h a (by simp))), ih fun x hx => h x (by simp [hx])]
theorem leaf_node {s : ByteArray} (h : validS s) : nodeE (leafE s) = 0 := node_of (by decide) (fun h => h.elim (fun h => h.1 rfl) (fun h => h (show namN 4 1 by decide))) (fun t ht => by rw [List.mem_singleton.1 ht]; exact h) (by simp) (by decide) rfl
theorem two_node {op : Nat} {a b : Ex} (h1 : 8 ≤ op) (h2 : op ≤ 16) (ha : nodeE a = 0) (hb : nodeE b = 0) : nodeE (.mk op 0 [] [a, b]) = 0 := by
  refine node_of ?_ ?_ (fun t ht => by cases ht) (by simp) (by decide) (nodeL_of fun x hx => ?_)
  · have : argN op = 2 := by unfold argN; rw [if_neg (by omega), if_neg (by omega)]
    simp only [List.length_cons, List.length_nil]; omega
  · rintro (⟨h, _⟩ | h)
    · exact h rfl
    · refine h ?_
      unfold namN
      rw [if_neg (by omega), if_neg (by omega)]; rfl
  · rcases List.mem_cons.1 hx with rfl | hx
    · exact ha
    · rw [List.mem_singleton.1 hx]; exact hb
def lA : Ex := leafE ⟨#[97]⟩
def lB : Ex := leafE ⟨#[98]⟩
def lC : Ex := leafE ⟨#[99]⟩
def eNot : Ex := .mk 7 0 [] [.mk 8 0 [] [lA, lB]]
def eLe : Ex := .mk 11 0 [] [.mk 5 0 [⟨#[97]⟩, ⟨#[98]⟩] [], .mk 1 1 [] []]
theorem chk_of {e : Ex} (h1 : decide (depE e ≤ 10 ∧ sizE e ≤ 200) = true) (h2 : nodeE e = 0) : chkE e = 0 := by
  have := of_decide_eq_true h1
  rw [chkE, if_neg (by omega), h2]
theorem chk1 : chkE (.mk 8 0 [] [lA, .mk 8 0 [] [lB, lC]]) = 0 := chk_of (by kernel_rfl) (two_node (by decide) (by decide) (leaf_node valA) (two_node (by decide) (by decide) (leaf_node valB) (leaf_node valC)))
theorem chk2 : chkE (.mk 10 0 [] [lA, .mk 10 0 [] [lB, lC]]) = 0 := chk_of (by kernel_rfl) (two_node (by decide) (by decide) (leaf_node valA) (two_node (by decide) (by decide) (leaf_node valB) (leaf_node valC)))
theorem chk3 : chkE eNot = 0 := chk_of (by kernel_rfl) (node_of (by decide) (by decide) (fun t ht => by cases ht) (by simp) (by decide) (nodeL_of fun x hx => by rw [List.mem_singleton.1 hx]; exact two_node (by decide) (by decide) (leaf_node valA) (leaf_node valB)))
theorem chk4 : chkE eLe = 0 := chk_of (by kernel_rfl) (two_node (by decide) (by decide) (node_of (by decide) (by decide) (fun t ht => by
  rcases List.mem_cons.1 ht with rfl | ht
  · exact valA
  · rw [List.mem_singleton.1 ht]; exact valB) (by simp) (by decide) rfl) (node_of (by decide) (by decide) (fun t ht => by cases ht) (by simp) (by decide) rfl))
def cSod : Con := ⟨true, 1, ⟨#[115, 111, 100]⟩, eLe⟩
theorem chk5 : chkAll [cSod] = 0 := by
  have e : errC [] cSod = 0 := by
    rw [errC, if_neg (by decide), if_neg (fun h => h valSod), if_neg (by simp), show cSod.ex = eLe from rfl, chk4]
  have e2 : chkCs [] [cSod] = 0 := by rw [chkCs, if_neg (fun h => h e), chkCs]
  rw [chkAll, if_neg (by decide), if_neg (fun h => h e2), if_neg (of_decide_eq_true (by kernel_rfl))]
theorem num10 {e : Ex} (h : e = .mk 8 0 [] [lA, .mk 8 0 [] [lB, lC]] ∨ e = .mk 10 0 [] [lA, .mk 10 0 [] [lB, lC]] ∨ e = eNot ∨ e = eLe) : numE 10 e := by
  rcases h with rfl | rfl | rfl | rfl <;> simp [numE, numL, eNot, eLe, lA, lB, lC, leafE]
theorem tx1 : textE (.mk 8 0 [] [lA, .mk 8 0 [] [lB, lC]]) = ⟨#[97, 32, 97, 110, 100, 32, 40, 98, 32, 97, 110, 100, 32, 99, 41]⟩ := by kernel_rfl
theorem tx2 : textE (.mk 10 0 [] [lA, .mk 10 0 [] [lB, lC]]) = ⟨#[97, 32, 45, 62, 32, 98, 32, 45, 62, 32, 99]⟩ := by kernel_rfl
theorem tx3 : textE eNot = ⟨#[110, 111, 116, 32, 40, 97, 32, 97, 110, 100, 32, 98, 41]⟩ := by kernel_rfl
theorem tx4 : (⟨(linesL [cSod]).toArray⟩ : ByteArray) = ⟨#[101, 110, 102, 111, 114, 99, 101, 32, 115, 116, 97, 116, 105, 99, 32, 115, 111, 100, 58, 32, 99, 111, 117, 110, 116, 40, 97, 44, 32, 98, 41, 32, 60, 61, 32, 49, 59, 10]⟩ := by kernel_rfl
theorem awake16_spec {X : PMap} : Spec Tryd.prog 11 [] X fun u _ => u = .bool true := by
  have hI : ∀ {X : PMap}, ItoaOk 10 X := fun _ _ v h => itoa10 v h
  refine Spec.enter Tryd.func11 rfl Tryd.ntmps11 rfl ?_
  intro w0 hw0
  refine T.seq ?_
  refine T.region ?_
  refine SL.y (op_assign rfl) rfl rfl ?_
  refine SL.nil ?_
  refine T.seq ?_
  refine T.region ?_
  refine SL.x (op_callF en29 (vs := [_]) rfl (leaf_spec (s := ⟨#[97]⟩))) rfl rfl ?_
  rintro _ _ X1 ⟨rfl, hX1, rA, rfl, hA⟩
  refine SL.x (op_callF en29 (vs := [_]) rfl (leaf_spec (s := ⟨#[98]⟩))) rfl rfl ?_
  rintro _ _ X2 ⟨rfl, hX2, rB, rfl, hB⟩
  refine SL.x (op_callF en29 (vs := [_]) rfl (leaf_spec (s := ⟨#[99]⟩))) rfl rfl ?_
  rintro _ _ X3 ⟨rfl, hX3, rC, rfl, hC⟩
  have hA := (hA.mono hX2).mono hX3
  have hB := hB.mono hX3
  obtain ⟨oa, na, aa, ba, la, ca, la2, ca2, rfl⟩ := hA.form
  obtain ⟨ob, nb, ab, bb, lb, cb, lb2, cb2, rfl⟩ := hB.form
  obtain ⟨oc, nc, ac, bc, lc, cc, lc2, cc2, rfl⟩ := hC.form
  refine SL.x (op_alloc z34) rfl rfl ?_
  rintro _ _ _ ⟨B1, rfl, rfl, rfl⟩
  refine SL.x (op_alloc z34) rfl rfl ?_
  rintro _ _ _ ⟨B2, rfl, rfl, rfl⟩
  refine SL.x (op_alloc z34) rfl rfl ?_
  rintro _ _ _ ⟨B3, rfl, rfl, rfl⟩
  refine SL.x (op_store ty34 rfl rfl (by repeat constructor) rfl rfl rfl) rfl rfl ?_
  rintro _ _ _ ⟨rfl, rfl⟩
  refine SL.x (op_store ty34 rfl rfl (by repeat constructor) rfl rfl rfl) rfl rfl ?_
  rintro _ _ _ ⟨rfl, rfl⟩
  refine SL.x (op_store ty34 rfl rfl (by repeat constructor) rfl rfl rfl) rfl rfl ?_
  rintro _ _ _ ⟨rfl, rfl⟩
  refine SL.nil ?_
  refine T.seq ?_
  refine T.region ?_
  first | refine SL.y (op_load ty34 rfl (by repeat constructor) rfl) rfl rfl ?_ | refine SL.y (op_loadX ty34 rfl (by assumption) rfl) rfl rfl ?_
  first | refine SL.y (op_load ty34 rfl (by repeat constructor) rfl) rfl rfl ?_ | refine SL.y (op_loadX ty34 rfl (by assumption) rfl) rfl rfl ?_
  refine SL.x (op_callF en30 (vs := [_, _, _]) rfl (pair_spec (op := 8) hA hB)) rfl rfl ?_
  rintro _ _ X4 ⟨rfl, hX4, rP, rfl, hP⟩
  obtain ⟨op, np, ap, bp, lp, cp, lp2, cp2, rfl⟩ := hP.form
  refine SL.x (op_buildSlice Tryd.underlying32 bs34 (qs := [(0, _)]) rfl rfl rfl rfl rfl) rfl rfl ?_
  rintro _ _ _ ⟨B12, rfl, rfl, rfl⟩
  refine SL.y (op_build st34 (qs := [(0, _), (3, _)]) rfl rfl) rfl rfl ?_
  refine SL.x (op_alloc z34) rfl rfl ?_
  rintro _ _ _ ⟨B4, rfl, rfl, rfl⟩
  refine SL.x (op_store ty34 rfl rfl (by repeat constructor) rfl rfl rfl) rfl rfl ?_
  rintro _ _ _ ⟨rfl, rfl⟩
  refine SL.nil ?_
  refine T.seq ?_
  refine T.region ?_
  refine SL.x (op_buildSlice Tryd.underlying24 bs9 (qs := [(0, _), (1, _)]) rfl rfl rfl rfl rfl) rfl rfl ?_
  rintro _ _ _ ⟨B14, rfl, rfl, rfl⟩
  refine SL.y (op_build st34 (qs := [(0, _), (2, _)]) rfl rfl) rfl rfl ?_
  refine SL.y (op_build st34 (qs := [(0, _), (1, _)]) rfl rfl) rfl rfl ?_
  refine T.pubAt B12 (by repeat constructor) ?_
  intro X5 hX5 hB12 _
  refine T.pubAt B14 (by repeat constructor) ?_
  intro X6 hX6 hB14 _
  have hNot : ExR .u8 X6 eNot (.int .u8 ((7 : Nat) : Int), .int .i64 0, .slice none 0 0, .slice (some ⟨B12, 0, none⟩) 1 1) := .mk (rows := [(.int .u8 (op : Int), .int .i64 np, .slice ap lp cp, .slice bp lp2 cp2)]) (.inl ⟨rfl, _, _, rfl⟩) (.inr ⟨by simp, B12, 1, [], rfl, hB12.mono hX6, by simp, by decide⟩) rfl (fun i x r h h' => by
    match i, h, h' with
    | 0, h, h' => cases h; cases h'; exact (hP.mono hX5).mono hX6)
  have hCnt : ExR .u8 X6 (.mk 5 0 [⟨#[97]⟩, ⟨#[98]⟩] []) (.int .u8 ((5 : Nat) : Int), .int .i64 0, .slice (some ⟨B14, 0, none⟩) 2 2, .slice none 0 0) := .mk (rows := []) (.inr ⟨by simp, B14, 2, [], rfl, hB14, by simp, by decide⟩) (.inl ⟨rfl, _, _, rfl⟩) rfl (fun i a r h => by simp at h)
  have hNum : ExR .u8 X6 (.mk 1 1 [] []) (.int .u8 ((1 : Nat) : Int), .int .i64 1, .slice none 0 0, .slice none 0 0) := .mk (rows := []) (.inl ⟨rfl, _, _, rfl⟩) (.inl ⟨rfl, _, _, rfl⟩) rfl (fun i a r h => by simp at h)
  have hcall := pair_spec (op := 11) hCnt hNum
  simp only at hcall
  refine SL.x (op_callF en30 (vs := [_, _, _]) rfl (hcall)) rfl rfl ?_
  rintro _ _ X7 ⟨rfl, hX7, rL, rfl, hL⟩
  obtain ⟨ol, nl, al, bl, ll, cl, ll2, cl2, rfl⟩ := hL.form
  have hX47 := ((hX4.trans' hX5).trans' hX6).trans' hX7
  have hA := hA.mono hX47
  have hB := hB.mono hX47
  have hC := hC.mono hX47
  refine SL.x (op_alloc z34) rfl rfl ?_
  rintro _ _ _ ⟨B5, rfl, rfl, rfl⟩
  refine SL.x (op_store ty34 rfl rfl (by repeat constructor) rfl rfl rfl) rfl rfl ?_
  rintro _ _ _ ⟨rfl, rfl⟩
  refine SL.nil ?_
  refine T.seq ?_
  refine T.draw (by kernel_rfl) 34 [.t 0, .t 1, .t 2, .r 3, .r 4, .r 5, .t 6, .t 7, .t 8, .t 9, .t 10, .r 11, .r 12, .r 13, .t 14, .t 15, .t 16, .t 17, .r 18, .t 19, .t 20, .t 21, .t 22, .t 23, .r 24, .r 25, .t 26, .t 27, .t 28, .t 29, .r 30, .t 31, .t 32, .t 33] (by kernel_rfl) ?_
  first | refine SD.take rfl panicBody (op_load ty34 rfl (by repeat constructor) rfl) rfl rfl ?_ | refine SD.take rfl panicBody (op_loadX ty34 rfl (by assumption) rfl) rfl rfl ?_
  first | refine SD.take rfl panicBody (op_load ty34 rfl (by repeat constructor) rfl) rfl rfl ?_ | refine SD.take rfl panicBody (op_loadX ty34 rfl (by assumption) rfl) rfl rfl ?_
  first | refine SD.take rfl panicBody (op_load ty34 rfl (by repeat constructor) rfl) rfl rfl ?_ | refine SD.take rfl panicBody (op_loadX ty34 rfl (by assumption) rfl) rfl rfl ?_
  have hc1 := pair_spec (op := 8) hB hC
  try simp only at hc1
  refine SD.run rfl (op_callF en30 (vs := [_, _, _]) rfl (hc1)) rfl rfl ?_
  rintro _ _ X8 ⟨rfl, hX8, r8, rfl, h8⟩
  obtain ⟨o8, n8, a8, b8, l8, c8, m8, d8, rfl⟩ := h8.form
  have hc2 := pair_spec (op := 8) (hA.mono hX8) h8
  try simp only at hc2
  refine SD.run rfl (op_callF en30 (vs := [_, _, _]) rfl (hc2)) rfl rfl ?_
  rintro _ _ X9 ⟨rfl, hX9, r9, rfl, h9⟩
  obtain ⟨o9, n9, a9, b9, l9, c9, m9, d9, rfl⟩ := h9.form
  have hc3 := eprint_spec hI (of_decide_eq_true (by kernel_rfl)) (fun _ => num10 (.inl rfl)) h9
  try simp only at hc3
  refine SD.run rfl (op_callF en26 (vs := [_]) rfl (hc3)) rfl rfl ?_
  rintro _ _ X10 ⟨rfl, hX10, rfl⟩
  rw [if_pos chk1, tx1]
  refine SD.take rfl panicBody (op_eqlStrD rfl rfl) rfl rfl ?_
  rw [decide_eq_true rfl]
  have hX7A := (hX8.trans' hX9).trans' hX10
  refine SD.take rfl panicBody (op_move rfl) rfl rfl ?_
  first | refine SD.skip rfl panicBody rfl rfl ?_ | refine SD.take rfl panicBody (op_load ty34 rfl (by repeat constructor) rfl) rfl rfl ?_ | refine SD.take rfl panicBody (op_loadX ty34 rfl (by assumption) rfl) rfl rfl ?_
  first | refine SD.skip rfl panicBody rfl rfl ?_ | refine SD.take rfl panicBody (op_load ty34 rfl (by repeat constructor) rfl) rfl rfl ?_ | refine SD.take rfl panicBody (op_loadX ty34 rfl (by assumption) rfl) rfl rfl ?_
  first | refine SD.skip rfl panicBody rfl rfl ?_ | refine SD.take rfl panicBody (op_load ty34 rfl (by repeat constructor) rfl) rfl rfl ?_ | refine SD.take rfl panicBody (op_loadX ty34 rfl (by assumption) rfl) rfl rfl ?_
  have hc4 := pair_spec (op := 10) (hB.mono hX7A) (hC.mono hX7A)
  try simp only at hc4
  refine SD.run rfl (op_callF en30 (vs := [_, _, _]) rfl (hc4)) rfl rfl ?_
  rintro _ _ X11 ⟨rfl, hX11, r11, rfl, h11⟩
  obtain ⟨o11, n11, a11, b11, l11, c11, m11, d11, rfl⟩ := h11.form
  have hc5 := pair_spec (op := 10) ((hA.mono hX7A).mono hX11) h11
  try simp only at hc5
  refine SD.run rfl (op_callF en30 (vs := [_, _, _]) rfl (hc5)) rfl rfl ?_
  rintro _ _ X12 ⟨rfl, hX12, r12, rfl, h12⟩
  obtain ⟨o12, n12, a12, b12, l12, c12, m12, d12, rfl⟩ := h12.form
  have hc6 := eprint_spec hI (of_decide_eq_true (by kernel_rfl)) (fun _ => num10 (.inr (.inl rfl))) h12
  try simp only at hc6
  refine SD.run rfl (op_callF en26 (vs := [_]) rfl (hc6)) rfl rfl ?_
  rintro _ _ X13 ⟨rfl, hX13, rfl⟩
  rw [if_pos chk2, tx2]
  first | refine SD.skip rfl panicBody rfl rfl ?_ | refine SD.take rfl panicBody (op_eqlStrD rfl rfl) rfl rfl ?_
  rw [decide_eq_true rfl]
  have hX713 := ((hX7A.trans' hX11).trans' hX12).trans' hX13
  have hNot2 := (hNot.mono hX7).mono hX713
  first | refine SD.take rfl panicBody (op_pickT rfl rfl) rfl rfl ?_ | refine SD.take rfl panicBody (op_pickF rfl rfl) rfl rfl ?_ | refine SD.take rfl panicBody (op_pickB rfl rfl rfl) rfl rfl ?_
  refine SD.take rfl panicBody (op_move rfl) rfl rfl ?_
  first | refine SD.skip rfl panicBody rfl rfl ?_ | refine SD.take rfl panicBody (op_load ty34 rfl (by repeat constructor) rfl) rfl rfl ?_ | refine SD.take rfl panicBody (op_loadX ty34 rfl (by assumption) rfl) rfl rfl ?_
  have hc7 := eprint_spec hI (of_decide_eq_true (by kernel_rfl)) (fun _ => num10 (.inr (.inr (.inl rfl)))) hNot2
  try simp only at hc7
  refine SD.run rfl (op_callF en26 (vs := [_]) rfl (hc7)) rfl rfl ?_
  rintro _ _ X14 ⟨rfl, hX14, rfl⟩
  rw [if_pos chk3, tx3]
  first | refine SD.skip rfl panicBody rfl rfl ?_ | refine SD.take rfl panicBody (op_eqlStrD rfl rfl) rfl rfl ?_
  rw [decide_eq_true rfl]
  first | refine SD.take rfl panicBody (op_pickT rfl rfl) rfl rfl ?_ | refine SD.take rfl panicBody (op_pickF rfl rfl) rfl rfl ?_ | refine SD.take rfl panicBody (op_pickB rfl rfl rfl) rfl rfl ?_
  refine SD.take rfl panicBody (op_move rfl) rfl rfl ?_
  first | refine SD.skip rfl panicBody rfl rfl ?_ | refine SD.take rfl panicBody (op_load ty34 rfl (by repeat constructor) rfl) rfl rfl ?_ | refine SD.take rfl panicBody (op_loadX ty34 rfl (by assumption) rfl) rfl rfl ?_
  first | refine SD.skip rfl panicBody rfl rfl ?_ | refine SD.take rfl panicBody (op_build st61 (qs := [(0, _), (1, _), (2, _), (3, _)]) rfl rfl) rfl rfl ?_
  refine SD.run rfl (op_buildSlice Tryd.underlying42 bs61 (qs := [(0, _)]) rfl rfl rfl rfl rfl) rfl rfl ?_
  rintro _ _ _ ⟨B42, rfl, rfl, rfl⟩
  refine SD.pub B42 (by repeat constructor) ?_
  intro X15 hX15 hB42 _
  have hCs : ConsR X15 (.slice (some ⟨B42, 0, none⟩) 1 1) [cSod] := ⟨[(true, 1, ⟨#[115, 111, 100]⟩, .int .u8 (ol : Int), .int .i64 nl, .slice al ll cl, .slice bl ll2 cl2)], .inr ⟨by simp, B42, 1, [], rfl, hB42, by simp, by decide⟩, rfl, fun i x r h h' => by
    match i, h, h' with
    | 0, h, h' => cases h; cases h'; exact ⟨rfl, rfl, rfl, ((hL.mono hX713).mono hX14).mono hX15⟩⟩
  have hc8 := cprint_spec hI hCs (by simp) (by simp) (of_decide_eq_true (by kernel_rfl)) (fun c hc => by rw [List.mem_singleton.1 hc]; exact of_decide_eq_true (by kernel_rfl)) (fun c hc _ => by rw [List.mem_singleton.1 hc]; exact num10 (.inr (.inr (.inr rfl))))
  try simp only at hc8
  refine SD.run rfl (op_callF en36 (vs := [_]) rfl (hc8)) rfl rfl ?_
  rintro _ _ X16 ⟨rfl, hX16, rfl⟩
  rw [if_pos chk5, tx4]
  first | refine SD.skip rfl panicBody rfl rfl ?_ | refine SD.take rfl panicBody (op_eqlStrD rfl rfl) rfl rfl ?_
  rw [decide_eq_true rfl]
  first | refine SD.take rfl panicBody (op_pickT rfl rfl) rfl rfl ?_ | refine SD.take rfl panicBody (op_pickF rfl rfl) rfl rfl ?_ | refine SD.take rfl panicBody (op_pickB rfl rfl rfl) rfl rfl ?_
  refine SD.take rfl panicBody (op_move rfl) rfl rfl ?_
  first | refine SD.skip rfl panicBody rfl rfl ?_ | refine SD.take rfl panicBody (op_load ty34 rfl (by repeat constructor) rfl) rfl rfl ?_ | refine SD.take rfl panicBody (op_loadX ty34 rfl (by assumption) rfl) rfl rfl ?_
  have hc9 := depth_spec _ (Nat.le_refl _) (of_decide_eq_true (by kernel_rfl)) (((hNot2.mono hX14).mono hX15).mono hX16)
  try simp only at hc9
  refine SD.run rfl (op_callF en22 (vs := [_]) rfl (hc9)) rfl rfl ?_
  rintro _ _ X17 ⟨rfl, hX17, rfl⟩
  rw [show depE eNot = 3 by kernel_rfl]
  first | refine SD.skip rfl panicBody rfl rfl ?_ | refine SD.take rfl panicBody (op_eqlT rfl rfl (by omega)) rfl rfl ?_ | refine SD.take rfl panicBody (op_eqlF rfl rfl (by omega)) rfl rfl ?_ | refine SD.take rfl panicBody (op_eql rfl rfl) rfl rfl ?_
  first | refine SD.take rfl panicBody (op_pickT rfl rfl) rfl rfl ?_ | refine SD.take rfl panicBody (op_pickF rfl rfl) rfl rfl ?_ | refine SD.take rfl panicBody (op_pickB rfl rfl rfl) rfl rfl ?_
  refine SD.take rfl panicBody (op_assign rfl) rfl rfl ?_
  refine SD.nil ?_
  show SL _ _ _ _ _ _ _ [] _ _ _
  refine SL.nil ?_
  refine T.ret1 rfl (ResIs.tmp rfl) ?_
  rfl
end Go.Proofs.YtaooojjhlngcmaaDoor
namespace Go.Proofs.YtaooojjhlngcmaaDoor
open Go.Shelf
def lays190_ren : Go.Shelf.Ren := ⟨fun | 190 => 50 | 125 => 79 | 258 => 78 | 128 => 103 | 129 => 104 | 302 => 94 | 303 => 95 | 304 => 96 | 305 => 97 | 306 => 98 | 307 => 99 | 308 => 100 | 309 => 101 | 310 => 102 | 333 => 109 | 329 => 110 | 330 => 111 | 334 => 112 | 335 => 113 | 336 => 114 | 344 => 117 | n => n, fun | 31 => 24 | 9 => 9 | 3 => 3 | 46 => 119 | 0 => 0 | 51 => 139 | 53 => 141 | 4 => 4 | 183 => 131 | 182 => 130 | 131 => 136 | 5 => 5 | 218 => 146 | 222 => 150 | 228 => 153 | 229 => 154 | n => n, fun | n => n⟩
theorem lays190 : Go.Proofs.Lays.n190 Tryd.prog lays190_ren := {
  mixed := by kernel_rfl
  f125 := Tryd.func79.trans (congrArg some (by kernel_rfl))
  f128 := Tryd.func103.trans (congrArg some (by kernel_rfl))
  f129 := Tryd.func104.trans (congrArg some (by kernel_rfl))
  f190 := Tryd.func50.trans (congrArg some (by kernel_rfl))
  f258 := Tryd.func78.trans (congrArg some (by kernel_rfl))
  f302 := Tryd.func94.trans (congrArg some (by kernel_rfl))
  f303 := Tryd.func95.trans (congrArg some (by kernel_rfl))
  f304 := Tryd.func96.trans (congrArg some (by kernel_rfl))
  f305 := Tryd.func97.trans (congrArg some (by kernel_rfl))
  f306 := Tryd.func98.trans (congrArg some (by kernel_rfl))
  f307 := Tryd.func99.trans (congrArg some (by kernel_rfl))
  f308 := Tryd.func100.trans (congrArg some (by kernel_rfl))
  f309 := Tryd.func101.trans (congrArg some (by kernel_rfl))
  f310 := Tryd.func102.trans (congrArg some (by kernel_rfl))
  f329 := Tryd.func110.trans (congrArg some (by kernel_rfl))
  f330 := Tryd.func111.trans (congrArg some (by kernel_rfl))
  f333 := Tryd.func109.trans (congrArg some (by kernel_rfl))
  f334 := Tryd.func112.trans (congrArg some (by kernel_rfl))
  f335 := Tryd.func113.trans (congrArg some (by kernel_rfl))
  f336 := Tryd.func114.trans (congrArg some (by kernel_rfl))
  f344 := Tryd.func117.trans (congrArg some (by kernel_rfl))
  t0 := Tryd.underlying0
  a0 := Tryd.isAgg0
  z0 := Tryd.sizeOf0
  v0 := Tryd.zeroValue0
  t3 := Tryd.underlying3
  a3 := Tryd.isAgg3
  z3 := Tryd.sizeOf3
  v3 := Tryd.zeroValue3
  t4 := Tryd.underlying4
  a4 := Tryd.isAgg4
  z4 := Tryd.sizeOf4
  v4 := Tryd.zeroValue4
  t5 := Tryd.underlying5
  a5 := Tryd.isAgg5
  z5 := Tryd.sizeOf5
  v5 := Tryd.zeroValue5
  t9 := Tryd.underlying9
  a9 := Tryd.isAgg9
  z9 := Tryd.sizeOf9
  v9 := Tryd.zeroValue9
  t31 := Tryd.underlying24
  a31 := Tryd.isAgg24
  z31 := Tryd.sizeOf24
  v31 := Tryd.zeroValue24
  t46 := Tryd.underlying119
  a46 := Tryd.isAgg119
  z46 := Tryd.sizeOf119
  v46 := Tryd.zeroValue119
  t51 := Tryd.underlying139
  a51 := Tryd.isAgg139
  z51 := Tryd.sizeOf139
  v51 := Tryd.zeroValue139
  t53 := Tryd.underlying141
  a53 := Tryd.isAgg141
  z53 := Tryd.sizeOf141
  v53 := Tryd.zeroValue141
  t131 := Tryd.underlying136
  a131 := Tryd.isAgg136
  z131 := Tryd.sizeOf136
  v131 := Tryd.zeroValue136
  t182 := Tryd.underlying130
  a182 := Tryd.isAgg130
  z182 := Tryd.sizeOf130
  v182 := Tryd.zeroValue130
  t183 := Tryd.underlying131
  a183 := Tryd.isAgg131
  z183 := Tryd.sizeOf131
  v183 := Tryd.zeroValue131
  t218 := Tryd.underlying146
  a218 := Tryd.isAgg146
  z218 := Tryd.sizeOf146
  v218 := Tryd.zeroValue146
  t222 := Tryd.underlying150
  a222 := Tryd.isAgg150
  z222 := Tryd.sizeOf150
  v222 := Tryd.zeroValue150
  t228 := Tryd.underlying153
  a228 := Tryd.isAgg153
  z228 := Tryd.sizeOf153
  v228 := Tryd.zeroValue153
  t229 := Tryd.underlying154
  a229 := Tryd.isAgg154
  z229 := Tryd.sizeOf154
  v229 := Tryd.zeroValue154 }
end Go.Proofs.YtaooojjhlngcmaaDoor
namespace Go.Proofs.YtaooojjhlngcmaaDoor
open Go.RowKit
/-- The table of powers of ten lies as its initialiser lays it. -/
def Pow10 (X : PMap) : Prop := ∀ w, PIn X w → Lib.TabIs Tryd.prog w "internal/strconv.uint64pow10" .u64 Lib.pow10Tab
theorem Pow10.mono {X X' : PMap} (h : Pow10 X) (hX : X.le X') : Pow10 X' := fun w hw => h w fun k o hk => hw k o (hX k o hk)
/-- The block that was laid last holds other cells; new blocks. -/
theorem Sat.redo {w0 : Base} {X0 X : PMap} {own0 : Own} {b sz : Nat} {cs cs' : List Value} {ty : TypeId} {W W' : World} (h : Sat w0 X0 (⟨b, cs, ty, sz⟩ :: own0) X W) (h1 : W'.os = W.os) (h2 : W'.tape = W.tape) (h3 : W'.output = W.output) (h4 : W.heap.size ≤ W'.heap.size)
    (h5 : ∀ k, k < W.heap.size → k ≠ b → W'.heap[k]? = W.heap[k]?) (h6 : Ow.In ⟨b, cs', ty, sz⟩ W') : Sat w0 X0 (⟨b, cs', ty, sz⟩ :: own0) X W' := by
  have hb0 := h.new ⟨b, cs, ty, sz⟩ (by simp)
  have hnd := List.pairwise_cons.1 h.nodup
  have hap := h.apart ⟨b, cs, ty, sz⟩ (by simp)
  simp only at hb0 hap
  refine ⟨⟨⟨h1.trans h.below.os, h2.trans h.below.tape, h3.trans h.below.output, Nat.le_trans h.below.size h4, fun k hk => (h5 k (Nat.lt_of_lt_of_le hk h.below.size) (by omega)).trans (h.below.block k hk)⟩, h.old, ⟨fun p hp => ?_, fun k o hk => ?_⟩, fun p hp => ?_, fun p hp => ?_, ?_⟩, fun p hp => ?_⟩
  · rcases List.mem_cons.1 hp with rfl | hp
    · exact h6
    · obtain ⟨r, hr, hz⟩ := h.stab.own p (by simp [hp])
      exact ⟨r, (h5 p.b (get_lt hr) (fun e => hnd.1 p hp e.symm)).trans hr, hz⟩
  · have hkb : k ≠ b := fun e => by subst e; rw [hap] at hk; cases hk
    exact (h5 k (h.stab.pers.lt hk) hkb).trans (h.stab.pers k o hk)
  · rcases List.mem_cons.1 hp with rfl | hp
    · exact hb0
    · exact h.new p (by simp [hp])
  · rcases List.mem_cons.1 hp with rfl | hp
    · exact hap
    · exact h.apart p (by simp [hp])
  · exact List.pairwise_cons.2 ⟨fun q hq => hnd.1 q hq, hnd.2⟩
  · obtain ⟨g1, g2, g3, g4⟩ := h.res p hp
    have hpb : p.1 ≠ b := fun e => g3 ⟨b, cs, ty, sz⟩ (by simp) e.symm
    refine ⟨(h5 p.1 (get_lt g1) hpb).trans g1, g2, fun q hq => ?_, g4⟩
    rcases List.mem_cons.1 hq with rfl | hq
    · exact fun e => hpb e.symm
    · exact g3 q (by simp [hq])
theorem ltS_iff (a b : ByteArray) : ltS a b = decide (a.data.toList < b.data.toList) := by
  rw [ltS, Go.Proofs.bytesLess_eq, Lib.toList_data, Lib.toList_data]
theorem strs_back (l : List ByteArray) : (l.map fun s => s.data.toList).map (fun x : List UInt8 => (⟨x.toArray⟩ : ByteArray)) = l := by
  rw [List.map_map]
  exact (List.map_congr_left fun s _ => by simp).trans (List.map_id l)
theorem sortAll_spec {X : PMap} {b cap : Nat} {l : List ByteArray} (hl : l.length < 1000000) : SpecM Tryd.prog 50 [.slice (some ⟨b, 0, none⟩) l.length cap] X [⟨b, strsC l, 9, cap * 1⟩] fun _ L' _ => ∃ l' : List ByteArray, L' = [⟨b, strsC l', 9, cap * 1⟩] ∧ l'.Perm l ∧ AscS l' := by
  intro w0 X0 own0 W hs
  let ss : List (List UInt8) := l.map fun s => s.data.toList
  let so : List (List UInt8) := ss.mergeSort fun x y => decide (x ≤ y)
  have hssl : ss.length = l.length := by simp [ss]
  have hin := hs.stab.own ⟨b, strsC l, 9, cap * 1⟩ (by simp)
  have hH : Sort.Holds encStr W b 0 ss.toArray := by
    intro j hj
    have hj' : j < l.length := by simpa [ss] using hj
    refine ⟨?_, hin.frozen _⟩
    have : (strsC l)[0 + j]? = some (encStr ss.toArray[j]!) := by
      rw [Nat.zero_add]
      have e1 : ss.toArray[j]! = (l[j]).data.toList := by simp [ss, hj']
      rw [e1]
      simp [strsC, hj', encStr]
    exact hin.cell this
  have hcall : Calls Tryd.prog 50 #[.slice (some ⟨b, 0, none⟩) ss.length cap] W fun e w' => e = .returned (.tuple #[]) ∧ ∃ n os, w' = Sort.grow (Sort.putRow encStr (Sort.ahead W n) b 0 so.toArray) os :=
    calls_of_every_depth fun D => AnyS.slices_Sort_string_in lays190 D b 0 cap ss W hH hin.lt (by rw [hssl]; omega)
  rw [hssl] at hcall
  refine hcall.mono ?_
  rintro e w' ⟨rfl, n, os, rfl⟩
  let l' : List ByteArray := so.map fun x => (⟨x.toArray⟩ : ByteArray)
  have hso : so.length = l.length := by simp [so, hssl]
  have hperm : l'.Perm l := by
    have h1 : so.Perm ss := List.mergeSort_perm _ _
    have h2 := h1.map fun x : List UInt8 => (⟨x.toArray⟩ : ByteArray)
    rw [strs_back] at h2
    exact h2
  have hasc : AscS l' := by
    have h1 := List.pairwise_mergeSort (le := fun x y : List UInt8 => decide (x ≤ y)) (fun a b c h h' => by simp only [decide_eq_true_eq] at h h' ⊢; exact List.le_trans h h') (fun a b => by simp only [Bool.or_eq_true, decide_eq_true_eq]; exact List.le_total a b) ss
    refine List.pairwise_map.2 (h1.imp fun {x y} h => ?_)
    rw [ltS_iff]
    simp only [decide_eq_true_eq] at h
    simpa using h
  refine ⟨_, [⟨b, strsC l', 9, cap * 1⟩], X, rfl, ?_, PMap.le_refl _, l', rfl, hperm, hasc⟩
  have hsz : (Sort.putRow encStr (Sort.ahead W n) b 0 so.toArray).heap.size = W.heap.size := by simp
  refine Sat.redo hs rfl rfl rfl ?_ ?_ ?_
  · rw [Sort.size_grow, hsz]; omega
  · intro k hk hkb
    show ((Sort.putRow encStr (Sort.ahead W n) b 0 so.toArray).heap ++ os)[k]? = _
    rw [Array.getElem?_append_left (by rw [hsz]; exact hk)]
    show (W.heap.modify b _)[k]? = _
    rw [Array.getElem?_modify, if_neg (Ne.symm hkb)]
  · obtain ⟨r, hr, hz⟩ := hin
    refine ⟨r, ?_, by simpa [strsC, l', hso] using hz⟩
    show ((Sort.putRow encStr (Sort.ahead W n) b 0 so.toArray).heap ++ os)[b]? = _
    rw [Array.getElem?_append_left (by rw [hsz]; exact get_lt hr)]
    show (W.heap.modify b _)[b]? = _
    rw [Array.getElem?_modify, if_pos rfl, hr]
    simp only [Option.map_some, Sort.onCells]
    congr 2
    apply Array.ext_getElem?
    intro k
    simp only [Sort.putCells, Array.getElem?_mapIdx, List.getElem?_toArray]
    rcases Nat.lt_or_ge k l.length with hkl | hkl
    · have e1 : (strsC l ++ r)[k]? = some (.string l[k]) := by rw [List.getElem?_append_left (by simpa [strsC] using hkl)]; simp [strsC, hkl]
      have e2 : (strsC l' ++ r)[k]? = some (.string ⟨so[k].toArray⟩) := by
        rw [List.getElem?_append_left (by simpa [strsC, l', hso] using hkl)]
        simp [strsC, l', hso, hkl]
      rw [e1, e2]
      simp only [Option.map_some, Nat.zero_le, Nat.zero_add, true_and, List.size_toArray, hso, hkl, if_true, Nat.sub_zero]
      congr 2
      have hk2 : k < so.length := by rw [hso]; exact hkl
      simp [hk2]
    · have e1 : (strsC l ++ r)[k]? = r[k - l.length]? := by rw [List.getElem?_append_right (by simpa [strsC] using hkl)]; simp [strsC]
      have e2 : (strsC l' ++ r)[k]? = r[k - l.length]? := by rw [List.getElem?_append_right (by simpa [strsC, l', hso] using hkl)]; simp [strsC, l', hso]
      rw [e1, e2]
      simp only [Nat.zero_le, Nat.zero_add, true_and, List.size_toArray, hso]
      cases r[k - l.length]? with
      | none => rfl
      | some v => simp [Nat.not_lt.2 hkl]
end Go.Proofs.YtaooojjhlngcmaaDoor
namespace Go.Proofs.YtaooojjhlngcmaaDoor
open Go.RowKit
theorem insertion0_spec {X : PMap} {A : Option Addr} {c : Nat} : SpecM Tryd.prog 94 [.slice A 0 c, .int .i64 0, .int .i64 0] X [] fun _ L' _ => L' = [] := by
  refine SpecM.enter Tryd.func94 rfl Tryd.ntmps94 rfl ?_
  intro w0 X0 own0
  refine T.seq ?_
  refine T.region ?_
  refine SL.y (op_move rfl) rfl rfl ?_
  first | refine SL.y (op_addN (q := 1) rfl rfl (by omega)) rfl rfl ?_ | refine SL.y (op_add rfl rfl (by omega) (by omega)) rfl rfl ?_ | refine SL.y (op_addW rfl rfl) rfl rfl ?_
  refine SL.y (op_assign rfl) rfl rfl ?_
  refine SL.nil ?_
  refine T.block ?_
  refine T.unrollStart 1 ?_
  refine T.unroll ?_
  refine T.seq ?_
  refine T.seq ?_
  refine T.region ?_
  refine SL.y (op_move rfl) rfl rfl ?_
  refine SL.y (op_move rfl) rfl rfl ?_
  first | refine SL.y (op_lssT rfl rfl (by omega)) rfl rfl ?_ | refine SL.y (op_lssF rfl rfl (by omega)) rfl rfl ?_ | refine SL.y (op_lss rfl rfl) rfl rfl ?_
  refine SL.nil ?_
  refine T.condF rfl ?_
  refine T.exit (T.exitCode (T.exitMore (T.exitBlk ?_)))
  refine T.doneM0 [] rfl (List.Perm.refl _) ?_
  exact ⟨PMap.le_refl _, rfl⟩
theorem pdq0_spec {X : PMap} {k : Int} {A : Option Addr} {c : Nat} : SpecM Tryd.prog 78 [.slice A 0 c, .int .i64 0, .int .i64 0, .int .i64 k] X [] fun _ L' _ => L' = [] := by
  refine SpecM.enter Tryd.func78 rfl Tryd.ntmps78 rfl ?_
  intro w0 X0 own0
  refine T.seq ?_
  refine T.region ?_
  refine SL.y (op_assign rfl) rfl rfl ?_
  refine SL.nil ?_
  refine T.seq ?_
  refine T.region ?_
  refine SL.y (op_assign rfl) rfl rfl ?_
  refine SL.nil ?_
  refine T.block ?_
  refine T.unrollStart 1 ?_
  refine T.unroll ?_
  refine T.block ?_
  refine T.seq ?_
  refine T.region ?_
  refine SL.y (op_move rfl) rfl rfl ?_
  refine SL.y (op_move rfl) rfl rfl ?_
  first | refine SL.y (op_subN rfl rfl (by omega) (by omega)) rfl rfl ?_ | refine SL.y (op_sub rfl rfl (by omega) (by omega)) rfl rfl ?_ | refine SL.y (op_subW rfl rfl) rfl rfl ?_
  refine SL.y (op_assign rfl) rfl rfl ?_
  refine SL.nil ?_
  refine T.seq ?_
  refine T.seq ?_
  refine T.region ?_
  refine SL.y (op_move rfl) rfl rfl ?_
  first | refine SL.y (op_leqT rfl rfl (by omega)) rfl rfl ?_ | refine SL.y (op_leqF rfl rfl (by omega)) rfl rfl ?_ | refine SL.y (op_leq rfl rfl) rfl rfl ?_
  refine SL.nil ?_
  refine T.condT rfl ?_
  refine T.seq ?_
  refine T.region ?_
  refine SL.y (op_move rfl) rfl rfl ?_
  refine SL.y (op_move rfl) rfl rfl ?_
  refine SL.y (op_move rfl) rfl rfl ?_
  refine SL.x (op_callM en94 (vs := [_, _, _]) rfl (insertion0_spec) rfl) rfl rfl ?_
  rintro _ _ X1 ⟨_, rfl, hX1, rfl⟩
  refine SL.nil ?_
  refine T.retM0 [] rfl  (List.Perm.refl _) ?_
  exact ⟨hX1, rfl⟩
theorem sort0_spec {X : PMap} {A : Option Addr} {c : Nat} : SpecM Tryd.prog 50 [.slice A 0 c] X [] fun _ L' _ => L' = [] := by
  refine SpecM.enter Tryd.func50 rfl Tryd.ntmps50 rfl ?_
  intro w0 X0 own0
  refine T.seq ?_
  refine T.region ?_
  refine SL.y (op_move rfl) rfl rfl ?_
  refine SL.y (op_lenS Tryd.underlying24 rfl) rfl rfl ?_
  refine SL.y (op_assign rfl) rfl rfl ?_
  refine SL.nil ?_
  refine T.region ?_
  refine SL.y (op_move rfl) rfl rfl ?_
  refine SL.y (op_move rfl) rfl rfl ?_
  refine SL.y (op_move rfl) rfl rfl ?_
  first | refine SL.y (op_convU64 Tryd.underlying3 Tryd.underlying119 rfl (by omega) (by omega)) rfl rfl ?_ | refine SL.y (op_convert Tryd.underlying3 Tryd.underlying119 rfl) rfl rfl ?_
  refine SL.x (op_callF en79 (vs := [_]) rfl (len_specB (n := 0) (by omega))) rfl rfl ?_
  rintro _ _ X1 ⟨rfl, hX1, k, rfl, h1, h2⟩
  refine SL.x (op_callM en78 (vs := [_, _, _, _]) rfl (pdq0_spec) rfl) rfl rfl ?_
  rintro _ _ X2 ⟨_, rfl, hX2, rfl⟩
  refine SL.nil ?_
  refine T.doneM0 [] rfl (List.Perm.refl _) ?_
  exact ⟨hX1.trans' hX2, rfl⟩
theorem compact0_spec {X : PMap} {A : Option Addr} {c : Nat} : Spec Tryd.prog 51 [.slice A 0 c] X fun u _ => u = .slice A 0 c := by
  refine Spec.enter Tryd.func51 rfl Tryd.ntmps51 rfl ?_
  intro w0 hw0
  refine T.seq ?_
  refine T.region ?_
  refine SL.y (op_assign rfl) rfl rfl ?_
  refine SL.nil ?_
  refine T.seq ?_
  refine T.seq ?_
  refine T.region ?_
  refine SL.y (op_move rfl) rfl rfl ?_
  refine SL.y (op_lenS Tryd.underlying24 rfl) rfl rfl ?_
  first | refine SL.y (op_lssT rfl rfl (by omega)) rfl rfl ?_ | refine SL.y (op_lssF rfl rfl (by omega)) rfl rfl ?_ | refine SL.y (op_lss rfl rfl) rfl rfl ?_
  refine SL.nil ?_
  refine T.condT rfl ?_
  refine T.seq ?_
  refine T.region ?_
  refine SL.y (op_move rfl) rfl rfl ?_
  refine SL.y (op_assign rfl) rfl rfl ?_
  refine SL.nil ?_
  refine T.ret1 rfl (ResIs.tmp rfl) ?_
  rfl
/-- The names of an expression, as the program lists them. -/
theorem namesA_spec {X : PMap} {e : Ex} {r : Row4} (hw : wtE e < 900000) (h : ExR .u8 X e r) : Spec Tryd.prog 20 [.agg #[r.1, r.2.1, r.2.2.1, r.2.2.2]] X fun u X' => ∃ l' : List ByteArray, l'.Perm (allE e) ∧ AscS l' ∧ RowR strC X' u (compactS l') := by
  obtain ⟨_, _, _, _, _, _, _, _, rfl⟩ := h.form
  have hmx : maxLen = 9223372036854775807 := rfl
  have hal := all_wt e
  refine Spec.enter Tryd.func20 rfl Tryd.ntmps20 rfl ?_
  intro w0 hw0
  refine T.seq ?_
  refine T.region ?_
  refine SL.x (op_box rfl) rfl rfl ?_
  rintro _ _ _ ⟨B1, rfl, rfl, rfl⟩
  refine SL.y (op_assign rfl) rfl rfl ?_
  refine SL.nil ?_
  refine T.seq ?_
  refine T.region ?_
  first | refine SL.y (op_load ty34 rfl (by repeat constructor) rfl) rfl rfl ?_ | refine SL.y (op_loadX ty34 rfl (by assumption) rfl) rfl rfl ?_
  refine SL.x (op_callM en49 (vs := [_, _]) rfl (gather_spec _ (Nat.le_refl _) (l := []) (by simp; omega) h GrowS.nil) rfl) rfl rfl ?_
  rintro lv _ X1 ⟨G, rfl, hX1, hG⟩
  rw [List.nil_append] at hG
  rcases Nat.eq_zero_or_pos (allE e).length with h0 | h1
  · have hnil := List.eq_nil_of_length_eq_zero h0
    obtain ⟨A, cap, rfl⟩ := hG.form
    rw [h0]
    refine SL.y (op_assign rfl) rfl rfl ?_
    refine SL.nil ?_
    refine T.seq ?_
    refine T.region ?_
    refine SL.y (op_move rfl) rfl rfl ?_
    refine SL.x (op_callM en50 (vs := [_]) rfl (sort0_spec) rfl) rfl rfl ?_
    rintro _ _ X2 ⟨_, rfl, hX2, rfl⟩
    refine SL.nil ?_
    refine T.seq ?_
    refine T.region ?_
    refine SL.y (op_move rfl) rfl rfl ?_
    refine SL.x (op_callF en51 (vs := [_]) rfl (compact0_spec)) rfl rfl ?_
    rintro _ _ X3 ⟨rfl, hX3, rfl⟩
    refine SL.y (op_assign rfl) rfl rfl ?_
    refine SL.nil ?_
    refine T.ret1 rfl (ResIs.tmp rfl) ?_
    exact ⟨[], by rw [hnil], List.Pairwise.nil, .inl ⟨rfl, _, _, rfl⟩⟩
  obtain ⟨b, cap, rfl, rfl, hc1, hc2⟩ := hG.pos h1
  refine SL.y (op_assign rfl) rfl rfl ?_
  refine SL.nil ?_
  refine T.seq ?_
  refine T.region ?_
  refine SL.y (op_move rfl) rfl rfl ?_
  refine SL.x (op_callM en50 (vs := [_]) rfl (sortAll_spec (by omega)) rfl) rfl rfl ?_
  rintro _ _ X2 ⟨_, rfl, hX2, l', rfl, hp, ha⟩
  have hpl := hp.length_eq
  rw [← hpl]
  refine SL.nil ?_
  refine T.seq ?_
  refine T.region ?_
  refine SL.y (op_move rfl) rfl rfl ?_
  refine SL.x (op_callM en51 (vs := [_]) rfl (compact_spec (by omega) (by omega) (by omega)) rfl) rfl rfl ?_
  rintro _ _ X3 ⟨_, rfl, hX3, rfl, rfl⟩
  refine SL.y (op_assign rfl) rfl rfl ?_
  refine SL.nil ?_
  refine T.pub b (by repeat constructor) ?_
  intro X4 hX4 hB4 _
  refine T.ret1 rfl (ResIs.tmp rfl) ?_
  refine ⟨l', hp, ha, ?_⟩
  rcases Nat.eq_zero_or_pos (compactS l').length with h0 | h0
  · rw [h0]
    exact .inl ⟨List.eq_nil_of_length_eq_zero h0, _, _, rfl⟩
  · have := compact_len l'
    exact .inr ⟨h0, b, cap, [], rfl, by rw [strsC_flat]; exact hB4, by omega, by omega⟩
end Go.Proofs.YtaooojjhlngcmaaDoor
namespace Go.Proofs.YtaooojjhlngcmaaDoor
open Go.RowKit
/-- Ascending, each one once. -/
def StrS (l : List ByteArray) : Prop := l.Pairwise fun a b => ltS a b = true
theorem StrS.nodup {l : List ByteArray} (h : StrS l) : l.Nodup := h.imp fun {a b} hab e => by subst e; rw [lt_irr] at hab; cases hab
theorem StrS.same : ∀ {l m : List ByteArray}, StrS l → StrS m → (∀ x, x ∈ l ↔ x ∈ m) → l = m
  | [], [], _, _, _ => rfl
  | [], b :: m, _, _, h => by have := (h b).2 (by simp); cases this
  | a :: l, [], _, _, h => by have := (h a).1 (by simp); cases this
  | a :: l, b :: m, h1, h2, h => by
    obtain ⟨g1, g2⟩ := List.pairwise_cons.1 h1
    obtain ⟨k1, k2⟩ := List.pairwise_cons.1 h2
    have hab : a = b := by
      rcases List.mem_cons.1 ((h a).1 (by simp)) with e | hm
      · exact e
      · rcases List.mem_cons.1 ((h b).2 (by simp)) with e | hl
        · exact e.symm
        · have := lt_asym (k1 a hm)
          rw [g1 b hl] at this; cases this
    subst hab
    rw [StrS.same g2 k2 fun x => ?_]
    have hx := h x
    constructor
    · intro hxl
      rcases List.mem_cons.1 (hx.1 (by simp [hxl])) with e | hm
      · subst e; have := g1 x hxl; rw [lt_irr] at this; cases this
      · exact hm
    · intro hxm
      rcases List.mem_cons.1 (hx.2 (by simp [hxm])) with e | hm
      · subst e; have := k1 x hxm; rw [lt_irr] at this; cases this
      · exact hm
theorem compactS_mem : ∀ (l : List ByteArray) (x : ByteArray), x ∈ compactS l ↔ x ∈ l
  | [], x => by simp [compactS]
  | [a], x => by simp [compactS]
  | a :: b :: l, x => by
    rw [compactS]
    split
    · rename_i e
      subst e
      rw [compactS_mem (a :: l) x]; simp
    · rw [List.mem_cons, compactS_mem (b :: l) x]; simp
theorem compactS_str : ∀ {l : List ByteArray}, AscS l → StrS (compactS l)
  | [], _ => List.Pairwise.nil
  | [a], _ => List.pairwise_singleton _ _
  | a :: b :: l, h => by
    obtain ⟨h1, h2⟩ := List.pairwise_cons.1 h
    rw [compactS]
    have ih := compactS_str (l := b :: l) h2
    split
    · exact ih
    · rename_i hne
      refine List.pairwise_cons.2 ⟨fun x hx => ?_, ih⟩
      have hx' := (compactS_mem _ _).1 hx
      have hxa := h1 x hx'
      cases hax : ltS a x with
      | true => rfl
      | false =>
        have hex := lt_tot hax hxa
        subst hex
        rcases List.mem_cons.1 hx' with e | hx''
        · exact absurd e hne
        · have h3 := (List.pairwise_cons.1 h2).1 a hx''
          exact absurd (lt_tot h3 (h1 b (by simp))) hne
end Go.Proofs.YtaooojjhlngcmaaDoor
namespace Go.Proofs.YtaooojjhlngcmaaDoor
open Go.RowKit Go.MapKept
section
variable {P : Program} {n : NM} {w0 : Base} {X0 X : PMap} {own : Own} {env : Env}
theorem PMap.add_at {b : Nat} {o : Obj} : X.add b o b = some o := by simp [PMap.add]
theorem PMap.add_ne {b k : Nat} {o : Obj} (h : k ≠ b) : X.add b o k = X k := by simp [PMap.add, h]
/-- A new block of any kind, public at once. -/
theorem Sat.lay {W : World} (h : Sat w0 X0 own X W) (o : Obj) : Sat w0 X0 own (X.add W.heap.size o) (W.alloc o) := by
  refine h.call ((Below.refl _ W).alloc (Nat.le_refl _) _) (fun k q hk => ?_) fun k hk => PMap.add_ne (Nat.ne_of_lt hk)
  by_cases e : k = W.heap.size
  · subst e; rw [PMap.add_at] at hk; cases hk; exact (heap_alloc W _).1
  · rw [PMap.add_ne e] at hk; exact (Grow.alloc W _).pin h.stab.pers k q hk
/-- A block of no own cells, new since the call began, is written anew. -/
theorem Sat.rewrite {W : World} (h : Sat w0 X0 own X W) {b : Nat} {o : Obj} (hb : X b = some o) (hn : w0.w.heap.size ≤ b) (o' : Obj) : Sat w0 X0 own (X.add b o') { W with heap := W.heap.setIfInBounds b o' } := by
  have hin := h.stab.pers b o hb
  obtain ⟨k1, k2⟩ := heap_set (o' := o') hin
  have hne : ∀ p ∈ own, p.b ≠ b := fun p hp e => by have := h.apart p hp; rw [e, hb] at this; cases this
  refine ⟨⟨⟨h.below.os, h.below.tape, h.below.output, by simpa using h.below.size, fun k hk => (k2 k (by omega)).trans (h.below.block k hk)⟩, fun k hk => (PMap.add_ne (by omega)).trans (h.old k hk), ⟨fun p hp => ?_, fun k q hk => ?_⟩, h.new, fun p hp => (PMap.add_ne (hne p hp)).trans (h.apart p hp), h.nodup⟩, fun p hp => ?_⟩
  · obtain ⟨r, h1, h2⟩ := h.stab.own p hp
    exact ⟨r, (k2 _ (hne p hp)).trans h1, h2⟩
  · by_cases e : k = b
    · subst e; rw [PMap.add_at] at hk; cases hk; exact k1
    · rw [PMap.add_ne e] at hk; exact (k2 k e).trans (h.stab.pers k q hk)
  · obtain ⟨g1, g2, g3, g4⟩ := h.res p hp
    have e : p.1 ≠ b := fun e => by rw [e, hb] at g2; cases g2
    exact ⟨(k2 _ e).trans g1, (PMap.add_ne e).trans g2, g3, g4⟩
/-- make of a map. -/
theorem op_makeMap {t : TypeId} : OpX P n w0 X0 env own X (.makeMap t none) true fun u own' X' => ∃ b, u = .map (some b) ∧ own = own' ∧ X b = none ∧ w0.w.heap.size ≤ b ∧ X' = X.add b (.map #[] 0) := by
  intro a W oper K Q ro hop ha hs hK
  have hex : (execOp a.eval oper).run P W = .ok (.value (.map (some W.heap.size))) (W.alloc (.map #[] 0)) := by
    simp [execOp, hop, Instr.makeMap, newObj, Sem.run, World.alloc_eq]
  exact wp_value (noDefer_spec (by rw [hop]; rfl)) hex (hK _ _ _ _ ⟨_, rfl, rfl, hs.stab.pers.fresh, hs.below.size, rfl⟩ (hs.lay _) fun _ => Grow.alloc W _)
/-- A map against nil. -/
theorem op_eqlMapNil {t t' k e : TypeId} {x y : Operand} {o : Option Nat} (ht : P.underlying t = some (.map k e)) (hx : eev env x = some (.map o)) (hy : eev env y = some (.map none)) : OpY P n env own X (.binOp .eql t x y t') (.bool o.isNone) := by
  intro a W oper hop ha _
  have h0 : ∀ (e : BinOp) (u v : Operand), eqGuard e t u v (.map o) (.map none) = pure () := fun e u v => by cases e <;> rfl
  have h1 : (Op.equal t (.map o) (.map none)).run P W = .ok o.isNone W := by
    have h : ∀ d : Nat, (Op.equalIn (d + 1) t (.map o) (.map none)).run P W = .ok o.isNone W := fun d => by cases o <;> simp [Op.equalIn, run_underlying ht]
    exact h 9999
  simp only [execOp, hop, ha.eval hx, ha.eval hy, binOp, h0, Sem.run_bind, Sem.run_pure, Result.andThen_ok, h1]
theorem op_makeIface {t : TypeId} {x : Operand} {v : Value} {d : TypeDesc} (ht : P.underlying t = some d) (hd : ∀ m, d ≠ .interface m) (hx : eev env x = some v) : OpY P n env own X (.makeInterface t x) (.iface t v) := by
  intro a W oper hop ha _
  have h1 : (Instr.makeInterface t v).run P W = .ok (.iface t v) W := by
    cases d <;> simp_all [Instr.makeInterface, run_underlying ht]
  simp [execOp, hop, ha.eval hx, h1]
theorem op_assertMap {t xT k e : TypeId} {x : Operand} {v : Value} (ht : P.underlying t = some (.map k e)) (hx : eev env x = some (.iface t v)) : OpY P n env own X (.typeAssert x xT t false) v := by
  intro a W oper hop ha _
  have h1 : (Instr.typeAssert (.iface t v) xT t false).run P W = .ok v W := by simp [Instr.typeAssert, run_underlying ht, Result.andThen]
  simp [execOp, hop, ha.eval hx, h1]
/-- maps.clone: a new block with the same entries. -/
theorem op_cloneMap {f : FuncId} {gn : Func} {x : Operand} {ts : Array TypeId} {t : TypeId} {b : Nat} {es : Array MapEntry} {clk : Nat} (hf : P.funcs[f]? = some gn) (h1 : (gn.name == "runtime.NumGoroutine") = false) (h2 : gn.body.isNone = true) (h3 : Extern.findNext gn = none) (h4 : Extern.find gn = some Extern.MapsClone.clone)
    (hx : eev env x = some (.iface t (.map (some b)))) (hb : X b = some (.map es clk)) :
    OpX P n w0 X0 env own X (.call { callee := .value (.func f), args := #[x], argTypes := ts }) true fun u own' X' => ∃ b', u = .iface t (.map (some b')) ∧ own = own' ∧ X b' = none ∧ w0.w.heap.size ≤ b' ∧ X' = X.add b' (.map es clk) := by
  intro a W oper K Q ro hop ha hs hK
  have hc : a.eval (.func f) = .func (.func f) #[] #[] := ha.eval rfl
  have hr2 := run_callFunc_extern hf h1 h2 h3 h4 #[.iface t (.map (some b))] W
  have hcl : (Extern.MapsClone.clone #[.iface t (.map (some b))]).run P W = .ok (.iface t (.map (some W.heap.size))) (W.alloc (.map es clk)) := by
    show (Sem.getObj b Sem.pure >>= fun o => match o with
        | .map entries clock => (newObj (.map entries clock) >>= fun n => pure (.iface t (.map (some n))))
        | _ => stuck "maps.clone: a map expected" : Sem Value).run P W = _
    have hg := hs.stab.pers _ _ hb
    rw [Sem.run_bind, show (Sem.getObj b Sem.pure).run P W = .ok (.map es clk) W from MapKept.run_getObj_map hg]
    simp [Result.andThen, newObj, Sem.run, World.alloc_eq]
  rw [hcl] at hr2
  have hex : (execOp a.eval oper).run P W = .ok (.value (.iface t (.map (some W.heap.size)))) (W.alloc (.map es clk)) := by
    simp only [execOp, hop, resolve, hc, Deferred.ofValue, invoke, Sem.run_bind, Sem.run_pure, Result.andThen_ok]
    simpa [ha.eval hx] using hr2
  exact wp_value (noDefer_spec (by rw [hop]; rfl)) hex (hK _ _ _ _ ⟨_, rfl, rfl, hs.stab.pers.fresh, hs.below.size, rfl⟩ (hs.lay _) fun _ => Grow.alloc W _)
/-- A call, and what is new in it. -/
theorem op_callN {f : FuncId} {xs : Array Operand} {ts : Array TypeId} {vs : List Value} {Φ : Value → PMap → Prop} (he : Enters P f) (hx : xs.toList.map (eev env) = vs.map some)
    (h : Spec P f vs X Φ) : OpX P n w0 X0 env own X (.call { callee := .value (.func f), args := xs, argTypes := ts }) true fun v own' X' => own = own' ∧ X.le X' ∧ (∀ k, X k = none → X' k ≠ none → w0.w.heap.size ≤ k) ∧ Φ v X' := by
  intro a W oper K Q ro hop ha hs hK
  have all : ∀ (xs : List Operand) (vs : List Value), xs.map (eev env) = vs.map some → xs.map a.eval = vs := by
    intro xs
    induction xs with
    | nil => intro vs h; cases vs <;> simp_all
    | cons x xs ih =>
      intro vs h
      cases vs with
      | nil => simp at h
      | cons v vs =>
        simp only [List.map_cons, List.cons.injEq] at h
        simp [ha.eval h.1, ih vs h.2]
  have h1 : xs.map a.eval = vs.toArray := by apply Array.toList_inj.1; simp [all _ _ hx]
  have hc : a.eval (.func f) = .func (.func f) #[] #[] := ha.eval rfl
  have hex : (execOp a.eval oper).run P W = .ok (.enter f vs.toArray) W := by
    simp only [execOp, hop, resolve, hc, h1, Deferred.ofValue, invoke, Sem.run_bind, Sem.run_pure, Result.andThen_ok]
    simpa using he vs.toArray W
  refine wp_enters (noDefer_spec (by rw [hop]; rfl)) hex ((h W hs.stab.pers).mono fun e w' hfin => ?_)
  obtain ⟨v, X', rfl, hb, hp, hk, hΦ⟩ := hfin
  refine ⟨v, rfl, ?_⟩
  refine hK v own X' w' ⟨rfl, fun q o hq => (hk q (hs.stab.pers.lt hq)).trans hq, fun k h1 h2 => ?_, hΦ⟩ (hs.call hb hp hk) fun _ => Grow.of_below hb
  rcases Nat.lt_or_ge k W.heap.size with h3 | h3
  · exact absurd ((hk k h3).trans h1) h2
  · exact Nat.le_trans hs.below.size h3
/-- The entries of names in a row, numbered from 1. -/
def entsOf (ns : List ByteArray) : List MapEntry := (List.range ns.length).map fun (i : Nat) => ⟨.string ((ns[i]?).getD ⟨#[]⟩), .int .i64 ((i : Int) + 1), i⟩
def MapObj (ns : List ByteArray) : Obj := .map (entsOf ns).toArray ns.length
/-- The number of a name, from 1; 0: it is not there. -/
def posN (s : ByteArray) : List ByteArray → Nat
  | [] => 0
  | t :: l => if s = t then 1 else if posN s l = 0 then 0 else posN s l + 1
def MapAt (X : PMap) (ns : List ByteArray) : Option Nat → Prop
  | none => ns = []
  | some b => X b = some (MapObj ns)
theorem posN_pos {s : ByteArray} : ∀ {ns : List ByteArray}, 0 < posN s ns ↔ s ∈ ns
  | [] => by simp [posN]
  | t :: l => by
    have ih := posN_pos (s := s) (ns := l)
    rw [posN]
    by_cases h : s = t
    · rw [if_pos h]; simp [h]
    · rw [if_neg h]
      by_cases h0 : posN s l = 0
      · rw [if_pos h0]
        have : s ∉ l := fun hm => by have := ih.2 hm; omega
        simp [h, this]
      · rw [if_neg h0]
        have : s ∈ l := ih.1 (by omega)
        simp [this]
theorem entsOf_snoc (ns : List ByteArray) (s : ByteArray) : entsOf (ns ++ [s]) = entsOf ns ++ [⟨.string s, .int .i64 ((ns.length : Int) + 1), ns.length⟩] := by
  unfold entsOf
  rw [List.length_append, List.length_singleton, List.range_succ, List.map_append, List.map_singleton]
  congr 1
  · refine List.map_congr_left fun i hi => ?_
    rw [List.getElem?_append_left (List.mem_range.1 hi)]
  · simp
/-- What findNow finds. -/
theorem findNow_pos (s : ByteArray) : ∀ (ns : List ByteArray) (f : Nat → Value) (g : Nat → Nat) (i : Nat), ∃ r, Instr.findNow .string (.string s) ((List.range ns.length).map fun q => ⟨.string ((ns[q]?).getD ⟨#[]⟩), f q, g q⟩) i = some r ∧ (posN s ns = 0 → r = none) ∧ (∀ k, posN s ns = k + 1 → ∃ q, r = some (q, f k))
  | [], f, g, i => ⟨none, rfl, fun _ => rfl, fun k h => by cases h⟩
  | t :: ns, f, g, i => by
    have e : (List.range (t :: ns).length).map (fun q => (⟨.string (((t :: ns)[q]?).getD ⟨#[]⟩), f q, g q⟩ : MapEntry)) = ⟨.string t, f 0, g 0⟩ :: (List.range ns.length).map (fun q => (⟨.string ((ns[q]?).getD ⟨#[]⟩), f (q + 1), g (q + 1)⟩ : MapEntry)) := by
      rw [List.length_cons, List.range_succ_eq_map, List.map_cons, List.map_map]
      congr 1
    rw [e]
    by_cases h : s = t
    · subst h
      have hp : posN s (s :: ns) = 1 := by rw [posN, if_pos rfl]
      refine ⟨some (i, f 0), ?_, fun h => absurd (hp.symm.trans h) (by decide), fun k hk => ⟨i, ?_⟩⟩
      case refine_2 =>
        have hk' := hp.symm.trans hk
        obtain rfl : k = 0 := by omega
        rfl
      have : (s == s) = true := (bytes_beq s s).2 rfl
      simp [Instr.findNow, Instr.sameNow, this]
    · obtain ⟨r, h1, h2, h3⟩ := findNow_pos s ns (fun q => f (q + 1)) (fun q => g (q + 1)) (i + 1)
      have hb : (s == t) = false := by
        cases hq : (s == t) with
        | false => rfl
        | true => exact absurd ((bytes_beq s t).1 hq) h
      refine ⟨r, ?_, ?_, ?_⟩
      · simp only [Instr.findNow, Instr.sameNow, hb]; exact h1
      · rw [posN, if_neg h]; intro hp; split at hp
        · rename_i h0; exact h2 h0
        · cases hp
      · intro k hk
        rw [posN, if_neg h] at hk
        split at hk
        · cases hk
        · obtain ⟨q, hq⟩ : ∃ q, posN s ns = q + 1 := ⟨posN s ns - 1, by omega⟩
          obtain rfl : k = q + 1 := by omega
          exact h3 q hq
/-- The number of a name in a map of names. -/
theorem op_lookupN {xT kt et : TypeId} {x y : Operand} {om : Option Nat} {ns : List ByteArray} {s : ByteArray} (ht : P.underlying xT = some (.map kt et)) (hk : P.underlying kt = some .string) (hz : (P.info? et).bind (·.zero) = some (.int .i64 0))
    (hx : eev env x = some (.map om)) (hy : eev env y = some (.string s)) (hm : MapAt X ns om) :
    OpY P n env own X (.lookup xT x y false) (.int .i64 (posN s ns : Int)) := by
  intro a W oper hop ha hst
  obtain ⟨i, hi, hiz⟩ := Option.bind_eq_some_iff.1 hz
  have hzr : (zeroValue et).run P W = .ok (.int .i64 0) W := by simp [zeroValue, typeInfo, hi, hiz]
  obtain ⟨r, h1, h2, h3⟩ := findNow_pos s ns (fun q => .int .i64 ((q : Int) + 1)) (fun q => q) 0
  have hf : (Instr.findKey kt (.string s) (entsOf ns)).run P W = .ok r W := MapKept.run_findKey hk h1
  have hck : ∀ e, (Instr.checkKey e 10000 kt (.string s)).run P W = .ok () W := fun e => MapKept.run_checkKey hk (by trivial) e 9999
  have hl : (Instr.lookup xT (.map om) (.string s) false).run P W = .ok (.int .i64 (posN s ns : Int)) W := by
    have key : ∀ es : Array MapEntry, es.toList = entsOf ns → (om = none → es = #[]) → (∀ b, om = some b → ∃ clk, W.heap[b]? = some (.map es clk)) → (Instr.lookup xT (.map om) (.string s) false).run P W = .ok (.int .i64 (posN s ns : Int)) W := by
      intro es he ho hb
      rw [← he] at hf
      rcases Nat.eq_zero_or_pos (posN s ns) with h0 | h0
      · obtain rfl := h2 h0
        cases om with
        | none => have ho : es = #[] := ho rfl; subst ho; simp [Instr.lookup, run_underlying ht, hck, hf, hzr, h0, Result.andThen]
        | some b => obtain ⟨clk, hb⟩ := hb b rfl; simp [Instr.lookup, run_underlying ht, MapKept.run_getObj_map hb, hck, hf, hzr, h0, Result.andThen]
      · obtain ⟨k, hk'⟩ : ∃ k, posN s ns = k + 1 := ⟨posN s ns - 1, by omega⟩
        obtain ⟨q, rfl⟩ := h3 k hk'
        cases om with
        | none => have ho : es = #[] := ho rfl; subst ho; simp [Instr.lookup, run_underlying ht, hck, hf, hk', Result.andThen]
        | some b => obtain ⟨clk, hb⟩ := hb b rfl; simp [Instr.lookup, run_underlying ht, MapKept.run_getObj_map hb, hck, hf, hk', Result.andThen]
    cases om with
    | none => have hm : ns = [] := hm; subst hm; exact key #[] rfl (fun _ => rfl) (fun _ h => by cases h)
    | some b => exact key (entsOf ns).toArray rfl (fun h => by cases h) (fun b' h => by cases h; exact ⟨_, hst.pers b _ hm⟩)
  simp [execOp, hop, ha.eval hx, ha.eval hy, hl]
/-- A new name is put into a map of this call's own. -/
theorem op_putN {xT kt et : TypeId} {x y z : Operand} {b : Nat} {ns : List ByteArray} {s : ByteArray} (ht : P.underlying xT = some (.map kt et)) (hk : P.underlying kt = some .string)
    (hx : eev env x = some (.map (some b))) (hy : eev env y = some (.string s)) (hz : eev env z = some (.int .i64 ((ns ++ [s]).length : Int))) (hb : X b = some (MapObj ns)) (hn : w0.w.heap.size ≤ b) (hs : s ∉ ns) :
    OpX P n w0 X0 env own X (.mapUpdate xT x y z) false fun _ own' X' => own = own' ∧ X' = X.add b (MapObj (ns ++ [s])) := by
  have hz : eev env z = some (.int .i64 ((ns.length : Int) + 1)) := by rw [hz]; simp
  intro a W oper K Q ro hop ha hsat hK
  obtain ⟨r, h1, h2, _⟩ := findNow_pos s ns (fun q => .int .i64 ((q : Int) + 1)) (fun q => q) 0
  obtain rfl := h2 (Nat.eq_zero_of_not_pos fun h => hs (posN_pos.1 h))
  have hb' := hsat.stab.pers b _ hb
  simp only [MapObj] at hb'
  have hf : (Instr.findKey kt (.string s) (entsOf ns)).run P W = .ok none W := MapKept.run_findKey hk h1
  have hck : ∀ e, (Instr.checkKey e 10000 kt (.string s)).run P W = .ok () W := fun e => MapKept.run_checkKey hk (by trivial) e 9999
  have hl : (Instr.mapUpdate xT (.map (some b)) (.string s) (.int .i64 ((ns.length : Int) + 1))).run P W = .ok () { W with heap := W.heap.setIfInBounds b (MapObj (ns ++ [s])) } := by
    have e : MapObj (ns ++ [s]) = .map ((entsOf ns).toArray.push { key := .string s, val := .int .i64 ((ns.length : Int) + 1), born := ns.length }) (ns.length + 1) := by
      simp [MapObj, entsOf_snoc]
    rw [e]
    simp [Instr.mapUpdate, run_underlying ht, MapKept.run_getObj_map hb', hck, hf, MapKept.run_setObj_map _ hb', Result.andThen]
  have hex : (execOp a.eval oper).run P W = .ok .skip { W with heap := W.heap.setIfInBounds b (MapObj (ns ++ [s])) } := by
    simp [execOp, hop, ha.eval hx, ha.eval hy, ha.eval hz, hl]
  exact wp_skipped (noDefer_spec (by rw [hop]; rfl)) hex (hK _ _ _ _ ⟨rfl, rfl⟩ (hsat.rewrite hb hn _) fun h => by cases h)
end
end Go.Proofs.YtaooojjhlngcmaaDoor
namespace Go.Proofs.YtaooojjhlngcmaaDoor
section
set_option maxRecDepth 100000
theorem en60 : Enters Tryd.prog 60 := enters_mk Tryd.func60 (by kernel_rfl) rfl
theorem en61 : Enters Tryd.prog 61 := enters_mk Tryd.func61 (by kernel_rfl) rfl
theorem en89 : Enters Tryd.prog 89 := enters_mk Tryd.func89 (by kernel_rfl) rfl
theorem en90 : Enters Tryd.prog 90 := enters_mk Tryd.func90 (by kernel_rfl) rfl
theorem fa96_0 : FAdr Tryd.prog 96 0 0 := fadr_mk Tryd.underlying96 rfl rfl (by kernel_rfl)
theorem fa96_1 : FAdr Tryd.prog 96 1 1 := fadr_mk Tryd.underlying96 rfl rfl (by kernel_rfl)
theorem z96 : Zero Tryd.prog 96 [.slice none 0 0, .map none] := ⟨zero_of (by kernel_rfl)⟩
theorem st96 : StT Tryd.prog 96 [(0, 1), (1, 1)] [.slice none 0 0, .map none] := ⟨⟨_, Tryd.underlying96, fun _ => by kernel_rfl, z96⟩⟩
theorem ty94 : Ty Tryd.prog 94 false 1 := ⟨⟨_, Tryd.underlying94, rfl⟩, by kernel_rfl⟩
end
open Go.RowKit
theorem MapAt.mono {X X' : PMap} {ns : List ByteArray} {om : Option Nat} (h : MapAt X ns om) (hX : X.le X') : MapAt X' ns om := by
  cases om with
  | none => exact h
  | some b => exact hX _ _ h
/-- A table of these names. -/
def TabR (X : PMap) (v : Value) (ns : List ByteArray) : Prop := ∃ (b : Nat) (vs : Value) (om : Option Nat), v = .pointer (some ⟨b, 0, none⟩) ∧ Blk X b [vs, .map om] ∧ RowR strC X vs ns ∧ MapAt X ns om
theorem TabR.mono {X X' : PMap} {v : Value} {ns : List ByteArray} (h : TabR X v ns) (hX : X.le X') : TabR X' v ns :=
  let ⟨b, vs, om, h1, h2, h3, h4⟩ := h
  ⟨b, vs, om, h1, h2.mono hX, h3.mono hX, h4.mono hX⟩
theorem new_spec {X : PMap} : Spec Tryd.prog 60 [] X fun u X' => TabR X' u [] := by
  refine Spec.enter Tryd.func60 rfl Tryd.ntmps60 rfl ?_
  intro w0 hw0
  refine T.seq ?_
  refine T.region ?_
  refine SL.y (op_assign rfl) rfl rfl ?_
  refine SL.nil ?_
  refine T.seq ?_
  refine T.region ?_
  refine SL.y (op_build st96 (qs := []) rfl rfl) rfl rfl ?_
  refine SL.x (op_box rfl) rfl rfl ?_
  rintro _ _ _ ⟨B2, rfl, rfl, rfl⟩
  refine SL.y (op_assign rfl) rfl rfl ?_
  refine SL.nil ?_
  refine T.pub B2 (by repeat constructor) ?_
  intro X1 hX1 hB1 _
  refine T.ret1 rfl (ResIs.tmp rfl) ?_
  exact ⟨B2, _, none, rfl, hB1, .inl ⟨rfl, _, _, rfl⟩, rfl⟩
theorem tlen_spec {X : PMap} {v : Value} {ns : List ByteArray} (h : TabR X v ns) : Spec Tryd.prog 35 [v] X fun u _ => u = .int .i64 (ns.length : Int) := by
  obtain ⟨b, vs, om, rfl, hB, hR, hM⟩ := h
  obtain ⟨A, cp, rfl⟩ := hR.form
  refine Spec.enter Tryd.func35 rfl Tryd.ntmps35 rfl ?_
  intro w0 hw0
  refine T.seq ?_
  refine T.region ?_
  refine SL.y (op_assign (v := .int .i64 ((0 : Nat) : Int)) rfl) rfl rfl ?_
  refine SL.nil ?_
  refine T.seq ?_
  refine T.seq ?_
  refine T.region ?_
  refine SL.y (op_move rfl) rfl rfl ?_
  refine SL.y (op_eqlNil Tryd.underlying65 rfl rfl) rfl rfl ?_
  refine SL.nil ?_
  refine T.condF rfl ?_
  refine T.skip ?_
  refine T.seq ?_
  refine T.region ?_
  refine SL.y (op_move rfl) rfl rfl ?_
  first | refine SL.y (op_nil rfl) rfl rfl ?_ | refine SL.y (op_nilFn rfl) rfl rfl ?_
  refine SL.y (op_fieldAddr fa96_0 rfl) rfl rfl ?_
  first | refine SL.y (op_load ty24 rfl (by repeat constructor) rfl) rfl rfl ?_ | refine SL.y (op_loadX ty24 rfl (by assumption) rfl) rfl rfl ?_
  refine SL.y (op_lenS Tryd.underlying24 rfl) rfl rfl ?_
  refine SL.y (op_assign rfl) rfl rfl ?_
  refine SL.nil ?_
  refine T.ret1 rfl (ResIs.tmp rfl) ?_
  rfl
theorem mclone_spec {X : PMap} {ns : List ByteArray} {om : Option Nat} (h : MapAt X ns om) : Spec Tryd.prog 90 [.map om] X fun u X' => (om = none ∧ u = .map none) ∨ ∃ b, u = .map (some b) ∧ X b = none ∧ X' b = some (MapObj ns) := by
  cases om with
  | none =>
    refine Spec.enter Tryd.func90 rfl Tryd.ntmps90 rfl ?_
    intro w0 hw0
    refine T.seq ?_
    refine T.region ?_
    refine SL.y (op_assign rfl) rfl rfl ?_
    refine SL.nil ?_
    refine T.seq ?_
    refine T.seq ?_
    refine T.region ?_
    refine SL.y (op_move rfl) rfl rfl ?_
    refine SL.y (op_eqlMapNil Tryd.underlying94 rfl rfl) rfl rfl ?_
    refine SL.nil ?_
    refine T.condT rfl ?_
    refine T.seq ?_
    refine T.region ?_
    refine SL.y (op_assign rfl) rfl rfl ?_
    refine SL.nil ?_
    refine T.ret1 rfl (ResIs.tmp rfl) ?_
    exact .inl ⟨rfl, rfl⟩
  | some b0 =>
    refine Spec.enter Tryd.func90 rfl Tryd.ntmps90 rfl ?_
    intro w0 hw0
    refine T.seq ?_
    refine T.region ?_
    refine SL.y (op_assign rfl) rfl rfl ?_
    refine SL.nil ?_
    refine T.seq ?_
    refine T.seq ?_
    refine T.region ?_
    refine SL.y (op_move rfl) rfl rfl ?_
    refine SL.y (op_eqlMapNil Tryd.underlying94 rfl rfl) rfl rfl ?_
    refine SL.nil ?_
    refine T.condF rfl ?_
    refine T.skip ?_
    refine T.seq ?_
    refine T.region ?_
    refine SL.y (op_move rfl) rfl rfl ?_
    refine SL.y (op_makeIface Tryd.underlying94 (fun _ h => by cases h) rfl) rfl rfl ?_
    refine SL.x (op_cloneMap Tryd.func107 (by kernel_rfl) (by kernel_rfl) (by kernel_rfl) (by kernel_rfl) rfl h) rfl rfl ?_
    rintro _ _ _ ⟨b, rfl, rfl, hb0, hb1, rfl⟩
    refine SL.y (op_assertMap Tryd.underlying94 rfl) rfl rfl ?_
    refine SL.y (op_assign rfl) rfl rfl ?_
    refine SL.nil ?_
    refine T.ret1 rfl (ResIs.tmp rfl) ?_
    exact .inr ⟨b, rfl, hb0, PMap.add_at⟩
theorem sclone_spec {X : PMap} {v : Value} {l : List ByteArray} (h : RowR strC X v l) (hl : l.length < 100000) : SpecO Tryd.prog 89 [v] X fun u own1 _ => GrowS 9 1 u l.length (strsC l) own1 := by
  obtain ⟨A, cp, rfl⟩ := h.form
  rcases A with _ | ad
  · have hn : l = [] := by
      rcases h with ⟨h1, _⟩ | ⟨_, b, c, pre, hv, _⟩
      · exact h1
      · cases hv
    subst hn
    refine SpecO.enter Tryd.func89 rfl Tryd.ntmps89 rfl ?_
    intro w0 hw0
    refine T.seq ?_
    refine T.region ?_
    refine SL.y (op_assign rfl) rfl rfl ?_
    refine SL.nil ?_
    refine T.seq ?_
    refine T.seq ?_
    refine T.region ?_
    refine SL.y (op_move rfl) rfl rfl ?_
    refine SL.y (op_eqlSNil Tryd.underlying24 rfl rfl) rfl rfl ?_
    refine SL.nil ?_
    refine T.condT rfl ?_
    refine T.seq ?_
    refine T.region ?_
    refine SL.y (op_assign rfl) rfl rfl ?_
    refine SL.nil ?_
    refine T.retO1 rfl (ResIs.tmp rfl) ?_
    exact .inl ⟨rfl, rfl, rfl, rfl⟩
  · refine SpecO.enter Tryd.func89 rfl Tryd.ntmps89 rfl ?_
    intro w0 hw0
    refine T.seq ?_
    refine T.region ?_
    refine SL.y (op_assign rfl) rfl rfl ?_
    refine SL.nil ?_
    refine T.seq ?_
    refine T.seq ?_
    refine T.region ?_
    refine SL.y (op_move rfl) rfl rfl ?_
    refine SL.y (op_eqlSNil Tryd.underlying24 rfl rfl) rfl rfl ?_
    refine SL.nil ?_
    refine T.condF rfl ?_
    refine T.skip ?_
    refine T.seq ?_
    refine T.region ?_
    refine SL.x (op_buildSlice Tryd.underlying24 bs9 (qs := []) rfl rfl rfl rfl rfl) rfl rfl ?_
    rintro _ _ _ ⟨B5, rfl, rfl, rfl⟩
    refine SL.y (op_move rfl) rfl rfl ?_
    refine SL.x (op_append (m := l.length) (news := strsC l) sl24 rfl rfl (by repeat constructor) rfl rfl (Nat.le_refl _) (by decide) (by rw [← strsC_flat]; exact Src.ofRow strC_len h) (strsC_one l) (by (have : maxLen = 9223372036854775807 := rfl); omega) (by omega)) rfl rfl ?_
    rintro _ _ _ ⟨b7, cap7, rfl, rfl, rfl, hc7, hm7⟩
    refine SL.y (op_assign rfl) rfl rfl ?_
    refine SL.nil ?_
    refine T.retO1 rfl (ResIs.tmp rfl) ?_
    exact .inr ⟨b7, cap7, by rw [Nat.zero_add], rfl, by omega, hm7, by rw [Nat.mul_one]; exact strsC_len l⟩
/-- What is wrong with one more name. -/
noncomputable def errA (ns : List ByteArray) (s : ByteArray) (n : Nat) : Int := if ¬validS s then 9 else if s ∈ ns then 5 else if n ≤ ns.length ∨ 256 ≤ ns.length then 14 else 0
theorem add_spec {X : PMap} {v : Value} {ns : List ByteArray} {s : ByteArray} {n : Nat} (h : TabR X v ns) (hl : ns.length ≤ 256) : Spec Tryd.prog 61 [v, .string s, .int .i64 (n : Int)] X fun u X' => if errA ns s n = 0 then ∃ v', u = .tuple #[v', .int .i64 ((ns ++ [s]).length : Int), .int .i64 0] ∧ TabR X' v' (ns ++ [s]) else u = .tuple #[.pointer none, .int .i64 0, .int .i64 (errA ns s n)] := by
  obtain ⟨b, vs, om, rfl, hB, hR, hM⟩ := h
  obtain ⟨A, cp, rfl⟩ := hR.form
  refine Spec.enter Tryd.func61 rfl Tryd.ntmps61 rfl ?_
  intro w0 hw0
  refine T.seq ?_
  refine T.region ?_
  refine SL.y (op_assign rfl) rfl rfl ?_
  refine SL.y (op_assign (v := .int .i64 ((0 : Nat) : Int)) rfl) rfl rfl ?_
  refine SL.y (op_assign (v := .int .i64 ((0 : Nat) : Int)) rfl) rfl rfl ?_
  refine SL.nil ?_
  refine T.seq ?_
  refine T.block ?_
  refine T.seq ?_
  refine T.region ?_
  refine SL.y (op_move rfl) rfl rfl ?_
  refine SL.y (op_eqlNil Tryd.underlying65 rfl rfl) rfl rfl ?_
  refine SL.y (op_assign rfl) rfl rfl ?_
  refine SL.nil ?_
  refine T.condF rfl ?_
  refine T.seq ?_
  refine T.region ?_
  refine SL.y (op_move rfl) rfl rfl ?_
  refine SL.x (op_callF en42 (vs := [_]) rfl (nvalid_spec)) rfl rfl ?_
  rintro _ _ X1 ⟨rfl, hX1, rfl⟩
  have hB := hB.mono hX1
  by_cases hv : validS s
  case neg =>
    have he : errA ns s n = 9 := by rw [errA, if_pos hv]
    rw [decide_eq_false hv]
    refine SL.y (op_not rfl) rfl rfl ?_
    refine SL.y (op_assign rfl) rfl rfl ?_
    refine SL.nil ?_
    refine T.condT rfl ?_
    refine T.seq ?_
    refine T.region ?_
    refine SL.y (op_assign rfl) rfl rfl ?_
    refine SL.y (op_assign (v := .int .i64 ((0 : Nat) : Int)) rfl) rfl rfl ?_
    refine SL.y (op_assign (v := .int .i64 ((9 : Nat) : Int)) rfl) rfl rfl ?_
    refine SL.nil ?_
    refine T.ret3 rfl rfl rfl rfl ?_
    rw [he, if_neg (by decide)]
    rfl
  rw [decide_eq_true hv]
  refine SL.y (op_not rfl) rfl rfl ?_
  refine SL.y (op_assign rfl) rfl rfl ?_
  refine SL.nil ?_
  refine T.condF rfl ?_
  refine T.seq ?_
  refine T.region ?_
  refine SL.y (op_move rfl) rfl rfl ?_
  first | refine SL.y (op_nil rfl) rfl rfl ?_ | refine SL.y (op_nilFn rfl) rfl rfl ?_
  refine SL.y (op_fieldAddr fa96_1 rfl) rfl rfl ?_
  first | refine SL.y (op_load ty94 rfl (by repeat constructor) rfl) rfl rfl ?_ | refine SL.y (op_loadX ty94 rfl (by assumption) rfl) rfl rfl ?_
  refine SL.y (op_move rfl) rfl rfl ?_
  refine SL.y (op_lookupN (s := s) Tryd.underlying94 Tryd.underlying9 (by kernel_rfl) rfl rfl (hM.mono hX1)) rfl rfl ?_
  by_cases hm : s ∈ ns
  case pos =>
    have he : errA ns s n = 5 := by rw [errA, if_neg (by simpa using hv), if_pos hm]
    have hp := posN_pos.2 hm
    first | refine SL.y (op_gtrT rfl rfl (by omega)) rfl rfl ?_ | refine SL.y (op_gtrF rfl rfl (by omega)) rfl rfl ?_ | refine SL.y (op_gtr rfl rfl) rfl rfl ?_
    refine SL.y (op_assign rfl) rfl rfl ?_
    refine SL.nil ?_
    refine T.condT rfl ?_
    refine T.seq ?_
    refine T.region ?_
    refine SL.y (op_assign rfl) rfl rfl ?_
    refine SL.y (op_assign (v := .int .i64 ((0 : Nat) : Int)) rfl) rfl rfl ?_
    refine SL.y (op_assign (v := .int .i64 ((5 : Nat) : Int)) rfl) rfl rfl ?_
    refine SL.nil ?_
    refine T.ret3 rfl rfl rfl rfl ?_
    rw [he, if_neg (by decide)]
    rfl
  have hp : posN s ns = 0 := Nat.eq_zero_of_not_pos fun h => hm (posN_pos.1 h)
  rw [hp]
  by_cases h1 : n ≤ ns.length
  · have he : errA ns s n = 14 := by rw [errA, if_neg (by simpa using hv), if_neg hm, if_pos (.inl h1)]
    first | refine SL.y (op_gtrT rfl rfl (by omega)) rfl rfl ?_ | refine SL.y (op_gtrF rfl rfl (by omega)) rfl rfl ?_ | refine SL.y (op_gtr rfl rfl) rfl rfl ?_
    refine SL.y (op_assign rfl) rfl rfl ?_
    refine SL.nil ?_
    refine T.condF rfl ?_
    refine T.seq ?_
    refine T.region ?_
    refine SL.y (op_move rfl) rfl rfl ?_
    first | refine SL.y (op_nil rfl) rfl rfl ?_ | refine SL.y (op_nilFn rfl) rfl rfl ?_
    refine SL.y (op_fieldAddr fa96_0 rfl) rfl rfl ?_
    first | refine SL.y (op_load ty24 rfl (by repeat constructor) rfl) rfl rfl ?_ | refine SL.y (op_loadX ty24 rfl (by assumption) rfl) rfl rfl ?_
    refine SL.y (op_lenS Tryd.underlying24 rfl) rfl rfl ?_
    refine SL.y (op_move rfl) rfl rfl ?_
    first | refine SL.y (op_geqT rfl rfl (by omega)) rfl rfl ?_ | refine SL.y (op_geqF rfl rfl (by omega)) rfl rfl ?_ | refine SL.y (op_geq rfl rfl) rfl rfl ?_
    refine SL.y (op_move rfl) rfl rfl ?_
    first | refine SL.skip rfl rfl ?_ | refine SL.y (op_move rfl) rfl rfl ?_
    first | refine SL.skip rfl rfl ?_ | refine SL.y (op_nil rfl) rfl rfl ?_ | refine SL.y (op_nilFn rfl) rfl rfl ?_
    first | refine SL.skip rfl rfl ?_ | refine SL.y (op_fieldAddr fa96_0 rfl) rfl rfl ?_
    first | refine SL.skip rfl rfl ?_ | refine SL.y (op_load ty24 rfl (by repeat constructor) rfl) rfl rfl ?_ | refine SL.y (op_loadX ty24 rfl (by assumption) rfl) rfl rfl ?_
    first | refine SL.skip rfl rfl ?_ | refine SL.y (op_lenS Tryd.underlying24 rfl) rfl rfl ?_
    first | refine SL.skip rfl rfl ?_ | refine SL.y (op_geqT rfl rfl (by omega)) rfl rfl ?_ | refine SL.y (op_geqF rfl rfl (by omega)) rfl rfl ?_ | refine SL.y (op_geq rfl rfl) rfl rfl ?_
    first | refine SL.y (op_pickT rfl rfl) rfl rfl ?_ | refine SL.y (op_pickF rfl rfl) rfl rfl ?_ | refine SL.y (op_pickB rfl rfl rfl) rfl rfl ?_
    refine SL.y (op_assign rfl) rfl rfl ?_
    refine SL.nil ?_
    refine T.condT rfl ?_
    refine T.seq ?_
    refine T.region ?_
    refine SL.y (op_assign rfl) rfl rfl ?_
    refine SL.y (op_assign (v := .int .i64 ((0 : Nat) : Int)) rfl) rfl rfl ?_
    refine SL.y (op_assign (v := .int .i64 ((14 : Nat) : Int)) rfl) rfl rfl ?_
    refine SL.nil ?_
    refine T.ret3 rfl rfl rfl rfl ?_
    rw [he, if_neg (by decide)]
    rfl
  by_cases h2 : 256 ≤ ns.length
  · have he : errA ns s n = 14 := by rw [errA, if_neg (by simpa using hv), if_neg hm, if_pos (.inr h2)]
    first | refine SL.y (op_gtrT rfl rfl (by omega)) rfl rfl ?_ | refine SL.y (op_gtrF rfl rfl (by omega)) rfl rfl ?_ | refine SL.y (op_gtr rfl rfl) rfl rfl ?_
    refine SL.y (op_assign rfl) rfl rfl ?_
    refine SL.nil ?_
    refine T.condF rfl ?_
    refine T.seq ?_
    refine T.region ?_
    refine SL.y (op_move rfl) rfl rfl ?_
    first | refine SL.y (op_nil rfl) rfl rfl ?_ | refine SL.y (op_nilFn rfl) rfl rfl ?_
    refine SL.y (op_fieldAddr fa96_0 rfl) rfl rfl ?_
    first | refine SL.y (op_load ty24 rfl (by repeat constructor) rfl) rfl rfl ?_ | refine SL.y (op_loadX ty24 rfl (by assumption) rfl) rfl rfl ?_
    refine SL.y (op_lenS Tryd.underlying24 rfl) rfl rfl ?_
    refine SL.y (op_move rfl) rfl rfl ?_
    first | refine SL.y (op_geqT rfl rfl (by omega)) rfl rfl ?_ | refine SL.y (op_geqF rfl rfl (by omega)) rfl rfl ?_ | refine SL.y (op_geq rfl rfl) rfl rfl ?_
    refine SL.y (op_move rfl) rfl rfl ?_
    first | refine SL.skip rfl rfl ?_ | refine SL.y (op_move rfl) rfl rfl ?_
    first | refine SL.skip rfl rfl ?_ | refine SL.y (op_nil rfl) rfl rfl ?_ | refine SL.y (op_nilFn rfl) rfl rfl ?_
    first | refine SL.skip rfl rfl ?_ | refine SL.y (op_fieldAddr fa96_0 rfl) rfl rfl ?_
    first | refine SL.skip rfl rfl ?_ | refine SL.y (op_load ty24 rfl (by repeat constructor) rfl) rfl rfl ?_ | refine SL.y (op_loadX ty24 rfl (by assumption) rfl) rfl rfl ?_
    first | refine SL.skip rfl rfl ?_ | refine SL.y (op_lenS Tryd.underlying24 rfl) rfl rfl ?_
    first | refine SL.skip rfl rfl ?_ | refine SL.y (op_geqT rfl rfl (by omega)) rfl rfl ?_ | refine SL.y (op_geqF rfl rfl (by omega)) rfl rfl ?_ | refine SL.y (op_geq rfl rfl) rfl rfl ?_
    first | refine SL.y (op_pickT rfl rfl) rfl rfl ?_ | refine SL.y (op_pickF rfl rfl) rfl rfl ?_ | refine SL.y (op_pickB rfl rfl rfl) rfl rfl ?_
    refine SL.y (op_assign rfl) rfl rfl ?_
    refine SL.nil ?_
    refine T.condT rfl ?_
    refine T.seq ?_
    refine T.region ?_
    refine SL.y (op_assign rfl) rfl rfl ?_
    refine SL.y (op_assign (v := .int .i64 ((0 : Nat) : Int)) rfl) rfl rfl ?_
    refine SL.y (op_assign (v := .int .i64 ((14 : Nat) : Int)) rfl) rfl rfl ?_
    refine SL.nil ?_
    refine T.ret3 rfl rfl rfl rfl ?_
    rw [he, if_neg (by decide)]
    rfl
  have he : errA ns s n = 0 := by rw [errA, if_neg (by simpa using hv), if_neg hm, if_neg (by omega)]
  rw [he]
  first | refine SL.y (op_gtrT rfl rfl (by omega)) rfl rfl ?_ | refine SL.y (op_gtrF rfl rfl (by omega)) rfl rfl ?_ | refine SL.y (op_gtr rfl rfl) rfl rfl ?_
  refine SL.y (op_assign rfl) rfl rfl ?_
  refine SL.nil ?_
  refine T.condF rfl ?_
  refine T.seq ?_
  refine T.region ?_
  refine SL.y (op_move rfl) rfl rfl ?_
  first | refine SL.y (op_nil rfl) rfl rfl ?_ | refine SL.y (op_nilFn rfl) rfl rfl ?_
  refine SL.y (op_fieldAddr fa96_0 rfl) rfl rfl ?_
  first | refine SL.y (op_load ty24 rfl (by repeat constructor) rfl) rfl rfl ?_ | refine SL.y (op_loadX ty24 rfl (by assumption) rfl) rfl rfl ?_
  refine SL.y (op_lenS Tryd.underlying24 rfl) rfl rfl ?_
  refine SL.y (op_move rfl) rfl rfl ?_
  first | refine SL.y (op_geqT rfl rfl (by omega)) rfl rfl ?_ | refine SL.y (op_geqF rfl rfl (by omega)) rfl rfl ?_ | refine SL.y (op_geq rfl rfl) rfl rfl ?_
  refine SL.y (op_move rfl) rfl rfl ?_
  first | refine SL.skip rfl rfl ?_ | refine SL.y (op_move rfl) rfl rfl ?_
  first | refine SL.skip rfl rfl ?_ | refine SL.y (op_nil rfl) rfl rfl ?_ | refine SL.y (op_nilFn rfl) rfl rfl ?_
  first | refine SL.skip rfl rfl ?_ | refine SL.y (op_fieldAddr fa96_0 rfl) rfl rfl ?_
  first | refine SL.skip rfl rfl ?_ | refine SL.y (op_load ty24 rfl (by repeat constructor) rfl) rfl rfl ?_ | refine SL.y (op_loadX ty24 rfl (by assumption) rfl) rfl rfl ?_
  first | refine SL.skip rfl rfl ?_ | refine SL.y (op_lenS Tryd.underlying24 rfl) rfl rfl ?_
  first | refine SL.skip rfl rfl ?_ | refine SL.y (op_geqT rfl rfl (by omega)) rfl rfl ?_ | refine SL.y (op_geqF rfl rfl (by omega)) rfl rfl ?_ | refine SL.y (op_geq rfl rfl) rfl rfl ?_
  first | refine SL.y (op_pickT rfl rfl) rfl rfl ?_ | refine SL.y (op_pickF rfl rfl) rfl rfl ?_ | refine SL.y (op_pickB rfl rfl rfl) rfl rfl ?_
  refine SL.y (op_assign rfl) rfl rfl ?_
  refine SL.nil ?_
  refine T.condF rfl ?_
  refine T.skip ?_
  refine T.blk ?_
  refine T.seq ?_
  refine T.draw (by kernel_rfl) 12 [.t 0, .t 1, .t 2, .t 3, .t 5, .t 8, .t 9, .t 10, .t 11, .f 4 6, .r 7] (by kernel_rfl) ?_
  refine SD.take rfl panicBody (op_move rfl) rfl rfl ?_
  first | refine SD.take rfl panicBody (op_nil rfl) rfl rfl ?_ | refine SD.take rfl panicBody (op_nilFn rfl) rfl rfl ?_
  refine SD.take rfl panicBody (op_fieldAddr fa96_0 rfl) rfl rfl ?_
  first | refine SD.take rfl panicBody (op_load ty24 rfl (by repeat constructor) rfl) rfl rfl ?_ | refine SD.take rfl panicBody (op_loadX ty24 rfl (by assumption) rfl) rfl rfl ?_
  refine SD.take rfl panicBody (op_move rfl) rfl rfl ?_
  refine SD.take rfl panicBody (op_move rfl) rfl rfl ?_
  first | refine SD.take rfl panicBody (op_nil rfl) rfl rfl ?_ | refine SD.take rfl panicBody (op_nilFn rfl) rfl rfl ?_
  refine SD.take rfl panicBody (op_fieldAddr fa96_1 rfl) rfl rfl ?_
  first | refine SD.take rfl panicBody (op_load ty94 rfl (by repeat constructor) rfl) rfl rfl ?_ | refine SD.take rfl panicBody (op_loadX ty94 rfl (by assumption) rfl) rfl rfl ?_
  have hR := hR.mono hX1
  have hM := hM.mono hX1
  refine SD.fork rfl rfl (K := (fun v1 v2 own' X' => ∃ (G : Own) (bb : Nat), v2 = .slice (some ⟨bb, 0, none⟩) 1 1 ∧ own' = ⟨bb, [.string s], 9, 1⟩ :: ([] ++ G) ∧ GrowS 9 1 v1 ns.length (strsC ns) G ∧ X1.le X')) ((op_callO (vs := [_]) en89 rfl (sclone_spec hR (by omega))).mono (by rintro v own' X' ⟨G, rfl, hX2, hG⟩; exact (op_buildSlice Tryd.underlying24 bs9 (qs := [(0, _)]) rfl rfl rfl rfl rfl).mono (by rintro v2 own2 X2 ⟨bb, rfl, rfl, rfl⟩; exact ⟨G, bb, rfl, by rw [List.append_nil]; rfl, hG, hX2⟩))) ((op_buildSlice Tryd.underlying24 bs9 (qs := [(0, _)]) rfl rfl rfl rfl rfl).mono (by rintro v2 own2 X2 ⟨bb, rfl, rfl, rfl⟩; exact (op_callO (vs := [_]) en89 rfl (sclone_spec hR (by omega))).mono (by rintro v own' X' ⟨G, rfl, hX2, hG⟩; exact ⟨_, List.perm_append_singleton _ _, G, bb, rfl, rfl, hG, hX2⟩))) rfl (fun _ => rfl) rfl (fun _ => rfl) rfl rfl rfl ?_
  rintro v1 _ _ X2 ⟨G, bb, rfl, rfl, hG, hX2⟩
  refine SD.runK rfl (op_appendG (own0 := []) sl24 rfl hG rfl rfl rfl (by (have : maxLen = 9223372036854775807 := rfl); omega) (by omega)) (by rintro _ _ _ ⟨G2, rfl, rfl, hG2⟩; exact ⟨fun p hp => (by cases hp), hX2⟩) rfl rfl ?_
  rintro v3 G2 _ ⟨_, rfl, rfl, hG2⟩
  refine SD.nil ?_
  show SL _ _ _ _ _ _ _ [_, _, _, _] _ _ _
  have hG2 : GrowS 9 1 v3 (ns ++ [s]).length (strsC (ns ++ [s])) G2 := by rw [List.length_append, strsC_app]; exact hG2
  obtain ⟨A3, c3, rfl⟩ := hG2.form
  refine SL.x (op_callN (vs := [_]) en90 rfl (mclone_spec (hM.mono hX2))) rfl rfl ?_
  rintro v4 _ X3 ⟨rfl, hX3, hnew, hcl⟩
  rcases hcl with ⟨rfl, rfl⟩ | ⟨bm, rfl, hb0, hb1⟩
  · have hns : ns = [] := hM
    subst hns
    refine SL.y (op_build st96 (qs := [(0, _), (1, _)]) rfl rfl) rfl rfl ?_
    refine SL.x (op_box rfl) rfl rfl ?_
    rintro _ _ _ ⟨B55, rfl, rfl, rfl⟩
    refine SL.y (op_assign rfl) rfl rfl ?_
    refine SL.nil ?_
    refine T.seq ?_
    refine T.seq ?_
    refine T.region ?_
    refine SL.y (op_move rfl) rfl rfl ?_
    first | refine SL.y (op_nil rfl) rfl rfl ?_ | refine SL.y (op_nilFn rfl) rfl rfl ?_
    refine SL.y (op_fieldAddr fa96_1 rfl) rfl rfl ?_
    first | refine SL.y (op_load ty94 rfl (by repeat constructor) rfl) rfl rfl ?_ | refine SL.y (op_loadX ty94 rfl (by assumption) rfl) rfl rfl ?_
    refine SL.y (op_eqlMapNil Tryd.underlying94 rfl rfl) rfl rfl ?_
    refine SL.nil ?_
    refine T.condT rfl ?_
    refine T.region ?_
    refine SL.y (op_move rfl) rfl rfl ?_
    refine SL.x op_makeMap rfl rfl ?_
    rintro _ _ _ ⟨bm, rfl, rfl, hb0, hb1, rfl⟩
    first | refine SL.y (op_nil rfl) rfl rfl ?_ | refine SL.y (op_nilFn rfl) rfl rfl ?_
    refine SL.y (op_fieldAddr fa96_1 rfl) rfl rfl ?_
    refine SL.x (op_store ty94 rfl rfl (by repeat constructor) rfl rfl rfl) rfl rfl ?_
    rintro _ _ _ ⟨rfl, rfl⟩
    refine SL.nil ?_
    refine T.seq ?_
    refine T.draw (by kernel_rfl) 10 [.t 0, .t 1, .t 2, .t 3, .t 4, .t 5, .t 6, .t 7, .t 8, .t 9] (by kernel_rfl) ?_
    refine SD.take rfl panicBody (op_move rfl) rfl rfl ?_
    first | refine SD.take rfl panicBody (op_nil rfl) rfl rfl ?_ | refine SD.take rfl panicBody (op_nilFn rfl) rfl rfl ?_
    refine SD.take rfl panicBody (op_fieldAddr fa96_1 rfl) rfl rfl ?_
    first | refine SD.take rfl panicBody (op_load ty94 rfl (by repeat constructor) rfl) rfl rfl ?_ | refine SD.take rfl panicBody (op_loadX ty94 rfl (by assumption) rfl) rfl rfl ?_
    refine SD.take rfl panicBody (op_move rfl) rfl rfl ?_
    refine SD.take rfl panicBody (op_move rfl) rfl rfl ?_
    first | refine SD.take rfl panicBody (op_nil rfl) rfl rfl ?_ | refine SD.take rfl panicBody (op_nilFn rfl) rfl rfl ?_
    refine SD.take rfl panicBody (op_fieldAddr fa96_0 rfl) rfl rfl ?_
    first | refine SD.take rfl panicBody (op_load ty24 rfl (by repeat constructor) rfl) rfl rfl ?_ | refine SD.take rfl panicBody (op_loadX ty24 rfl (by assumption) rfl) rfl rfl ?_
    refine SD.take rfl panicBody (op_lenS Tryd.underlying24 rfl) rfl rfl ?_
    refine SD.nil ?_
    show SL _ _ _ _ _ _ _ [_] _ _ _
    refine SL.x (op_putN (ns := []) (s := s) Tryd.underlying94 Tryd.underlying9 rfl rfl rfl PMap.add_at hb1 hm) rfl rfl ?_
    rintro _ _ _ ⟨rfl, rfl⟩
    refine SL.nil ?_
    refine T.seq ?_
    refine T.draw (by kernel_rfl) 9 [.t 0, .t 1, .t 2, .t 3, .t 4, .t 5, .t 6, .t 7, .t 8] (by kernel_rfl) ?_
    refine SD.take rfl panicBody (op_move rfl) rfl rfl ?_
    refine SD.take rfl panicBody (op_move rfl) rfl rfl ?_
    first | refine SD.take rfl panicBody (op_nil rfl) rfl rfl ?_ | refine SD.take rfl panicBody (op_nilFn rfl) rfl rfl ?_
    refine SD.take rfl panicBody (op_fieldAddr fa96_0 rfl) rfl rfl ?_
    first | refine SD.take rfl panicBody (op_load ty24 rfl (by repeat constructor) rfl) rfl rfl ?_ | refine SD.take rfl panicBody (op_loadX ty24 rfl (by assumption) rfl) rfl rfl ?_
    refine SD.take rfl panicBody (op_lenS Tryd.underlying24 rfl) rfl rfl ?_
    refine SD.take rfl panicBody (op_assign rfl) rfl rfl ?_
    refine SD.take rfl panicBody (op_assign rfl) rfl rfl ?_
    refine SD.take rfl panicBody (op_assign (v := .int .i64 ((0 : Nat) : Int)) rfl) rfl rfl ?_
    refine SD.nil ?_
    show SL _ _ _ _ _ _ _ [] _ _ _
    refine SL.nil ?_
    refine T.pub B55 (by repeat constructor) ?_
    intro X8 hX8 hB55 _
    refine T.pubG (own0 := []) hG2 ?_
    intro X9 hX9 hS9
    refine T.ret3 rfl rfl rfl rfl ?_
    exact ⟨_, rfl, B55, _, some bm, rfl, hB55.mono hX9, RowR.ofG (rc := strC) (by rw [strsC_flat]; exact hG2) (by rw [strsC_flat]; exact hS9), hX9 _ _ (hX8 _ _ PMap.add_at)⟩
  · refine SL.y (op_build st96 (qs := [(0, _), (1, _)]) rfl rfl) rfl rfl ?_
    refine SL.x (op_box rfl) rfl rfl ?_
    rintro _ _ _ ⟨B55, rfl, rfl, rfl⟩
    refine SL.y (op_assign rfl) rfl rfl ?_
    refine SL.nil ?_
    refine T.seq ?_
    refine T.seq ?_
    refine T.region ?_
    refine SL.y (op_move rfl) rfl rfl ?_
    first | refine SL.y (op_nil rfl) rfl rfl ?_ | refine SL.y (op_nilFn rfl) rfl rfl ?_
    refine SL.y (op_fieldAddr fa96_1 rfl) rfl rfl ?_
    first | refine SL.y (op_load ty94 rfl (by repeat constructor) rfl) rfl rfl ?_ | refine SL.y (op_loadX ty94 rfl (by assumption) rfl) rfl rfl ?_
    refine SL.y (op_eqlMapNil Tryd.underlying94 rfl rfl) rfl rfl ?_
    refine SL.nil ?_
    refine T.condF rfl ?_
    refine T.skip ?_
    refine T.seq ?_
    refine T.draw (by kernel_rfl) 10 [.t 0, .t 1, .t 2, .t 3, .t 4, .t 5, .t 6, .t 7, .t 8, .t 9] (by kernel_rfl) ?_
    refine SD.take rfl panicBody (op_move rfl) rfl rfl ?_
    first | refine SD.take rfl panicBody (op_nil rfl) rfl rfl ?_ | refine SD.take rfl panicBody (op_nilFn rfl) rfl rfl ?_
    refine SD.take rfl panicBody (op_fieldAddr fa96_1 rfl) rfl rfl ?_
    first | refine SD.take rfl panicBody (op_load ty94 rfl (by repeat constructor) rfl) rfl rfl ?_ | refine SD.take rfl panicBody (op_loadX ty94 rfl (by assumption) rfl) rfl rfl ?_
    refine SD.take rfl panicBody (op_move rfl) rfl rfl ?_
    refine SD.take rfl panicBody (op_move rfl) rfl rfl ?_
    first | refine SD.take rfl panicBody (op_nil rfl) rfl rfl ?_ | refine SD.take rfl panicBody (op_nilFn rfl) rfl rfl ?_
    refine SD.take rfl panicBody (op_fieldAddr fa96_0 rfl) rfl rfl ?_
    first | refine SD.take rfl panicBody (op_load ty24 rfl (by repeat constructor) rfl) rfl rfl ?_ | refine SD.take rfl panicBody (op_loadX ty24 rfl (by assumption) rfl) rfl rfl ?_
    refine SD.take rfl panicBody (op_lenS Tryd.underlying24 rfl) rfl rfl ?_
    refine SD.nil ?_
    show SL _ _ _ _ _ _ _ [_] _ _ _
    refine SL.x (op_putN (ns := ns) (s := s) Tryd.underlying94 Tryd.underlying9 rfl rfl rfl hb1 (hnew bm hb0 (by rw [hb1]; simp)) hm) rfl rfl ?_
    rintro _ _ _ ⟨rfl, rfl⟩
    refine SL.nil ?_
    refine T.seq ?_
    refine T.draw (by kernel_rfl) 9 [.t 0, .t 1, .t 2, .t 3, .t 4, .t 5, .t 6, .t 7, .t 8] (by kernel_rfl) ?_
    refine SD.take rfl panicBody (op_move rfl) rfl rfl ?_
    refine SD.take rfl panicBody (op_move rfl) rfl rfl ?_
    first | refine SD.take rfl panicBody (op_nil rfl) rfl rfl ?_ | refine SD.take rfl panicBody (op_nilFn rfl) rfl rfl ?_
    refine SD.take rfl panicBody (op_fieldAddr fa96_0 rfl) rfl rfl ?_
    first | refine SD.take rfl panicBody (op_load ty24 rfl (by repeat constructor) rfl) rfl rfl ?_ | refine SD.take rfl panicBody (op_loadX ty24 rfl (by assumption) rfl) rfl rfl ?_
    refine SD.take rfl panicBody (op_lenS Tryd.underlying24 rfl) rfl rfl ?_
    refine SD.take rfl panicBody (op_assign rfl) rfl rfl ?_
    refine SD.take rfl panicBody (op_assign rfl) rfl rfl ?_
    refine SD.take rfl panicBody (op_assign (v := .int .i64 ((0 : Nat) : Int)) rfl) rfl rfl ?_
    refine SD.nil ?_
    show SL _ _ _ _ _ _ _ [] _ _ _
    refine SL.nil ?_
    refine T.pub B55 (by repeat constructor) ?_
    intro X8 hX8 hB55 _
    refine T.pubG (own0 := []) hG2 ?_
    intro X9 hX9 hS9
    refine T.ret3 rfl rfl rfl rfl ?_
    exact ⟨_, rfl, B55, _, some bm, rfl, hB55.mono hX9, RowR.ofG (rc := strC) (by rw [strsC_flat]; exact hG2) (by rw [strsC_flat]; exact hS9), hX9 _ _ (hX8 _ _ PMap.add_at)⟩
/-- What is wrong with the first of these names with which something is wrong. -/
noncomputable def errOf (n : Nat) (pre : List ByteArray) : List ByteArray → Int
  | [] => 0
  | s :: l => if errA pre s n ≠ 0 then errA pre s n else errOf n (pre ++ [s]) l
theorem errOf_app (n : Nat) (b : List ByteArray) : ∀ (a pre : List ByteArray), errOf n pre (a ++ b) = if errOf n pre a ≠ 0 then errOf n pre a else errOf n (pre ++ a) b
  | [], pre => by simp [errOf]
  | s :: a, pre => by
    rw [List.cons_append, errOf, errOf, errOf_app n b a (pre ++ [s])]
    by_cases h : errA pre s n ≠ 0
    · rw [if_pos h, if_pos h, if_pos h]
    · rw [if_neg h, if_neg h, List.append_assoc]; rfl
theorem errA_zero {ns : List ByteArray} {s : ByteArray} {n : Nat} (h : errA ns s n = 0) : validS s ∧ s ∉ ns ∧ ns.length < n ∧ ns.length < 256 := by
  unfold errA at h
  split at h
  · cases h
  · rename_i h1
    split at h
    · cases h
    · rename_i h2
      split at h
      · cases h
      · rename_i h3
        exact ⟨by simpa using h1, h2, by omega, by omega⟩
theorem errOf_len {n : Nat} : ∀ {a pre : List ByteArray}, errOf n pre a = 0 → pre.length ≤ 256 → (pre ++ a).length ≤ 256
  | [], pre, _, h => by simpa using h
  | s :: a, pre, h, hp => by
    rw [errOf] at h
    by_cases h1 : errA pre s n ≠ 0
    · rw [if_pos h1] at h; exact absurd h h1
    · rw [if_neg h1] at h
      have h2 := errA_zero (Decidable.not_not.1 h1)
      have := errOf_len h (by rw [List.length_append]; simp; omega)
      simp only [List.length_append, List.length_cons, List.length_nil] at this ⊢; omega
/-- Names that are all well. -/
theorem errOf_ok {n : Nat} : ∀ {a pre : List ByteArray}, (∀ s ∈ a, validS s) → (pre ++ a).Nodup → (pre ++ a).length ≤ n → n ≤ 256 → errOf n pre a = 0
  | [], _, _, _, _, _ => rfl
  | s :: a, pre, hv, hd, hl, hn => by
    have h1 : errA pre s n = 0 := by
      rw [errA, if_neg (by simpa using hv s (by simp)), if_neg, if_neg]
      · simp only [List.length_append, List.length_cons] at hl; omega
      · intro hm
        rw [List.nodup_append] at hd
        exact hd.2.2 s hm s (by simp) rfl
    rw [errOf, if_neg (by simpa using h1)]
    have e : pre ++ [s] ++ a = pre ++ s :: a := by simp
    exact errOf_ok (fun t ht => hv t (by simp [ht])) (e ▸ hd) (e ▸ hl) hn
theorem of_tab_spec {X : PMap} {v : Value} {l : List ByteArray} {n : Nat} (h : RowR strC X v l) (hl : l.length < 1000000) : Spec Tryd.prog 34 [v, .int .i64 (n : Int)] X fun u X' => if errOf n [] l = 0 then ∃ v', u = .tuple #[v', .int .i64 0] ∧ TabR X' v' l else u = .tuple #[.pointer none, .int .i64 (errOf n [] l)] := by
  obtain ⟨A, cp, rfl⟩ := h.form
  refine Spec.enter Tryd.func34 rfl Tryd.ntmps34 rfl ?_
  intro w0 hw0
  refine T.seq ?_
  refine T.region ?_
  refine SL.y (op_assign rfl) rfl rfl ?_
  refine SL.y (op_assign (v := .int .i64 ((0 : Nat) : Int)) rfl) rfl rfl ?_
  refine SL.nil ?_
  refine T.seq ?_
  refine T.region ?_
  refine SL.x (op_callF en60 (vs := []) rfl (new_spec)) rfl rfl ?_
  rintro vt _ X1 ⟨rfl, hX1, hT⟩
  refine SL.y (op_assign rfl) rfl rfl ?_
  refine SL.nil ?_
  refine T.seq ?_
  refine T.seq ?_
  refine T.region ?_
  refine SL.y (op_move rfl) rfl rfl ?_
  refine SL.y (op_lenS Tryd.underlying24 rfl) rfl rfl ?_
  refine SL.y (op_move (v := .int .i64 ((0 : Nat) : Int)) rfl) rfl rfl ?_
  refine SL.nil ?_
  refine T.block ?_
  refine T.loopW (fun m env own X' => ∃ (i : Nat) (vt : Value), m = l.length - i ∧ i ≤ l.length ∧ X.le X' ∧ errOf n [] (l.take i) = 0 ∧ TabR X' vt (l.take i) ∧ env = [(1, .int .i64 (n : Int)), (6, vt), (13, .slice A l.length cp), (14, .int .i64 (l.length : Int)), (15, .int .i64 (i : Int))] ∧ own = []) l.length ⟨0, vt, by simp, by omega, hX1, by simp [errOf], by simpa using hT, rfl, rfl⟩ (by repeat (first | exact Sub.nil | refine Sub.cons rfl ?_)) ?_
  rintro m _ _ X2 ⟨i, vt, rfl, hi, hX2, hz, hT, rfl, rfl⟩
  rcases Nat.lt_or_ge i l.length with hil | hil
  · obtain ⟨s, hs⟩ : ∃ s, l[i]? = some s := ⟨_, List.getElem?_eq_getElem hil⟩
    obtain ⟨bA, pre, rfl, hbA⟩ := h.blk (by omega)
    have hta : l.take (i + 1) = l.take i ++ [s] := by rw [List.take_add_one, hs]; rfl
    have hle : (l.take i).length ≤ 256 := by simpa using errOf_len hz (by simp)
    have hat : errOf n [] (l.take (i + 1)) = errA (l.take i) s n := by
      rw [hta, errOf_app, if_neg (by simpa using hz), List.nil_append, errOf]
      split
      · rfl
      · rename_i h0; exact (Decidable.not_not.1 h0).symm
    refine T.seq ?_
    refine T.region ?_
    first | refine SL.y (op_lssT rfl rfl (by omega)) rfl rfl ?_ | refine SL.y (op_lssF rfl rfl (by omega)) rfl rfl ?_ | refine SL.y (op_lss rfl rfl) rfl rfl ?_
    refine SL.nil ?_
    refine T.seq ?_
    refine T.condT rfl ?_
    refine T.skip ?_
    refine T.seq ?_
    refine T.block ?_
    refine T.seq ?_
    refine T.region ?_
    first | refine SL.y (op_indexN Tryd.underlying24 ty9 rfl rfl (by omega)) rfl rfl ?_ | refine SL.y (op_index Tryd.underlying24 ty9 rfl rfl (by omega) (by omega)) rfl rfl ?_
    refine SL.y (op_loadX ty9 rfl (hbA.mono hX2) (str_read hs (by omega))) rfl rfl ?_
    refine SL.y (op_assign rfl) rfl rfl ?_
    refine SL.nil ?_
    refine T.seq ?_
    refine T.region ?_
    refine SL.y (op_move rfl) rfl rfl ?_
    refine SL.y (op_move rfl) rfl rfl ?_
    refine SL.y (op_move rfl) rfl rfl ?_
    refine SL.x (op_callF en61 (vs := [_, _, _]) rfl (add_spec (s := s) (n := n) hT hle)) rfl rfl ?_
    rintro u3 _ X3 ⟨rfl, hX3, hu3⟩
    by_cases he : errA (l.take i) s n = 0
    · rw [if_pos he] at hu3
      obtain ⟨v3, rfl, hT3⟩ := hu3
      refine SL.y (op_move rfl) rfl rfl ?_
      refine SL.y (op_extract rfl rfl) rfl rfl ?_
      refine SL.y (op_extract rfl rfl) rfl rfl ?_
      refine SL.y (op_extract rfl rfl) rfl rfl ?_
      refine SL.y (op_assign rfl) rfl rfl ?_
      refine SL.y (op_assign rfl) rfl rfl ?_
      refine SL.y (op_assign rfl) rfl rfl ?_
      refine SL.nil ?_
      refine T.seq ?_
      refine T.seq ?_
      refine T.region ?_
      refine SL.y (op_move rfl) rfl rfl ?_
      first | refine SL.y (op_neqT rfl rfl (by omega)) rfl rfl ?_ | refine SL.y (op_neqF rfl rfl (by omega)) rfl rfl ?_ | refine SL.y (op_neq rfl rfl) rfl rfl ?_
      refine SL.nil ?_
      refine T.condF rfl ?_
      refine T.skip ?_
      refine T.region ?_
      refine SL.y (op_move rfl) rfl rfl ?_
      refine SL.y (op_assign rfl) rfl rfl ?_
      refine SL.nil ?_
      refine T.blk ?_
      refine T.region ?_
      first | refine SL.y (op_addN (q := 1) rfl rfl (by omega)) rfl rfl ?_ | refine SL.y (op_add rfl rfl (by omega) (by omega)) rfl rfl ?_ | refine SL.y (op_addW rfl rfl) rfl rfl ?_
      refine SL.y (op_move rfl) rfl rfl ?_
      refine SL.nil ?_
      exact T.backW (l.length - (i + 1)) (by omega) ⟨i + 1, v3, rfl, by omega, hX2.trans' hX3, by rw [hat, he], by rw [hta]; exact hT3, rfl, rfl⟩ (by repeat (first | exact Sub.nil | refine Sub.cons rfl ?_))
    · rw [if_neg he] at hu3
      subst hu3
      refine SL.y (op_move rfl) rfl rfl ?_
      refine SL.y (op_extract rfl rfl) rfl rfl ?_
      refine SL.y (op_extract rfl rfl) rfl rfl ?_
      refine SL.y (op_extract rfl rfl) rfl rfl ?_
      refine SL.y (op_assign rfl) rfl rfl ?_
      refine SL.y (op_assign rfl) rfl rfl ?_
      refine SL.y (op_assign rfl) rfl rfl ?_
      refine SL.nil ?_
      refine T.seq ?_
      refine T.seq ?_
      refine T.region ?_
      refine SL.y (op_move rfl) rfl rfl ?_
      first | refine SL.y (op_neqT rfl rfl (by omega)) rfl rfl ?_ | refine SL.y (op_neqF rfl rfl (by omega)) rfl rfl ?_ | refine SL.y (op_neq rfl rfl) rfl rfl ?_
      refine SL.nil ?_
      refine T.condT rfl ?_
      refine T.seq ?_
      refine T.region ?_
      refine SL.y (op_move rfl) rfl rfl ?_
      refine SL.y (op_assign rfl) rfl rfl ?_
      refine SL.y (op_assign rfl) rfl rfl ?_
      refine SL.nil ?_
      refine T.ret2 rfl (ResIs.tmp rfl) (ResIs.tmp rfl) ?_
      have ht : errOf n [] l = errA (l.take i) s n := by
        have h0 : errOf n [] (l.take (i + 1) ++ l.drop (i + 1)) = errA (l.take i) s n := by rw [errOf_app, hat, if_pos he]
        rwa [List.take_append_drop] at h0
      rw [if_neg (by rw [ht]; exact he), ht]
      rfl
  · obtain rfl : i = l.length := by omega
    rw [List.take_of_length_le (Nat.le_refl _)] at hz hT
    refine T.seq ?_
    refine T.region ?_
    first | refine SL.y (op_lssT rfl rfl (by omega)) rfl rfl ?_ | refine SL.y (op_lssF rfl rfl (by omega)) rfl rfl ?_ | refine SL.y (op_lss rfl rfl) rfl rfl ?_
    refine SL.nil ?_
    refine T.seq ?_
    refine T.condF rfl ?_
    refine T.exit (T.exitCode (T.exitCut (T.exitBlk ?_)))
    refine T.seq ?_
    refine T.region ?_
    refine SL.y (op_move rfl) rfl rfl ?_
    refine SL.y (op_assign rfl) rfl rfl ?_
    refine SL.y (op_assign (v := .int .i64 ((0 : Nat) : Int)) rfl) rfl rfl ?_
    refine SL.nil ?_
    refine T.ret2 rfl (ResIs.tmp rfl) (ResIs.tmp rfl) ?_
    rw [if_pos hz]
    exact ⟨_, rfl, hT⟩
end Go.Proofs.YtaooojjhlngcmaaDoor
namespace Go.Proofs.YtaooojjhlngcmaaDoor
section
set_option maxRecDepth 100000
theorem en11 : Enters Tryd.prog 11 := enters_mk Tryd.func11 (by kernel_rfl) rfl
theorem en34 : Enters Tryd.prog 34 := enters_mk Tryd.func34 (by kernel_rfl) rfl
theorem en35 : Enters Tryd.prog 35 := enters_mk Tryd.func35 (by kernel_rfl) rfl
end
open Go.RowKit
theorem pig {α : Type} [DecidableEq α] : ∀ (w l : List α), l.Nodup → (∀ x ∈ l, x ∈ w) → l.length ≤ w.length
  | [], l, _, h => by
    cases l with
    | nil => exact Nat.le_refl _
    | cons a l => exact absurd (h a (by simp)) (by simp)
  | a :: w, l, hn, h => by
    have := pig w (l.erase a) (hn.erase a) fun x hx => by
      obtain ⟨h1, h2⟩ := hn.mem_erase_iff.1 hx
      rcases List.mem_cons.1 (h x h2) with e | e
      · exact absurd e h1
      · exact e
    rw [List.length_erase] at this
    rw [List.length_cons]
    split at this <;> omega
/-- The names of which trees are built. -/
def words26 : List ByteArray := words6 ++ words20
def inW (e : Ex) : Prop := ∀ s ∈ allE e, s ∈ words26
theorem word6_in (n : Nat) : word6 n ∈ words26 := List.mem_append_left _ (List.mem_of_getElem? (word6_at n))
theorem word20_in (n : Nat) : word20 n ∈ words26 := List.mem_append_right _ (List.mem_of_getElem? (word20_at n))
theorem namesN_in (op name : Nat) : ∀ s ∈ namesN op name, s ∈ words26 := by
  intro s hs
  unfold namesN at hs
  split at hs
  · simp only [List.mem_cons, List.not_mem_nil, or_false] at hs
    rcases hs with rfl | rfl | rfl <;> exact word6_in _
  · split at hs
    · rw [List.mem_singleton.1 hs]; exact word6_in _
    · cases hs
theorem allL_in {l : List Ex} (h : ∀ e ∈ l, inW e) : ∀ s ∈ allL l, s ∈ words26 := by
  induction l with
  | nil => intro s hs; cases hs
  | cons a l ih =>
    intro s hs
    rw [allL] at hs
    rcases List.mem_append.1 hs with h1 | h1
    · exact h a (by simp) s h1
    · exact ih (fun e he => h e (by simp [he])) s h1
theorem mk_in {op : Nat} {n : Int} {ns : List ByteArray} {al : List Ex} (h1 : ∀ s ∈ ns, s ∈ words26) (h2 : ∀ e ∈ al, inW e) : inW (.mk op n ns al) := fun s hs => by
  rw [allE] at hs
  rcases List.mem_append.1 hs with h | h
  · exact h1 s h
  · exact allL_in h2 s h
theorem oddE_in (x : Nd) (op : Nat) {al : List Ex} (h : ∀ e ∈ al, inW e) : inW (oddE x op al) := by
  have h1 := namesN_in op x.name
  have nil : ∀ e ∈ ([] : List Ex), inW e := fun _ h => by cases h
  simp only [oddE]
  split
  · refine mk_in h1 fun e he => ?_
    rcases List.mem_append.1 he with he | he
    · exact h e he
    · rw [List.mem_singleton.1 he]; exact mk_in (fun _ h => by cases h) nil
  · split
    · exact mk_in h1 nil
    · split
      · refine mk_in (fun s hs => ?_) h
        rcases List.mem_append.1 hs with hs | hs
        · exact h1 s hs
        · rw [List.mem_singleton.1 hs]; exact word6_in _
      · split
        · exact mk_in h1 h
        · split
          · exact mk_in (fun s hs => by rw [List.mem_singleton.1 hs]; exact word20_in _) h
          · exact mk_in h1 h
theorem manyN_in {f : List Nd → Ex × List Nd} (hf : ∀ l, inW (f l).1) (l : List Nd) : ∀ k, ∀ e ∈ (manyN f k l).1, inW e
  | 0 => fun e h => by cases h
  | k + 1 => fun e h => by
    rw [manyN] at h
    rcases List.mem_append.1 h with h | h
    · exact manyN_in hf l k e h
    · rw [List.mem_singleton.1 h]; exact hf _
theorem build_in : ∀ (d : Nat) (l : List Nd), inW (buildE d l).1
  | 0, l => oddE_in _ _ fun _ h => by cases h
  | d + 1, l => oddE_in _ _ (manyN_in (build_in d) _ _)
theorem built_in (l : List Nd) : inW (builtE l) := build_in 11 _
mutual
theorem allE_valid : ∀ e : Ex, nodeE e = 0 → ∀ s ∈ allE e, validS s
  | .mk op n ns al, h => fun s hs => by
    obtain ⟨h1, h2⟩ := node_ok h
    rw [allE] at hs
    rcases List.mem_append.1 hs with h | h
    · exact (own_ok h1).2.2.2.2.2.1 s h
    · exact allL_valid al h2 s h
theorem allL_valid : ∀ l : List Ex, nodeL l = 0 → ∀ s ∈ allL l, validS s
  | [], _ => fun s hs => by cases hs
  | a :: l, h => fun s hs => by
    rw [nodeL] at h
    by_cases ha : nodeE a ≠ 0
    · rw [if_pos ha] at h; exact absurd h ha
    · rw [if_neg ha] at h
      rw [allL] at hs
      rcases List.mem_append.1 hs with h1 | h1
      · exact allE_valid a (Decidable.not_not.1 ha) s h1
      · exact allL_valid l h s h1
end
section
variable {P : Program} {n : NM} {own : Own} {X : PMap} {env : Env}
theorem op_geqStr {t t' : TypeId} {x y : Operand} {s s' : ByteArray} (hx : eev env x = some (.string s)) (hy : eev env y = some (.string s')) : OpY P n env own X (.binOp .geq t x y t') (.bool (!ltS s s')) := by
  intro a W oper hop ha _
  have h0 : ∀ (e : BinOp) (u v : Operand), eqGuard e t u v (.string s) (.string s') = pure () := fun e u v => by cases e <;> rfl
  have h2 : (Op.stringOp .geq s s').run P W = .ok (.bool (!ltS s s')) W := by simp [Op.stringOp, ltS]
  simp only [execOp, hop, ha.eval hx, ha.eval hy, binOp, h0, Sem.run_bind, Sem.run_pure, Result.andThen_ok, h2]
end
theorem sNamed_spec {X : PMap} {v : Value} {l : List Nd} (h : RowR ndC X v l) (hok : ∀ x ∈ l, ndOk x) : Spec Tryd.prog 10 [v] X fun u _ => u = .bool true := by
  refine Spec.enter Tryd.func10 rfl Tryd.ntmps10 rfl ?_
  intro w0 hw0
  refine T.seq ?_
  refine T.region ?_
  refine SL.y (op_assign rfl) rfl rfl ?_
  refine SL.nil ?_
  refine T.seq ?_
  refine T.seq ?_
  refine T.region ?_
  refine SL.x (op_callF en11 (vs := []) rfl (awake16_spec)) rfl rfl ?_
  rintro _ _ X0 ⟨rfl, hX0, rfl⟩
  refine SL.y (op_not rfl) rfl rfl ?_
  refine SL.nil ?_
  refine T.condF rfl ?_
  refine T.skip ?_
  refine T.seq ?_
  refine T.region ?_
  refine SL.y (op_move rfl) rfl rfl ?_
  refine SL.x (op_callF en12 (vs := [_]) rfl (built_spec (h.mono hX0) hok)) rfl rfl ?_
  rintro _ _ X1 ⟨rfl, hX1, r, rfl, hr⟩
  obtain ⟨o, n, A, B, l1, c1, l2, c2, rfl⟩ := hr.form
  have hc := expr_spec 300000 (Nat.le_of_lt (built_wt l)) (by omega) (built_ops hok) hr
  try simp only at hc
  refine SL.x (op_callF en14 (vs := [_]) rfl (hc)) rfl rfl ?_
  rintro _ _ X2 ⟨rfl, hX2, r2, rfl, hr2⟩
  obtain ⟨o2, n2, A2, B2, l3, c3, l4, c4, rfl⟩ := hr2.form
  have hw : wtE (builtE l) < 300000 := built_wt l
  have hin := built_in l
  generalize builtE l = e at *
  refine SL.x (op_alloc z34) rfl rfl ?_
  rintro _ _ _ ⟨B3, rfl, rfl, rfl⟩
  refine SL.x (op_store ty34 rfl rfl (by repeat constructor) rfl rfl rfl) rfl rfl ?_
  rintro _ _ _ ⟨rfl, rfl⟩
  refine SL.nil ?_
  refine T.seq ?_
  refine T.seq ?_
  refine T.region ?_
  first | refine SL.y (op_load ty34 rfl (by repeat constructor) rfl) rfl rfl ?_ | refine SL.y (op_loadX ty34 rfl (by assumption) rfl) rfl rfl ?_
  have hc1 := chk_spec (by omega) hr2
  try simp only at hc1
  refine SL.x (op_callF en13 (vs := [_]) rfl (hc1)) rfl rfl ?_
  rintro _ _ X3 ⟨rfl, hX3, rfl⟩
  by_cases hz : chkE e = 0
  case neg =>
    first | refine SL.y (op_neqT rfl rfl (by omega)) rfl rfl ?_ | refine SL.y (op_neqF rfl rfl (by omega)) rfl rfl ?_ | refine SL.y (op_neq rfl rfl) rfl rfl ?_
    refine SL.nil ?_
    refine T.condT rfl ?_
    refine T.seq ?_
    refine T.region ?_
    refine SL.y (op_assign rfl) rfl rfl ?_
    refine SL.nil ?_
    refine T.ret1 rfl (ResIs.tmp rfl) ?_
    rfl
  have hva := allE_valid e (chkE_node hz)
  first | refine SL.y (op_neqT rfl rfl (by omega)) rfl rfl ?_ | refine SL.y (op_neqF rfl rfl (by omega)) rfl rfl ?_ | refine SL.y (op_neq rfl rfl) rfl rfl ?_
  refine SL.nil ?_
  refine T.condF rfl ?_
  refine T.skip ?_
  refine T.seq ?_
  refine T.region ?_
  first | refine SL.y (op_load ty34 rfl (by repeat constructor) rfl) rfl rfl ?_ | refine SL.y (op_loadX ty34 rfl (by assumption) rfl) rfl rfl ?_
  have hc2 := namesA_spec (by omega) (hr2.mono hX3)
  try simp only at hc2
  refine SL.x (op_callF en20 (vs := [_]) rfl (hc2)) rfl rfl ?_
  rintro v1 _ X4 ⟨rfl, hX4, l', hp, ha, hv1⟩
  have hs := compactS_str ha
  have hmem : ∀ s ∈ compactS l', s ∈ allE e := fun s hs => hp.mem_iff.1 ((compactS_mem _ _).1 hs)
  have hlen : (compactS l').length ≤ 26 := pig words26 _ hs.nodup fun s hs => hin s (hmem s hs)
  have herr : errOf 200 [] (compactS l') = 0 := errOf_ok (fun s hs => hva s (hmem s hs)) (by simpa using hs.nodup) (by simp; omega) (by omega)
  generalize compactS l' = m at *
  obtain ⟨Am, cm, rfl⟩ := hv1.form
  refine SL.y (op_assign rfl) rfl rfl ?_
  refine SL.nil ?_
  refine T.seq ?_
  refine T.region ?_
  refine SL.y (op_move rfl) rfl rfl ?_
  refine SL.x (op_callF en34 (vs := [_, _]) rfl (of_tab_spec (n := 200) hv1 (by omega))) rfl rfl ?_
  rintro u5 _ X5 ⟨rfl, hX5, hu5⟩
  rw [if_pos herr] at hu5
  obtain ⟨vt, rfl, hT⟩ := hu5
  have hv1 := hv1.mono hX5
  refine SL.y (op_move rfl) rfl rfl ?_
  refine SL.y (op_extract rfl rfl) rfl rfl ?_
  refine SL.y (op_extract rfl rfl) rfl rfl ?_
  refine SL.y (op_assign rfl) rfl rfl ?_
  refine SL.y (op_assign rfl) rfl rfl ?_
  refine SL.nil ?_
  refine T.seq ?_
  refine T.seq ?_
  refine T.region ?_
  refine SL.y (op_move rfl) rfl rfl ?_
  first | refine SL.y (op_neqT rfl rfl (by omega)) rfl rfl ?_ | refine SL.y (op_neqF rfl rfl (by omega)) rfl rfl ?_ | refine SL.y (op_neq rfl rfl) rfl rfl ?_
  refine SL.y (op_move rfl) rfl rfl ?_
  first | refine SL.skip rfl rfl ?_ | refine SL.y (op_move rfl) rfl rfl ?_
  refine SL.x (op_callF en35 (vs := [_]) rfl (tlen_spec hT)) rfl rfl ?_
  rintro _ _ X6 ⟨rfl, hX6, rfl⟩
  have hv1 := hv1.mono hX6
  first | refine SL.skip rfl rfl ?_ | refine SL.y (op_move rfl) rfl rfl ?_
  first | refine SL.skip rfl rfl ?_ | refine SL.y (op_lenS Tryd.underlying24 rfl) rfl rfl ?_
  first | refine SL.skip rfl rfl ?_ | refine SL.y (op_neqT rfl rfl (by omega)) rfl rfl ?_ | refine SL.y (op_neqF rfl rfl (by omega)) rfl rfl ?_ | refine SL.y (op_neq rfl rfl) rfl rfl ?_
  first | refine SL.y (op_pickT rfl rfl) rfl rfl ?_ | refine SL.y (op_pickF rfl rfl) rfl rfl ?_ | refine SL.y (op_pickB rfl rfl rfl) rfl rfl ?_
  refine SL.nil ?_
  refine T.condF rfl ?_
  refine T.skip ?_
  refine T.seq ?_
  refine T.seq ?_
  refine T.region ?_
  refine SL.y (op_assign (v := .int .i64 ((1 : Nat) : Int)) rfl) rfl rfl ?_
  refine SL.nil ?_
  refine T.block ?_
  refine T.drop B3 (by repeat constructor) ?_
  refine T.loopW (fun k env own X' => ∃ i : Nat, k = m.length - i ∧ 1 ≤ i ∧ (i ≤ m.length ∨ i = 1) ∧ X6.le X' ∧ env = [(4, .slice Am m.length cm), (7, .int .i64 (i : Int))] ∧ own = []) (m.length - 1) ⟨1, rfl, by omega, .inr rfl, PMap.le_refl _, rfl, rfl⟩ (by repeat (first | exact Sub.nil | refine Sub.cons rfl ?_)) ?_
  rintro k _ _ X7 ⟨i, rfl, hi, hi2, hX7, rfl, rfl⟩
  rcases Nat.lt_or_ge i m.length with hil | hil
  · obtain ⟨a, ha1⟩ : ∃ a, m[i - 1]? = some a := ⟨_, List.getElem?_eq_getElem (by omega)⟩
    obtain ⟨b, hb1⟩ : ∃ a, m[i]? = some a := ⟨_, List.getElem?_eq_getElem hil⟩
    have hlt : ltS a b = true := by
      obtain ⟨h1, rfl⟩ := List.getElem?_eq_some_iff.1 ha1
      obtain ⟨h2, rfl⟩ := List.getElem?_eq_some_iff.1 hb1
      exact List.pairwise_iff_getElem.1 hs _ _ h1 h2 (by omega)
    obtain ⟨bA, pre, rfl, hbA⟩ := hv1.blk (by omega)
    have hbA := hbA.mono hX7
    refine T.seq ?_
    refine T.seq ?_
    refine T.region ?_
    refine SL.y (op_move rfl) rfl rfl ?_
    refine SL.y (op_move rfl) rfl rfl ?_
    refine SL.y (op_lenS Tryd.underlying24 rfl) rfl rfl ?_
    first | refine SL.y (op_lssT rfl rfl (by omega)) rfl rfl ?_ | refine SL.y (op_lssF rfl rfl (by omega)) rfl rfl ?_ | refine SL.y (op_lss rfl rfl) rfl rfl ?_
    refine SL.nil ?_
    refine T.condT rfl ?_
    refine T.skip ?_
    refine T.seq ?_
    refine T.block ?_
    refine T.seq ?_
    refine T.draw (by kernel_rfl) 10 [.t 0, .t 1, .t 2, .t 3, .t 4, .t 5, .t 6, .t 7, .t 8, .t 9] (by kernel_rfl) ?_
    refine SD.take rfl panicBody (op_move rfl) rfl rfl ?_
    refine SD.take rfl panicBody (op_move rfl) rfl rfl ?_
    refine SD.take rfl panicBody (op_subN (p := i) (q := 1) rfl rfl (by omega) (by omega)) rfl rfl ?_
    first | refine SD.take rfl panicBody (op_indexN Tryd.underlying24 ty9 rfl rfl (by omega)) rfl rfl ?_ | refine SD.take rfl panicBody (op_index Tryd.underlying24 ty9 rfl rfl (by omega) (by omega)) rfl rfl ?_
    refine SD.take rfl panicBody (op_loadX ty9 rfl hbA (str_read ha1 (by omega))) rfl rfl ?_
    refine SD.take rfl panicBody (op_move rfl) rfl rfl ?_
    refine SD.take rfl panicBody (op_move rfl) rfl rfl ?_
    first | refine SD.take rfl panicBody (op_indexN Tryd.underlying24 ty9 rfl rfl (by omega)) rfl rfl ?_ | refine SD.take rfl panicBody (op_index Tryd.underlying24 ty9 rfl rfl (by omega) (by omega)) rfl rfl ?_
    refine SD.take rfl panicBody (op_loadX ty9 rfl hbA (str_read hb1 (by omega))) rfl rfl ?_
    refine SD.take rfl panicBody (op_geqStr (s := a) (s' := b) rfl rfl) rfl rfl ?_
    refine SD.nil ?_
    show SL _ _ _ _ _ _ _ [] _ _ _
    rw [hlt]
    refine SL.nil ?_
    refine T.condF rfl ?_
    refine T.skip ?_
    refine T.blk ?_
    refine T.region ?_
    refine SL.y (op_move rfl) rfl rfl ?_
    first | refine SL.y (op_addN (q := 1) rfl rfl (by omega)) rfl rfl ?_ | refine SL.y (op_add rfl rfl (by omega) (by omega)) rfl rfl ?_ | refine SL.y (op_addW rfl rfl) rfl rfl ?_
    refine SL.y (op_assign rfl) rfl rfl ?_
    refine SL.nil ?_
    exact T.backW (m.length - (i + 1)) (by omega) ⟨i + 1, rfl, by omega, .inl hil, hX7, rfl, rfl⟩ (by repeat (first | exact Sub.nil | refine Sub.cons rfl ?_))
  · refine T.seq ?_
    refine T.seq ?_
    refine T.region ?_
    refine SL.y (op_move rfl) rfl rfl ?_
    refine SL.y (op_move rfl) rfl rfl ?_
    refine SL.y (op_lenS Tryd.underlying24 rfl) rfl rfl ?_
    first | refine SL.y (op_lssT rfl rfl (by omega)) rfl rfl ?_ | refine SL.y (op_lssF rfl rfl (by omega)) rfl rfl ?_ | refine SL.y (op_lss rfl rfl) rfl rfl ?_
    refine SL.nil ?_
    refine T.condF rfl ?_
    refine T.exit (T.exitCode (T.exitCut (T.exitBlk ?_)))
    refine T.seq ?_
    refine T.region ?_
    refine SL.y (op_assign rfl) rfl rfl ?_
    refine SL.nil ?_
    refine T.ret1 rfl (ResIs.tmp rfl) ?_
    rfl
end Go.Proofs.YtaooojjhlngcmaaDoor
