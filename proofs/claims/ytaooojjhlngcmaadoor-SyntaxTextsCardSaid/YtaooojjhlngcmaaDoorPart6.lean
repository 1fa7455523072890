/- What the law's proof rests on: the engine, a small separation logic over the kit's walk, and contracts of the functions that the law reaches. Part 6. -/
import Derived.Test.YtaooojjhlngcmaaDoorChecked
import Derived.Shelf.Sort.AssemblysIn
import Derived.Shelf.Strconv.Itoa3
import Derived.Sort.EveryDepth
import Derived.Test.YtaooojjhlngcmaaDoorPart1
import Derived.Test.YtaooojjhlngcmaaDoorPart2
import Derived.Test.YtaooojjhlngcmaaDoorPart3
import Derived.Test.YtaooojjhlngcmaaDoorPart4
import Derived.Test.YtaooojjhlngcmaaDoorPart5
namespace Go.Proofs.YtaooojjhlngcmaaDoor
section
set_option maxRecDepth 100000
theorem bs61 : ∃ i z, Tryd.prog.info? 61 = some i ∧ i.size = 7 ∧ i.zero = some z ∧ z.cells = ([.bool false, .int .u8 0, .string ⟨#[]⟩, .int .u8 0, .int .i64 0, .slice none 0 0, .slice none 0 0] : List Value).toArray := bs_of (by kernel_rfl)
theorem en26 : Enters Tryd.prog 26 := enters_mk Tryd.func26 (by kernel_rfl) rfl
theorem en29 : Enters Tryd.prog 29 := enters_mk Tryd.func29 (by kernel_rfl) rfl
theorem en30 : Enters Tryd.prog 30 := enters_mk Tryd.func30 (by kernel_rfl) rfl
theorem en36 : Enters Tryd.prog 36 := enters_mk Tryd.func36 (by kernel_rfl) rfl
theorem st61 : StT Tryd.prog 61 [(0, 1), (1, 1), (2, 1), (3, 4)] [.bool false, .int .u8 0, .string ⟨#[]⟩, .int .u8 0, .int .i64 0, .slice none 0 0, .slice none 0 0] := ⟨⟨_, Tryd.underlying61, fun _ => by kernel_rfl, z61⟩⟩
end
open Go.RowKit
theorem itoa10 {X : PMap} (v : Nat) (h : v < 10) : Spec Tryd.prog 82 [.int .i64 (v : Int)] X fun u _ => u = .string (decB v) := by
  have := itoa_spec (X := X) v h
  have e : decB v = ⟨#[UInt8.ofNat (48 + v)]⟩ := by rw [decB, decG, if_pos h]
  rwa [← e] at this
def leafE (s : ByteArray) : Ex := .mk 4 0 [s] []
theorem leaf_spec {X : PMap} {s : ByteArray} : Spec Tryd.prog 29 [.string s] X fun u X' => ∃ r : Row4, u = .agg #[r.1, r.2.1, r.2.2.1, r.2.2.2] ∧ ExR .u8 X' (leafE s) r := by
  refine Spec.enter Tryd.func29 rfl Tryd.ntmps29 rfl ?_
  intro w0 hw0
  refine T.seq ?_
  refine T.region ?_
  refine SL.x (op_alloc z34) rfl rfl ?_
  rintro _ _ _ ⟨B2, rfl, rfl, rfl⟩
  refine SL.nil ?_
  refine T.seq ?_
  refine T.region ?_
  refine SL.y (op_move rfl) rfl rfl ?_
  refine SL.x (op_buildSlice Tryd.underlying24 bs9 (qs := [(0, _)]) rfl rfl rfl rfl rfl) rfl rfl ?_
  rintro _ _ _ ⟨B4, rfl, rfl, rfl⟩
  refine SL.y (op_build st34 (qs := [(0, _), (2, _)]) rfl rfl) rfl rfl ?_
  refine SL.x (op_store ty34 rfl rfl (by repeat constructor) rfl rfl rfl) rfl rfl ?_
  rintro _ _ _ ⟨rfl, rfl⟩
  refine SL.nil ?_
  refine T.pub B4 (by repeat constructor) ?_
  intro X1 hX1 hB4 _
  refine T.ret1 rfl (ResIs.cell rfl ty34 (by repeat constructor) rfl) ?_
  exact ⟨(.int .u8 ((4 : Nat) : Int), .int .i64 0, .slice (some ⟨B4, 0, none⟩) 1 1, .slice none 0 0), rfl, .mk (rows := []) (.inr ⟨by simp, B4, 1, [], rfl, hB4, by simp, by decide⟩) (.inl ⟨rfl, _, _, rfl⟩) rfl (fun i a r h => by simp at h)⟩
theorem pair_spec {X : PMap} {op : Nat} {a b : Ex} {ra rb : Row4} (ha : ExR .u8 X a ra) (hb : ExR .u8 X b rb) : Spec Tryd.prog 30 [.int .u8 (op : Int), .agg #[ra.1, ra.2.1, ra.2.2.1, ra.2.2.2], .agg #[rb.1, rb.2.1, rb.2.2.1, rb.2.2.2]] X fun u X' => ∃ r : Row4, u = .agg #[r.1, r.2.1, r.2.2.1, r.2.2.2] ∧ ExR .u8 X' (.mk op 0 [] [a, b]) r := by
  obtain ⟨o1, n1, a1, b1, l1, c1, l2, c2, rfl⟩ := ha.form
  obtain ⟨o3, n3, a3, b3, l3, c3, l4, c4, rfl⟩ := hb.form
  refine Spec.enter Tryd.func30 rfl Tryd.ntmps30 rfl ?_
  intro w0 hw0
  refine T.seq ?_
  refine T.region ?_
  refine SL.x (op_box rfl) rfl rfl ?_
  rintro _ _ _ ⟨B4, rfl, rfl, rfl⟩
  refine SL.x (op_box rfl) rfl rfl ?_
  rintro _ _ _ ⟨B5, rfl, rfl, rfl⟩
  refine SL.x (op_alloc z34) rfl rfl ?_
  rintro _ _ _ ⟨B6, rfl, rfl, rfl⟩
  refine SL.nil ?_
  refine T.seq ?_
  refine T.region ?_
  refine SL.y (op_move rfl) rfl rfl ?_
  first | refine SL.y (op_load ty34 rfl (by repeat constructor) rfl) rfl rfl ?_ | refine SL.y (op_loadX ty34 rfl (by assumption) rfl) rfl rfl ?_
  first | refine SL.y (op_load ty34 rfl (by repeat constructor) rfl) rfl rfl ?_ | refine SL.y (op_loadX ty34 rfl (by assumption) rfl) rfl rfl ?_
  refine SL.x (op_buildSlice Tryd.underlying32 bs34 (qs := [(0, _), (1, _)]) rfl rfl rfl rfl rfl) rfl rfl ?_
  rintro _ _ _ ⟨B10, rfl, rfl, rfl⟩
  refine SL.y (op_build st34 (qs := [(0, _), (3, _)]) rfl rfl) rfl rfl ?_
  refine SL.x (op_store ty34 rfl rfl (by repeat constructor) rfl rfl rfl) rfl rfl ?_
  rintro _ _ _ ⟨rfl, rfl⟩
  refine SL.nil ?_
  refine T.pub B10 (by repeat constructor) ?_
  intro X1 hX1 hB10 _
  refine T.ret1 rfl (ResIs.cell rfl ty34 (by repeat constructor) rfl) ?_
  refine ⟨(.int .u8 (op : Int), .int .i64 0, .slice none 0 0, .slice (some ⟨B10, 0, none⟩) 2 2), rfl, .mk (rows := [(.int .u8 (o1 : Int), .int .i64 n1, .slice a1 l1 c1, .slice b1 l2 c2), (.int .u8 (o3 : Int), .int .i64 n3, .slice a3 l3 c3, .slice b3 l4 c4)]) (.inl ⟨rfl, _, _, rfl⟩) (.inr ⟨by simp, B10, 2, [], rfl, hB10, by simp, by decide⟩) rfl (fun i x r h h' => ?_)⟩
  match i, h, h' with
  | 0, h, h' => cases h; cases h'; exact ha.mono hX1
  | 1, h, h' => cases h; cases h'; exact hb.mono hX1
theorem valid_of {s : ByteArray} (h1 : s.size ≠ 0) (h2 : s.size ≤ 12) (h3 : s ∉ keyws) (h4 : (List.range s.size).all (fun k => match s[k]? with | some b => innB b && (k != 0 || letB b) | none => true) = true) : validS s := by
  refine ⟨h1, h2, h3, fun k b _ hb => ?_⟩
  have hk : k < s.size := by
    rcases Nat.lt_or_ge k s.size with h | h
    · exact h
    · rw [ByteArray.getElem?_ge' s k (by omega)] at hb; cases hb
  have := List.all_eq_true.1 h4 k (List.mem_range.2 hk)
  rw [hb] at this
  simp only [Bool.and_eq_true, Bool.or_eq_true, bne_iff_ne, ne_eq] at this
  exact ⟨this.1, fun h0 => this.2.resolve_left fun h => h h0⟩
theorem valA : validS ⟨#[97]⟩ := valid_of (by decide) (by decide) (by simp [keyws]) (by decide)
theorem valB : validS ⟨#[98]⟩ := valid_of (by decide) (by decide) (by simp [keyws]) (by decide)
theorem valC : validS ⟨#[99]⟩ := valid_of (by decide) (by decide) (by simp [keyws]) (by decide)
theorem valSod : validS ⟨#[115, 111, 100]⟩ := valid_of (by decide) (by decide) (by simp [keyws]) (by decide)
theorem node_of {op : Nat} {n : Int} {ns : List ByteArray} {al : List Ex} (h1 : ¬(op < 1 ∨ 16 < op ∨ al.length ≠ argN op)) (h2 : ¬((n ≠ 0 ∧ op ≠ 1) ∨ ¬namN op ns.length)) (h3 : ∀ s ∈ ns, validS s) (h4 : ns.Nodup) (h5 : ¬(n < 0 ∨ 999999 < n)) (h6 : nodeL al = 0) : nodeE (.mk op n ns al) = 0 := by
  rw [node_args (own0' h1 h2 h3 h4 h5), h6]
theorem nodeL_of {al : List Ex} (h : ∀ a ∈ al, nodeE a = 0) : nodeL al = 0 := by
  induction al with
  | nil => rfl
  | cons a al ih => rw [nodeL, if_neg (fun hh => hh (h a (by simp))), ih fun x hx => h x (by simp [hx])]
theorem leaf_node {s : ByteArray} (h : validS s) : nodeE (leafE s) = 0 := node_of (by decide) (fun h => h.elim (fun h => h.1 rfl) (fun h => h (show namN 4 1 by decide))) (fun t ht => by rw [List.mem_singleton.1 ht]; exact h) (by simp) (by decide) rfl
theorem two_node {op : Nat} {a b : Ex} (h1 : 8 ≤ op) (h2 : op ≤ 16) (ha : nodeE a = 0) (hb : nodeE b = 0) : nodeE (.mk op 0 [] [a, b]) = 0 := by
  refine node_of ?_ ?_ (fun t ht => by cases ht) (by simp) (by decide) (nodeL_of fun x hx => ?_)
  · have : argN op = 2 := by unfold argN; rw [if_neg (by omega), if_neg (by omega)]
    simp only [List.length_cons, List.length_nil]; omega
  · rintro (⟨h, _⟩ | h)
    · exact h rfl
    · refine h ?_
      unfold namN
      rw [if_neg (by omega), if_neg (by omega)]; rfl
  · rcases List.mem_cons.1 hx with rfl | hx
    · exact ha
    · rw [List.mem_singleton.1 hx]; exact hb
def lA : Ex := leafE ⟨#[97]⟩
def lB : Ex := leafE ⟨#[98]⟩
def lC : Ex := leafE ⟨#[99]⟩
def eNot : Ex := .mk 7 0 [] [.mk 8 0 [] [lA, lB]]
def eLe : Ex := .mk 11 0 [] [.mk 5 0 [⟨#[97]⟩, ⟨#[98]⟩] [], .mk 1 1 [] []]
theorem chk_of {e : Ex} (h1 : decide (depE e ≤ 10 ∧ sizE e ≤ 200) = true) (h2 : nodeE e = 0) : chkE e = 0 := by
  have := of_decide_eq_true h1
  rw [chkE, if_neg (by omega), h2]
theorem chk1 : chkE (.mk 8 0 [] [lA, .mk 8 0 [] [lB, lC]]) = 0 := chk_of (by kernel_rfl) (two_node (by decide) (by decide) (leaf_node valA) (two_node (by decide) (by decide) (leaf_node valB) (leaf_node valC)))
theorem chk2 : chkE (.mk 10 0 [] [lA, .mk 10 0 [] [lB, lC]]) = 0 := chk_of (by kernel_rfl) (two_node (by decide) (by decide) (leaf_node valA) (two_node (by decide) (by decide) (leaf_node valB) (leaf_node valC)))
theorem chk3 : chkE eNot = 0 := chk_of (by kernel_rfl) (node_of (by decide) (by decide) (fun t ht => by cases ht) (by simp) (by decide) (nodeL_of fun x hx => by rw [List.mem_singleton.1 hx]; exact two_node (by decide) (by decide) (leaf_node valA) (leaf_node valB)))
theorem chk4 : chkE eLe = 0 := chk_of (by kernel_rfl) (two_node (by decide) (by decide) (node_of (by decide) (by decide) (fun t ht => by
  rcases List.mem_cons.1 ht with rfl | ht
  · exact valA
  · rw [List.mem_singleton.1 ht]; exact valB) (by simp) (by decide) rfl) (node_of (by decide) (by decide) (fun t ht => by cases ht) (by simp) (by decide) rfl))
def cSod : Con := ⟨true, 1, ⟨#[115, 111, 100]⟩, eLe⟩
theorem chk5 : chkAll [cSod] = 0 := by
  have e : errC [] cSod = 0 := by
    rw [errC, if_neg (by decide), if_neg (fun h => h valSod), if_neg (by simp), show cSod.ex = eLe from rfl, chk4]
  have e2 : chkCs [] [cSod] = 0 := by rw [chkCs, if_neg (fun h => h e), chkCs]
  rw [chkAll, if_neg (by decide), if_neg (fun h => h e2), if_neg (of_decide_eq_true (by kernel_rfl))]
theorem num10 {e : Ex} (h : e = .mk 8 0 [] [lA, .mk 8 0 [] [lB, lC]] ∨ e = .mk 10 0 [] [lA, .mk 10 0 [] [lB, lC]] ∨ e = eNot ∨ e = eLe) : numE 10 e := by
  rcases h with rfl | rfl | rfl | rfl <;> simp [numE, numL, eNot, eLe, lA, lB, lC, leafE]
theorem tx1 : textE (.mk 8 0 [] [lA, .mk 8 0 [] [lB, lC]]) = ⟨#[97, 32, 97, 110, 100, 32, 40, 98, 32, 97, 110, 100, 32, 99, 41]⟩ := by kernel_rfl
theorem tx2 : textE (.mk 10 0 [] [lA, .mk 10 0 [] [lB, lC]]) = ⟨#[97, 32, 45, 62, 32, 98, 32, 45, 62, 32, 99]⟩ := by kernel_rfl
theorem tx3 : textE eNot = ⟨#[110, 111, 116, 32, 40, 97, 32, 97, 110, 100, 32, 98, 41]⟩ := by kernel_rfl
theorem tx4 : (⟨(linesL [cSod]).toArray⟩ : ByteArray) = ⟨#[101, 110, 102, 111, 114, 99, 101, 32, 115, 116, 97, 116, 105, 99, 32, 115, 111, 100, 58, 32, 99, 111, 117, 110, 116, 40, 97, 44, 32, 98, 41, 32, 60, 61, 32, 49, 59, 10]⟩ := by kernel_rfl
theorem awake16_spec {X : PMap} : Spec Tryd.prog 11 [] X fun u _ => u = .bool true := by
  have hI : ∀ {X : PMap}, ItoaOk 10 X := fun _ _ v h => itoa10 v h
  refine Spec.enter Tryd.func11 rfl Tryd.ntmps11 rfl ?_
  intro w0 hw0
  refine T.seq ?_
  refine T.region ?_
  refine SL.y (op_assign rfl) rfl rfl ?_
  refine SL.nil ?_
  refine T.seq ?_
  refine T.region ?_
  refine SL.x (op_callF en29 (vs := [_]) rfl (leaf_spec (s := ⟨#[97]⟩))) rfl rfl ?_
  rintro _ _ X1 ⟨rfl, hX1, rA, rfl, hA⟩
  refine SL.x (op_callF en29 (vs := [_]) rfl (leaf_spec (s := ⟨#[98]⟩))) rfl rfl ?_
  rintro _ _ X2 ⟨rfl, hX2, rB, rfl, hB⟩
  refine SL.x (op_callF en29 (vs := [_]) rfl (leaf_spec (s := ⟨#[99]⟩))) rfl rfl ?_
  rintro _ _ X3 ⟨rfl, hX3, rC, rfl, hC⟩
  have hA := (hA.mono hX2).mono hX3
  have hB := hB.mono hX3
  obtain ⟨oa, na, aa, ba, la, ca, la2, ca2, rfl⟩ := hA.form
  obtain ⟨ob, nb, ab, bb, lb, cb, lb2, cb2, rfl⟩ := hB.form
  obtain ⟨oc, nc, ac, bc, lc, cc, lc2, cc2, rfl⟩ := hC.form
  refine SL.x (op_alloc z34) rfl rfl ?_
  rintro _ _ _ ⟨B1, rfl, rfl, rfl⟩
  refine SL.x (op_alloc z34) rfl rfl ?_
  rintro _ _ _ ⟨B2, rfl, rfl, rfl⟩
  refine SL.x (op_alloc z34) rfl rfl ?_
  rintro _ _ _ ⟨B3, rfl, rfl, rfl⟩
  refine SL.x (op_store ty34 rfl rfl (by repeat constructor) rfl rfl rfl) rfl rfl ?_
  rintro _ _ _ ⟨rfl, rfl⟩
  refine SL.x (op_store ty34 rfl rfl (by repeat constructor) rfl rfl rfl) rfl rfl ?_
  rintro _ _ _ ⟨rfl, rfl⟩
  refine SL.x (op_store ty34 rfl rfl (by repeat constructor) rfl rfl rfl) rfl rfl ?_
  rintro _ _ _ ⟨rfl, rfl⟩
  refine SL.nil ?_
  refine T.seq ?_
  refine T.region ?_
  first | refine SL.y (op_load ty34 rfl (by repeat constructor) rfl) rfl rfl ?_ | refine SL.y (op_loadX ty34 rfl (by assumption) rfl) rfl rfl ?_
  first | refine SL.y (op_load ty34 rfl (by repeat constructor) rfl) rfl rfl ?_ | refine SL.y (op_loadX ty34 rfl (by assumption) rfl) rfl rfl ?_
  refine SL.x (op_callF en30 (vs := [_, _, _]) rfl (pair_spec (op := 8) hA hB)) rfl rfl ?_
  rintro _ _ X4 ⟨rfl, hX4, rP, rfl, hP⟩
  obtain ⟨op, np, ap, bp, lp, cp, lp2, cp2, rfl⟩ := hP.form
  refine SL.x (op_buildSlice Tryd.underlying32 bs34 (qs := [(0, _)]) rfl rfl rfl rfl rfl) rfl rfl ?_
  rintro _ _ _ ⟨B12, rfl, rfl, rfl⟩
  refine SL.y (op_build st34 (qs := [(0, _), (3, _)]) rfl rfl) rfl rfl ?_
  refine SL.x (op_alloc z34) rfl rfl ?_
  rintro _ _ _ ⟨B4, rfl, rfl, rfl⟩
  refine SL.x (op_store ty34 rfl rfl (by repeat constructor) rfl rfl rfl) rfl rfl ?_
  rintro _ _ _ ⟨rfl, rfl⟩
  refine SL.nil ?_
  refine T.seq ?_
  refine T.region ?_
  refine SL.x (op_buildSlice Tryd.underlying24 bs9 (qs := [(0, _), (1, _)]) rfl rfl rfl rfl rfl) rfl rfl ?_
  rintro _ _ _ ⟨B14, rfl, rfl, rfl⟩
  refine SL.y (op_build st34 (qs := [(0, _), (2, _)]) rfl rfl) rfl rfl ?_
  refine SL.y (op_build st34 (qs := [(0, _), (1, _)]) rfl rfl) rfl rfl ?_
  refine T.pubAt B12 (by repeat constructor) ?_
  intro X5 hX5 hB12 _
  refine T.pubAt B14 (by repeat constructor) ?_
  intro X6 hX6 hB14 _
  have hNot : ExR .u8 X6 eNot (.int .u8 ((7 : Nat) : Int), .int .i64 0, .slice none 0 0, .slice (some ⟨B12, 0, none⟩) 1 1) := .mk (rows := [(.int .u8 (op : Int), .int .i64 np, .slice ap lp cp, .slice bp lp2 cp2)]) (.inl ⟨rfl, _, _, rfl⟩) (.inr ⟨by simp, B12, 1, [], rfl, hB12.mono hX6, by simp, by decide⟩) rfl (fun i x r h h' => by
    match i, h, h' with
    | 0, h, h' => cases h; cases h'; exact (hP.mono hX5).mono hX6)
  have hCnt : ExR .u8 X6 (.mk 5 0 [⟨#[97]⟩, ⟨#[98]⟩] []) (.int .u8 ((5 : Nat) : Int), .int .i64 0, .slice (some ⟨B14, 0, none⟩) 2 2, .slice none 0 0) := .mk (rows := []) (.inr ⟨by simp, B14, 2, [], rfl, hB14, by simp, by decide⟩) (.inl ⟨rfl, _, _, rfl⟩) rfl (fun i a r h => by simp at h)
  have hNum : ExR .u8 X6 (.mk 1 1 [] []) (.int .u8 ((1 : Nat) : Int), .int .i64 1, .slice none 0 0, .slice none 0 0) := .mk (rows := []) (.inl ⟨rfl, _, _, rfl⟩) (.inl ⟨rfl, _, _, rfl⟩) rfl (fun i a r h => by simp at h)
  have hcall := pair_spec (op := 11) hCnt hNum
  simp only at hcall
  refine SL.x (op_callF en30 (vs := [_, _, _]) rfl (hcall)) rfl rfl ?_
  rintro _ _ X7 ⟨rfl, hX7, rL, rfl, hL⟩
  obtain ⟨ol, nl, al, bl, ll, cl, ll2, cl2, rfl⟩ := hL.form
  have hX47 := ((hX4.trans' hX5).trans' hX6).trans' hX7
  have hA := hA.mono hX47
  have hB := hB.mono hX47
  have hC := hC.mono hX47
  refine SL.x (op_alloc z34) rfl rfl ?_
  rintro _ _ _ ⟨B5, rfl, rfl, rfl⟩
  refine SL.x (op_store ty34 rfl rfl (by repeat constructor) rfl rfl rfl) rfl rfl ?_
  rintro _ _ _ ⟨rfl, rfl⟩
  refine SL.nil ?_
  refine T.seq ?_
  refine T.draw (by kernel_rfl) 34 [.t 0, .t 1, .t 2, .r 3, .r 4, .r 5, .t 6, .t 7, .t 8, .t 9, .t 10, .r 11, .r 12, .r 13, .t 14, .t 15, .t 16, .t 17, .r 18, .t 19, .t 20, .t 21, .t 22, .t 23, .r 24, .r 25, .t 26, .t 27, .t 28, .t 29, .r 30, .t 31, .t 32, .t 33] (by kernel_rfl) ?_
  first | refine SD.take rfl panicBody (op_load ty34 rfl (by repeat constructor) rfl) rfl rfl ?_ | refine SD.take rfl panicBody (op_loadX ty34 rfl (by assumption) rfl) rfl rfl ?_
  first | refine SD.take rfl panicBody (op_load ty34 rfl (by repeat constructor) rfl) rfl rfl ?_ | refine SD.take rfl panicBody (op_loadX ty34 rfl (by assumption) rfl) rfl rfl ?_
  first | refine SD.take rfl panicBody (op_load ty34 rfl (by repeat constructor) rfl) rfl rfl ?_ | refine SD.take rfl panicBody (op_loadX ty34 rfl (by assumption) rfl) rfl rfl ?_
  have hc1 := pair_spec (op := 8) hB hC
  try simp only at hc1
  refine SD.run rfl (op_callF en30 (vs := [_, _, _]) rfl (hc1)) rfl rfl ?_
  rintro _ _ X8 ⟨rfl, hX8, r8, rfl, h8⟩
  obtain ⟨o8, n8, a8, b8, l8, c8, m8, d8, rfl⟩ := h8.form
  have hc2 := pair_spec (op := 8) (hA.mono hX8) h8
  try simp only at hc2
  refine SD.run rfl (op_callF en30 (vs := [_, _, _]) rfl (hc2)) rfl rfl ?_
  rintro _ _ X9 ⟨rfl, hX9, r9, rfl, h9⟩
  obtain ⟨o9, n9, a9, b9, l9, c9, m9, d9, rfl⟩ := h9.form
  have hc3 := eprint_spec hI (of_decide_eq_true (by kernel_rfl)) (fun _ => num10 (.inl rfl)) h9
  try simp only at hc3
  refine SD.run rfl (op_callF en26 (vs := [_]) rfl (hc3)) rfl rfl ?_
  rintro _ _ X10 ⟨rfl, hX10, rfl⟩
  rw [if_pos chk1, tx1]
  refine SD.take rfl panicBody (op_eqlStrD rfl rfl) rfl rfl ?_
  rw [decide_eq_true rfl]
  have hX7A := (hX8.trans' hX9).trans' hX10
  refine SD.take rfl panicBody (op_move rfl) rfl rfl ?_
  first | refine SD.skip rfl panicBody rfl rfl ?_ | refine SD.take rfl panicBody (op_load ty34 rfl (by repeat constructor) rfl) rfl rfl ?_ | refine SD.take rfl panicBody (op_loadX ty34 rfl (by assumption) rfl) rfl rfl ?_
  first | refine SD.skip rfl panicBody rfl rfl ?_ | refine SD.take rfl panicBody (op_load ty34 rfl (by repeat constructor) rfl) rfl rfl ?_ | refine SD.take rfl panicBody (op_loadX ty34 rfl (by assumption) rfl) rfl rfl ?_
  first | refine SD.skip rfl panicBody rfl rfl ?_ | refine SD.take rfl panicBody (op_load ty34 rfl (by repeat constructor) rfl) rfl rfl ?_ | refine SD.take rfl panicBody (op_loadX ty34 rfl (by assumption) rfl) rfl rfl ?_
  have hc4 := pair_spec (op := 10) (hB.mono hX7A) (hC.mono hX7A)
  try simp only at hc4
  refine SD.run rfl (op_callF en30 (vs := [_, _, _]) rfl (hc4)) rfl rfl ?_
  rintro _ _ X11 ⟨rfl, hX11, r11, rfl, h11⟩
  obtain ⟨o11, n11, a11, b11, l11, c11, m11, d11, rfl⟩ := h11.form
  have hc5 := pair_spec (op := 10) ((hA.mono hX7A).mono hX11) h11
  try simp only at hc5
  refine SD.run rfl (op_callF en30 (vs := [_, _, _]) rfl (hc5)) rfl rfl ?_
  rintro _ _ X12 ⟨rfl, hX12, r12, rfl, h12⟩
  obtain ⟨o12, n12, a12, b12, l12, c12, m12, d12, rfl⟩ := h12.form
  have hc6 := eprint_spec hI (of_decide_eq_true (by kernel_rfl)) (fun _ => num10 (.inr (.inl rfl))) h12
  try simp only at hc6
  refine SD.run rfl (op_callF en26 (vs := [_]) rfl (hc6)) rfl rfl ?_
  rintro _ _ X13 ⟨rfl, hX13, rfl⟩
  rw [if_pos chk2, tx2]
  first | refine SD.skip rfl panicBody rfl rfl ?_ | refine SD.take rfl panicBody (op_eqlStrD rfl rfl) rfl rfl ?_
  rw [decide_eq_true rfl]
  have hX713 := ((hX7A.trans' hX11).trans' hX12).trans' hX13
  have hNot2 := (hNot.mono hX7).mono hX713
  first | refine SD.take rfl panicBody (op_pickT rfl rfl) rfl rfl ?_ | refine SD.take rfl panicBody (op_pickF rfl rfl) rfl rfl ?_ | refine SD.take rfl panicBody (op_pickB rfl rfl rfl) rfl rfl ?_
  refine SD.take rfl panicBody (op_move rfl) rfl rfl ?_
  first | refine SD.skip rfl panicBody rfl rfl ?_ | refine SD.take rfl panicBody (op_load ty34 rfl (by repeat constructor) rfl) rfl rfl ?_ | refine SD.take rfl panicBody (op_loadX ty34 rfl (by assumption) rfl) rfl rfl ?_
  have hc7 := eprint_spec hI (of_decide_eq_true (by kernel_rfl)) (fun _ => num10 (.inr (.inr (.inl rfl)))) hNot2
  try simp only at hc7
  refine SD.run rfl (op_callF en26 (vs := [_]) rfl (hc7)) rfl rfl ?_
  rintro _ _ X14 ⟨rfl, hX14, rfl⟩
  rw [if_pos chk3, tx3]
  first | refine SD.skip rfl panicBody rfl rfl ?_ | refine SD.take rfl panicBody (op_eqlStrD rfl rfl) rfl rfl ?_
  rw [decide_eq_true rfl]
  first | refine SD.take rfl panicBody (op_pickT rfl rfl) rfl rfl ?_ | refine SD.take rfl panicBody (op_pickF rfl rfl) rfl rfl ?_ | refine SD.take rfl panicBody (op_pickB rfl rfl rfl) rfl rfl ?_
  refine SD.take rfl panicBody (op_move rfl) rfl rfl ?_
  first | refine SD.skip rfl panicBody rfl rfl ?_ | refine SD.take rfl panicBody (op_load ty34 rfl (by repeat constructor) rfl) rfl rfl ?_ | refine SD.take rfl panicBody (op_loadX ty34 rfl (by assumption) rfl) rfl rfl ?_
  first | refine SD.skip rfl panicBody rfl rfl ?_ | refine SD.take rfl panicBody (op_build st61 (qs := [(0, _), (1, _), (2, _), (3, _)]) rfl rfl) rfl rfl ?_
  refine SD.run rfl (op_buildSlice Tryd.underlying42 bs61 (qs := [(0, _)]) rfl rfl rfl rfl rfl) rfl rfl ?_
  rintro _ _ _ ⟨B42, rfl, rfl, rfl⟩
  refine SD.pub B42 (by repeat constructor) ?_
  intro X15 hX15 hB42 _
  have hCs : ConsR X15 (.slice (some ⟨B42, 0, none⟩) 1 1) [cSod] := ⟨[(true, 1, ⟨#[115, 111, 100]⟩, .int .u8 (ol : Int), .int .i64 nl, .slice al ll cl, .slice bl ll2 cl2)], .inr ⟨by simp, B42, 1, [], rfl, hB42, by simp, by decide⟩, rfl, fun i x r h h' => by
    match i, h, h' with
    | 0, h, h' => cases h; cases h'; exact ⟨rfl, rfl, rfl, ((hL.mono hX713).mono hX14).mono hX15⟩⟩
  have hc8 := cprint_spec hI hCs (by simp) (by simp) (of_decide_eq_true (by kernel_rfl)) (fun c hc => by rw [List.mem_singleton.1 hc]; exact of_decide_eq_true (by kernel_rfl)) (fun c hc _ => by rw [List.mem_singleton.1 hc]; exact num10 (.inr (.inr (.inr rfl))))
  try simp only at hc8
  refine SD.run rfl (op_callF en36 (vs := [_]) rfl (hc8)) rfl rfl ?_
  rintro _ _ X16 ⟨rfl, hX16, rfl⟩
  rw [if_pos chk5, tx4]
  first | refine SD.skip rfl panicBody rfl rfl ?_ | refine SD.take rfl panicBody (op_eqlStrD rfl rfl) rfl rfl ?_
  rw [decide_eq_true rfl]
  first | refine SD.take rfl panicBody (op_pickT rfl rfl) rfl rfl ?_ | refine SD.take rfl panicBody (op_pickF rfl rfl) rfl rfl ?_ | refine SD.take rfl panicBody (op_pickB rfl rfl rfl) rfl rfl ?_
  refine SD.take rfl panicBody (op_move rfl) rfl rfl ?_
  first | refine SD.skip rfl panicBody rfl rfl ?_ | refine SD.take rfl panicBody (op_load ty34 rfl (by repeat constructor) rfl) rfl rfl ?_ | refine SD.take rfl panicBody (op_loadX ty34 rfl (by assumption) rfl) rfl rfl ?_
  have hc9 := depth_spec _ (Nat.le_refl _) (of_decide_eq_true (by kernel_rfl)) (((hNot2.mono hX14).mono hX15).mono hX16)
  try simp only at hc9
  refine SD.run rfl (op_callF en22 (vs := [_]) rfl (hc9)) rfl rfl ?_
  rintro _ _ X17 ⟨rfl, hX17, rfl⟩
  rw [show depE eNot = 3 by kernel_rfl]
  first | refine SD.skip rfl panicBody rfl rfl ?_ | refine SD.take rfl panicBody (op_eqlT rfl rfl (by omega)) rfl rfl ?_ | refine SD.take rfl panicBody (op_eqlF rfl rfl (by omega)) rfl rfl ?_ | refine SD.take rfl panicBody (op_eql rfl rfl) rfl rfl ?_
  first | refine SD.take rfl panicBody (op_pickT rfl rfl) rfl rfl ?_ | refine SD.take rfl panicBody (op_pickF rfl rfl) rfl rfl ?_ | refine SD.take rfl panicBody (op_pickB rfl rfl rfl) rfl rfl ?_
  refine SD.take rfl panicBody (op_assign rfl) rfl rfl ?_
  refine SD.nil ?_
  show SL _ _ _ _ _ _ _ [] _ _ _
  refine SL.nil ?_
  refine T.ret1 rfl (ResIs.tmp rfl) ?_
  rfl
end Go.Proofs.YtaooojjhlngcmaaDoor
namespace Go.Proofs.YtaooojjhlngcmaaDoor
open Go.Shelf
def lays171_ren : Go.Shelf.Ren := ⟨fun | 171 => 82 | 243 => 105 | 246 => 115 | 283 => 118 | 284 => 119 | 285 => 120 | 286 => 121 | 129 => 104 | 317 => 123 | 318 => 124 | 319 => 125 | 320 => 126 | 337 => 127 | 338 => 128 | n => n, fun | 3 => 3 | 9 => 9 | 2 => 2 | 4 => 4 | 171 => 156 | 0 => 0 | 53 => 141 | 37 => 104 | 5 => 5 | 173 => 158 | 212 => 162 | 51 => 139 | 20 => 20 | 213 => 163 | 46 => 119 | 232 => 165 | 233 => 166 | n => n, fun | 17 => 0 | 18 => 2 | 19 => 3 | n => n⟩
theorem lays171 : Go.Proofs.LaysM.n171 Tryd.prog lays171_ren := {
  mixed := by kernel_rfl
  f129 := Tryd.func104.trans (congrArg some (by kernel_rfl))
  f171 := Tryd.func82.trans (congrArg some (by kernel_rfl))
  f243 := Tryd.func105.trans (congrArg some (by kernel_rfl))
  f246 := Tryd.func115.trans (congrArg some (by kernel_rfl))
  f283 := Tryd.func118.trans (congrArg some (by kernel_rfl))
  f284 := Tryd.func119.trans (congrArg some (by kernel_rfl))
  f285 := Tryd.func120.trans (congrArg some (by kernel_rfl))
  f286 := Tryd.func121.trans (congrArg some (by kernel_rfl))
  f317 := Tryd.func123.trans (congrArg some (by kernel_rfl))
  f318 := Tryd.func124.trans (congrArg some (by kernel_rfl))
  f319 := Tryd.func125.trans (congrArg some (by kernel_rfl))
  f320 := Tryd.func126.trans (congrArg some (by kernel_rfl))
  f337 := Tryd.func127.trans (congrArg some (by kernel_rfl))
  f338 := Tryd.func128.trans (congrArg some (by kernel_rfl))
  t0 := Tryd.underlying0
  a0 := Tryd.isAgg0
  z0 := Tryd.sizeOf0
  v0 := Tryd.zeroValue0
  t2 := Tryd.underlying2
  a2 := Tryd.isAgg2
  z2 := Tryd.sizeOf2
  v2 := Tryd.zeroValue2
  t3 := Tryd.underlying3
  a3 := Tryd.isAgg3
  z3 := Tryd.sizeOf3
  v3 := Tryd.zeroValue3
  t4 := Tryd.underlying4
  a4 := Tryd.isAgg4
  z4 := Tryd.sizeOf4
  v4 := Tryd.zeroValue4
  t5 := Tryd.underlying5
  a5 := Tryd.isAgg5
  z5 := Tryd.sizeOf5
  v5 := Tryd.zeroValue5
  t9 := Tryd.underlying9
  a9 := Tryd.isAgg9
  z9 := Tryd.sizeOf9
  v9 := Tryd.zeroValue9
  t20 := Tryd.underlying20
  a20 := Tryd.isAgg20
  z20 := Tryd.sizeOf20
  v20 := Tryd.zeroValue20
  t37 := Tryd.underlying104
  a37 := Tryd.isAgg104
  z37 := Tryd.sizeOf104
  v37 := Tryd.zeroValue104
  t46 := Tryd.underlying119
  a46 := Tryd.isAgg119
  z46 := Tryd.sizeOf119
  v46 := Tryd.zeroValue119
  t51 := Tryd.underlying139
  a51 := Tryd.isAgg139
  z51 := Tryd.sizeOf139
  v51 := Tryd.zeroValue139
  t53 := Tryd.underlying141
  a53 := Tryd.isAgg141
  z53 := Tryd.sizeOf141
  v53 := Tryd.zeroValue141
  t171 := Tryd.underlying156
  a171 := Tryd.isAgg156
  z171 := Tryd.sizeOf156
  v171 := Tryd.zeroValue156
  t173 := Tryd.underlying158
  a173 := Tryd.isAgg158
  z173 := Tryd.sizeOf158
  v173 := Tryd.zeroValue158
  t212 := Tryd.underlying162
  a212 := Tryd.isAgg162
  z212 := Tryd.sizeOf162
  v212 := Tryd.zeroValue162
  t213 := Tryd.underlying163
  a213 := Tryd.isAgg163
  z213 := Tryd.sizeOf163
  t232 := Tryd.underlying165
  a232 := Tryd.isAgg165
  z232 := Tryd.sizeOf165
  v232 := Tryd.zeroValue165
  t233 := Tryd.underlying166
  a233 := Tryd.isAgg166
  z233 := Tryd.sizeOf166
  v233 := Tryd.zeroValue166
  g17 := by kernel_rfl
  g18 := by kernel_rfl
  g19 := by kernel_rfl
  i0 := by kernel_rfl
  i2 := by kernel_rfl
  i3 := by kernel_rfl
  i4 := by kernel_rfl
  i5 := by kernel_rfl
  i9 := by kernel_rfl
  i20 := by kernel_rfl
  i37 := by kernel_rfl
  i46 := by kernel_rfl
  i51 := by kernel_rfl
  i53 := by kernel_rfl
  i171 := by kernel_rfl
  i173 := by kernel_rfl
  i212 := by kernel_rfl
  i232 := by kernel_rfl
  i233 := by kernel_rfl
  m17 := by kernel_rfl
  m18 := by kernel_rfl
  m19 := by kernel_rfl }
end Go.Proofs.YtaooojjhlngcmaaDoor
namespace Go.Proofs.YtaooojjhlngcmaaDoor
open Go.RowKit
/-- The table of powers of ten lies as its initialiser lays it. -/
def Pow10 (X : PMap) : Prop := ∀ w, PIn X w → Lib.TabIs Tryd.prog w "internal/strconv.uint64pow10" .u64 Lib.pow10Tab
theorem Pow10.mono {X X' : PMap} (h : Pow10 X) (hX : X.le X') : Pow10 X' := fun w hw => h w fun k o hk => hw k o (hX k o hk)
theorem decG_lib : ∀ (f v : Nat), v < 10 ^ f → 0 < f → decG f v = Lib.decDigits v
  | 0, _, _, h => by omega
  | f + 1, v, h, _ => by
    rw [decG, Lib.decDigits]
    by_cases hv : v < 10
    · rw [if_pos hv, dif_pos hv]
    · rw [if_neg hv, dif_neg hv]
      have h1 : v / 10 < 10 ^ f := by rw [Nat.pow_succ] at h; omega
      rw [decG_lib f (v / 10) h1 (Nat.pos_of_ne_zero fun e => by subst e; simp at h1; omega)]
theorem itoaL_spec {X : PMap} (hP : Pow10 X) (v : Nat) (hv : v ≤ 9223372036854775807) : Spec Tryd.prog 82 [.int .i64 (v : Int)] X fun u _ => u = .string (decB v) := fun w hw => by
  have h := Any.strconv_Itoa lays171 (v : Int) (by omega) (by omega) w (hP w hw)
  refine h.mono ?_
  rintro e w' ⟨rfl, k, os, rfl⟩
  have e1 : (⟨(Lib.itoa (v : Int)).toArray⟩ : ByteArray) = decB v := by
    rw [Lib.itoa, if_neg (by omega), Int.toNat_natCast, decB, decG_lib 20 v (by omega) (by omega)]
  have hlt : ∀ k' : Nat, k' < w.heap.size → (Sort.grow (w.drewN k) os).heap[k']? = w.heap[k']? := fun k' hk => by
    show (w.heap ++ os)[k']? = _
    rw [Array.getElem?_append_left hk]
  refine ⟨_, X, rfl, ⟨rfl, rfl, rfl, ?_, hlt⟩, fun k' o hk => ?_, fun _ _ => rfl, by rw [e1]⟩
  · show w.heap.size ≤ (w.heap ++ os).size
    simp
  · rw [hlt k' (hw.lt hk)]; exact hw k' o hk
end Go.Proofs.YtaooojjhlngcmaaDoor
namespace Go.Proofs.YtaooojjhlngcmaaDoor
section
set_option maxRecDepth 100000
theorem en15 : Enters Tryd.prog 15 := enters_mk Tryd.func15 (by kernel_rfl) rfl
end
open Go.RowKit
theorem itoa_ok {X : PMap} (hP : Pow10 X) : ItoaOk 1000000 X := fun _ hX v hv => itoaL_spec (hP.mono hX) v (by omega)
mutual
theorem num_of : ∀ e : Ex, nodeE e = 0 → numE 1000000 e
  | .mk op n ns al, h => by
    obtain ⟨h1, h2⟩ := node_ok h
    obtain ⟨_, _, _, _, _, _, _, _, o9⟩ := own_ok h1
    exact (show (op = 1 → n < ((1000000 : Nat) : Int)) ∧ numL 1000000 al from ⟨fun _ => by omega, num_ofL al h2⟩)
theorem num_ofL : ∀ l : List Ex, nodeL l = 0 → numL 1000000 l
  | [], _ => trivial
  | a :: l, h => by
    have h1 : nodeE a = 0 := nodeL_zero h a (by simp)
    rw [nodeL, if_neg (fun h => h h1)] at h
    exact (show numE 1000000 a ∧ numL 1000000 l from ⟨num_of a h1, num_ofL l h⟩)
end
theorem printA_spec {X : PMap} (hP : Pow10 X) {e : Ex} {r : Row4} (hw : wtE e < 900000) (h : ExR .u8 X e r) : Spec Tryd.prog 26 [.agg #[r.1, r.2.1, r.2.2.1, r.2.2.2]] X fun u _ => u = .string (if chkE e = 0 then textE e else ⟨#[]⟩) :=
  eprint_spec (itoa_ok hP) hw (fun hc => num_of e (chkE_node hc)) h
end Go.Proofs.YtaooojjhlngcmaaDoor
namespace Go.Proofs.YtaooojjhlngcmaaDoor
open Go.RowKit
end Go.Proofs.YtaooojjhlngcmaaDoor
namespace Go.Proofs.YtaooojjhlngcmaaDoor
section
set_option maxRecDepth 100000
theorem en28 : Enters Tryd.prog 28 := enters_mk Tryd.func28 (by kernel_rfl) rfl
theorem en55 : Enters Tryd.prog 55 := enters_mk Tryd.func55 (by kernel_rfl) rfl
end
open Go.RowKit
noncomputable instance decEx : DecidableEq Ex := fun _ _ => Classical.propDecidable _
noncomputable instance decCon : DecidableEq Con := fun _ _ => Classical.propDecidable _
theorem ex_eq {op op' : Nat} {n n' : Int} {ns ns' : List ByteArray} {al al' : List Ex} : Ex.mk op n ns al = Ex.mk op' n' ns' al' ↔ op = op' ∧ n = n' ∧ ns = ns' ∧ al = al' := by simp
theorem take_eq {α : Type} {l l' : List α} {i : Nat} {a b : α} (ha : l[i]? = some a) (hb : l'[i]? = some b) (h : l.take i = l'.take i) : (l.take (i + 1) = l'.take (i + 1)) ↔ a = b := by
  rw [take_snoc ha, take_snoc hb, h]
  simp
theorem ne_at {α : Type} {l l' : List α} {i : Nat} {a b : α} (ha : l[i]? = some a) (hb : l'[i]? = some b) (h : a ≠ b) : l ≠ l' := fun e => by
  subst e; rw [ha] at hb; cases hb; exact h rfl
theorem same_spec {X : PMap} {v v' : Value} {l l' : List ByteArray} (h : RowR strC X v l) (h' : RowR strC X v' l') (hl : l.length < 1000000000) : Spec Tryd.prog 55 [v, v'] X fun u _ => u = .bool (decide (l = l')) := by
  obtain ⟨A, cp, rfl⟩ := h.form
  obtain ⟨A', cp', rfl⟩ := h'.form
  by_cases hlen : l.length = l'.length
  case neg =>
    refine Spec.enter Tryd.func55 rfl Tryd.ntmps55 rfl ?_
    intro w0 hw0
    refine T.seq ?_
    refine T.region ?_
    refine SL.y (op_assign rfl) rfl rfl ?_
    refine SL.nil ?_
    refine T.seq ?_
    refine T.seq ?_
    refine T.region ?_
    refine SL.y (op_move rfl) rfl rfl ?_
    refine SL.y (op_lenS Tryd.underlying24 rfl) rfl rfl ?_
    refine SL.y (op_move rfl) rfl rfl ?_
    refine SL.y (op_lenS Tryd.underlying24 rfl) rfl rfl ?_
    first | refine SL.y (op_neqT rfl rfl (by omega)) rfl rfl ?_ | refine SL.y (op_neqF rfl rfl (by omega)) rfl rfl ?_ | refine SL.y (op_neq rfl rfl) rfl rfl ?_
    refine SL.nil ?_
    refine T.condT rfl ?_
    refine T.seq ?_
    refine T.region ?_
    refine SL.y (op_assign rfl) rfl rfl ?_
    refine SL.nil ?_
    refine T.ret1 rfl (ResIs.tmp rfl) ?_
    rw [decide_eq_false fun e => hlen (by rw [e])]
  refine Spec.enter Tryd.func55 rfl Tryd.ntmps55 rfl ?_
  intro w0 hw0
  refine T.seq ?_
  refine T.region ?_
  refine SL.y (op_assign rfl) rfl rfl ?_
  refine SL.nil ?_
  refine T.seq ?_
  refine T.seq ?_
  refine T.region ?_
  refine SL.y (op_move rfl) rfl rfl ?_
  refine SL.y (op_lenS Tryd.underlying24 rfl) rfl rfl ?_
  refine SL.y (op_move rfl) rfl rfl ?_
  refine SL.y (op_lenS Tryd.underlying24 rfl) rfl rfl ?_
  first | refine SL.y (op_neqT rfl rfl (by omega)) rfl rfl ?_ | refine SL.y (op_neqF rfl rfl (by omega)) rfl rfl ?_ | refine SL.y (op_neq rfl rfl) rfl rfl ?_
  refine SL.nil ?_
  refine T.condF rfl ?_
  refine T.skip ?_
  refine T.seq ?_
  refine T.seq ?_
  refine T.region ?_
  refine SL.y (op_move rfl) rfl rfl ?_
  refine SL.y (op_lenS Tryd.underlying24 rfl) rfl rfl ?_
  refine SL.y (op_move (v := .int .i64 ((0 : Nat) : Int)) rfl) rfl rfl ?_
  refine SL.nil ?_
  refine T.block ?_
  refine T.loopW (fun m env own X' => ∃ i : Nat, m = l.length - i ∧ i ≤ l.length ∧ X.le X' ∧ l.take i = l'.take i ∧ env = [(0, .slice A l.length cp), (1, .slice A' l'.length cp'), (12, .int .i64 (l.length : Int)), (13, .int .i64 (i : Int))] ∧ own = []) l.length ⟨0, by simp, by omega, PMap.le_refl _, by simp, rfl, rfl⟩ (by repeat (first | exact Sub.nil | refine Sub.cons rfl ?_)) ?_
  rintro m _ _ X1 ⟨i, rfl, hi, hX1, heq, rfl, rfl⟩
  rcases Nat.lt_or_ge i l.length with hil | hil
  · obtain ⟨x, hx⟩ : ∃ x, l[i]? = some x := ⟨_, List.getElem?_eq_getElem hil⟩
    obtain ⟨y, hy⟩ : ∃ y, l'[i]? = some y := ⟨_, List.getElem?_eq_getElem (by omega)⟩
    obtain ⟨b, pre, rfl, hB⟩ := h.blk (by omega)
    obtain ⟨b', pre', rfl, hB'⟩ := h'.blk (by omega)
    refine T.seq ?_
    refine T.region ?_
    first | refine SL.y (op_lssT rfl rfl (by omega)) rfl rfl ?_ | refine SL.y (op_lssF rfl rfl (by omega)) rfl rfl ?_ | refine SL.y (op_lss rfl rfl) rfl rfl ?_
    refine SL.nil ?_
    refine T.seq ?_
    refine T.condT rfl ?_
    refine T.skip ?_
    refine T.seq ?_
    refine T.block ?_
    refine T.seq ?_
    refine T.region ?_
    refine SL.y (op_move rfl) rfl rfl ?_
    refine SL.y (op_assign rfl) rfl rfl ?_
    refine SL.nil ?_
    refine T.seq ?_
    refine T.draw (by kernel_rfl) 9 [.t 0, .t 1, .t 2, .t 3, .t 4, .t 5, .t 6, .t 7, .t 8] (by kernel_rfl) ?_
    refine SD.take rfl panicBody (op_move rfl) rfl rfl ?_
    refine SD.take rfl panicBody (op_move rfl) rfl rfl ?_
    first | refine SD.take rfl panicBody (op_indexN Tryd.underlying24 ty9 rfl rfl (by omega)) rfl rfl ?_ | refine SD.take rfl panicBody (op_index Tryd.underlying24 ty9 rfl rfl (by omega) (by omega)) rfl rfl ?_
    refine SD.take rfl panicBody (op_loadX ty9 rfl (hB.mono hX1) (str_read hx (by omega))) rfl rfl ?_
    refine SD.take rfl panicBody (op_move rfl) rfl rfl ?_
    refine SD.take rfl panicBody (op_move rfl) rfl rfl ?_
    first | refine SD.take rfl panicBody (op_indexN Tryd.underlying24 ty9 rfl rfl (by omega)) rfl rfl ?_ | refine SD.take rfl panicBody (op_index Tryd.underlying24 ty9 rfl rfl (by omega) (by omega)) rfl rfl ?_
    refine SD.take rfl panicBody (op_loadX ty9 rfl (hB'.mono hX1) (str_read hy (by omega))) rfl rfl ?_
    refine SD.take rfl panicBody (op_neqStrD rfl rfl) rfl rfl ?_
    refine SD.nil ?_
    show SL _ _ _ _ _ _ _ [] _ _ _
    refine SL.nil ?_
    by_cases hxy : x = y
    · rw [decide_eq_true hxy]
      refine T.condF rfl ?_
      refine T.skip ?_
      refine T.blk ?_
      refine T.region ?_
      first | refine SL.y (op_addN (q := 1) rfl rfl (by omega)) rfl rfl ?_ | refine SL.y (op_add rfl rfl (by omega) (by omega)) rfl rfl ?_ | refine SL.y (op_addW rfl rfl) rfl rfl ?_
      refine SL.y (op_move rfl) rfl rfl ?_
      refine SL.nil ?_
      exact T.backW (l.length - (i + 1)) (by omega) ⟨i + 1, rfl, by omega, hX1, (take_eq hx hy heq).2 hxy, rfl, rfl⟩ (by repeat (first | exact Sub.nil | refine Sub.cons rfl ?_))
    · rw [decide_eq_false hxy]
      refine T.condT rfl ?_
      refine T.seq ?_
      refine T.region ?_
      refine SL.y (op_assign rfl) rfl rfl ?_
      refine SL.nil ?_
      refine T.ret1 rfl (ResIs.tmp rfl) ?_
      rw [decide_eq_false (ne_at hx hy hxy)]
  · obtain rfl : i = l.length := by omega
    rw [List.take_length, hlen, List.take_length] at heq
    refine T.seq ?_
    refine T.region ?_
    first | refine SL.y (op_lssT rfl rfl (by omega)) rfl rfl ?_ | refine SL.y (op_lssF rfl rfl (by omega)) rfl rfl ?_ | refine SL.y (op_lss rfl rfl) rfl rfl ?_
    refine SL.nil ?_
    refine T.seq ?_
    refine T.condF rfl ?_
    refine T.exit (T.exitCode (T.exitCut (T.exitBlk ?_)))
    refine T.seq ?_
    refine T.region ?_
    refine SL.y (op_assign rfl) rfl rfl ?_
    refine SL.nil ?_
    refine T.ret1 rfl (ResIs.tmp rfl) ?_
    rw [decide_eq_true heq]
theorem reqE_spec (N : Nat) : ∀ {X : PMap} {a b : Ex} {r r' : Row4}, wtE a ≤ N → N < 100000000 → ExR .i64 X a r → ExR .i64 X b r' → Spec Tryd.prog 28 [.agg #[r.1, r.2.1, r.2.2.1, r.2.2.2], .agg #[r'.1, r'.2.1, r'.2.2.1, r'.2.2.2]] X fun u _ => u = .bool (decide (a = b)) := by
  induction N with
  | zero => intro X a b r r' h; cases a; rw [wtE] at h; omega
  | succ N ih =>
    intro X a b r r' hN hB h h'
    cases h with
    | @mk op n ns al vn va rows hn ha hl hr =>
    cases h' with
    | @mk op' n' ns' al' vn' va' rows' hn' ha' hl' hr' =>
    obtain ⟨Aa, ca, rfl⟩ := ha.form
    obtain ⟨An, cn, rfl⟩ := hn.form
    obtain ⟨Aa', ca', rfl⟩ := ha'.form
    obtain ⟨An', cn', rfl⟩ := hn'.form
    have hlen := wtL_len al
    have hnl := wtS_len ns
    rw [wtE] at hN
    by_cases h1 : op = op'
    case neg =>
      refine Spec.enter Tryd.func28 rfl Tryd.ntmps28 rfl ?_
      intro w0 hw0
      refine T.seq ?_
      refine T.region ?_
      refine SL.x (op_box rfl) rfl rfl ?_
      rintro _ _ _ ⟨B2, rfl, rfl, rfl⟩
      refine SL.x (op_box rfl) rfl rfl ?_
      rintro _ _ _ ⟨B3, rfl, rfl, rfl⟩
      refine SL.y (op_assign rfl) rfl rfl ?_
      refine SL.nil ?_
      refine T.seq ?_
      refine T.seq ?_
      refine T.region ?_
      refine SL.y (op_fieldAddr fa27_0 rfl) rfl rfl ?_
      first | refine SL.y (op_load ty3 rfl (by repeat constructor) rfl) rfl rfl ?_ | refine SL.y (op_loadX ty3 rfl (by assumption) rfl) rfl rfl ?_
      refine SL.y (op_fieldAddr fa27_0 rfl) rfl rfl ?_
      first | refine SL.y (op_load ty3 rfl (by repeat constructor) rfl) rfl rfl ?_ | refine SL.y (op_loadX ty3 rfl (by assumption) rfl) rfl rfl ?_
      first | refine SL.y (op_neqT rfl rfl (by omega)) rfl rfl ?_ | refine SL.y (op_neqF rfl rfl (by omega)) rfl rfl ?_ | refine SL.y (op_neq rfl rfl) rfl rfl ?_
      refine SL.y (op_move rfl) rfl rfl ?_
      first | refine SL.skip rfl rfl ?_ | refine SL.y (op_fieldAddr fa27_1 rfl) rfl rfl ?_
      first | refine SL.skip rfl rfl ?_ | refine SL.y (op_load ty3 rfl (by repeat constructor) rfl) rfl rfl ?_ | refine SL.y (op_loadX ty3 rfl (by assumption) rfl) rfl rfl ?_
      first | refine SL.skip rfl rfl ?_ | refine SL.y (op_fieldAddr fa27_1 rfl) rfl rfl ?_
      first | refine SL.skip rfl rfl ?_ | refine SL.y (op_load ty3 rfl (by repeat constructor) rfl) rfl rfl ?_ | refine SL.y (op_loadX ty3 rfl (by assumption) rfl) rfl rfl ?_
      first | refine SL.skip rfl rfl ?_ | refine SL.y (op_neqT rfl rfl (by omega)) rfl rfl ?_ | refine SL.y (op_neqF rfl rfl (by omega)) rfl rfl ?_ | refine SL.y (op_neq rfl rfl) rfl rfl ?_
      first | refine SL.y (op_pickT rfl rfl) rfl rfl ?_ | refine SL.y (op_pickF rfl rfl) rfl rfl ?_ | refine SL.y (op_pickB rfl rfl rfl) rfl rfl ?_
      refine SL.y (op_move rfl) rfl rfl ?_
      first | refine SL.skip rfl rfl ?_ | refine SL.y (op_fieldAddr fa27_2 rfl) rfl rfl ?_
      first | refine SL.skip rfl rfl ?_ | refine SL.y (op_load ty24 rfl (by repeat constructor) rfl) rfl rfl ?_ | refine SL.y (op_loadX ty24 rfl (by assumption) rfl) rfl rfl ?_
      first | refine SL.skip rfl rfl ?_ | refine SL.y (op_fieldAddr fa27_2 rfl) rfl rfl ?_
      first | refine SL.skip rfl rfl ?_ | refine SL.y (op_load ty24 rfl (by repeat constructor) rfl) rfl rfl ?_ | refine SL.y (op_loadX ty24 rfl (by assumption) rfl) rfl rfl ?_
      refine SL.skip rfl rfl ?_
      first | refine SL.skip rfl rfl ?_ | refine SL.y (op_not rfl) rfl rfl ?_
      first | refine SL.y (op_pickT rfl rfl) rfl rfl ?_ | refine SL.y (op_pickF rfl rfl) rfl rfl ?_ | refine SL.y (op_pickB rfl rfl rfl) rfl rfl ?_
      refine SL.y (op_move rfl) rfl rfl ?_
      first | refine SL.skip rfl rfl ?_ | refine SL.y (op_fieldAddr fa27_3 rfl) rfl rfl ?_
      first | refine SL.skip rfl rfl ?_ | refine SL.y (op_load ty25 rfl (by repeat constructor) rfl) rfl rfl ?_ | refine SL.y (op_loadX ty25 rfl (by assumption) rfl) rfl rfl ?_
      first | refine SL.skip rfl rfl ?_ | refine SL.y (op_lenS Tryd.underlying25 rfl) rfl rfl ?_
      first | refine SL.skip rfl rfl ?_ | refine SL.y (op_fieldAddr fa27_3 rfl) rfl rfl ?_
      first | refine SL.skip rfl rfl ?_ | refine SL.y (op_load ty25 rfl (by repeat constructor) rfl) rfl rfl ?_ | refine SL.y (op_loadX ty25 rfl (by assumption) rfl) rfl rfl ?_
      first | refine SL.skip rfl rfl ?_ | refine SL.y (op_lenS Tryd.underlying25 rfl) rfl rfl ?_
      first | refine SL.skip rfl rfl ?_ | refine SL.y (op_neqT rfl rfl (by omega)) rfl rfl ?_ | refine SL.y (op_neqF rfl rfl (by omega)) rfl rfl ?_ | refine SL.y (op_neq rfl rfl) rfl rfl ?_
      first | refine SL.y (op_pickT rfl rfl) rfl rfl ?_ | refine SL.y (op_pickF rfl rfl) rfl rfl ?_ | refine SL.y (op_pickB rfl rfl rfl) rfl rfl ?_
      refine SL.nil ?_
      refine T.condT rfl ?_
      refine T.seq ?_
      refine T.region ?_
      refine SL.y (op_assign rfl) rfl rfl ?_
      refine SL.nil ?_
      refine T.ret1 rfl (ResIs.tmp rfl) ?_
      rw [decide_eq_false fun e => h1 (ex_eq.1 e).1]
    by_cases h2 : n = n'
    case neg =>
      refine Spec.enter Tryd.func28 rfl Tryd.ntmps28 rfl ?_
      intro w0 hw0
      refine T.seq ?_
      refine T.region ?_
      refine SL.x (op_box rfl) rfl rfl ?_
      rintro _ _ _ ⟨B2, rfl, rfl, rfl⟩
      refine SL.x (op_box rfl) rfl rfl ?_
      rintro _ _ _ ⟨B3, rfl, rfl, rfl⟩
      refine SL.y (op_assign rfl) rfl rfl ?_
      refine SL.nil ?_
      refine T.seq ?_
      refine T.seq ?_
      refine T.region ?_
      refine SL.y (op_fieldAddr fa27_0 rfl) rfl rfl ?_
      first | refine SL.y (op_load ty3 rfl (by repeat constructor) rfl) rfl rfl ?_ | refine SL.y (op_loadX ty3 rfl (by assumption) rfl) rfl rfl ?_
      refine SL.y (op_fieldAddr fa27_0 rfl) rfl rfl ?_
      first | refine SL.y (op_load ty3 rfl (by repeat constructor) rfl) rfl rfl ?_ | refine SL.y (op_loadX ty3 rfl (by assumption) rfl) rfl rfl ?_
      first | refine SL.y (op_neqT rfl rfl (by omega)) rfl rfl ?_ | refine SL.y (op_neqF rfl rfl (by omega)) rfl rfl ?_ | refine SL.y (op_neq rfl rfl) rfl rfl ?_
      refine SL.y (op_move rfl) rfl rfl ?_
      first | refine SL.skip rfl rfl ?_ | refine SL.y (op_fieldAddr fa27_1 rfl) rfl rfl ?_
      first | refine SL.skip rfl rfl ?_ | refine SL.y (op_load ty3 rfl (by repeat constructor) rfl) rfl rfl ?_ | refine SL.y (op_loadX ty3 rfl (by assumption) rfl) rfl rfl ?_
      first | refine SL.skip rfl rfl ?_ | refine SL.y (op_fieldAddr fa27_1 rfl) rfl rfl ?_
      first | refine SL.skip rfl rfl ?_ | refine SL.y (op_load ty3 rfl (by repeat constructor) rfl) rfl rfl ?_ | refine SL.y (op_loadX ty3 rfl (by assumption) rfl) rfl rfl ?_
      first | refine SL.skip rfl rfl ?_ | refine SL.y (op_neqT rfl rfl (by omega)) rfl rfl ?_ | refine SL.y (op_neqF rfl rfl (by omega)) rfl rfl ?_ | refine SL.y (op_neq rfl rfl) rfl rfl ?_
      first | refine SL.y (op_pickT rfl rfl) rfl rfl ?_ | refine SL.y (op_pickF rfl rfl) rfl rfl ?_ | refine SL.y (op_pickB rfl rfl rfl) rfl rfl ?_
      refine SL.y (op_move rfl) rfl rfl ?_
      first | refine SL.skip rfl rfl ?_ | refine SL.y (op_fieldAddr fa27_2 rfl) rfl rfl ?_
      first | refine SL.skip rfl rfl ?_ | refine SL.y (op_load ty24 rfl (by repeat constructor) rfl) rfl rfl ?_ | refine SL.y (op_loadX ty24 rfl (by assumption) rfl) rfl rfl ?_
      first | refine SL.skip rfl rfl ?_ | refine SL.y (op_fieldAddr fa27_2 rfl) rfl rfl ?_
      first | refine SL.skip rfl rfl ?_ | refine SL.y (op_load ty24 rfl (by repeat constructor) rfl) rfl rfl ?_ | refine SL.y (op_loadX ty24 rfl (by assumption) rfl) rfl rfl ?_
      refine SL.skip rfl rfl ?_
      first | refine SL.skip rfl rfl ?_ | refine SL.y (op_not rfl) rfl rfl ?_
      first | refine SL.y (op_pickT rfl rfl) rfl rfl ?_ | refine SL.y (op_pickF rfl rfl) rfl rfl ?_ | refine SL.y (op_pickB rfl rfl rfl) rfl rfl ?_
      refine SL.y (op_move rfl) rfl rfl ?_
      first | refine SL.skip rfl rfl ?_ | refine SL.y (op_fieldAddr fa27_3 rfl) rfl rfl ?_
      first | refine SL.skip rfl rfl ?_ | refine SL.y (op_load ty25 rfl (by repeat constructor) rfl) rfl rfl ?_ | refine SL.y (op_loadX ty25 rfl (by assumption) rfl) rfl rfl ?_
      first | refine SL.skip rfl rfl ?_ | refine SL.y (op_lenS Tryd.underlying25 rfl) rfl rfl ?_
      first | refine SL.skip rfl rfl ?_ | refine SL.y (op_fieldAddr fa27_3 rfl) rfl rfl ?_
      first | refine SL.skip rfl rfl ?_ | refine SL.y (op_load ty25 rfl (by repeat constructor) rfl) rfl rfl ?_ | refine SL.y (op_loadX ty25 rfl (by assumption) rfl) rfl rfl ?_
      first | refine SL.skip rfl rfl ?_ | refine SL.y (op_lenS Tryd.underlying25 rfl) rfl rfl ?_
      first | refine SL.skip rfl rfl ?_ | refine SL.y (op_neqT rfl rfl (by omega)) rfl rfl ?_ | refine SL.y (op_neqF rfl rfl (by omega)) rfl rfl ?_ | refine SL.y (op_neq rfl rfl) rfl rfl ?_
      first | refine SL.y (op_pickT rfl rfl) rfl rfl ?_ | refine SL.y (op_pickF rfl rfl) rfl rfl ?_ | refine SL.y (op_pickB rfl rfl rfl) rfl rfl ?_
      refine SL.nil ?_
      refine T.condT rfl ?_
      refine T.seq ?_
      refine T.region ?_
      refine SL.y (op_assign rfl) rfl rfl ?_
      refine SL.nil ?_
      refine T.ret1 rfl (ResIs.tmp rfl) ?_
      rw [decide_eq_false fun e => h2 (ex_eq.1 e).2.1]
    by_cases h3 : ns = ns'
    case neg =>
      refine Spec.enter Tryd.func28 rfl Tryd.ntmps28 rfl ?_
      intro w0 hw0
      refine T.seq ?_
      refine T.region ?_
      refine SL.x (op_box rfl) rfl rfl ?_
      rintro _ _ _ ⟨B2, rfl, rfl, rfl⟩
      refine SL.x (op_box rfl) rfl rfl ?_
      rintro _ _ _ ⟨B3, rfl, rfl, rfl⟩
      refine SL.y (op_assign rfl) rfl rfl ?_
      refine SL.nil ?_
      refine T.seq ?_
      refine T.seq ?_
      refine T.region ?_
      refine SL.y (op_fieldAddr fa27_0 rfl) rfl rfl ?_
      first | refine SL.y (op_load ty3 rfl (by repeat constructor) rfl) rfl rfl ?_ | refine SL.y (op_loadX ty3 rfl (by assumption) rfl) rfl rfl ?_
      refine SL.y (op_fieldAddr fa27_0 rfl) rfl rfl ?_
      first | refine SL.y (op_load ty3 rfl (by repeat constructor) rfl) rfl rfl ?_ | refine SL.y (op_loadX ty3 rfl (by assumption) rfl) rfl rfl ?_
      first | refine SL.y (op_neqT rfl rfl (by omega)) rfl rfl ?_ | refine SL.y (op_neqF rfl rfl (by omega)) rfl rfl ?_ | refine SL.y (op_neq rfl rfl) rfl rfl ?_
      refine SL.y (op_move rfl) rfl rfl ?_
      first | refine SL.skip rfl rfl ?_ | refine SL.y (op_fieldAddr fa27_1 rfl) rfl rfl ?_
      first | refine SL.skip rfl rfl ?_ | refine SL.y (op_load ty3 rfl (by repeat constructor) rfl) rfl rfl ?_ | refine SL.y (op_loadX ty3 rfl (by assumption) rfl) rfl rfl ?_
      first | refine SL.skip rfl rfl ?_ | refine SL.y (op_fieldAddr fa27_1 rfl) rfl rfl ?_
      first | refine SL.skip rfl rfl ?_ | refine SL.y (op_load ty3 rfl (by repeat constructor) rfl) rfl rfl ?_ | refine SL.y (op_loadX ty3 rfl (by assumption) rfl) rfl rfl ?_
      first | refine SL.skip rfl rfl ?_ | refine SL.y (op_neqT rfl rfl (by omega)) rfl rfl ?_ | refine SL.y (op_neqF rfl rfl (by omega)) rfl rfl ?_ | refine SL.y (op_neq rfl rfl) rfl rfl ?_
      first | refine SL.y (op_pickT rfl rfl) rfl rfl ?_ | refine SL.y (op_pickF rfl rfl) rfl rfl ?_ | refine SL.y (op_pickB rfl rfl rfl) rfl rfl ?_
      refine SL.y (op_move rfl) rfl rfl ?_
      first | refine SL.skip rfl rfl ?_ | refine SL.y (op_fieldAddr fa27_2 rfl) rfl rfl ?_
      first | refine SL.skip rfl rfl ?_ | refine SL.y (op_load ty24 rfl (by repeat constructor) rfl) rfl rfl ?_ | refine SL.y (op_loadX ty24 rfl (by assumption) rfl) rfl rfl ?_
      first | refine SL.skip rfl rfl ?_ | refine SL.y (op_fieldAddr fa27_2 rfl) rfl rfl ?_
      first | refine SL.skip rfl rfl ?_ | refine SL.y (op_load ty24 rfl (by repeat constructor) rfl) rfl rfl ?_ | refine SL.y (op_loadX ty24 rfl (by assumption) rfl) rfl rfl ?_
      refine SL.x (op_callF en55 (vs := [_, _]) rfl (same_spec hn hn' (by omega))) rfl rfl ?_
      rintro _ _ X1 ⟨rfl, hX1, rfl⟩
      rw [decide_eq_false h3]
      first | refine SL.skip rfl rfl ?_ | refine SL.y (op_not rfl) rfl rfl ?_
      first | refine SL.y (op_pickT rfl rfl) rfl rfl ?_ | refine SL.y (op_pickF rfl rfl) rfl rfl ?_ | refine SL.y (op_pickB rfl rfl rfl) rfl rfl ?_
      refine SL.y (op_move rfl) rfl rfl ?_
      first | refine SL.skip rfl rfl ?_ | refine SL.y (op_fieldAddr fa27_3 rfl) rfl rfl ?_
      first | refine SL.skip rfl rfl ?_ | refine SL.y (op_load ty25 rfl (by repeat constructor) rfl) rfl rfl ?_ | refine SL.y (op_loadX ty25 rfl (by assumption) rfl) rfl rfl ?_
      first | refine SL.skip rfl rfl ?_ | refine SL.y (op_lenS Tryd.underlying25 rfl) rfl rfl ?_
      first | refine SL.skip rfl rfl ?_ | refine SL.y (op_fieldAddr fa27_3 rfl) rfl rfl ?_
      first | refine SL.skip rfl rfl ?_ | refine SL.y (op_load ty25 rfl (by repeat constructor) rfl) rfl rfl ?_ | refine SL.y (op_loadX ty25 rfl (by assumption) rfl) rfl rfl ?_
      first | refine SL.skip rfl rfl ?_ | refine SL.y (op_lenS Tryd.underlying25 rfl) rfl rfl ?_
      first | refine SL.skip rfl rfl ?_ | refine SL.y (op_neqT rfl rfl (by omega)) rfl rfl ?_ | refine SL.y (op_neqF rfl rfl (by omega)) rfl rfl ?_ | refine SL.y (op_neq rfl rfl) rfl rfl ?_
      first | refine SL.y (op_pickT rfl rfl) rfl rfl ?_ | refine SL.y (op_pickF rfl rfl) rfl rfl ?_ | refine SL.y (op_pickB rfl rfl rfl) rfl rfl ?_
      refine SL.nil ?_
      refine T.condT rfl ?_
      refine T.seq ?_
      refine T.region ?_
      refine SL.y (op_assign rfl) rfl rfl ?_
      refine SL.nil ?_
      refine T.ret1 rfl (ResIs.tmp rfl) ?_
      rw [decide_eq_false fun e => h3 (ex_eq.1 e).2.2.1]
    by_cases h4 : al.length = al'.length
    case neg =>
      refine Spec.enter Tryd.func28 rfl Tryd.ntmps28 rfl ?_
      intro w0 hw0
      refine T.seq ?_
      refine T.region ?_
      refine SL.x (op_box rfl) rfl rfl ?_
      rintro _ _ _ ⟨B2, rfl, rfl, rfl⟩
      refine SL.x (op_box rfl) rfl rfl ?_
      rintro _ _ _ ⟨B3, rfl, rfl, rfl⟩
      refine SL.y (op_assign rfl) rfl rfl ?_
      refine SL.nil ?_
      refine T.seq ?_
      refine T.seq ?_
      refine T.region ?_
      refine SL.y (op_fieldAddr fa27_0 rfl) rfl rfl ?_
      first | refine SL.y (op_load ty3 rfl (by repeat constructor) rfl) rfl rfl ?_ | refine SL.y (op_loadX ty3 rfl (by assumption) rfl) rfl rfl ?_
      refine SL.y (op_fieldAddr fa27_0 rfl) rfl rfl ?_
      first | refine SL.y (op_load ty3 rfl (by repeat constructor) rfl) rfl rfl ?_ | refine SL.y (op_loadX ty3 rfl (by assumption) rfl) rfl rfl ?_
      first | refine SL.y (op_neqT rfl rfl (by omega)) rfl rfl ?_ | refine SL.y (op_neqF rfl rfl (by omega)) rfl rfl ?_ | refine SL.y (op_neq rfl rfl) rfl rfl ?_
      refine SL.y (op_move rfl) rfl rfl ?_
      first | refine SL.skip rfl rfl ?_ | refine SL.y (op_fieldAddr fa27_1 rfl) rfl rfl ?_
      first | refine SL.skip rfl rfl ?_ | refine SL.y (op_load ty3 rfl (by repeat constructor) rfl) rfl rfl ?_ | refine SL.y (op_loadX ty3 rfl (by assumption) rfl) rfl rfl ?_
      first | refine SL.skip rfl rfl ?_ | refine SL.y (op_fieldAddr fa27_1 rfl) rfl rfl ?_
      first | refine SL.skip rfl rfl ?_ | refine SL.y (op_load ty3 rfl (by repeat constructor) rfl) rfl rfl ?_ | refine SL.y (op_loadX ty3 rfl (by assumption) rfl) rfl rfl ?_
      first | refine SL.skip rfl rfl ?_ | refine SL.y (op_neqT rfl rfl (by omega)) rfl rfl ?_ | refine SL.y (op_neqF rfl rfl (by omega)) rfl rfl ?_ | refine SL.y (op_neq rfl rfl) rfl rfl ?_
      first | refine SL.y (op_pickT rfl rfl) rfl rfl ?_ | refine SL.y (op_pickF rfl rfl) rfl rfl ?_ | refine SL.y (op_pickB rfl rfl rfl) rfl rfl ?_
      refine SL.y (op_move rfl) rfl rfl ?_
      first | refine SL.skip rfl rfl ?_ | refine SL.y (op_fieldAddr fa27_2 rfl) rfl rfl ?_
      first | refine SL.skip rfl rfl ?_ | refine SL.y (op_load ty24 rfl (by repeat constructor) rfl) rfl rfl ?_ | refine SL.y (op_loadX ty24 rfl (by assumption) rfl) rfl rfl ?_
      first | refine SL.skip rfl rfl ?_ | refine SL.y (op_fieldAddr fa27_2 rfl) rfl rfl ?_
      first | refine SL.skip rfl rfl ?_ | refine SL.y (op_load ty24 rfl (by repeat constructor) rfl) rfl rfl ?_ | refine SL.y (op_loadX ty24 rfl (by assumption) rfl) rfl rfl ?_
      refine SL.x (op_callF en55 (vs := [_, _]) rfl (same_spec hn hn' (by omega))) rfl rfl ?_
      rintro _ _ X1 ⟨rfl, hX1, rfl⟩
      rw [decide_eq_true h3]
      first | refine SL.skip rfl rfl ?_ | refine SL.y (op_not rfl) rfl rfl ?_
      first | refine SL.y (op_pickT rfl rfl) rfl rfl ?_ | refine SL.y (op_pickF rfl rfl) rfl rfl ?_ | refine SL.y (op_pickB rfl rfl rfl) rfl rfl ?_
      refine SL.y (op_move rfl) rfl rfl ?_
      first | refine SL.skip rfl rfl ?_ | refine SL.y (op_fieldAddr fa27_3 rfl) rfl rfl ?_
      first | refine SL.skip rfl rfl ?_ | refine SL.y (op_load ty25 rfl (by repeat constructor) rfl) rfl rfl ?_ | refine SL.y (op_loadX ty25 rfl (by assumption) rfl) rfl rfl ?_
      first | refine SL.skip rfl rfl ?_ | refine SL.y (op_lenS Tryd.underlying25 rfl) rfl rfl ?_
      first | refine SL.skip rfl rfl ?_ | refine SL.y (op_fieldAddr fa27_3 rfl) rfl rfl ?_
      first | refine SL.skip rfl rfl ?_ | refine SL.y (op_load ty25 rfl (by repeat constructor) rfl) rfl rfl ?_ | refine SL.y (op_loadX ty25 rfl (by assumption) rfl) rfl rfl ?_
      first | refine SL.skip rfl rfl ?_ | refine SL.y (op_lenS Tryd.underlying25 rfl) rfl rfl ?_
      first | refine SL.skip rfl rfl ?_ | refine SL.y (op_neqT rfl rfl (by omega)) rfl rfl ?_ | refine SL.y (op_neqF rfl rfl (by omega)) rfl rfl ?_ | refine SL.y (op_neq rfl rfl) rfl rfl ?_
      first | refine SL.y (op_pickT rfl rfl) rfl rfl ?_ | refine SL.y (op_pickF rfl rfl) rfl rfl ?_ | refine SL.y (op_pickB rfl rfl rfl) rfl rfl ?_
      refine SL.nil ?_
      refine T.condT rfl ?_
      refine T.seq ?_
      refine T.region ?_
      refine SL.y (op_assign rfl) rfl rfl ?_
      refine SL.nil ?_
      refine T.ret1 rfl (ResIs.tmp rfl) ?_
      rw [decide_eq_false fun e => h4 (by rw [(ex_eq.1 e).2.2.2])]
    refine Spec.enter Tryd.func28 rfl Tryd.ntmps28 rfl ?_
    intro w0 hw0
    refine T.seq ?_
    refine T.region ?_
    refine SL.x (op_box rfl) rfl rfl ?_
    rintro _ _ _ ⟨B2, rfl, rfl, rfl⟩
    refine SL.x (op_box rfl) rfl rfl ?_
    rintro _ _ _ ⟨B3, rfl, rfl, rfl⟩
    refine SL.y (op_assign rfl) rfl rfl ?_
    refine SL.nil ?_
    refine T.seq ?_
    refine T.seq ?_
    refine T.region ?_
    refine SL.y (op_fieldAddr fa27_0 rfl) rfl rfl ?_
    first | refine SL.y (op_load ty3 rfl (by repeat constructor) rfl) rfl rfl ?_ | refine SL.y (op_loadX ty3 rfl (by assumption) rfl) rfl rfl ?_
    refine SL.y (op_fieldAddr fa27_0 rfl) rfl rfl ?_
    first | refine SL.y (op_load ty3 rfl (by repeat constructor) rfl) rfl rfl ?_ | refine SL.y (op_loadX ty3 rfl (by assumption) rfl) rfl rfl ?_
    first | refine SL.y (op_neqT rfl rfl (by omega)) rfl rfl ?_ | refine SL.y (op_neqF rfl rfl (by omega)) rfl rfl ?_ | refine SL.y (op_neq rfl rfl) rfl rfl ?_
    refine SL.y (op_move rfl) rfl rfl ?_
    first | refine SL.skip rfl rfl ?_ | refine SL.y (op_fieldAddr fa27_1 rfl) rfl rfl ?_
    first | refine SL.skip rfl rfl ?_ | refine SL.y (op_load ty3 rfl (by repeat constructor) rfl) rfl rfl ?_ | refine SL.y (op_loadX ty3 rfl (by assumption) rfl) rfl rfl ?_
    first | refine SL.skip rfl rfl ?_ | refine SL.y (op_fieldAddr fa27_1 rfl) rfl rfl ?_
    first | refine SL.skip rfl rfl ?_ | refine SL.y (op_load ty3 rfl (by repeat constructor) rfl) rfl rfl ?_ | refine SL.y (op_loadX ty3 rfl (by assumption) rfl) rfl rfl ?_
    first | refine SL.skip rfl rfl ?_ | refine SL.y (op_neqT rfl rfl (by omega)) rfl rfl ?_ | refine SL.y (op_neqF rfl rfl (by omega)) rfl rfl ?_ | refine SL.y (op_neq rfl rfl) rfl rfl ?_
    first | refine SL.y (op_pickT rfl rfl) rfl rfl ?_ | refine SL.y (op_pickF rfl rfl) rfl rfl ?_ | refine SL.y (op_pickB rfl rfl rfl) rfl rfl ?_
    refine SL.y (op_move rfl) rfl rfl ?_
    first | refine SL.skip rfl rfl ?_ | refine SL.y (op_fieldAddr fa27_2 rfl) rfl rfl ?_
    first | refine SL.skip rfl rfl ?_ | refine SL.y (op_load ty24 rfl (by repeat constructor) rfl) rfl rfl ?_ | refine SL.y (op_loadX ty24 rfl (by assumption) rfl) rfl rfl ?_
    first | refine SL.skip rfl rfl ?_ | refine SL.y (op_fieldAddr fa27_2 rfl) rfl rfl ?_
    first | refine SL.skip rfl rfl ?_ | refine SL.y (op_load ty24 rfl (by repeat constructor) rfl) rfl rfl ?_ | refine SL.y (op_loadX ty24 rfl (by assumption) rfl) rfl rfl ?_
    refine SL.x (op_callF en55 (vs := [_, _]) rfl (same_spec hn hn' (by omega))) rfl rfl ?_
    rintro _ _ X1 ⟨rfl, hX1, rfl⟩
    rw [decide_eq_true h3]
    first | refine SL.skip rfl rfl ?_ | refine SL.y (op_not rfl) rfl rfl ?_
    first | refine SL.y (op_pickT rfl rfl) rfl rfl ?_ | refine SL.y (op_pickF rfl rfl) rfl rfl ?_ | refine SL.y (op_pickB rfl rfl rfl) rfl rfl ?_
    refine SL.y (op_move rfl) rfl rfl ?_
    first | refine SL.skip rfl rfl ?_ | refine SL.y (op_fieldAddr fa27_3 rfl) rfl rfl ?_
    first | refine SL.skip rfl rfl ?_ | refine SL.y (op_load ty25 rfl (by repeat constructor) rfl) rfl rfl ?_ | refine SL.y (op_loadX ty25 rfl (by assumption) rfl) rfl rfl ?_
    first | refine SL.skip rfl rfl ?_ | refine SL.y (op_lenS Tryd.underlying25 rfl) rfl rfl ?_
    first | refine SL.skip rfl rfl ?_ | refine SL.y (op_fieldAddr fa27_3 rfl) rfl rfl ?_
    first | refine SL.skip rfl rfl ?_ | refine SL.y (op_load ty25 rfl (by repeat constructor) rfl) rfl rfl ?_ | refine SL.y (op_loadX ty25 rfl (by assumption) rfl) rfl rfl ?_
    first | refine SL.skip rfl rfl ?_ | refine SL.y (op_lenS Tryd.underlying25 rfl) rfl rfl ?_
    first | refine SL.skip rfl rfl ?_ | refine SL.y (op_neqT rfl rfl (by omega)) rfl rfl ?_ | refine SL.y (op_neqF rfl rfl (by omega)) rfl rfl ?_ | refine SL.y (op_neq rfl rfl) rfl rfl ?_
    first | refine SL.y (op_pickT rfl rfl) rfl rfl ?_ | refine SL.y (op_pickF rfl rfl) rfl rfl ?_ | refine SL.y (op_pickB rfl rfl rfl) rfl rfl ?_
    refine SL.nil ?_
    refine T.condF rfl ?_
    refine T.skip ?_
    refine T.seq ?_
    refine T.seq ?_
    refine T.region ?_
    refine SL.y (op_fieldAddr fa27_3 rfl) rfl rfl ?_
    first | refine SL.y (op_load ty25 rfl (by repeat constructor) rfl) rfl rfl ?_ | refine SL.y (op_loadX ty25 rfl (by assumption) rfl) rfl rfl ?_
    refine SL.y (op_lenS Tryd.underlying25 rfl) rfl rfl ?_
    refine SL.y (op_move (v := .int .i64 ((0 : Nat) : Int)) rfl) rfl rfl ?_
    refine SL.nil ?_
    refine T.block ?_
    refine T.loopW (fun m env own X' => ∃ i : Nat, m = rows.length - i ∧ i ≤ rows.length ∧ X1.le X' ∧ al.take i = al'.take i ∧ env = [(2, .pointer (some ⟨B2, 0, none⟩)), (3, .pointer (some ⟨B3, 0, none⟩)), (37, .int .i64 (rows.length : Int)), (38, .int .i64 (i : Int))] ∧ own = [⟨B3, [.int .i64 (op' : Int), .int .i64 n', .slice An' ns'.length cn', .slice Aa' rows'.length ca'], 27, 4⟩, ⟨B2, [.int .i64 (op : Int), .int .i64 n, .slice An ns.length cn, .slice Aa rows.length ca], 27, 4⟩]) rows.length ⟨0, by simp, by omega, PMap.le_refl _, by simp, rfl, rfl⟩ (by repeat (first | exact Sub.nil | refine Sub.cons rfl ?_)) ?_
    rintro m _ _ X2 ⟨i, rfl, hi, hX2, heq, rfl, rfl⟩
    rcases Nat.lt_or_ge i rows.length with hil | hil
    · obtain ⟨r, hr1⟩ : ∃ r, rows[i]? = some r := ⟨_, List.getElem?_eq_getElem hil⟩
      obtain ⟨r', hr2⟩ : ∃ r, rows'[i]? = some r := ⟨_, List.getElem?_eq_getElem (by omega)⟩
      obtain ⟨x, hx⟩ : ∃ x, al[i]? = some x := ⟨_, List.getElem?_eq_getElem (by omega)⟩
      obtain ⟨y, hy⟩ : ∃ y, al'[i]? = some y := ⟨_, List.getElem?_eq_getElem (by omega)⟩
      have g1 := ((hr i x r hx hr1).mono hX1).mono hX2
      have g2 := ((hr' i y r' hy hr2).mono hX1).mono hX2
      obtain ⟨b, pre, rfl, hB1⟩ := ha.blk (by omega)
      obtain ⟨b', pre', rfl, hB2⟩ := ha'.blk (by omega)
      have hB1 := (hB1.mono hX1).mono hX2
      have hB2 := (hB2.mono hX1).mono hX2
      have hwx := wtL_mem (List.mem_of_getElem? hx)
      have hcall := ih (by omega) (by omega) g1 g2
      obtain ⟨_, _, _, _, _, _, _, _, rfl⟩ := g1.form
      obtain ⟨_, _, _, _, _, _, _, _, rfl⟩ := g2.form
      try simp only at hcall
      refine T.seq ?_
      refine T.region ?_
      first | refine SL.y (op_lssT rfl rfl (by omega)) rfl rfl ?_ | refine SL.y (op_lssF rfl rfl (by omega)) rfl rfl ?_ | refine SL.y (op_lss rfl rfl) rfl rfl ?_
      refine SL.nil ?_
      refine T.seq ?_
      refine T.condT rfl ?_
      refine T.skip ?_
      refine T.seq ?_
      refine T.block ?_
      refine T.seq ?_
      refine T.region ?_
      refine SL.y (op_move rfl) rfl rfl ?_
      refine SL.y (op_assign rfl) rfl rfl ?_
      refine SL.nil ?_
      refine T.seq ?_
      refine T.draw (by kernel_rfl) 12 [.t 0, .t 1, .t 2, .t 3, .t 4, .t 5, .t 6, .t 7, .t 8, .t 9, .r 10, .t 11] (by kernel_rfl) ?_
      refine SD.take rfl panicBody (op_fieldAddr fa27_3 rfl) rfl rfl ?_
      first | refine SD.take rfl panicBody (op_load ty25 rfl (by repeat constructor) rfl) rfl rfl ?_ | refine SD.take rfl panicBody (op_loadX ty25 rfl (by assumption) rfl) rfl rfl ?_
      refine SD.take rfl panicBody (op_move rfl) rfl rfl ?_
      first | refine SD.take rfl panicBody (op_indexN Tryd.underlying25 ty27 rfl rfl (by omega)) rfl rfl ?_ | refine SD.take rfl panicBody (op_index Tryd.underlying25 ty27 rfl rfl (by omega) (by omega)) rfl rfl ?_
      refine SD.take rfl panicBody (op_loadX ty27 rfl hB1 (row_read rc4_len hr1 (by omega))) rfl rfl ?_
      refine SD.take rfl panicBody (op_fieldAddr fa27_3 rfl) rfl rfl ?_
      first | refine SD.take rfl panicBody (op_load ty25 rfl (by repeat constructor) rfl) rfl rfl ?_ | refine SD.take rfl panicBody (op_loadX ty25 rfl (by assumption) rfl) rfl rfl ?_
      refine SD.take rfl panicBody (op_move rfl) rfl rfl ?_
      first | refine SD.take rfl panicBody (op_indexN Tryd.underlying25 ty27 rfl rfl (by omega)) rfl rfl ?_ | refine SD.take rfl panicBody (op_index Tryd.underlying25 ty27 rfl rfl (by omega) (by omega)) rfl rfl ?_
      refine SD.take rfl panicBody (op_loadX ty27 rfl hB2 (row_read rc4_len hr2 (by omega))) rfl rfl ?_
      refine SD.run rfl (op_callF en28 (vs := [_, _]) rfl (hcall)) rfl rfl ?_
      rintro _ _ X3 ⟨rfl, hX3, rfl⟩
      refine SD.take rfl panicBody (op_not rfl) rfl rfl ?_
      refine SD.nil ?_
      show SL _ _ _ _ _ _ _ [] _ _ _
      refine SL.nil ?_
      by_cases hxy : x = y
      · rw [decide_eq_true hxy]
        refine T.condF rfl ?_
        refine T.skip ?_
        refine T.blk ?_
        refine T.region ?_
        first | refine SL.y (op_addN (q := 1) rfl rfl (by omega)) rfl rfl ?_ | refine SL.y (op_add rfl rfl (by omega) (by omega)) rfl rfl ?_ | refine SL.y (op_addW rfl rfl) rfl rfl ?_
        refine SL.y (op_move rfl) rfl rfl ?_
        refine SL.nil ?_
        exact T.backW (rows.length - (i + 1)) (by omega) ⟨i + 1, rfl, by omega, hX2.trans' hX3, (take_eq hx hy heq).2 hxy, rfl, rfl⟩ (by repeat (first | exact Sub.nil | refine Sub.cons rfl ?_))
      · rw [decide_eq_false hxy]
        refine T.condT rfl ?_
        refine T.seq ?_
        refine T.region ?_
        refine SL.y (op_assign rfl) rfl rfl ?_
        refine SL.nil ?_
        refine T.ret1 rfl (ResIs.tmp rfl) ?_
        rw [decide_eq_false fun e => ne_at hx hy hxy (ex_eq.1 e).2.2.2]
    · obtain rfl : i = rows.length := by omega
      rw [List.take_of_length_le (by omega), List.take_of_length_le (by omega)] at heq
      refine T.seq ?_
      refine T.region ?_
      first | refine SL.y (op_lssT rfl rfl (by omega)) rfl rfl ?_ | refine SL.y (op_lssF rfl rfl (by omega)) rfl rfl ?_ | refine SL.y (op_lss rfl rfl) rfl rfl ?_
      refine SL.nil ?_
      refine T.seq ?_
      refine T.condF rfl ?_
      refine T.exit (T.exitCode (T.exitCut (T.exitBlk ?_)))
      refine T.seq ?_
      refine T.region ?_
      refine SL.y (op_assign rfl) rfl rfl ?_
      refine SL.nil ?_
      refine T.ret1 rfl (ResIs.tmp rfl) ?_
      rw [decide_eq_true (ex_eq.2 ⟨h1, h2, h3, heq⟩)]
end Go.Proofs.YtaooojjhlngcmaaDoor
namespace Go.Proofs.YtaooojjhlngcmaaDoor
open Go.RowKit
/-- A token: 0 the end, 1 a word, 2 a number, 3 a symbol. -/
structure Tk where
  kind : Nat
  text : ByteArray
  num : Nat
  off : Nat
def digB (b : UInt8) : Bool := decide (48 ≤ b.toNat ∧ b.toNat ≤ 57)
def blkB (b : UInt8) : Bool := decide (b.toNat = 32 ∨ b.toNat = 9 ∨ b.toNat = 10 ∨ b.toNat = 13)
/-- What is left behind blanks and comments; true: inside a comment. -/
def skipL : Bool → List UInt8 → List UInt8
  | _, [] => []
  | true, b :: l => if b.toNat = 10 then skipL false l else skipL true l
  | false, b :: l => if blkB b then skipL false l else if b.toNat = 35 then skipL true l else b :: l
def symsL : List (List UInt8) := [[45, 62], [60, 61], [62, 61], [61, 61], [60], [62], [40], [41], [44], [59], [58], [43], [45]]
def valL (l : List UInt8) : Nat := l.foldl (fun n c => 10 * n + (c.toNat - 48)) 0
def glued : List UInt8 → Bool
  | [] => false
  | b :: _ => letB b || b.toNat == 95
/-- The digits of a number; none: it breaks a rule. -/
def numT (l : List UInt8) : Option (List UInt8) :=
  if 6 < (l.takeWhile digB).length ∨ (1 < (l.takeWhile digB).length ∧ l.head? = some 48) ∨ glued (l.drop (l.takeWhile digB).length) = true then none else some (l.takeWhile digB)
/-- The kind, the text and the number of the token at the front. -/
def tok1 : List UInt8 → Option (Nat × List UInt8 × Nat)
  | [] => none
  | b :: l => if letB b then some (1, (b :: l).takeWhile innB, 0) else if digB b then (numT (b :: l)).map fun d => (2, d, valL d) else (symsL.find? fun s => s.isPrefixOf (b :: l)).map fun s => (3, s, 0)
def consR (t : Tk) : Except Nat (List Tk) → Except Nat (List Tk)
  | .ok l => .ok (t :: l)
  | .error o => .error o
def appR (ts : List Tk) : Except Nat (List Tk) → Except Nat (List Tk)
  | .ok l => .ok (ts ++ l)
  | .error o => .error o
/-- The tokens of what is left of a text of N bytes, or the offset at which there is none. -/
def scanG (N : Nat) : Nat → List UInt8 → Except Nat (List Tk)
  | 0, _ => .error 0
  | f + 1, l => match skipL false l with
    | [] => .ok [⟨0, ⟨#[]⟩, 0, N⟩]
    | b :: r => match tok1 (b :: r) with
      | none => .error (N - (b :: r).length)
      | some (k, t, n) => consR ⟨k, ⟨t.toArray⟩, n, N - (b :: r).length⟩ (scanG N f ((b :: r).drop t.length))
def scanL (N : Nat) (l : List UInt8) : Except Nat (List Tk) := scanG N (l.length + 1) l
theorem skip_len : ∀ (c : Bool) (l : List UInt8), (skipL c l).length ≤ l.length
  | _, [] => by simp [skipL]
  | true, b :: l => by
    rw [skipL]
    have h1 := skip_len false l
    have h2 := skip_len true l
    split <;> simp only [List.length_cons] <;> omega
  | false, b :: l => by
    rw [skipL]
    have h1 := skip_len false l
    have h2 := skip_len true l
    split
    · simp only [List.length_cons]; omega
    · split
      · simp only [List.length_cons]; omega
      · exact Nat.le_refl _
theorem symsL_pos : ∀ s ∈ symsL, 0 < s.length := by decide
theorem tok1_pos {l : List UInt8} {k n : Nat} {t : List UInt8} (h : tok1 l = some (k, t, n)) : 0 < t.length := by
  cases l with
  | nil => cases h
  | cons b l =>
    rw [tok1] at h
    split at h
    · rename_i hb
      have hi : innB b = true := by simp only [letB, innB, decide_eq_true_eq] at hb ⊢; omega
      simp only [Option.some.injEq, Prod.mk.injEq] at h
      rw [← h.2.1, List.takeWhile_cons_of_pos hi]; simp
    · split at h
      · rename_i hd
        unfold numT at h
        split at h
        · cases h
        · simp only [Option.map_some, Option.some.injEq, Prod.mk.injEq] at h
          rw [← h.2.1, List.takeWhile_cons_of_pos hd]; simp
      · cases hf : symsL.find? fun s => s.isPrefixOf (b :: l) with
        | none => rw [hf] at h; cases h
        | some s =>
          rw [hf] at h
          simp only [Option.map_some, Option.some.injEq, Prod.mk.injEq] at h
          rw [← h.2.1]
          exact symsL_pos s (List.mem_of_find?_eq_some hf)
theorem scanG_fuel (N : Nat) : ∀ (f g : Nat) (l : List UInt8), l.length < f → l.length < g → scanG N f l = scanG N g l
  | 0, _, _, h, _ => by omega
  | _, 0, _, _, h => by omega
  | f + 1, g + 1, l, hf, hg => by
    rw [scanG, scanG]
    have hs := skip_len false l
    cases h : skipL false l with
    | nil => rfl
    | cons b r =>
      rw [h] at hs
      simp only
      cases ht : tok1 (b :: r) with
      | none => rfl
      | some x =>
        obtain ⟨k, t, n⟩ := x
        have hp := tok1_pos ht
        have hd : ((b :: r).drop t.length).length < l.length := by rw [List.length_drop]; simp only [List.length_cons] at hs ⊢; omega
        simp only
        rw [scanG_fuel N f g _ (by omega) (by omega)]
theorem scan_eq (N : Nat) (l : List UInt8) : scanL N l = match skipL false l with
    | [] => .ok [⟨0, ⟨#[]⟩, 0, N⟩]
    | b :: r => match tok1 (b :: r) with
      | none => .error (N - (b :: r).length)
      | some (k, t, n) => consR ⟨k, ⟨t.toArray⟩, n, N - (b :: r).length⟩ (scanL N ((b :: r).drop t.length)) := by
  rw [scanL, scanG]
  have hs := skip_len false l
  cases h : skipL false l with
  | nil => rfl
  | cons b r =>
    rw [h] at hs
    simp only
    cases ht : tok1 (b :: r) with
    | none => rfl
    | some x =>
      obtain ⟨k, t, n⟩ := x
      have hp := tok1_pos ht
      have hd : ((b :: r).drop t.length).length < l.length := by rw [List.length_drop]; simp only [List.length_cons] at hs ⊢; omega
      simp only
      rw [scanL, scanG_fuel N l.length (((b :: r).drop t.length).length + 1) _ hd (by omega)]
theorem scan_skip {N : Nat} {l l' : List UInt8} (h : skipL false l = skipL false l') : scanL N l = scanL N l' := by rw [scan_eq, h, ← scan_eq]
theorem scan_blank {N : Nat} {l : List UInt8} : scanL N (32 :: l) = scanL N l := scan_skip rfl
theorem scan_end {N : Nat} : scanL N [] = .ok [⟨0, ⟨#[]⟩, 0, N⟩] := by rw [scan_eq]; rfl
/-- One token. -/
theorem scan_one {N k n : Nat} {b : UInt8} {t l r : List UInt8} (hl : l = b :: r) (h0 : blkB b = false) (h1 : b.toNat ≠ 35) (ht : tok1 l = some (k, t, n)) : scanL N l = consR ⟨k, ⟨t.toArray⟩, n, N - l.length⟩ (scanL N (l.drop t.length)) := by
  subst hl
  rw [scan_eq, skipL, if_neg (by simp [h0]), if_neg h1]
  simp only [ht]
end Go.Proofs.YtaooojjhlngcmaaDoor
namespace Go.Proofs.YtaooojjhlngcmaaDoor
open Go.RowKit
abbrev Res (α : Type) := Except (Nat × Int) (α × List Tk)
def isT (w : ByteArray) : List Tk → Bool
  | [] => false
  | t :: _ => (t.kind == 1 || t.kind == 3) && decide (t.text = w)
def offT : List Tk → Nat
  | [] => 0
  | t :: _ => t.off
noncomputable def nameT : List Tk → Res ByteArray
  | [] => .error (0, 8)
  | t :: r => if t.kind ≠ 1 ∨ t.text ∈ keyws then .error (t.off, 8) else if ¬validS t.text then .error (t.off, 9) else .ok (t.text, r)
def expT (w : ByteArray) (l : List Tk) : Res Unit := if isT w l then .ok ((), l.tail) else .error (offT l, 8)
def bindR {α β : Type} (x : Res α) (f : α → List Tk → Res β) : Res β := match x with
  | .ok (a, l) => f a l
  | .error e => .error e
theorem bindR_ok {α β : Type} {a : α} {l : List Tk} {f : α → List Tk → Res β} : bindR (.ok (a, l)) f = f a l := rfl
abbrev ParP := List Tk → Res Ex
def two (op : Nat) (x y : Ex) : Ex := .mk op 0 [] [x, y]
/-- Operands between which a word stands, to the left. -/
def leftG (w : ByteArray) (op : Nat) (p : ParP) : Nat → Ex → List Tk → Res Ex
  | 0, x, l => .ok (x, l)
  | k + 1, x, l => if isT w l then bindR (p l.tail) fun y l' => leftG w op p k (two op x y) l' else .ok (x, l)
def leftP (w : ByteArray) (op : Nat) (p : ParP) : ParP := fun l => bindR (p l) fun x l' => leftG w op p l'.length x l'
abbrev wOr : ByteArray := ⟨#[111, 114]⟩
abbrev wAnd : ByteArray := ⟨#[97, 110, 100]⟩
abbrev wNot : ByteArray := ⟨#[110, 111, 116]⟩
abbrev wArrow : ByteArray := ⟨#[45, 62]⟩
abbrev wPlus : ByteArray := ⟨#[43]⟩
abbrev wTrue : ByteArray := ⟨#[116, 114, 117, 101]⟩
abbrev wFalse : ByteArray := ⟨#[102, 97, 108, 115, 101]⟩
abbrev wCount : ByteArray := ⟨#[99, 111, 117, 110, 116]⟩
abbrev wMembers : ByteArray := ⟨#[109, 101, 109, 98, 101, 114, 115]⟩
abbrev wLp : ByteArray := ⟨#[40]⟩
abbrev wRp : ByteArray := ⟨#[41]⟩
abbrev wComma : ByteArray := ⟨#[44]⟩
abbrev wLe : ByteArray := ⟨#[60, 61]⟩
abbrev wLt : ByteArray := ⟨#[60]⟩
abbrev wGe : ByteArray := ⟨#[62, 61]⟩
abbrev wGt : ByteArray := ⟨#[62]⟩
abbrev wEq : ByteArray := ⟨#[61, 61]⟩
noncomputable def namesG : Nat → List ByteArray → List Tk → Res (List ByteArray)
  | 0, ns, l => .ok (ns, l)
  | k + 1, ns, l => if isT wComma l then bindR (nameT l.tail) fun s l' => namesG k (ns ++ [s]) l' else .ok (ns, l)
/-- Names in parentheses: one, or several. -/
noncomputable def namesP (several : Bool) (l : List Tk) : Res (List ByteArray) :=
  bindR (expT wLp l) fun _ l1 => bindR (nameT l1) fun s l2 => bindR (namesG (if several then l2.length else 0) [s] l2) fun ns l3 => bindR (expT wRp l3) fun _ l4 => .ok (ns, l4)
noncomputable def primP (ex : ParP) (l : List Tk) : Res Ex := match l with
  | [] => .error (0, 8)
  | t :: r => if t.kind = 2 then .ok (.mk 1 (t.num : Int) [] [], r)
    else if isT wTrue (t :: r) then .ok (.mk 2 0 [] [], r) else if isT wFalse (t :: r) then .ok (.mk 3 0 [] [], r)
    else if isT wCount (t :: r) then bindR (namesP true r) fun ns l' => .ok (.mk 5 0 ns [], l')
    else if isT wMembers (t :: r) then bindR (namesP false r) fun ns l' => .ok (.mk 6 0 ns [], l')
    else if isT wLp (t :: r) then bindR (ex r) fun x l' => bindR (expT wRp l') fun _ l'' => .ok (x, l'')
    else bindR (nameT (t :: r)) fun s l' => .ok (.mk 4 0 [s] [], l')
def cmps : List (ByteArray × Nat) := [(wLe, 11), (wLt, 12), (wGe, 13), (wGt, 14), (wEq, 15)]
noncomputable def sumP (pr : ParP) : ParP := leftP wPlus 16 pr
noncomputable def cmpP (pr : ParP) : ParP := fun l => bindR (sumP pr l) fun x l' => match cmps.find? fun c => isT c.1 l' with
  | some c => bindR (sumP pr l'.tail) fun y l'' => .ok (two c.2 x y, l'')
  | none => .ok (x, l')
noncomputable def negP (pr : ParP) : Nat → ParP
  | 0 => fun l => .error (offT l, 8)
  | k + 1 => fun l => if isT wNot l then bindR (negP pr k l.tail) fun x l' => .ok (.mk 7 0 [] [x], l') else cmpP pr l
noncomputable def conjP (pr : ParP) : ParP := leftP wAnd 8 fun l => negP pr (l.length + 1) l
noncomputable def disjP (pr : ParP) : ParP := leftP wOr 9 (conjP pr)
noncomputable def implP (pr : ParP) : Nat → ParP
  | 0 => fun l => .error (offT l, 8)
  | k + 1 => fun l => bindR (disjP pr l) fun x l' => if isT wArrow l' then bindR (implP pr k l'.tail) fun y l'' => .ok (two 10 x y, l'') else .ok (x, l')
theorem negP_succ {pr : ParP} {k : Nat} {l : List Tk} : negP pr (k + 1) l = if isT wNot l then bindR (negP pr k l.tail) fun x l' => .ok (.mk 7 0 [] [x], l') else cmpP pr l := rfl
theorem implP_succ {pr : ParP} {k : Nat} {l : List Tk} : implP pr (k + 1) l = bindR (disjP pr l) fun x l' => if isT wArrow l' then bindR (implP pr k l'.tail) fun y l'' => .ok (two 10 x y, l'') else .ok (x, l') := rfl
theorem cmpP_eq {pr : ParP} {l : List Tk} : cmpP pr l = bindR (sumP pr l) fun x l' => match cmps.find? fun c => isT c.1 l' with
  | some c => bindR (sumP pr l'.tail) fun y l'' => .ok (two c.2 x y, l'')
  | none => .ok (x, l') := rfl
/-- An expression, with parentheses at most so deep. -/
noncomputable def exprP : Nat → ParP
  | 0 => fun l => .error (offT l, 8)
  | f + 1 => fun l => implP (primP (exprP f)) (l.length + 1) l
theorem exprP_succ {f : Nat} {l : List Tk} : exprP (f + 1) l = implP (primP (exprP f)) (l.length + 1) l := rfl
end Go.Proofs.YtaooojjhlngcmaaDoor
namespace Go.Proofs.YtaooojjhlngcmaaDoor
open Go.RowKit
def wT (s : ByteArray) (o : Nat) : Tk := ⟨1, s, 0, o⟩
def sT (s : ByteArray) (o : Nat) : Tk := ⟨3, s, 0, o⟩
def commasK : List ByteArray → Nat → List Tk
  | [], _ => []
  | s :: l, o => sT wComma o :: wT s (o + 2) :: commasK l (o + 2 + s.size)
def namesK : List ByteArray → Nat → List Tk
  | [], _ => []
  | s :: l, o => wT s o :: commasK l (o + s.size)
def parK (s least n : Nat) (t : Nat → List Tk) (o : Nat) : List Tk := if s < least then sT wLp o :: (t (o + 1) ++ [sT wRp (o + 1 + n)]) else t o
def opB (op : Nat) : ByteArray := match op with
  | 8 => wAnd | 9 => wOr | 10 => wArrow | 11 => wLe | 12 => wLt | 13 => wGe | 14 => wGt | 15 => wEq | _ => wPlus
def opK (op o : Nat) : Tk := ⟨if op = 8 ∨ op = 9 then 1 else 3, opB op, 0, o⟩
mutual
def toksE : Ex → Nat → List Tk
  | .mk op n ns al, o =>
    if op = 1 then [⟨2, decB n.toNat, n.toNat, o⟩] else if op = 2 then [wT wTrue o] else if op = 3 then [wT wFalse o] else if op = 4 then [wT (ns.headD ⟨#[]⟩) o]
    else if op = 5 then wT wCount o :: sT wLp (o + 5) :: (namesK ns (o + 6) ++ [sT wRp (o + 6 + (joinB ns).size)])
    else if op = 6 then [wT wMembers o, sT wLp (o + 7), wT (ns.headD ⟨#[]⟩) (o + 8), sT wRp (o + 8 + (ns.headD ⟨#[]⟩).size)]
    else match toksL al with
      | [] => []
      | [x] => wT wNot o :: parK x.1 4 x.2.1.size x.2.2 (o + 4)
      | x :: y :: _ => parK x.1 (lefN op) x.2.1.size x.2.2 o ++ opK op (o + (parB x.1 x.2.1 (lefN op)).size + 1) :: parK y.1 (rigN op) y.2.1.size y.2.2 (o + (parB x.1 x.2.1 (lefN op)).size + (wordB op).size)
def toksL : List Ex → List (Nat × ByteArray × (Nat → List Tk))
  | [] => []
  | a :: al => (strN a.op, textE a, toksE a) :: toksL al
end
/-- The tokens of an operand. -/
def oprK (a : Ex) (k o : Nat) : List Tk := parK (strN a.op) k (textE a).size (toksE a) o
/-- The token at the front goes on with no operator that binds at least so strongly. -/
structure Stop (k : Nat) (l : List Tk) : Prop where
  s1 : k ≤ 1 → isT wArrow l = false
  s2 : k ≤ 2 → isT wOr l = false
  s3 : k ≤ 3 → isT wAnd l = false
  s5 : k ≤ 5 → ∀ c ∈ cmps, isT c.1 l = false
  s6 : k ≤ 6 → isT wPlus l = false
theorem Stop.mono {k k' : Nat} {l : List Tk} (h : Stop k l) (hk : k ≤ k') : Stop k' l := ⟨fun x => h.s1 (by omega), fun x => h.s2 (by omega), fun x => h.s3 (by omega), fun x => h.s5 (by omega), fun x => h.s6 (by omega)⟩
section
variable {pr : ParP} {t : List Tk} {e : Ex}
noncomputable abbrev negQ (pr : ParP) : ParP := fun l => negP pr (l.length + 1) l
def C7 (pr : ParP) (t : List Tk) (e : Ex) : Prop := ∀ rest, pr (t ++ rest) = .ok (e, rest)
def C6 (pr : ParP) (t : List Tk) (e : Ex) : Prop := ∀ rest, ∃ m, rest.length ≤ m ∧ sumP pr (t ++ rest) = leftG wPlus 16 pr m e rest
def C5 (pr : ParP) (t : List Tk) (e : Ex) : Prop := ∀ rest, Stop 5 rest → cmpP pr (t ++ rest) = .ok (e, rest)
def C4 (pr : ParP) (t : List Tk) (e : Ex) : Prop := ∀ rest, Stop 4 rest → negQ pr (t ++ rest) = .ok (e, rest)
def C3 (pr : ParP) (t : List Tk) (e : Ex) : Prop := ∀ rest, Stop 4 rest → ∃ m, rest.length ≤ m ∧ conjP pr (t ++ rest) = leftG wAnd 8 (negQ pr) m e rest
def C2 (pr : ParP) (t : List Tk) (e : Ex) : Prop := ∀ rest, Stop 3 rest → ∃ m, rest.length ≤ m ∧ disjP pr (t ++ rest) = leftG wOr 9 (conjP pr) m e rest
def C1 (pr : ParP) (t : List Tk) (e : Ex) : Prop := ∀ rest k, Stop 1 rest → (t ++ rest).length < k → implP pr k (t ++ rest) = .ok (e, rest)
def Ck (pr : ParP) (k : Nat) (t : List Tk) (e : Ex) : Prop := match k with
  | 7 => C7 pr t e | 6 => C6 pr t e | 5 => C5 pr t e | 4 => C4 pr t e | 3 => C3 pr t e | 2 => C2 pr t e | _ => C1 pr t e
def hdN (t : List Tk) : Prop := ∀ rest, isT wNot (t ++ rest) = false
theorem leftG_stop {w : ByteArray} {op m : Nat} {p : ParP} {x : Ex} {l : List Tk} (h : isT w l = false) : leftG w op p m x l = .ok (x, l) := by
  cases m with
  | zero => rfl
  | succ m => rw [leftG, h]; rfl
theorem leftG_go {w : ByteArray} {op m : Nat} {p : ParP} {x y : Ex} {l l' : List Tk} (h : isT w l = true) (hp : p l.tail = .ok (y, l')) : leftG w op p (m + 1) x l = leftG w op p m (two op x y) l' := by
  rw [leftG, h, if_pos rfl, hp, bindR_ok]
theorem leftP_ok {w : ByteArray} {op : Nat} {p : ParP} {x : Ex} {l l' : List Tk} (h : p l = .ok (x, l')) : leftP w op p l = leftG w op p l'.length x l' := by rw [leftP, h, bindR_ok]
theorem c76 (h : C7 pr t e) : C6 pr t e := fun rest => ⟨_, Nat.le_refl _, leftP_ok (h rest)⟩
theorem sum_ok (h : C6 pr t e) {rest : List Tk} (hs : isT wPlus rest = false) : sumP pr (t ++ rest) = .ok (e, rest) := by
  obtain ⟨m, _, hm⟩ := h rest
  rw [hm, leftG_stop hs]
theorem find_none {l : List Tk} (h : ∀ c ∈ cmps, isT c.1 l = false) : (cmps.find? fun c => isT c.1 l) = none := List.find?_eq_none.2 fun c hc => by simp [h c hc]
theorem c65 (h : C6 pr t e) : C5 pr t e := fun rest hs => by
  rw [cmpP_eq, sum_ok h (hs.s6 (by omega)), bindR_ok, find_none (hs.s5 (by omega))]
theorem c54 (h : C5 pr t e) (hn : hdN t) : C4 pr t e := fun rest hs => by
  show negP pr ((t ++ rest).length + 1) (t ++ rest) = _
  rw [negP_succ, hn rest, if_neg (by simp), h rest (hs.mono (by omega))]
theorem c43 (h : C4 pr t e) : C3 pr t e := fun rest hs => ⟨_, Nat.le_refl _, leftP_ok (h rest hs)⟩
theorem conj_ok (h : C3 pr t e) {rest : List Tk} (hs : Stop 3 rest) : conjP pr (t ++ rest) = .ok (e, rest) := by
  obtain ⟨m, _, hm⟩ := h rest (hs.mono (by omega))
  rw [hm, leftG_stop (hs.s3 (by omega))]
theorem c32 (h : C3 pr t e) : C2 pr t e := fun _ hs => ⟨_, Nat.le_refl _, leftP_ok (conj_ok h hs)⟩
theorem disj_ok (h : C2 pr t e) {rest : List Tk} (hs : Stop 2 rest) : disjP pr (t ++ rest) = .ok (e, rest) := by
  obtain ⟨m, _, hm⟩ := h rest (hs.mono (by omega))
  rw [hm, leftG_stop (hs.s2 (by omega))]
theorem c21 (h : C2 pr t e) : C1 pr t e := fun rest k hs hk => by
  obtain ⟨k, rfl⟩ : ∃ q, k = q + 1 := ⟨k - 1, by omega⟩
  rw [implP_succ, disj_ok h (hs.mono (by omega)), bindR_ok, hs.s1 (by omega)]; rfl
/-- From a level down to all below it. -/
theorem Ck.down {s : Nat} (h : Ck pr s t e) (hs : s ≤ 7) (hn : 5 ≤ s → hdN t) : ∀ k, 1 ≤ k → k ≤ s → Ck pr k t e := by
  have d21 : Ck pr 2 t e → Ck pr 1 t e := c21
  have d32 : Ck pr 3 t e → Ck pr 2 t e := c32
  have d43 : Ck pr 4 t e → Ck pr 3 t e := c43
  have d54 : hdN t → Ck pr 5 t e → Ck pr 4 t e := fun h g => c54 g h
  have d65 : Ck pr 6 t e → Ck pr 5 t e := c65
  have d76 : Ck pr 7 t e → Ck pr 6 t e := c76
  have step : ∀ k, 1 ≤ k → k < s → Ck pr (k + 1) t e → Ck pr k t e := by
    intro k h1 h2
    rcases (by omega : k = 1 ∨ k = 2 ∨ k = 3 ∨ k = 4 ∨ k = 5 ∨ k = 6) with rfl | rfl | rfl | rfl | rfl | rfl
    · exact d21
    · exact d32
    · exact d43
    · exact d54 (hn (by omega))
    · exact d65
    · exact d76
  have key : ∀ d k, 1 ≤ k → k + d = s → Ck pr k t e := by
    intro d
    induction d with
    | zero => intro k _ h2; obtain rfl : k = s := by omega
              exact h
    | succ d ih => intro k h1 h2; exact step k h1 (by omega) (ih (k + 1) (by omega) (by omega))
  exact fun k h1 h2 => key (s - k) k h1 (by omega)
theorem op_isT {op o : Nat} {l : List Tk} : isT (opB op) (opK op o :: l) = true := by
  unfold isT opK
  simp only
  split <;> simp
theorem isT_opw {op o : Nat} {w : ByteArray} {l : List Tk} (h : opB op ≠ w) : isT w (opK op o :: l) = false := by simp [isT, opK, h]
theorem isT_kind2 {w : ByteArray} {t : Tk} {l : List Tk} (h : t.kind = 2) : isT w (t :: l) = false := by simp [isT, h]
theorem isT_ne {w : ByteArray} {t : Tk} {l : List Tk} (h : t.text ≠ w) : isT w (t :: l) = false := by simp [isT, h]
theorem isT_sne {v w : ByteArray} {o : Nat} {l : List Tk} (h : v ≠ w) : isT w (sT v o :: l) = false := isT_ne h
theorem isT_wne {v w : ByteArray} {o : Nat} {l : List Tk} (h : v ≠ w) : isT w (wT v o :: l) = false := isT_ne h
theorem isT_w {w : ByteArray} {o : Nat} {l : List Tk} : isT w (wT w o :: l) = true := by simp [isT, wT]
theorem isT_s {w : ByteArray} {o : Nat} {l : List Tk} : isT w (sT w o :: l) = true := by simp [isT, sT]
theorem b_arr : C2 pr t e → ∀ {t2 : List Tk} {e2 : Ex} {o : Nat}, C1 pr t2 e2 → C1 pr (t ++ opK 10 o :: t2) (two 10 e e2) := fun h t2 e2 o h2 rest k hs hk => by
  obtain ⟨k, rfl⟩ : ∃ q, k = q + 1 := ⟨k - 1, by omega⟩
  rw [List.append_assoc, List.cons_append] at hk ⊢
  rw [implP_succ, disj_ok h ⟨by omega, fun _ => isT_opw (by decide), fun _ => isT_opw (by decide), fun _ c hc => isT_opw (by revert c; decide), fun _ => isT_opw (by decide)⟩, bindR_ok,
    show isT wArrow (opK 10 o :: (t2 ++ rest)) = true from op_isT (op := 10), if_pos rfl, List.tail_cons, h2 rest k hs (by simp only [List.length_append, List.length_cons] at hk ⊢; omega), bindR_ok]
theorem b_or : C2 pr t e → ∀ {t2 : List Tk} {e2 : Ex} {o : Nat}, C3 pr t2 e2 → C2 pr (t ++ opK 9 o :: t2) (two 9 e e2) := fun h t2 e2 o h2 rest hs => by
  rw [List.append_assoc, List.cons_append]
  obtain ⟨m, h1, hm⟩ := h (opK 9 o :: (t2 ++ rest)) ⟨by omega, by omega, fun _ => isT_opw (by decide), fun _ c hc => isT_opw (by revert c; decide), fun _ => isT_opw (by decide)⟩
  simp only [List.length_cons, List.length_append] at h1
  obtain ⟨m, rfl⟩ : ∃ q, m = q + 1 := ⟨m - 1, by omega⟩
  exact ⟨m, by omega, by rw [hm]; exact leftG_go (op_isT (op := 9)) (by rw [List.tail_cons]; exact conj_ok h2 hs)⟩
theorem b_and : C3 pr t e → ∀ {t2 : List Tk} {e2 : Ex} {o : Nat}, C4 pr t2 e2 → C3 pr (t ++ opK 8 o :: t2) (two 8 e e2) := fun h t2 e2 o h2 rest hs => by
  rw [List.append_assoc, List.cons_append]
  obtain ⟨m, h1, hm⟩ := h (opK 8 o :: (t2 ++ rest)) ⟨by omega, by omega, by omega, fun _ c hc => isT_opw (by revert c; decide), fun _ => isT_opw (by decide)⟩
  simp only [List.length_cons, List.length_append] at h1
  obtain ⟨m, rfl⟩ : ∃ q, m = q + 1 := ⟨m - 1, by omega⟩
  exact ⟨m, by omega, by rw [hm]; exact leftG_go (op_isT (op := 8)) (by rw [List.tail_cons]; exact h2 rest hs)⟩
theorem b_add : C6 pr t e → ∀ {t2 : List Tk} {e2 : Ex} {o : Nat}, C7 pr t2 e2 → C6 pr (t ++ opK 16 o :: t2) (two 16 e e2) := fun h t2 e2 o h2 rest => by
  rw [List.append_assoc, List.cons_append]
  obtain ⟨m, h1, hm⟩ := h (opK 16 o :: (t2 ++ rest))
  simp only [List.length_cons, List.length_append] at h1
  obtain ⟨m, rfl⟩ : ∃ q, m = q + 1 := ⟨m - 1, by omega⟩
  exact ⟨m, by omega, by rw [hm]; exact leftG_go (op_isT (op := 16)) (by rw [List.tail_cons]; exact h2 rest)⟩
theorem cmps_find {op o : Nat} {l : List Tk} (h1 : 11 ≤ op) (h2 : op ≤ 15) : (cmps.find? fun c => isT c.1 (opK op o :: l)) = some (opB op, op) := by
  rcases (by omega : op = 11 ∨ op = 12 ∨ op = 13 ∨ op = 14 ∨ op = 15) with rfl | rfl | rfl | rfl | rfl <;> rfl
theorem cmp_plus {op o : Nat} {l : List Tk} (h1 : 11 ≤ op) (h2 : op ≤ 15) : isT wPlus (opK op o :: l) = false := by
  rcases (by omega : op = 11 ∨ op = 12 ∨ op = 13 ∨ op = 14 ∨ op = 15) with rfl | rfl | rfl | rfl | rfl <;> exact isT_opw (by decide)
theorem b_cmp {op : Nat} (h1 : 11 ≤ op) (h2 : op ≤ 15) : C6 pr t e → ∀ {t2 : List Tk} {e2 : Ex} {o : Nat}, C6 pr t2 e2 → C5 pr (t ++ opK op o :: t2) (two op e e2) := fun h t2 e2 o h3 rest hs => by
  rw [List.append_assoc, List.cons_append, cmpP_eq, sum_ok h (cmp_plus h1 h2), bindR_ok, cmps_find h1 h2]
  simp only [List.tail_cons]
  rw [sum_ok h3 (hs.s6 (by omega)), bindR_ok]
theorem b_not {o : Nat} (h : C4 pr t e) : C4 pr (wT wNot o :: t) (.mk 7 0 [] [e]) := fun rest hs => by
  rw [List.cons_append]
  show negP pr ((wT wNot o :: (t ++ rest)).length + 1) (wT wNot o :: (t ++ rest)) = _
  rw [negP_succ, isT_w, if_pos rfl, List.tail_cons, List.length_cons]
  have := h rest hs
  rw [show negQ pr (t ++ rest) = negP pr ((t ++ rest).length + 1) (t ++ rest) from rfl] at this
  rw [this, bindR_ok]
end
end Go.Proofs.YtaooojjhlngcmaaDoor
namespace Go.Proofs.YtaooojjhlngcmaaDoor
open Go.RowKit
theorem name_key {s : ByteArray} (h : validS s) {w : ByteArray} (hw : w ∈ keyws) : s ≠ w := fun e => h.2.2.1 (e ▸ hw)
theorem kNot : wNot ∈ keyws := by simp [keyws]
theorem kTrue : wTrue ∈ keyws := by simp [keyws]
theorem kFalse : wFalse ∈ keyws := by simp [keyws]
theorem kCount : wCount ∈ keyws := by simp [keyws]
theorem kMembers : wMembers ∈ keyws := by simp [keyws]
theorem nameT_ok {s : ByteArray} {o : Nat} {l : List Tk} (h : validS s) : nameT (wT s o :: l) = .ok (s, l) := by
  show (if (1 : Nat) ≠ 1 ∨ s ∈ keyws then _ else if ¬validS s then _ else _) = _
  rw [if_neg (fun hh => hh.elim (fun h1 => h1 rfl) h.2.2.1), if_neg (fun hh => hh h)]; rfl
theorem expT_ok {w : ByteArray} {o : Nat} {l : List Tk} : expT w (sT w o :: l) = .ok ((), l) := by rw [expT, isT_s, if_pos rfl]; rfl
theorem namesG_ok {rest : List Tk} (hr : isT wComma rest = false) : ∀ (l ns : List ByteArray) (o k : Nat), (∀ s ∈ l, validS s) → (commasK l o ++ rest).length ≤ k → namesG k ns (commasK l o ++ rest) = .ok (ns ++ l, rest)
  | [], ns, o, k, _, _ => by
    rw [commasK, List.nil_append, List.append_nil]
    cases k with
    | zero => rfl
    | succ k => rw [namesG, hr]; rfl
  | s :: l, ns, o, k, hv, hk => by
    rw [commasK] at hk ⊢
    simp only [List.cons_append, List.length_cons] at hk
    obtain ⟨k, rfl⟩ : ∃ q, k = q + 1 := ⟨k - 1, by omega⟩
    simp only [List.cons_append]
    rw [namesG, isT_s, if_pos rfl, List.tail_cons, nameT_ok (hv s (by simp)), bindR_ok, namesG_ok hr l (ns ++ [s]) _ k (fun x hx => hv x (by simp [hx])) (by omega)]
    simp
theorem namesP_ok {ns : List ByteArray} {o o' o'' : Nat} {rest : List Tk} (h1 : 0 < ns.length) (hv : ∀ s ∈ ns, validS s) {several : Bool} (hs : several = true ∨ ns.length = 1) : namesP several (sT wLp o :: (namesK ns o' ++ sT wRp o'' :: rest)) = .ok (ns, rest) := by
  match ns, h1, hs with
  | s :: l, _, hs =>
    rw [namesK, namesP, expT_ok, bindR_ok, List.cons_append, nameT_ok (hv s (by simp)), bindR_ok]
    have hr : isT wComma (sT wRp o'' :: rest) = false := isT_sne (by decide)
    rcases hs with rfl | hs
    · rw [if_pos rfl, namesG_ok hr l [s] _ _ (fun x hx => hv x (by simp [hx])) (Nat.le_refl _), bindR_ok, expT_ok, bindR_ok]; rfl
    · have hl : l = [] := List.eq_nil_of_length_eq_zero (by simpa using hs)
      subst hl
      have : ∀ k, namesG k [s] (commasK [] (o' + s.size) ++ sT wRp o'' :: rest) = .ok ([s], sT wRp o'' :: rest) := fun k => by
        rw [commasK, List.nil_append]
        cases k with
        | zero => rfl
        | succ k => rw [namesG, hr]; rfl
      rw [this, bindR_ok, expT_ok, bindR_ok]
/-- What a tree's tokens do at every level, with and without parentheses. -/
def Good (e : Ex) : Prop := ∀ f, depE e + 1 ≤ f → ∀ k o, 1 ≤ k → k ≤ 7 → Ck (primP (exprP f)) k (oprK e k o) e ∧ (5 ≤ k → hdN (oprK e k o))
theorem strN_pos (op : Nat) : 1 ≤ strN op ∧ strN op ≤ 7 := by
  unfold strN
  split
  · omega
  · split
    · omega
    · split
      · omega
      · split
        · omega
        · split
          · omega
          · split <;> omega
/-- Without parentheses: from the level of the operator down. -/
theorem good_bare {e : Ex} (h : ∀ f, depE e ≤ f → ∀ o, Ck (primP (exprP f)) (strN e.op) (toksE e o) e ∧ (5 ≤ strN e.op → hdN (toksE e o))) : Good e := by
  obtain ⟨hp1, hp7⟩ := strN_pos e.op
  have bare : ∀ f, depE e ≤ f → ∀ k o, 1 ≤ k → k ≤ strN e.op → Ck (primP (exprP f)) k (toksE e o) e := fun f hf k o h1 h2 => Ck.down (h f hf o).1 hp7 (h f hf o).2 k h1 h2
  intro f hf k o h1 h7
  unfold oprK parK
  split
  · have hn : hdN (sT wLp o :: (toksE e (o + 1) ++ [sT wRp (o + 1 + (textE e).size)])) := fun rest => isT_sne (by decide)
    obtain ⟨f, rfl⟩ : ∃ q, f = q + 1 := ⟨f - 1, by omega⟩
    have h7' : Ck (primP (exprP (f + 1))) 7 (sT wLp o :: (toksE e (o + 1) ++ [sT wRp (o + 1 + (textE e).size)])) e := by
      intro rest
      have hb : C1 (primP (exprP f)) (toksE e (o + 1)) e := bare f (by omega) 1 (o + 1) (by omega) hp1
      have hb := hb (sT wRp (o + 1 + (textE e).size) :: rest) _ ⟨fun _ => isT_sne (by decide), fun _ => isT_sne (by decide), fun _ => isT_sne (by decide), fun _ c hc => isT_sne (by revert c; decide), fun _ => isT_sne (by decide)⟩ (Nat.lt_succ_self _)
      rw [List.cons_append, List.append_assoc, List.singleton_append, primP, if_neg (by show ¬(3 : Nat) = 2; omega), isT_sne (by decide), isT_sne (by decide), isT_sne (by decide), isT_sne (by decide), isT_s]
      simp only [Bool.false_eq_true, if_false, if_true]
      rw [exprP_succ, hb, bindR_ok, expT_ok, bindR_ok]
    exact ⟨Ck.down h7' (by omega) (fun _ => hn) k h1 h7, fun _ => hn⟩
  · rename_i hlt
    exact ⟨bare f (by omega) k o h1 (by omega), fun h5 => (h f (by omega) o).2 (by omega)⟩
theorem hdN_append {t u : List Tk} (h : hdN t) : hdN (t ++ u) := fun rest => by rw [List.append_assoc]; exact h _
/-- EVERY ACCEPTED TREE. -/
theorem good_all : ∀ (n : Nat) (e : Ex), sizE e ≤ n → nodeE e = 0 → Good e := by
  intro n
  induction n with
  | zero => intro e h; cases e; rw [sizE] at h; omega
  | succ n ih =>
    intro e hsz hnode
    cases e with
    | mk op v ns al =>
    obtain ⟨hown, hargs⟩ := node_ok hnode
    obtain ⟨o1, o2, o3, o4, o5, o6, o7, o8, o9⟩ := own_ok hown
    rw [sizE] at hsz
    refine good_bare fun f hf o => ?_
    simp only [Ex.op]
    rw [depE] at hf
    by_cases c7 : op < 7
    · have hs7 : strN op = 7 := by unfold strN; rw [if_neg (by omega), if_neg (by omega), if_neg (by omega), if_neg (by omega), if_neg (by omega), if_neg (by omega)]
      have hal : al = [] := List.eq_nil_of_length_eq_zero (by rw [o3, argN, if_pos c7])
      subst hal
      rw [hs7]
      show C7 _ _ _ ∧ _
      by_cases c1 : op = 1
      · subst c1
        obtain ⟨q, rfl⟩ := Int.eq_ofNat_of_zero_le o8
        have hns : ns = [] := List.eq_nil_of_length_eq_zero (by simpa [namN] using o5)
        subst hns
        have e1 : toksE (.mk 1 (q : Int) [] []) o = [⟨2, decB q, q, o⟩] := by rw [toksE, if_pos rfl]; rfl
        rw [e1]
        exact ⟨fun rest => by rw [List.singleton_append, primP, if_pos rfl], fun _ rest => isT_kind2 rfl⟩
      have hv0 := o4 c1
      subst hv0
      by_cases c2 : op = 2
      · subst c2
        have hns : ns = [] := List.eq_nil_of_length_eq_zero (by simpa [namN] using o5)
        subst hns
        have e1 : toksE (.mk 2 0 [] []) o = [wT wTrue o] := by rw [toksE, if_neg (by omega), if_pos rfl]
        rw [e1]
        exact ⟨fun rest => by rw [List.singleton_append, primP, if_neg (by show ¬(1 : Nat) = 2; omega), isT_w, if_pos rfl], fun _ rest => isT_wne (by decide)⟩
      by_cases c3 : op = 3
      · subst c3
        have hns : ns = [] := List.eq_nil_of_length_eq_zero (by simpa [namN] using o5)
        subst hns
        have e1 : toksE (.mk 3 0 [] []) o = [wT wFalse o] := by rw [toksE, if_neg (by omega), if_neg (by omega), if_pos rfl]
        rw [e1]
        exact ⟨fun rest => by rw [List.singleton_append, primP, if_neg (by show ¬(1 : Nat) = 2; omega), isT_wne (by decide), isT_w, if_neg (by simp), if_pos rfl], fun _ rest => isT_wne (by decide)⟩
      by_cases c4 : op = 4
      · subst c4
        obtain ⟨s, rfl⟩ : ∃ s, ns = [s] := by
          have hl1 : ns.length = 1 := by simpa [namN] using o5
          match ns, hl1 with
          | [s], _ => exact ⟨s, rfl⟩
        have hv := o6 s (by simp)
        have e1 : toksE (.mk 4 0 [s] []) o = [wT s o] := by rw [toksE, if_neg (by omega), if_neg (by omega), if_neg (by omega), if_pos rfl]; rfl
        rw [e1]
        refine ⟨fun rest => ?_, fun _ rest => isT_ne (name_key hv kNot)⟩
        have n1 : isT wTrue (wT s o :: rest) = false := isT_ne (name_key hv kTrue)
        have n2 : isT wFalse (wT s o :: rest) = false := isT_ne (name_key hv kFalse)
        have n3 : isT wCount (wT s o :: rest) = false := isT_ne (name_key hv kCount)
        have n4 : isT wMembers (wT s o :: rest) = false := isT_ne (name_key hv kMembers)
        have n5 : isT wLp (wT s o :: rest) = false := isT_ne (fun h => by
          have h6 := hv.2.2.2 0 40 (Nat.le_refl _) (by rw [show s = wLp from h]; rfl)
          exact absurd h6.1 (by decide))
        rw [List.singleton_append, primP, if_neg (by show ¬(1 : Nat) = 2; omega), n1, n2, n3, n4, n5]
        simp only [Bool.false_eq_true, if_false]
        rw [nameT_ok hv, bindR_ok]
      by_cases c5 : op = 5
      · subst c5
        have hl1 : 1 ≤ ns.length ∧ ns.length ≤ 8 := by simpa [namN] using o5
        have e1 : toksE (.mk 5 0 ns []) o = wT wCount o :: sT wLp (o + 5) :: (namesK ns (o + 6) ++ [sT wRp (o + 6 + (joinB ns).size)]) := by rw [toksE, if_neg (by omega), if_neg (by omega), if_neg (by omega), if_neg (by omega), if_pos rfl]
        rw [e1]
        refine ⟨fun rest => ?_, fun _ rest => isT_wne (by decide)⟩
        simp only [List.cons_append, List.append_assoc, List.nil_append]
        rw [primP, if_neg (by show ¬(1 : Nat) = 2; omega), isT_wne (by decide), isT_wne (by decide), isT_w]
        simp only [Bool.false_eq_true, if_false, if_true]
        rw [namesP_ok hl1.1 o6 (.inl rfl), bindR_ok]
      · have c6 : op = 6 := by omega
        subst c6
        obtain ⟨s, rfl⟩ : ∃ s, ns = [s] := by
          have hl1 : ns.length = 1 := by simpa [namN] using o5
          match ns, hl1 with
          | [s], _ => exact ⟨s, rfl⟩
        have e1 : toksE (.mk 6 0 [s] []) o = wT wMembers o :: sT wLp (o + 7) :: (namesK [s] (o + 8) ++ [sT wRp (o + 8 + s.size)]) := by rw [toksE, if_neg (by omega), if_neg (by omega), if_neg (by omega), if_neg (by omega), if_neg (by omega), if_pos rfl]; rfl
        rw [e1]
        refine ⟨fun rest => ?_, fun _ rest => isT_wne (by decide)⟩
        simp only [List.cons_append, List.append_assoc, List.nil_append]
        rw [primP, if_neg (by show ¬(1 : Nat) = 2; omega), isT_wne (by decide), isT_wne (by decide), isT_wne (by decide), isT_w]
        simp only [Bool.false_eq_true, if_false, if_true]
        rw [namesP_ok (by simp) o6 (.inr rfl), bindR_ok]
    have hv0 := o4 (by omega)
    subst hv0
    have hns : ns = [] := List.eq_nil_of_length_eq_zero (by
      unfold namN at o5
      rw [if_neg (by omega), if_neg (by omega)] at o5; exact o5)
    subst hns
    by_cases d7 : op = 7
    · subst d7
      obtain ⟨a, rfl⟩ : ∃ a, al = [a] := by
        have hl1 : al.length = 1 := by rw [o3]; rfl
        match al, hl1 with
        | [a], _ => exact ⟨a, rfl⟩
      have ga := ih a (by rw [sizL, sizL] at hsz; omega) (nodeL_zero hargs a (by simp))
      have hd : depE a + 1 ≤ f := by rw [depL, depL] at hf; omega
      have e1 : toksE (.mk 7 0 [] [a]) o = wT wNot o :: oprK a 4 (o + 4) := by
        rw [toksE, if_neg (by omega), if_neg (by omega), if_neg (by omega), if_neg (by omega), if_neg (by omega), if_neg (by omega), toksL, toksL]; rfl
      rw [e1]
      have h4 : C4 (primP (exprP f)) (oprK a 4 (o + 4)) a := (ga f hd 4 (o + 4) (by omega) (by omega)).1
      exact ⟨b_not h4, fun h => absurd h (by decide)⟩
    obtain ⟨a, b, rfl⟩ : ∃ a b, al = [a, b] := by
      have hl1 : al.length = 2 := by rw [o3, argN, if_neg c7, if_neg d7]
      match al, hl1 with
      | [a, b], _ => exact ⟨a, b, rfl⟩
    have ga := ih a (by rw [sizL, sizL, sizL] at hsz; omega) (nodeL_zero hargs a (by simp))
    have gb := ih b (by rw [sizL, sizL, sizL] at hsz; omega) (nodeL_zero hargs b (by simp))
    have hda : depE a + 1 ≤ f := by rw [depL, depL, depL] at hf; omega
    have hdb : depE b + 1 ≤ f := by rw [depL, depL, depL] at hf; omega
    have e1 : toksE (.mk op 0 [] [a, b]) o = oprK a (lefN op) o ++ opK op (o + (parB (strN a.op) (textE a) (lefN op)).size + 1) :: oprK b (rigN op) (o + (parB (strN a.op) (textE a) (lefN op)).size + (wordB op).size) := by
      rw [toksE, if_neg (by omega), if_neg (by omega), if_neg (by omega), if_neg (by omega), if_neg (by omega), if_neg (by omega), toksL, toksL, toksL]; rfl
    rw [e1]
    generalize o + (parB (strN a.op) (textE a) (lefN op)).size + 1 = p1
    generalize o + (parB (strN a.op) (textE a) (lefN op)).size + (wordB op).size = p2
    have ha := fun k h1 h7 => (ga f hda k o h1 h7).1
    have hb := fun k h1 h7 => (gb f hdb k p2 h1 h7).1
    by_cases e8 : op = 8
    · subst e8
      exact ⟨b_and (ha 3 (by omega) (by omega)) (hb 4 (by omega) (by omega)), fun h => absurd h (by decide)⟩
    by_cases e9 : op = 9
    · subst e9
      exact ⟨b_or (ha 2 (by omega) (by omega)) (hb 3 (by omega) (by omega)), fun h => absurd h (by decide)⟩
    by_cases e10 : op = 10
    · subst e10
      exact ⟨b_arr (ha 2 (by omega) (by omega)) (hb 1 (by omega) (by omega)), fun h => absurd h (by decide)⟩
    by_cases e16 : op = 16
    · subst e16
      exact ⟨b_add (ha 6 (by omega) (by omega)) (hb 7 (by omega) (by omega)), fun _ => hdN_append ((ga f hda 6 o (by omega) (by omega)).2 (by omega))⟩
    have h5 : strN op = 5 := by unfold strN; rw [if_neg (by omega), if_neg (by omega), if_neg (by omega), if_neg (by omega), if_pos (by omega)]
    have hl6 : lefN op = 6 := by rw [lefN, if_neg e10, if_pos h5, h5]
    have hr6 : rigN op = 6 := by rw [rigN, if_neg e10, h5]
    rw [h5, hl6, hr6]
    exact ⟨b_cmp (by omega) (by omega) (ha 6 (by omega) (by omega)) (hb 6 (by omega) (by omega)), fun _ => hdN_append ((ga f hda 6 o (by omega) (by omega)).2 (by omega))⟩
/-- The tokens of a whole text. -/
theorem parse_back {e : Ex} (h : nodeE e = 0) {f o : Nat} (hf : depE e + 1 < f) {rest : List Tk} (hs : Stop 1 rest) : exprP f (toksE e o ++ rest) = .ok (e, rest) := by
  obtain ⟨f, rfl⟩ : ∃ q, f = q + 1 := ⟨f - 1, by omega⟩
  have hg : C1 (primP (exprP f)) (oprK e 1 o) e := (good_all _ e (Nat.le_refl _) h f (by omega) 1 o (by omega) (by omega)).1
  have e1 : oprK e 1 o = toksE e o := by rw [oprK, parK, if_neg (by have := (strN_pos e.op).1; omega)]
  rw [e1] at hg
  rw [exprP_succ]
  exact hg rest _ hs (Nat.lt_succ_self _)
end Go.Proofs.YtaooojjhlngcmaaDoor
namespace Go.Proofs.YtaooojjhlngcmaaDoor
open Go.RowKit
abbrev bl (s : ByteArray) : List UInt8 := s.data.toList
theorem bl_app (a b : ByteArray) : bl (a ++ b) = bl a ++ bl b := by simp [bl]
theorem bl_size (s : ByteArray) : (bl s).length = s.size := by simp [bl]
theorem bl_mk (s : ByteArray) : (⟨(bl s).toArray⟩ : ByteArray) = s := by simp [bl]
/-- What may stand behind a word or a number. -/
def ndel : List UInt8 → Prop
  | [] => True
  | b :: _ => innB b = false
/-- A piece of a text, and its tokens by the offset at which it begins; behind it stands nothing that would go on with its last word. -/
def LxW (t : List UInt8) (ts : Nat → List Tk) : Prop := ∀ N r, ndel r → (t ++ r).length ≤ N → scanL N (t ++ r) = appR (ts (N - (t ++ r).length)) (scanL N r)
/-- The same, whatever stands behind. -/
def LxS (t : List UInt8) (ts : Nat → List Tk) : Prop := ∀ N r, (t ++ r).length ≤ N → scanL N (t ++ r) = appR (ts (N - (t ++ r).length)) (scanL N r)
theorem LxS.w {t : List UInt8} {ts : Nat → List Tk} (h : LxS t ts) : LxW t ts := fun N r _ => h N r
theorem appR_app (a b : List Tk) (x : Except Nat (List Tk)) : appR a (appR b x) = appR (a ++ b) x := by cases x <;> simp [appR]
theorem appR_one (t : Tk) (x : Except Nat (List Tk)) : consR t x = appR [t] x := by cases x <;> simp [appR, consR]
theorem appR_nil (x : Except Nat (List Tk)) : appR [] x = x := by cases x <;> simp [appR]
section
variable {t t' : List UInt8} {ts ts' : Nat → List Tk}
theorem LxS.app (h : LxS t ts) (h' : LxS t' ts') : LxS (t ++ t') (fun o => ts o ++ ts' (o + t.length)) := fun N r hN => by
  rw [List.append_assoc] at hN ⊢
  rw [h N _ hN, h' N r (by simp only [List.length_append] at hN ⊢; omega), appR_app]
  congr 3
  simp only [List.length_append] at hN ⊢; omega
theorem LxS.appW (h : LxS t ts) (h' : LxW t' ts') : LxW (t ++ t') (fun o => ts o ++ ts' (o + t.length)) := fun N r hr hN => by
  rw [List.append_assoc] at hN ⊢
  rw [h N _ hN, h' N r hr (by simp only [List.length_append] at hN ⊢; omega), appR_app]
  congr 3
  simp only [List.length_append] at hN ⊢; omega
theorem LxW.app (h : LxW t ts) (h' : LxW t' ts') (hd : ∀ r, ndel r → ndel (t' ++ r)) : LxW (t ++ t') (fun o => ts o ++ ts' (o + t.length)) := fun N r hr hN => by
  rw [List.append_assoc] at hN ⊢
  rw [h N _ (hd r hr) hN, h' N r hr (by simp only [List.length_append] at hN ⊢; omega), appR_app]
  congr 3
  simp only [List.length_append] at hN ⊢; omega
theorem LxW.appS (h : LxW t ts) (h' : LxS t' ts') (hd : ∀ r, ndel (t' ++ r)) : LxS (t ++ t') (fun o => ts o ++ ts' (o + t.length)) := fun N r hN => by
  rw [List.append_assoc] at hN ⊢
  rw [h N _ (hd r) hN, h' N r (by simp only [List.length_append] at hN ⊢; omega), appR_app]
  congr 3
  simp only [List.length_append] at hN ⊢; omega
end
theorem takeWhile_all {f : UInt8 → Bool} : ∀ {t r : List UInt8}, (∀ b ∈ t, f b = true) → (∀ b l, r = b :: l → f b = false) → (t ++ r).takeWhile f = t
  | [], [], _, _ => rfl
  | [], b :: r, _, h => by rw [List.nil_append, List.takeWhile_cons_of_neg (by simp [h b r rfl])]
  | b :: t, r, h, h' => by rw [List.cons_append, List.takeWhile_cons_of_pos (h b (by simp)), takeWhile_all (fun x hx => h x (by simp [hx])) h']
theorem ndel_of {r : List UInt8} (h : ndel r) : ∀ b l, r = b :: l → innB b = false := fun b l e => by subst e; exact h
theorem let_blk {b : UInt8} (h : letB b = true) : blkB b = false ∧ b.toNat ≠ 35 := by simp only [letB, blkB, decide_eq_true_eq, decide_eq_false_iff_not] at h ⊢; omega
theorem dig_blk {b : UInt8} (h : digB b = true) : blkB b = false ∧ b.toNat ≠ 35 ∧ letB b = false ∧ innB b = true := by simp only [digB, letB, innB, blkB, decide_eq_true_eq, decide_eq_false_iff_not] at h ⊢; omega
/-- A word. -/
theorem lx_word {s : ByteArray} {b : UInt8} {l : List UInt8} (hs : bl s = b :: l) (hb : letB b = true) (ha : ∀ c ∈ bl s, innB c = true) : LxW (bl s) (fun o => [wT s o]) := fun N r hr hN => by
  obtain ⟨k1, k2⟩ := let_blk hb
  have ht : tok1 (bl s ++ r) = some (1, bl s, 0) := by
    have := takeWhile_all (f := innB) (t := bl s) ha (ndel_of hr)
    rw [hs, List.cons_append] at this ⊢
    rw [tok1, if_pos hb, this]
  rw [scan_one (b := b) (r := l ++ r) (by rw [hs]; rfl) k1 k2 ht, bl_mk, List.drop_left, appR_one]; rfl
theorem valid_bytes {s : ByteArray} (h : validS s) : ∃ b l, bl s = b :: l ∧ letB b = true ∧ ∀ c ∈ bl s, innB c = true := by
  obtain ⟨h1, _, _, h4⟩ := h
  have get : ∀ (k : Nat) (b : UInt8), (bl s)[k]? = some b → s[k]? = some b := fun k b hk => by
    obtain ⟨hlt, he⟩ := List.getElem?_eq_some_iff.1 hk
    have hlt2 : k < s.size := by rw [← bl_size]; exact hlt
    rw [getElem?_pos s k hlt2]
    congr 1
  cases hb : bl s with
  | nil => exact absurd (by rw [← bl_size, hb]; rfl) h1
  | cons b l =>
    have hall : ∀ c ∈ bl s, innB c = true := fun c hc => by
      obtain ⟨k, hk⟩ := List.mem_iff_getElem?.1 hc
      exact (h4 k c (Nat.zero_le _) (get k c hk)).1
    refine ⟨b, l, rfl, (h4 0 b (Nat.le_refl _) (get 0 b (by rw [hb]; rfl))).2 rfl, ?_⟩
    rw [← hb]; exact hall
theorem lx_name {s : ByteArray} (h : validS s) : LxW (bl s) (fun o => [wT s o]) := by
  obtain ⟨b, l, h1, h2, h3⟩ := valid_bytes h
  exact lx_word h1 h2 h3
theorem lx_true : LxW (bl wTrue) (fun o => [wT wTrue o]) := lx_word rfl (by decide) (by decide)
theorem lx_false : LxW (bl wFalse) (fun o => [wT wFalse o]) := lx_word rfl (by decide) (by decide)
theorem lx_count : LxW (bl wCount) (fun o => [wT wCount o]) := lx_word rfl (by decide) (by decide)
theorem lx_members : LxW (bl wMembers) (fun o => [wT wMembers o]) := lx_word rfl (by decide) (by decide)
theorem lx_notw : LxW (bl wNot) (fun o => [wT wNot o]) := lx_word rfl (by decide) (by decide)
theorem lx_blank : LxS [32] (fun _ => []) := fun N r _ => by rw [appR_nil]; exact scan_blank
theorem lx_sym {s : List UInt8} {b : UInt8} {l : List UInt8} (hs : s = b :: l) (h1 : blkB b = false) (h2 : b.toNat ≠ 35) (ht : ∀ r, tok1 (s ++ r) = some (3, s, 0)) : LxS s (fun o => [sT ⟨s.toArray⟩ o]) := fun N r _ => by
  rw [scan_one (b := b) (r := l ++ r) (by rw [hs]; rfl) h1 h2 (ht r), List.drop_left, appR_one]; rfl
theorem lx_lp : LxS [40] (fun o => [sT wLp o]) := lx_sym rfl (by decide) (by decide) fun _ => rfl
theorem lx_rp : LxS [41] (fun o => [sT wRp o]) := lx_sym rfl (by decide) (by decide) fun _ => rfl
theorem lx_comma : LxS [44] (fun o => [sT wComma o]) := lx_sym rfl (by decide) (by decide) fun _ => rfl
/-- An operator between blanks. -/
theorem lx_op {op : Nat} (h1 : 8 ≤ op) (h2 : op ≤ 16) : LxS (bl (wordB op)) (fun o => [opK op (o + 1)]) := by
  have key : ∀ {s : List UInt8} {b : UInt8} {l : List UInt8} {k : Nat}, s = b :: l → blkB b = false → b.toNat ≠ 35 → (∀ r, tok1 (s ++ 32 :: r) = some (k, s, 0)) → LxS (32 :: (s ++ [32])) (fun o => [⟨k, ⟨s.toArray⟩, 0, o + 1⟩]) := by
    intro s b l k hs k1 k2 ht N r hN
    rw [List.cons_append, scan_blank, List.append_assoc, List.singleton_append, scan_one (b := b) (r := l ++ 32 :: r) (by rw [hs]; rfl) k1 k2 (ht r), List.drop_left, scan_blank, appR_one]
    simp only [List.length_append, List.length_cons, List.length_nil] at hN ⊢
    rw [show N - (s.length + (r.length + 1)) = N - (s.length + (r.length + 1) + 1) + 1 by omega]
  rcases (by omega : op = 8 ∨ op = 9 ∨ op = 10 ∨ op = 11 ∨ op = 12 ∨ op = 13 ∨ op = 14 ∨ op = 15 ∨ op = 16) with rfl | rfl | rfl | rfl | rfl | rfl | rfl | rfl | rfl
  · exact key (s := [97, 110, 100]) rfl (by decide) (by decide) fun _ => rfl
  · exact key (s := [111, 114]) rfl (by decide) (by decide) fun _ => rfl
  · exact key (s := [45, 62]) rfl (by decide) (by decide) fun _ => rfl
  · exact key (s := [60, 61]) rfl (by decide) (by decide) fun _ => rfl
  · exact key (s := [60]) rfl (by decide) (by decide) fun _ => rfl
  · exact key (s := [62, 61]) rfl (by decide) (by decide) fun _ => rfl
  · exact key (s := [62]) rfl (by decide) (by decide) fun _ => rfl
  · exact key (s := [61, 61]) rfl (by decide) (by decide) fun _ => rfl
  · exact key (s := [43]) rfl (by decide) (by decide) fun _ => rfl
theorem op_ndel {op : Nat} (h1 : 8 ≤ op) (h2 : op ≤ 16) : ∀ r, ndel (bl (wordB op) ++ r) := by
  rcases (by omega : op = 8 ∨ op = 9 ∨ op = 10 ∨ op = 11 ∨ op = 12 ∨ op = 13 ∨ op = 14 ∨ op = 15 ∨ op = 16) with rfl | rfl | rfl | rfl | rfl | rfl | rfl | rfl | rfl <;> exact fun _ => (by decide : innB 32 = false)
theorem digit_of {v : Nat} (h : v < 10) : digB (UInt8.ofNat (48 + v)) = true ∧ (UInt8.ofNat (48 + v)).toNat = 48 + v := by
  have : (UInt8.ofNat (48 + v)).toNat = 48 + v := by rw [UInt8.toNat_ofNat']; omega
  exact ⟨by simp only [digB, this, decide_eq_true_eq]; omega, this⟩
theorem decG_dig : ∀ (f v : Nat), ∀ b ∈ decG f v, digB b = true
  | 0, _, b, h => by simp [decG] at h
  | f + 1, v, b, h => by
    rw [decG] at h
    split at h
    · rename_i hv
      rw [List.mem_singleton] at h
      subst h
      exact (digit_of hv).1
    · rcases List.mem_append.1 h with h | h
      · exact decG_dig f _ b h
      · rw [List.mem_singleton] at h
        subst h
        exact (digit_of (Nat.mod_lt _ (by omega))).1
theorem valL_snoc (l : List UInt8) (c : UInt8) : valL (l ++ [c]) = 10 * valL l + (c.toNat - 48) := by simp [valL]
theorem decG_val : ∀ (f v : Nat), v < 10 ^ f → valL (decG f v) = v
  | 0, v, h => by simp at h; subst h; rfl
  | f + 1, v, h => by
    rw [decG]
    split
    · rename_i hv
      simp [valL]
      omega
    · rw [valL_snoc, decG_val f (v / 10) (by rw [Nat.pow_succ] at h; omega), (digit_of (Nat.mod_lt _ (by omega))).2]; omega
theorem decG_length : ∀ (f v k : Nat), v < 10 ^ k → 1 ≤ k → (decG f v).length ≤ k
  | 0, _, _, _, _ => by simp [decG]
  | f + 1, v, k, h, hk => by
    rw [decG]
    split
    · simpa using hk
    · rename_i hv
      obtain ⟨k, rfl⟩ : ∃ q, k = q + 1 := ⟨k - 1, by omega⟩
      have h1 : v / 10 < 10 ^ k := by rw [Nat.pow_succ] at h; omega
      have hk0 : 1 ≤ k := Nat.pos_of_ne_zero fun e => by subst e; simp at h1; omega
      have := decG_length f (v / 10) k h1 hk0
      rw [List.length_append]; simp; omega
theorem decG_head : ∀ (f v : Nat), 0 < v → v < 10 ^ f → ∃ b l, decG f v = b :: l ∧ b ≠ 48
  | 0, v, h, h' => by simp at h'; omega
  | f + 1, v, h, h' => by
    rw [decG]
    split
    · rename_i hv
      refine ⟨_, [], rfl, fun e => ?_⟩
      have := (digit_of hv).2
      rw [e] at this
      have h48 : (48 : UInt8).toNat = 48 := rfl
      omega
    · obtain ⟨b, l, e, hb⟩ := decG_head f (v / 10) (by omega) (by rw [Nat.pow_succ] at h'; omega)
      exact ⟨b, l ++ [_], by rw [e]; rfl, hb⟩
theorem decG_pos (f v : Nat) : 0 < (decG (f + 1) v).length := by
  rw [decG]
  split
  · simp
  · simp
theorem lx_num {v : Nat} (hv : v ≤ 999999) : LxW (bl (decB v)) (fun o => [⟨2, decB v, v, o⟩]) := fun N r hr hN => by
  have e : bl (decB v) = decG 20 v := by simp [bl, decB]
  have hdig := decG_dig 20 v
  have hval := decG_val 20 v (by omega)
  have hlen := decG_length 20 v 6 (by omega) (by omega)
  have hrd : ∀ b l, r = b :: l → digB b = false := fun b l h => by
    have := ndel_of hr b l h
    simp only [innB, digB, decide_eq_false_iff_not] at this ⊢; omega
  have htw : (decG 20 v ++ r).takeWhile digB = decG 20 v := takeWhile_all hdig hrd
  have hpos := decG_pos 19 v
  obtain ⟨b, l, hbl⟩ : ∃ b l, decG 20 v = b :: l := by
    cases h : decG 20 v with
    | nil => rw [h] at hpos; simp at hpos
    | cons b l => exact ⟨b, l, rfl⟩
  have hb : digB b = true := hdig b (by rw [hbl]; simp)
  obtain ⟨k1, k2, k3, k4⟩ := dig_blk hb
  have hz : ¬(1 < (decG 20 v).length ∧ (decG 20 v ++ r).head? = some 48) := fun ⟨h1, h2⟩ => by
    have hv0 : 0 < v := Nat.pos_of_ne_zero fun h0 => by subst h0; simp [decG] at h1
    obtain ⟨b2, l2, e2, hne⟩ := decG_head 20 v hv0 (by omega)
    rw [e2, List.cons_append, List.head?_cons] at h2
    exact hne (Option.some.inj h2)
  have hg : glued r = false := by
    cases r with
    | nil => rfl
    | cons c r =>
      have := ndel_of hr c r rfl
      simp only [innB, decide_eq_false_iff_not] at this
      simp only [glued, letB, Bool.or_eq_false_iff, decide_eq_false_iff_not, beq_eq_false_iff_ne]
      omega
  have ht : tok1 (decG 20 v ++ r) = some (2, decG 20 v, v) := by
    have hnum : numT (decG 20 v ++ r) = some (decG 20 v) := by
      rw [numT, htw, List.drop_left]
      rw [if_neg]
      rintro (h | h | h)
      · omega
      · exact hz h
      · rw [hg] at h; cases h
    rw [hbl, List.cons_append] at hnum ⊢
    rw [tok1, if_neg (by simp [k3]), if_pos hb, hnum, ← hbl]
    simp [hval]
  rw [e] at hN ⊢
  rw [scan_one (b := b) (r := l ++ r) (by rw [hbl]; rfl) k1 k2 ht, List.drop_left, appR_one]; rfl
theorem LxW.of {t t' : List UInt8} {ts ts' : Nat → List Tk} (h : LxW t ts) (ht : t' = t) (e : ∀ o, ts' o = ts o) : LxW t' ts' := by
  subst ht
  rw [show ts' = ts from funext e]; exact h
theorem LxS.of {t t' : List UInt8} {ts ts' : Nat → List Tk} (h : LxS t ts) (ht : t' = t) (e : ∀ o, ts' o = ts o) : LxS t' ts' := by
  subst ht
  rw [show ts' = ts from funext e]; exact h
theorem lx_commas : ∀ {l : List ByteArray}, (∀ s ∈ l, validS s) → LxW (l.map fun t => [44, 32] ++ bl t).flatten (commasK l)
  | [], _ => fun N r _ _ => by simp [commasK, appR_nil]
  | s :: l, h => by
    have h1 := ((lx_comma.app lx_blank).appW (lx_name (h s (by simp)))).app (lx_commas (l := l) fun x hx => h x (List.mem_cons_of_mem _ hx)) fun r hr => by
      cases l with
      | nil => exact hr
      | cons x l => exact (by decide : innB 44 = false)
    refine h1.of (by simp) fun o => ?_
    rw [commasK]
    simp only [List.length_cons, List.length_nil, List.append_nil, List.cons_append, List.nil_append, bl_size]
    rw [show o + (s.size + 1 + 1) = o + 2 + s.size by omega]
theorem lx_names {l : List ByteArray} (h : ∀ s ∈ l, validS s) (h0 : 0 < l.length) : LxW (bl (joinB l)) (namesK l) := by
  match l, h0 with
  | s :: l, _ =>
    have h1 := (lx_name (h s (by simp))).app (lx_commas (l := l) fun x hx => h x (List.mem_cons_of_mem _ hx)) fun r hr => by
      cases l with
      | nil => exact hr
      | cons x l => exact (by decide : innB 44 = false)
    refine h1.of (by simp [bl, joinB, joinG]) fun o => ?_
    rw [namesK, bl_size]; rfl
/-- An operand, with its parentheses. -/
theorem lx_par {s least : Nat} {t : ByteArray} {ts : Nat → List Tk} (h : LxW (bl t) ts) : LxW (bl (parB s t least)) (parK s least t.size ts) := by
  by_cases hc : s < least
  · have h1 := (lx_lp.appW h).appS lx_rp fun _ => (by decide : innB 41 = false)
    refine h1.w.of (by rw [parB, if_pos hc, bl_app, bl_app]) fun o => ?_
    rw [parK, if_pos hc]
    simp only [List.length_cons, List.length_nil, List.cons_append, List.nil_append, bl_size]
    rw [show o + (t.size + 1) = o + 1 + t.size by omega]
  · exact h.of (by rw [parB, if_neg hc]) fun o => by rw [parK, if_neg hc]
/-- THE TEXT OF AN ACCEPTED TREE. -/
theorem lx_text : ∀ (n : Nat) (e : Ex), sizE e ≤ n → nodeE e = 0 → LxW (bl (textE e)) (toksE e) := by
  intro n
  induction n with
  | zero => intro e h; cases e; rw [sizE] at h; omega
  | succ n ih =>
    intro e hsz hnode
    cases e with
    | mk op v ns al =>
    obtain ⟨hown, hargs⟩ := node_ok hnode
    obtain ⟨o1, o2, o3, o4, o5, o6, o7, o8, o9⟩ := own_ok hown
    rw [sizE] at hsz
    by_cases c1 : op = 1
    · obtain ⟨q, rfl⟩ := Int.eq_ofNat_of_zero_le o8
      exact (lx_num (v := q) (by omega)).of (by rw [textE, if_pos c1]; rfl) fun o => by rw [toksE, if_pos c1]; rfl
    by_cases c2 : op = 2
    · exact lx_true.of (by rw [textE, if_neg c1, if_pos c2]) fun o => by rw [toksE, if_neg c1, if_pos c2]
    by_cases c3 : op = 3
    · exact lx_false.of (by rw [textE, if_neg c1, if_neg c2, if_pos c3]) fun o => by rw [toksE, if_neg c1, if_neg c2, if_pos c3]
    by_cases c4 : op = 4
    · obtain ⟨s, rfl⟩ : ∃ s, ns = [s] := by
        have hl1 : ns.length = 1 := by simpa [namN, c4] using o5
        match ns, hl1 with
        | [s], _ => exact ⟨s, rfl⟩
      exact (lx_name (o6 s (by simp))).of (by rw [textE, if_neg c1, if_neg c2, if_neg c3, if_pos c4]; rfl) fun o => by rw [toksE, if_neg c1, if_neg c2, if_neg c3, if_pos c4]; rfl
    by_cases c5 : op = 5
    · have hl1 : 1 ≤ ns.length ∧ ns.length ≤ 8 := by simpa [namN, c5] using o5
      have h1 := ((lx_count.appS lx_lp fun _ => (by decide : innB 40 = false)).appW (lx_names o6 hl1.1)).appS lx_rp fun _ => (by decide : innB 41 = false)
      refine h1.w.of (by rw [textE, if_neg c1, if_neg c2, if_neg c3, if_neg c4, if_pos c5, bl_app, bl_app]; rfl) fun o => ?_
      rw [toksE, if_neg c1, if_neg c2, if_neg c3, if_neg c4, if_pos c5]
      simp only [List.length_append, List.length_cons, List.length_nil, List.cons_append, List.nil_append, bl_size]
      rw [show o + wCount.size = o + 5 from rfl, show o + (wCount.size + (0 + 1)) = o + 6 from rfl, show o + (wCount.size + (0 + 1) + (joinB ns).size) = o + 6 + (joinB ns).size by rw [show wCount.size = 5 from rfl]; omega]
    by_cases c6 : op = 6
    · obtain ⟨s, rfl⟩ : ∃ s, ns = [s] := by
        have hl1 : ns.length = 1 := by simpa [namN, c6] using o5
        match ns, hl1 with
        | [s], _ => exact ⟨s, rfl⟩
      have h1 := ((lx_members.appS lx_lp fun _ => (by decide : innB 40 = false)).appW (lx_name (o6 s (by simp)))).appS lx_rp fun _ => (by decide : innB 41 = false)
      refine h1.w.of (by rw [textE, if_neg c1, if_neg c2, if_neg c3, if_neg c4, if_neg c5, if_pos c6, bl_app, bl_app]; rfl) fun o => ?_
      rw [toksE, if_neg c1, if_neg c2, if_neg c3, if_neg c4, if_neg c5, if_pos c6]
      simp only [List.length_append, List.length_cons, List.length_nil, List.cons_append, List.nil_append, bl_size, List.headD_cons]
      rw [show o + wMembers.size = o + 7 from rfl, show o + (wMembers.size + (0 + 1)) = o + 8 from rfl, show o + (wMembers.size + (0 + 1) + s.size) = o + 8 + s.size by rw [show wMembers.size = 7 from rfl]; omega]
    by_cases c7 : op = 7
    · obtain ⟨a, rfl⟩ : ∃ a, al = [a] := by
        have hl1 : al.length = 1 := by rw [o3, c7]; rfl
        match al, hl1 with
        | [a], _ => exact ⟨a, rfl⟩
      have ha := ih a (by rw [sizL, sizL] at hsz; omega) (nodeL_zero hargs a (by simp))
      have h1 := (lx_notw.appS lx_blank fun _ => (by decide : innB 32 = false)).appW (lx_par (s := strN a.op) (least := 4) ha)
      refine h1.of (by rw [textE, if_neg c1, if_neg c2, if_neg c3, if_neg c4, if_neg c5, if_neg c6, textL, textL, bl_app]; rfl) fun o => ?_
      rw [toksE, if_neg c1, if_neg c2, if_neg c3, if_neg c4, if_neg c5, if_neg c6, toksL, toksL]
      rfl
    obtain ⟨a, b, rfl⟩ : ∃ a b, al = [a, b] := by
      have hl1 : al.length = 2 := by rw [o3, argN, if_neg (by omega), if_neg c7]
      match al, hl1 with
      | [a, b], _ => exact ⟨a, b, rfl⟩
    have ha := ih a (by rw [sizL, sizL, sizL] at hsz; omega) (nodeL_zero hargs a (by simp))
    have hb := ih b (by rw [sizL, sizL, sizL] at hsz; omega) (nodeL_zero hargs b (by simp))
    have h1 := ((lx_par (s := strN a.op) (least := lefN op) ha).appS (lx_op (op := op) (by omega) o2) (op_ndel (by omega) o2)).appW (lx_par (s := strN b.op) (least := rigN op) hb)
    refine h1.of (by rw [textE, if_neg c1, if_neg c2, if_neg c3, if_neg c4, if_neg c5, if_neg c6, textL, textL, textL]; simp only [bl_app]) fun o => ?_
    rw [toksE, if_neg c1, if_neg c2, if_neg c3, if_neg c4, if_neg c5, if_neg c6, toksL, toksL, toksL]
    simp only [List.append_assoc, List.singleton_append, List.length_append, bl_size]
    rw [Nat.add_assoc o (parB _ _ _).size (wordB op).size]
/-- The text of an accepted tree alone. -/
theorem scan_text {e : Ex} (h : nodeE e = 0) : scanL (textE e).size (bl (textE e)) = .ok (toksE e 0 ++ [⟨0, ⟨#[]⟩, 0, (textE e).size⟩]) := by
  have := lx_text _ e (Nat.le_refl _) h (textE e).size [] trivial (by simp [bl])
  rw [List.append_nil, scan_end, bl_size, Nat.sub_self] at this
  exact this
end Go.Proofs.YtaooojjhlngcmaaDoor
namespace Go.Proofs.YtaooojjhlngcmaaDoor
open Go.RowKit
theorem stop_end {k : Nat} {s : ByteArray} {n o : Nat} : Stop k [⟨0, s, n, o⟩] := by
  constructor <;> intros <;> rfl
theorem text_inj {a b : Ex} (ha : nodeE a = 0) (hb : nodeE b = 0) (h : textE a = textE b) : a = b := by
  have h1 := scan_text ha
  rw [h, scan_text hb] at h1
  have h3 := Except.ok.inj h1
  have p1 := parse_back ha (f := depE a + depE b + 2) (o := 0) (by omega) (rest := [⟨0, ⟨#[]⟩, 0, (textE b).size⟩]) stop_end
  have p2 := parse_back hb (f := depE a + depE b + 2) (o := 0) (by omega) (rest := [⟨0, ⟨#[]⟩, 0, (textE b).size⟩]) stop_end
  rw [← h3, p2] at p1
  exact (congrArg Prod.fst (Except.ok.inj p1)).symm
theorem text_ne {a : Ex} (ha : nodeE a = 0) : textE a ≠ ⟨#[]⟩ := fun h => by
  have h1 := scan_text ha
  rw [h] at h1
  have h2 : toksE a 0 = [] := by
    have := Except.ok.inj h1
    generalize toksE a 0 = l at this
    cases l with
    | nil => rfl
    | cons t l => cases l <;> simp at this
  have p1 := parse_back ha (f := depE a + 2) (o := 0) (by omega) (rest := []) ⟨fun _ => rfl, fun _ => rfl, fun _ => rfl, fun _ _ _ => rfl, fun _ => rfl⟩
  rw [h2] at p1
  have : exprP (depE a + 2) ([] ++ []) = .error (0, 8) := rfl
  rw [this] at p1
  cases p1
end Go.Proofs.YtaooojjhlngcmaaDoor
namespace Go.Proofs.YtaooojjhlngcmaaDoor
section
set_option maxRecDepth 100000
theorem en11 : Enters Tryd.prog 11 := enters_mk Tryd.func11 (by kernel_rfl) rfl
end
open Go.RowKit
theorem chk_zero {e : Ex} (h : chkE e = 0) : nodeE e = 0 := by
  rw [chkE] at h
  split at h
  · cases h
  · exact h
theorem sTexts_spec {X : PMap} (hP : Pow10 X) {v v' : Value} {l l' : List Nd} (h : RowR ndC X v l) (h' : RowR ndC X v' l') (hok : ∀ x ∈ l, ndOk x) (hok' : ∀ x ∈ l', ndOk x) : Spec Tryd.prog 7 [v, v'] X fun u _ => u = .bool true := by
  have hwa : wtE (builtE l) < 300000 := built_wt l
  have hwb : wtE (builtE l') < 300000 := built_wt l'
  have hoa := built_ops hok
  have hob := built_ops hok'
  refine Spec.enter Tryd.func7 rfl Tryd.ntmps7 rfl ?_
  intro w0 hw0
  refine T.seq ?_
  refine T.region ?_
  refine SL.y (op_assign rfl) rfl rfl ?_
  refine SL.nil ?_
  refine T.seq ?_
  refine T.seq ?_
  refine T.region ?_
  refine SL.x (op_callF en11 (vs := []) rfl (awake16_spec)) rfl rfl ?_
  rintro _ _ X0 ⟨rfl, hX0, rfl⟩
  refine SL.y (op_not rfl) rfl rfl ?_
  refine SL.nil ?_
  refine T.condF rfl ?_
  refine T.skip ?_
  refine T.seq ?_
  refine T.region ?_
  refine SL.y (op_move rfl) rfl rfl ?_
  refine SL.x (op_callF en12 (vs := [_]) rfl (built_spec (h.mono hX0) hok)) rfl rfl ?_
  rintro _ _ X1 ⟨rfl, hX1, r, rfl, hr⟩
  obtain ⟨o, n, A, B, l1, c1, l2, c2, rfl⟩ := hr.form
  refine SL.y (op_move rfl) rfl rfl ?_
  refine SL.x (op_callF en12 (vs := [_]) rfl (built_spec ((h'.mono hX0).mono hX1) hok')) rfl rfl ?_
  rintro _ _ X2 ⟨rfl, hX2, r2, rfl, hr2⟩
  obtain ⟨o2, n2, A2, B2, l3, c3, l4, c4, rfl⟩ := hr2.form
  have hr := hr.mono hX2
  generalize builtE l = a at *
  generalize builtE l' = b at *
  refine SL.x (op_alloc z27) rfl rfl ?_
  rintro _ _ _ ⟨B5, rfl, rfl, rfl⟩
  refine SL.x (op_alloc z27) rfl rfl ?_
  rintro _ _ _ ⟨B6, rfl, rfl, rfl⟩
  refine SL.x (op_store ty27 rfl rfl (by repeat constructor) rfl rfl rfl) rfl rfl ?_
  rintro _ _ _ ⟨rfl, rfl⟩
  refine SL.x (op_store ty27 rfl rfl (by repeat constructor) rfl rfl rfl) rfl rfl ?_
  rintro _ _ _ ⟨rfl, rfl⟩
  refine SL.nil ?_
  refine T.seq ?_
  refine T.seq ?_
  refine T.region ?_
  first | refine SL.y (op_load ty27 rfl (by repeat constructor) rfl) rfl rfl ?_ | refine SL.y (op_loadX ty27 rfl (by assumption) rfl) rfl rfl ?_
  have hc1 := rchk_spec (by omega) hr
  try simp only at hc1
  refine SL.x (op_callF en15 (vs := [_]) rfl (hc1)) rfl rfl ?_
  rintro _ _ X3 ⟨rfl, hX3, rfl⟩
  have hr := hr.mono hX3
  have hr2 := hr2.mono hX3
  by_cases ha : chkE a = 0
  case neg =>
    first | refine SL.y (op_neqT rfl rfl (by omega)) rfl rfl ?_ | refine SL.y (op_neqF rfl rfl (by omega)) rfl rfl ?_ | refine SL.y (op_neq rfl rfl) rfl rfl ?_
    refine SL.y (op_move rfl) rfl rfl ?_
    first | refine SL.skip rfl rfl ?_ | refine SL.y (op_load ty27 rfl (by repeat constructor) rfl) rfl rfl ?_ | refine SL.y (op_loadX ty27 rfl (by assumption) rfl) rfl rfl ?_
    refine SL.skip rfl rfl ?_
    first | refine SL.skip rfl rfl ?_ | refine SL.y (op_neqT rfl rfl (by omega)) rfl rfl ?_ | refine SL.y (op_neqF rfl rfl (by omega)) rfl rfl ?_ | refine SL.y (op_neq rfl rfl) rfl rfl ?_
    first | refine SL.y (op_pickT rfl rfl) rfl rfl ?_ | refine SL.y (op_pickF rfl rfl) rfl rfl ?_ | refine SL.y (op_pickB rfl rfl rfl) rfl rfl ?_
    refine SL.nil ?_
    refine T.condT rfl ?_
    refine T.seq ?_
    refine T.region ?_
    refine SL.y (op_assign rfl) rfl rfl ?_
    refine SL.nil ?_
    refine T.ret1 rfl (ResIs.tmp rfl) ?_
    rfl
  first | refine SL.y (op_neqT rfl rfl (by omega)) rfl rfl ?_ | refine SL.y (op_neqF rfl rfl (by omega)) rfl rfl ?_ | refine SL.y (op_neq rfl rfl) rfl rfl ?_
  refine SL.y (op_move rfl) rfl rfl ?_
  first | refine SL.skip rfl rfl ?_ | refine SL.y (op_load ty27 rfl (by repeat constructor) rfl) rfl rfl ?_ | refine SL.y (op_loadX ty27 rfl (by assumption) rfl) rfl rfl ?_
  have hc2 := rchk_spec (by omega) hr2
  try simp only at hc2
  refine SL.x (op_callF en15 (vs := [_]) rfl (hc2)) rfl rfl ?_
  rintro _ _ X4 ⟨rfl, hX4, rfl⟩
  have hr := hr.mono hX4
  have hr2 := hr2.mono hX4
  by_cases hb : chkE b = 0
  case neg =>
    first | refine SL.skip rfl rfl ?_ | refine SL.y (op_neqT rfl rfl (by omega)) rfl rfl ?_ | refine SL.y (op_neqF rfl rfl (by omega)) rfl rfl ?_ | refine SL.y (op_neq rfl rfl) rfl rfl ?_
    first | refine SL.y (op_pickT rfl rfl) rfl rfl ?_ | refine SL.y (op_pickF rfl rfl) rfl rfl ?_ | refine SL.y (op_pickB rfl rfl rfl) rfl rfl ?_
    refine SL.nil ?_
    refine T.condT rfl ?_
    refine T.seq ?_
    refine T.region ?_
    refine SL.y (op_assign rfl) rfl rfl ?_
    refine SL.nil ?_
    refine T.ret1 rfl (ResIs.tmp rfl) ?_
    rfl
  have hna := chk_zero ha
  have hnb := chk_zero hb
  first | refine SL.skip rfl rfl ?_ | refine SL.y (op_neqT rfl rfl (by omega)) rfl rfl ?_ | refine SL.y (op_neqF rfl rfl (by omega)) rfl rfl ?_ | refine SL.y (op_neq rfl rfl) rfl rfl ?_
  first | refine SL.y (op_pickT rfl rfl) rfl rfl ?_ | refine SL.y (op_pickF rfl rfl) rfl rfl ?_ | refine SL.y (op_pickB rfl rfl rfl) rfl rfl ?_
  refine SL.nil ?_
  refine T.condF rfl ?_
  refine T.skip ?_
  refine T.seq ?_
  refine T.draw (by kernel_rfl) 8 [.t 0, .t 3, .r 1, .r 2, .r 4, .r 5, .t 6, .t 7] (by kernel_rfl) ?_
  first | refine SD.take rfl panicBody (op_load ty27 rfl (by repeat constructor) rfl) rfl rfl ?_ | refine SD.take rfl panicBody (op_loadX ty27 rfl (by assumption) rfl) rfl rfl ?_
  first | refine SD.take rfl panicBody (op_load ty27 rfl (by repeat constructor) rfl) rfl rfl ?_ | refine SD.take rfl panicBody (op_loadX ty27 rfl (by assumption) rfl) rfl rfl ?_
  have hc3 := expr_spec 300000 (by omega) (by omega) hoa hr
  try simp only at hc3
  refine SD.run rfl (op_callF en14 (vs := [_]) rfl (hc3)) rfl rfl ?_
  rintro _ _ X5 ⟨rfl, hX5, r5, rfl, hr5⟩
  obtain ⟨o5, n5, A5, B5', l5, c5, l6, c6, rfl⟩ := hr5.form
  have hP5 : Pow10 X5 := ((((((hP.mono hX0).mono hX1).mono hX2).mono hX3).mono hX4).mono hX5)
  have hc4 := printA_spec hP5 (by omega) hr5
  try simp only at hc4
  refine SD.run rfl (op_callF en26 (vs := [_]) rfl (hc4)) rfl rfl ?_
  rintro _ _ X6 ⟨rfl, hX6, rfl⟩
  rw [if_pos ha]
  have hr := (hr.mono hX5).mono hX6
  have hr2 := (hr2.mono hX5).mono hX6
  have hc5 := expr_spec 300000 (by omega) (by omega) hob hr2
  try simp only at hc5
  refine SD.run rfl (op_callF en14 (vs := [_]) rfl (hc5)) rfl rfl ?_
  rintro _ _ X7 ⟨rfl, hX7, r7, rfl, hr7⟩
  obtain ⟨o7, n7, A7, B7', l7, c7, l8, c8, rfl⟩ := hr7.form
  have hc6 := printA_spec ((hP5.mono hX6).mono hX7) (by omega) hr7
  try simp only at hc6
  refine SD.run rfl (op_callF en26 (vs := [_]) rfl (hc6)) rfl rfl ?_
  rintro _ _ X8 ⟨rfl, hX8, rfl⟩
  rw [if_pos hb]
  have hr := (hr.mono hX7).mono hX8
  have hr2 := (hr2.mono hX7).mono hX8
  refine SD.take rfl panicBody (op_assign rfl) rfl rfl ?_
  refine SD.take rfl panicBody (op_assign rfl) rfl rfl ?_
  refine SD.nil ?_
  show SL _ _ _ _ _ _ _ [] _ _ _
  refine SL.nil ?_
  refine T.seq ?_
  refine T.region ?_
  refine SL.y (op_move rfl) rfl rfl ?_
  refine SL.y (op_neqStrD (s := textE a) (s' := ⟨#[]⟩) rfl rfl) rfl rfl ?_
  rw [decide_eq_false (text_ne hna), Bool.not_false]
  refine SL.y (op_move rfl) rfl rfl ?_
  first | refine SL.skip rfl rfl ?_ | refine SL.y (op_move rfl) rfl rfl ?_
  first | refine SL.skip rfl rfl ?_ | refine SL.y (op_move rfl) rfl rfl ?_
  refine SL.y (op_eqlStrD (s := textE a) (s' := textE b) rfl rfl) rfl rfl ?_
  first | refine SL.skip rfl rfl ?_ | refine SL.y (op_load ty27 rfl (by repeat constructor) rfl) rfl rfl ?_ | refine SL.y (op_loadX ty27 rfl (by assumption) rfl) rfl rfl ?_
  first | refine SL.skip rfl rfl ?_ | refine SL.y (op_load ty27 rfl (by repeat constructor) rfl) rfl rfl ?_ | refine SL.y (op_loadX ty27 rfl (by assumption) rfl) rfl rfl ?_
  have hc7 := reqE_spec _ (Nat.le_refl _) (by omega) hr hr2
  try simp only at hc7
  refine SL.x (op_callF en28 (vs := [_, _]) rfl (hc7)) rfl rfl ?_
  rintro _ _ X9 ⟨rfl, hX9, rfl⟩
  rw [show decide (textE a = textE b) = decide (a = b) from decide_eq_decide.2 ⟨text_inj hna hnb, fun e => by rw [e]⟩]
  refine SL.y (op_eqlBS Tryd.underlying4 rfl rfl) rfl rfl ?_
  first | refine SL.y (op_pickT rfl rfl) rfl rfl ?_ | refine SL.y (op_pickF rfl rfl) rfl rfl ?_ | refine SL.y (op_pickB rfl rfl rfl) rfl rfl ?_
  refine SL.y (op_assign rfl) rfl rfl ?_
  refine SL.nil ?_
  refine T.ret1 rfl (ResIs.tmp rfl) ?_
  rfl
end Go.Proofs.YtaooojjhlngcmaaDoor
namespace Go.Proofs.YtaooojjhlngcmaaDoor
open Go.RowKit
theorem gPow : Tryd.prog.globalNamed "internal/strconv.uint64pow10" = some 0 := by kernel_rfl
theorem gPowT : (Tryd.prog.globals[0]?).map (·.type) = some 162 := by kernel_rfl
theorem cells20 : Tryd.prog.cellsOf 162 = 20 := by kernel_rfl
theorem cellsU64 : Tryd.prog.cellsOf 141 = 1 := by kernel_rfl
theorem pow_of {W : World} {x y : String × DataW Unit} (h : laidMet Tryd.prog [x, y, ("internal/strconv.uint64pow10", Rows.laid_internal_strconv_uint64pow10)] W) : Pow10 (heapX W) := by
  have ht : Lib.TabIs Tryd.prog W "internal/strconv.uint64pow10" .u64 Lib.pow10Tab := Lib.tabIs_of_head gPow gPowT Tryd.underlying162 Tryd.underlying141 cellsU64 cells20 h.tail.tail
  intro w hw
  unfold Lib.TabIs World.var? at ht ⊢
  rw [gPow] at ht ⊢
  simp only [Option.bind_some] at ht ⊢
  cases hg : W.heap[0]? with
  | none => rw [hg] at ht; cases ht
  | some o =>
    rw [hg] at ht
    rw [hw 0 o hg]
    exact ht
end Go.Proofs.YtaooojjhlngcmaaDoor
