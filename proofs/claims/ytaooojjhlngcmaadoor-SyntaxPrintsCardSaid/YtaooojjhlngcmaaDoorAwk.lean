/- The examples of the chapter: awake. -/
import Derived.Test.YtaooojjhlngcmaaDoorChk
import Derived.Test.YtaooojjhlngcmaaDoorBld
namespace Go.Proofs.YtaooojjhlngcmaaDoor
section
set_option maxRecDepth 100000
theorem bs34 : ∃ i z, Tryd.prog.info? 34 = some i ∧ i.size = 4 ∧ i.zero = some z ∧ z.cells = ([.int .u8 0, .int .i64 0, .slice none 0 0, .slice none 0 0] : List Value).toArray := bs_of (by kernel_rfl)
theorem bs61 : ∃ i z, Tryd.prog.info? 61 = some i ∧ i.size = 7 ∧ i.zero = some z ∧ z.cells = ([.bool false, .int .u8 0, .string ⟨#[]⟩, .int .u8 0, .int .i64 0, .slice none 0 0, .slice none 0 0] : List Value).toArray := bs_of (by kernel_rfl)
theorem en26 : Enters Tryd.prog 26 := enters_mk Tryd.func26 (by kernel_rfl) rfl
theorem en29 : Enters Tryd.prog 29 := enters_mk Tryd.func29 (by kernel_rfl) rfl
theorem en30 : Enters Tryd.prog 30 := enters_mk Tryd.func30 (by kernel_rfl) rfl
theorem en36 : Enters Tryd.prog 36 := enters_mk Tryd.func36 (by kernel_rfl) rfl
theorem st61 : StT Tryd.prog 61 [(0, 1), (1, 1), (2, 1), (3, 4)] [.bool false, .int .u8 0, .string ⟨#[]⟩, .int .u8 0, .int .i64 0, .slice none 0 0, .slice none 0 0] := ⟨⟨_, Tryd.underlying61, fun _ => by kernel_rfl, z61⟩⟩
end
open Go.RowKit
theorem itoa10 {X : PMap} (v : Nat) (h : v < 10) : Spec Tryd.prog 82 [.int .i64 (v : Int)] X fun u _ => u = .string (decB v) := by
  have := itoa_spec (X := X) v h
  have e : decB v = ⟨#[UInt8.ofNat (48 + v)]⟩ := by rw [decB, decG, if_pos h]
  rwa [← e] at this
def leafE (s : ByteArray) : Ex := .mk 4 0 [s] []
theorem leaf_spec {X : PMap} {s : ByteArray} : Spec Tryd.prog 29 [.string s] X fun u X' => ∃ r : Row4, u = .agg #[r.1, r.2.1, r.2.2.1, r.2.2.2] ∧ ExR .u8 X' (leafE s) r := by
  refine Spec.enter Tryd.func29 rfl Tryd.ntmps29 rfl ?_
  intro w0 hw0
  refine T.seq ?_
  refine T.region ?_
  refine SL.x (op_alloc z34) rfl rfl ?_
  rintro _ _ _ ⟨B2, rfl, rfl, rfl⟩
  refine SL.nil ?_
  refine T.seq ?_
  refine T.region ?_
  refine SL.y (op_move rfl) rfl rfl ?_
  refine SL.x (op_buildSlice Tryd.underlying24 bs9 (qs := [(0, _)]) rfl rfl rfl rfl rfl) rfl rfl ?_
  rintro _ _ _ ⟨B4, rfl, rfl, rfl⟩
  refine SL.y (op_build st34 (qs := [(0, _), (2, _)]) rfl rfl) rfl rfl ?_
  refine SL.x (op_store ty34 rfl rfl (by repeat (first | exact AtO.here | apply AtO.there)) rfl rfl rfl) rfl rfl ?_
  rintro _ _ _ ⟨rfl, rfl⟩
  refine SL.nil ?_
  -- ret
  refine T.pub B4 (by repeat (first | exact AtO.here | apply AtO.there)) ?_
  intro X1 hX1 hB4 _
  refine T.ret1 rfl (ResIs.cell rfl ty34 (by repeat (first | exact AtO.here | apply AtO.there)) rfl) ?_
  exact ⟨(.int .u8 ((4 : Nat) : Int), .int .i64 0, .slice (some ⟨B4, 0, none⟩) 1 1, .slice none 0 0), rfl, .mk (rows := []) (.inr ⟨by simp, B4, 1, [], rfl, hB4, by simp, by decide⟩) (.inl ⟨rfl, _, _, rfl⟩) rfl (fun i a r h => by simp at h)⟩
theorem pair_spec {X : PMap} {op : Nat} {a b : Ex} {ra rb : Row4} (ha : ExR .u8 X a ra) (hb : ExR .u8 X b rb) : Spec Tryd.prog 30 [.int .u8 (op : Int), .agg #[ra.1, ra.2.1, ra.2.2.1, ra.2.2.2], .agg #[rb.1, rb.2.1, rb.2.2.1, rb.2.2.2]] X fun u X' => ∃ r : Row4, u = .agg #[r.1, r.2.1, r.2.2.1, r.2.2.2] ∧ ExR .u8 X' (.mk op 0 [] [a, b]) r := by
  obtain ⟨o1, n1, a1, b1, l1, c1, l2, c2, rfl⟩ := ha.form
  obtain ⟨o3, n3, a3, b3, l3, c3, l4, c4, rfl⟩ := hb.form
  refine Spec.enter Tryd.func30 rfl Tryd.ntmps30 rfl ?_
  intro w0 hw0
  refine T.seq ?_
  refine T.region ?_
  refine SL.x (op_box rfl) rfl rfl ?_
  rintro _ _ _ ⟨B4, rfl, rfl, rfl⟩
  refine SL.x (op_box rfl) rfl rfl ?_
  rintro _ _ _ ⟨B5, rfl, rfl, rfl⟩
  refine SL.x (op_alloc z34) rfl rfl ?_
  rintro _ _ _ ⟨B6, rfl, rfl, rfl⟩
  refine SL.nil ?_
  refine T.seq ?_
  refine T.region ?_
  refine SL.y (op_move rfl) rfl rfl ?_
  first | refine SL.y (op_load ty34 rfl (by repeat (first | exact AtO.here | apply AtO.there)) rfl) rfl rfl ?_ | refine SL.y (op_loadX ty34 rfl (by assumption) rfl) rfl rfl ?_
  first | refine SL.y (op_load ty34 rfl (by repeat (first | exact AtO.here | apply AtO.there)) rfl) rfl rfl ?_ | refine SL.y (op_loadX ty34 rfl (by assumption) rfl) rfl rfl ?_
  refine SL.x (op_buildSlice Tryd.underlying32 bs34 (qs := [(0, _), (1, _)]) rfl rfl rfl rfl rfl) rfl rfl ?_
  rintro _ _ _ ⟨B10, rfl, rfl, rfl⟩
  refine SL.y (op_build st34 (qs := [(0, _), (3, _)]) rfl rfl) rfl rfl ?_
  refine SL.x (op_store ty34 rfl rfl (by repeat (first | exact AtO.here | apply AtO.there)) rfl rfl rfl) rfl rfl ?_
  rintro _ _ _ ⟨rfl, rfl⟩
  refine SL.nil ?_
  -- ret
  refine T.pub B10 (by repeat (first | exact AtO.here | apply AtO.there)) ?_
  intro X1 hX1 hB10 _
  refine T.ret1 rfl (ResIs.cell rfl ty34 (by repeat (first | exact AtO.here | apply AtO.there)) rfl) ?_
  refine ⟨(.int .u8 (op : Int), .int .i64 0, .slice none 0 0, .slice (some ⟨B10, 0, none⟩) 2 2), rfl, .mk (rows := [(.int .u8 (o1 : Int), .int .i64 n1, .slice a1 l1 c1, .slice b1 l2 c2), (.int .u8 (o3 : Int), .int .i64 n3, .slice a3 l3 c3, .slice b3 l4 c4)]) (.inl ⟨rfl, _, _, rfl⟩) (.inr ⟨by simp, B10, 2, [], rfl, hB10, by simp, by decide⟩) rfl (fun i x r h h' => ?_)⟩
  match i, h, h' with
  | 0, h, h' => cases h; cases h'; exact ha.mono hX1
  | 1, h, h' => cases h; cases h'; exact hb.mono hX1
theorem valid_of {s : ByteArray} (h1 : s.size ≠ 0) (h2 : s.size ≤ 12) (h3 : s ∉ keyws) (h4 : (List.range s.size).all (fun k => match s[k]? with | some b => innB b && (k != 0 || letB b) | none => true) = true) : validS s := by
  refine ⟨h1, h2, h3, fun k b _ hb => ?_⟩
  have hk : k < s.size := by
    rcases Nat.lt_or_ge k s.size with h | h
    · exact h
    · rw [ByteArray.getElem?_ge' s k (by omega)] at hb; cases hb
  have := List.all_eq_true.1 h4 k (List.mem_range.2 hk)
  rw [hb] at this
  simp only [Bool.and_eq_true, Bool.or_eq_true, bne_iff_ne, ne_eq] at this
  exact ⟨this.1, fun h0 => this.2.resolve_left fun h => h h0⟩
theorem valA : validS ⟨#[97]⟩ := valid_of (by decide) (by decide) (by simp [keyws]) (by decide)
theorem valB : validS ⟨#[98]⟩ := valid_of (by decide) (by decide) (by simp [keyws]) (by decide)
theorem valC : validS ⟨#[99]⟩ := valid_of (by decide) (by decide) (by simp [keyws]) (by decide)
theorem valSod : validS ⟨#[115, 111, 100]⟩ := valid_of (by decide) (by decide) (by simp [keyws]) (by decide)
theorem node_of {op : Nat} {n : Int} {ns : List ByteArray} {al : List Ex} (h1 : ¬(op < 1 ∨ 16 < op ∨ al.length ≠ argN op)) (h2 : ¬((n ≠ 0 ∧ op ≠ 1) ∨ ¬namN op ns.length)) (h3 : ∀ s ∈ ns, validS s) (h4 : ns.Nodup) (h5 : ¬(n < 0 ∨ 999999 < n)) (h6 : nodeL al = 0) : nodeE (.mk op n ns al) = 0 := by
  rw [node_args (own0' h1 h2 h3 h4 h5), h6]
theorem nodeL_of {al : List Ex} (h : ∀ a ∈ al, nodeE a = 0) : nodeL al = 0 := by
  induction al with
  | nil => rfl
  | cons a al ih => rw [nodeL, if_neg (fun hh => hh (h a (by simp))), ih fun x hx => h x (by simp [hx])]
theorem leaf_node {s : ByteArray} (h : validS s) : nodeE (leafE s) = 0 := node_of (by decide) (fun h => h.elim (fun h => h.1 rfl) (fun h => h (show namN 4 1 by decide))) (fun t ht => by rw [List.mem_singleton.1 ht]; exact h) (by simp) (by decide) rfl
theorem two_node {op : Nat} {a b : Ex} (h1 : 8 ≤ op) (h2 : op ≤ 16) (ha : nodeE a = 0) (hb : nodeE b = 0) : nodeE (.mk op 0 [] [a, b]) = 0 := by
  refine node_of ?_ ?_ (fun t ht => by cases ht) (by simp) (by decide) (nodeL_of fun x hx => ?_)
  · have : argN op = 2 := by unfold argN; rw [if_neg (by omega), if_neg (by omega)]
    simp only [List.length_cons, List.length_nil]; omega
  · rintro (⟨h, _⟩ | h)
    · exact h rfl
    · refine h ?_
      unfold namN
      rw [if_neg (by omega), if_neg (by omega)]; rfl
  · rcases List.mem_cons.1 hx with rfl | hx
    · exact ha
    · rw [List.mem_singleton.1 hx]; exact hb
def lA : Ex := leafE ⟨#[97]⟩
def lB : Ex := leafE ⟨#[98]⟩
def lC : Ex := leafE ⟨#[99]⟩
def eNot : Ex := .mk 7 0 [] [.mk 8 0 [] [lA, lB]]
def eLe : Ex := .mk 11 0 [] [.mk 5 0 [⟨#[97]⟩, ⟨#[98]⟩] [], .mk 1 1 [] []]
theorem chk_of {e : Ex} (h1 : decide (depE e ≤ 10 ∧ sizE e ≤ 200) = true) (h2 : nodeE e = 0) : chkE e = 0 := by
  have := of_decide_eq_true h1
  rw [chkE, if_neg (by omega), h2]
theorem chk1 : chkE (.mk 8 0 [] [lA, .mk 8 0 [] [lB, lC]]) = 0 := chk_of (by kernel_rfl) (two_node (by decide) (by decide) (leaf_node valA) (two_node (by decide) (by decide) (leaf_node valB) (leaf_node valC)))
theorem chk2 : chkE (.mk 10 0 [] [lA, .mk 10 0 [] [lB, lC]]) = 0 := chk_of (by kernel_rfl) (two_node (by decide) (by decide) (leaf_node valA) (two_node (by decide) (by decide) (leaf_node valB) (leaf_node valC)))
theorem chk3 : chkE eNot = 0 := chk_of (by kernel_rfl) (node_of (by decide) (by decide) (fun t ht => by cases ht) (by simp) (by decide) (nodeL_of fun x hx => by rw [List.mem_singleton.1 hx]; exact two_node (by decide) (by decide) (leaf_node valA) (leaf_node valB)))
theorem chk4 : chkE eLe = 0 := chk_of (by kernel_rfl) (two_node (by decide) (by decide) (node_of (by decide) (by decide) (fun t ht => by
  rcases List.mem_cons.1 ht with rfl | ht
  · exact valA
  · rw [List.mem_singleton.1 ht]; exact valB) (by simp) (by decide) rfl) (node_of (by decide) (by decide) (fun t ht => by cases ht) (by simp) (by decide) rfl))
def cSod : Con := ⟨true, 1, ⟨#[115, 111, 100]⟩, eLe⟩
theorem chk5 : chkAll [cSod] = 0 := by
  have e : errC [] cSod = 0 := by
    rw [errC, if_neg (by decide), if_neg (fun h => h valSod), if_neg (by simp), show cSod.ex = eLe from rfl, chk4]
  have e2 : chkCs [] [cSod] = 0 := by rw [chkCs, if_neg (fun h => h e), chkCs]
  rw [chkAll, if_neg (by decide), if_neg (fun h => h e2), if_neg (of_decide_eq_true (by kernel_rfl))]
theorem num10 {e : Ex} (h : e = .mk 8 0 [] [lA, .mk 8 0 [] [lB, lC]] ∨ e = .mk 10 0 [] [lA, .mk 10 0 [] [lB, lC]] ∨ e = eNot ∨ e = eLe) : numE 10 e := by
  rcases h with rfl | rfl | rfl | rfl <;> simp [numE, numL, eNot, eLe, lA, lB, lC, leafE]
theorem tx1 : textE (.mk 8 0 [] [lA, .mk 8 0 [] [lB, lC]]) = ⟨#[97, 32, 97, 110, 100, 32, 40, 98, 32, 97, 110, 100, 32, 99, 41]⟩ := by kernel_rfl
theorem tx2 : textE (.mk 10 0 [] [lA, .mk 10 0 [] [lB, lC]]) = ⟨#[97, 32, 45, 62, 32, 98, 32, 45, 62, 32, 99]⟩ := by kernel_rfl
theorem tx3 : textE eNot = ⟨#[110, 111, 116, 32, 40, 97, 32, 97, 110, 100, 32, 98, 41]⟩ := by kernel_rfl
theorem tx4 : (⟨(linesL [cSod]).toArray⟩ : ByteArray) = ⟨#[101, 110, 102, 111, 114, 99, 101, 32, 115, 116, 97, 116, 105, 99, 32, 115, 111, 100, 58, 32, 99, 111, 117, 110, 116, 40, 97, 44, 32, 98, 41, 32, 60, 61, 32, 49, 59, 10]⟩ := by kernel_rfl
theorem awake16_spec {X : PMap} : Spec Tryd.prog 11 [] X fun u _ => u = .bool true := by
  have hI : ∀ {X : PMap}, ItoaOk 10 X := fun _ _ v h => itoa10 v h
  refine Spec.enter Tryd.func11 rfl Tryd.ntmps11 rfl ?_
  intro w0 hw0
  refine T.seq ?_
  refine T.region ?_
  refine SL.y (op_assign rfl) rfl rfl ?_
  refine SL.nil ?_
  refine T.seq ?_
  refine T.region ?_
  -- op
  refine SL.x (op_callF en29 (vs := [_]) rfl (leaf_spec (s := ⟨#[97]⟩))) rfl rfl ?_
  rintro _ _ X1 ⟨rfl, hX1, rA, rfl, hA⟩
  -- op
  refine SL.x (op_callF en29 (vs := [_]) rfl (leaf_spec (s := ⟨#[98]⟩))) rfl rfl ?_
  rintro _ _ X2 ⟨rfl, hX2, rB, rfl, hB⟩
  -- op
  refine SL.x (op_callF en29 (vs := [_]) rfl (leaf_spec (s := ⟨#[99]⟩))) rfl rfl ?_
  rintro _ _ X3 ⟨rfl, hX3, rC, rfl, hC⟩
  have hA := (hA.mono hX2).mono hX3
  have hB := hB.mono hX3
  obtain ⟨oa, na, aa, ba, la, ca, la2, ca2, rfl⟩ := hA.form
  obtain ⟨ob, nb, ab, bb, lb, cb, lb2, cb2, rfl⟩ := hB.form
  obtain ⟨oc, nc, ac, bc, lc, cc, lc2, cc2, rfl⟩ := hC.form
  refine SL.x (op_alloc z34) rfl rfl ?_
  rintro _ _ _ ⟨B1, rfl, rfl, rfl⟩
  refine SL.x (op_alloc z34) rfl rfl ?_
  rintro _ _ _ ⟨B2, rfl, rfl, rfl⟩
  refine SL.x (op_alloc z34) rfl rfl ?_
  rintro _ _ _ ⟨B3, rfl, rfl, rfl⟩
  refine SL.x (op_store ty34 rfl rfl (by repeat (first | exact AtO.here | apply AtO.there)) rfl rfl rfl) rfl rfl ?_
  rintro _ _ _ ⟨rfl, rfl⟩
  refine SL.x (op_store ty34 rfl rfl (by repeat (first | exact AtO.here | apply AtO.there)) rfl rfl rfl) rfl rfl ?_
  rintro _ _ _ ⟨rfl, rfl⟩
  refine SL.x (op_store ty34 rfl rfl (by repeat (first | exact AtO.here | apply AtO.there)) rfl rfl rfl) rfl rfl ?_
  rintro _ _ _ ⟨rfl, rfl⟩
  refine SL.nil ?_
  refine T.seq ?_
  refine T.region ?_
  first | refine SL.y (op_load ty34 rfl (by repeat (first | exact AtO.here | apply AtO.there)) rfl) rfl rfl ?_ | refine SL.y (op_loadX ty34 rfl (by assumption) rfl) rfl rfl ?_
  first | refine SL.y (op_load ty34 rfl (by repeat (first | exact AtO.here | apply AtO.there)) rfl) rfl rfl ?_ | refine SL.y (op_loadX ty34 rfl (by assumption) rfl) rfl rfl ?_
  -- op
  refine SL.x (op_callF en30 (vs := [_, _, _]) rfl (pair_spec (op := 8) hA hB)) rfl rfl ?_
  rintro _ _ X4 ⟨rfl, hX4, rP, rfl, hP⟩
  obtain ⟨op, np, ap, bp, lp, cp, lp2, cp2, rfl⟩ := hP.form
  refine SL.x (op_buildSlice Tryd.underlying32 bs34 (qs := [(0, _)]) rfl rfl rfl rfl rfl) rfl rfl ?_
  rintro _ _ _ ⟨B12, rfl, rfl, rfl⟩
  refine SL.y (op_build st34 (qs := [(0, _), (3, _)]) rfl rfl) rfl rfl ?_
  refine SL.x (op_alloc z34) rfl rfl ?_
  rintro _ _ _ ⟨B4, rfl, rfl, rfl⟩
  refine SL.x (op_store ty34 rfl rfl (by repeat (first | exact AtO.here | apply AtO.there)) rfl rfl rfl) rfl rfl ?_
  rintro _ _ _ ⟨rfl, rfl⟩
  refine SL.nil ?_
  refine T.seq ?_
  refine T.region ?_
  refine SL.x (op_buildSlice Tryd.underlying24 bs9 (qs := [(0, _), (1, _)]) rfl rfl rfl rfl rfl) rfl rfl ?_
  rintro _ _ _ ⟨B14, rfl, rfl, rfl⟩
  refine SL.y (op_build st34 (qs := [(0, _), (2, _)]) rfl rfl) rfl rfl ?_
  refine SL.y (op_build st34 (qs := [(0, _), (1, _)]) rfl rfl) rfl rfl ?_
  -- op
  refine T.pubAt B12 (by repeat (first | exact AtO.here | apply AtO.there)) ?_
  intro X5 hX5 hB12 _
  refine T.pubAt B14 (by repeat (first | exact AtO.here | apply AtO.there)) ?_
  intro X6 hX6 hB14 _
  have hNot : ExR .u8 X6 eNot (.int .u8 ((7 : Nat) : Int), .int .i64 0, .slice none 0 0, .slice (some ⟨B12, 0, none⟩) 1 1) := .mk (rows := [(.int .u8 (op : Int), .int .i64 np, .slice ap lp cp, .slice bp lp2 cp2)]) (.inl ⟨rfl, _, _, rfl⟩) (.inr ⟨by simp, B12, 1, [], rfl, hB12.mono hX6, by simp, by decide⟩) rfl (fun i x r h h' => by
    match i, h, h' with
    | 0, h, h' => cases h; cases h'; exact (hP.mono hX5).mono hX6)
  have hCnt : ExR .u8 X6 (.mk 5 0 [⟨#[97]⟩, ⟨#[98]⟩] []) (.int .u8 ((5 : Nat) : Int), .int .i64 0, .slice (some ⟨B14, 0, none⟩) 2 2, .slice none 0 0) := .mk (rows := []) (.inr ⟨by simp, B14, 2, [], rfl, hB14, by simp, by decide⟩) (.inl ⟨rfl, _, _, rfl⟩) rfl (fun i a r h => by simp at h)
  have hNum : ExR .u8 X6 (.mk 1 1 [] []) (.int .u8 ((1 : Nat) : Int), .int .i64 1, .slice none 0 0, .slice none 0 0) := .mk (rows := []) (.inl ⟨rfl, _, _, rfl⟩) (.inl ⟨rfl, _, _, rfl⟩) rfl (fun i a r h => by simp at h)
  have hcall := pair_spec (op := 11) hCnt hNum
  simp only at hcall
  refine SL.x (op_callF en30 (vs := [_, _, _]) rfl (hcall)) rfl rfl ?_
  rintro _ _ X7 ⟨rfl, hX7, rL, rfl, hL⟩
  obtain ⟨ol, nl, al, bl, ll, cl, ll2, cl2, rfl⟩ := hL.form
  have hX47 := ((hX4.trans' hX5).trans' hX6).trans' hX7
  have hA := hA.mono hX47
  have hB := hB.mono hX47
  have hC := hC.mono hX47
  refine SL.x (op_alloc z34) rfl rfl ?_
  rintro _ _ _ ⟨B5, rfl, rfl, rfl⟩
  refine SL.x (op_store ty34 rfl rfl (by repeat (first | exact AtO.here | apply AtO.there)) rfl rfl rfl) rfl rfl ?_
  rintro _ _ _ ⟨rfl, rfl⟩
  refine SL.nil ?_
  refine T.seq ?_
  refine T.draw (by kernel_rfl) 34 [.t 0, .t 1, .t 2, .r 3, .r 4, .r 5, .t 6, .t 7, .t 8, .t 9, .t 10, .r 11, .r 12, .r 13, .t 14, .t 15, .t 16, .t 17, .r 18, .t 19, .t 20, .t 21, .t 22, .t 23, .r 24, .r 25, .t 26, .t 27, .t 28, .t 29, .r 30, .t 31, .t 32, .t 33] (by kernel_rfl) ?_
  first | refine SD.take rfl panicBody (op_load ty34 rfl (by repeat (first | exact AtO.here | apply AtO.there)) rfl) rfl rfl ?_ | refine SD.take rfl panicBody (op_loadX ty34 rfl (by assumption) rfl) rfl rfl ?_
  first | refine SD.take rfl panicBody (op_load ty34 rfl (by repeat (first | exact AtO.here | apply AtO.there)) rfl) rfl rfl ?_ | refine SD.take rfl panicBody (op_loadX ty34 rfl (by assumption) rfl) rfl rfl ?_
  first | refine SD.take rfl panicBody (op_load ty34 rfl (by repeat (first | exact AtO.here | apply AtO.there)) rfl) rfl rfl ?_ | refine SD.take rfl panicBody (op_loadX ty34 rfl (by assumption) rfl) rfl rfl ?_
  -- op
  have hc1 := pair_spec (op := 8) hB hC
  try simp only at hc1
  refine SD.run rfl (op_callF en30 (vs := [_, _, _]) rfl (hc1)) rfl rfl ?_
  rintro _ _ X8 ⟨rfl, hX8, r8, rfl, h8⟩
  obtain ⟨o8, n8, a8, b8, l8, c8, m8, d8, rfl⟩ := h8.form
  -- op
  have hc2 := pair_spec (op := 8) (hA.mono hX8) h8
  try simp only at hc2
  refine SD.run rfl (op_callF en30 (vs := [_, _, _]) rfl (hc2)) rfl rfl ?_
  rintro _ _ X9 ⟨rfl, hX9, r9, rfl, h9⟩
  obtain ⟨o9, n9, a9, b9, l9, c9, m9, d9, rfl⟩ := h9.form
  -- op
  have hc3 := eprint_spec hI (of_decide_eq_true (by kernel_rfl)) (fun _ => num10 (.inl rfl)) h9
  try simp only at hc3
  refine SD.run rfl (op_callF en26 (vs := [_]) rfl (hc3)) rfl rfl ?_
  rintro _ _ X10 ⟨rfl, hX10, rfl⟩
  rw [if_pos chk1, tx1]
  refine SD.take rfl panicBody (op_eqlStrD rfl rfl) rfl rfl ?_
  -- to 25: op
  rw [decide_eq_true rfl]
  have hX7A := (hX8.trans' hX9).trans' hX10
  refine SD.take rfl panicBody (op_move rfl) rfl rfl ?_
  first | refine SD.skip rfl panicBody rfl rfl ?_ | refine SD.take rfl panicBody (op_load ty34 rfl (by repeat (first | exact AtO.here | apply AtO.there)) rfl) rfl rfl ?_ | refine SD.take rfl panicBody (op_loadX ty34 rfl (by assumption) rfl) rfl rfl ?_
  first | refine SD.skip rfl panicBody rfl rfl ?_ | refine SD.take rfl panicBody (op_load ty34 rfl (by repeat (first | exact AtO.here | apply AtO.there)) rfl) rfl rfl ?_ | refine SD.take rfl panicBody (op_loadX ty34 rfl (by assumption) rfl) rfl rfl ?_
  first | refine SD.skip rfl panicBody rfl rfl ?_ | refine SD.take rfl panicBody (op_load ty34 rfl (by repeat (first | exact AtO.here | apply AtO.there)) rfl) rfl rfl ?_ | refine SD.take rfl panicBody (op_loadX ty34 rfl (by assumption) rfl) rfl rfl ?_
  -- op
  have hc4 := pair_spec (op := 10) (hB.mono hX7A) (hC.mono hX7A)
  try simp only at hc4
  refine SD.run rfl (op_callF en30 (vs := [_, _, _]) rfl (hc4)) rfl rfl ?_
  rintro _ _ X11 ⟨rfl, hX11, r11, rfl, h11⟩
  obtain ⟨o11, n11, a11, b11, l11, c11, m11, d11, rfl⟩ := h11.form
  -- op
  have hc5 := pair_spec (op := 10) ((hA.mono hX7A).mono hX11) h11
  try simp only at hc5
  refine SD.run rfl (op_callF en30 (vs := [_, _, _]) rfl (hc5)) rfl rfl ?_
  rintro _ _ X12 ⟨rfl, hX12, r12, rfl, h12⟩
  obtain ⟨o12, n12, a12, b12, l12, c12, m12, d12, rfl⟩ := h12.form
  -- op
  have hc6 := eprint_spec hI (of_decide_eq_true (by kernel_rfl)) (fun _ => num10 (.inr (.inl rfl))) h12
  try simp only at hc6
  refine SD.run rfl (op_callF en26 (vs := [_]) rfl (hc6)) rfl rfl ?_
  rintro _ _ X13 ⟨rfl, hX13, rfl⟩
  rw [if_pos chk2, tx2]
  first | refine SD.skip rfl panicBody rfl rfl ?_ | refine SD.take rfl panicBody (op_eqlStrD rfl rfl) rfl rfl ?_
  -- to 33: op
  rw [decide_eq_true rfl]
  have hX713 := ((hX7A.trans' hX11).trans' hX12).trans' hX13
  have hNot2 := (hNot.mono hX7).mono hX713
  first | refine SD.take rfl panicBody (op_pickT rfl rfl) rfl rfl ?_ | refine SD.take rfl panicBody (op_pickF rfl rfl) rfl rfl ?_ | refine SD.take rfl panicBody (op_pickB rfl rfl rfl) rfl rfl ?_
  refine SD.take rfl panicBody (op_move rfl) rfl rfl ?_
  first | refine SD.skip rfl panicBody rfl rfl ?_ | refine SD.take rfl panicBody (op_load ty34 rfl (by repeat (first | exact AtO.here | apply AtO.there)) rfl) rfl rfl ?_ | refine SD.take rfl panicBody (op_loadX ty34 rfl (by assumption) rfl) rfl rfl ?_
  -- op
  have hc7 := eprint_spec hI (of_decide_eq_true (by kernel_rfl)) (fun _ => num10 (.inr (.inr (.inl rfl)))) hNot2
  try simp only at hc7
  refine SD.run rfl (op_callF en26 (vs := [_]) rfl (hc7)) rfl rfl ?_
  rintro _ _ X14 ⟨rfl, hX14, rfl⟩
  rw [if_pos chk3, tx3]
  first | refine SD.skip rfl panicBody rfl rfl ?_ | refine SD.take rfl panicBody (op_eqlStrD rfl rfl) rfl rfl ?_
  -- to 38: op
  rw [decide_eq_true rfl]
  first | refine SD.take rfl panicBody (op_pickT rfl rfl) rfl rfl ?_ | refine SD.take rfl panicBody (op_pickF rfl rfl) rfl rfl ?_ | refine SD.take rfl panicBody (op_pickB rfl rfl rfl) rfl rfl ?_
  refine SD.take rfl panicBody (op_move rfl) rfl rfl ?_
  first | refine SD.skip rfl panicBody rfl rfl ?_ | refine SD.take rfl panicBody (op_load ty34 rfl (by repeat (first | exact AtO.here | apply AtO.there)) rfl) rfl rfl ?_ | refine SD.take rfl panicBody (op_loadX ty34 rfl (by assumption) rfl) rfl rfl ?_
  first | refine SD.skip rfl panicBody rfl rfl ?_ | refine SD.take rfl panicBody (op_build st61 (qs := [(0, _), (1, _), (2, _), (3, _)]) rfl rfl) rfl rfl ?_
  refine SD.run rfl (op_buildSlice Tryd.underlying42 bs61 (qs := [(0, _)]) rfl rfl rfl rfl rfl) rfl rfl ?_
  rintro _ _ _ ⟨B42, rfl, rfl, rfl⟩
  -- op
  refine SD.pub B42 (by repeat (first | exact AtO.here | apply AtO.there)) ?_
  intro X15 hX15 hB42 _
  have hCs : ConsR X15 (.slice (some ⟨B42, 0, none⟩) 1 1) [cSod] := ⟨[(true, 1, ⟨#[115, 111, 100]⟩, .int .u8 (ol : Int), .int .i64 nl, .slice al ll cl, .slice bl ll2 cl2)], .inr ⟨by simp, B42, 1, [], rfl, hB42, by simp, by decide⟩, rfl, fun i x r h h' => by
    match i, h, h' with
    | 0, h, h' => cases h; cases h'; exact ⟨rfl, rfl, rfl, ((hL.mono hX713).mono hX14).mono hX15⟩⟩
  have hc8 := cprint_spec hI hCs (by simp) (by simp) (of_decide_eq_true (by kernel_rfl)) (fun c hc => by rw [List.mem_singleton.1 hc]; exact of_decide_eq_true (by kernel_rfl)) (fun c hc _ => by rw [List.mem_singleton.1 hc]; exact num10 (.inr (.inr (.inr rfl))))
  try simp only at hc8
  refine SD.run rfl (op_callF en36 (vs := [_]) rfl (hc8)) rfl rfl ?_
  rintro _ _ X16 ⟨rfl, hX16, rfl⟩
  rw [if_pos chk5, tx4]
  first | refine SD.skip rfl panicBody rfl rfl ?_ | refine SD.take rfl panicBody (op_eqlStrD rfl rfl) rfl rfl ?_
  -- to 45: op
  rw [decide_eq_true rfl]
  first | refine SD.take rfl panicBody (op_pickT rfl rfl) rfl rfl ?_ | refine SD.take rfl panicBody (op_pickF rfl rfl) rfl rfl ?_ | refine SD.take rfl panicBody (op_pickB rfl rfl rfl) rfl rfl ?_
  refine SD.take rfl panicBody (op_move rfl) rfl rfl ?_
  first | refine SD.skip rfl panicBody rfl rfl ?_ | refine SD.take rfl panicBody (op_load ty34 rfl (by repeat (first | exact AtO.here | apply AtO.there)) rfl) rfl rfl ?_ | refine SD.take rfl panicBody (op_loadX ty34 rfl (by assumption) rfl) rfl rfl ?_
  -- op
  have hc9 := depth_spec _ (Nat.le_refl _) (of_decide_eq_true (by kernel_rfl)) (((hNot2.mono hX14).mono hX15).mono hX16)
  try simp only at hc9
  refine SD.run rfl (op_callF en22 (vs := [_]) rfl (hc9)) rfl rfl ?_
  rintro _ _ X17 ⟨rfl, hX17, rfl⟩
  rw [show depE eNot = 3 by kernel_rfl]
  first | refine SD.skip rfl panicBody rfl rfl ?_ | refine SD.take rfl panicBody (op_eqlT rfl rfl (by omega)) rfl rfl ?_ | refine SD.take rfl panicBody (op_eqlF rfl rfl (by omega)) rfl rfl ?_ | refine SD.take rfl panicBody (op_eql rfl rfl) rfl rfl ?_
  first | refine SD.take rfl panicBody (op_pickT rfl rfl) rfl rfl ?_ | refine SD.take rfl panicBody (op_pickF rfl rfl) rfl rfl ?_ | refine SD.take rfl panicBody (op_pickB rfl rfl rfl) rfl rfl ?_
  refine SD.take rfl panicBody (op_assign rfl) rfl rfl ?_
  refine SD.nil ?_
  show SL _ _ _ _ _ _ _ [] _ _ _
  refine SL.nil ?_
  -- ret
  refine T.ret1 rfl (ResIs.tmp rfl) ?_
  rfl
end Go.Proofs.YtaooojjhlngcmaaDoor
