/- What the law's proof rests on: the engine, a small separation logic over the kit's walk, and contracts of the functions that the law reaches. Part 6. -/
import Derived.Test.YtnabbnhefjfegaaGreatDoorPart1
import Derived.Test.YtnabbnhefjfegaaGreatDoorPart2
import Derived.Test.YtnabbnhefjfegaaGreatDoorPart3
import Derived.Test.YtnabbnhefjfegaaGreatDoorPart4
import Derived.Test.YtnabbnhefjfegaaGreatDoorPart5
namespace Go.Proofs.YtnabbnhefjfegaaGreatDoor
section
set_option maxRecDepth 100000
theorem en104 : Enters Tryz.prog 104 := enters_mk Tryz.func104 (by kernel_rfl) rfl
theorem en141 : Enters Tryz.prog 141 := enters_mk Tryz.func141 (by kernel_rfl) rfl
theorem en155 : Enters Tryz.prog 155 := enters_mk Tryz.func155 (by kernel_rfl) rfl
theorem en193 : Enters Tryz.prog 193 := enters_mk Tryz.func193 (by kernel_rfl) rfl
end
open Go.RowKit
theorem rtwo_spec {X : PMap} {op : Nat} {a b : Ex} {r r' : Row4} (ha : ExR .i64 X a r) (hb : ExR .i64 X b r') : Spec Tryz.prog 104 [.int .i64 (op : Int), .agg #[r.1, r.2.1, r.2.2.1, r.2.2.2], .agg #[r'.1, r'.2.1, r'.2.2.1, r'.2.2.2]] X fun u X' => ∃ r2 : Row4, u = .agg #[r2.1, r2.2.1, r2.2.2.1, r2.2.2.2] ∧ ExR .i64 X' (two op a b) r2 := by
  refine Spec.enter Tryz.func104 rfl Tryz.ntmps104 rfl ?_
  intro w0 hw0
  refine T.seq <| T.region <| SL.w (op_box rfl) ?_
  rintro _ _ _ ⟨B4, rfl, rfl, rfl⟩
  refine SL.w (op_box rfl) ?_
  rintro _ _ _ ⟨B5, rfl, rfl, rfl⟩
  refine SL.w (op_alloc z45) ?_
  rintro _ _ _ ⟨B6, rfl, rfl, rfl⟩
  refine SL.nil <| T.seq <| T.region <| SL.mv rfl <| SL.v (op_load ty45 rfl (by repeat constructor) rfl) ?_
  refine SL.v (op_load ty45 rfl (by repeat constructor) rfl) ?_
  refine SL.w (op_buildSlice Tryz.underlying43 bs45 (qs := [(0, _), (1, _)]) rfl rfl rfl rfl rfl) ?_
  rintro _ _ _ ⟨B10, rfl, rfl, rfl⟩
  refine SL.v (op_build st45 (qs := [(0, _), (3, _)]) rfl rfl) <| SL.w (op_store ty45 rfl rfl (by repeat constructor) rfl rfl rfl) ?_
  rintro _ _ _ ⟨rfl, rfl⟩
  refine SL.nil <| T.pub B10 (by repeat constructor) ?_
  intro X1 hX1 hB10 _
  refine T.ret1 rfl (ResIs.cell rfl ty45 (by repeat constructor) rfl) ?_
  exact ⟨(_, _, _, _), rfl, .mk (.inl ⟨rfl, _, _, rfl⟩) (rows := [r, r']) (.inr ⟨by simp, B10, 2, [], rfl, hB10, by simp, by decide⟩) rfl fun i x y hx hy => by
    match i with
    | 0 => cases hx; cases hy; exact ha.mono hX1
    | 1 => cases hx; cases hy; exact hb.mono hX1
    | i + 2 => cases hx⟩
/-- A function of the specification's parser reads as p does. -/
def SpecQ (P : Program) (g : FuncId) (p : ParP) (f : Nat) : Prop :=
  ∀ {X : PMap} {v : Value} {ts : List Tk} {rb i off : Nat} {e : Int} {st : RSt}, TksI X v ts → RdS ts st i off e → (∀ l, st = .ok l → l.length < f) →
    SpecI P g [.pointer (some ⟨rb, 0, none⟩)] X ts rb v i off e fun u st' X' => ∃ (ex : Ex) (r : Row4), u = .agg #[r.1, r.2.1, r.2.2.1, r.2.2.2] ∧ ExR .i64 X' ex r ∧ Out (runM p st) st' ex ∧ Sh st st'
abbrev I0 (b : Nat) : Ow := ⟨b, [.int .i64 0, .int .i64 0, .slice none 0 0, .slice none 0 0], 45, 4⟩
abbrev IOw (b : Nat) (r : Row4) : Ow := ⟨b, [r.1, r.2.1, r.2.2.1, r.2.2.2], 45, 4⟩
theorem rsum_spec {f : Nat} {p : ParP} (hg : SpecQ Tryz.prog 193 p f) : SpecQ Tryz.prog 181 (leftP wPlus 16 p) f := by
  intro X v ts rb i off e st hT hS hf
  refine SpecM.enter Tryz.func181 rfl Tryz.ntmps181 rfl ?_
  intro w0 X0 own0
  refine T.seq <| T.region <| SL.w (op_alloc z45) ?_
  rintro _ _ _ ⟨B2, rfl, rfl, rfl⟩
  refine SL.nil <| T.seq <| T.region <| SL.mv rfl <| SL.w (op_callJ en193 rfl (vs := [_]) rfl (hg hT hS hf) (by repeat constructor)) ?_
  rintro _ _ X1 ⟨_, rfl, hX1, i1, off1, e1, sa, rfl, hS1, x0, q0, rfl, hx0, hO0, hsh0⟩
  obtain ⟨o0, n0, a0, b0, l0, c0, m0, d0, rfl⟩ := hx0.form
  refine SL.w (op_alloc z45) ?_
  rintro _ _ _ ⟨B3, rfl, rfl, rfl⟩
  refine SL.w (op_store ty45 rfl rfl (by repeat constructor) rfl rfl rfl) ?_
  rintro _ _ _ ⟨rfl, rfl⟩
  refine SL.nil <| T.seq <| T.block <| T.loopW (fun m env own X' => ∃ (x : Ex) (r : Row4) (i off : Nat) (e : Int) (sa : RSt) (k : Nat), m = lenS sa ∧ X1.le X' ∧ RdS ts sa i off e ∧ Sh st sa ∧ ExR .i64 X' x r ∧ lenS sa ≤ k ∧ runM (leftP wPlus 16 p) st = runM (fun l => leftG wPlus 16 p k x l) sa ∧ env = [(0, .pointer (some ⟨rb, 0, none⟩)), (2, .pointer (some ⟨B2, 0, none⟩)), (3, .pointer (some ⟨B3, 0, none⟩))] ∧ own = IOw B3 r :: I0 B2 :: RdI rb v i off e :: own0) (lenS sa) ⟨x0, (_, _, _, _), i1, off1, e1, sa, lenS sa, rfl, PMap.le_refl _, hS1, hsh0, hx0, Nat.le_refl _, leftP_start hO0, rfl, rfl⟩ (by repeat (first | exact Sub.nil | refine Sub.cons rfl ?_)) ?_
  rintro m _ _ X2 ⟨x, q, i2, off2, e2, sb, k, rfl, hX2, hS2, hsh2, hx, hk, heq, rfl, rfl⟩
  obtain ⟨o1, n1, a1, b1, l1, c1, m1, d1, rfl⟩ := hx.form
  have hT := (hT.mono hX1).mono hX2
  refine T.seq <| T.seq <| T.region <| SL.mv rfl <| SL.w (op_callJ en103 rfl (vs := [_, _]) rfl (racc_spec hT hS2) (by repeat constructor)) ?_
  rintro _ _ X3 ⟨_, rfl, hX3, i3, off3, e3, _, rfl, hS3, rfl, rfl⟩
  have hT := hT.mono hX3
  cases ha : (accM wPlus sb).1 with
  | true =>
    have hdec := accM_dec ha
    obtain ⟨k, rfl⟩ : ∃ q, k = q + 1 := ⟨k - 1, by omega⟩
    have hsh3 := hsh2.trans (accM_sh (w := wPlus))
    refine SL.nil <| T.condT rfl <| T.skip <| T.block <| T.drawG (own0 := [_, _]) (by kernel_rfl) 4 [.t 0, .t 1, .r 2, .r 3] (by kernel_rfl) ?_
    refine SD.take rfl panicBody (op_load ty45 rfl (by repeat constructor) rfl) rfl rfl ?_
    refine SD.take rfl panicBody (op_move rfl) rfl rfl ?_
    refine SD.runK rfl (op_callJ en193 rfl (vs := [_]) rfl (hg hT hS3 (hsh3.lt hf)) (.there (.there .here))) (by rintro _ _ _ ⟨_, rfl, hX4, _⟩; exact ⟨keep2, hX4⟩) rfl rfl ?_
    rintro _ _ X4 ⟨_, rfl, hX4, i4, off4, e4, sc, rfl, hS4, y, q4, rfl, hy, hO4, hsh4⟩
    obtain ⟨o4, n4, a4, b4, l4, c4, m4, d4, rfl⟩ := hy.form
    have hc := rtwo_spec (op := 16) ((hx.mono hX3).mono hX4) hy
    try simp only at hc
    refine SD.run rfl (op_callF en104 (vs := [_, _, _]) rfl (hc)) rfl rfl ?_
    rintro _ _ X5 ⟨rfl, hX5, q5, rfl, hq5⟩
    refine SD.nil ?_
    show SL _ _ _ _ _ _ _ [_] _ _ _
    obtain ⟨o5, n5, a5, b5, l5, c5, m5, d5, rfl⟩ := hq5.form
    have hd4 : lenS sc ≤ lenS (accM wPlus sb).2 := hsh4.len
    refine SL.w (op_store ty45 rfl rfl (by repeat constructor) rfl rfl rfl) ?_
    rintro _ _ _ ⟨rfl, rfl⟩
    refine SL.nil <| T.blk ?_
    exact T.backW (lenS sc) (by omega) ⟨two 16 x y, (_, _, _, _), i4, off4, e4, sc, k, rfl, ((hX2.trans' hX3).trans' hX4).trans' hX5, hS4, hsh3.trans hsh4, hq5, by omega, by rw [heq]; exact leftG_more ha hO4, rfl, rfl⟩ (by repeat (first | exact Sub.nil | refine Sub.cons rfl ?_))
  | false =>
    rw [accM_same ha] at hS3
    refine SL.nil <| T.condF rfl ?_
    refine T.exit (T.exitCode (T.exitCut (T.exitBlk ?_)))
    refine T.seq <| T.region <| SL.v (op_load ty45 rfl (by repeat constructor) rfl) ?_
    refine SL.w (op_store ty45 rfl rfl (by repeat constructor) rfl rfl rfl) ?_
    rintro _ _ _ ⟨rfl, rfl⟩
    refine SL.nil <| T.drop B3 (by repeat constructor) ?_
    refine T.retM1S [_] _ rfl (ResIs.cell rfl ty45 (by repeat constructor) rfl) (List.sublist_cons_self _ _) (List.Perm.refl _) ?_
    exact ⟨(hX1.trans' hX2).trans' hX3, _, rfl, i3, off3, e3, sb, rfl, hS3, x, (_, _, _, _), rfl, hx.mono hX3, by rw [heq]; exact leftG_halt ha, hsh2⟩
theorem rconj_spec {f : Nat} {p : ParP} (hg : SpecQ Tryz.prog 155 p f) : SpecQ Tryz.prog 141 (leftP wAnd 8 p) f := by
  intro X v ts rb i off e st hT hS hf
  refine SpecM.enter Tryz.func141 rfl Tryz.ntmps141 rfl ?_
  intro w0 X0 own0
  refine T.seq <| T.region <| SL.w (op_alloc z45) ?_
  rintro _ _ _ ⟨B2, rfl, rfl, rfl⟩
  refine SL.nil <| T.seq <| T.region <| SL.mv rfl <| SL.w (op_callJ en155 rfl (vs := [_]) rfl (hg hT hS hf) (by repeat constructor)) ?_
  rintro _ _ X1 ⟨_, rfl, hX1, i1, off1, e1, sa, rfl, hS1, x0, q0, rfl, hx0, hO0, hsh0⟩
  obtain ⟨o0, n0, a0, b0, l0, c0, m0, d0, rfl⟩ := hx0.form
  refine SL.w (op_alloc z45) ?_
  rintro _ _ _ ⟨B3, rfl, rfl, rfl⟩
  refine SL.w (op_store ty45 rfl rfl (by repeat constructor) rfl rfl rfl) ?_
  rintro _ _ _ ⟨rfl, rfl⟩
  refine SL.nil <| T.seq <| T.block <| T.loopW (fun m env own X' => ∃ (x : Ex) (r : Row4) (i off : Nat) (e : Int) (sa : RSt) (k : Nat), m = lenS sa ∧ X1.le X' ∧ RdS ts sa i off e ∧ Sh st sa ∧ ExR .i64 X' x r ∧ lenS sa ≤ k ∧ runM (leftP wAnd 8 p) st = runM (fun l => leftG wAnd 8 p k x l) sa ∧ env = [(0, .pointer (some ⟨rb, 0, none⟩)), (2, .pointer (some ⟨B2, 0, none⟩)), (3, .pointer (some ⟨B3, 0, none⟩))] ∧ own = IOw B3 r :: I0 B2 :: RdI rb v i off e :: own0) (lenS sa) ⟨x0, (_, _, _, _), i1, off1, e1, sa, lenS sa, rfl, PMap.le_refl _, hS1, hsh0, hx0, Nat.le_refl _, leftP_start hO0, rfl, rfl⟩ (by repeat (first | exact Sub.nil | refine Sub.cons rfl ?_)) ?_
  rintro m _ _ X2 ⟨x, q, i2, off2, e2, sb, k, rfl, hX2, hS2, hsh2, hx, hk, heq, rfl, rfl⟩
  obtain ⟨o1, n1, a1, b1, l1, c1, m1, d1, rfl⟩ := hx.form
  have hT := (hT.mono hX1).mono hX2
  refine T.seq <| T.seq <| T.region <| SL.mv rfl <| SL.w (op_callJ en103 rfl (vs := [_, _]) rfl (racc_spec hT hS2) (by repeat constructor)) ?_
  rintro _ _ X3 ⟨_, rfl, hX3, i3, off3, e3, _, rfl, hS3, rfl, rfl⟩
  have hT := hT.mono hX3
  cases ha : (accM wAnd sb).1 with
  | true =>
    have hdec := accM_dec ha
    obtain ⟨k, rfl⟩ : ∃ q, k = q + 1 := ⟨k - 1, by omega⟩
    have hsh3 := hsh2.trans (accM_sh (w := wAnd))
    refine SL.nil <| T.condT rfl <| T.skip <| T.block <| T.drawG (own0 := [_, _]) (by kernel_rfl) 4 [.t 0, .t 1, .r 2, .r 3] (by kernel_rfl) ?_
    refine SD.take rfl panicBody (op_load ty45 rfl (by repeat constructor) rfl) rfl rfl ?_
    refine SD.take rfl panicBody (op_move rfl) rfl rfl ?_
    refine SD.runK rfl (op_callJ en155 rfl (vs := [_]) rfl (hg hT hS3 (hsh3.lt hf)) (.there (.there .here))) (by rintro _ _ _ ⟨_, rfl, hX4, _⟩; exact ⟨keep2, hX4⟩) rfl rfl ?_
    rintro _ _ X4 ⟨_, rfl, hX4, i4, off4, e4, sc, rfl, hS4, y, q4, rfl, hy, hO4, hsh4⟩
    obtain ⟨o4, n4, a4, b4, l4, c4, m4, d4, rfl⟩ := hy.form
    have hc := rtwo_spec (op := 8) ((hx.mono hX3).mono hX4) hy
    try simp only at hc
    refine SD.run rfl (op_callF en104 (vs := [_, _, _]) rfl (hc)) rfl rfl ?_
    rintro _ _ X5 ⟨rfl, hX5, q5, rfl, hq5⟩
    refine SD.nil ?_
    show SL _ _ _ _ _ _ _ [_] _ _ _
    obtain ⟨o5, n5, a5, b5, l5, c5, m5, d5, rfl⟩ := hq5.form
    have hd4 : lenS sc ≤ lenS (accM wAnd sb).2 := hsh4.len
    refine SL.w (op_store ty45 rfl rfl (by repeat constructor) rfl rfl rfl) ?_
    rintro _ _ _ ⟨rfl, rfl⟩
    refine SL.nil <| T.blk ?_
    exact T.backW (lenS sc) (by omega) ⟨two 8 x y, (_, _, _, _), i4, off4, e4, sc, k, rfl, ((hX2.trans' hX3).trans' hX4).trans' hX5, hS4, hsh3.trans hsh4, hq5, by omega, by rw [heq]; exact leftG_more ha hO4, rfl, rfl⟩ (by repeat (first | exact Sub.nil | refine Sub.cons rfl ?_))
  | false =>
    rw [accM_same ha] at hS3
    refine SL.nil <| T.condF rfl ?_
    refine T.exit (T.exitCode (T.exitCut (T.exitBlk ?_)))
    refine T.seq <| T.region <| SL.v (op_load ty45 rfl (by repeat constructor) rfl) ?_
    refine SL.w (op_store ty45 rfl rfl (by repeat constructor) rfl rfl rfl) ?_
    rintro _ _ _ ⟨rfl, rfl⟩
    refine SL.nil <| T.drop B3 (by repeat constructor) ?_
    refine T.retM1S [_] _ rfl (ResIs.cell rfl ty45 (by repeat constructor) rfl) (List.sublist_cons_self _ _) (List.Perm.refl _) ?_
    exact ⟨(hX1.trans' hX2).trans' hX3, _, rfl, i3, off3, e3, sb, rfl, hS3, x, (_, _, _, _), rfl, hx.mono hX3, by rw [heq]; exact leftG_halt ha, hsh2⟩
theorem rdisj_spec {f : Nat} {p : ParP} (hg : SpecQ Tryz.prog 141 p f) : SpecQ Tryz.prog 102 (leftP wOr 9 p) f := by
  intro X v ts rb i off e st hT hS hf
  refine SpecM.enter Tryz.func102 rfl Tryz.ntmps102 rfl ?_
  intro w0 X0 own0
  refine T.seq <| T.region <| SL.w (op_alloc z45) ?_
  rintro _ _ _ ⟨B2, rfl, rfl, rfl⟩
  refine SL.nil <| T.seq <| T.region <| SL.mv rfl <| SL.w (op_callJ en141 rfl (vs := [_]) rfl (hg hT hS hf) (by repeat constructor)) ?_
  rintro _ _ X1 ⟨_, rfl, hX1, i1, off1, e1, sa, rfl, hS1, x0, q0, rfl, hx0, hO0, hsh0⟩
  obtain ⟨o0, n0, a0, b0, l0, c0, m0, d0, rfl⟩ := hx0.form
  refine SL.w (op_alloc z45) ?_
  rintro _ _ _ ⟨B3, rfl, rfl, rfl⟩
  refine SL.w (op_store ty45 rfl rfl (by repeat constructor) rfl rfl rfl) ?_
  rintro _ _ _ ⟨rfl, rfl⟩
  refine SL.nil <| T.seq <| T.block <| T.loopW (fun m env own X' => ∃ (x : Ex) (r : Row4) (i off : Nat) (e : Int) (sa : RSt) (k : Nat), m = lenS sa ∧ X1.le X' ∧ RdS ts sa i off e ∧ Sh st sa ∧ ExR .i64 X' x r ∧ lenS sa ≤ k ∧ runM (leftP wOr 9 p) st = runM (fun l => leftG wOr 9 p k x l) sa ∧ env = [(0, .pointer (some ⟨rb, 0, none⟩)), (2, .pointer (some ⟨B2, 0, none⟩)), (3, .pointer (some ⟨B3, 0, none⟩))] ∧ own = IOw B3 r :: I0 B2 :: RdI rb v i off e :: own0) (lenS sa) ⟨x0, (_, _, _, _), i1, off1, e1, sa, lenS sa, rfl, PMap.le_refl _, hS1, hsh0, hx0, Nat.le_refl _, leftP_start hO0, rfl, rfl⟩ (by repeat (first | exact Sub.nil | refine Sub.cons rfl ?_)) ?_
  rintro m _ _ X2 ⟨x, q, i2, off2, e2, sb, k, rfl, hX2, hS2, hsh2, hx, hk, heq, rfl, rfl⟩
  obtain ⟨o1, n1, a1, b1, l1, c1, m1, d1, rfl⟩ := hx.form
  have hT := (hT.mono hX1).mono hX2
  refine T.seq <| T.seq <| T.region <| SL.mv rfl <| SL.w (op_callJ en103 rfl (vs := [_, _]) rfl (racc_spec hT hS2) (by repeat constructor)) ?_
  rintro _ _ X3 ⟨_, rfl, hX3, i3, off3, e3, _, rfl, hS3, rfl, rfl⟩
  have hT := hT.mono hX3
  cases ha : (accM wOr sb).1 with
  | true =>
    have hdec := accM_dec ha
    obtain ⟨k, rfl⟩ : ∃ q, k = q + 1 := ⟨k - 1, by omega⟩
    have hsh3 := hsh2.trans (accM_sh (w := wOr))
    refine SL.nil <| T.condT rfl <| T.skip <| T.block <| T.drawG (own0 := [_, _]) (by kernel_rfl) 4 [.t 0, .t 1, .r 2, .r 3] (by kernel_rfl) ?_
    refine SD.take rfl panicBody (op_load ty45 rfl (by repeat constructor) rfl) rfl rfl ?_
    refine SD.take rfl panicBody (op_move rfl) rfl rfl ?_
    refine SD.runK rfl (op_callJ en141 rfl (vs := [_]) rfl (hg hT hS3 (hsh3.lt hf)) (.there (.there .here))) (by rintro _ _ _ ⟨_, rfl, hX4, _⟩; exact ⟨keep2, hX4⟩) rfl rfl ?_
    rintro _ _ X4 ⟨_, rfl, hX4, i4, off4, e4, sc, rfl, hS4, y, q4, rfl, hy, hO4, hsh4⟩
    obtain ⟨o4, n4, a4, b4, l4, c4, m4, d4, rfl⟩ := hy.form
    have hc := rtwo_spec (op := 9) ((hx.mono hX3).mono hX4) hy
    try simp only at hc
    refine SD.run rfl (op_callF en104 (vs := [_, _, _]) rfl (hc)) rfl rfl ?_
    rintro _ _ X5 ⟨rfl, hX5, q5, rfl, hq5⟩
    refine SD.nil ?_
    show SL _ _ _ _ _ _ _ [_] _ _ _
    obtain ⟨o5, n5, a5, b5, l5, c5, m5, d5, rfl⟩ := hq5.form
    have hd4 : lenS sc ≤ lenS (accM wOr sb).2 := hsh4.len
    refine SL.w (op_store ty45 rfl rfl (by repeat constructor) rfl rfl rfl) ?_
    rintro _ _ _ ⟨rfl, rfl⟩
    refine SL.nil <| T.blk ?_
    exact T.backW (lenS sc) (by omega) ⟨two 9 x y, (_, _, _, _), i4, off4, e4, sc, k, rfl, ((hX2.trans' hX3).trans' hX4).trans' hX5, hS4, hsh3.trans hsh4, hq5, by omega, by rw [heq]; exact leftG_more ha hO4, rfl, rfl⟩ (by repeat (first | exact Sub.nil | refine Sub.cons rfl ?_))
  | false =>
    rw [accM_same ha] at hS3
    refine SL.nil <| T.condF rfl ?_
    refine T.exit (T.exitCode (T.exitCut (T.exitBlk ?_)))
    refine T.seq <| T.region <| SL.v (op_load ty45 rfl (by repeat constructor) rfl) ?_
    refine SL.w (op_store ty45 rfl rfl (by repeat constructor) rfl rfl rfl) ?_
    rintro _ _ _ ⟨rfl, rfl⟩
    refine SL.nil <| T.drop B3 (by repeat constructor) ?_
    refine T.retM1S [_] _ rfl (ResIs.cell rfl ty45 (by repeat constructor) rfl) (List.sublist_cons_self _ _) (List.Perm.refl _) ?_
    exact ⟨(hX1.trans' hX2).trans' hX3, _, rfl, i3, off3, e3, sb, rfl, hS3, x, (_, _, _, _), rfl, hx.mono hX3, by rw [heq]; exact leftG_halt ha, hsh2⟩
end Go.Proofs.YtnabbnhefjfegaaGreatDoor
namespace Go.Proofs.YtnabbnhefjfegaaGreatDoor
section
set_option maxRecDepth 100000
theorem en181 : Enters Tryz.prog 181 := enters_mk Tryz.func181 (by kernel_rfl) rfl
end
open Go.RowKit
def cmpW : List ByteArray := cmps.map (·.1)
theorem cmpW_at {q : Nat} {w : ByteArray} (h : cmpW[q]? = some w) : cmps[q]? = some (w, 11 + q) := by
  match q with
  | 0 => cases h; rfl
  | 1 => cases h; rfl
  | 2 => cases h; rfl
  | 3 => cases h; rfl
  | 4 => cases h; rfl
  | q + 5 => simp [cmpW, cmps] at h
theorem rcomparison_spec {f : Nat} {p : ParP} (hp : SpecQ Tryz.prog 193 p f) : SpecQ Tryz.prog 163 (cmpP p) f := by
  intro X v ts rb i off e st hT hS hf
  have h5 : cmpW.length = 5 := rfl
  refine SpecM.enter Tryz.func163 rfl Tryz.ntmps163 rfl ?_
  intro w0 X0 own0
  refine T.seq <| T.region <| SL.w (op_alloc z45) ?_
  rintro _ _ _ ⟨B2, rfl, rfl, rfl⟩
  refine SL.nil <| T.seq <| T.region <| SL.mv rfl <| SL.w (op_callJ en181 rfl (vs := [_]) rfl (rsum_spec hp hT hS hf) (by repeat constructor)) ?_
  rintro _ _ X1 ⟨_, rfl, hX1, i1, off1, e1, sa, rfl, hS1, x, q, rfl, hx, hO, hsh⟩
  obtain ⟨o9, n9, a9, b9, l9, c9, m9, d9, rfl⟩ := hx.form
  have hT := hT.mono hX1
  have hrun := cmpP_run hO
  refine SL.w (op_alloc z45) ?_
  rintro _ _ _ ⟨B3, rfl, rfl, rfl⟩
  refine SL.w (op_store ty45 rfl rfl (by repeat constructor) rfl rfl rfl) ?_
  rintro _ _ _ ⟨rfl, rfl⟩
  refine SL.nil <| T.seq <| T.seq <| T.region <| SL.w (op_buildSlice Tryz.underlying37 bs9 (qs := [(0, _), (1, _), (2, _), (3, _), (4, _)]) rfl rfl rfl rfl rfl) ?_
  rintro _ _ _ ⟨B8, rfl, rfl, rfl⟩
  refine SL.v (op_lenS Tryz.underlying37 rfl) <| SL.v (op_move (v := .int .i64 ((0 : Nat) : Int)) rfl) <| SL.nil <| T.block <| T.pub B8 (by repeat constructor) ?_
  intro X2 hX2 hB8 _
  have hbA : Blk X2 B8 ([] ++ (cmpW.map strC).flatten) := hB8
  refine T.loopW (fun m env own X' => ∃ (q : Nat) (i off : Nat) (e : Int), m = cmpW.length - q ∧ q ≤ cmpW.length ∧ X2.le X' ∧ RdS ts sa i off e ∧ (∀ d ∈ cmps.take q, (accM d.1 sa).1 = false) ∧ env = [(0, .pointer (some ⟨rb, 0, none⟩)), (2, .pointer (some ⟨B2, 0, none⟩)), (3, .pointer (some ⟨B3, 0, none⟩)), (8, .slice (some ⟨B8, 0, none⟩) cmpW.length 5), (9, .int .i64 (cmpW.length : Int)), (10, .int .i64 (q : Int))] ∧ own = IOw B3 (.int .i64 (o9 : Int), .int .i64 n9, .slice a9 l9 c9, .slice b9 m9 d9) :: I0 B2 :: RdI rb v i off e :: own0) cmpW.length ⟨0, i1, off1, e1, rfl, by omega, PMap.le_refl _, hS1, fun d h => by simp at h, rfl, rfl⟩ (by repeat (first | exact Sub.nil | refine Sub.cons rfl ?_)) ?_
  rintro m _ _ X3 ⟨q, i3, off3, e3, rfl, hq, hX3, hS3, hno, rfl, rfl⟩
  have hT := (hT.mono hX2).mono hX3
  rcases Nat.lt_or_ge q cmpW.length with hql | hql
  · obtain ⟨w, hw⟩ : ∃ w, cmpW[q]? = some w := ⟨_, List.getElem?_eq_getElem hql⟩
    have hcw := cmpW_at hw
    refine T.seq <| T.region <| SL.v (op_lssT rfl rfl (by omega)) ?_
    refine SL.nil <| T.seq <| T.condT rfl <| T.skip <| T.seq <| T.block <| T.seq <| T.region <| SL.mv rfl <| SL.v (op_indexN Tryz.underlying37 ty9 rfl rfl (by omega)) ?_
    refine SL.v (op_loadX ty9 rfl (hbA.mono hX3) (str_read hw (by simp))) ?_
    refine SL.as rfl <| SL.as rfl <| SL.nil <| T.seq <| T.region <| SL.mv rfl <| SL.mv rfl <| SL.w (op_callJ en103 rfl (vs := [_, _]) rfl (racc_spec hT hS3) (by repeat constructor)) ?_
    rintro _ _ X4 ⟨_, rfl, hX4, i4, off4, e4, _, rfl, hS4, rfl, rfl⟩
    have hT := hT.mono hX4
    cases ha : (accM w sa).1 with
    | true =>
      have hsplit : cmps = cmps.take q ++ (w, 11 + q) :: cmps.drop (q + 1) := by
        obtain ⟨g1, g2⟩ := List.getElem?_eq_some_iff.1 hcw
        rw [← g2, ← List.drop_eq_getElem_cons g1, List.take_append_drop]
      have ho := oprM_hit hsplit hno ha
      rw [ho] at hrun
      simp only at hrun
      have hsh2 := hsh.trans (accM_sh (w := w))
      refine SL.nil <| T.condT rfl <| T.seq <| T.drawG (own0 := [_, _]) (by kernel_rfl) 6 [.t 0, .t 1, .t 2, .t 3, .r 4, .r 5] (by kernel_rfl) ?_
      refine SD.take rfl panicBody (op_move rfl) rfl rfl ?_
      refine SD.take rfl panicBody (op_addN (p := 11) (q := q) rfl rfl (by omega)) rfl rfl ?_
      refine SD.take rfl panicBody (op_load ty45 rfl (by repeat constructor) rfl) rfl rfl ?_
      refine SD.take rfl panicBody (op_move rfl) rfl rfl ?_
      refine SD.runK rfl (op_callJ en181 rfl (vs := [_]) rfl (rsum_spec hp hT hS4 (hsh2.lt hf)) (.there (.there .here))) (by rintro _ _ _ ⟨_, rfl, hX5, _⟩; exact ⟨keep2, hX5⟩) rfl rfl ?_
      rintro _ _ X5 ⟨_, rfl, hX5, i5, off5, e5, sc, rfl, hS5, y, q5, rfl, hy, hO5, hsh5⟩
      obtain ⟨o4, n4, a4, b4, l4, c4, m4, d4, rfl⟩ := hy.form
      have hO5 : Out (runM (sumP p) (accM w sa).2) sc y := hO5
      have hc := rtwo_spec (op := 11 + q) ((((hx.mono hX2).mono hX3).mono hX4).mono hX5) hy
      try simp only at hc
      refine SD.run rfl (op_callF en104 (vs := [_, _, _]) rfl (hc)) rfl rfl ?_
      rintro _ _ X6 ⟨rfl, hX6, q6, rfl, hq6⟩
      refine SD.nil ?_
      show SL _ _ _ _ _ _ _ [_] _ _ _
      obtain ⟨o5, n5, a5, b5, l5, c5, m5, d5, rfl⟩ := hq6.form
      refine SL.w (op_store ty45 rfl rfl (by repeat constructor) rfl rfl rfl) ?_
      rintro _ _ _ ⟨rfl, rfl⟩
      refine SL.nil <| T.retM1S [_] _ rfl (ResIs.cell rfl ty45 (by repeat constructor) rfl) (.cons _ (.cons _ (.refl _))) (List.Perm.refl _) ?_
      exact ⟨((((hX1.trans' hX2).trans' hX3).trans' hX4).trans' hX5).trans' hX6, _, rfl, i5, off5, e5, sc, rfl, hS5, two (11 + q) x y, (_, _, _, _), rfl, hq6, by rw [hrun, runM_par hO5]; exact out_ok rfl, hsh2.trans hsh5⟩
    | false =>
      rw [accM_same ha] at hS4
      have hta : cmps.take (q + 1) = cmps.take q ++ [(w, 11 + q)] := by rw [List.take_add_one, hcw]; rfl
      have hno2 : ∀ d ∈ cmps.take (q + 1), (accM d.1 sa).1 = false := fun d hd => by
        rw [hta] at hd
        rcases List.mem_append.1 hd with h | h
        · exact hno d h
        · rw [List.mem_singleton.1 h]; exact ha
      refine SL.nil <| T.condF rfl <| T.skip <| T.blk <| T.region <| SL.v (op_addN (q := 1) rfl rfl (by omega)) ?_
      refine SL.mv rfl <| SL.nil ?_
      exact T.backW (cmpW.length - (q + 1)) (by omega) ⟨q + 1, i4, off4, e4, rfl, by omega, hX3.trans' hX4, hS4, hno2, rfl, rfl⟩ (by repeat (first | exact Sub.nil | refine Sub.cons rfl ?_))
  · have ho := oprM_miss (st := sa) (fun d hd => hno d (by rw [List.take_of_length_le (by simpa [cmpW] using hql)]; exact hd))
    rw [ho] at hrun
    refine T.seq <| T.region <| SL.v (op_lssF rfl rfl (by omega)) ?_
    refine SL.nil <| T.seq <| T.condF rfl ?_
    refine T.exit (T.exitCode (T.exitCut (T.exitBlk ?_)))
    refine T.seq <| T.region <| SL.v (op_load ty45 rfl (by repeat constructor) rfl) ?_
    refine SL.w (op_store ty45 rfl rfl (by repeat constructor) rfl rfl rfl) ?_
    rintro _ _ _ ⟨rfl, rfl⟩
    refine SL.nil <| T.drop B3 (by repeat constructor) ?_
    refine T.retM1S [_] _ rfl (ResIs.cell rfl ty45 (by repeat constructor) rfl) (List.sublist_cons_self _ _) (List.Perm.refl _) ?_
    exact ⟨(hX1.trans' hX2).trans' hX3, _, rfl, i3, off3, e3, sa, rfl, hS3, x, (_, _, _, _), rfl, (hx.mono hX2).mono hX3, by rw [hrun]; exact out_ok rfl, hsh⟩
end Go.Proofs.YtnabbnhefjfegaaGreatDoor
namespace Go.Proofs.YtnabbnhefjfegaaGreatDoor
section
set_option maxRecDepth 100000
theorem en163 : Enters Tryz.prog 163 := enters_mk Tryz.func163 (by kernel_rfl) rfl
end
open Go.RowKit
theorem neg_run {p : ParP} {k : Nat} {st : RSt} : runM (fun l => negP p (k + 1) l) st = if (accM wNot st).1 then runM (fun l => bindR (negP p k l) fun x l' => .ok (Ex.mk 7 0 [] [x], l')) (accM wNot st).2 else runM (cmpP p) (accM wNot st).2 := by
  rw [← runM_acc (q1 := fun l => bindR (negP p k l) fun x l' => .ok (Ex.mk 7 0 [] [x], l')) (q2 := cmpP p)]
  rfl
theorem notI {X : PMap} {x : Ex} {r : Row4} {b : Nat} (h : ExR .i64 X x r) (hb : Blk X b [r.1, r.2.1, r.2.2.1, r.2.2.2]) : ExR .i64 X (.mk 7 0 [] [x]) (.int .i64 7, .int .i64 0, .slice none 0 0, .slice (some ⟨b, 0, none⟩) 1 1) :=
  .mk (.inl ⟨rfl, _, _, rfl⟩) (rows := [r]) (.inr ⟨by simp, b, 1, [], rfl, hb, by simp, by decide⟩) rfl fun i a q ha hq => by
    match i with
    | 0 => cases ha; cases hq; exact h
    | i + 1 => cases ha
theorem rneg_all {f : Nat} {p : ParP} (hp : SpecQ Tryz.prog 193 p f) : ∀ (k : Nat) {X : PMap} {v : Value} {ts : List Tk} {rb i off : Nat} {e : Int} {st : RSt}, lenS st < k → TksI X v ts → RdS ts st i off e → (∀ l, st = .ok l → l.length < f) →
    SpecI Tryz.prog 155 [.pointer (some ⟨rb, 0, none⟩)] X ts rb v i off e fun u st' X' => ∃ (ex : Ex) (r : Row4), u = .agg #[r.1, r.2.1, r.2.2.1, r.2.2.2] ∧ ExR .i64 X' ex r ∧ Out (runM (fun l => negP p k l) st) st' ex ∧ Sh st st' := by
  intro k
  induction k with
  | zero => intro X v ts rb i off e st h; exact absurd h (Nat.not_lt_zero _)
  | succ k ih =>
    intro X v ts rb i off e st hk hT hS hf
    have hrun := neg_run (p := p) (k := k) (st := st)
    have hsh1 := accM_sh (st := st) (w := wNot)
    refine SpecM.enter Tryz.func155 rfl Tryz.ntmps155 rfl ?_
    intro w0 X0 own0
    refine T.seq <| T.region <| SL.w (op_alloc z45) ?_
    rintro _ _ _ ⟨B2, rfl, rfl, rfl⟩
    refine SL.nil <| T.seq <| T.seq <| T.region <| SL.mv rfl <| SL.w (op_callJ en103 rfl (vs := [_, _]) rfl (racc_spec hT hS) (by repeat constructor)) ?_
    rintro _ _ X1 ⟨_, rfl, hX1, i1, off1, e1, _, rfl, hS1, rfl, rfl⟩
    have hT := hT.mono hX1
    cases ha : (accM wNot st).1 with
    | true =>
      rw [ha, if_pos rfl] at hrun
      have hdec := accM_dec ha
      refine SL.nil <| T.condT rfl <| T.seq <| T.region <| SL.mv rfl <| SL.w (op_callJ en155 rfl (vs := [_]) rfl (ih (Nat.lt_of_lt_of_le hdec (Nat.le_of_lt_succ hk)) hT hS1 (hsh1.lt hf)) (by repeat constructor)) ?_
      rintro _ _ X2 ⟨_, rfl, hX2, i2, off2, e2, sb, rfl, hS2, x, q, rfl, hx, hO, hsh2⟩
      obtain ⟨o9, n9, a9, b9, l9, c9, m9, d9, rfl⟩ := hx.form
      have hO : Out (runM (fun l => negP p k l) (accM wNot st).2) sb x := hO
      refine SL.w (op_buildSlice Tryz.underlying43 bs45 (qs := [(0, _)]) rfl rfl rfl rfl rfl) ?_
      rintro _ _ _ ⟨B7, rfl, rfl, rfl⟩
      refine SL.v (op_build st45 (qs := [(0, _), (3, _)]) rfl rfl) <| SL.w (op_store ty45 rfl rfl (by repeat constructor) rfl rfl rfl) ?_
      rintro _ _ _ ⟨rfl, rfl⟩
      refine SL.nil <| T.pub B7 (by repeat constructor) ?_
      intro X3 hX3 hB7 _
      refine T.retM1S [_] _ rfl (ResIs.cell rfl ty45 (by repeat constructor) rfl) (List.sublist_cons_self _ _) (List.Perm.refl _) ?_
      exact ⟨(hX1.trans' hX2).trans' hX3, _, rfl, i2, off2, e2, sb, rfl, hS2, .mk 7 0 [] [x], (_, _, _, _), rfl, notI (hx.mono hX3) hB7, by rw [hrun, runM_par hO]; exact out_ok rfl, hsh1.trans hsh2⟩
    | false =>
      rw [ha, if_neg (by decide), accM_same ha] at hrun
      rw [accM_same ha] at hS1
      refine SL.nil <| T.condF rfl <| T.skip <| T.seq <| T.region <| SL.mv rfl <| SL.w (op_callJ en163 rfl (vs := [_]) rfl (rcomparison_spec hp hT hS1 hf) (by repeat constructor)) ?_
      rintro _ _ X2 ⟨_, rfl, hX2, i2, off2, e2, sb, rfl, hS2, x, q, rfl, hx, hO, hsh2⟩
      obtain ⟨o9, n9, a9, b9, l9, c9, m9, d9, rfl⟩ := hx.form
      refine SL.w (op_store ty45 rfl rfl (by repeat constructor) rfl rfl rfl) ?_
      rintro _ _ _ ⟨rfl, rfl⟩
      refine SL.nil <| T.retM1S [_] _ rfl (ResIs.cell rfl ty45 (by repeat constructor) rfl) (List.sublist_cons_self _ _) (List.Perm.refl _) ?_
      exact ⟨hX1.trans' hX2, _, rfl, i2, off2, e2, sb, rfl, hS2, x, (_, _, _, _), rfl, hx, by rw [hrun]; exact hO, hsh2⟩
theorem rnegation_spec {f : Nat} {p : ParP} (hp : SpecQ Tryz.prog 193 p f) : SpecQ Tryz.prog 155 (negA p) f := by
  intro X v ts rb i off e st hT hS hf
  have h := rneg_all hp (lenS st + 1) (rb := rb) (Nat.lt_succ_self _) hT hS hf
  have e1 : runM (negA p) st = runM (fun l => negP p (lenS st + 1) l) st := by cases st <;> rfl
  rw [e1]
  exact h
end Go.Proofs.YtnabbnhefjfegaaGreatDoor
namespace Go.Proofs.YtnabbnhefjfegaaGreatDoor
section
set_option maxRecDepth 100000
theorem en102 : Enters Tryz.prog 102 := enters_mk Tryz.func102 (by kernel_rfl) rfl
theorem en49 : Enters Tryz.prog 49 := enters_mk Tryz.func49 (by kernel_rfl) rfl
end
open Go.RowKit
theorem tail_run {p : ParP} {k : Nat} {x : Ex} {st : RSt} : runM (tailI p k x) st = if (accM wArrow st).1 then runM (fun l => bindR (implP p k l) fun y l' => .ok (two 10 x y, l')) (accM wArrow st).2 else runM (fun l => .ok (x, l)) (accM wArrow st).2 := by
  rw [← runM_acc (q1 := fun l => bindR (implP p k l) fun y l' => .ok (two 10 x y, l')) (q2 := fun l => .ok (x, l))]
  rfl
theorem rimpl_all {f : Nat} {p : ParP} (hp : SpecQ Tryz.prog 193 p f) : ∀ (k : Nat) {X : PMap} {v : Value} {ts : List Tk} {rb i off : Nat} {e : Int} {st : RSt}, lenS st < k → TksI X v ts → RdS ts st i off e → (∀ l, st = .ok l → l.length < f) →
    SpecI Tryz.prog 49 [.pointer (some ⟨rb, 0, none⟩)] X ts rb v i off e fun u st' X' => ∃ (ex : Ex) (r : Row4), u = .agg #[r.1, r.2.1, r.2.2.1, r.2.2.2] ∧ ExR .i64 X' ex r ∧ Out (runM (fun l => implP p k l) st) st' ex ∧ Sh st st' := by
  intro k
  induction k with
  | zero => intro X v ts rb i off e st h; exact absurd h (Nat.not_lt_zero _)
  | succ k ih =>
    intro X v ts rb i off e st hk hT hS hf
    refine SpecM.enter Tryz.func49 rfl Tryz.ntmps49 rfl ?_
    intro w0 X0 own0
    refine T.seq <| T.region <| SL.w (op_alloc z45) ?_
    rintro _ _ _ ⟨B2, rfl, rfl, rfl⟩
    refine SL.nil <| T.seq <| T.region <| SL.mv rfl <| SL.w (op_callJ en102 rfl (vs := [_]) rfl (rdisj_spec (rconj_spec (rnegation_spec hp)) hT hS hf) (by repeat constructor)) ?_
    rintro _ _ X1 ⟨_, rfl, hX1, i1, off1, e1, sa, rfl, hS1, x, q, rfl, hx, hO, hsh⟩
    obtain ⟨o9, n9, a9, b9, l9, c9, m9, d9, rfl⟩ := hx.form
    have hO : Out (runM (disjP p) st) sa x := hO
    have hT := hT.mono hX1
    have hrun : runM (fun l => implP p (k + 1) l) st = runM (tailI p k x) sa := runM_par (p := disjP p) (q := fun x l' => tailI p k x l') hO
    rw [tail_run] at hrun
    have hle := hsh.len
    have hsh1 := hsh.trans (accM_sh (w := wArrow))
    refine SL.w (op_alloc z45) ?_
    rintro _ _ _ ⟨B3, rfl, rfl, rfl⟩
    refine SL.w (op_store ty45 rfl rfl (by repeat constructor) rfl rfl rfl) ?_
    rintro _ _ _ ⟨rfl, rfl⟩
    refine SL.nil <| T.seq <| T.seq <| T.region <| SL.mv rfl <| SL.w (op_callJ en103 rfl (vs := [_, _]) rfl (racc_spec hT hS1) (by repeat constructor)) ?_
    rintro _ _ X2 ⟨_, rfl, hX2, i2, off2, e2, _, rfl, hS2, rfl, rfl⟩
    have hT := hT.mono hX2
    cases ha : (accM wArrow sa).1 with
    | true =>
      rw [ha, if_pos rfl] at hrun
      have hdec := accM_dec ha
      have hlt : lenS (accM wArrow sa).2 < k := Nat.lt_of_lt_of_le hdec (Nat.le_trans hle (Nat.le_of_lt_succ hk))
      refine SL.nil <| T.condT rfl <| T.seq <| T.drawG (own0 := [_, _]) (by kernel_rfl) 4 [.t 0, .t 1, .r 2, .r 3] (by kernel_rfl) ?_
      refine SD.take rfl panicBody (op_load ty45 rfl (by repeat constructor) rfl) rfl rfl ?_
      refine SD.take rfl panicBody (op_move rfl) rfl rfl ?_
      refine SD.runK rfl (op_callJ en49 rfl (vs := [_]) rfl (ih hlt hT hS2 (hsh1.lt hf)) (.there (.there .here))) (by rintro _ _ _ ⟨_, rfl, hX5, _⟩; exact ⟨keep2, hX5⟩) rfl rfl ?_
      rintro _ _ X5 ⟨_, rfl, hX5, i5, off5, e5, sc, rfl, hS5, y, q5, rfl, hy, hO5, hsh5⟩
      obtain ⟨o4, n4, a4, b4, l4, c4, m4, d4, rfl⟩ := hy.form
      have hO5 : Out (runM (fun l => implP p k l) (accM wArrow sa).2) sc y := hO5
      have hc := rtwo_spec (op := 10) ((hx.mono hX2).mono hX5) hy
      try simp only at hc
      refine SD.run rfl (op_callF en104 (vs := [_, _, _]) rfl (hc)) rfl rfl ?_
      rintro _ _ X6 ⟨rfl, hX6, q6, rfl, hq6⟩
      refine SD.nil ?_
      show SL _ _ _ _ _ _ _ [_] _ _ _
      obtain ⟨o5, n5, a5, b5, l5, c5, m5, d5, rfl⟩ := hq6.form
      refine SL.w (op_store ty45 rfl rfl (by repeat constructor) rfl rfl rfl) ?_
      rintro _ _ _ ⟨rfl, rfl⟩
      refine SL.nil <| T.retM1S [_] _ rfl (ResIs.cell rfl ty45 (by repeat constructor) rfl) (.cons _ (.cons _ (.refl _))) (List.Perm.refl _) ?_
      exact ⟨((hX1.trans' hX2).trans' hX5).trans' hX6, _, rfl, i5, off5, e5, sc, rfl, hS5, two 10 x y, (_, _, _, _), rfl, hq6, by rw [hrun, runM_par hO5]; exact out_ok rfl, hsh1.trans hsh5⟩
    | false =>
      rw [ha, if_neg (by decide)] at hrun
      refine SL.nil <| T.condF rfl <| T.skip <| T.seq <| T.region <| SL.v (op_load ty45 rfl (by repeat constructor) rfl) ?_
      refine SL.w (op_store ty45 rfl rfl (by repeat constructor) rfl rfl rfl) ?_
      rintro _ _ _ ⟨rfl, rfl⟩
      refine SL.nil <| T.drop B3 (by repeat constructor) ?_
      refine T.retM1S [_] _ rfl (ResIs.cell rfl ty45 (by repeat constructor) rfl) (List.sublist_cons_self _ _) (List.Perm.refl _) ?_
      exact ⟨hX1.trans' hX2, _, rfl, i2, off2, e2, _, rfl, hS2, x, (_, _, _, _), rfl, hx.mono hX2, by rw [hrun]; exact out_ok rfl, hsh1⟩
theorem rexpression_spec {f : Nat} {p : ParP} (hp : SpecQ Tryz.prog 193 p f) : SpecQ Tryz.prog 49 (implA p) f := by
  intro X v ts rb i off e st hT hS hf
  have h := rimpl_all hp (lenS st + 1) (rb := rb) (Nat.lt_succ_self _) hT hS hf
  have e1 : runM (implA p) st = runM (fun l => implP p (lenS st + 1) l) st := by cases st <;> rfl
  rw [e1]
  exact h
end Go.Proofs.YtnabbnhefjfegaaGreatDoor
namespace Go.Proofs.YtnabbnhefjfegaaGreatDoor
section
set_option maxRecDepth 100000
theorem en122 : Enters Tryz.prog 122 := enters_mk Tryz.func122 (by kernel_rfl) rfl
theorem en123 : Enters Tryz.prog 123 := enters_mk Tryz.func123 (by kernel_rfl) rfl
theorem en199 : Enters Tryz.prog 199 := enters_mk Tryz.func199 (by kernel_rfl) rfl
end
open Go.RowKit
def SpecQo (P : Program) (g : FuncId) (p : ParP) (f : Nat) : Prop :=
  ∀ {X : PMap} {v : Value} {ts : List Tk} {rb i off : Nat} {e : Int} {l : List Tk}, TksI X v ts → RdS ts (.ok l) i off e → l.length < f →
    SpecI P g [.pointer (some ⟨rb, 0, none⟩)] X ts rb v i off e fun u st' X' => ∃ (ex : Ex) (r : Row4), u = .agg #[r.1, r.2.1, r.2.2.1, r.2.2.2] ∧ ExR .i64 X' ex r ∧ Out (runM p (.ok l)) st' ex ∧ Sh (.ok l) st'
abbrev CtO (b : Nat) (vs : Value) : Ow := ⟨b, [.int .i64 5, .int .i64 0, vs, .slice none 0 0], 45, 4⟩
theorem zeroI {X : PMap} {op : Nat} {n : Int} : ExR .i64 X (.mk op n [] []) (.int .i64 (op : Int), .int .i64 n, .slice none 0 0, .slice none 0 0) := .mk (.inl ⟨rfl, _, _, rfl⟩) (.inl ⟨rfl, _, _, rfl⟩) (rows := []) (al := []) rfl (fun i a r h => absurd h (by simp))
theorem rprimary_spec {f : Nat} {ex : ParP} (hex : SpecQo Tryz.prog 49 ex f) : SpecQ Tryz.prog 193 (primP ex) (f + 1) := by
  intro X v ts rb i off e st hT hS hf
  have hmx : maxLen = 9223372036854775807 := rfl
  obtain ⟨t, ht⟩ := hS.tok
  have hdt := drop_tok ht
  refine SpecM.enter Tryz.func193 rfl Tryz.ntmps193 rfl ?_
  intro w0 X0 own0
  refine T.seq <| T.region <| SL.w (op_alloc z45) ?_
  rintro _ _ _ ⟨B2, rfl, rfl, rfl⟩
  refine SL.nil <| T.seq <| T.region <| SL.mv rfl <| SL.w (op_callLend en50 (vs := [_]) rfl ((fun X1 h1 h2 => (rpeek_spec (hT.row.mono h1) hT.len (h2 (RdI rb v i off e) (by simp)) ht : Spec _ _ _ _ fun u _ => u = .agg (rcTi (pk e t)).toArray)))) ?_
  rintro _ _ _ ⟨rfl, rfl, rfl⟩
  by_cases he0 : e = 0
  case neg =>
    obtain ⟨y, rfl⟩ : ∃ y, st = .error y := by
      obtain ⟨_, h2⟩ := hS
      cases st with
      | error y => exact ⟨y, rfl⟩
      | ok l => exact absurd h2.2.1 he0
    rw [pk, if_neg he0, show (rcTi endT).toArray = #[.int .i64 0, .string ⟨#[]⟩, .int .i64 0, .int .i64 0] from rfl]
    refine SL.w (op_alloc z110) ?_
    rintro _ _ _ ⟨B3, rfl, rfl, rfl⟩
    refine SL.w (op_store ty110 rfl rfl (by repeat constructor) rfl rfl rfl) ?_
    rintro _ _ _ ⟨rfl, rfl⟩
    refine SL.nil <| T.seq <| T.block <| T.seq <| T.region <| SL.v (op_fieldAddr fa110_0 rfl) <| SL.v (op_load ty3 rfl (by repeat constructor) rfl) ?_
    refine SL.v (op_eqlF rfl rfl (by omega)) ?_
    refine SL.as rfl <| SL.nil <| T.condF rfl <| T.seq <| T.region <| SL.mv rfl <| T.dropAt B3 (by repeat constructor) ?_
    refine SL.w (op_callJ en103 rfl (vs := [_, _]) rfl (racc_spec hT hS) (by repeat constructor)) ?_
    rintro _ _ X1 ⟨_, rfl, hX1, i1, off1, e1, _, rfl, hS1, rfl, rfl⟩
    have hT := hT.mono hX1
    refine SL.as rfl <| SL.nil <| T.condF rfl <| T.seq <| T.region <| SL.mv rfl <| SL.w (op_callJ en103 rfl (vs := [_, _]) rfl (racc_spec hT hS1) (by repeat constructor)) ?_
    rintro _ _ X2 ⟨_, rfl, hX2, i2, off2, e2, _, rfl, hS2, rfl, rfl⟩
    have hT := hT.mono hX2
    refine SL.as rfl <| SL.nil <| T.condF rfl <| T.seq <| T.region <| SL.mv rfl <| SL.w (op_callJ en103 rfl (vs := [_, _]) rfl (racc_spec hT hS2) (by repeat constructor)) ?_
    rintro _ _ X3 ⟨_, rfl, hX3, i3, off3, e3, _, rfl, hS3, rfl, rfl⟩
    have hT := hT.mono hX3
    refine SL.as rfl <| SL.nil <| T.condF rfl <| T.seq <| T.region <| SL.mv rfl <| SL.w (op_callJ en103 rfl (vs := [_, _]) rfl (racc_spec hT hS3) (by repeat constructor)) ?_
    rintro _ _ X4 ⟨_, rfl, hX4, i4, off4, e4, _, rfl, hS4, rfl, rfl⟩
    have hT := hT.mono hX4
    refine SL.as rfl <| SL.nil <| T.condF rfl <| T.seq <| T.region <| SL.mv rfl <| SL.w (op_callJ en103 rfl (vs := [_, _]) rfl (racc_spec hT hS4) (by repeat constructor)) ?_
    rintro _ _ X5 ⟨_, rfl, hX5, i5, off5, e5, _, rfl, hS5, rfl, rfl⟩
    have hT := hT.mono hX5
    refine SL.as rfl <| SL.nil <| T.condF rfl <| T.skip <| T.blk <| T.seq <| T.region <| SL.mv rfl <| SL.w (op_callJ en123 rfl (vs := [_]) rfl (rnam_spec hT hS5) (by repeat constructor)) ?_
    rintro _ _ Y1 ⟨_, rfl, hY1, j1, off9, e9, _, rfl, hS9, rfl, rfl⟩
    refine SL.w (op_buildSlice Tryz.underlying37 bs9 (qs := [(0, _)]) rfl rfl rfl rfl rfl) ?_
    rintro _ _ _ ⟨B71, rfl, rfl, rfl⟩
    refine SL.v (op_build st45 (qs := [(0, _), (2, _)]) rfl rfl) <| SL.w (op_store ty45 rfl rfl (by repeat constructor) rfl rfl rfl) ?_
    rintro _ _ _ ⟨rfl, rfl⟩
    refine SL.nil <| T.perm (List.Perm.swap _ _ _) ?_
    refine T.pub B71 (by repeat constructor) ?_
    intro Y2 hY2 hB71 _
    refine T.retM1S [_] _ rfl (ResIs.cell rfl ty45 (by repeat constructor) rfl) (List.sublist_cons_self _ _) (List.Perm.refl _) ?_
    exact ⟨((((((hX1.trans' hX2).trans' hX3).trans' hX4).trans' hX5).trans' hY1).trans' hY2), _, rfl, j1, off9, e9, _, rfl, hS9, _, (_, _, _, _), rfl, .mk (ns := [⟨#[]⟩]) (.inr ⟨by simp, B71, 1, [], rfl, hB71, by simp, by decide⟩) (.inl ⟨rfl, _, _, rfl⟩) (rows := []) (al := []) rfl (fun i a r h => absurd h (by simp)), rfl, Sh.refl _⟩
  obtain ⟨l, rfl⟩ : ∃ l, st = .ok l := by
    obtain ⟨_, h2⟩ := hS
    cases st with
    | error x => exact absurd (h2.2.1.symm.trans he0) h2.2.2
    | ok l => exact ⟨l, rfl⟩
  rw [pk, if_pos he0, show (rcTi t).toArray = #[.int .i64 (t.kind : Int), .string t.text, .int .i64 (t.num : Int), .int .i64 (t.off : Int)] from rfl]
  have hl : l = t :: ts.drop (i + 1) := by rw [hS.2.2.2]; exact hdt
  generalize hrr : ts.drop (i + 1) = r at *
  subst hl
  have hfr : r.length < f := by have := hf _ rfl; rw [List.length_cons] at this; omega
  have htl : ∀ w, isT w (t :: r) = true → accM w (.ok (t :: r)) = (true, .ok r) := fun w h => accM_t h
  have htf : ∀ w, isT w (t :: r) = false → accM w (.ok (t :: r)) = (false, .ok (t :: r)) := fun w h => accM_f h
  have hshr : Sh (.ok (t :: r)) (.ok r) := tail_sh (l := t :: r)
  by_cases hk2 : t.kind = 2
  · skip
    refine SL.w (op_alloc z110) ?_
    rintro _ _ _ ⟨B3, rfl, rfl, rfl⟩
    refine SL.w (op_store ty110 rfl rfl (by repeat constructor) rfl rfl rfl) ?_
    rintro _ _ _ ⟨rfl, rfl⟩
    refine SL.nil <| T.seq <| T.block <| T.seq <| T.region <| SL.v (op_fieldAddr fa110_0 rfl) <| SL.v (op_load ty3 rfl (by repeat constructor) rfl) ?_
    refine SL.v (op_eqlT rfl rfl (by omega)) ?_
    refine SL.as rfl <| SL.nil <| T.condT rfl <| T.seq <| T.region <| SL.mv rfl <| SL.w (op_callJ en199 rfl (vs := [_, _, _]) rfl (rnum_spec hT hS rfl hk2) (by repeat constructor)) ?_
    rintro _ _ X1 ⟨_, rfl, hX1, i1, off1, e1, _, rfl, hS1, rfl, rfl⟩
    refine SL.v (op_build st45 (qs := [(0, _), (1, _)]) rfl rfl) <| SL.w (op_store ty45 rfl rfl (by repeat constructor) rfl rfl rfl) ?_
    rintro _ _ _ ⟨rfl, rfl⟩
    refine SL.nil <| T.retM1S [_] _ rfl (ResIs.cell rfl ty45 (by repeat constructor) rfl) (.cons _ (.cons _ (.refl _))) (List.Perm.refl _) ?_
    exact ⟨hX1, _, rfl, i1, off1, e1, _, rfl, hS1, _, (_, _, _, _), rfl, zeroI (op := 1), by rw [runM, primP_eq, if_pos hk2]; exact ⟨rfl, rfl⟩, hshr⟩
  have hpe := primP_eq (ex := ex) (t := t) (r := r)
  rw [if_neg hk2] at hpe
  refine SL.w (op_alloc z110) ?_
  rintro _ _ _ ⟨B3, rfl, rfl, rfl⟩
  refine SL.w (op_store ty110 rfl rfl (by repeat constructor) rfl rfl rfl) ?_
  rintro _ _ _ ⟨rfl, rfl⟩
  refine SL.nil <| T.seq <| T.block <| T.seq <| T.region <| SL.v (op_fieldAddr fa110_0 rfl) <| SL.v (op_load ty3 rfl (by repeat constructor) rfl) ?_
  refine SL.v (op_eqlF rfl rfl (by omega)) ?_
  refine SL.as rfl <| SL.nil <| T.condF rfl <| T.seq <| T.region <| SL.mv rfl <| T.dropAt B3 (by repeat constructor) ?_
  refine SL.w (op_callJ en103 rfl (vs := [_, _]) rfl (racc_spec hT hS) (by repeat constructor)) ?_
  rintro _ _ X1 ⟨_, rfl, hX1, i1, off1, e1, _, rfl, hS1, rfl, rfl⟩
  have hT := hT.mono hX1
  by_cases h1 : isT wTrue (t :: r) = true
  · rw [htl wTrue h1] at hS1 ⊢
    rw [if_pos h1] at hpe
    refine SL.as rfl <| SL.nil <| T.condT rfl <| T.seq <| T.region <| SL.v (op_build st45 (qs := [(0, _)]) rfl rfl) <| SL.w (op_store ty45 rfl rfl (by repeat constructor) rfl rfl rfl) ?_
    rintro _ _ _ ⟨rfl, rfl⟩
    refine SL.nil <| T.retM1S [_] _ rfl (ResIs.cell rfl ty45 (by repeat constructor) rfl) (List.sublist_cons_self _ _) (List.Perm.refl _) ?_
    exact ⟨hX1, _, rfl, i1, off1, e1, _, rfl, hS1, _, (_, _, _, _), rfl, zeroI (op := 2), by rw [runM, hpe]; exact ⟨rfl, rfl⟩, hshr⟩
  have h1 : isT wTrue (t :: r) = false := by simpa using h1
  rw [htf wTrue h1] at hS1 ⊢
  rw [if_neg (by rw [h1]; decide)] at hpe
  refine SL.as rfl <| SL.nil <| T.condF rfl <| T.seq <| T.region <| SL.mv rfl <| SL.w (op_callJ en103 rfl (vs := [_, _]) rfl (racc_spec hT hS1) (by repeat constructor)) ?_
  rintro _ _ X2 ⟨_, rfl, hX2, i2, off2, e2, _, rfl, hS2, rfl, rfl⟩
  have hT := hT.mono hX2
  by_cases h2 : isT wFalse (t :: r) = true
  · rw [htl wFalse h2] at hS2 ⊢
    rw [if_pos h2] at hpe
    refine SL.as rfl <| SL.nil <| T.condT rfl <| T.seq <| T.region <| SL.v (op_build st45 (qs := [(0, _)]) rfl rfl) <| SL.w (op_store ty45 rfl rfl (by repeat constructor) rfl rfl rfl) ?_
    rintro _ _ _ ⟨rfl, rfl⟩
    refine SL.nil <| T.retM1S [_] _ rfl (ResIs.cell rfl ty45 (by repeat constructor) rfl) (List.sublist_cons_self _ _) (List.Perm.refl _) ?_
    exact ⟨(hX1.trans' hX2), _, rfl, i2, off2, e2, _, rfl, hS2, _, (_, _, _, _), rfl, zeroI (op := 3), by rw [runM, hpe]; exact ⟨rfl, rfl⟩, hshr⟩
  have h2 : isT wFalse (t :: r) = false := by simpa using h2
  rw [htf wFalse h2] at hS2 ⊢
  rw [if_neg (by rw [h2]; decide)] at hpe
  refine SL.as rfl <| SL.nil <| T.condF rfl <| T.seq <| T.region <| SL.mv rfl <| SL.w (op_callJ en103 rfl (vs := [_, _]) rfl (racc_spec hT hS2) (by repeat constructor)) ?_
  rintro _ _ X3 ⟨_, rfl, hX3, i3, off3, e3, _, rfl, hS3, rfl, rfl⟩
  have hT := hT.mono hX3
  by_cases h3 : isT wCount (t :: r) = true
  · rw [htl wCount h3] at hS3 ⊢
    rw [if_pos h3] at hpe
    have h0 := namesQ_start (op := 5) (several := true) (st := .ok r)
    have hsh0 := (expM_sh (w := wLp) (st := .ok r)).trans namM_sh
    have hlen := hT.len
    refine SL.as rfl <| SL.nil <| T.condT rfl <| T.seq <| T.region <| SL.v (op_build st45 (qs := [(0, _)]) rfl rfl) <| SL.w (op_alloc z45) ?_
    rintro _ _ _ ⟨B4, rfl, rfl, rfl⟩
    refine SL.w (op_store ty45 rfl rfl (by repeat constructor) rfl rfl rfl) ?_
    rintro _ _ _ ⟨rfl, rfl⟩
    refine SL.nil <| T.seq <| T.region <| SL.mv rfl <| SL.w (op_callJ en122 rfl (vs := [_, _]) rfl (rexp_spec hT hS3) (by repeat constructor)) ?_
    rintro _ _ Y1 ⟨_, rfl, hY1, j1, of1, er1, _, rfl, hZ1, rfl⟩
    have hT := hT.mono hY1
    refine SL.nil <| T.seq <| T.drawG (own0 := [_, _]) (by kernel_rfl) 5 [.t 0, .t 1, .t 2, .r 3, .r 4] (by kernel_rfl) ?_
    refine SD.take rfl panicBody (op_fieldAddr fa45_2 rfl) rfl rfl ?_
    refine SD.take rfl panicBody (op_load ty37 rfl (by repeat constructor) rfl) rfl rfl ?_
    refine SD.take rfl panicBody (op_move rfl) rfl rfl ?_
    refine SD.runK rfl (op_callJ en123 rfl (vs := [_]) rfl (rnam_spec hT hZ1) (.there (.there .here))) (by rintro _ _ _ ⟨_, rfl, hX5, _⟩; exact ⟨keep2, hX5⟩) rfl rfl ?_
    rintro _ _ Y2 ⟨_, rfl, hY2, j2, of2, er2, sw, rfl, hZ2, rfl, hsw⟩
    have hT := hT.mono hY2
    have hl2 := hZ2.lenS
    rw [← hsw] at h0 hsh0
    generalize (namM (expM wLp (.ok r))).1 = s0 at *
    refine SD.run rfl (op_buildSlice Tryz.underlying37 bs9 (qs := [(0, _)]) rfl rfl rfl rfl rfl) rfl rfl ?_
    rintro _ _ _ ⟨B34, rfl, rfl, rfl⟩
    refine SD.nil ?_
    show SL _ _ _ _ _ _ _ [_, _, _] _ _ _
    refine SL.w (op_appendNil (m := 1) (news := [.string s0]) sl37 rfl rfl (Src.ofOwn0 AtO.here rfl) (by omega) (fun y hy => by rw [List.mem_singleton.1 hy]; rfl) (by omega) (by omega)) ?_
    rintro _ _ _ ⟨b7, cap7, rfl, rfl, rfl, hc7, hm7⟩
    refine SL.v (op_fieldAddr fa45_2 rfl) <| SL.w (op_store ty37 rfl rfl (by repeat constructor) rfl rfl rfl) ?_
    rintro _ _ _ ⟨rfl, rfl⟩
    refine SL.nil <| T.seq <| T.block <| T.drop B34 (by repeat constructor) ?_
    have hG0 : GrowS 9 1 (.slice (some ⟨b7, 0, none⟩) 1 cap7) [s0].length (strsC [s0]) [⟨b7, [.string s0], 9, cap7 * 1⟩] := .inr ⟨b7, cap7, rfl, rfl, hc7, hm7, rfl⟩
    refine T.perm (own' := CtO B4 (.slice (some ⟨b7, 0, none⟩) 1 cap7) :: I0 B2 :: RdI rb v j2 of2 er2 :: (own0 ++ [(⟨b7, [.string s0], 9, cap7 * 1⟩ : Ow)])) (show ((⟨b7, [.string s0], 9, cap7 * 1⟩ : Ow) :: CtO B4 (.slice (some ⟨b7, 0, none⟩) 1 cap7) :: I0 B2 :: RdI rb v j2 of2 er2 :: own0).Perm _ from (List.perm_append_singleton (⟨b7, [.string s0], 9, cap7 * 1⟩ : Ow) (CtO B4 (.slice (some ⟨b7, 0, none⟩) 1 cap7) :: I0 B2 :: RdI rb v j2 of2 er2 :: own0)).symm) ?_
    refine T.loopW (fun m env own X' => ∃ (ns : List ByteArray) (vs : Value) (G : Own) (i off : Nat) (e : Int) (sa : RSt) (k : Nat), m = lenS sa ∧ Y2.le X' ∧ RdS ts sa i off e ∧ Sh (.ok r) sa ∧ ns.length + lenS sa ≤ 2000000 ∧ lenS sa ≤ k ∧ runM (namesQ 5 true) (.ok r) = runM (fun l => bindR (namesG k ns l) (rpQ 5)) sa ∧ GrowS 9 1 vs ns.length (strsC ns) G ∧ env = [(0, .pointer (some ⟨rb, 0, none⟩)), (2, .pointer (some ⟨B2, 0, none⟩)), (4, .pointer (some ⟨B4, 0, none⟩))] ∧ own = CtO B4 vs :: I0 B2 :: RdI rb v i off e :: (own0 ++ G)) (lenS sw) ⟨[s0], _, _, j2, of2, er2, sw, _, rfl, PMap.le_refl _, hZ2, hsh0, by simp; omega, Nat.le_refl _, h0, hG0, rfl, rfl⟩ (by repeat (first | exact Sub.nil | refine Sub.cons rfl ?_)) ?_
    rintro m _ _ Z1 ⟨ns, vs, G, i6, off6, e6, sb, k, rfl, hZZ, hS6, hsh6, hns, hkk, heq, hG, rfl, rfl⟩
    have hT := hT.mono hZZ
    obtain ⟨Av, cv, rfl⟩ := hG.form
    refine T.seq <| T.seq <| T.region <| SL.mv rfl <| SL.w (op_callJ en103 rfl (vs := [_, _]) rfl (racc_spec hT hS6) (by repeat constructor)) ?_
    rintro _ _ Z2 ⟨_, rfl, hZZ2, i7, off7, e7, _, rfl, hS7, rfl, rfl⟩
    have hT := hT.mono hZZ2
    have hsh7 := hsh6.trans (accM_sh (w := wComma))
    cases ha : (accM wComma sb).1 with
    | true =>
      have hdec := accM_dec ha
      obtain ⟨k, rfl⟩ : ∃ q, k = q + 1 := ⟨k - 1, by omega⟩
      rw [namesG_step ha] at heq
      have hd2 := (namM_sh (st := (accM wComma sb).2)).len
      have hsh8 := hsh7.trans namM_sh
      refine SL.nil <| T.condT rfl <| T.skip <| T.block <| T.drawG (own0 := [_, _]) (by kernel_rfl) 5 [.t 0, .t 1, .t 2, .r 3, .r 4] (by kernel_rfl) ?_
      refine SD.take rfl panicBody (op_fieldAddr fa45_2 rfl) rfl rfl ?_
      refine SD.take rfl panicBody (op_load ty37 rfl (by repeat constructor) rfl) rfl rfl ?_
      refine SD.take rfl panicBody (op_move rfl) rfl rfl ?_
      refine SD.runK rfl (op_callJ en123 rfl (vs := [_]) rfl (rnam_spec hT hS7) (.there (.there .here))) (by rintro _ _ _ ⟨_, rfl, hX5, _⟩; exact ⟨keep2, hX5⟩) rfl rfl ?_
      rintro _ _ Z3 ⟨_, rfl, hZ3, i8, off8, e8, sc, rfl, hS8, rfl, hsc⟩
      have hscl : lenS sc ≤ lenS (accM wComma sb).2 := by rw [hsc]; exact hd2
      have hsh8 : Sh (.ok r) sc := by rw [hsc]; exact hsh8
      have heq : runM (namesQ 5 true) (.ok r) = runM (fun l => bindR (namesG k (ns ++ [(namM (accM wComma sb).2).1]) l) (rpQ 5)) sc := by rw [hsc]; exact heq
      generalize (namM (accM wComma sb).2).1 = s8 at *
      refine SD.run rfl (op_buildSlice Tryz.underlying37 bs9 (qs := [(0, _)]) rfl rfl rfl rfl rfl) rfl rfl ?_
      rintro _ _ _ ⟨B43, rfl, rfl, rfl⟩
      refine SD.nil ?_
      show SL _ _ _ _ _ _ _ [_, _, _] _ _ _
      refine SL.w (op_appendG (own0 := _ :: _ :: _ :: own0) sl37 rfl hG rfl rfl rfl (by omega) (by omega)) ?_
      rintro vn _ _ ⟨G2, rfl, rfl, hG2⟩
      have hG2 : GrowS 9 1 vn (ns ++ [s8]).length (strsC (ns ++ [s8])) G2 := by rw [List.length_append, strsC_app]; exact hG2
      obtain ⟨An, cn, rfl⟩ := hG2.form
      refine SL.v (op_fieldAddr fa45_2 rfl) <| SL.w (op_store ty37 rfl rfl (by repeat constructor) rfl rfl rfl) ?_
      rintro _ _ _ ⟨rfl, rfl⟩
      refine SL.nil <| T.blk ?_
      exact T.backW (lenS sc) (by omega) ⟨ns ++ [s8], _, G2, i8, off8, e8, sc, k, rfl, (hZZ.trans' hZZ2).trans' hZ3, hS8, hsh8, by rw [List.length_append]; simp; omega, by omega, heq, hG2, rfl, rfl⟩ (by repeat (first | exact Sub.nil | refine Sub.cons rfl ?_))
    | false =>
      rw [accM_same ha] at hS7 hsh7
      refine SL.nil <| T.condF rfl ?_
      refine T.exit (T.exitCode (T.exitCut (T.exitBlk ?_)))
      refine T.seq <| T.region <| SL.mv rfl <| SL.w (op_callJ en122 rfl (vs := [_, _]) rfl (rexp_spec hT hS7) (by repeat constructor)) ?_
      rintro _ _ Z3 ⟨_, rfl, hZ3, i8, off8, e8, _, rfl, hS8, rfl⟩
      refine SL.nil <| T.seq <| T.region <| SL.v (op_load ty45 rfl (by repeat constructor) rfl) ?_
      refine SL.w (op_store ty45 rfl rfl (by repeat constructor) rfl rfl rfl) ?_
      rintro _ _ _ ⟨rfl, rfl⟩
      refine SL.nil <| T.pubG (own0 := _ :: _ :: _ :: own0) hG ?_
      intro X9 hX9 hS9
      refine T.drop B4 AtO.here ?_
      refine T.retM1S [_] _ rfl (ResIs.cell rfl ty45 (by repeat constructor) rfl) (List.sublist_cons_self _ _) (List.Perm.refl _) ?_
      refine ⟨((((((hX1.trans' hX2).trans' hX3).trans' hY1).trans' hY2).trans' hZZ).trans' hZZ2).trans' (hZ3.trans' hX9), _, rfl, i8, off8, e8, _, rfl, hS8, _, (_, _, _, _), rfl, .mk (RowR.ofG (rc := strC) (by rw [strsC_flat]; exact hG) (by rw [strsC_flat]; exact hS9)) (.inl ⟨rfl, _, _, rfl⟩) (rows := []) (al := []) rfl (fun i a r h => absurd h (by simp)), ?_, (hshr.trans hsh7).trans expM_sh⟩
      rw [runM, hpe, show namesQ 5 true r = runM (namesQ 5 true) (.ok r) from rfl, heq, namesG_stop (.inl ha)]
      show Out (runM (fun l => bindR (expT wRp l) fun _ l4 => Except.ok (Ex.mk 5 0 ns [], l4)) _) _ _
      rw [runM_exp]
      exact out_ok rfl
  have h3 : isT wCount (t :: r) = false := by simpa using h3
  rw [htf wCount h3] at hS3 ⊢
  rw [if_neg (by rw [h3]; decide)] at hpe
  refine SL.as rfl <| SL.nil <| T.condF rfl <| T.seq <| T.region <| SL.mv rfl <| SL.w (op_callJ en103 rfl (vs := [_, _]) rfl (racc_spec hT hS3) (by repeat constructor)) ?_
  rintro _ _ X4 ⟨_, rfl, hX4, i4, off4, e4, _, rfl, hS4, rfl, rfl⟩
  have hT := hT.mono hX4
  by_cases h4 : isT wMembers (t :: r) = true
  · rw [htl wMembers h4] at hS4 ⊢
    rw [if_pos h4] at hpe
    have h0 := namesQ_start (op := 6) (several := false) (st := .ok r)
    have hshn := ((expM_sh (w := wLp) (st := .ok r)).trans namM_sh).trans (expM_sh (w := wRp))
    rw [if_neg (by decide), namesG_stop (.inr rfl)] at h0
    refine SL.as rfl <| SL.nil <| T.condT rfl <| T.seq <| T.region <| SL.mv rfl <| SL.w (op_callJ en122 rfl (vs := [_, _]) rfl (rexp_spec hT hS4) (by repeat constructor)) ?_
    rintro _ _ Y1 ⟨_, rfl, hY1, j1, of1, er1, _, rfl, hZ1, rfl⟩
    have hT := hT.mono hY1
    refine SL.nil <| T.seq <| T.region <| SL.mv rfl <| SL.w (op_callJ en123 rfl (vs := [_]) rfl (rnam_spec hT hZ1) (by repeat constructor)) ?_
    rintro _ _ Y2 ⟨_, rfl, hY2, j2, of2, er2, _, rfl, hZ2, rfl, rfl⟩
    have hT := hT.mono hY2
    refine SL.w (op_buildSlice Tryz.underlying37 bs9 (qs := [(0, _)]) rfl rfl rfl rfl rfl) ?_
    rintro _ _ _ ⟨B56, rfl, rfl, rfl⟩
    refine SL.v (op_build st45 (qs := [(0, _), (2, _)]) rfl rfl) <| SL.w (op_alloc z45) ?_
    rintro _ _ _ ⟨B5, rfl, rfl, rfl⟩
    refine SL.w (op_store ty45 rfl rfl (by repeat constructor) rfl rfl rfl) ?_
    rintro _ _ _ ⟨rfl, rfl⟩
    refine SL.nil <| T.seq <| T.region <| SL.mv rfl <| SL.w (op_callJ en122 rfl (vs := [_, _]) rfl (rexp_spec hT hZ2) (by repeat constructor)) ?_
    rintro _ _ Y3 ⟨_, rfl, hY3, j3, of3, er3, _, rfl, hZ3, rfl⟩
    refine SL.nil <| T.seq <| T.region <| SL.v (op_load ty45 rfl (by repeat constructor) rfl) ?_
    refine SL.w (op_store ty45 rfl rfl (by repeat constructor) rfl rfl rfl) ?_
    rintro _ _ _ ⟨rfl, rfl⟩
    refine SL.nil <| T.drop B5 (by repeat constructor) ?_
    refine T.pub B56 (by repeat constructor) ?_
    intro Y4 hY4 hB56 _
    refine T.retM1S [_] _ rfl (ResIs.cell rfl ty45 (by repeat constructor) rfl) (List.sublist_cons_self _ _) (List.Perm.refl _) ?_
    refine ⟨(((((((PMap.le_refl X).trans' hX1).trans' hX2).trans' hX3).trans' hX4).trans' hY1).trans' hY2).trans' (hY3.trans' hY4), _, rfl, j3, of3, er3, _, rfl, hZ3, _, (_, _, _, _), rfl, .mk (ns := [(namM (expM wLp (.ok r))).1]) (.inr ⟨by simp, B56, 1, [], rfl, hB56, by simp, by decide⟩) (.inl ⟨rfl, _, _, rfl⟩) (rows := []) (al := []) rfl (fun i a r h => absurd h (by simp)), ?_, hshr.trans hshn⟩
    rw [runM, hpe, show namesQ 6 false r = runM (namesQ 6 false) (.ok r) from rfl, h0]
    show Out (runM (fun l => bindR (expT wRp l) fun _ l4 => Except.ok (Ex.mk 6 0 [(namM (expM wLp (.ok r))).1] [], l4)) _) _ _
    rw [runM_exp]
    exact out_ok rfl
  have h4 : isT wMembers (t :: r) = false := by simpa using h4
  rw [htf wMembers h4] at hS4 ⊢
  rw [if_neg (by rw [h4]; decide)] at hpe
  refine SL.as rfl <| SL.nil <| T.condF rfl <| T.seq <| T.region <| SL.mv rfl <| SL.w (op_callJ en103 rfl (vs := [_, _]) rfl (racc_spec hT hS4) (by repeat constructor)) ?_
  rintro _ _ X5 ⟨_, rfl, hX5, i5, off5, e5, _, rfl, hS5, rfl, rfl⟩
  have hT := hT.mono hX5
  by_cases h5 : isT wLp (t :: r) = true
  · rw [htl wLp h5] at hS5 ⊢
    rw [if_pos h5] at hpe
    refine SL.as rfl <| SL.nil <| T.condT rfl <| T.seq <| T.region <| SL.mv rfl <| SL.w (op_callJ en49 rfl (vs := [_]) rfl (hex hT hS5 hfr) (by repeat constructor)) ?_
    rintro _ _ Y1 ⟨_, rfl, hY1, j1, off9, e9, sa, rfl, hS9, x9, r9, rfl, hx9, hO9, hsh9⟩
    obtain ⟨o9, n9, a9, b9, l9, c9, m9, d9, rfl⟩ := hx9.form
    have hT := hT.mono hY1
    refine SL.w (op_alloc z45) ?_
    rintro _ _ _ ⟨B6, rfl, rfl, rfl⟩
    refine SL.w (op_store ty45 rfl rfl (by repeat constructor) rfl rfl rfl) ?_
    rintro _ _ _ ⟨rfl, rfl⟩
    refine SL.nil <| T.seq <| T.region <| SL.mv rfl <| SL.w (op_callJ en122 rfl (vs := [_, _]) rfl (rexp_spec hT hS9) (by repeat constructor)) ?_
    rintro _ _ Y2 ⟨_, rfl, hY2, j2, off8, e8, _, rfl, hS8, rfl⟩
    refine SL.nil <| T.seq <| T.region <| SL.v (op_load ty45 rfl (by repeat constructor) rfl) ?_
    refine SL.w (op_store ty45 rfl rfl (by repeat constructor) rfl rfl rfl) ?_
    rintro _ _ _ ⟨rfl, rfl⟩
    refine SL.nil <| T.drop B6 (by repeat constructor) ?_
    refine T.retM1S [_] _ rfl (ResIs.cell rfl ty45 (by repeat constructor) rfl) (List.sublist_cons_self _ _) (List.Perm.refl _) ?_
    refine ⟨(((((hX1.trans' hX2).trans' hX3).trans' hX4).trans' hX5).trans' hY1).trans' hY2, _, rfl, j2, off8, e8, _, rfl, hS8, x9, (_, _, _, _), rfl, hx9.mono hY2, ?_, (hshr.trans hsh9).trans expM_sh⟩
    rw [runM, hpe]
    show Out (runM (fun l => bindR (ex l) fun x l' => bindR (expT wRp l') fun _ l'' => Except.ok (x, l'')) (Except.ok r)) _ _
    rw [runM_par hO9, runM_exp]
    exact out_ok rfl
  have h5 : isT wLp (t :: r) = false := by simpa using h5
  rw [htf wLp h5] at hS5 ⊢
  rw [if_neg (by rw [h5]; decide)] at hpe
  refine SL.as rfl <| SL.nil <| T.condF rfl <| T.skip <| T.blk <| T.seq <| T.region <| SL.mv rfl <| SL.w (op_callJ en123 rfl (vs := [_]) rfl (rnam_spec hT hS5) (by repeat constructor)) ?_
  rintro _ _ Y1 ⟨_, rfl, hY1, j1, off9, e9, _, rfl, hS9, rfl, rfl⟩
  refine SL.w (op_buildSlice Tryz.underlying37 bs9 (qs := [(0, _)]) rfl rfl rfl rfl rfl) ?_
  rintro _ _ _ ⟨B71, rfl, rfl, rfl⟩
  refine SL.v (op_build st45 (qs := [(0, _), (2, _)]) rfl rfl) <| SL.w (op_store ty45 rfl rfl (by repeat constructor) rfl rfl rfl) ?_
  rintro _ _ _ ⟨rfl, rfl⟩
  refine SL.nil <| T.perm (List.Perm.swap _ _ _) ?_
  refine T.pub B71 (by repeat constructor) ?_
  intro Y2 hY2 hB73 _
  refine T.retM1S [_] _ rfl (ResIs.cell rfl ty45 (by repeat constructor) rfl) (List.sublist_cons_self _ _) (List.Perm.refl _) ?_
  refine ⟨(((((hX1.trans' hX2).trans' hX3).trans' hX4).trans' hX5).trans' hY1).trans' hY2, _, rfl, j1, off9, e9, _, rfl, hS9, _, (_, _, _, _), rfl, .mk (ns := [(namM (.ok (t :: r))).1]) (.inr ⟨by simp, B71, 1, [], rfl, hB73, by simp, by decide⟩) (.inl ⟨rfl, _, _, rfl⟩) (rows := []) (al := []) rfl (fun i a r h => absurd h (by simp)), ?_, namM_sh⟩
  rw [runM, hpe]
  show Out (runM (fun l => bindR (nameT l) fun s l' => Except.ok (Ex.mk 4 0 [s] [], l')) (Except.ok (t :: r))) _ _
  rw [runM_nam]
  exact out_ok rfl
end Go.Proofs.YtnabbnhefjfegaaGreatDoor
namespace Go.Proofs.YtnabbnhefjfegaaGreatDoor
open Go.RowKit
theorem rexpr_all : ∀ f : Nat, SpecQ Tryz.prog 49 (exprP (f + 1)) (f + 1)
  | 0 => rexpression_spec (rprimary_spec (f := 0) fun {_ _ _ _ _ _ _ _} _ _ h => absurd h (Nat.not_lt_zero _))
  | f + 1 => rexpression_spec (rprimary_spec fun {_ _ _ _ _ _ _ _} hT hS hf => rexpr_all f hT hS fun l hl => by cases hl; exact hf)
end Go.Proofs.YtnabbnhefjfegaaGreatDoor
namespace Go.Proofs.YtnabbnhefjfegaaGreatDoor
section
set_option maxRecDepth 100000
theorem fa84_0 : FAdr Tryz.prog 84 0 0 := fadr_mk Tryz.underlying84 rfl rfl (by kernel_rfl)
theorem fa84_1 : FAdr Tryz.prog 84 1 1 := fadr_mk Tryz.underlying84 rfl rfl (by kernel_rfl)
theorem fa84_2 : FAdr Tryz.prog 84 2 2 := fadr_mk Tryz.underlying84 rfl rfl (by kernel_rfl)
theorem fa84_3 : FAdr Tryz.prog 84 3 3 := fadr_mk Tryz.underlying84 rfl rfl (by kernel_rfl)
theorem ty84 : Ty Tryz.prog 84 true 7 := ⟨⟨_, Tryz.underlying84, rfl⟩, by kernel_rfl⟩
end
open Go.RowKit
abbrev CJ (b : Nat) (en : Bool) (k : Nat) (s : ByteArray) (r : Row4) : Ow := ⟨b, rc7i (en, k, s, r), 84, 7⟩
abbrev r1 : Row4 := (.int .i64 0, .int .i64 0, .slice none 0 0, .slice none 0 0)
theorem rcon_spec {f : Nat} {X : PMap} {v : Value} {ts : List Tk} {rb i off : Nat} {e : Int} {st : RSt} (hT : TksI X v ts) (hS : RdS ts st i off e) (hf : ∀ l, st = .ok l → l.length < f + 1) :
    SpecI Tryz.prog 63 [.pointer (some ⟨rb, 0, none⟩)] X ts rb v i off e fun u st' X' => ∃ (c : Con) (r : Row7), u = .agg (rc7i r).toArray ∧ ConRi X' c r ∧ Out (runM (conP (exprP (f + 1))) st) st' c ∧ (0 < lenS st → lenS st' < lenS st) := by
  have h0 := enf_run (ex := exprP (f + 1)) (st := st)
  refine SpecM.enter Tryz.func63 rfl Tryz.ntmps63 rfl ?_
  intro w0 X0 own0
  refine T.seq <| T.region <| SL.w (op_alloc z84) ?_
  rintro _ _ _ ⟨B2, rfl, rfl, rfl⟩
  refine SL.nil <| T.seq <| T.region <| SL.mv rfl <| SL.w (op_callJ en103 rfl (vs := [_, _]) rfl (racc_spec hT hS) (by repeat constructor)) ?_
  rintro _ _ X1 ⟨_, rfl, hX1, i1, off1, e1, _, rfl, hS1, rfl, rfl⟩
  have hT := hT.mono hX1
  refine SL.v (op_build st84 (qs := [(0, _)]) rfl rfl) <| SL.w (op_alloc z84) ?_
  rintro _ _ _ ⟨B3, rfl, rfl, rfl⟩
  refine SL.w (op_store ty84 rfl rfl (by repeat constructor) rfl rfl rfl) ?_
  rintro _ _ _ ⟨rfl, rfl⟩
  refine SL.nil <| T.seq <| T.meet (fun _ env own X' => ∃ (en : Bool) (i off : Nat) (e : Int) (sa : RSt), X1.le X' ∧ RdS ts sa i off e ∧ Sh st sa ∧ (0 < lenS st → lenS sa < lenS st) ∧ runM (conP (exprP (f + 1))) st = runM (conK1 (exprP (f + 1)) en) sa ∧ env = [(0, .pointer (some ⟨rb, 0, none⟩)), (2, .pointer (some ⟨B2, 0, none⟩)), (3, .pointer (some ⟨B3, 0, none⟩))] ∧ own = CJ B3 en 0 ⟨#[]⟩ r1 :: CJ B2 false 0 ⟨#[]⟩ r1 :: RdI rb v i off e :: own0) ?_ ?_
  · skip
    cases ha : (accM wEnforce st).1 with
    | true =>
      rw [ha, if_pos rfl] at h0
      have hdec := accM_dec ha
      refine T.seq <| T.region <| SL.v (op_fieldAddr fa84_0 rfl) <| SL.v (op_load ty4 rfl (by repeat constructor) rfl) ?_
      refine SL.v (op_not rfl) <| SL.nil <| T.condF rfl <| T.skip ?_
      exact T.backW 0 (by omega) ⟨true, i1, off1, e1, _, PMap.le_refl _, hS1, accM_sh, fun _ => hdec, h0, rfl, rfl⟩ (by repeat (first | exact Sub.nil | refine Sub.cons rfl ?_))
    | false =>
      rw [ha, if_neg (by decide)] at h0
      rw [accM_same ha] at hS1
      refine T.seq <| T.region <| SL.v (op_fieldAddr fa84_0 rfl) <| SL.v (op_load ty4 rfl (by repeat constructor) rfl) ?_
      refine SL.v (op_not rfl) <| SL.nil <| T.condT rfl <| T.region <| SL.mv rfl <| SL.w (op_callJ en122 rfl (vs := [_, _]) rfl (rexp_spec hT hS1) (by repeat constructor)) ?_
      rintro _ _ X2 ⟨_, rfl, hX2, i2, off2, e2, _, rfl, hS2, rfl⟩
      refine SL.nil ?_
      exact T.backW 0 (by omega) ⟨false, i2, off2, e2, _, hX2, hS2, expM_sh, expM_dec, h0, rfl, rfl⟩ (by repeat (first | exact Sub.nil | refine Sub.cons rfl ?_))
  rintro _ _ _ X3 ⟨en, i3, off3, e3, sa, hX3, hS3, hsh3, hd3, heq3, rfl, rfl⟩
  have hT := hT.mono hX3
  have h1 := kind_run (ex := exprP (f + 1)) (st := sa) (en := en)
  refine T.seq <| T.meet (fun _ env own X' => ∃ (k : Nat) (i off : Nat) (e : Int) (sb : RSt), X3.le X' ∧ RdS ts sb i off e ∧ Sh sa sb ∧ runM (conK1 (exprP (f + 1)) en) sa = runM (conK2 (exprP (f + 1)) en k) sb ∧ env = [(0, .pointer (some ⟨rb, 0, none⟩)), (2, .pointer (some ⟨B2, 0, none⟩)), (3, .pointer (some ⟨B3, 0, none⟩))] ∧ own = CJ B3 en k ⟨#[]⟩ r1 :: CJ B2 false 0 ⟨#[]⟩ r1 :: RdI rb v i off e :: own0) ?_ ?_
  · skip
    refine T.block <| T.seq <| T.region <| SL.mv rfl <| SL.w (op_callJ en103 rfl (vs := [_, _]) rfl (racc_spec hT hS3) (by repeat constructor)) ?_
    rintro _ _ X4 ⟨_, rfl, hX4, i4, off4, e4, _, rfl, hS4, rfl, rfl⟩
    have hT := hT.mono hX4
    cases ha : (accM wStatic sa).1 with
    | true =>
      rw [ha, if_pos rfl] at h1
      refine SL.as rfl <| SL.nil <| T.condT rfl <| T.region <| SL.v (op_fieldAddr fa84_1 rfl) <| SL.w (op_store ty3 rfl rfl (by repeat constructor) rfl rfl rfl) ?_
      rintro _ _ _ ⟨rfl, rfl⟩
      refine SL.nil <| T.blk ?_
      exact T.backW 0 (by omega) ⟨1, i4, off4, e4, _, hX4, hS4, accM_sh, h1, rfl, rfl⟩ (by repeat (first | exact Sub.nil | refine Sub.cons rfl ?_))
    | false =>
      rw [ha, if_neg (by decide)] at h1
      rw [accM_same ha] at hS4
      refine SL.as rfl <| SL.nil <| T.condF rfl <| T.seq <| T.region <| SL.mv rfl <| SL.w (op_callJ en103 rfl (vs := [_, _]) rfl (racc_spec hT hS4) (by repeat constructor)) ?_
      rintro _ _ X5 ⟨_, rfl, hX5, i5, off5, e5, _, rfl, hS5, rfl, rfl⟩
      have hT := hT.mono hX5
      cases hb : (accM wDynamic sa).1 with
      | true =>
        rw [hb, if_pos rfl] at h1
        refine SL.as rfl <| SL.nil <| T.condT rfl <| T.region <| SL.v (op_fieldAddr fa84_1 rfl) <| SL.w (op_store ty3 rfl rfl (by repeat constructor) rfl rfl rfl) ?_
        rintro _ _ _ ⟨rfl, rfl⟩
        refine SL.nil <| T.blk ?_
        exact T.backW 0 (by omega) ⟨2, i5, off5, e5, _, hX4.trans' hX5, hS5, accM_sh, h1, rfl, rfl⟩ (by repeat (first | exact Sub.nil | refine Sub.cons rfl ?_))
      | false =>
        rw [hb, if_neg (by decide)] at h1
        rw [accM_same hb] at hS5
        refine SL.as rfl <| SL.nil <| T.condF rfl <| T.seq <| T.region <| SL.mv rfl <| SL.w (op_callJ en122 rfl (vs := [_, _]) rfl (rexp_spec hT hS5) (by repeat constructor)) ?_
        rintro _ _ X6 ⟨_, rfl, hX6, i6, off6, e6, _, rfl, hS6, rfl⟩
        refine SL.nil <| T.region <| SL.v (op_fieldAddr fa84_1 rfl) <| SL.w (op_store ty3 rfl rfl (by repeat constructor) rfl rfl rfl) ?_
        rintro _ _ _ ⟨rfl, rfl⟩
        refine SL.nil <| T.blk ?_
        exact T.backW 0 (by omega) ⟨3, i6, off6, e6, _, (hX4.trans' hX5).trans' hX6, hS6, expM_sh, h1, rfl, rfl⟩ (by repeat (first | exact Sub.nil | refine Sub.cons rfl ?_))
  rintro _ _ _ X7 ⟨k, i7, off7, e7, sb, hX7, hS7, hsh7, heq7, rfl, rfl⟩
  have hT := hT.mono hX7
  rw [heq7] at heq3
  have h2 : runM (conK2 (exprP (f + 1)) en k) sb = runM (fun l4 => bindR (exprP (f + 1) l4) fun x l5 => bindR (expT wSemi l5) fun _ l6 => .ok ((⟨en, k, (namM sb).1, x⟩ : Con), l6)) (expM wColon (namM sb).2) := by
    rw [← runM_exp]
    exact runM_nam (st := sb) (q := fun s l3 => bindR (expT wColon l3) fun _ l4 => bindR (exprP (f + 1) l4) fun x l5 => bindR (expT wSemi l5) fun _ l6 => .ok ((⟨en, k, s, x⟩ : Con), l6))
  refine T.seq <| T.region <| SL.mv rfl <| SL.w (op_callJ en123 rfl (vs := [_]) rfl (rnam_spec hT hS7) (by repeat constructor)) ?_
  rintro _ _ X8 ⟨_, rfl, hX8, i8, off8, e8, _, rfl, hS8, rfl, rfl⟩
  have hT := hT.mono hX8
  refine SL.v (op_fieldAddr fa84_2 rfl) <| SL.w (op_store ty9 rfl rfl (by repeat constructor) rfl rfl rfl) ?_
  rintro _ _ _ ⟨rfl, rfl⟩
  refine SL.nil <| T.seq <| T.region <| SL.mv rfl <| SL.w (op_callJ en122 rfl (vs := [_, _]) rfl (rexp_spec hT hS8) (by repeat constructor)) ?_
  rintro _ _ X9 ⟨_, rfl, hX9, i9, off9, e9, _, rfl, hS9, rfl⟩
  have hT := hT.mono hX9
  have hsh9 := ((hsh3.trans hsh7).trans (namM_sh (st := sb))).trans (expM_sh (w := wColon))
  have hlt9 := ((hsh7.trans (namM_sh (st := sb))).trans (expM_sh (w := wColon))).len
  refine SL.nil <| T.seq <| T.region <| SL.mv rfl <| SL.w (op_callJ en49 rfl (vs := [_]) rfl (rexpr_all f hT hS9 (hsh9.lt hf)) (by repeat constructor)) ?_
  rintro _ _ Y1 ⟨_, rfl, hY1, j1, of1, er1, sc, rfl, hSc, x, q, rfl, hx, hO, hshc⟩
  obtain ⟨o8, n8, a8, b8, l8, c8, m8, d8, rfl⟩ := hx.form
  have hT := hT.mono hY1
  rw [runM_par hO, runM_exp] at h2
  have hlc := hshc.len
  refine SL.v (op_fieldAddr fa84_3 rfl) <| SL.w (op_store ty45 rfl rfl (by repeat constructor) rfl rfl rfl) ?_
  rintro _ _ _ ⟨rfl, rfl⟩
  refine SL.nil <| T.seq <| T.region <| SL.mv rfl <| SL.w (op_callJ en122 rfl (vs := [_, _]) rfl (rexp_spec hT hSc) (by repeat constructor)) ?_
  rintro _ _ Y2 ⟨_, rfl, hY2, j2, of2, er2, _, rfl, hSd, rfl⟩
  have hld := (expM_sh (st := sc) (w := wSemi)).len
  refine SL.nil <| T.seq <| T.region <| SL.v (op_load ty84 rfl (by repeat constructor) rfl) ?_
  refine SL.w (op_store ty84 rfl rfl (by repeat constructor) rfl rfl rfl) ?_
  rintro _ _ _ ⟨rfl, rfl⟩
  refine SL.nil <| T.drop B3 (by repeat constructor) ?_
  refine T.retM1S [_] _ rfl (ResIs.cell rfl ty84 (by repeat constructor) rfl) (List.sublist_cons_self _ _) (List.Perm.refl _) ?_
  exact ⟨((((( hX1.trans' hX3).trans' hX7).trans' hX8).trans' hX9).trans' hY1).trans' hY2, _, rfl, j2, of2, er2, _, rfl, hSd, ⟨en, k, (namM sb).1, x⟩, (en, k, (namM sb).1, _, _, _, _), rfl, ⟨rfl, rfl, rfl, hx.mono hY2⟩, by rw [heq3, h2]; exact out_ok rfl, fun h => Nat.lt_of_le_of_lt (Nat.le_trans (Nat.le_trans hld hlc) hlt9) (hd3 h)⟩
end Go.Proofs.YtnabbnhefjfegaaGreatDoor
namespace Go.Proofs.YtnabbnhefjfegaaGreatDoor
section
set_option maxRecDepth 100000
theorem en48 : Enters Tryz.prog 48 := enters_mk Tryz.func48 (by kernel_rfl) rfl
theorem fv110_0 : FVal Tryz.prog 110 0 0 false 1 := ⟨⟨_, _, Tryz.underlying110, rfl, rfl, ty3⟩⟩
theorem z107 : Zero Tryz.prog 107 [.slice none 0 0, .int .i64 0, .int .i64 0, .int .i64 0] := ⟨zero_of (by kernel_rfl)⟩
theorem st107 : StT Tryz.prog 107 [(0, 1), (1, 1), (2, 1), (3, 1)] [.slice none 0 0, .int .i64 0, .int .i64 0, .int .i64 0] := ⟨⟨_, Tryz.underlying107, fun _ => by kernel_rfl, z107⟩⟩
end
open Go.RowKit
theorem scanG_num (N : Nat) : ∀ (f : Nat) (l : List UInt8) (ts : List Tk), scanG N f l = .ok ts → ∀ t ∈ ts, t.kind = 2 → t.num ≤ 999999
  | 0, l, ts, h => by cases h
  | f + 1, l, ts, h => by
    rw [scanG] at h
    cases hk : skipL false l with
    | nil =>
      rw [hk] at h
      simp only [Except.ok.injEq] at h
      intro t ht h2
      rw [← h] at ht
      rw [List.mem_singleton.1 ht] at h2
      cases h2
    | cons b r =>
      rw [hk] at h
      simp only at h
      cases ht : tok1 (b :: r) with
      | none => rw [ht] at h; cases h
      | some x =>
        obtain ⟨k, t, n⟩ := x
        rw [ht] at h
        simp only at h
        cases hr : scanG N f ((b :: r).drop t.length) with
        | error o => rw [hr] at h; cases h
        | ok us =>
          rw [hr] at h
          simp only [consR, Except.ok.injEq] at h
          intro u hu h2
          rw [← h] at hu
          rcases List.mem_cons.1 hu with rfl | hu
          · obtain ⟨_, hn2, _⟩ := tok1_pre ht
            obtain ⟨rfl, h6, hd⟩ := hn2 h2
            have := valL_lt t.length t rfl hd
            have h10 : 10 ^ t.length ≤ 10 ^ 6 := Nat.pow_le_pow_right (by decide) h6
            show valL t ≤ 999999
            omega
          · exact scanG_num N f _ us hr u hu h2
theorem begM_ok {s : ByteArray} {ts : List Tk} (h : begM s = .ok ts) : s.size ≤ 8000 ∧ scanL s.size (bl s) = .ok ts := by
  rw [begM] at h
  split at h
  · cases h
  · rename_i h8
    split at h
    · rename_i us hsc
      simp only [Except.ok.injEq] at h
      exact ⟨by omega, by rw [hsc, h]⟩
    · cases h
theorem tksI_of {X : PMap} {v : Value} {s : ByteArray} {ts : List Tk} (h : begM s = .ok ts) (hR : RowR rcTi X v ts) : TksI X v ts ∧ 0 < ts.length ∧ ts.length ≤ 8001 := by
  obtain ⟨h8, hsc⟩ := begM_ok h
  obtain ⟨ts0, rfl, hl0, hk0⟩ := scanL_fin hsc
  rw [bl_size] at hl0
  have hll : (ts0 ++ [(⟨0, ⟨#[]⟩, 0, s.size⟩ : Tk)]).length = ts0.length + 1 := by simp
  exact ⟨⟨hR, by omega, fun t ht => by
    rw [hll, Nat.add_sub_cancel, List.getElem?_append_right (Nat.le_refl _), Nat.sub_self] at ht
    cases ht; rfl, scanG_num _ _ _ _ hsc⟩, by omega, by omega⟩
end Go.Proofs.YtnabbnhefjfegaaGreatDoor
namespace Go.Proofs.YtnabbnhefjfegaaGreatDoor
open Go.RowKit
def errN {α : Type} (r : Res α) : Prop := ∀ x, r = .error x → x.2 ≠ 0
theorem bindR_N {α β : Type} {x : Res α} {f : α → List Tk → Res β} (h : errN x) (hf : ∀ a l, errN (f a l)) : errN (bindR x f) := by
  cases x with
  | error e => intro y hy; cases hy; exact h e rfl
  | ok y => exact hf y.1 y.2
theorem if_N {α : Type} {c : Prop} [Decidable c] {x y : Res α} (h1 : errN x) (h2 : errN y) : errN (if c then x else y) := by
  split
  · exact h1
  · exact h2
theorem ok_N {α : Type} {a : α × List Tk} : errN (.ok a) := fun x h => by cases h
theorem err_N {α : Type} {o : Nat} {c : Int} (h : c ≠ 0) : errN (.error (o, c) : Res α) := fun x hx => by cases hx; exact h
theorem nameT_N : ∀ l, errN (nameT l)
  | [] => err_N (by decide)
  | t :: l => if_N (err_N (by decide)) (if_N (err_N (by decide)) ok_N)
theorem expT_N {w : ByteArray} (l : List Tk) : errN (expT w l) := if_N ok_N (err_N (by decide))
theorem leftG_N {w : ByteArray} {op : Nat} {p : ParP} (hp : ∀ l, errN (p l)) : ∀ (k : Nat) (x : Ex) (l : List Tk), errN (leftG w op p k x l)
  | 0, x, l => ok_N
  | k + 1, x, l => if_N (bindR_N (hp _) fun y l' => leftG_N hp k _ l') ok_N
theorem leftP_N {w : ByteArray} {op : Nat} {p : ParP} (hp : ∀ l, errN (p l)) (l : List Tk) : errN (leftP w op p l) := bindR_N (hp l) fun x l' => leftG_N hp _ _ _
theorem cmpP_N {p : ParP} (hp : ∀ l, errN (p l)) (l : List Tk) : errN (cmpP p l) := by
  rw [cmpP_eq]
  refine bindR_N (leftP_N hp l) fun x l' => ?_
  cases cmps.find? fun c => isT c.1 l' with
  | none => exact ok_N
  | some c => exact bindR_N (leftP_N hp _) fun y l'' => ok_N
theorem negP_N {p : ParP} (hp : ∀ l, errN (p l)) : ∀ k l, errN (negP p k l)
  | 0, _ => err_N (by decide)
  | k + 1, l => if_N (bindR_N (negP_N hp k _) fun x l' => ok_N) (cmpP_N hp l)
theorem implP_N {p : ParP} (hp : ∀ l, errN (p l)) : ∀ k l, errN (implP p k l)
  | 0, _ => err_N (by decide)
  | k + 1, l => bindR_N (leftP_N (leftP_N fun l => negP_N hp _ l) l) fun x l' => if_N (bindR_N (implP_N hp k _) fun y l'' => ok_N) ok_N
theorem namesG_N : ∀ (k : Nat) (ns : List ByteArray) (l : List Tk), errN (namesG k ns l)
  | 0, ns, _ => ok_N
  | k + 1, ns, l => if_N (bindR_N (nameT_N _) fun s l' => namesG_N k _ l') ok_N
theorem namesP_N {several : Bool} (l : List Tk) : errN (namesP several l) :=
  bindR_N (expT_N l) fun _ l1 => bindR_N (nameT_N l1) fun s l2 => bindR_N (namesG_N _ _ l2) fun ns l3 => bindR_N (expT_N l3) fun _ l4 => ok_N
theorem primP_N {ex : ParP} (hx : ∀ l, errN (ex l)) : ∀ l, errN (primP ex l)
  | [] => err_N (by decide)
  | t :: l => if_N ok_N (if_N ok_N (if_N ok_N (if_N (bindR_N (namesP_N l) fun _ _ => ok_N) (if_N (bindR_N (namesP_N l) fun _ _ => ok_N) (if_N (bindR_N (hx l) fun x l' => bindR_N (expT_N l') fun _ _ => ok_N) (bindR_N (nameT_N _) fun _ _ => ok_N))))))
theorem exprP_N : ∀ f l, errN (exprP f l)
  | 0, _ => err_N (by decide)
  | f + 1, l => implP_N (primP_N (exprP_N f)) _ l
end Go.Proofs.YtnabbnhefjfegaaGreatDoor
namespace Go.Proofs.YtnabbnhefjfegaaGreatDoor
open Go.RowKit
mutual
theorem ops_of : ∀ e : Ex, nodeE e = 0 → opsE e
  | .mk op n ns al, h => by
    obtain ⟨h1, h2⟩ := node_ok h
    obtain ⟨_, o2, _⟩ := own_ok h1
    exact (show op < 256 ∧ opsL al from ⟨by omega, ops_ofL al h2⟩)
theorem ops_ofL : ∀ l : List Ex, nodeL l = 0 → opsL l
  | [], _ => trivial
  | a :: l, h => by
    have h1 : nodeE a = 0 := nodeL_zero h a (by simp)
    rw [nodeL, if_neg (fun h => h h1)] at h
    exact (show opsE a ∧ opsL l from ⟨ops_of a h1, ops_ofL l h⟩)
end
theorem begM_len {s : ByteArray} {ts : List Tk} (h : begM s = .ok ts) : ts.length ≤ 8001 := by
  obtain ⟨h8, hsc⟩ := begM_ok h
  obtain ⟨ts0, rfl, hl0, _⟩ := scanL_fin hsc
  rw [bl_size] at hl0
  rw [List.length_append, List.length_singleton]; omega
theorem consP_wt {F : Nat} : ∀ (k : Nat) (cs : List Con) (l : List Tk) (ds : List Con), consP (exprP F) k cs l = .ok ds → wtC ds ≤ wtC cs + 14 * l.length
  | 0, cs, l, ds, h => by rw [consP] at h; simp only [Except.ok.injEq] at h; rw [h]; omega
  | k + 1, cs, l, ds, h => by
    rw [consP] at h
    split at h
    · simp only [Except.ok.injEq] at h; rw [h]; omega
    · cases hc : conP (exprP F) l with
      | error x => rw [hc] at h; cases h
      | ok y =>
        rw [hc] at h
        have h1 := consP_wt k _ _ _ h
        have h2 := conP_wt (exprP_wt F) hc
        simp only [wtC, List.map_append, List.map_cons, List.map_nil, List.sum_append, List.sum_cons, List.sum_nil] at h1 ⊢
        omega
theorem parseM_ok {s : ByteArray} {cs : List Con} (h : parseM s = .ok cs) : chkAll cs = 0 ∧ wtC cs < 200000 := by
  rw [parseM] at h
  cases hb : begM s with
  | error x => rw [hb] at h; cases h
  | ok ts =>
    rw [hb] at h
    simp only at h
    cases he : consP (exprP (ts.length + 1)) (ts.length + 1) [] ts with
    | error x => rw [he] at h; cases h
    | ok ds =>
      rw [he] at h
      simp only at h
      split at h
      · rename_i hc
        simp only [Except.ok.injEq] at h
        subst h
        have h1 := consP_wt _ _ _ _ he
        have h2 := begM_len hb
        simp only [wtC, List.map_nil, List.sum_nil] at h1
        exact ⟨hc, by simp only [wtC]; omega⟩
      · cases h
theorem conP_N {ex : ParP} (hx : ∀ l, errN (ex l)) (l : List Tk) : errN (conP ex l) := by
  have k2 : ∀ en k l, errN (conK2 ex en k l) := fun en k l => bindR_N (nameT_N l) fun s l1 => bindR_N (expT_N l1) fun _ l2 => bindR_N (hx l2) fun x l3 => bindR_N (expT_N l3) fun _ l4 => ok_N
  have k1 : ∀ en l, errN (conK1 ex en l) := fun en l => if_N (k2 _ _ _) (if_N (k2 _ _ _) (bindR_N (expT_N l) fun _ l1 => k2 _ _ _))
  exact if_N (k1 _ _) (bindR_N (expT_N l) fun _ l1 => k1 _ _)
theorem consP_N {ex : ParP} (hx : ∀ l, errN (ex l)) : ∀ (k : Nat) (cs : List Con) (l : List Tk) (x : Nat × Int), consP ex k cs l = .error x → x.2 ≠ 0
  | 0, cs, l, x, h => by rw [consP] at h; cases h
  | k + 1, cs, l, x, h => by
    rw [consP] at h
    split at h
    · cases h
    · cases hc : conP ex l with
      | error y => rw [hc] at h; simp only [Except.error.injEq] at h; subst h; exact conP_N hx l _ hc
      | ok y => rw [hc] at h; exact consP_N hx k _ _ _ h
theorem parseM_err {s : ByteArray} {x : Nat × Int} (h : parseM s = .error x) : x.2 ≠ 0 := by
  rw [parseM] at h
  cases hb : begM s with
  | error y => rw [hb] at h; simp only [Except.error.injEq] at h; subst h; exact begM_err hb
  | ok ts =>
    rw [hb] at h
    simp only at h
    cases he : consP (exprP (ts.length + 1)) (ts.length + 1) [] ts with
    | error y => rw [he] at h; simp only [Except.error.injEq] at h; subst h; exact consP_N (exprP_N _) _ _ _ _ he
    | ok ds =>
      rw [he] at h
      simp only at h
      split at h
      · cases h
      · rename_i hc
        simp only [Except.error.injEq] at h
        subst h
        exact hc
end Go.Proofs.YtnabbnhefjfegaaGreatDoor
namespace Go.Proofs.YtnabbnhefjfegaaGreatDoor
open Go.RowKit
theorem expr17_ok {X : PMap} {s : ByteArray} {e : Ex} (h : exprM s = .ok e) (hs : s.size < 1000000000) : Spec Tryz.prog 20 [.string s] X fun u X' => ∃ r : Row4, u = .tuple #[.agg #[r.1, r.2.1, r.2.2.1, r.2.2.2], .int .i64 0, .int .i64 0] ∧ ExR .u8 X' e r := by
  have := expr17_spec (X := X) hs
  simp only [h] at this
  exact this
theorem expr17_err {X : PMap} {s : ByteArray} {x : Nat × Int} (h : exprM s = .error x) (hs : s.size < 1000000000) : Spec Tryz.prog 20 [.string s] X fun u _ => u = .tuple #[.agg #[.int .u8 0, .int .i64 0, .slice none 0 0, .slice none 0 0], .int .i64 (x.1 : Int), .int .i64 x.2] := by
  have := expr17_spec (X := X) hs
  simp only [h] at this
  exact this
def aw1 : List (ByteArray × ByteArray) := [(⟨#[97, 32, 111, 114, 32, 98, 32, 97, 110, 100, 32, 110, 111, 116, 32, 99, 32, 45, 62, 32, 100]⟩, ⟨#[97, 32, 111, 114, 32, 98, 32, 97, 110, 100, 32, 110, 111, 116, 32, 99, 32, 45, 62, 32, 100]⟩), (⟨#[110, 111, 116, 40, 99, 111, 117, 110, 116, 40, 97, 44, 98, 41, 60, 61, 49, 41]⟩, ⟨#[110, 111, 116, 32, 99, 111, 117, 110, 116, 40, 97, 44, 32, 98, 41, 32, 60, 61, 32, 49]⟩), (⟨#[40, 40, 49, 41, 43, 50, 41, 43, 40, 51, 41, 60, 55]⟩, ⟨#[49, 32, 43, 32, 50, 32, 43, 32, 51, 32, 60, 32, 55]⟩)]
def aw2 : List (ByteArray × Nat × Int) := [(⟨#[97, 32, 60, 32, 98, 32, 60, 32, 99]⟩, 6, 8), (⟨#[97, 32, 97, 110, 100]⟩, 5, 8), (⟨#[97, 32, 97, 110, 100, 32, 111, 114]⟩, 6, 8), (⟨#[99, 111, 117, 110, 116, 40, 41]⟩, 6, 8), (⟨#[97, 32, 97, 110, 100, 32, 116, 104, 105, 114, 116, 101, 101, 110, 95, 108, 111, 110, 103]⟩, 6, 9), (⟨#[99, 111, 117, 110, 116, 40, 97, 44, 32, 97, 41, 32, 61, 61, 32, 49]⟩, 0, 5)]
def rcA (x : ByteArray × ByteArray) : List Value := [.string x.1, .string x.2]
theorem rcA_len (x : ByteArray × ByteArray) : (rcA x).length = 2 := rfl
def rcB (x : ByteArray × Nat × Int) : List Value := [.string x.1, .int .i64 (x.2.1 : Int), .int .i64 x.2.2]
theorem rcB_len (x : ByteArray × Nat × Int) : (rcB x).length = 3 := rfl
theorem mem3 {α : Type} {a b c : α} {P : α → Prop} (h1 : P a) (h2 : P b) (h3 : P c) : ∀ x ∈ [a, b, c], P x := fun x hx => by
  simp only [List.mem_cons, List.not_mem_nil, or_false] at hx
  rcases hx with rfl | rfl | rfl
  · exact h1
  · exact h2
  · exact h3
def ex1 : Ex := .mk 10 0 [] [.mk 9 0 [] [.mk 4 0 [⟨#[97]⟩] [], .mk 8 0 [] [.mk 4 0 [⟨#[98]⟩] [], .mk 7 0 [] [.mk 4 0 [⟨#[99]⟩] []]]], .mk 4 0 [⟨#[100]⟩] []]
def ex2 : Ex := .mk 7 0 [] [.mk 11 0 [] [.mk 5 0 [⟨#[97]⟩, ⟨#[98]⟩] [], .mk 1 1 [] []]]
def ex3 : Ex := .mk 12 0 [] [.mk 16 0 [] [.mk 16 0 [] [.mk 1 1 [] [], .mk 1 2 [] []], .mk 1 3 [] []], .mk 1 7 [] []]
theorem aw1_1 : exprM ⟨#[97, 32, 111, 114, 32, 98, 32, 97, 110, 100, 32, 110, 111, 116, 32, 99, 32, 45, 62, 32, 100]⟩ = .ok ex1 := by kernel_rfl
theorem aw1c_1 : chkE ex1 = 0 := by kernel_rfl
theorem aw1t_1 : textE ex1 = ⟨#[97, 32, 111, 114, 32, 98, 32, 97, 110, 100, 32, 110, 111, 116, 32, 99, 32, 45, 62, 32, 100]⟩ := by kernel_rfl
theorem aw1w_1 : wtE ex1 < 900000 := of_decide_eq_true (by kernel_rfl)
theorem aw1_2 : exprM ⟨#[110, 111, 116, 40, 99, 111, 117, 110, 116, 40, 97, 44, 98, 41, 60, 61, 49, 41]⟩ = .ok ex2 := by kernel_rfl
theorem aw1c_2 : chkE ex2 = 0 := by kernel_rfl
theorem aw1t_2 : textE ex2 = ⟨#[110, 111, 116, 32, 99, 111, 117, 110, 116, 40, 97, 44, 32, 98, 41, 32, 60, 61, 32, 49]⟩ := by kernel_rfl
theorem aw1w_2 : wtE ex2 < 900000 := of_decide_eq_true (by kernel_rfl)
theorem aw1_3 : exprM ⟨#[40, 40, 49, 41, 43, 50, 41, 43, 40, 51, 41, 60, 55]⟩ = .ok ex3 := by kernel_rfl
theorem aw1c_3 : chkE ex3 = 0 := by kernel_rfl
theorem aw1t_3 : textE ex3 = ⟨#[49, 32, 43, 32, 50, 32, 43, 32, 51, 32, 60, 32, 55]⟩ := by kernel_rfl
theorem aw1w_3 : wtE ex3 < 900000 := of_decide_eq_true (by kernel_rfl)
theorem aw2_1 : exprM ⟨#[97, 32, 60, 32, 98, 32, 60, 32, 99]⟩ = .error (6, 8) := by kernel_rfl
theorem aw2_2 : exprM ⟨#[97, 32, 97, 110, 100]⟩ = .error (5, 8) := by kernel_rfl
theorem aw2_3 : exprM ⟨#[97, 32, 97, 110, 100, 32, 111, 114]⟩ = .error (6, 8) := by kernel_rfl
theorem aw2_4 : exprM ⟨#[99, 111, 117, 110, 116, 40, 41]⟩ = .error (6, 8) := by kernel_rfl
theorem aw2_5 : exprM ⟨#[97, 32, 97, 110, 100, 32, 116, 104, 105, 114, 116, 101, 101, 110, 95, 108, 111, 110, 103]⟩ = .error (6, 9) := by kernel_rfl
theorem aw2_6 : exprM ⟨#[99, 111, 117, 110, 116, 40, 97, 44, 32, 97, 41, 32, 61, 61, 32, 49]⟩ = .error (0, 5) := by kernel_rfl
theorem aw1_ok : ∀ x ∈ aw1, x.1.size < 1000000000 ∧ ∃ e, exprM x.1 = .ok e ∧ chkE e = 0 ∧ textE e = x.2 ∧ wtE e < 900000 :=
  mem3 ⟨of_decide_eq_true (by kernel_rfl), _, aw1_1, aw1c_1, aw1t_1, aw1w_1⟩ ⟨of_decide_eq_true (by kernel_rfl), _, aw1_2, aw1c_2, aw1t_2, aw1w_2⟩ ⟨of_decide_eq_true (by kernel_rfl), _, aw1_3, aw1c_3, aw1t_3, aw1w_3⟩
theorem aw2_ok : ∀ x ∈ aw2, x.1.size < 1000000000 ∧ exprM x.1 = .error (x.2.1, x.2.2) := fun x hx => by
  simp only [aw2, List.mem_cons, List.not_mem_nil, or_false] at hx
  rcases hx with rfl | rfl | rfl | rfl | rfl | rfl
  · exact ⟨of_decide_eq_true (by kernel_rfl), aw2_1⟩
  · exact ⟨of_decide_eq_true (by kernel_rfl), aw2_2⟩
  · exact ⟨of_decide_eq_true (by kernel_rfl), aw2_3⟩
  · exact ⟨of_decide_eq_true (by kernel_rfl), aw2_4⟩
  · exact ⟨of_decide_eq_true (by kernel_rfl), aw2_5⟩
  · exact ⟨of_decide_eq_true (by kernel_rfl), aw2_6⟩
def awS : ByteArray := ⟨#[101, 110, 102, 111, 114, 99, 101, 32, 115, 116, 97, 116, 105, 99, 32, 115, 111, 100, 58, 32, 99, 111, 117, 110, 116, 40, 97, 44, 32, 98, 41, 32, 60, 61, 32, 49, 59, 32, 35, 32, 116, 119, 111, 10, 100, 101, 99, 108, 97, 114, 101, 32, 117, 115, 101, 114, 115, 32, 117, 58, 109, 101, 109, 98, 101, 114, 115, 40, 97, 41, 62, 48, 59]⟩
def awC : List Con := [⟨true, 1, ⟨#[115, 111, 100]⟩, .mk 11 0 [] [.mk 5 0 [⟨#[97]⟩, ⟨#[98]⟩] [], .mk 1 1 [] []]⟩, ⟨false, 3, ⟨#[117]⟩, .mk 14 0 [] [.mk 6 0 [⟨#[97]⟩] [], .mk 1 0 [] []]⟩]
theorem aw3 : parseM awS = .ok awC := by kernel_rfl
end Go.Proofs.YtnabbnhefjfegaaGreatDoor
namespace Go.Proofs.YtnabbnhefjfegaaGreatDoor
section
set_option maxRecDepth 100000
theorem bs76 : ∃ i z, Tryz.prog.info? 76 = some i ∧ i.size = 2 ∧ i.zero = some z ∧ z.cells = ([.string ⟨#[]⟩, .string ⟨#[]⟩] : List Value).toArray := bs_of (by kernel_rfl)
theorem bs78 : ∃ i z, Tryz.prog.info? 78 = some i ∧ i.size = 3 ∧ i.zero = some z ∧ z.cells = ([.string ⟨#[]⟩, .int .i64 0, .int .i64 0] : List Value).toArray := bs_of (by kernel_rfl)
theorem en18 : Enters Tryz.prog 18 := enters_mk Tryz.func18 (by kernel_rfl) rfl
theorem en20 : Enters Tryz.prog 20 := enters_mk Tryz.func20 (by kernel_rfl) rfl
theorem en27 : Enters Tryz.prog 27 := enters_mk Tryz.func27 (by kernel_rfl) rfl
theorem fa76_0 : FAdr Tryz.prog 76 0 0 := fadr_mk Tryz.underlying76 rfl rfl (by kernel_rfl)
theorem fa76_1 : FAdr Tryz.prog 76 1 1 := fadr_mk Tryz.underlying76 rfl rfl (by kernel_rfl)
theorem fa78_0 : FAdr Tryz.prog 78 0 0 := fadr_mk Tryz.underlying78 rfl rfl (by kernel_rfl)
theorem fa78_1 : FAdr Tryz.prog 78 1 1 := fadr_mk Tryz.underlying78 rfl rfl (by kernel_rfl)
theorem fa78_2 : FAdr Tryz.prog 78 2 2 := fadr_mk Tryz.underlying78 rfl rfl (by kernel_rfl)
theorem z76 : Zero Tryz.prog 76 [.string ⟨#[]⟩, .string ⟨#[]⟩] := ⟨zero_of (by kernel_rfl)⟩
theorem st76 : StT Tryz.prog 76 [(0, 1), (1, 1)] [.string ⟨#[]⟩, .string ⟨#[]⟩] := ⟨⟨_, Tryz.underlying76, fun _ => by kernel_rfl, z76⟩⟩
theorem z78 : Zero Tryz.prog 78 [.string ⟨#[]⟩, .int .i64 0, .int .i64 0] := ⟨zero_of (by kernel_rfl)⟩
theorem st78 : StT Tryz.prog 78 [(0, 1), (1, 1), (2, 1)] [.string ⟨#[]⟩, .int .i64 0, .int .i64 0] := ⟨⟨_, Tryz.underlying78, fun _ => by kernel_rfl, z78⟩⟩
theorem ty76 : Ty Tryz.prog 76 true 2 := ⟨⟨_, Tryz.underlying76, rfl⟩, by kernel_rfl⟩
theorem ty78 : Ty Tryz.prog 78 true 3 := ⟨⟨_, Tryz.underlying78, rfl⟩, by kernel_rfl⟩
end
open Go.RowKit
theorem short_spec {X : PMap} {s : ByteArray} : Spec Tryz.prog 19 [.string s] X fun u _ => u = .string (s.extract 0 (min s.size 2000)) := by
  refine Spec.enter Tryz.func19 rfl Tryz.ntmps19 rfl ?_
  intro w0 hw0
  refine T.seq <| T.region <| SL.as rfl <| SL.nil <| T.seq <| T.region <| SL.mv rfl <| SL.mv rfl <| SL.v (op_lenStr Tryz.underlying9 rfl) <| SL.v (op_minN (p := s.size) (q := 2000) rfl rfl) <| SL.v (op_sliceStrHi Tryz.underlying9 rfl rfl (by omega)) ?_
  refine SL.as rfl <| SL.nil <| T.ret1 rfl (ResIs.tmp rfl) ?_
  rfl
theorem short_size (s : ByteArray) : (s.extract 0 (min s.size 2000)).size ≤ 2000 := by
  rw [ByteArray.size_extract]; omega
theorem parse_ok {X : PMap} (hP : Pow10 X) {s : ByteArray} {cs : List Con} (h : parseM s = .ok cs) (hs : s.size < 1000000000) : Spec Tryz.prog 18 [.string s] X fun u X' => ∃ v, u = .tuple #[v, .int .i64 0, .int .i64 0] ∧ ConsR X' v cs := by
  have := parse_spec (X := X) hP hs
  simp only [h] at this
  exact this
theorem parse_err {X : PMap} (hP : Pow10 X) {s : ByteArray} {x : Nat × Int} (h : parseM s = .error x) (hs : s.size < 1000000000) : Spec Tryz.prog 18 [.string s] X fun u _ => u = .tuple #[.slice none 0 0, .int .i64 (x.1 : Int), .int .i64 x.2] := by
  have := parse_spec (X := X) hP hs
  simp only [h] at this
  exact this
theorem awake17_spec {X : PMap} (hP : Pow10 X) : Spec Tryz.prog 12 [] X fun u _ => u = .bool true := by
  refine Spec.enter Tryz.func12 rfl Tryz.ntmps12 rfl ?_
  intro w0 hw0
  refine T.seq <| T.region <| SL.as rfl <| SL.nil <| T.seq <| T.seq <| T.region <| SL.v (op_build st76 (qs := [(0, _), (1, _)]) rfl rfl) <| SL.v (op_build st76 (qs := [(0, _), (1, _)]) rfl rfl) <| SL.v (op_build st76 (qs := [(0, _), (1, _)]) rfl rfl) <| SL.w (op_buildSlice Tryz.underlying77 bs76 (qs := [(0, _), (1, _), (2, _)]) rfl rfl rfl rfl rfl) ?_
  rintro _ _ _ ⟨B17, rfl, rfl, rfl⟩
  refine SL.v (op_lenS Tryz.underlying77 rfl) <| SL.v (op_move (v := .int .i64 ((0 : Nat) : Int)) rfl) <| SL.nil <| T.block <| T.pub B17 (by repeat constructor) ?_
  intro X1 hX1 hB17 _
  refine T.loopW (fun m env own X' => ∃ i : Nat, m = 3 - i ∧ i ≤ 3 ∧ X1.le X' ∧ env = [(17, .slice (some ⟨B17, 0, none⟩) 3 3), (18, .int .i64 ((3 : Nat) : Int)), (19, .int .i64 (i : Int))] ∧ own = []) 3 ⟨0, by omega, by omega, PMap.le_refl _, rfl, rfl⟩ (by repeat (first | exact Sub.nil | refine Sub.cons rfl ?_)) ?_
  rintro m _ _ X2 ⟨i, rfl, hi, hX2, rfl, rfl⟩
  have hP2 := (hP.mono hX1).mono hX2
  rcases Nat.lt_or_ge i 3 with hil | hil
  · obtain ⟨x, hx⟩ : ∃ x, aw1[i]? = some x := ⟨_, List.getElem?_eq_getElem hil⟩
    obtain ⟨hsz, e, he, hc, ht, hw⟩ := aw1_ok x (List.mem_of_getElem? hx)
    refine T.seq <| T.region <| SL.v (op_lssT rfl rfl (by omega)) ?_
    refine SL.nil <| T.seq <| T.condT rfl <| T.skip <| T.seq <| T.block <| T.seq <| T.region <| SL.v (op_indexN Tryz.underlying77 ty76 rfl rfl (by omega)) ?_
    refine SL.v (op_loadX ty76 rfl (hB17.mono hX2) (row_read (pre := []) rcA_len (rs := aw1) hx (by show _ = 0 + _; omega))) ?_
    refine SL.w (op_alloc z76) ?_
    rintro _ _ _ ⟨B2, rfl, rfl, rfl⟩
    refine SL.w (op_store ty76 rfl rfl (by repeat constructor) rfl rfl rfl) ?_
    rintro _ _ _ ⟨rfl, rfl⟩
    refine SL.nil <| T.seq <| T.region <| SL.v (op_fieldAddr fa76_0 rfl) <| SL.v (op_load ty9 rfl (by repeat constructor) rfl) ?_
    refine SL.w (op_callF en20 (vs := [_]) rfl (expr17_ok he hsz)) ?_
    rintro _ _ X3 ⟨rfl, hX3, r, rfl, hr⟩
    obtain ⟨o, n, A, B, l, c1, l', c', rfl⟩ := hr.form
    refine SL.mv rfl <| SL.v (op_extract rfl rfl) <| SL.v (op_extract rfl rfl) <| SL.v (op_extract rfl rfl) <| SL.w (op_alloc z40) ?_
    rintro _ _ _ ⟨B3, rfl, rfl, rfl⟩
    refine SL.w (op_store ty40 rfl rfl (by repeat constructor) rfl rfl rfl) ?_
    rintro _ _ _ ⟨rfl, rfl⟩
    refine SL.as rfl <| SL.as rfl <| SL.nil <| T.seq <| T.draw (by kernel_rfl) 13 [.t 0, .t 1, .t 2, .t 3, .t 4, .t 5, .t 6, .t 7, .t 9, .t 10, .r 8, .t 11, .t 12] (by kernel_rfl) ?_
    refine SD.take rfl panicBody (op_move rfl) rfl rfl ?_
    refine SD.take rfl panicBody (op_neqF rfl rfl (by omega)) rfl rfl ?_
    refine SD.take rfl panicBody (op_move rfl) rfl rfl ?_
    refine SD.take rfl panicBody (op_move rfl) rfl rfl ?_
    refine SD.take rfl panicBody (op_neqF rfl rfl (by omega)) rfl rfl ?_
    refine SD.take rfl panicBody (op_pickF rfl rfl) rfl rfl ?_
    refine SD.take rfl panicBody (op_move rfl) rfl rfl ?_
    refine SD.take rfl panicBody (op_load ty40 rfl (by repeat constructor) rfl) rfl rfl ?_
    refine SD.take rfl panicBody (op_fieldAddr fa76_1 rfl) rfl rfl ?_
    refine SD.take rfl panicBody (op_load ty9 rfl (by repeat constructor) rfl) rfl rfl ?_
    have hcall := printA_spec (hP2.mono hX3) hw hr
    try simp only at hcall
    refine SD.run rfl (op_callF en27 (vs := [_]) rfl (hcall)) rfl rfl ?_
    rintro _ _ X4 ⟨rfl, hX4, rfl⟩
    rw [if_pos hc, ht]
    refine SD.take rfl panicBody (op_neqStrD (s := x.2) (s' := x.2) rfl rfl) rfl rfl ?_
    rw [decide_eq_true rfl, Bool.not_true]
    refine SD.take rfl panicBody (op_pickF rfl rfl) rfl rfl ?_
    refine SD.nil ?_
    show SL _ _ _ _ _ _ _ [] _ _ _
    refine SL.nil <| T.condF rfl <| T.skip <| T.blk <| T.region <| SL.v (op_addN (q := 1) rfl rfl (by omega)) ?_
    refine SL.mv rfl <| SL.nil <| T.drop B2 (by repeat constructor) ?_
    refine T.drop B3 (by repeat constructor) ?_
    exact T.backW (3 - (i + 1)) (by omega) ⟨i + 1, rfl, by omega, (hX2.trans' hX3).trans' hX4, rfl, rfl⟩ (by repeat (first | exact Sub.nil | refine Sub.cons rfl ?_))
  · obtain rfl : i = 3 := by omega
    refine T.seq <| T.region <| SL.v (op_lssF rfl rfl (by omega)) ?_
    refine SL.nil <| T.seq <| T.condF rfl ?_
    refine T.exit (T.exitCode (T.exitCut (T.exitBlk ?_)))
    refine T.seq <| T.seq <| T.region <| SL.v (op_build st78 (qs := [(0, _), (1, _), (2, _)]) rfl rfl) <| SL.v (op_build st78 (qs := [(0, _), (1, _), (2, _)]) rfl rfl) <| SL.v (op_build st78 (qs := [(0, _), (1, _), (2, _)]) rfl rfl) <| SL.v (op_build st78 (qs := [(0, _), (1, _), (2, _)]) rfl rfl) <| SL.v (op_build st78 (qs := [(0, _), (1, _), (2, _)]) rfl rfl) <| SL.v (op_build st78 (qs := [(0, _), (1, _), (2, _)]) rfl rfl) <| SL.w (op_buildSlice Tryz.underlying79 bs78 (qs := [(0, _), (1, _), (2, _), (3, _), (4, _), (5, _)]) rfl rfl rfl rfl rfl) ?_
    rintro _ _ _ ⟨B50, rfl, rfl, rfl⟩
    refine SL.v (op_lenS Tryz.underlying79 rfl) <| SL.v (op_move (v := .int .i64 ((0 : Nat) : Int)) rfl) <| SL.nil <| T.block <| T.pub B50 (by repeat constructor) ?_
    intro X3 hX3 hB50 _
    refine T.loopW (fun m env own X' => ∃ i : Nat, m = 6 - i ∧ i ≤ 6 ∧ X3.le X' ∧ env = [(50, .slice (some ⟨B50, 0, none⟩) 6 6), (51, .int .i64 ((6 : Nat) : Int)), (52, .int .i64 (i : Int))] ∧ own = []) 6 ⟨0, by omega, by omega, PMap.le_refl _, rfl, rfl⟩ (by repeat (first | exact Sub.nil | refine Sub.cons rfl ?_)) ?_
    rintro m _ _ X4 ⟨i, rfl, hi, hX4, rfl, rfl⟩
    have hP4 := (hP2.mono hX3).mono hX4
    rcases Nat.lt_or_ge i 6 with hil | hil
    · obtain ⟨x, hx⟩ : ∃ x, aw2[i]? = some x := ⟨_, List.getElem?_eq_getElem hil⟩
      obtain ⟨hsz, he⟩ := aw2_ok x (List.mem_of_getElem? hx)
      refine T.seq <| T.region <| SL.v (op_lssT rfl rfl (by omega)) ?_
      refine SL.nil <| T.seq <| T.condT rfl <| T.skip <| T.seq <| T.block <| T.seq <| T.region <| SL.v (op_indexN Tryz.underlying79 ty78 rfl rfl (by omega)) ?_
      refine SL.v (op_loadX ty78 rfl (hB50.mono hX4) (row_read (pre := []) rcB_len (rs := aw2) hx (by show _ = 0 + _; omega))) ?_
      refine SL.w (op_alloc z78) ?_
      rintro _ _ _ ⟨B7, rfl, rfl, rfl⟩
      refine SL.w (op_store ty78 rfl rfl (by repeat constructor) rfl rfl rfl) ?_
      rintro _ _ _ ⟨rfl, rfl⟩
      refine SL.nil <| T.seq <| T.region <| SL.v (op_fieldAddr fa78_0 rfl) <| SL.v (op_load ty9 rfl (by repeat constructor) rfl) ?_
      refine SL.w (op_callF en20 (vs := [_]) rfl (expr17_err he hsz)) ?_
      rintro _ _ X5 ⟨rfl, hX5, rfl⟩
      refine SL.mv rfl <| SL.v (op_extract rfl rfl) <| SL.v (op_extract rfl rfl) <| SL.v (op_extract rfl rfl) <| SL.w (op_alloc z40) ?_
      rintro _ _ _ ⟨B8, rfl, rfl, rfl⟩
      refine SL.w (op_store ty40 rfl rfl (by repeat constructor) rfl rfl rfl) ?_
      rintro _ _ _ ⟨rfl, rfl⟩
      refine SL.as rfl <| SL.as rfl <| SL.nil <| T.seq <| T.region <| SL.mv rfl <| SL.v (op_fieldAddr fa78_1 rfl) <| SL.v (op_load ty3 rfl (by repeat constructor) rfl) ?_
      refine SL.v (op_neqF rfl rfl (by omega)) ?_
      refine SL.mv rfl <| SL.mv rfl <| SL.v (op_fieldAddr fa78_2 rfl) <| SL.v (op_load ty29 rfl (by repeat constructor) rfl) ?_
      refine SL.v (op_neqF rfl rfl (by omega)) ?_
      refine SL.v (op_pickF rfl rfl) <| SL.nil <| T.condF rfl <| T.skip <| T.blk <| T.region <| SL.v (op_addN (q := 1) rfl rfl (by omega)) ?_
      refine SL.mv rfl <| SL.nil <| T.drop B7 (by repeat constructor) ?_
      refine T.drop B8 (by repeat constructor) ?_
      exact T.backW (6 - (i + 1)) (by omega) ⟨i + 1, rfl, by omega, hX4.trans' hX5, rfl, rfl⟩ (by repeat (first | exact Sub.nil | refine Sub.cons rfl ?_))
    · obtain rfl : i = 6 := by omega
      refine T.seq <| T.region <| SL.v (op_lssF rfl rfl (by omega)) ?_
      refine SL.nil <| T.seq <| T.condF rfl ?_
      refine T.exit (T.exitCode (T.exitCut (T.exitBlk ?_)))
      refine T.seq <| T.region <| SL.w (op_callF en18 (vs := [_]) rfl (parse_ok hP4 aw3 (of_decide_eq_true (by kernel_rfl)))) ?_
      rintro _ _ X5 ⟨rfl, hX5, v, rfl, hv⟩
      obtain ⟨rows, hR, hl, hrow⟩ := hv
      obtain ⟨r0, hr0⟩ : ∃ r, rows[0]? = some r := ⟨_, List.getElem?_eq_getElem (by rw [hl]; decide)⟩
      obtain ⟨r1, hr1⟩ : ∃ r, rows[1]? = some r := ⟨_, List.getElem?_eq_getElem (by rw [hl]; decide)⟩
      have h0 := hrow 0 _ _ rfl hr0
      have h1 := hrow 1 _ _ rfl hr1
      have hl2 : rows.length = 2 := hl
      obtain ⟨A9, c9, rfl⟩ := hR.form
      obtain ⟨b, pre, rfl, hB⟩ := hR.blk (by rw [hl2]; decide)
      obtain ⟨e0, k0, s0, a0⟩ := r0
      obtain ⟨e1, k1, s1, a1⟩ := r1
      obtain ⟨rfl, rfl, rfl, _⟩ := h0
      obtain ⟨rfl, rfl, rfl, _⟩ := h1
      simp only [hl2]
      refine SL.mv rfl <| SL.v (op_extract rfl rfl) <| SL.v (op_extract rfl rfl) <| SL.v (op_extract rfl rfl) <| SL.as rfl <| SL.as rfl <| SL.as rfl <| SL.nil <| T.seq <| T.region <| SL.mv rfl <| SL.v (op_eqlT rfl rfl (by omega)) ?_
      refine SL.mv rfl <| SL.mv rfl <| SL.v (op_lenS Tryz.underlying24 rfl) <| SL.v (op_eqlT rfl rfl (by omega)) ?_
      refine SL.v (op_pickT rfl rfl) <| SL.mv rfl <| SL.mv rfl <| SL.v (op_index Tryz.underlying24 ty82 rfl rfl (by omega) (by omega)) ?_
      refine SL.v (op_fieldAddr fa82_0 rfl) <| SL.v (op_loadX (v := .bool true) ty4 rfl hB (row_cell (sz := 7) (j := 0) rc7_len hr0 rfl (by omega))) ?_
      refine SL.v (op_pickT rfl rfl) <| SL.mv rfl <| SL.mv rfl <| SL.v (op_index Tryz.underlying24 ty82 rfl rfl (by omega) (by omega)) ?_
      refine SL.v (op_fieldAddr fa82_2 rfl) <| SL.v (op_loadX (v := .string ⟨#[115, 111, 100]⟩) ty9 rfl hB (row_cell (sz := 7) (j := 2) rc7_len hr0 rfl (by omega))) ?_
      refine SL.v (op_eqlStrD (s := ⟨#[115, 111, 100]⟩) (s' := ⟨#[115, 111, 100]⟩) rfl rfl) ?_
      rw [decide_eq_true rfl]
      refine SL.v (op_pickT rfl rfl) <| SL.mv rfl <| SL.mv rfl <| SL.v (op_index Tryz.underlying24 ty82 rfl rfl (by omega) (by omega)) ?_
      refine SL.v (op_fieldAddr fa82_1 rfl) <| SL.v (op_loadX (v := .int .u8 3) ty80 rfl hB (row_cell (sz := 7) (j := 1) rc7_len hr1 rfl (by omega))) ?_
      refine SL.v (op_eqlT rfl rfl (by omega)) ?_
      refine SL.v (op_pickT rfl rfl) <| SL.mv rfl <| SL.mv rfl <| SL.v (op_index Tryz.underlying24 ty82 rfl rfl (by omega) (by omega)) ?_
      refine SL.v (op_fieldAddr fa82_0 rfl) <| SL.v (op_loadX (v := .bool false) ty4 rfl hB (row_cell (sz := 7) (j := 0) rc7_len hr1 rfl (by omega))) ?_
      refine SL.v (op_not rfl) <| SL.v (op_pickT rfl rfl) <| SL.as rfl <| SL.nil <| T.ret1 rfl (ResIs.tmp rfl) ?_
      rfl
end Go.Proofs.YtnabbnhefjfegaaGreatDoor
namespace Go.Proofs.YtnabbnhefjfegaaGreatDoor
section
set_option maxRecDepth 100000
theorem st82 : StT Tryz.prog 82 [(0, 1), (1, 1), (2, 1), (3, 4)] [.bool false, .int .u8 0, .string ⟨#[]⟩, .int .u8 0, .int .i64 0, .slice none 0 0, .slice none 0 0] := ⟨⟨_, Tryz.underlying82, fun _ => by kernel_rfl, z82⟩⟩
end
open Go.RowKit
theorem set16_spec {X : PMap} {v : Value} {cs : List Con} (h : ConsRi X v cs) (hl : cs.length < 1000) (hok : ∀ c ∈ cs, c.kind < 256 ∧ opsE c.ex ∧ wtE c.ex < 900000) : Spec Tryz.prog 13 [v] X fun u X' => ConsR X' u cs := by
  obtain ⟨rows, hr, hrl, hrow⟩ := h
  obtain ⟨A, cp, rfl⟩ := hr.form
  have hmx : maxLen = 9223372036854775807 := rfl
  refine Spec.enter Tryz.func13 rfl Tryz.ntmps13 rfl ?_
  intro w0 hw0
  refine T.seq <| T.region <| SL.as rfl <| SL.nil <| T.seq <| T.region <| SL.as rfl <| SL.nil <| T.seq <| T.seq <| T.region <| SL.mv rfl <| SL.v (op_lenS Tryz.underlying26 rfl) <| SL.v (op_move (v := .int .i64 ((0 : Nat) : Int)) rfl) <| SL.nil ?_
  refine T.block <| T.loopW (fun m env own X' => ∃ (i : Nat) (vo : Value) (rs : List Row7), m = rows.length - i ∧ i ≤ rows.length ∧ X.le X' ∧ rs.length = (cs.take i).length ∧ GrowS 82 7 vo rs.length ((rs.map rc7).flatten) own ∧ (∀ (q : Nat) (c : Con) (r : Row7), (cs.take i)[q]? = some c → rs[q]? = some r → ConR X' c r) ∧ env = [(3, vo), (6, .slice A rows.length cp), (7, .int .i64 (rows.length : Int)), (8, .int .i64 (i : Int))]) rows.length ⟨0, _, [], by simp, by omega, PMap.le_refl _, rfl, GrowS.nil, (fun q c r h => by simp at h), rfl⟩ (by repeat (first | exact Sub.nil | refine Sub.cons rfl ?_)) ?_
  rintro m _ G X1 ⟨i, vo, rs, rfl, hi, hX1, hrsl, hG, hrs, rfl⟩
  have hrl2 : rs.length = i := by rw [hrsl, List.length_take]; omega
  obtain ⟨Av, cv, rfl⟩ := hG.form
  rcases Nat.lt_or_ge i rows.length with hil | hil
  · obtain ⟨r2, hr2⟩ : ∃ r2, rows[i]? = some r2 := ⟨_, List.getElem?_eq_getElem hil⟩
    obtain ⟨c, hc2⟩ : ∃ c, cs[i]? = some c := ⟨_, List.getElem?_eq_getElem (by omega)⟩
    have hrc := hrow i c r2 hc2 hr2
    obtain ⟨okk, oko, okw⟩ := hok c (List.mem_of_getElem? hc2)
    obtain ⟨o0, n0, a0, b0, l0, c0, m0, d0, rfl⟩ := hrc.form
    have hex := hrc.2.2.2
    simp only at hex
    obtain ⟨bA, pre, rfl, hbA⟩ := hr.blk (by omega)
    have htk := take_snoc hc2
    refine T.seq <| T.region <| SL.v (op_lssT rfl rfl (by omega)) ?_
    refine SL.nil <| T.seq <| T.condT rfl <| T.skip <| T.seq <| T.block <| T.seq <| T.region <| SL.v (op_indexN Tryz.underlying26 ty84 rfl rfl (by omega)) ?_
    refine SL.v (op_loadX (v := .agg #[.bool c.enf, .int .i64 (c.kind : Int), .string c.name, .int .i64 (o0 : Int), .int .i64 n0, .slice a0 l0 c0, .slice b0 m0 d0]) ty84 rfl (hbA.mono hX1) (row_read rc7i_len hr2 (by omega))) ?_
    refine SL.w (op_alloc z84) ?_
    rintro _ _ _ ⟨B5, rfl, rfl, rfl⟩
    refine SL.w (op_store ty84 rfl rfl (by repeat constructor) rfl rfl rfl) ?_
    rintro _ _ _ ⟨rfl, rfl⟩
    refine SL.nil <| T.drawG (own0 := [_]) (by kernel_rfl) 13 [.t 0, .t 1, .t 2, .t 3, .t 4, .t 5, .t 6, .t 7, .t 8, .t 9, .r 10, .t 11, .r 12] (by kernel_rfl) ?_
    refine SD.take rfl panicBody (op_move rfl) rfl rfl ?_
    refine SD.take rfl panicBody (op_fieldAddr fa84_0 rfl) rfl rfl ?_
    refine SD.take rfl panicBody (op_load ty4 rfl (by repeat constructor) rfl) rfl rfl ?_
    refine SD.take rfl panicBody (op_fieldAddr fa84_1 rfl) rfl rfl ?_
    refine SD.take rfl panicBody (op_load ty3 rfl (by repeat constructor) rfl) rfl rfl ?_
    refine SD.take rfl panicBody (op_convU8 Tryz.underlying3 Tryz.underlying80 rfl (by omega) (by omega)) rfl rfl ?_
    refine SD.take rfl panicBody (op_fieldAddr fa84_2 rfl) rfl rfl ?_
    refine SD.take rfl panicBody (op_load ty9 rfl (by repeat constructor) rfl) rfl rfl ?_
    refine SD.take rfl panicBody (op_fieldAddr fa84_3 rfl) rfl rfl ?_
    refine SD.take rfl panicBody (op_load ty45 rfl (by repeat constructor) rfl) rfl rfl ?_
    have hc := expr_spec 900000 (by omega) (by omega) oko (hex.mono hX1)
    try simp only at hc
    refine SD.run rfl (op_callF en24 (vs := [_]) rfl (hc)) rfl rfl ?_
    rintro _ _ X2 ⟨rfl, hX2, r8, rfl, hr8⟩
    obtain ⟨o8, n8, a8, b8, l8, c8, l9, c9, rfl⟩ := hr8.form
    refine SD.take rfl panicBody (op_build st82 (qs := [(0, _), (1, _), (2, _), (3, _)]) rfl rfl) rfl rfl ?_
    refine SD.run rfl (op_buildSlice Tryz.underlying24 bs82 (qs := [(0, _)]) rfl rfl rfl rfl rfl) rfl rfl ?_
    rintro _ _ _ ⟨B24, rfl, rfl, rfl⟩
    refine SD.nil ?_
    show SL _ _ _ _ _ _ _ [_, _] _ _ _
    refine SL.w (op_appendGA (own0 := [_, _]) (m := 1) sl24 rfl hG rfl (Src.ofOwn0 AtO.here rfl) (by intro y hy; have hy : y ∈ [Value.bool _, Value.int _ _, Value.string _, Value.int _ _, Value.int _ _, Value.slice _ _ _, Value.slice _ _ _] := hy; simp only [List.mem_cons, List.not_mem_nil, or_false] at hy; rcases hy with rfl | rfl | rfl | rfl | rfl | rfl | rfl <;> rfl) (by omega) (by omega)) ?_
    rintro va9 _ _ ⟨Ga9, rfl, rfl, hGa9⟩
    refine SL.as rfl <| SL.nil <| T.blk <| T.region <| SL.v (op_addN (q := 1) rfl rfl (by omega)) ?_
    refine SL.mv rfl <| SL.nil <| T.less (own' := Ga9) (List.Sublist.cons _ (List.sublist_cons_self _ _)) ?_
    have hnew : ConR X2 c (c.enf, c.kind, c.name, .int .u8 (o8 : Int), .int .i64 n8, .slice a8 l8 c8, .slice b8 l9 c9) := ⟨rfl, rfl, rfl, hr8⟩
    have hG10 : GrowS 82 7 va9 (rs ++ [((c.enf, c.kind, c.name, .int .u8 (o8 : Int), .int .i64 n8, .slice a8 l8 c8, .slice b8 l9 c9) : Row7)]).length (((rs ++ [((c.enf, c.kind, c.name, .int .u8 (o8 : Int), .int .i64 n8, .slice a8 l8 c8, .slice b8 l9 c9) : Row7)]).map rc7).flatten) Ga9 := by
      rw [List.length_append, List.map_append, List.flatten_append]
      exact hGa9
    exact T.backW (rows.length - (i + 1)) (by omega) ⟨i + 1, _, _, rfl, by omega, hX1.trans' hX2, by rw [htk, List.length_append, List.length_append, hrsl]; rfl, hG10, by rw [htk]; exact rows_snoc hrsl (fun q c r h1 h2 => (hrs q c r h1 h2).mono hX2) hnew, rfl⟩ (by repeat (first | exact Sub.nil | refine Sub.cons rfl ?_))
  · obtain rfl : i = rows.length := by omega
    rw [show cs.take rows.length = cs from List.take_of_length_le (by omega)] at hrsl hrs
    refine T.seq <| T.region <| SL.v (op_lssF rfl rfl (by omega)) ?_
    refine SL.nil <| T.seq <| T.condF rfl ?_
    refine T.exit (T.exitCode (T.exitCut (T.exitBlk ?_)))
    refine T.seq <| T.region <| SL.mv rfl <| SL.as rfl <| SL.nil <| T.pubG (own0 := []) hG ?_
    intro X9 hX9 hS9
    refine T.ret1 rfl (ResIs.tmp rfl) ?_
    exact ⟨rs, RowR.ofG hG hS9, hrsl, fun q c r h1 h2 => (hrs q c r h1 h2).mono hX9⟩
theorem rline_spec {X : PMap} {c : Con} {r : Row7} (h : ConRi X c r) (h1 : 1 ≤ c.kind) (h3 : c.kind ≤ 3) (hv : c.name.size ≤ 12) (hw : wtE c.ex < 900000) (hn : nodeE c.ex = 0) : Spec Tryz.prog 126 [.agg (rc7i r).toArray] X fun u _ => u = .string (lineB c) := by
  obtain ⟨o0, n0, a0, b0, l0, c0, m0, d0, rfl⟩ := h.form
  have hex := h.2.2.2
  simp only at hex
  have hk := strsC_at (kind_at h1 h3)
  have hts := text_size c.ex
  have hks := kindB_size c.kind
  have hms := modeB_size c
  have k1 : (⟨#[58, 32]⟩ : ByteArray).size = 2 := rfl
  have k2 : (⟨#[59, 10]⟩ : ByteArray).size = 2 := rfl
  have k3 : (⟨#[101, 110, 102, 111, 114, 99, 101, 32]⟩ : ByteArray).size = 8 := rfl
  have k4 : (⟨#[100, 101, 99, 108, 97, 114, 101, 32]⟩ : ByteArray).size = 8 := rfl
  have e0 : (rc7i (c.enf, c.kind, c.name, .int .i64 (o0 : Int), .int .i64 n0, .slice a0 l0 c0, .slice b0 m0 d0)).toArray = #[.bool c.enf, .int .i64 (c.kind : Int), .string c.name, .int .i64 (o0 : Int), .int .i64 n0, .slice a0 l0 c0, .slice b0 m0 d0] := rfl
  rw [e0]
  have key : modeB c = (if c.enf then ⟨#[101, 110, 102, 111, 114, 99, 101, 32]⟩ else ⟨#[100, 101, 99, 108, 97, 114, 101, 32]⟩) := rfl
  have hcall := fun {X' : PMap} (hX : X.le X') => rtext_spec 900000 (by omega) (by omega) hn (hex.mono hX)
  try simp only at hcall
  cases hce : c.enf with
  | true =>
    rw [hce, if_pos rfl] at key
    refine Spec.enter Tryz.func126 rfl Tryz.ntmps126 rfl ?_
    intro w0 hw0
    refine T.seq <| T.region <| SL.w (op_box rfl) ?_
    rintro _ _ _ ⟨B1, rfl, rfl, rfl⟩
    refine SL.as rfl <| SL.nil <| T.seq <| T.region <| SL.as rfl <| SL.nil <| T.seq <| T.seq <| T.region <| SL.v (op_fieldAddr fa84_0 rfl) <| SL.v (op_load ty4 rfl (by repeat constructor) rfl) ?_
    refine SL.nil <| T.condT rfl <| T.region <| SL.as rfl <| SL.nil <| T.seq <| T.drawG (own0 := [_]) (by kernel_rfl) 18 [.t 0, .t 2, .t 3, .t 4, .t 8, .t 9, .t 12, .t 13, .b 1 14 [(0, 5), (0, 6), (0, 7), (0, 10), (0, 11), (2, 14), (0, 15), (0, 16), (0, 17)] [(2, 1), (0, 5), (0, 6), (0, 7), (0, 10), (0, 11), (0, 15), (0, 16), (0, 17)]] (by kernel_rfl) ?_
    refine SD.take rfl panicBody (op_move rfl) rfl rfl ?_
    refine SD.take rfl panicBody (op_fieldAddr fa84_1 rfl) rfl rfl ?_
    refine SD.take rfl panicBody (op_load ty3 rfl (by repeat constructor) rfl) rfl rfl ?_
    refine SD.take rfl panicBody (op_subN (q := 1) rfl rfl (by omega) (by omega)) rfl rfl ?_
    refine SD.take rfl panicBody (op_fieldAddr fa84_2 rfl) rfl rfl ?_
    refine SD.take rfl panicBody (op_load ty9 rfl (by repeat constructor) rfl) rfl rfl ?_
    refine SD.take rfl panicBody (op_fieldAddr fa84_3 rfl) rfl rfl ?_
    refine SD.take rfl panicBody (op_load ty45 rfl (by repeat constructor) rfl) rfl rfl ?_
    refine SD.branch rfl rfl (op_buildSlice Tryz.underlying37 bs9 (qs := [(0, _), (1, _), (2, _)]) rfl rfl rfl rfl rfl) (op_callF en149 (vs := [_]) rfl (hcall (PMap.le_refl _))) rfl rfl rfl rfl ?_ ?_
    · rintro _ _ _ ⟨B7, rfl, rfl, rfl⟩
      change SD _ _ _ _ _ _ _ _ _ _ _ [.t 5, .t 6, .t 7, .t 10, .t 11, .r 14, .t 15, .t 16, .t 17] _ _ _
      refine SD.up (by intro p hp; first | exact hp | exact List.mem_cons_of_mem _ hp) (by first | exact PMap.le_refl _ | assumption) ?_
      refine SD.take rfl panicBody (op_indexN Tryz.underlying37 ty9 rfl rfl (by omega)) rfl rfl ?_
      refine SD.take rfl panicBody (op_load ty9 rfl (by repeat constructor) (cread1k' hk (by omega))) rfl rfl ?_
      refine SD.take rfl panicBody (op_addStr rfl rfl (by first | omega | (simp only [ByteArray.size_append]; omega))) rfl rfl ?_
      refine SD.take rfl panicBody (op_addStr rfl rfl (by first | omega | (simp only [ByteArray.size_append]; omega))) rfl rfl ?_
      refine SD.take rfl panicBody (op_addStr rfl rfl (by first | omega | (simp only [ByteArray.size_append]; omega))) rfl rfl ?_
      refine SD.run rfl (op_callF en149 (vs := [_]) rfl (hcall (PMap.le_refl _))) rfl rfl ?_
      rintro _ _ X2 ⟨rfl, hX2, rfl⟩
      refine SD.take rfl panicBody (op_addStr rfl rfl (by first | omega | (simp only [ByteArray.size_append]; omega))) rfl rfl ?_
      refine SD.take rfl panicBody (op_addStr rfl rfl (by first | omega | (simp only [ByteArray.size_append]; omega))) rfl rfl ?_
      refine SD.take rfl panicBody (op_assign rfl) rfl rfl ?_
      refine SD.nil ?_
      show SL _ _ _ _ _ _ _ [] _ _ _
      refine SL.nil <| T.ret1 rfl (ResIs.tmp rfl) ?_
      rw [lineB, key]
    · rintro _ _ X2 ⟨rfl, hX2, rfl⟩
      change SD _ _ _ _ _ _ _ _ _ _ _ [.r 1, .t 5, .t 6, .t 7, .t 10, .t 11, .t 15, .t 16, .t 17] _ _ _
      refine SD.up (by intro p hp; first | exact hp | exact List.mem_cons_of_mem _ hp) (by first | exact PMap.le_refl _ | assumption) ?_
      refine SD.run rfl (op_buildSlice Tryz.underlying37 bs9 (qs := [(0, _), (1, _), (2, _)]) rfl rfl rfl rfl rfl) rfl rfl ?_
      rintro _ _ _ ⟨B7, rfl, rfl, rfl⟩
      refine SD.take rfl panicBody (op_indexN Tryz.underlying37 ty9 rfl rfl (by omega)) rfl rfl ?_
      refine SD.up (by intro p hp; first | exact hp | exact List.mem_cons_of_mem _ hp | exact List.mem_append_right _ hp) (by first | exact PMap.le_refl _ | assumption) ?_
      refine SD.take rfl panicBody (op_load ty9 rfl (by repeat constructor) (cread1k' hk (by omega))) rfl rfl ?_
      refine SD.take rfl panicBody (op_addStr rfl rfl (by first | omega | (simp only [ByteArray.size_append]; omega))) rfl rfl ?_
      refine SD.take rfl panicBody (op_addStr rfl rfl (by first | omega | (simp only [ByteArray.size_append]; omega))) rfl rfl ?_
      refine SD.take rfl panicBody (op_addStr rfl rfl (by first | omega | (simp only [ByteArray.size_append]; omega))) rfl rfl ?_
      refine SD.take rfl panicBody (op_addStr rfl rfl (by first | omega | (simp only [ByteArray.size_append]; omega))) rfl rfl ?_
      refine SD.take rfl panicBody (op_addStr rfl rfl (by first | omega | (simp only [ByteArray.size_append]; omega))) rfl rfl ?_
      refine SD.take rfl panicBody (op_assign rfl) rfl rfl ?_
      refine SD.nil ?_
      show SL _ _ _ _ _ _ _ [] _ _ _
      refine SL.nil <| T.ret1 rfl (ResIs.tmp rfl) ?_
      rw [lineB, key]
  | false =>
    rw [hce, if_neg (by simp)] at key
    refine Spec.enter Tryz.func126 rfl Tryz.ntmps126 rfl ?_
    intro w0 hw0
    refine T.seq <| T.region <| SL.w (op_box rfl) ?_
    rintro _ _ _ ⟨B1, rfl, rfl, rfl⟩
    refine SL.as rfl <| SL.nil <| T.seq <| T.region <| SL.as rfl <| SL.nil <| T.seq <| T.seq <| T.region <| SL.v (op_fieldAddr fa84_0 rfl) <| SL.v (op_load ty4 rfl (by repeat constructor) rfl) ?_
    refine SL.nil <| T.condF rfl <| T.skip <| T.seq <| T.drawG (own0 := [_]) (by kernel_rfl) 18 [.t 0, .t 2, .t 3, .t 4, .t 8, .t 9, .t 12, .t 13, .b 1 14 [(0, 5), (0, 6), (0, 7), (0, 10), (0, 11), (2, 14), (0, 15), (0, 16), (0, 17)] [(2, 1), (0, 5), (0, 6), (0, 7), (0, 10), (0, 11), (0, 15), (0, 16), (0, 17)]] (by kernel_rfl) ?_
    refine SD.take rfl panicBody (op_move rfl) rfl rfl ?_
    refine SD.take rfl panicBody (op_fieldAddr fa84_1 rfl) rfl rfl ?_
    refine SD.take rfl panicBody (op_load ty3 rfl (by repeat constructor) rfl) rfl rfl ?_
    refine SD.take rfl panicBody (op_subN (q := 1) rfl rfl (by omega) (by omega)) rfl rfl ?_
    refine SD.take rfl panicBody (op_fieldAddr fa84_2 rfl) rfl rfl ?_
    refine SD.take rfl panicBody (op_load ty9 rfl (by repeat constructor) rfl) rfl rfl ?_
    refine SD.take rfl panicBody (op_fieldAddr fa84_3 rfl) rfl rfl ?_
    refine SD.take rfl panicBody (op_load ty45 rfl (by repeat constructor) rfl) rfl rfl ?_
    refine SD.branch rfl rfl (op_buildSlice Tryz.underlying37 bs9 (qs := [(0, _), (1, _), (2, _)]) rfl rfl rfl rfl rfl) (op_callF en149 (vs := [_]) rfl (hcall (PMap.le_refl _))) rfl rfl rfl rfl ?_ ?_
    · rintro _ _ _ ⟨B7, rfl, rfl, rfl⟩
      change SD _ _ _ _ _ _ _ _ _ _ _ [.t 5, .t 6, .t 7, .t 10, .t 11, .r 14, .t 15, .t 16, .t 17] _ _ _
      refine SD.up (by intro p hp; first | exact hp | exact List.mem_cons_of_mem _ hp) (by first | exact PMap.le_refl _ | assumption) ?_
      refine SD.take rfl panicBody (op_indexN Tryz.underlying37 ty9 rfl rfl (by omega)) rfl rfl ?_
      refine SD.take rfl panicBody (op_load ty9 rfl (by repeat constructor) (cread1k' hk (by omega))) rfl rfl ?_
      refine SD.take rfl panicBody (op_addStr rfl rfl (by first | omega | (simp only [ByteArray.size_append]; omega))) rfl rfl ?_
      refine SD.take rfl panicBody (op_addStr rfl rfl (by first | omega | (simp only [ByteArray.size_append]; omega))) rfl rfl ?_
      refine SD.take rfl panicBody (op_addStr rfl rfl (by first | omega | (simp only [ByteArray.size_append]; omega))) rfl rfl ?_
      refine SD.run rfl (op_callF en149 (vs := [_]) rfl (hcall (PMap.le_refl _))) rfl rfl ?_
      rintro _ _ X2 ⟨rfl, hX2, rfl⟩
      refine SD.take rfl panicBody (op_addStr rfl rfl (by first | omega | (simp only [ByteArray.size_append]; omega))) rfl rfl ?_
      refine SD.take rfl panicBody (op_addStr rfl rfl (by first | omega | (simp only [ByteArray.size_append]; omega))) rfl rfl ?_
      refine SD.take rfl panicBody (op_assign rfl) rfl rfl ?_
      refine SD.nil ?_
      show SL _ _ _ _ _ _ _ [] _ _ _
      refine SL.nil <| T.ret1 rfl (ResIs.tmp rfl) ?_
      rw [lineB, key]
    · rintro _ _ X2 ⟨rfl, hX2, rfl⟩
      change SD _ _ _ _ _ _ _ _ _ _ _ [.r 1, .t 5, .t 6, .t 7, .t 10, .t 11, .t 15, .t 16, .t 17] _ _ _
      refine SD.up (by intro p hp; first | exact hp | exact List.mem_cons_of_mem _ hp) (by first | exact PMap.le_refl _ | assumption) ?_
      refine SD.run rfl (op_buildSlice Tryz.underlying37 bs9 (qs := [(0, _), (1, _), (2, _)]) rfl rfl rfl rfl rfl) rfl rfl ?_
      rintro _ _ _ ⟨B7, rfl, rfl, rfl⟩
      refine SD.take rfl panicBody (op_indexN Tryz.underlying37 ty9 rfl rfl (by omega)) rfl rfl ?_
      refine SD.up (by intro p hp; first | exact hp | exact List.mem_cons_of_mem _ hp | exact List.mem_append_right _ hp) (by first | exact PMap.le_refl _ | assumption) ?_
      refine SD.take rfl panicBody (op_load ty9 rfl (by repeat constructor) (cread1k' hk (by omega))) rfl rfl ?_
      refine SD.take rfl panicBody (op_addStr rfl rfl (by first | omega | (simp only [ByteArray.size_append]; omega))) rfl rfl ?_
      refine SD.take rfl panicBody (op_addStr rfl rfl (by first | omega | (simp only [ByteArray.size_append]; omega))) rfl rfl ?_
      refine SD.take rfl panicBody (op_addStr rfl rfl (by first | omega | (simp only [ByteArray.size_append]; omega))) rfl rfl ?_
      refine SD.take rfl panicBody (op_addStr rfl rfl (by first | omega | (simp only [ByteArray.size_append]; omega))) rfl rfl ?_
      refine SD.take rfl panicBody (op_addStr rfl rfl (by first | omega | (simp only [ByteArray.size_append]; omega))) rfl rfl ?_
      refine SD.take rfl panicBody (op_assign rfl) rfl rfl ?_
      refine SD.nil ?_
      show SL _ _ _ _ _ _ _ [] _ _ _
      refine SL.nil <| T.ret1 rfl (ResIs.tmp rfl) ?_
      rw [lineB, key]
end Go.Proofs.YtnabbnhefjfegaaGreatDoor
namespace Go.Proofs.YtnabbnhefjfegaaGreatDoor
open Go.RowKit
end Go.Proofs.YtnabbnhefjfegaaGreatDoor
namespace Go.Proofs.YtnabbnhefjfegaaGreatDoor
open Go.RowKit
/-- Ascending, each one once. -/
def StrS (l : List ByteArray) : Prop := l.Pairwise fun a b => ltS a b = true
theorem StrS.nodup {l : List ByteArray} (h : StrS l) : l.Nodup := h.imp fun {a b} hab e => by subst e; rw [lt_irr] at hab; cases hab
theorem StrS.same : ∀ {l m : List ByteArray}, StrS l → StrS m → (∀ x, x ∈ l ↔ x ∈ m) → l = m
  | [], [], _, _, _ => rfl
  | [], b :: m, _, _, h => by have := (h b).2 (by simp); cases this
  | a :: l, [], _, _, h => by have := (h a).1 (by simp); cases this
  | a :: l, b :: m, h1, h2, h => by
    obtain ⟨g1, g2⟩ := List.pairwise_cons.1 h1
    obtain ⟨k1, k2⟩ := List.pairwise_cons.1 h2
    have hab : a = b := by
      rcases List.mem_cons.1 ((h a).1 (by simp)) with e | hm
      · exact e
      · rcases List.mem_cons.1 ((h b).2 (by simp)) with e | hl
        · exact e.symm
        · have := lt_asym (k1 a hm)
          rw [g1 b hl] at this; cases this
    subst hab
    rw [StrS.same g2 k2 fun x => ?_]
    have hx := h x
    constructor
    · intro hxl
      rcases List.mem_cons.1 (hx.1 (by simp [hxl])) with e | hm
      · subst e; have := g1 x hxl; rw [lt_irr] at this; cases this
      · exact hm
    · intro hxm
      rcases List.mem_cons.1 (hx.2 (by simp [hxm])) with e | hm
      · subst e; have := k1 x hxm; rw [lt_irr] at this; cases this
      · exact hm
theorem strs_snoc (l : List ByteArray) (s : ByteArray) : strsC l ++ [.string s] = strsC (l ++ [s]) := by simp [strsC]
theorem growS_snoc {y : ByteArray} {vo : Value} {cs : List ByteArray} {G : Own} (h : GrowS 9 1 vo (cs.length + 1) (strsC cs ++ [.string y]) G) : GrowS 9 1 vo (cs ++ [y]).length (strsC (cs ++ [y])) G := by rw [List.length_append, ← strs_snoc]; exact h
end Go.Proofs.YtnabbnhefjfegaaGreatDoor
namespace Go.Proofs.YtnabbnhefjfegaaGreatDoor
section
set_option maxRecDepth 100000
theorem en126 : Enters Tryz.prog 126 := enters_mk Tryz.func126 (by kernel_rfl) rfl
end
open Go.RowKit
theorem RowR.lent {α : Type} {rc : α → List Value} {X1 : PMap} {e : TypeId} {size : Nat} {v : Value} {rs : List α} {G : Own} (hg : GrowS e size v rs.length (rs.map rc).flatten G) (h2 : ∀ p ∈ G, Blk X1 p.b p.cs) : RowR rc X1 v rs := by
  rcases hg with ⟨h0, _, rfl, _⟩ | ⟨b, cap, rfl, rfl, h3, h4, _⟩
  · exact .inl ⟨List.eq_nil_of_length_eq_zero h0, _, _, rfl⟩
  · rcases Nat.eq_zero_or_pos rs.length with h0 | h0
    · exact .inl ⟨List.eq_nil_of_length_eq_zero h0, _, _, by rw [h0]⟩
    · exact .inr ⟨h0, b, cap, [], rfl, h2 ⟨b, _, e, cap * size⟩ (by simp), h3, h4⟩
theorem rcheck_spec {X : PMap} {v : Value} {cs : List Con} (h : ConsRi X v cs) (hl : cs.length ≤ 40) (hw : wtC cs < 15000000) (hww : ∀ c ∈ cs, wtE c.ex < 900000) : Spec Tryz.prog 64 [v] X fun u _ => u = .int .i64 (chkAll cs) := by
  obtain ⟨rows, hr, hrl, hrow⟩ := h
  obtain ⟨A, cp, rfl⟩ := hr.form
  have hmx : maxLen = 9223372036854775807 := rfl
  by_cases h32 : 32 < cs.length
  · refine Spec.enter Tryz.func64 rfl Tryz.ntmps64 rfl ?_
    intro w0 hw0
    refine T.seq <| T.region <| SL.v (op_assign (v := .int .i64 ((0 : Nat) : Int)) rfl) <| SL.nil <| T.seq <| T.seq <| T.region <| SL.mv rfl <| SL.v (op_lenS Tryz.underlying26 rfl) <| SL.v (op_gtrT rfl rfl (by omega)) ?_
    refine SL.nil <| T.condT rfl <| T.seq <| T.region <| SL.v (op_assign (v := .int .i64 ((3 : Nat) : Int)) rfl) <| SL.nil <| T.ret1 rfl (ResIs.tmp rfl) ?_
    rw [chkAll, if_pos h32]; rfl
  refine Spec.enter Tryz.func64 rfl Tryz.ntmps64 rfl ?_
  intro w0 hw0
  refine T.seq <| T.region <| SL.v (op_assign (v := .int .i64 ((0 : Nat) : Int)) rfl) <| SL.nil <| T.seq <| T.seq <| T.region <| SL.mv rfl <| SL.v (op_lenS Tryz.underlying26 rfl) <| SL.v (op_gtrF rfl rfl (by omega)) ?_
  refine SL.nil <| T.condF rfl <| T.skip <| T.seq <| T.region <| SL.v (op_assign (v := .int .i64 ((0 : Nat) : Int)) rfl) <| SL.nil <| T.seq <| T.region <| SL.as rfl <| SL.nil <| T.seq <| T.seq <| T.region <| SL.mv rfl ?_
  refine SL.v (op_lenS Tryz.underlying26 rfl) <| SL.v (op_move (v := .int .i64 ((0 : Nat) : Int)) rfl) <| SL.nil <| T.block <| T.loopW (fun m env own X' => ∃ (i : Nat) (vo : Value), m = rows.length - i ∧ i ≤ rows.length ∧ X.le X' ∧ chkCs [] (cs.take i) = 0 ∧ GrowS 9 1 vo ((cs.take i).map (·.name)).length (strsC ((cs.take i).map (·.name))) own ∧ env = [(3, .int .i64 ((linesL (cs.take i)).length : Int)), (4, vo), (11, .slice A rows.length cp), (12, .int .i64 (rows.length : Int)), (13, .int .i64 (i : Int))]) rows.length ⟨0, _, by simp, by omega, PMap.le_refl _, by simp [chkCs], GrowS.nil, rfl⟩ (by repeat (first | exact Sub.nil | refine Sub.cons rfl ?_)) ?_
  rintro m _ G X1 ⟨i, vo, rfl, hi, hX1, hz0, hG, rfl⟩
  have hll := linesL_len (cs := cs.take i) fun c hc => (chkCs_mem hz0 c hc).2.2.1.2.1
  have hwt := wtC_take_le cs i
  have hti : (cs.take i).length ≤ 40 := by rw [List.length_take]; omega
  obtain ⟨Av, cv, rfl⟩ := hG.form
  rcases Nat.lt_or_ge i rows.length with hil | hil
  · obtain ⟨r2, hr2⟩ : ∃ r2, rows[i]? = some r2 := ⟨_, List.getElem?_eq_getElem hil⟩
    obtain ⟨c, hc2⟩ : ∃ c, cs[i]? = some c := ⟨_, List.getElem?_eq_getElem (by omega)⟩
    have hmc := List.mem_of_getElem? hc2
    have hrc := hrow i c r2 hc2 hr2
    obtain ⟨bA, pre, rfl, hbA⟩ := hr.blk (by omega)
    have hrc0 := hrc
    obtain ⟨o8, n8, a8, b8, l8, c8, l9, c9, rfl⟩ := hrc.form
    have hex := hrc.2.2.2
    simp only at hex
    have hwe := hww c hmc
    have hts := take_snoc hc2
    refine T.seq <| T.region <| SL.v (op_lssT rfl rfl (by omega)) ?_
    refine SL.nil <| T.seq <| T.condT rfl <| T.skip <| T.seq <| T.block <| T.seq <| T.region <| SL.v (op_indexN Tryz.underlying26 ty84 rfl rfl (by omega)) ?_
    refine SL.v (op_loadX (v := .agg #[.bool c.enf, .int .i64 (c.kind : Int), .string c.name, .int .i64 (o8 : Int), .int .i64 n8, .slice a8 l8 c8, .slice b8 l9 c9]) ty84 rfl (hbA.mono hX1) (row_read rc7i_len hr2 (by omega))) ?_
    by_cases hk1 : c.kind < 1
    · have he : errC ((cs.take i).map (·.name)) c = 1 := by rw [errC, if_pos (.inl hk1)]
      refine SL.w (op_alloc z84) ?_
      rintro _ _ _ ⟨B6, rfl, rfl, rfl⟩
      refine SL.w (op_store ty84 rfl rfl (by repeat constructor) rfl rfl rfl) ?_
      rintro _ _ _ ⟨rfl, rfl⟩
      refine SL.nil <| T.seq <| T.seq <| T.region <| SL.v (op_fieldAddr fa84_1 rfl) <| SL.v (op_load ty3 rfl (by repeat constructor) rfl) ?_
      refine SL.v (op_lssT rfl rfl (by omega)) ?_
      refine SL.mv rfl <| SL.skip rfl rfl ?_
      refine SL.skip rfl rfl ?_
      refine SL.skip rfl rfl ?_
      refine SL.v (op_pickT rfl rfl) <| SL.nil <| T.condT rfl <| T.seq <| T.region <| SL.v (op_assign (v := .int .i64 ((1 : Nat) : Int)) rfl) <| SL.nil <| T.ret1 rfl (ResIs.tmp rfl) ?_
      rw [chkAll, if_neg h32, chkCs_at hz0 hc2 (by rw [he]; decide), he]; rfl
    by_cases hk3 : 3 < c.kind
    · have he : errC ((cs.take i).map (·.name)) c = 1 := by rw [errC, if_pos (.inr hk3)]
      refine SL.w (op_alloc z84) ?_
      rintro _ _ _ ⟨B6, rfl, rfl, rfl⟩
      refine SL.w (op_store ty84 rfl rfl (by repeat constructor) rfl rfl rfl) ?_
      rintro _ _ _ ⟨rfl, rfl⟩
      refine SL.nil <| T.seq <| T.seq <| T.region <| SL.v (op_fieldAddr fa84_1 rfl) <| SL.v (op_load ty3 rfl (by repeat constructor) rfl) ?_
      refine SL.v (op_lssF rfl rfl (by omega)) ?_
      refine SL.mv rfl <| SL.v (op_fieldAddr fa84_1 rfl) <| SL.v (op_load ty3 rfl (by repeat constructor) rfl) ?_
      refine SL.v (op_gtrT rfl rfl (by omega)) ?_
      refine SL.v (op_pickF rfl rfl) <| SL.nil <| T.condT rfl <| T.seq <| T.region <| SL.v (op_assign (v := .int .i64 ((1 : Nat) : Int)) rfl) <| SL.nil <| T.ret1 rfl (ResIs.tmp rfl) ?_
      rw [chkAll, if_neg h32, chkCs_at hz0 hc2 (by rw [he]; decide), he]; rfl
    have hk : ¬(c.kind < 1 ∨ 3 < c.kind) := fun h => by omega
    refine SL.w (op_alloc z84) ?_
    rintro _ _ _ ⟨B6, rfl, rfl, rfl⟩
    refine SL.w (op_store ty84 rfl rfl (by repeat constructor) rfl rfl rfl) ?_
    rintro _ _ _ ⟨rfl, rfl⟩
    refine SL.nil <| T.seq <| T.seq <| T.region <| SL.v (op_fieldAddr fa84_1 rfl) <| SL.v (op_load ty3 rfl (by repeat constructor) rfl) ?_
    refine SL.v (op_lssF rfl rfl (by omega)) ?_
    refine SL.mv rfl <| SL.v (op_fieldAddr fa84_1 rfl) <| SL.v (op_load ty3 rfl (by repeat constructor) rfl) ?_
    refine SL.v (op_gtrF rfl rfl (by omega)) ?_
    refine SL.v (op_pickF rfl rfl) <| SL.nil <| T.condF rfl <| T.skip <| T.seq <| T.seq <| T.region <| SL.v (op_fieldAddr fa84_2 rfl) <| SL.v (op_load ty9 rfl (by repeat constructor) rfl) ?_
    refine SL.w (op_callF en124 (vs := [_]) rfl (rvalid_spec)) ?_
    rintro _ _ X3 ⟨rfl, hX3, rfl⟩
    by_cases hv : validS c.name
    case neg =>
      have he : errC ((cs.take i).map (·.name)) c = 9 := by rw [errC, if_neg hk, if_pos hv]
      rw [decide_eq_false hv]
      refine SL.v (op_not rfl) <| SL.nil <| T.condT rfl <| T.seq <| T.region <| SL.v (op_assign (v := .int .i64 ((9 : Nat) : Int)) rfl) <| SL.nil <| T.ret1 rfl (ResIs.tmp rfl) ?_
      rw [chkAll, if_neg h32, chkCs_at hz0 hc2 (by rw [he]; decide), he]; rfl
    rw [decide_eq_true hv]
    refine SL.v (op_not rfl) <| SL.nil <| T.condF rfl <| T.skip <| T.seq <| T.seq <| T.region <| SL.mv rfl <| SL.v (op_fieldAddr fa84_2 rfl) <| SL.v (op_load ty9 rfl (by repeat constructor) rfl) ?_
    refine SL.w (op_callLend en125 (vs := [_, _]) rfl ((fun X1 h1 h2 => (number_spec8 (s := c.name) (RowR.lent (rc := strC) (by rw [strsC_flat]; exact hG) (fun p hp => h2 p (List.mem_cons_of_mem _ hp))) (by rw [List.length_map]; omega) : Spec _ _ _ _ fun u _ => ∃ k : Int, u = .int .i64 k ∧ (0 < k ↔ c.name ∈ (cs.take i).map (·.name)) ∧ 0 ≤ k)))) ?_
    rintro _ _ _ ⟨rfl, rfl, k, rfl, hkm, hk0⟩
    by_cases hm : c.name ∈ (cs.take i).map (·.name)
    · have he : errC ((cs.take i).map (·.name)) c = 5 := by rw [errC, if_neg hk, if_neg (fun h => h hv), if_pos hm]
      have hkp := hkm.2 hm
      refine SL.v (op_gtrT rfl rfl (by omega)) ?_
      refine SL.nil <| T.condT rfl <| T.seq <| T.region <| SL.v (op_assign (v := .int .i64 ((5 : Nat) : Int)) rfl) <| SL.nil <| T.ret1 rfl (ResIs.tmp rfl) ?_
      rw [chkAll, if_neg h32, chkCs_at hz0 hc2 (by rw [he]; decide), he]; rfl
    have he : errC ((cs.take i).map (·.name)) c = chkE c.ex := by rw [errC, if_neg hk, if_neg (fun h => h hv), if_neg hm]
    have hkn : ¬0 < k := fun h => hm (hkm.1 h)
    refine SL.v (op_gtrF rfl rfl (by omega)) ?_
    refine SL.nil <| T.condF rfl <| T.skip <| T.seq <| T.region <| SL.mv rfl <| SL.v (op_fieldAddr fa84_2 rfl) <| SL.v (op_load ty9 rfl (by repeat constructor) rfl) ?_
    refine SL.w (op_buildSlice Tryz.underlying37 bs9 (qs := [(0, _)]) rfl rfl rfl rfl rfl) ?_
    rintro _ _ _ ⟨B37, rfl, rfl, rfl⟩
    refine SL.w (op_appendG (own0 := [_]) sl37 rfl hG rfl rfl rfl (by rw [List.length_map]; omega) (by rw [List.length_map]; omega)) ?_
    rintro vo2 _ _ ⟨G2, rfl, rfl, hG2⟩
    have hG2 := growS_snoc hG2
    refine SL.as rfl <| SL.nil <| T.seq <| T.region <| SL.v (op_fieldAddr fa84_3 rfl) <| SL.v (op_load ty45 rfl (by repeat constructor) rfl) ?_
    have hcc := rchk_spec (Nat.lt_trans hwe (by omega)) ((hex.mono hX1).mono hX3)
    try simp only at hcc
    refine SL.w (op_callF en28 (vs := [_]) rfl (hcc)) ?_
    rintro _ _ X5 ⟨rfl, hX5, rfl⟩
    by_cases hz : chkE c.ex = 0
    · rw [hz] at he
      rw [hz]
      have hls := lineB_size (c := c) hv.2.1
      have hX15 := (hX1.trans' hX3).trans' hX5
      have hrl2 := rline_spec (hrc0.mono hX15) (by omega) (by omega) hv.2.1 hwe (chkE_node hz)
      try simp only [rc7i] at hrl2
      refine SL.as rfl <| SL.nil <| T.seq <| T.seq <| T.region <| SL.mv rfl <| SL.v (op_neqF rfl rfl (by omega)) ?_
      refine SL.nil <| T.condF rfl <| T.skip <| T.region <| SL.mv rfl <| SL.v (op_load ty84 rfl (by repeat constructor) rfl) ?_
      refine SL.w (op_callF en126 (vs := [_]) rfl (hrl2)) ?_
      rintro _ _ X6 ⟨rfl, hX6, rfl⟩
      refine SL.v (op_lenStr Tryz.underlying9 rfl) <| SL.v (op_addN rfl rfl (by omega)) ?_
      refine SL.as rfl <| SL.nil <| T.blk <| T.region <| SL.v (op_addN (q := 1) rfl rfl (by omega)) ?_
      refine SL.mv rfl <| SL.nil <| T.less (List.sublist_cons_self _ _) ?_
      have hln : (linesL (cs.take (i + 1))).length = (linesL (cs.take i)).length + (lineB c).size := by
        rw [hts, linesL_snoc, List.length_append]; simp
      have hnm : (cs.take (i + 1)).map (·.name) = (cs.take i).map (·.name) ++ [c.name] := by rw [hts, List.map_append]; rfl
      exact T.backW (rows.length - (i + 1)) (by omega) ⟨i + 1, _, rfl, by omega, hX15.trans' hX6, chkCs_snoc hz0 hc2 he, by rw [hnm]; exact hG2, by rw [hln]⟩ (by repeat (first | exact Sub.nil | refine Sub.cons rfl ?_))
    · refine SL.as rfl <| SL.nil <| T.seq <| T.seq <| T.region <| SL.mv rfl <| SL.v (op_neqT rfl rfl (by omega)) ?_
      refine SL.nil <| T.condT rfl <| T.seq <| T.region <| SL.mv rfl <| SL.as rfl <| SL.nil <| T.ret1 rfl (ResIs.tmp rfl) ?_
      rw [chkAll, if_neg h32, chkCs_at hz0 hc2 (by rw [he]; exact hz), he, if_pos hz]
  · obtain rfl : i = rows.length := by omega
    have e : cs.take rows.length = cs := List.take_of_length_le (by omega)
    rw [e] at hz0 hll ⊢
    by_cases h8 : 8000 < (linesL cs).length
    · skip
      refine T.seq <| T.region <| SL.v (op_lssF rfl rfl (by omega)) ?_
      refine SL.nil <| T.seq <| T.condF rfl ?_
      refine T.exit (T.exitCode (T.exitCut (T.exitBlk ?_)))
      refine T.seq <| T.seq <| T.region <| SL.mv rfl <| SL.v (op_gtrT rfl rfl (by omega)) ?_
      refine SL.nil <| T.condT rfl <| T.seq <| T.region <| SL.v (op_assign (v := .int .i64 ((3 : Nat) : Int)) rfl) <| SL.nil <| T.ret1 rfl (ResIs.tmp rfl) ?_
      rw [chkAll, if_neg h32, if_neg (by simp [hz0]), if_pos h8]; rfl
    · refine T.seq <| T.region <| SL.v (op_lssF rfl rfl (by omega)) ?_
      refine SL.nil <| T.seq <| T.condF rfl ?_
      refine T.exit (T.exitCode (T.exitCut (T.exitBlk ?_)))
      refine T.seq <| T.seq <| T.region <| SL.mv rfl <| SL.v (op_gtrF rfl rfl (by omega)) ?_
      refine SL.nil <| T.condF rfl <| T.skip <| T.seq <| T.region <| SL.v (op_assign (v := .int .i64 ((0 : Nat) : Int)) rfl) <| SL.nil <| T.ret1 rfl (ResIs.tmp rfl) ?_
      rw [chkAll, if_neg h32, if_neg (by simp [hz0]), if_neg h8]; rfl
end Go.Proofs.YtnabbnhefjfegaaGreatDoor
namespace Go.Proofs.YtnabbnhefjfegaaGreatDoor
section
set_option maxRecDepth 100000
theorem en63 : Enters Tryz.prog 63 := enters_mk Tryz.func63 (by kernel_rfl) rfl
theorem en64 : Enters Tryz.prog 64 := enters_mk Tryz.func64 (by kernel_rfl) rfl
end
open Go.RowKit
theorem rcheckB_spec {X : PMap} {v : Value} {cs : List Con} (h : ConsRi X v cs) (hw : wtC cs < 15000000) (hww : ∀ c ∈ cs, wtE c.ex < 900000) : Spec Tryz.prog 64 [v] X fun u _ => u = .int .i64 (chkAll cs) := by
  by_cases h32 : 32 < cs.length
  · obtain ⟨rows, hr, hrl, hrow⟩ := h
    obtain ⟨A, cp, rfl⟩ := hr.form
    refine Spec.enter Tryz.func64 rfl Tryz.ntmps64 rfl ?_
    intro w0 hw0
    refine T.seq <| T.region <| SL.v (op_assign (v := .int .i64 ((0 : Nat) : Int)) rfl) <| SL.nil <| T.seq <| T.seq <| T.region <| SL.mv rfl <| SL.v (op_lenS Tryz.underlying26 rfl) <| SL.v (op_gtrT rfl rfl (by omega)) ?_
    refine SL.nil <| T.condT rfl <| T.seq <| T.region <| SL.v (op_assign (v := .int .i64 ((3 : Nat) : Int)) rfl) <| SL.nil <| T.ret1 rfl (ResIs.tmp rfl) ?_
    rw [chkAll, if_pos h32]
    rfl
  · exact rcheck_spec h (by omega) hw hww
theorem rparse_spec {X : PMap} {s : ByteArray} (hs : s.size < 1000000000) : Spec Tryz.prog 30 [.string s] X fun u X' => match parseM s with
    | .error x => u = .tuple #[.slice none 0 0, .int .i64 (x.1 : Int), .int .i64 x.2]
    | .ok cs => ∃ v, u = .tuple #[v, .int .i64 0, .int .i64 0] ∧ ConsRi X' v cs := by
  have hmx : maxLen = 9223372036854775807 := rfl
  cases hb : begM s with
  | error x =>
    have hm : parseM s = .error x := by rw [parseM, hb]
    rw [begM] at hb
    by_cases h8 : 8000 < s.size
    · rw [if_pos h8] at hb
      simp only [Except.error.injEq] at hb
      subst hb
      refine Spec.enter Tryz.func30 rfl Tryz.ntmps30 rfl ?_
      intro w0 hw0
      refine T.seq <| T.region <| SL.as rfl <| SL.v (op_assign (v := .int .i64 ((0 : Nat) : Int)) rfl) <| SL.v (op_assign (v := .int .i64 ((0 : Nat) : Int)) rfl) <| SL.nil <| T.seq <| T.region <| SL.mv rfl <| SL.w (op_callF en48 (vs := [_]) rfl (rscan_spec hs)) ?_
      rintro u1 _ X1 ⟨rfl, hX1, hu1⟩
      rw [if_pos h8] at hu1
      subst hu1
      refine SL.mv rfl <| SL.v (op_extract rfl rfl) <| SL.v (op_extract rfl rfl) <| SL.v (op_extract rfl rfl) <| SL.as rfl <| SL.as rfl <| SL.as rfl <| SL.nil <| T.seq <| T.seq <| T.region <| SL.mv rfl <| SL.v (op_neqT rfl rfl (by omega)) ?_
      refine SL.nil <| T.condT rfl <| T.seq <| T.region <| SL.mv rfl <| SL.mv rfl <| SL.as rfl <| SL.as rfl <| SL.as rfl <| SL.nil <| T.ret3 rfl rfl rfl rfl ?_
      rw [hm]
      rfl
    · rw [if_neg h8] at hb
      cases hsc : scanL s.size (bl s) with
      | ok ts => rw [hsc] at hb; cases hb
      | error o =>
        rw [hsc] at hb
        simp only [Except.error.injEq] at hb
        subst hb
        refine Spec.enter Tryz.func30 rfl Tryz.ntmps30 rfl ?_
        intro w0 hw0
        refine T.seq <| T.region <| SL.as rfl <| SL.v (op_assign (v := .int .i64 ((0 : Nat) : Int)) rfl) <| SL.v (op_assign (v := .int .i64 ((0 : Nat) : Int)) rfl) <| SL.nil <| T.seq <| T.region <| SL.mv rfl <| SL.w (op_callF en48 (vs := [_]) rfl (rscan_spec hs)) ?_
        rintro u1 _ X1 ⟨rfl, hX1, hu1⟩
        rw [if_neg h8, hsc] at hu1
        simp only at hu1
        subst hu1
        refine SL.mv rfl <| SL.v (op_extract rfl rfl) <| SL.v (op_extract rfl rfl) <| SL.v (op_extract rfl rfl) <| SL.as rfl <| SL.as rfl <| SL.as rfl <| SL.nil <| T.seq <| T.seq <| T.region <| SL.mv rfl <| SL.v (op_neqT rfl rfl (by omega)) ?_
        refine SL.nil <| T.condT rfl <| T.seq <| T.region <| SL.mv rfl <| SL.mv rfl <| SL.as rfl <| SL.as rfl <| SL.as rfl <| SL.nil <| T.ret3 rfl rfl rfl rfl ?_
        rw [hm]
        rfl
  | ok ts =>
    have hrun := parseM_run hb
    obtain ⟨h8, hsc⟩ := begM_ok hb
    refine Spec.enter Tryz.func30 rfl Tryz.ntmps30 rfl ?_
    intro w0 hw0
    refine T.seq <| T.region <| SL.as rfl <| SL.v (op_assign (v := .int .i64 ((0 : Nat) : Int)) rfl) <| SL.v (op_assign (v := .int .i64 ((0 : Nat) : Int)) rfl) <| SL.nil <| T.seq <| T.region <| SL.mv rfl <| SL.w (op_callF en48 (vs := [_]) rfl (rscan_spec hs)) ?_
    rintro u1 _ X1 ⟨rfl, hX1, hu1⟩
    rw [if_neg (by omega), hsc] at hu1
    simp only at hu1
    obtain ⟨v, rfl, hR⟩ := hu1
    obtain ⟨hT, h0, hl8⟩ := tksI_of hb hR
    obtain ⟨A, cp, rfl⟩ := hR.form
    refine SL.mv rfl <| SL.v (op_extract rfl rfl) <| SL.v (op_extract rfl rfl) <| SL.v (op_extract rfl rfl) <| SL.as rfl <| SL.as rfl <| SL.as rfl <| SL.nil <| T.seq <| T.seq <| T.region <| SL.mv rfl <| SL.v (op_neqF rfl rfl (by omega)) ?_
    refine SL.nil <| T.condF rfl <| T.skip <| T.seq <| T.region <| SL.mv rfl <| SL.v (op_build st107 (qs := [(0, _)]) rfl rfl) <| SL.w (op_box rfl) ?_
    rintro _ _ _ ⟨B23, rfl, rfl, rfl⟩
    refine SL.as rfl <| SL.nil <| T.seq <| T.region <| SL.as rfl <| SL.nil <| T.seq <| T.block <| T.loopW (fun m env own X' => ∃ (cs : List Con) (rows : List Row7) (vs : Value) (G : Own) (i off : Nat) (e : Int) (sa : RSt) (k : Nat), m = lenS sa ∧ X1.le X' ∧ RdS ts sa i off e ∧ (∀ l, sa = .ok l → l.length < ts.length + 1) ∧ lenS sa < k ∧ cs.length + lenS sa ≤ ts.length ∧ runC (consP (exprP (ts.length + 1)) (ts.length + 1) []) (.ok ts) = runC (consP (exprP (ts.length + 1)) k cs) sa ∧ (∀ l, sa = .ok l → wtC cs + 14 * l.length ≤ 14 * ts.length) ∧ rows.length = cs.length ∧ (∀ (i : Nat) (c : Con) (r : Row7), cs[i]? = some c → rows[i]? = some r → ConRi X' c r) ∧ GrowS 84 7 vs rows.length (rows.map rc7i).flatten G ∧ env = [(8, .pointer (some ⟨B23, 0, none⟩)), (9, vs)] ∧ own = RdI B23 (.slice A ts.length cp) i off e :: G) (lenS (.ok ts)) ⟨[], [], _, [], 0, 0, 0, .ok ts, ts.length + 1, rfl, PMap.le_refl _, RdS.zero h0, fun l h => (by cases h; exact Nat.lt_succ_self _), Nat.lt_succ_self _, by simp [lenS], rfl, fun l h => (by cases h; simp [wtC]), rfl, fun i c r h => (by cases h), GrowS.nil, rfl, rfl⟩ (by repeat (first | exact Sub.nil | refine Sub.cons rfl ?_)) ?_
    rintro m _ _ X2 ⟨cs, rows, vs, G, i2, off2, e2, sa, k, rfl, hX2, hS2, hf2, hk2, hn2, heq, hwt, hrl, hrows, hG, rfl, rfl⟩
    have hT := hT.mono hX2
    obtain ⟨t, ht⟩ := hS2.tok
    obtain ⟨Av, cv, rfl⟩ := hG.form
    by_cases he2 : e2 = 0
    · obtain ⟨l, rfl⟩ : ∃ l, sa = .ok l := by
        obtain ⟨_, h2⟩ := hS2
        cases sa with
        | error y => exact absurd (h2.2.1.symm.trans he2) h2.2.2
        | ok l => exact ⟨l, rfl⟩
      subst he2
      have hll : l = t :: ts.drop (i2 + 1) := by rw [hS2.2.2.2]; exact drop_tok ht
      refine T.seq <| T.seq <| T.region <| SL.mv rfl <| SL.v (op_nil rfl) <| SL.v (op_fieldAddr fa107_3 rfl) <| SL.v (op_load ty3 rfl (by repeat constructor) rfl) ?_
      refine SL.v (op_eqlT rfl rfl (by omega)) ?_
      refine SL.mv rfl <| SL.mv rfl <| SL.w (op_callLend en50 (vs := [_]) rfl ((fun X1 h1 h2 => (rpeek_spec (hT.row.mono h1) hT.len (h2 (RdI B23 _ i2 off2 0) (by simp)) ht : Spec _ _ _ _ fun u _ => u = .agg (rcTi (pk 0 t)).toArray)))) ?_
      rintro _ _ _ ⟨rfl, rfl, rfl⟩
      rw [pk, if_pos rfl, show (rcTi t).toArray = #[.int .i64 (t.kind : Int), .string t.text, .int .i64 (t.num : Int), .int .i64 (t.off : Int)] from rfl]
      by_cases hk : t.kind = 0
      case neg =>
        have hhd : hdK l ≠ 0 := by rw [hll]; exact hk
        have hpos : 0 < lenS (.ok l) := by rw [hll]; exact Nat.succ_pos _
        obtain ⟨k, rfl⟩ : ∃ q, k = q + 1 := ⟨k - 1, by omega⟩
        refine SL.v (op_field1 fv110_0 rfl rfl) <| SL.v (op_neqT rfl rfl (by omega)) ?_
        refine SL.v (op_pickT rfl rfl) <| SL.nil <| T.condT rfl <| T.skip <| T.block <| T.region <| SL.mv rfl <| SL.mv rfl <| SL.w (op_callJ en63 rfl (vs := [_]) rfl (rcon_spec (f := ts.length) hT hS2 hf2) (by repeat constructor)) ?_
        rintro _ _ X3 ⟨_, rfl, hX3, i3, off3, e3, sb, rfl, hS3, c, r, rfl, hc, hO, hdec⟩
        obtain ⟨o9, n9, a9, b9, l9, c9, m9, d9, rfl⟩ := hc.form
        have hdec := hdec hpos
        have hstep := consP_step (k := k) (cs := cs) hhd hO
        have hwt2 : ∀ l', sb = .ok l' → wtC (cs ++ [c]) + 14 * l'.length ≤ 14 * ts.length := fun l' h => by
          subst h
          simp only [runM] at hO
          cases he : conP (exprP (ts.length + 1)) l with
          | error y => rw [he] at hO; cases hO
          | ok y =>
            rw [he] at hO
            obtain ⟨rfl, h2⟩ := hO
            have h3 := Except.ok.inj h2
            subst h3
            have a1 := conP_wt (exprP_wt _) he
            have a2 := hwt l rfl
            simp only [wtC, List.map_append, List.map_cons, List.map_nil, List.sum_append, List.sum_cons, List.sum_nil] at a2 ⊢
            omega
        refine SL.w (op_buildSlice Tryz.underlying26 bs84 (qs := [(0, _)]) rfl rfl rfl rfl rfl) ?_
        rintro _ _ _ ⟨B38, rfl, rfl, rfl⟩
        refine SL.w (op_appendG (own0 := [_]) sl26 rfl hG rfl rfl rfl (by omega) (by omega)) ?_
        rintro vn _ _ ⟨G2, rfl, rfl, hG2⟩
        have hG2 : GrowS 84 7 vn (rows ++ [(c.enf, c.kind, c.name, Value.int .i64 (o9 : Int), Value.int .i64 n9, Value.slice a9 l9 c9, Value.slice b9 m9 d9)]).length ((rows ++ [(c.enf, c.kind, c.name, Value.int .i64 (o9 : Int), Value.int .i64 n9, Value.slice a9 l9 c9, Value.slice b9 m9 d9)]).map rc7i).flatten G2 := by rw [List.length_append, List.map_append, List.flatten_append]; exact hG2
        refine SL.as rfl <| SL.nil <| T.blk ?_
        exact T.backW (lenS sb) (by omega) ⟨cs ++ [c], _, vn, G2, i3, off3, e3, sb, k, rfl, hX2.trans' hX3, hS3, fun l' h => (by subst h; have : l'.length < l.length := hdec; have := hf2 l rfl; omega), by omega, by rw [List.length_append]; simp; omega, by rw [heq, hstep], hwt2, by rw [List.length_append, List.length_append, hrl]; rfl, rows_snoc hrl (fun i c r a b => (hrows i c r a b).mono hX3) hc, hG2, rfl, rfl⟩ (by repeat (first | exact Sub.nil | refine Sub.cons rfl ?_))
      have hhd : hdK l = 0 := by rw [hll]; exact hk
      obtain ⟨k, rfl⟩ : ∃ q, k = q + 1 := ⟨k - 1, by omega⟩
      have hrun : parseM s = if chkAll cs = 0 then .ok cs else .error (0, chkAll cs) := by
        rw [heq] at hrun
        rw [hrun]
        simp only [runC, consP_stop hhd]
      have hw0 := hwt l rfl
      refine SL.v (op_field1 fv110_0 rfl rfl) <| SL.v (op_neqF rfl rfl (by omega)) ?_
      refine SL.v (op_pickT rfl rfl) <| SL.nil <| T.condF rfl ?_
      refine T.exit (T.exitCode (T.exitCut (T.exitBlk ?_)))
      refine T.seq <| T.seq <| T.region <| SL.mv rfl <| SL.v (op_nil rfl) <| SL.v (op_fieldAddr fa107_3 rfl) <| SL.v (op_load ty3 rfl (by repeat constructor) rfl) ?_
      refine SL.v (op_neqF rfl rfl (by omega)) ?_
      refine SL.nil <| T.condF rfl <| T.skip <| T.seq <| T.pubG (own0 := [_]) hG ?_
      intro X9 hX9 hS9
      have hC : ConsRi X9 (.slice Av rows.length cv) cs := ⟨rows, RowR.ofG hG hS9, hrl, fun i c r a b => (hrows i c r a b).mono hX9⟩
      refine T.seq <| T.region <| SL.mv rfl <| SL.w (op_callF en64 (vs := [_]) rfl (rcheckB_spec hC (by omega) (fun c hc => by have := wtC_mem hc; omega))) ?_
      rintro _ _ Y1 ⟨rfl, hY1, rfl⟩
      by_cases hz : chkAll cs = 0
      · skip
        refine SL.as rfl <| SL.nil <| T.seq <| T.region <| SL.mv rfl <| SL.v (op_neqF rfl rfl (by omega)) ?_
        refine SL.nil <| T.condF rfl <| T.skip <| T.seq <| T.region <| SL.mv rfl <| SL.as rfl <| SL.v (op_assign (v := .int .i64 ((0 : Nat) : Int)) rfl) <| SL.v (op_assign (v := .int .i64 ((0 : Nat) : Int)) rfl) <| SL.nil <| T.ret3 rfl rfl rfl rfl ?_
        rw [hrun, if_pos hz]
        exact ⟨_, rfl, hC.mono hY1⟩
      · refine SL.as rfl <| SL.nil <| T.seq <| T.region <| SL.mv rfl <| SL.v (op_neqT rfl rfl (by omega)) ?_
        refine SL.nil <| T.condT rfl <| T.seq <| T.region <| SL.mv rfl <| SL.as rfl <| SL.v (op_assign (v := .int .i64 ((0 : Nat) : Int)) rfl) <| SL.as rfl <| SL.nil <| T.ret3 rfl rfl rfl rfl ?_
        rw [hrun, if_neg hz]
    · rw [heq] at hrun
      cases sa with
      | ok l => exact absurd hS2.2.2.1 he2
      | error y =>
        obtain ⟨_, rfl, rfl, hy⟩ := hS2
        obtain ⟨o, c⟩ := y
        simp only at hy he2
        refine T.seq <| T.seq <| T.region <| SL.mv rfl <| SL.v (op_nil rfl) <| SL.v (op_fieldAddr fa107_3 rfl) <| SL.v (op_load ty3 rfl (by repeat constructor) rfl) ?_
        refine SL.v (op_eqlF rfl rfl (by omega)) ?_
        refine SL.mv rfl <| SL.skip rfl rfl ?_
        refine SL.skip rfl rfl ?_
        refine SL.skip rfl rfl ?_
        refine SL.skip rfl rfl ?_
        refine SL.v (op_pickF rfl rfl) <| SL.nil <| T.condF rfl ?_
        refine T.exit (T.exitCode (T.exitCut (T.exitBlk ?_)))
        refine T.seq <| T.seq <| T.region <| SL.mv rfl <| SL.v (op_nil rfl) <| SL.v (op_fieldAddr fa107_3 rfl) <| SL.v (op_load ty3 rfl (by repeat constructor) rfl) ?_
        refine SL.v (op_neqT rfl rfl (by omega)) ?_
        refine SL.nil <| T.condT rfl <| T.seq <| T.draw (by kernel_rfl) 11 [.t 0, .t 1, .t 2, .t 3, .t 4, .t 5, .t 6, .t 7, .t 8, .t 9, .t 10] (by kernel_rfl) ?_
        refine SD.take rfl panicBody (op_move rfl) rfl rfl ?_
        refine SD.take rfl panicBody (op_nil rfl) rfl rfl ?_
        refine SD.take rfl panicBody (op_fieldAddr fa107_2 rfl) rfl rfl ?_
        refine SD.take rfl panicBody (op_load ty3 rfl (by repeat constructor) rfl) rfl rfl ?_
        refine SD.take rfl panicBody (op_move rfl) rfl rfl ?_
        refine SD.take rfl panicBody (op_nil rfl) rfl rfl ?_
        refine SD.take rfl panicBody (op_fieldAddr fa107_3 rfl) rfl rfl ?_
        refine SD.take rfl panicBody (op_load ty3 rfl (by repeat constructor) rfl) rfl rfl ?_
        refine SD.take rfl panicBody (op_assign rfl) rfl rfl ?_
        refine SD.take rfl panicBody (op_assign rfl) rfl rfl ?_
        refine SD.take rfl panicBody (op_assign rfl) rfl rfl ?_
        refine SD.nil ?_
        show SL _ _ _ _ _ _ _ [] _ _ _
        refine SL.nil <| T.ret3 rfl rfl rfl rfl ?_
        rw [hrun]
        rfl
end Go.Proofs.YtnabbnhefjfegaaGreatDoor
namespace Go.Proofs.YtnabbnhefjfegaaGreatDoor
section
set_option maxRecDepth 100000
theorem en23 : Enters Tryz.prog 23 := enters_mk Tryz.func23 (by kernel_rfl) rfl
theorem en52 : Enters Tryz.prog 52 := enters_mk Tryz.func52 (by kernel_rfl) rfl
theorem en53 : Enters Tryz.prog 53 := enters_mk Tryz.func53 (by kernel_rfl) rfl
end
open Go.RowKit
noncomputable instance decEx : DecidableEq Ex := fun _ _ => Classical.propDecidable _
noncomputable instance decCon : DecidableEq Con := fun _ _ => Classical.propDecidable _
theorem ex_eq {op op' : Nat} {n n' : Int} {ns ns' : List ByteArray} {al al' : List Ex} : Ex.mk op n ns al = Ex.mk op' n' ns' al' ↔ op = op' ∧ n = n' ∧ ns = ns' ∧ al = al' := by simp
theorem take_eq {α : Type} {l l' : List α} {i : Nat} {a b : α} (ha : l[i]? = some a) (hb : l'[i]? = some b) (h : l.take i = l'.take i) : (l.take (i + 1) = l'.take (i + 1)) ↔ a = b := by
  rw [take_snoc ha, take_snoc hb, h]
  simp
theorem ne_at {α : Type} {l l' : List α} {i : Nat} {a b : α} (ha : l[i]? = some a) (hb : l'[i]? = some b) (h : a ≠ b) : l ≠ l' := fun e => by
  subst e; rw [ha] at hb; cases hb; exact h rfl
theorem eqStrs_spec {X : PMap} {v v' : Value} {l l' : List ByteArray} (h : RowR strC X v l) (h' : RowR strC X v' l') (hl : l.length < 1000000000) : Spec Tryz.prog 52 [v, v'] X fun u _ => u = .bool (decide (l = l')) := by
  obtain ⟨A, cp, rfl⟩ := h.form
  obtain ⟨A', cp', rfl⟩ := h'.form
  by_cases hlen : l.length = l'.length
  case neg =>
    refine Spec.enter Tryz.func52 rfl Tryz.ntmps52 rfl ?_
    intro w0 hw0
    refine T.seq <| T.region <| SL.as rfl <| SL.nil <| T.seq <| T.seq <| T.region <| SL.mv rfl <| SL.v (op_lenS Tryz.underlying37 rfl) <| SL.mv rfl <| SL.v (op_lenS Tryz.underlying37 rfl) <| SL.v (op_neqT rfl rfl (by omega)) ?_
    refine SL.nil <| T.condT rfl <| T.seq <| T.region <| SL.as rfl <| SL.nil <| T.ret1 rfl (ResIs.tmp rfl) ?_
    rw [decide_eq_false fun e => hlen (by rw [e])]
  refine Spec.enter Tryz.func52 rfl Tryz.ntmps52 rfl ?_
  intro w0 hw0
  refine T.seq <| T.region <| SL.as rfl <| SL.nil <| T.seq <| T.seq <| T.region <| SL.mv rfl <| SL.v (op_lenS Tryz.underlying37 rfl) <| SL.mv rfl <| SL.v (op_lenS Tryz.underlying37 rfl) <| SL.v (op_neqF rfl rfl (by omega)) ?_
  refine SL.nil <| T.condF rfl <| T.skip <| T.seq <| T.seq <| T.region <| SL.mv rfl <| SL.v (op_lenS Tryz.underlying37 rfl) <| SL.v (op_move (v := .int .i64 ((0 : Nat) : Int)) rfl) <| SL.nil <| T.block <| T.loopW (fun m env own X' => ∃ i : Nat, m = l.length - i ∧ i ≤ l.length ∧ X.le X' ∧ l.take i = l'.take i ∧ env = [(0, .slice A l.length cp), (1, .slice A' l'.length cp'), (12, .int .i64 (l.length : Int)), (13, .int .i64 (i : Int))] ∧ own = []) l.length ⟨0, by simp, by omega, PMap.le_refl _, by simp, rfl, rfl⟩ (by repeat (first | exact Sub.nil | refine Sub.cons rfl ?_)) ?_
  rintro m _ _ X1 ⟨i, rfl, hi, hX1, heq, rfl, rfl⟩
  rcases Nat.lt_or_ge i l.length with hil | hil
  · obtain ⟨x, hx⟩ : ∃ x, l[i]? = some x := ⟨_, List.getElem?_eq_getElem hil⟩
    obtain ⟨y, hy⟩ : ∃ y, l'[i]? = some y := ⟨_, List.getElem?_eq_getElem (by omega)⟩
    obtain ⟨b, pre, rfl, hB⟩ := h.blk (by omega)
    obtain ⟨b', pre', rfl, hB'⟩ := h'.blk (by omega)
    refine T.seq <| T.region <| SL.v (op_lssT rfl rfl (by omega)) ?_
    refine SL.nil <| T.seq <| T.condT rfl <| T.skip <| T.seq <| T.block <| T.seq <| T.region <| SL.mv rfl <| SL.as rfl <| SL.nil <| T.seq <| T.draw (by kernel_rfl) 9 [.t 0, .t 1, .t 2, .t 3, .t 4, .t 5, .t 6, .t 7, .t 8] (by kernel_rfl) ?_
    refine SD.take rfl panicBody (op_move rfl) rfl rfl ?_
    refine SD.take rfl panicBody (op_move rfl) rfl rfl ?_
    refine SD.take rfl panicBody (op_indexN Tryz.underlying37 ty9 rfl rfl (by omega)) rfl rfl ?_
    refine SD.take rfl panicBody (op_loadX ty9 rfl (hB.mono hX1) (str_read hx (by omega))) rfl rfl ?_
    refine SD.take rfl panicBody (op_move rfl) rfl rfl ?_
    refine SD.take rfl panicBody (op_move rfl) rfl rfl ?_
    refine SD.take rfl panicBody (op_indexN Tryz.underlying37 ty9 rfl rfl (by omega)) rfl rfl ?_
    refine SD.take rfl panicBody (op_loadX ty9 rfl (hB'.mono hX1) (str_read hy (by omega))) rfl rfl ?_
    refine SD.take rfl panicBody (op_neqStrD rfl rfl) rfl rfl ?_
    refine SD.nil ?_
    show SL _ _ _ _ _ _ _ [] _ _ _
    refine SL.nil ?_
    by_cases hxy : x = y
    · rw [decide_eq_true hxy]
      refine T.condF rfl <| T.skip <| T.blk <| T.region <| SL.v (op_addN (q := 1) rfl rfl (by omega)) ?_
      refine SL.mv rfl <| SL.nil ?_
      exact T.backW (l.length - (i + 1)) (by omega) ⟨i + 1, rfl, by omega, hX1, (take_eq hx hy heq).2 hxy, rfl, rfl⟩ (by repeat (first | exact Sub.nil | refine Sub.cons rfl ?_))
    · rw [decide_eq_false hxy]
      refine T.condT rfl <| T.seq <| T.region <| SL.as rfl <| SL.nil <| T.ret1 rfl (ResIs.tmp rfl) ?_
      rw [decide_eq_false (ne_at hx hy hxy)]
  · obtain rfl : i = l.length := by omega
    rw [List.take_length, hlen, List.take_length] at heq
    refine T.seq <| T.region <| SL.v (op_lssF rfl rfl (by omega)) ?_
    refine SL.nil <| T.seq <| T.condF rfl ?_
    refine T.exit (T.exitCode (T.exitCut (T.exitBlk ?_)))
    refine T.seq <| T.region <| SL.as rfl <| SL.nil <| T.ret1 rfl (ResIs.tmp rfl) ?_
    rw [decide_eq_true heq]
theorem eqFn_spec {X : PMap} {va vb : Value} {al bl : List Ex} {rows rows' : List Row4} (ha : RowR rc4 X va rows) (hb : RowR rc4 X vb rows') (hla : rows.length = al.length) (hlb : rows'.length = bl.length) (hl : al.length < 1000000000)
    (hra : ∀ (i : Nat) (a : Ex) (r : Row4), al[i]? = some a → rows[i]? = some r → ExR .u8 X a r) (hrb : ∀ (i : Nat) (a : Ex) (r : Row4), bl[i]? = some a → rows'[i]? = some r → ExR .u8 X a r)
    (hf : ∀ {X' : PMap} {a b : Ex} {r r' : Row4}, a ∈ al → ExR .u8 X' a r → ExR .u8 X' b r' → Spec Tryz.prog 23 [.agg #[r.1, r.2.1, r.2.2.1, r.2.2.2], .agg #[r'.1, r'.2.1, r'.2.2.1, r'.2.2.2]] X' fun u _ => u = .bool (decide (a = b))) :
    Spec Tryz.prog 53 [va, vb, .func (.func 23) #[] #[]] X fun u _ => u = .bool (decide (al = bl)) := by
  obtain ⟨A, cp, rfl⟩ := ha.form
  obtain ⟨A', cp', rfl⟩ := hb.form
  by_cases hlen : al.length = bl.length
  case neg =>
    refine Spec.enter Tryz.func53 rfl Tryz.ntmps53 rfl ?_
    intro w0 hw0
    refine T.seq <| T.region <| SL.as rfl <| SL.nil <| T.seq <| T.seq <| T.region <| SL.mv rfl <| SL.v (op_lenS Tryz.underlying38 rfl) <| SL.mv rfl <| SL.v (op_lenS Tryz.underlying38 rfl) <| SL.v (op_neqT rfl rfl (by omega)) ?_
    refine SL.nil <| T.condT rfl <| T.seq <| T.region <| SL.as rfl <| SL.nil <| T.ret1 rfl (ResIs.tmp rfl) ?_
    rw [decide_eq_false fun e => hlen (by rw [e])]
  refine Spec.enter Tryz.func53 rfl Tryz.ntmps53 rfl ?_
  intro w0 hw0
  refine T.seq <| T.region <| SL.as rfl <| SL.nil <| T.seq <| T.seq <| T.region <| SL.mv rfl <| SL.v (op_lenS Tryz.underlying38 rfl) <| SL.mv rfl <| SL.v (op_lenS Tryz.underlying38 rfl) <| SL.v (op_neqF rfl rfl (by omega)) ?_
  refine SL.nil <| T.condF rfl <| T.skip <| T.seq <| T.seq <| T.region <| SL.mv rfl <| SL.v (op_lenS Tryz.underlying38 rfl) <| SL.v (op_move (v := .int .i64 ((0 : Nat) : Int)) rfl) <| SL.nil <| T.block <| T.loopW (fun m env own X' => ∃ i : Nat, m = rows.length - i ∧ i ≤ rows.length ∧ X.le X' ∧ al.take i = bl.take i ∧ env = [(1, .slice A' rows'.length cp'), (2, .func (.func 23) #[] #[]), (15, .slice A rows.length cp), (16, .int .i64 (rows.length : Int)), (17, .int .i64 (i : Int))] ∧ own = []) rows.length ⟨0, by simp, by omega, PMap.le_refl _, by simp, rfl, rfl⟩ (by repeat (first | exact Sub.nil | refine Sub.cons rfl ?_)) ?_
  rintro m _ _ X1 ⟨i, rfl, hi, hX1, heq, rfl, rfl⟩
  rcases Nat.lt_or_ge i rows.length with hil | hil
  · obtain ⟨r, hr⟩ : ∃ r, rows[i]? = some r := ⟨_, List.getElem?_eq_getElem hil⟩
    obtain ⟨r', hr'⟩ : ∃ r, rows'[i]? = some r := ⟨_, List.getElem?_eq_getElem (by omega)⟩
    obtain ⟨x, hx⟩ : ∃ x, al[i]? = some x := ⟨_, List.getElem?_eq_getElem (by omega)⟩
    obtain ⟨y, hy⟩ : ∃ y, bl[i]? = some y := ⟨_, List.getElem?_eq_getElem (by omega)⟩
    have h1 := (hra i x r hx hr).mono hX1
    have h2 := (hrb i y r' hy hr').mono hX1
    obtain ⟨b, pre, rfl, hB⟩ := ha.blk (by omega)
    obtain ⟨b', pre', rfl, hB'⟩ := hb.blk (by omega)
    have hcall := hf (List.mem_of_getElem? hx) h1 h2
    obtain ⟨_, _, _, _, _, _, _, _, rfl⟩ := h1.form
    obtain ⟨_, _, _, _, _, _, _, _, rfl⟩ := h2.form
    try simp only at hcall
    refine T.seq <| T.region <| SL.v (op_lssT rfl rfl (by omega)) ?_
    refine SL.nil <| T.seq <| T.condT rfl <| T.skip <| T.seq <| T.block <| T.seq <| T.region <| SL.mv rfl <| SL.v (op_indexN Tryz.underlying38 ty40 rfl rfl (by omega)) ?_
    refine SL.v (op_loadX ty40 rfl (hB.mono hX1) (row_read rc4_len hr (by omega))) ?_
    refine SL.w (op_alloc z40) ?_
    rintro _ _ _ ⟨B8, rfl, rfl, rfl⟩
    refine SL.as rfl <| SL.w (op_store ty40 rfl rfl (by repeat constructor) rfl rfl rfl) ?_
    rintro _ _ _ ⟨rfl, rfl⟩
    refine SL.nil <| T.seq <| T.region <| SL.mv rfl <| SL.mv rfl <| SL.v (op_indexN Tryz.underlying38 ty40 rfl rfl (by omega)) ?_
    refine SL.v (op_loadX ty40 rfl (hB'.mono hX1) (row_read rc4_len hr' (by omega))) ?_
    refine SL.w (op_alloc z40) ?_
    rintro _ _ _ ⟨B9, rfl, rfl, rfl⟩
    refine SL.w (op_store ty40 rfl rfl (by repeat constructor) rfl rfl rfl) ?_
    rintro _ _ _ ⟨rfl, rfl⟩
    refine SL.nil <| T.seq <| T.region <| SL.mv rfl <| SL.v (op_load ty40 rfl (by repeat constructor) rfl) ?_
    refine SL.v (op_load ty40 rfl (by repeat constructor) rfl) ?_
    refine SL.w (op_call en23 rfl (vs := [_, _]) rfl hcall) ?_
    rintro _ _ X2 ⟨rfl, hX2, rfl⟩
    refine SL.v (op_not rfl) <| SL.nil ?_
    by_cases hxy : x = y
    · rw [decide_eq_true hxy]
      refine T.condF rfl <| T.skip <| T.blk <| T.region <| SL.v (op_addN (q := 1) rfl rfl (by omega)) ?_
      refine SL.mv rfl <| SL.nil <| T.drop B8 (by repeat constructor) ?_
      refine T.drop B9 (by repeat constructor) ?_
      exact T.backW (rows.length - (i + 1)) (by omega) ⟨i + 1, rfl, by omega, hX1.trans' hX2, (take_eq hx hy heq).2 hxy, rfl, rfl⟩ (by repeat (first | exact Sub.nil | refine Sub.cons rfl ?_))
    · rw [decide_eq_false hxy]
      refine T.condT rfl <| T.seq <| T.region <| SL.as rfl <| SL.nil <| T.ret1 rfl (ResIs.tmp rfl) ?_
      rw [decide_eq_false (ne_at hx hy hxy)]
  · obtain rfl : i = rows.length := by omega
    rw [List.take_of_length_le (by omega), List.take_of_length_le (by omega)] at heq
    refine T.seq <| T.region <| SL.v (op_lssF rfl rfl (by omega)) ?_
    refine SL.nil <| T.seq <| T.condF rfl ?_
    refine T.exit (T.exitCode (T.exitCut (T.exitBlk ?_)))
    refine T.seq <| T.region <| SL.as rfl <| SL.nil <| T.ret1 rfl (ResIs.tmp rfl) ?_
    rw [decide_eq_true heq]
theorem eqE_spec (N : Nat) : ∀ {X : PMap} {a b : Ex} {r r' : Row4}, wtE a ≤ N → N < 100000000 → ExR .u8 X a r → ExR .u8 X b r' → Spec Tryz.prog 23 [.agg #[r.1, r.2.1, r.2.2.1, r.2.2.2], .agg #[r'.1, r'.2.1, r'.2.2.1, r'.2.2.2]] X fun u _ => u = .bool (decide (a = b)) := by
  induction N with
  | zero => intro X a b r r' h; cases a; rw [wtE] at h; omega
  | succ N ih =>
    intro X a b r r' hN hB h h'
    cases h with
    | @mk op n ns al vn va rows hn ha hl hr =>
    cases h' with
    | @mk op' n' ns' al' vn' va' rows' hn' ha' hl' hr' =>
    obtain ⟨Aa, ca, rfl⟩ := ha.form
    obtain ⟨An, cn, rfl⟩ := hn.form
    obtain ⟨Aa', ca', rfl⟩ := ha'.form
    obtain ⟨An', cn', rfl⟩ := hn'.form
    have hlen := wtL_len al
    have hnl := wtS_len ns
    rw [wtE] at hN
    by_cases h1 : op = op'
    case neg =>
      refine Spec.enter Tryz.func23 rfl Tryz.ntmps23 rfl ?_
      intro w0 hw0
      refine T.seq <| T.region <| SL.w (op_box rfl) ?_
      rintro _ _ _ ⟨B2, rfl, rfl, rfl⟩
      refine SL.w (op_box rfl) ?_
      rintro _ _ _ ⟨B3, rfl, rfl, rfl⟩
      refine SL.as rfl <| SL.nil <| T.seq <| T.region <| SL.v (op_fieldAddr fa40_0 rfl) <| SL.v (op_load ty36 rfl (by repeat constructor) rfl) ?_
      refine SL.v (op_fieldAddr fa40_0 rfl) <| SL.v (op_load ty36 rfl (by repeat constructor) rfl) ?_
      refine SL.v (op_eqlF rfl rfl (by omega)) ?_
      refine SL.mv rfl <| SL.skip rfl rfl ?_
      refine SL.skip rfl rfl ?_
      refine SL.skip rfl rfl ?_
      refine SL.skip rfl rfl ?_
      refine SL.skip rfl rfl ?_
      refine SL.v (op_pickF rfl rfl) <| SL.mv rfl <| SL.skip rfl rfl ?_
      refine SL.skip rfl rfl ?_
      refine SL.skip rfl rfl ?_
      refine SL.skip rfl rfl ?_
      refine SL.skip rfl rfl ?_
      refine SL.v (op_pickF rfl rfl) <| SL.mv rfl <| SL.skip rfl rfl ?_
      refine SL.skip rfl rfl ?_
      refine SL.skip rfl rfl ?_
      refine SL.skip rfl rfl ?_
      refine SL.skip rfl rfl ?_
      refine SL.v (op_pickF rfl rfl) <| SL.as rfl <| SL.nil <| T.ret1 rfl (ResIs.tmp rfl) ?_
      rw [decide_eq_false fun e => h1 (ex_eq.1 e).1]
    by_cases h2 : n = n'
    case neg =>
      refine Spec.enter Tryz.func23 rfl Tryz.ntmps23 rfl ?_
      intro w0 hw0
      refine T.seq <| T.region <| SL.w (op_box rfl) ?_
      rintro _ _ _ ⟨B2, rfl, rfl, rfl⟩
      refine SL.w (op_box rfl) ?_
      rintro _ _ _ ⟨B3, rfl, rfl, rfl⟩
      refine SL.as rfl <| SL.nil <| T.seq <| T.region <| SL.v (op_fieldAddr fa40_0 rfl) <| SL.v (op_load ty36 rfl (by repeat constructor) rfl) ?_
      refine SL.v (op_fieldAddr fa40_0 rfl) <| SL.v (op_load ty36 rfl (by repeat constructor) rfl) ?_
      refine SL.v (op_eqlT rfl rfl (by omega)) ?_
      refine SL.mv rfl <| SL.v (op_fieldAddr fa40_1 rfl) <| SL.v (op_load ty3 rfl (by repeat constructor) rfl) ?_
      refine SL.v (op_fieldAddr fa40_1 rfl) <| SL.v (op_load ty3 rfl (by repeat constructor) rfl) ?_
      refine SL.v (op_eqlF rfl rfl (by omega)) ?_
      refine SL.v (op_pickT rfl rfl) <| SL.mv rfl <| SL.skip rfl rfl ?_
      refine SL.skip rfl rfl ?_
      refine SL.skip rfl rfl ?_
      refine SL.skip rfl rfl ?_
      refine SL.skip rfl rfl ?_
      refine SL.v (op_pickF rfl rfl) <| SL.mv rfl <| SL.skip rfl rfl ?_
      refine SL.skip rfl rfl ?_
      refine SL.skip rfl rfl ?_
      refine SL.skip rfl rfl ?_
      refine SL.skip rfl rfl ?_
      refine SL.v (op_pickF rfl rfl) <| SL.as rfl <| SL.nil <| T.ret1 rfl (ResIs.tmp rfl) ?_
      rw [decide_eq_false fun e => h2 (ex_eq.1 e).2.1]
    by_cases h3 : ns = ns'
    case neg =>
      refine Spec.enter Tryz.func23 rfl Tryz.ntmps23 rfl ?_
      intro w0 hw0
      refine T.seq <| T.region <| SL.w (op_box rfl) ?_
      rintro _ _ _ ⟨B2, rfl, rfl, rfl⟩
      refine SL.w (op_box rfl) ?_
      rintro _ _ _ ⟨B3, rfl, rfl, rfl⟩
      refine SL.as rfl <| SL.nil <| T.seq <| T.region <| SL.v (op_fieldAddr fa40_0 rfl) <| SL.v (op_load ty36 rfl (by repeat constructor) rfl) ?_
      refine SL.v (op_fieldAddr fa40_0 rfl) <| SL.v (op_load ty36 rfl (by repeat constructor) rfl) ?_
      refine SL.v (op_eqlT rfl rfl (by omega)) ?_
      refine SL.mv rfl <| SL.v (op_fieldAddr fa40_1 rfl) <| SL.v (op_load ty3 rfl (by repeat constructor) rfl) ?_
      refine SL.v (op_fieldAddr fa40_1 rfl) <| SL.v (op_load ty3 rfl (by repeat constructor) rfl) ?_
      refine SL.v (op_eqlT rfl rfl (by omega)) ?_
      refine SL.v (op_pickT rfl rfl) <| SL.mv rfl <| SL.v (op_fieldAddr fa40_2 rfl) <| SL.v (op_load ty37 rfl (by repeat constructor) rfl) ?_
      refine SL.v (op_fieldAddr fa40_2 rfl) <| SL.v (op_load ty37 rfl (by repeat constructor) rfl) ?_
      refine SL.w (op_callF en52 (vs := [_, _]) rfl (eqStrs_spec hn hn' (by omega))) ?_
      rintro _ _ X1 ⟨rfl, hX1, rfl⟩
      rw [decide_eq_false h3]
      refine SL.v (op_pickT rfl rfl) <| SL.mv rfl <| SL.skip rfl rfl ?_
      refine SL.skip rfl rfl ?_
      refine SL.skip rfl rfl ?_
      refine SL.skip rfl rfl ?_
      refine SL.skip rfl rfl ?_
      refine SL.v (op_pickF rfl rfl) <| SL.as rfl <| SL.nil <| T.ret1 rfl (ResIs.tmp rfl) ?_
      rw [decide_eq_false fun e => h3 (ex_eq.1 e).2.2.1]
    refine Spec.enter Tryz.func23 rfl Tryz.ntmps23 rfl ?_
    intro w0 hw0
    refine T.seq <| T.region <| SL.w (op_box rfl) ?_
    rintro _ _ _ ⟨B2, rfl, rfl, rfl⟩
    refine SL.w (op_box rfl) ?_
    rintro _ _ _ ⟨B3, rfl, rfl, rfl⟩
    refine SL.as rfl <| SL.nil <| T.seq <| T.region <| SL.v (op_fieldAddr fa40_0 rfl) <| SL.v (op_load ty36 rfl (by repeat constructor) rfl) ?_
    refine SL.v (op_fieldAddr fa40_0 rfl) <| SL.v (op_load ty36 rfl (by repeat constructor) rfl) ?_
    refine SL.v (op_eqlT rfl rfl (by omega)) ?_
    refine SL.mv rfl <| SL.v (op_fieldAddr fa40_1 rfl) <| SL.v (op_load ty3 rfl (by repeat constructor) rfl) ?_
    refine SL.v (op_fieldAddr fa40_1 rfl) <| SL.v (op_load ty3 rfl (by repeat constructor) rfl) ?_
    refine SL.v (op_eqlT rfl rfl (by omega)) ?_
    refine SL.v (op_pickT rfl rfl) <| SL.mv rfl <| SL.v (op_fieldAddr fa40_2 rfl) <| SL.v (op_load ty37 rfl (by repeat constructor) rfl) ?_
    refine SL.v (op_fieldAddr fa40_2 rfl) <| SL.v (op_load ty37 rfl (by repeat constructor) rfl) ?_
    refine SL.w (op_callF en52 (vs := [_, _]) rfl (eqStrs_spec hn hn' (by omega))) ?_
    rintro _ _ X1 ⟨rfl, hX1, rfl⟩
    rw [decide_eq_true h3]
    refine SL.v (op_pickT rfl rfl) <| SL.mv rfl <| SL.v (op_fieldAddr fa40_3 rfl) <| SL.v (op_load ty38 rfl (by repeat constructor) rfl) ?_
    refine SL.v (op_fieldAddr fa40_3 rfl) <| SL.v (op_load ty38 rfl (by repeat constructor) rfl) ?_
    refine SL.w (op_callF en53 (vs := [_, _, _]) rfl (eqFn_spec (ha.mono hX1) (ha'.mono hX1) hl hl' (by omega) (fun i a r x y => (hr i a r x y).mono hX1) (fun i a r x y => (hr' i a r x y).mono hX1) (fun hm h1 h2 => ih (by have := wtL_mem hm; omega) (by omega) h1 h2))) ?_
    rintro _ _ X2 ⟨rfl, hX2, rfl⟩
    refine SL.v (op_pickT rfl rfl) <| SL.as rfl <| SL.nil <| T.ret1 rfl (ResIs.tmp rfl) ?_
    congr 1
    exact decide_eq_decide.2 (by rw [ex_eq]; simp [h1, h2, h3])
theorem con_eq {e e' : Bool} {k k' : Nat} {s s' : ByteArray} {x x' : Ex} : Con.mk e k s x = Con.mk e' k' s' x' ↔ e = e' ∧ k = k' ∧ s = s' ∧ x = x' := by simp
theorem op_eqlBb {P : Program} {n : NM} {own : Own} {X : PMap} {env : Env} {t t' : TypeId} {x y : Operand} {b c : Bool} (ht : P.underlying t = some .bool) (hx : eev env x = some (.bool b)) (hy : eev env y = some (.bool c)) : OpY P n env own X (.binOp .eql t x y t') (.bool (b == c)) := op_eqlB ht hx hy
theorem eqC1_spec {X : PMap} {c d : Con} {r r' : Row7} (h : ConR X c r) (h' : ConR X d r') (hw : wtE c.ex < 900000) : Spec Tryz.prog 66 [.agg (rc7 r).toArray, .agg (rc7 r').toArray] X fun u _ => u = .bool (decide (c = d)) := by
  obtain ⟨e, k, s, x⟩ := c
  obtain ⟨e', k', s', x'⟩ := d
  have hex := h.2.2.2
  have hex' := h'.2.2.2
  obtain ⟨o0, n0, a0, b0, l0, c0, m0, d0, rfl⟩ := h.form
  obtain ⟨o1, n1, a1, b1, l1, c1, m1, d1, rfl⟩ := h'.form
  simp only at hex hex' hw
  have hcall := eqE_spec _ (Nat.le_refl _) (by omega) hex hex'
  try simp only at hcall
  have e0 : (rc7 (e, k, s, .int .u8 (o0 : Int), .int .i64 n0, .slice a0 l0 c0, .slice b0 m0 d0)).toArray = #[.bool e, .int .u8 (k : Int), .string s, .int .u8 (o0 : Int), .int .i64 n0, .slice a0 l0 c0, .slice b0 m0 d0] := rfl
  have e1 : (rc7 (e', k', s', .int .u8 (o1 : Int), .int .i64 n1, .slice a1 l1 c1, .slice b1 m1 d1)).toArray = #[.bool e', .int .u8 (k' : Int), .string s', .int .u8 (o1 : Int), .int .i64 n1, .slice a1 l1 c1, .slice b1 m1 d1] := rfl
  rw [e0, e1]
  by_cases h1 : e = e'
  case neg =>
    have hb : (e == e') = false := by simpa using h1
    refine Spec.enter Tryz.func66 rfl Tryz.ntmps66 rfl ?_
    intro w0 hw0
    refine T.seq <| T.region <| SL.w (op_box rfl) ?_
    rintro _ _ _ ⟨B2, rfl, rfl, rfl⟩
    refine SL.w (op_box rfl) ?_
    rintro _ _ _ ⟨B3, rfl, rfl, rfl⟩
    refine SL.as rfl <| SL.nil <| T.seq <| T.region <| SL.v (op_fieldAddr fa82_0 rfl) <| SL.v (op_load ty4 rfl (by repeat constructor) rfl) ?_
    refine SL.v (op_fieldAddr fa82_0 rfl) <| SL.v (op_load ty4 rfl (by repeat constructor) rfl) ?_
    refine SL.v (op_eqlBb Tryz.underlying4 rfl rfl) ?_
    rw [hb]
    refine SL.mv rfl <| SL.skip rfl rfl ?_
    refine SL.skip rfl rfl ?_
    refine SL.skip rfl rfl ?_
    refine SL.skip rfl rfl ?_
    refine SL.skip rfl rfl ?_
    refine SL.v (op_pickF rfl rfl) <| SL.mv rfl <| SL.skip rfl rfl ?_
    refine SL.skip rfl rfl ?_
    refine SL.skip rfl rfl ?_
    refine SL.skip rfl rfl ?_
    refine SL.skip rfl rfl ?_
    refine SL.v (op_pickF rfl rfl) <| SL.mv rfl <| SL.skip rfl rfl ?_
    refine SL.skip rfl rfl ?_
    refine SL.skip rfl rfl ?_
    refine SL.skip rfl rfl ?_
    refine SL.skip rfl rfl ?_
    refine SL.v (op_pickF rfl rfl) <| SL.as rfl <| SL.nil <| T.ret1 rfl (ResIs.tmp rfl) ?_
    rw [decide_eq_false fun e => h1 (con_eq.1 e).1]
  subst h1
  by_cases h2 : k = k'
  case neg =>
    refine Spec.enter Tryz.func66 rfl Tryz.ntmps66 rfl ?_
    intro w0 hw0
    refine T.seq <| T.region <| SL.w (op_box rfl) ?_
    rintro _ _ _ ⟨B2, rfl, rfl, rfl⟩
    refine SL.w (op_box rfl) ?_
    rintro _ _ _ ⟨B3, rfl, rfl, rfl⟩
    refine SL.as rfl <| SL.nil <| T.seq <| T.region <| SL.v (op_fieldAddr fa82_0 rfl) <| SL.v (op_load ty4 rfl (by repeat constructor) rfl) ?_
    refine SL.v (op_fieldAddr fa82_0 rfl) <| SL.v (op_load ty4 rfl (by repeat constructor) rfl) ?_
    refine SL.v (op_eqlBb Tryz.underlying4 rfl rfl) ?_
    rw [show (e == e) = true by simp]
    refine SL.mv rfl <| SL.v (op_fieldAddr fa82_1 rfl) <| SL.v (op_load ty80 rfl (by repeat constructor) rfl) ?_
    refine SL.v (op_fieldAddr fa82_1 rfl) <| SL.v (op_load ty80 rfl (by repeat constructor) rfl) ?_
    refine SL.v (op_eqlF rfl rfl (by omega)) ?_
    refine SL.v (op_pickT rfl rfl) <| SL.mv rfl <| SL.skip rfl rfl ?_
    refine SL.skip rfl rfl ?_
    refine SL.skip rfl rfl ?_
    refine SL.skip rfl rfl ?_
    refine SL.skip rfl rfl ?_
    refine SL.v (op_pickF rfl rfl) <| SL.mv rfl <| SL.skip rfl rfl ?_
    refine SL.skip rfl rfl ?_
    refine SL.skip rfl rfl ?_
    refine SL.skip rfl rfl ?_
    refine SL.skip rfl rfl ?_
    refine SL.v (op_pickF rfl rfl) <| SL.as rfl <| SL.nil <| T.ret1 rfl (ResIs.tmp rfl) ?_
    rw [decide_eq_false fun e => h2 (con_eq.1 e).2.1]
  by_cases h3 : s = s'
  case neg =>
    refine Spec.enter Tryz.func66 rfl Tryz.ntmps66 rfl ?_
    intro w0 hw0
    refine T.seq <| T.region <| SL.w (op_box rfl) ?_
    rintro _ _ _ ⟨B2, rfl, rfl, rfl⟩
    refine SL.w (op_box rfl) ?_
    rintro _ _ _ ⟨B3, rfl, rfl, rfl⟩
    refine SL.as rfl <| SL.nil <| T.seq <| T.region <| SL.v (op_fieldAddr fa82_0 rfl) <| SL.v (op_load ty4 rfl (by repeat constructor) rfl) ?_
    refine SL.v (op_fieldAddr fa82_0 rfl) <| SL.v (op_load ty4 rfl (by repeat constructor) rfl) ?_
    refine SL.v (op_eqlBb Tryz.underlying4 rfl rfl) ?_
    rw [show (e == e) = true by simp]
    refine SL.mv rfl <| SL.v (op_fieldAddr fa82_1 rfl) <| SL.v (op_load ty80 rfl (by repeat constructor) rfl) ?_
    refine SL.v (op_fieldAddr fa82_1 rfl) <| SL.v (op_load ty80 rfl (by repeat constructor) rfl) ?_
    refine SL.v (op_eqlT rfl rfl (by omega)) ?_
    refine SL.v (op_pickT rfl rfl) <| SL.mv rfl <| SL.v (op_fieldAddr fa82_2 rfl) <| SL.v (op_load ty9 rfl (by repeat constructor) rfl) ?_
    refine SL.v (op_fieldAddr fa82_2 rfl) <| SL.v (op_load ty9 rfl (by repeat constructor) rfl) ?_
    refine SL.v (op_eqlStrD rfl rfl) ?_
    rw [decide_eq_false h3]
    refine SL.v (op_pickT rfl rfl) <| SL.mv rfl <| SL.skip rfl rfl ?_
    refine SL.skip rfl rfl ?_
    refine SL.skip rfl rfl ?_
    refine SL.skip rfl rfl ?_
    refine SL.skip rfl rfl ?_
    refine SL.v (op_pickF rfl rfl) <| SL.as rfl <| SL.nil <| T.ret1 rfl (ResIs.tmp rfl) ?_
    rw [decide_eq_false fun e => h3 (con_eq.1 e).2.2.1]
  refine Spec.enter Tryz.func66 rfl Tryz.ntmps66 rfl ?_
  intro w0 hw0
  refine T.seq <| T.region <| SL.w (op_box rfl) ?_
  rintro _ _ _ ⟨B2, rfl, rfl, rfl⟩
  refine SL.w (op_box rfl) ?_
  rintro _ _ _ ⟨B3, rfl, rfl, rfl⟩
  refine SL.as rfl <| SL.nil <| T.seq <| T.region <| SL.v (op_fieldAddr fa82_0 rfl) <| SL.v (op_load ty4 rfl (by repeat constructor) rfl) ?_
  refine SL.v (op_fieldAddr fa82_0 rfl) <| SL.v (op_load ty4 rfl (by repeat constructor) rfl) ?_
  refine SL.v (op_eqlBb Tryz.underlying4 rfl rfl) ?_
  rw [show (e == e) = true by simp]
  refine SL.mv rfl <| SL.v (op_fieldAddr fa82_1 rfl) <| SL.v (op_load ty80 rfl (by repeat constructor) rfl) ?_
  refine SL.v (op_fieldAddr fa82_1 rfl) <| SL.v (op_load ty80 rfl (by repeat constructor) rfl) ?_
  refine SL.v (op_eqlT rfl rfl (by omega)) ?_
  refine SL.v (op_pickT rfl rfl) <| SL.mv rfl <| SL.v (op_fieldAddr fa82_2 rfl) <| SL.v (op_load ty9 rfl (by repeat constructor) rfl) ?_
  refine SL.v (op_fieldAddr fa82_2 rfl) <| SL.v (op_load ty9 rfl (by repeat constructor) rfl) ?_
  refine SL.v (op_eqlStrD rfl rfl) ?_
  rw [decide_eq_true h3]
  refine SL.v (op_pickT rfl rfl) <| SL.mv rfl <| SL.v (op_fieldAddr fa82_3 rfl) <| SL.v (op_load ty40 rfl (by repeat constructor) rfl) ?_
  refine SL.v (op_fieldAddr fa82_3 rfl) <| SL.v (op_load ty40 rfl (by repeat constructor) rfl) ?_
  refine SL.w (op_callF en23 (vs := [_, _]) rfl (hcall)) ?_
  rintro _ _ X2 ⟨rfl, hX2, rfl⟩
  refine SL.v (op_pickT rfl rfl) <| SL.as rfl <| SL.nil <| T.ret1 rfl (ResIs.tmp rfl) ?_
  congr 1
  exact decide_eq_decide.2 (by rw [con_eq]; simp [h2, h3])
end Go.Proofs.YtnabbnhefjfegaaGreatDoor
namespace Go.Proofs.YtnabbnhefjfegaaGreatDoor
open Go.RowKit
end Go.Proofs.YtnabbnhefjfegaaGreatDoor
namespace Go.Proofs.YtnabbnhefjfegaaGreatDoor
open Go.RowKit
end Go.Proofs.YtnabbnhefjfegaaGreatDoor
namespace Go.Proofs.YtnabbnhefjfegaaGreatDoor
section
set_option maxRecDepth 100000
theorem en65 : Enters Tryz.prog 65 := enters_mk Tryz.func65 (by kernel_rfl) rfl
theorem en66 : Enters Tryz.prog 66 := enters_mk Tryz.func66 (by kernel_rfl) rfl
end
open Go.RowKit
theorem eqFnC_spec {X : PMap} {va vb : Value} {cs ds : List Con} (ha : ConsR X va cs) (hb : ConsR X vb ds) (hl : cs.length < 1000000000) (hw : ∀ c ∈ cs, wtE c.ex < 900000) :
    Spec Tryz.prog 65 [va, vb, .func (.func 66) #[] #[]] X fun u _ => u = .bool (decide (cs = ds)) := by
  obtain ⟨rows, ha, hla, hra⟩ := ha
  obtain ⟨rows', hb, hlb, hrb⟩ := hb
  obtain ⟨A, cp, rfl⟩ := ha.form
  obtain ⟨A', cp', rfl⟩ := hb.form
  by_cases hlen : cs.length = ds.length
  case neg =>
    refine Spec.enter Tryz.func65 rfl Tryz.ntmps65 rfl ?_
    intro w0 hw0
    refine T.seq <| T.region <| SL.as rfl <| SL.nil <| T.seq <| T.seq <| T.region <| SL.mv rfl <| SL.v (op_lenS Tryz.underlying24 rfl) <| SL.mv rfl <| SL.v (op_lenS Tryz.underlying24 rfl) <| SL.v (op_neqT rfl rfl (by omega)) ?_
    refine SL.nil <| T.condT rfl <| T.seq <| T.region <| SL.as rfl <| SL.nil <| T.ret1 rfl (ResIs.tmp rfl) ?_
    rw [decide_eq_false fun e => hlen (by rw [e])]
  refine Spec.enter Tryz.func65 rfl Tryz.ntmps65 rfl ?_
  intro w0 hw0
  refine T.seq <| T.region <| SL.as rfl <| SL.nil <| T.seq <| T.seq <| T.region <| SL.mv rfl <| SL.v (op_lenS Tryz.underlying24 rfl) <| SL.mv rfl <| SL.v (op_lenS Tryz.underlying24 rfl) <| SL.v (op_neqF rfl rfl (by omega)) ?_
  refine SL.nil <| T.condF rfl <| T.skip <| T.seq <| T.seq <| T.region <| SL.mv rfl <| SL.v (op_lenS Tryz.underlying24 rfl) <| SL.v (op_move (v := .int .i64 ((0 : Nat) : Int)) rfl) <| SL.nil <| T.block <| T.loopW (fun m env own X' => ∃ i : Nat, m = rows.length - i ∧ i ≤ rows.length ∧ X.le X' ∧ cs.take i = ds.take i ∧ env = [(1, .slice A' rows'.length cp'), (2, .func (.func 66) #[] #[]), (15, .slice A rows.length cp), (16, .int .i64 (rows.length : Int)), (17, .int .i64 (i : Int))] ∧ own = []) rows.length ⟨0, by simp, by omega, PMap.le_refl _, by simp, rfl, rfl⟩ (by repeat (first | exact Sub.nil | refine Sub.cons rfl ?_)) ?_
  rintro m _ _ X1 ⟨i, rfl, hi, hX1, heq, rfl, rfl⟩
  rcases Nat.lt_or_ge i rows.length with hil | hil
  · obtain ⟨r, hr⟩ : ∃ r, rows[i]? = some r := ⟨_, List.getElem?_eq_getElem hil⟩
    obtain ⟨r', hr'⟩ : ∃ r, rows'[i]? = some r := ⟨_, List.getElem?_eq_getElem (by omega)⟩
    obtain ⟨x, hx⟩ : ∃ x, cs[i]? = some x := ⟨_, List.getElem?_eq_getElem (by omega)⟩
    obtain ⟨y, hy⟩ : ∃ y, ds[i]? = some y := ⟨_, List.getElem?_eq_getElem (by omega)⟩
    have h1 := (hra i x r hx hr).mono hX1
    have h2 := (hrb i y r' hy hr').mono hX1
    obtain ⟨b, pre, rfl, hB⟩ := ha.blk (by omega)
    obtain ⟨b', pre', rfl, hB'⟩ := hb.blk (by omega)
    have hcall := eqC1_spec h1 h2 (hw x (List.mem_of_getElem? hx))
    obtain ⟨_, _, _, _, _, _, _, _, rfl⟩ := h1.form
    obtain ⟨_, _, _, _, _, _, _, _, rfl⟩ := h2.form
    try simp only [rc7] at hcall
    refine T.seq <| T.region <| SL.v (op_lssT rfl rfl (by omega)) ?_
    refine SL.nil <| T.seq <| T.condT rfl <| T.skip <| T.seq <| T.block <| T.seq <| T.region <| SL.mv rfl <| SL.v (op_indexN Tryz.underlying24 ty82 rfl rfl (by omega)) ?_
    refine SL.v (op_loadX ty82 rfl (hB.mono hX1) (row_read rc7_len hr (by omega))) ?_
    refine SL.w (op_alloc z82) ?_
    rintro _ _ _ ⟨B8, rfl, rfl, rfl⟩
    refine SL.as rfl <| SL.w (op_store ty82 rfl rfl (by repeat constructor) rfl rfl rfl) ?_
    rintro _ _ _ ⟨rfl, rfl⟩
    refine SL.nil <| T.seq <| T.region <| SL.mv rfl <| SL.mv rfl <| SL.v (op_indexN Tryz.underlying24 ty82 rfl rfl (by omega)) ?_
    refine SL.v (op_loadX ty82 rfl (hB'.mono hX1) (row_read rc7_len hr' (by omega))) ?_
    refine SL.w (op_alloc z82) ?_
    rintro _ _ _ ⟨B9, rfl, rfl, rfl⟩
    refine SL.w (op_store ty82 rfl rfl (by repeat constructor) rfl rfl rfl) ?_
    rintro _ _ _ ⟨rfl, rfl⟩
    refine SL.nil <| T.seq <| T.region <| SL.mv rfl <| SL.v (op_load ty82 rfl (by repeat constructor) rfl) ?_
    refine SL.v (op_load ty82 rfl (by repeat constructor) rfl) ?_
    refine SL.w (op_call en66 rfl (vs := [_, _]) rfl hcall) ?_
    rintro _ _ X2 ⟨rfl, hX2, rfl⟩
    refine SL.v (op_not rfl) <| SL.nil ?_
    by_cases hxy : x = y
    · rw [decide_eq_true hxy]
      refine T.condF rfl <| T.skip <| T.blk <| T.region <| SL.v (op_addN (q := 1) rfl rfl (by omega)) ?_
      refine SL.mv rfl <| SL.nil <| T.drop B8 (by repeat constructor) ?_
      refine T.drop B9 (by repeat constructor) ?_
      exact T.backW (rows.length - (i + 1)) (by omega) ⟨i + 1, rfl, by omega, hX1.trans' hX2, (take_eq hx hy heq).2 hxy, rfl, rfl⟩ (by repeat (first | exact Sub.nil | refine Sub.cons rfl ?_))
    · rw [decide_eq_false hxy]
      refine T.condT rfl <| T.seq <| T.region <| SL.as rfl <| SL.nil <| T.ret1 rfl (ResIs.tmp rfl) ?_
      rw [decide_eq_false (ne_at hx hy hxy)]
  · obtain rfl : i = rows.length := by omega
    rw [List.take_of_length_le (by omega), List.take_of_length_le (by omega)] at heq
    refine T.seq <| T.region <| SL.v (op_lssF rfl rfl (by omega)) ?_
    refine SL.nil <| T.seq <| T.condF rfl ?_
    refine T.exit (T.exitCode (T.exitCut (T.exitBlk ?_)))
    refine T.seq <| T.region <| SL.as rfl <| SL.nil <| T.ret1 rfl (ResIs.tmp rfl) ?_
    rw [decide_eq_true heq]
theorem conEq_spec {X : PMap} {va vb : Value} {cs ds : List Con} (ha : ConsR X va cs) (hb : ConsR X vb ds) (hl : cs.length < 1000000000) (hw : ∀ c ∈ cs, wtE c.ex < 900000) :
    Spec Tryz.prog 31 [va, vb] X fun u _ => u = .bool (decide (cs = ds)) := by
  obtain ⟨A, cp, rfl⟩ := ha.form
  obtain ⟨A', cp', rfl⟩ := hb.form
  refine Spec.enter Tryz.func31 rfl Tryz.ntmps31 rfl ?_
  intro w0 hw0
  refine T.seq <| T.region <| SL.as rfl <| SL.nil <| T.seq <| T.region <| SL.mv rfl <| SL.mv rfl <| SL.w (op_callF en65 (vs := [_, _, _]) rfl (eqFnC_spec ha hb hl hw)) ?_
  rintro _ _ X2 ⟨rfl, hX2, rfl⟩
  refine SL.as rfl <| SL.nil <| T.ret1 rfl (ResIs.tmp rfl) ?_
  rfl
theorem ConsRi.form {X : PMap} {v : Value} {cs : List Con} (h : ConsRi X v cs) : ∃ A cp, v = .slice A cs.length cp := by
  obtain ⟨rows, h, hl, _⟩ := h
  obtain ⟨A, c, rfl⟩ := h.form
  exact ⟨A, c, by rw [hl]⟩
end Go.Proofs.YtnabbnhefjfegaaGreatDoor
namespace Go.Proofs.YtnabbnhefjfegaaGreatDoor
section
set_option maxRecDepth 100000
theorem en12 : Enters Tryz.prog 12 := enters_mk Tryz.func12 (by kernel_rfl) rfl
theorem en13 : Enters Tryz.prog 13 := enters_mk Tryz.func13 (by kernel_rfl) rfl
theorem en19 : Enters Tryz.prog 19 := enters_mk Tryz.func19 (by kernel_rfl) rfl
theorem en30 : Enters Tryz.prog 30 := enters_mk Tryz.func30 (by kernel_rfl) rfl
theorem en31 : Enters Tryz.prog 31 := enters_mk Tryz.func31 (by kernel_rfl) rfl
end
open Go.RowKit
theorem rparse_ok {X : PMap} {s : ByteArray} {cs : List Con} (h : parseM s = .ok cs) (hs : s.size < 1000000000) : Spec Tryz.prog 30 [.string s] X fun u X' => ∃ v, u = .tuple #[v, .int .i64 0, .int .i64 0] ∧ ConsRi X' v cs := by
  have := rparse_spec (X := X) hs
  simp only [h] at this
  exact this
theorem rparse_err {X : PMap} {s : ByteArray} {x : Nat × Int} (h : parseM s = .error x) (hs : s.size < 1000000000) : Spec Tryz.prog 30 [.string s] X fun u _ => u = .tuple #[.slice none 0 0, .int .i64 (x.1 : Int), .int .i64 x.2] := by
  have := rparse_spec (X := X) hs
  simp only [h] at this
  exact this
theorem cons_acc {cs : List Con} (h : chkAll cs = 0) (hw : wtC cs < 200000) : cs.length ≤ 32 ∧ ∀ c ∈ cs, c.kind < 256 ∧ opsE c.ex ∧ wtE c.ex < 900000 := by
  obtain ⟨h1, _, _, h4⟩ := conOk_of h
  refine ⟨h1, fun c hc => ?_⟩
  obtain ⟨k1, k3, _, hn⟩ := h4 c hc
  have := wtC_mem hc
  exact ⟨by omega, ops_of _ hn, by omega⟩
theorem pSources_spec {X : PMap} (hP : Pow10 X) {s : ByteArray} : Spec Tryz.prog 7 [.string s] X fun u _ => u = .bool true := by
  have hs := short_size s
  refine Spec.enter Tryz.func7 rfl Tryz.ntmps7 rfl ?_
  intro w0 hw0
  refine T.seq <| T.region <| SL.as rfl <| SL.nil <| T.seq <| T.seq <| T.region <| SL.w (op_callF en12 (vs := []) rfl (awake17_spec hP)) ?_
  rintro _ _ X0 ⟨rfl, hX0, rfl⟩
  refine SL.v (op_not rfl) <| SL.nil <| T.condF rfl <| T.skip <| T.seq <| T.region <| SL.mv rfl <| SL.w (op_callF en19 (vs := [_]) rfl (short_spec)) ?_
  rintro _ _ X1 ⟨rfl, hX1, rfl⟩
  generalize s.extract 0 (min s.size 2000) = t at hs ⊢
  have hP1 := (hP.mono hX0).mono hX1
  cases hm : parseM t with
  | error x =>
    have hx := parseM_err hm
    obtain ⟨o, c⟩ := x
    simp only at hx
    refine SL.as rfl <| SL.nil <| T.seq <| T.region <| SL.mv rfl <| SL.w (op_callF en18 (vs := [_]) rfl (parse_err hP1 hm (by omega))) ?_
    rintro _ _ X2 ⟨rfl, hX2, rfl⟩
    refine SL.mv rfl <| SL.v (op_extract rfl rfl) <| SL.v (op_extract rfl rfl) <| SL.v (op_extract rfl rfl) <| SL.as rfl <| SL.as rfl <| SL.as rfl <| SL.nil <| T.seq <| T.region <| SL.mv rfl <| SL.w (op_callF en30 (vs := [_]) rfl (rparse_err hm (by omega))) ?_
    rintro _ _ X3 ⟨rfl, hX3, rfl⟩
    refine SL.mv rfl <| SL.v (op_extract rfl rfl) <| SL.v (op_extract rfl rfl) <| SL.v (op_extract rfl rfl) <| SL.as rfl <| SL.as rfl <| SL.as rfl <| SL.nil <| T.seq <| T.seq <| T.region <| SL.mv rfl <| SL.mv rfl <| SL.v (op_neqF rfl rfl (by omega)) ?_
    refine SL.mv rfl <| SL.mv rfl <| SL.mv rfl <| SL.v (op_neqF rfl rfl (by omega)) ?_
    refine SL.v (op_pickF rfl rfl) <| SL.nil <| T.condF rfl <| T.skip <| T.seq <| T.seq <| T.region <| SL.mv rfl <| SL.v (op_neqT rfl rfl (by omega)) ?_
    refine SL.nil <| T.condT rfl <| T.seq <| T.region <| SL.mv rfl <| SL.v (op_lenS Tryz.underlying24 rfl) <| SL.v (op_eqlT rfl rfl (by omega)) ?_
    refine SL.as rfl <| SL.nil <| T.ret1 rfl (ResIs.tmp rfl) ?_
    rfl
  | ok cs =>
    obtain ⟨hc, hw⟩ := parseM_ok hm
    obtain ⟨hl, hok⟩ := cons_acc hc hw
    refine SL.as rfl <| SL.nil <| T.seq <| T.region <| SL.mv rfl <| SL.w (op_callF en18 (vs := [_]) rfl (parse_ok hP1 hm (by omega))) ?_
    rintro _ _ X2 ⟨rfl, hX2, v, rfl, hv⟩
    refine SL.mv rfl <| SL.v (op_extract rfl rfl) <| SL.v (op_extract rfl rfl) <| SL.v (op_extract rfl rfl) <| SL.as rfl <| SL.as rfl <| SL.as rfl <| SL.nil <| T.seq <| T.region <| SL.mv rfl <| SL.w (op_callF en30 (vs := [_]) rfl (rparse_ok hm (by omega))) ?_
    rintro _ _ X3 ⟨rfl, hX3, v', rfl, hv'⟩
    refine SL.mv rfl <| SL.v (op_extract rfl rfl) <| SL.v (op_extract rfl rfl) <| SL.v (op_extract rfl rfl) <| SL.as rfl <| SL.as rfl <| SL.as rfl <| SL.nil <| T.seq <| T.seq <| T.region <| SL.mv rfl <| SL.mv rfl <| SL.v (op_neqF rfl rfl (by omega)) ?_
    refine SL.mv rfl <| SL.mv rfl <| SL.mv rfl <| SL.v (op_neqF rfl rfl (by omega)) ?_
    refine SL.v (op_pickF rfl rfl) <| SL.nil <| T.condF rfl <| T.skip <| T.seq <| T.seq <| T.region <| SL.mv rfl <| SL.v (op_neqF rfl rfl (by omega)) ?_
    refine SL.nil <| T.condF rfl <| T.skip <| T.seq <| T.region <| SL.mv rfl <| SL.mv rfl <| SL.w (op_callF en13 (vs := [_]) rfl (set16_spec hv' (by omega) hok)) ?_
    rintro v2 _ X4 ⟨rfl, hX4, h2⟩
    have hv := (hv.mono hX3).mono hX4
    refine SL.w (op_callF en31 (vs := [_, _]) rfl (conEq_spec hv h2 (by omega) (fun c hc => (hok c hc).2.2))) ?_
    rintro _ _ X5 ⟨rfl, hX5, rfl⟩
    rw [decide_eq_true rfl]
    refine SL.mv rfl <| SL.mv rfl <| SL.w (op_callF en16 (vs := [_]) rfl (checkB_spec ((((hP1.mono hX2).mono hX3).mono hX4).mono hX5) (hv.mono hX5) (by omega) (fun c hc => (hok c hc).2.2))) ?_
    rintro _ _ X6 ⟨rfl, hX6, rfl⟩
    rw [hc]
    refine SL.v (op_eqlT rfl rfl (by omega)) ?_
    refine SL.v (op_pickT rfl rfl) <| SL.as rfl <| SL.nil <| T.ret1 rfl (ResIs.tmp rfl) ?_
    rfl
end Go.Proofs.YtnabbnhefjfegaaGreatDoor
namespace Go.Proofs.YtnabbnhefjfegaaGreatDoor
open Go.RowKit
theorem gPow : Tryz.prog.globalNamed "internal/strconv.uint64pow10" = some 1 := by kernel_rfl
theorem gPowT : (Tryz.prog.globals[1]?).map (·.type) = some 211 := by kernel_rfl
theorem cells20 : Tryz.prog.cellsOf 211 = 20 := by kernel_rfl
theorem cellsU64 : Tryz.prog.cellsOf 171 = 1 := by kernel_rfl
theorem pow_of {W : World} {x y : String × DataW Unit} (h : laidMet Tryz.prog [x, y, ("internal/strconv.uint64pow10", Rows.laid_internal_strconv_uint64pow10)] W) : Pow10 (heapX W) := by
  have ht : Lib.TabIs Tryz.prog W "internal/strconv.uint64pow10" .u64 Lib.pow10Tab := Lib.tabIs_of_head gPow gPowT Tryz.underlying211 Tryz.underlying171 cellsU64 cells20 h.tail.tail
  intro w hw
  unfold Lib.TabIs World.var? at ht ⊢
  rw [gPow] at ht ⊢
  simp only [Option.bind_some] at ht ⊢
  cases hg : W.heap[1]? with
  | none => rw [hg] at ht; cases ht
  | some o =>
    rw [hg] at ht
    rw [hw 1 o hg]
    exact ht
end Go.Proofs.YtnabbnhefjfegaaGreatDoor
