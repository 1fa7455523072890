/- What the law's proof rests on: the engine, a small separation logic over the kit's walk, and contracts of the functions that the law reaches. Part 5. -/
import Derived.Test.YtnabbnhefjfegaaGreatDoorChecked
import Derived.Shelf.Sort.AssemblysIn
import Derived.Shelf.Strconv.Itoa3
import Derived.Sort.EveryDepth
import Derived.Test.YtnabbnhefjfegaaGreatDoorPart1
import Derived.Test.YtnabbnhefjfegaaGreatDoorPart2
import Derived.Test.YtnabbnhefjfegaaGreatDoorPart3
import Derived.Test.YtnabbnhefjfegaaGreatDoorPart4
namespace Go.Proofs.YtnabbnhefjfegaaGreatDoor
section
set_option maxRecDepth 100000
theorem en94 : Enters Tryz.prog 94 := enters_mk Tryz.func94 (by kernel_rfl) rfl
end
open Go.RowKit
theorem Sh.lt {a b : RSt} {f : Nat} (h : Sh a b) (hf : ∀ l, a = .ok l → l.length < f) : ∀ l, b = .ok l → l.length < f := fun l hl => by
  obtain ⟨l0, h0, hle⟩ := h l hl
  exact Nat.lt_of_le_of_lt hle (hf l0 h0)
section
variable {w : ByteArray} {op k : Nat} {p : ParP} {x : Ex} {st : RSt}
theorem leftP_start {sa : RSt} (h : Out (runM p st) sa x) : runM (leftP w op p) st = runM (fun l => leftG w op p (lenS sa) x l) sa := by
  have e : leftP w op p = fun l => bindR (p l) fun x l' => leftG w op p l'.length x l' := rfl
  rw [e, runM_par h]
  cases sa <;> rfl
theorem leftG_halt (h : (accM w st).1 = false) : Out (runM (fun l => leftG w op p k x l) st) st x := by
  cases st with
  | error y => rfl
  | ok l =>
    have hk : isT w l = false := by
      cases hk : isT w l with
      | false => rfl
      | true => rw [accM_t hk] at h; cases h
    rw [runM, leftG_stop hk]
    exact ⟨rfl, rfl⟩
theorem leftG_more {sa : RSt} {y : Ex} (h : (accM w st).1 = true) (ho : Out (runM p (accM w st).2) sa y) : runM (fun l => leftG w op p (k + 1) x l) st = runM (fun l => leftG w op p k (two op x y) l) sa := by
  obtain ⟨l, rfl, h2, h3⟩ := accM_lt h
  have hk : isT w l = true := by
    cases hk : isT w l with
    | true => rfl
    | false => rw [accM_f hk] at h; cases h
  rw [h2] at ho
  rw [← runM_par (q := fun y l' => leftG w op p k (two op x y) l') ho]
  show leftG w op p (k + 1) x l = bindR (p l.tail) _
  rw [leftG, if_pos hk]
end
abbrev EO (b : Nat) (r : Row4) : Ow := ⟨b, [r.1, r.2.1, r.2.2.1, r.2.2.2], 40, 4⟩
theorem keep2 {a b c c' : Ow} {l : Own} : ∀ p ∈ [a, b], p ∈ (a :: b :: c :: l).set 2 c' := by
  intro p hp
  simp only [List.mem_cons, List.not_mem_nil, or_false] at hp
  rcases hp with rfl | rfl <;> simp
theorem left_spec {f g : Nat} {p : ParP} {w : ByteArray} {op : Nat} (en : Enters Tryz.prog g) (hg : SpecP Tryz.prog g p f)
    {X : PMap} {v : Value} {ts : List Tk} {rb pb i off : Nat} {e : Int} {st : RSt} (hT : Tks X v ts) (hP : Blk X pb [.pointer (some ⟨rb, 0, none⟩)]) (hS : RdS ts st i off e) (hf : ∀ l, st = .ok l → l.length < f) :
    SpecR Tryz.prog 138 [.pointer (some ⟨pb, 0, none⟩), .string w, .int .u8 (op : Int), .func (.func g) #[.pointer (some ⟨pb, 0, none⟩)] #[]] X ts rb v i off e fun u st' X' => ∃ (ex : Ex) (r : Row4), u = .agg #[r.1, r.2.1, r.2.2.1, r.2.2.2] ∧ ExR .u8 X' ex r ∧ Out (runM (leftP w op p) st) st' ex ∧ Sh st st' := by
  refine SpecM.enter Tryz.func138 rfl Tryz.ntmps138 rfl ?_
  intro w0 X0 own0
  refine T.seq ?_
  refine T.region ?_
  refine SL.x (op_alloc z40) rfl rfl ?_
  rintro _ _ _ ⟨B8, rfl, rfl, rfl⟩
  refine SL.nil ?_
  refine T.seq ?_
  refine T.region ?_
  refine SL.y (op_move rfl) rfl rfl ?_
  refine SL.x (op_callJ en rfl (vs := []) rfl (hg hT hP hS hf) (by repeat constructor)) rfl rfl ?_
  rintro _ _ X1 ⟨_, rfl, hX1, i1, off1, e1, sa, rfl, hS1, x0, q0, rfl, hx0, hO0, hsh0⟩
  obtain ⟨o0, n0, a0, b0, l0, c0, m0, d0, rfl⟩ := hx0.form
  refine SL.x (op_alloc z40) rfl rfl ?_
  rintro _ _ _ ⟨B9, rfl, rfl, rfl⟩
  refine SL.x (op_store ty40 rfl rfl (by repeat constructor) rfl rfl rfl) rfl rfl ?_
  rintro _ _ _ ⟨rfl, rfl⟩
  refine SL.nil ?_
  refine T.seq ?_
  refine T.block ?_
  refine T.loopW (fun m env own X' => ∃ (x : Ex) (r : Row4) (i off : Nat) (e : Int) (sa : RSt) (k : Nat), m = lenS sa ∧ X1.le X' ∧ RdS ts sa i off e ∧ Sh st sa ∧ ExR .u8 X' x r ∧ lenS sa ≤ k ∧ runM (leftP w op p) st = runM (fun l => leftG w op p k x l) sa ∧ env = [(0, .pointer (some ⟨pb, 0, none⟩)), (1, .string w), (2, .int .u8 (op : Int)), (3, .func (.func g) #[.pointer (some ⟨pb, 0, none⟩)] #[]), (8, .pointer (some ⟨B8, 0, none⟩)), (9, .pointer (some ⟨B9, 0, none⟩))] ∧ own = EO B9 r :: E0 B8 :: RdO rb v i off e :: own0) (lenS sa) ⟨x0, (_, _, _, _), i1, off1, e1, sa, lenS sa, rfl, PMap.le_refl _, hS1, hsh0, hx0, Nat.le_refl _, leftP_start hO0, rfl, rfl⟩ (by repeat (first | exact Sub.nil | refine Sub.cons rfl ?_)) ?_
  rintro m _ _ X2 ⟨x, q, i2, off2, e2, sb, k, rfl, hX2, hS2, hsh2, hx, hk, heq, rfl, rfl⟩
  obtain ⟨o1, n1, a1, b1, l1, c1, m1, d1, rfl⟩ := hx.form
  have hP := (hP.mono hX1).mono hX2
  have hT := (hT.mono hX1).mono hX2
  refine T.seq ?_
  refine T.seq ?_
  refine T.region ?_
  refine SL.y (op_move rfl) rfl rfl ?_
  first | refine SL.y (op_nil rfl) rfl rfl ?_ | refine SL.y (op_nilFn rfl) rfl rfl ?_
  refine SL.y (op_fieldAddr fa98_0 rfl) rfl rfl ?_
  first | refine SL.y (op_load ty96 rfl (by repeat constructor) rfl) rfl rfl ?_ | refine SL.y (op_loadX ty96 rfl (by assumption) rfl) rfl rfl ?_
  refine SL.y (op_move rfl) rfl rfl ?_
  refine SL.x (op_callJ en90 rfl (vs := [_, _]) rfl (acc_spec hT hS2) (by repeat constructor)) rfl rfl ?_
  rintro _ _ X3 ⟨_, rfl, hX3, i3, off3, e3, _, rfl, hS3, rfl, rfl⟩
  have hP := hP.mono hX3
  have hT := hT.mono hX3
  cases ha : (accM w sb).1 with
  | true =>
    have hdec := accM_dec ha
    obtain ⟨k, rfl⟩ : ∃ q, k = q + 1 := ⟨k - 1, by omega⟩
    have hsh3 := hsh2.trans (accM_sh (w := w))
    refine SL.nil ?_
    refine T.condT rfl ?_
    refine T.skip ?_
    refine T.block ?_
    refine T.drawG (own0 := [_, _]) (by kernel_rfl) 5 [.t 0, .t 1, .t 2, .r 3, .r 4] (by kernel_rfl) ?_
    refine SD.take rfl panicBody (op_move rfl) rfl rfl ?_
    first | refine SD.take rfl panicBody (op_load ty40 rfl (by repeat constructor) rfl) rfl rfl ?_ | refine SD.take rfl panicBody (op_loadX ty40 rfl (by assumption) rfl) rfl rfl ?_
    refine SD.take rfl panicBody (op_move rfl) rfl rfl ?_
    refine SD.runK rfl (op_callJ en rfl (vs := []) rfl (hg hT hP hS3 (hsh3.lt hf)) (.there (.there .here))) (by rintro _ _ _ ⟨_, rfl, hX4, _⟩; exact ⟨keep2, hX4⟩) rfl rfl ?_
    rintro _ _ X4 ⟨_, rfl, hX4, i4, off4, e4, sc, rfl, hS4, y, q4, rfl, hy, hO4, hsh4⟩
    obtain ⟨o4, n4, a4, b4, l4, c4, m4, d4, rfl⟩ := hy.form
    have hc := two_spec (op := op) ((hx.mono hX3).mono hX4) hy
    try simp only at hc
    refine SD.run rfl (op_callF en94 (vs := [_, _, _]) rfl (hc)) rfl rfl ?_
    rintro _ _ X5 ⟨rfl, hX5, q5, rfl, hq5⟩
    refine SD.nil ?_
    show SL _ _ _ _ _ _ _ [_] _ _ _
    obtain ⟨o5, n5, a5, b5, l5, c5, m5, d5, rfl⟩ := hq5.form
    have hd4 := hsh4.len
    refine SL.x (op_store ty40 rfl rfl (by repeat constructor) rfl rfl rfl) rfl rfl ?_
    rintro _ _ _ ⟨rfl, rfl⟩
    refine SL.nil ?_
    refine T.blk ?_
    exact T.backW (lenS sc) (by omega) ⟨two op x y, (_, _, _, _), i4, off4, e4, sc, k, rfl, ((hX2.trans' hX3).trans' hX4).trans' hX5, hS4, hsh3.trans hsh4, hq5, by omega, by rw [heq]; exact leftG_more ha hO4, rfl, rfl⟩ (by repeat (first | exact Sub.nil | refine Sub.cons rfl ?_))
  | false =>
    rw [accM_same ha] at hS3
    refine SL.nil ?_
    refine T.condF rfl ?_
    refine T.exit (T.exitCode (T.exitCut (T.exitBlk ?_)))
    refine T.seq ?_
    refine T.region ?_
    first | refine SL.y (op_load ty40 rfl (by repeat constructor) rfl) rfl rfl ?_ | refine SL.y (op_loadX ty40 rfl (by assumption) rfl) rfl rfl ?_
    refine SL.x (op_store ty40 rfl rfl (by repeat constructor) rfl rfl rfl) rfl rfl ?_
    rintro _ _ _ ⟨rfl, rfl⟩
    refine SL.nil ?_
    refine T.drop B9 (by repeat constructor) ?_
    refine T.retM1S [_] _ rfl (ResIs.cell rfl ty40 (by repeat constructor) rfl) (List.sublist_cons_self _ _) (List.Perm.refl _) ?_
    exact ⟨(hX1.trans' hX2).trans' hX3, _, rfl, i3, off3, e3, sb, rfl, hS3, x, (_, _, _, _), rfl, hx.mono hX3, by rw [heq]; exact leftG_halt ha, hsh2⟩
end Go.Proofs.YtnabbnhefjfegaaGreatDoor
namespace Go.Proofs.YtnabbnhefjfegaaGreatDoor
section
set_option maxRecDepth 100000
theorem en138 : Enters Tryz.prog 138 := enters_mk Tryz.func138 (by kernel_rfl) rfl
theorem en179 : Enters Tryz.prog 179 := enters_mk Tryz.func179 (by kernel_rfl) rfl
theorem en180 : Enters Tryz.prog 180 := enters_mk Tryz.func180 (by kernel_rfl) rfl
theorem en192 : Enters Tryz.prog 192 := enters_mk Tryz.func192 (by kernel_rfl) rfl
end
open Go.RowKit
theorem sum_spec {f : Nat} {p : ParP} (hp : SpecP Tryz.prog 192 p f) : SpecP Tryz.prog 179 (sumP p) f := by
  intro X v ts rb pb i off e st hT hP hS hf
  refine SpecM.enter Tryz.func179 rfl Tryz.ntmps179 rfl ?_
  intro w0 X0 own0
  refine T.seq ?_
  refine T.region ?_
  refine SL.x (op_alloc z40) rfl rfl ?_
  rintro _ _ _ ⟨B2, rfl, rfl, rfl⟩
  refine SL.nil ?_
  refine T.seq ?_
  refine T.region ?_
  refine SL.y (op_move rfl) rfl rfl ?_
  refine SL.y (op_move rfl) rfl rfl ?_
  refine SL.y (op_makeFunc (vs := [_]) (us := []) rfl rfl) rfl rfl ?_
  refine SL.x (op_callJ en138 rfl (vs := [_, _, _, _]) rfl (left_spec en192 hp hT hP hS hf) (by repeat constructor)) rfl rfl ?_
  rintro _ _ X1 ⟨_, rfl, hX1, i1, off1, e1, sa, rfl, hS1, x, q, rfl, hx, hO, hsh⟩
  obtain ⟨o9, n9, a9, b9, l9, c9, m9, d9, rfl⟩ := hx.form
  refine SL.x (op_store ty40 rfl rfl (by repeat constructor) rfl rfl rfl) rfl rfl ?_
  rintro _ _ _ ⟨rfl, rfl⟩
  refine SL.nil ?_
  refine T.retM1S [_] _ rfl (ResIs.cell rfl ty40 (by repeat constructor) rfl) (List.sublist_cons_self _ _) (List.Perm.refl _) ?_
  exact ⟨hX1, _, rfl, i1, off1, e1, sa, rfl, hS1, x, (_, _, _, _), rfl, hx, hO, hsh⟩
/-- The operator of a comparison. -/
def oprM (st : RSt) : Option Nat × RSt := match st with
  | .ok l => match cmps.find? fun c => isT c.1 l with
    | some c => (some c.2, .ok l.tail)
    | none => (none, .ok l)
  | .error x => (none, .error x)
theorem oprM_hit {st : RSt} {pre post : List (ByteArray × Nat)} {c : ByteArray × Nat} (hc : cmps = pre ++ c :: post) (hp : ∀ d ∈ pre, (accM d.1 st).1 = false) (h : (accM c.1 st).1 = true) : oprM st = (some c.2, (accM c.1 st).2) := by
  obtain ⟨l, rfl, h2, h3⟩ := accM_lt h
  have hk : isT c.1 l = true := by
    cases hk : isT c.1 l with
    | true => rfl
    | false => rw [accM_f hk] at h; cases h
  have hf : cmps.find? (fun c => isT c.1 l) = some c := by
    rw [hc, List.find?_append, List.find?_eq_none.2, Option.none_or, List.find?_cons_of_pos (p := fun c : ByteArray × Nat => isT c.1 l) hk]
    intro d hd
    have := hp d hd
    cases hk : isT d.1 l with
    | true => rw [accM_t hk] at this; cases this
    | false => simp
  rw [h2]
  show (match cmps.find? (fun c : ByteArray × Nat => isT c.1 l) with | some c => (some c.2, (.ok l.tail : RSt)) | none => (none, .ok l)) = _
  rw [hf]
theorem oprM_miss {st : RSt} (hp : ∀ d ∈ cmps, (accM d.1 st).1 = false) : oprM st = (none, st) := by
  cases st with
  | error x => rfl
  | ok l =>
    have hf : cmps.find? (fun c => isT c.1 l) = none := List.find?_eq_none.2 fun d hd => by
      have := hp d hd
      cases hk : isT d.1 l with
      | true => rw [accM_t hk] at this; cases this
      | false => simp
    show (match cmps.find? (fun c : ByteArray × Nat => isT c.1 l) with | some c => (some c.2, (.ok l.tail : RSt)) | none => (none, .ok l)) = _
    rw [hf]
section
variable {X : PMap} {v : Value} {ts : List Tk} {rb pb i off : Nat} {e : Int} {st : RSt}
theorem oper_spec (hT : Tks X v ts) (hP : Blk X pb [.pointer (some ⟨rb, 0, none⟩)]) (hS : RdS ts st i off e) :
    SpecR Tryz.prog 180 [.pointer (some ⟨pb, 0, none⟩)] X ts rb v i off e fun u st' _ => st' = (oprM st).2 ∧ u = match (oprM st).1 with | some o => .tuple #[.int .u8 (o : Int), .bool true] | none => .tuple #[.int .u8 0, .bool false] := by
  refine SpecM.enter Tryz.func180 rfl Tryz.ntmps180 rfl ?_
  intro w0 X0 own0
  refine T.seq ?_
  refine T.region ?_
  refine SL.y (op_assign (v := .int .u8 ((0 : Nat) : Int)) rfl) rfl rfl ?_
  refine SL.y (op_assign rfl) rfl rfl ?_
  refine SL.nil ?_
  refine T.seq ?_
  refine T.block ?_
  refine T.seq ?_
  refine T.region ?_
  refine SL.y (op_move rfl) rfl rfl ?_
  first | refine SL.y (op_nil rfl) rfl rfl ?_ | refine SL.y (op_nilFn rfl) rfl rfl ?_
  refine SL.y (op_fieldAddr fa98_0 rfl) rfl rfl ?_
  first | refine SL.y (op_load ty96 rfl (by repeat constructor) rfl) rfl rfl ?_ | refine SL.y (op_loadX ty96 rfl (by assumption) rfl) rfl rfl ?_
  refine SL.x (op_callJ en90 rfl (vs := [_, _]) rfl (acc_spec hT hS) (by repeat constructor)) rfl rfl ?_
  rintro _ _ X1 ⟨_, rfl, hX1, i1, off1, e1, _, rfl, hS1, rfl, rfl⟩
  have hP := hP.mono hX1
  have hT := hT.mono hX1
  cases h1 : (accM wLe st).1 with
  | true =>
    have ho := oprM_hit (st := st) (pre := []) (c := (wLe, 11)) (post := [(wLt, 12), (wGe, 13), (wGt, 14), (wEq, 15)]) rfl (fun d hd => by cases hd) h1
    refine SL.y (op_assign rfl) rfl rfl ?_
    refine SL.nil ?_
    refine T.condT rfl ?_
    refine T.seq ?_
    refine T.region ?_
    refine SL.y (op_assign (v := .int .u8 ((11 : Nat) : Int)) rfl) rfl rfl ?_
    refine SL.y (op_assign rfl) rfl rfl ?_
    refine SL.nil ?_
    refine T.retM2 [RdO rb v i1 off1 e1] rfl (ResIs.tmp rfl) (ResIs.tmp rfl) (List.Perm.refl _) ?_
    exact ⟨hX1, _, rfl, i1, off1, e1, _, rfl, hS1, by rw [ho], by rw [ho]⟩
  | false =>
  rw [accM_same h1] at hS1
  refine SL.y (op_assign rfl) rfl rfl ?_
  refine SL.nil ?_
  refine T.condF rfl ?_
  refine T.seq ?_
  refine T.region ?_
  refine SL.y (op_move rfl) rfl rfl ?_
  first | refine SL.y (op_nil rfl) rfl rfl ?_ | refine SL.y (op_nilFn rfl) rfl rfl ?_
  refine SL.y (op_fieldAddr fa98_0 rfl) rfl rfl ?_
  first | refine SL.y (op_load ty96 rfl (by repeat constructor) rfl) rfl rfl ?_ | refine SL.y (op_loadX ty96 rfl (by assumption) rfl) rfl rfl ?_
  refine SL.x (op_callJ en90 rfl (vs := [_, _]) rfl (acc_spec hT hS1) (by repeat constructor)) rfl rfl ?_
  rintro _ _ X2 ⟨_, rfl, hX2, i2, off2, e2, _, rfl, hS2, rfl, rfl⟩
  have hP := hP.mono hX2
  have hT := hT.mono hX2
  cases h2 : (accM wLt st).1 with
  | true =>
    have ho := oprM_hit (st := st) (pre := [(wLe, 11)]) (c := (wLt, 12)) (post := [(wGe, 13), (wGt, 14), (wEq, 15)]) rfl (by intro d hd; simp only [List.mem_cons, List.not_mem_nil, or_false] at hd; rcases hd with rfl <;> assumption) h2
    refine SL.y (op_assign rfl) rfl rfl ?_
    refine SL.nil ?_
    refine T.condT rfl ?_
    refine T.seq ?_
    refine T.region ?_
    refine SL.y (op_assign (v := .int .u8 ((12 : Nat) : Int)) rfl) rfl rfl ?_
    refine SL.y (op_assign rfl) rfl rfl ?_
    refine SL.nil ?_
    refine T.retM2 [RdO rb v i2 off2 e2] rfl (ResIs.tmp rfl) (ResIs.tmp rfl) (List.Perm.refl _) ?_
    exact ⟨(hX1.trans' hX2), _, rfl, i2, off2, e2, _, rfl, hS2, by rw [ho], by rw [ho]⟩
  | false =>
  rw [accM_same h2] at hS2
  refine SL.y (op_assign rfl) rfl rfl ?_
  refine SL.nil ?_
  refine T.condF rfl ?_
  refine T.seq ?_
  refine T.region ?_
  refine SL.y (op_move rfl) rfl rfl ?_
  first | refine SL.y (op_nil rfl) rfl rfl ?_ | refine SL.y (op_nilFn rfl) rfl rfl ?_
  refine SL.y (op_fieldAddr fa98_0 rfl) rfl rfl ?_
  first | refine SL.y (op_load ty96 rfl (by repeat constructor) rfl) rfl rfl ?_ | refine SL.y (op_loadX ty96 rfl (by assumption) rfl) rfl rfl ?_
  refine SL.x (op_callJ en90 rfl (vs := [_, _]) rfl (acc_spec hT hS2) (by repeat constructor)) rfl rfl ?_
  rintro _ _ X3 ⟨_, rfl, hX3, i3, off3, e3, _, rfl, hS3, rfl, rfl⟩
  have hP := hP.mono hX3
  have hT := hT.mono hX3
  cases h3 : (accM wGe st).1 with
  | true =>
    have ho := oprM_hit (st := st) (pre := [(wLe, 11), (wLt, 12)]) (c := (wGe, 13)) (post := [(wGt, 14), (wEq, 15)]) rfl (by intro d hd; simp only [List.mem_cons, List.not_mem_nil, or_false] at hd; rcases hd with rfl | rfl <;> assumption) h3
    refine SL.y (op_assign rfl) rfl rfl ?_
    refine SL.nil ?_
    refine T.condT rfl ?_
    refine T.seq ?_
    refine T.region ?_
    refine SL.y (op_assign (v := .int .u8 ((13 : Nat) : Int)) rfl) rfl rfl ?_
    refine SL.y (op_assign rfl) rfl rfl ?_
    refine SL.nil ?_
    refine T.retM2 [RdO rb v i3 off3 e3] rfl (ResIs.tmp rfl) (ResIs.tmp rfl) (List.Perm.refl _) ?_
    exact ⟨((hX1.trans' hX2).trans' hX3), _, rfl, i3, off3, e3, _, rfl, hS3, by rw [ho], by rw [ho]⟩
  | false =>
  rw [accM_same h3] at hS3
  refine SL.y (op_assign rfl) rfl rfl ?_
  refine SL.nil ?_
  refine T.condF rfl ?_
  refine T.seq ?_
  refine T.region ?_
  refine SL.y (op_move rfl) rfl rfl ?_
  first | refine SL.y (op_nil rfl) rfl rfl ?_ | refine SL.y (op_nilFn rfl) rfl rfl ?_
  refine SL.y (op_fieldAddr fa98_0 rfl) rfl rfl ?_
  first | refine SL.y (op_load ty96 rfl (by repeat constructor) rfl) rfl rfl ?_ | refine SL.y (op_loadX ty96 rfl (by assumption) rfl) rfl rfl ?_
  refine SL.x (op_callJ en90 rfl (vs := [_, _]) rfl (acc_spec hT hS3) (by repeat constructor)) rfl rfl ?_
  rintro _ _ X4 ⟨_, rfl, hX4, i4, off4, e4, _, rfl, hS4, rfl, rfl⟩
  have hP := hP.mono hX4
  have hT := hT.mono hX4
  cases h4 : (accM wGt st).1 with
  | true =>
    have ho := oprM_hit (st := st) (pre := [(wLe, 11), (wLt, 12), (wGe, 13)]) (c := (wGt, 14)) (post := [(wEq, 15)]) rfl (by intro d hd; simp only [List.mem_cons, List.not_mem_nil, or_false] at hd; rcases hd with rfl | rfl | rfl <;> assumption) h4
    refine SL.y (op_assign rfl) rfl rfl ?_
    refine SL.nil ?_
    refine T.condT rfl ?_
    refine T.seq ?_
    refine T.region ?_
    refine SL.y (op_assign (v := .int .u8 ((14 : Nat) : Int)) rfl) rfl rfl ?_
    refine SL.y (op_assign rfl) rfl rfl ?_
    refine SL.nil ?_
    refine T.retM2 [RdO rb v i4 off4 e4] rfl (ResIs.tmp rfl) (ResIs.tmp rfl) (List.Perm.refl _) ?_
    exact ⟨(((hX1.trans' hX2).trans' hX3).trans' hX4), _, rfl, i4, off4, e4, _, rfl, hS4, by rw [ho], by rw [ho]⟩
  | false =>
  rw [accM_same h4] at hS4
  refine SL.y (op_assign rfl) rfl rfl ?_
  refine SL.nil ?_
  refine T.condF rfl ?_
  refine T.seq ?_
  refine T.region ?_
  refine SL.y (op_move rfl) rfl rfl ?_
  first | refine SL.y (op_nil rfl) rfl rfl ?_ | refine SL.y (op_nilFn rfl) rfl rfl ?_
  refine SL.y (op_fieldAddr fa98_0 rfl) rfl rfl ?_
  first | refine SL.y (op_load ty96 rfl (by repeat constructor) rfl) rfl rfl ?_ | refine SL.y (op_loadX ty96 rfl (by assumption) rfl) rfl rfl ?_
  refine SL.x (op_callJ en90 rfl (vs := [_, _]) rfl (acc_spec hT hS4) (by repeat constructor)) rfl rfl ?_
  rintro _ _ X5 ⟨_, rfl, hX5, i5, off5, e5, _, rfl, hS5, rfl, rfl⟩
  have hP := hP.mono hX5
  have hT := hT.mono hX5
  cases h5 : (accM wEq st).1 with
  | true =>
    have ho := oprM_hit (st := st) (pre := [(wLe, 11), (wLt, 12), (wGe, 13), (wGt, 14)]) (c := (wEq, 15)) (post := []) rfl (by intro d hd; simp only [List.mem_cons, List.not_mem_nil, or_false] at hd; rcases hd with rfl | rfl | rfl | rfl <;> assumption) h5
    refine SL.y (op_assign rfl) rfl rfl ?_
    refine SL.nil ?_
    refine T.condT rfl ?_
    refine T.seq ?_
    refine T.region ?_
    refine SL.y (op_assign (v := .int .u8 ((15 : Nat) : Int)) rfl) rfl rfl ?_
    refine SL.y (op_assign rfl) rfl rfl ?_
    refine SL.nil ?_
    refine T.retM2 [RdO rb v i5 off5 e5] rfl (ResIs.tmp rfl) (ResIs.tmp rfl) (List.Perm.refl _) ?_
    exact ⟨((((hX1.trans' hX2).trans' hX3).trans' hX4).trans' hX5), _, rfl, i5, off5, e5, _, rfl, hS5, by rw [ho], by rw [ho]⟩
  | false =>
  rw [accM_same h5] at hS5
  have ho := oprM_miss (st := st) (by intro d hd; simp only [cmps, List.mem_cons, List.not_mem_nil, or_false] at hd; rcases hd with rfl | rfl | rfl | rfl | rfl <;> assumption)
  refine SL.y (op_assign rfl) rfl rfl ?_
  refine SL.nil ?_
  refine T.condF rfl ?_
  refine T.skip ?_
  refine T.blk ?_
  refine T.seq ?_
  refine T.region ?_
  refine SL.y (op_assign (v := .int .u8 ((0 : Nat) : Int)) rfl) rfl rfl ?_
  refine SL.y (op_assign rfl) rfl rfl ?_
  refine SL.nil ?_
  refine T.retM2 [RdO rb v i5 off5 e5] rfl (ResIs.tmp rfl) (ResIs.tmp rfl) (List.Perm.refl _) ?_
  exact ⟨((((hX1.trans' hX2).trans' hX3).trans' hX4).trans' hX5), _, rfl, i5, off5, e5, _, rfl, hS5, by rw [ho], by rw [ho]; rfl⟩
end
theorem cmpP_run {pr : ParP} {st sa : RSt} {x : Ex} (h : Out (runM (sumP pr) st) sa x) : runM (cmpP pr) st = match (oprM sa).1 with
    | some o => runM (fun l => bindR (sumP pr l) fun y l' => .ok (two o x y, l')) (oprM sa).2
    | none => runM (fun l => .ok (x, l)) (oprM sa).2 := by
  have e : cmpP pr = fun l => bindR (sumP pr l) fun x l' => match cmps.find? fun c : ByteArray × Nat => isT c.1 l' with
    | some c => bindR (sumP pr l'.tail) fun y l'' => .ok (two c.2 x y, l'')
    | none => .ok (x, l') := rfl
  rw [e, runM_par h]
  cases sa with
  | error y => rfl
  | ok l =>
    simp only [oprM, runM]
    cases cmps.find? fun c : ByteArray × Nat => isT c.1 l with
    | none => rfl
    | some c => rfl
theorem oprM_sh {st : RSt} : Sh st (oprM st).2 := by
  cases st with
  | error x => exact Sh.refl _
  | ok l =>
    show Sh (.ok l) (match cmps.find? (fun c : ByteArray × Nat => isT c.1 l) with | some c => (some c.2, (.ok l.tail : RSt)) | none => (none, .ok l)).2
    cases cmps.find? fun c : ByteArray × Nat => isT c.1 l with
    | none => exact Sh.refl _
    | some c => exact tail_sh
theorem comparison_spec {f : Nat} {p : ParP} (hp : SpecP Tryz.prog 192 p f) : SpecP Tryz.prog 162 (cmpP p) f := by
  intro X v ts rb pb i off e st hT hP hS hf
  refine SpecM.enter Tryz.func162 rfl Tryz.ntmps162 rfl ?_
  intro w0 X0 own0
  refine T.seq ?_
  refine T.region ?_
  refine SL.x (op_alloc z40) rfl rfl ?_
  rintro _ _ _ ⟨B2, rfl, rfl, rfl⟩
  refine SL.nil ?_
  refine T.seq ?_
  refine T.region ?_
  refine SL.y (op_move rfl) rfl rfl ?_
  refine SL.x (op_callJ en179 rfl (vs := [_]) rfl (sum_spec hp hT hP hS hf) (by repeat constructor)) rfl rfl ?_
  rintro _ _ X1 ⟨_, rfl, hX1, i1, off1, e1, sa, rfl, hS1, x, q, rfl, hx, hO, hsh⟩
  obtain ⟨o9, n9, a9, b9, l9, c9, m9, d9, rfl⟩ := hx.form
  have hP := hP.mono hX1
  have hT := hT.mono hX1
  have hrun := cmpP_run hO
  refine SL.x (op_alloc z40) rfl rfl ?_
  rintro _ _ _ ⟨B3, rfl, rfl, rfl⟩
  refine SL.x (op_store ty40 rfl rfl (by repeat constructor) rfl rfl rfl) rfl rfl ?_
  rintro _ _ _ ⟨rfl, rfl⟩
  refine SL.nil ?_
  refine T.seq ?_
  refine T.seq ?_
  refine T.region ?_
  refine SL.y (op_move rfl) rfl rfl ?_
  refine SL.x (op_callJ en180 rfl (vs := [_]) rfl (oper_spec hT hP hS1) (by repeat constructor)) rfl rfl ?_
  rintro _ _ X2 ⟨_, rfl, hX2, i2, off2, e2, _, rfl, hS2, rfl, rfl⟩
  have hP := hP.mono hX2
  have hT := hT.mono hX2
  have hsh2 := hsh.trans (oprM_sh (st := sa))
  cases ho : (oprM sa).1 with
  | none =>
    rw [ho] at hrun
    refine SL.y (op_move rfl) rfl rfl ?_
    refine SL.y (op_extract rfl rfl) rfl rfl ?_
    refine SL.y (op_extract rfl rfl) rfl rfl ?_
    refine SL.y (op_assign rfl) rfl rfl ?_
    refine SL.y (op_assign rfl) rfl rfl ?_
    refine SL.nil ?_
    refine T.seq ?_
    refine T.region ?_
    refine SL.y (op_move rfl) rfl rfl ?_
    refine SL.nil ?_
    refine T.condF rfl ?_
    refine T.skip ?_
    refine T.seq ?_
    refine T.region ?_
    first | refine SL.y (op_load ty40 rfl (by repeat constructor) rfl) rfl rfl ?_ | refine SL.y (op_loadX ty40 rfl (by assumption) rfl) rfl rfl ?_
    refine SL.x (op_store ty40 rfl rfl (by repeat constructor) rfl rfl rfl) rfl rfl ?_
    rintro _ _ _ ⟨rfl, rfl⟩
    refine SL.nil ?_
    refine T.drop B3 (by repeat constructor) ?_
    refine T.retM1S [_] _ rfl (ResIs.cell rfl ty40 (by repeat constructor) rfl) (List.sublist_cons_self _ _) (List.Perm.refl _) ?_
    exact ⟨hX1.trans' hX2, _, rfl, i2, off2, e2, _, rfl, hS2, x, (_, _, _, _), rfl, hx.mono hX2, by rw [hrun]; exact out_ok rfl, hsh2⟩
  | some o =>
    rw [ho] at hrun
    refine SL.y (op_move rfl) rfl rfl ?_
    refine SL.y (op_extract rfl rfl) rfl rfl ?_
    refine SL.y (op_extract rfl rfl) rfl rfl ?_
    refine SL.y (op_assign rfl) rfl rfl ?_
    refine SL.y (op_assign rfl) rfl rfl ?_
    refine SL.nil ?_
    refine T.seq ?_
    refine T.region ?_
    refine SL.y (op_move rfl) rfl rfl ?_
    refine SL.nil ?_
    refine T.condT rfl ?_
    refine T.seq ?_
    refine T.drawG (own0 := [_, _]) (by kernel_rfl) 5 [.t 0, .t 1, .t 2, .r 3, .r 4] (by kernel_rfl) ?_
    refine SD.take rfl panicBody (op_move rfl) rfl rfl ?_
    first | refine SD.take rfl panicBody (op_load ty40 rfl (by repeat constructor) rfl) rfl rfl ?_ | refine SD.take rfl panicBody (op_loadX ty40 rfl (by assumption) rfl) rfl rfl ?_
    refine SD.take rfl panicBody (op_move rfl) rfl rfl ?_
    refine SD.runK rfl (op_callJ en179 rfl (vs := [_]) rfl (sum_spec hp hT hP hS2 (hsh2.lt hf)) (.there (.there .here))) (by rintro _ _ _ ⟨_, rfl, hX4, _⟩; exact ⟨keep2, hX4⟩) rfl rfl ?_
    rintro _ _ X4 ⟨_, rfl, hX4, i4, off4, e4, sc, rfl, hS4, y, q4, rfl, hy, hO4, hsh4⟩
    obtain ⟨o4, n4, a4, b4, l4, c4, m4, d4, rfl⟩ := hy.form
    have hc := two_spec (op := o) ((hx.mono hX2).mono hX4) hy
    try simp only at hc
    refine SD.run rfl (op_callF en94 (vs := [_, _, _]) rfl (hc)) rfl rfl ?_
    rintro _ _ X5 ⟨rfl, hX5, q5, rfl, hq5⟩
    refine SD.nil ?_
    show SL _ _ _ _ _ _ _ [_] _ _ _
    obtain ⟨o5, n5, a5, b5, l5, c5, m5, d5, rfl⟩ := hq5.form
    refine SL.x (op_store ty40 rfl rfl (by repeat constructor) rfl rfl rfl) rfl rfl ?_
    rintro _ _ _ ⟨rfl, rfl⟩
    refine SL.nil ?_
    refine T.retM1S [_] _ rfl (ResIs.cell rfl ty40 (by repeat constructor) rfl) (.cons _ (.cons _ (.refl _))) (List.Perm.refl _) ?_
    exact ⟨((hX1.trans' hX2).trans' hX4).trans' hX5, _, rfl, i4, off4, e4, sc, rfl, hS4, two o x y, (_, _, _, _), rfl, hq5, by rw [hrun]; simp only; rw [runM_par hO4]; exact out_ok rfl, hsh2.trans hsh4⟩
end Go.Proofs.YtnabbnhefjfegaaGreatDoor
namespace Go.Proofs.YtnabbnhefjfegaaGreatDoor
section
set_option maxRecDepth 100000
theorem en139 : Enters Tryz.prog 139 := enters_mk Tryz.func139 (by kernel_rfl) rfl
theorem en154 : Enters Tryz.prog 154 := enters_mk Tryz.func154 (by kernel_rfl) rfl
theorem en162 : Enters Tryz.prog 162 := enters_mk Tryz.func162 (by kernel_rfl) rfl
end
open Go.RowKit
def wrapN : Nat → Ex → Ex
  | 0, x => x
  | n + 1, x => wrapN n (.mk 7 0 [] [x])
theorem wrapN_out : ∀ (n : Nat) (x : Ex), Ex.mk 7 0 [] [wrapN n x] = wrapN (n + 1) x
  | 0, _ => rfl
  | n + 1, x => by rw [wrapN, wrapN_out n]; rfl
def outW (n : Nat) (R : Res Ex) : Res Ex := bindR R fun x l => .ok (wrapN n x, l)
noncomputable def negA (pr : ParP) : ParP := fun l => negP pr (l.length + 1) l
section
variable {pr : ParP} {st : RSt} {n k : Nat}
theorem negA_start : runM (negA pr) st = outW 0 (runM (fun l => negP pr (lenS st + 1) l) st) := by
  cases st with
  | error x => rfl
  | ok l =>
    show negP pr (l.length + 1) l = bindR (negP pr (l.length + 1) l) _
    cases negP pr (l.length + 1) l with
    | error x => rfl
    | ok y => rfl
theorem neg_more (h : (accM wNot st).1 = true) : outW n (runM (fun l => negP pr (k + 1) l) st) = outW (n + 1) (runM (fun l => negP pr k l) (accM wNot st).2) := by
  obtain ⟨l, rfl, h2, h3⟩ := accM_lt h
  have hk : isT wNot l = true := by
    cases hk : isT wNot l with
    | true => rfl
    | false => rw [accM_f hk] at h; cases h
  rw [h2]
  show outW n (negP pr (k + 1) l) = outW (n + 1) (negP pr k l.tail)
  rw [negP_succ, if_pos hk]
  cases negP pr k l.tail with
  | error x => rfl
  | ok y => rfl
theorem neg_halt (h : (accM wNot st).1 = false) : outW n (runM (fun l => negP pr (k + 1) l) st) = outW n (runM (cmpP pr) st) := by
  cases st with
  | error x => rfl
  | ok l =>
    have hk : isT wNot l = false := by
      cases hk : isT wNot l with
      | false => rfl
      | true => rw [accM_t hk] at h; cases h
    show outW n (negP pr (k + 1) l) = _
    rw [negP_succ, hk]
    rfl
theorem outW_out {R : Res Ex} {sa : RSt} {x : Ex} (h : Out R sa x) : Out (outW n R) sa (wrapN n x) := by
  cases R with
  | error y => exact h
  | ok y => obtain ⟨rfl, rfl⟩ := h; exact ⟨rfl, rfl⟩
end
theorem notR {X : PMap} {x : Ex} {r : Row4} {b : Nat} (h : ExR .u8 X x r) (hb : Blk X b [r.1, r.2.1, r.2.2.1, r.2.2.2]) : ExR .u8 X (.mk 7 0 [] [x]) (.int .u8 7, .int .i64 0, .slice none 0 0, .slice (some ⟨b, 0, none⟩) 1 1) :=
  .mk (.inl ⟨rfl, _, _, rfl⟩) (rows := [r]) (.inr ⟨by simp, b, 1, [], rfl, hb, by simp, by decide⟩) rfl fun i a q ha hq => by
    match i with
    | 0 => cases ha; cases hq; exact h
    | i + 1 => cases ha
theorem negation_spec {f : Nat} {p : ParP} (hp : SpecP Tryz.prog 192 p f) : SpecP Tryz.prog 154 (negA p) f := by
  intro X v ts rb pb i off e st hT hP hS hf
  have hlen := hT.len
  have hls := hS.lenS
  refine SpecM.enter Tryz.func154 rfl Tryz.ntmps154 rfl ?_
  intro w0 X0 own0
  refine T.seq ?_
  refine T.region ?_
  refine SL.x (op_alloc z40) rfl rfl ?_
  rintro _ _ _ ⟨B2, rfl, rfl, rfl⟩
  refine SL.nil ?_
  refine T.seq ?_
  refine T.region ?_
  refine SL.y (op_assign (v := .int .i64 ((0 : Nat) : Int)) rfl) rfl rfl ?_
  refine SL.nil ?_
  refine T.seq ?_
  refine T.block ?_
  refine T.loopW (fun m env own X' => ∃ (n : Nat) (i off : Nat) (e : Int) (sa : RSt) (k : Nat), m = lenS sa ∧ X.le X' ∧ RdS ts sa i off e ∧ Sh st sa ∧ n + lenS sa ≤ 1000000 ∧ lenS sa ≤ k ∧ runM (negA p) st = outW n (runM (fun l => negP p (k + 1) l) sa) ∧ env = [(0, .pointer (some ⟨pb, 0, none⟩)), (2, .pointer (some ⟨B2, 0, none⟩)), (3, .int .i64 (n : Int))] ∧ own = E0 B2 :: RdO rb v i off e :: own0) (lenS st) ⟨0, i, off, e, st, lenS st, rfl, PMap.le_refl _, hS, Sh.refl _, by omega, Nat.le_refl _, negA_start, rfl, rfl⟩ (by repeat (first | exact Sub.nil | refine Sub.cons rfl ?_)) ?_
  rintro m _ _ X1 ⟨n, i1, off1, e1, sa, k, rfl, hX1, hS1, hsh1, hn, hk, heq, rfl, rfl⟩
  have hP := hP.mono hX1
  have hT := hT.mono hX1
  refine T.seq ?_
  refine T.seq ?_
  refine T.region ?_
  refine SL.y (op_move rfl) rfl rfl ?_
  first | refine SL.y (op_nil rfl) rfl rfl ?_ | refine SL.y (op_nilFn rfl) rfl rfl ?_
  refine SL.y (op_fieldAddr fa98_0 rfl) rfl rfl ?_
  first | refine SL.y (op_load ty96 rfl (by repeat constructor) rfl) rfl rfl ?_ | refine SL.y (op_loadX ty96 rfl (by assumption) rfl) rfl rfl ?_
  refine SL.x (op_callJ en90 rfl (vs := [_, _]) rfl (acc_spec hT hS1) (by repeat constructor)) rfl rfl ?_
  rintro _ _ X2 ⟨_, rfl, hX2, i2, off2, e2, _, rfl, hS2, rfl, rfl⟩
  have hP := hP.mono hX2
  have hT := hT.mono hX2
  cases ha : (accM wNot sa).1 with
  | true =>
    have hdec := accM_dec ha
    obtain ⟨k, rfl⟩ : ∃ q, k = q + 1 := ⟨k - 1, by omega⟩
    rw [neg_more ha] at heq
    refine SL.nil ?_
    refine T.condT rfl ?_
    refine T.skip ?_
    refine T.block ?_
    refine T.region ?_
    refine SL.y (op_move rfl) rfl rfl ?_
    first | refine SL.y (op_addN (q := 1) rfl rfl (by omega)) rfl rfl ?_ | refine SL.y (op_add rfl rfl (by omega) (by omega)) rfl rfl ?_ | refine SL.y (op_addW rfl rfl) rfl rfl ?_
    refine SL.y (op_assign rfl) rfl rfl ?_
    refine SL.nil ?_
    refine T.blk ?_
    exact T.backW (lenS (accM wNot sa).2) (by omega) ⟨n + 1, i2, off2, e2, (accM wNot sa).2, k, rfl, hX1.trans' hX2, hS2, hsh1.trans accM_sh, by omega, by omega, heq, rfl, rfl⟩ (by repeat (first | exact Sub.nil | refine Sub.cons rfl ?_))
  | false =>
    rw [accM_same ha] at hS2
    rw [neg_halt ha] at heq
    refine SL.nil ?_
    refine T.condF rfl ?_
    refine T.exit (T.exitCode (T.exitCut (T.exitBlk ?_)))
    refine T.seq ?_
    refine T.region ?_
    refine SL.y (op_move rfl) rfl rfl ?_
    refine SL.x (op_callJ en162 rfl (vs := [_]) rfl (comparison_spec hp hT hP hS2 (hsh1.lt hf)) (by repeat constructor)) rfl rfl ?_
    rintro _ _ X3 ⟨_, rfl, hX3, i3, off3, e3, sb, rfl, hS3, x, q, rfl, hx, hO, hsh3⟩
    obtain ⟨o9, n9, a9, b9, l9, c9, m9, d9, rfl⟩ := hx.form
    refine SL.x (op_alloc z40) rfl rfl ?_
    rintro _ _ _ ⟨B4, rfl, rfl, rfl⟩
    refine SL.x (op_store ty40 rfl rfl (by repeat constructor) rfl rfl rfl) rfl rfl ?_
    rintro _ _ _ ⟨rfl, rfl⟩
    refine SL.nil ?_
    refine T.seq ?_
    refine T.seq ?_
    refine T.region ?_
    refine SL.y (op_move rfl) rfl rfl ?_
    refine SL.y (op_move (v := .int .i64 ((0 : Nat) : Int)) rfl) rfl rfl ?_
    refine SL.nil ?_
    refine T.block ?_
    refine T.loopW (fun m env own X' => ∃ (j : Nat) (r : Row4), m = n - j ∧ j ≤ n ∧ X3.le X' ∧ ExR .u8 X' (wrapN j x) r ∧ env = [(2, .pointer (some ⟨B2, 0, none⟩)), (4, .pointer (some ⟨B4, 0, none⟩)), (14, .int .i64 (n : Int)), (15, .int .i64 (j : Int))] ∧ own = EO B4 r :: E0 B2 :: RdO rb v i3 off3 e3 :: own0) n ⟨0, (_, _, _, _), rfl, Nat.zero_le _, PMap.le_refl _, hx, rfl, rfl⟩ (by repeat (first | exact Sub.nil | refine Sub.cons rfl ?_)) ?_
    rintro m _ _ X4 ⟨j, r, rfl, hj, hX4, hr, rfl, rfl⟩
    obtain ⟨o8, n8, a8, b8, l8, c8, m8, d8, rfl⟩ := hr.form
    rcases Nat.lt_or_ge j n with hjn | hjn
    · skip
      refine T.seq ?_
      refine T.region ?_
      first | refine SL.y (op_lssT rfl rfl (by omega)) rfl rfl ?_ | refine SL.y (op_lssF rfl rfl (by omega)) rfl rfl ?_ | refine SL.y (op_lss rfl rfl) rfl rfl ?_
      refine SL.nil ?_
      refine T.seq ?_
      refine T.condT rfl ?_
      refine T.skip ?_
      refine T.seq ?_
      refine T.block ?_
      refine T.region ?_
      first | refine SL.y (op_load ty40 rfl (by repeat constructor) rfl) rfl rfl ?_ | refine SL.y (op_loadX ty40 rfl (by assumption) rfl) rfl rfl ?_
      refine SL.x (op_buildSlice Tryz.underlying38 bs40 (qs := [(0, _)]) rfl rfl rfl rfl rfl) rfl rfl ?_
      rintro _ _ _ ⟨B18, rfl, rfl, rfl⟩
      refine SL.y (op_build st40 (qs := [(0, _), (3, _)]) rfl rfl) rfl rfl ?_
      refine SL.x (op_store ty40 rfl rfl (by repeat constructor) rfl rfl rfl) rfl rfl ?_
      rintro _ _ _ ⟨rfl, rfl⟩
      refine SL.nil ?_
      refine T.blk ?_
      refine T.region ?_
      first | refine SL.y (op_addN (q := 1) rfl rfl (by omega)) rfl rfl ?_ | refine SL.y (op_add rfl rfl (by omega) (by omega)) rfl rfl ?_ | refine SL.y (op_addW rfl rfl) rfl rfl ?_
      refine SL.y (op_move rfl) rfl rfl ?_
      refine SL.nil ?_
      refine T.pub B18 (by repeat constructor) ?_
      intro X5 hX5 hB18 _
      exact T.backW (n - (j + 1)) (by omega) ⟨j + 1, (.int .u8 7, .int .i64 0, .slice none 0 0, .slice (some ⟨B18, 0, none⟩) 1 1), rfl, by omega, hX4.trans' hX5, by rw [← wrapN_out]; exact notR (hr.mono hX5) hB18, rfl, rfl⟩ (by repeat (first | exact Sub.nil | refine Sub.cons rfl ?_))
    · obtain rfl : j = n := by omega
      refine T.seq ?_
      refine T.region ?_
      first | refine SL.y (op_lssT rfl rfl (by omega)) rfl rfl ?_ | refine SL.y (op_lssF rfl rfl (by omega)) rfl rfl ?_ | refine SL.y (op_lss rfl rfl) rfl rfl ?_
      refine SL.nil ?_
      refine T.seq ?_
      refine T.condF rfl ?_
      refine T.exit (T.exitCode (T.exitCut (T.exitBlk ?_)))
      refine T.seq ?_
      refine T.region ?_
      first | refine SL.y (op_load ty40 rfl (by repeat constructor) rfl) rfl rfl ?_ | refine SL.y (op_loadX ty40 rfl (by assumption) rfl) rfl rfl ?_
      refine SL.x (op_store ty40 rfl rfl (by repeat constructor) rfl rfl rfl) rfl rfl ?_
      rintro _ _ _ ⟨rfl, rfl⟩
      refine SL.nil ?_
      refine T.drop B4 (by repeat constructor) ?_
      refine T.retM1S [_] _ rfl (ResIs.cell rfl ty40 (by repeat constructor) rfl) (List.sublist_cons_self _ _) (List.Perm.refl _) ?_
      exact ⟨((hX1.trans' hX2).trans' hX3).trans' hX4, _, rfl, i3, off3, e3, sb, rfl, hS3, wrapN j x, (_, _, _, _), rfl, hr, by rw [heq]; exact outW_out hO, hsh1.trans hsh3⟩
theorem conj_spec {f : Nat} {p : ParP} (hp : SpecP Tryz.prog 192 p f) : SpecP Tryz.prog 139 (conjP p) f := by
  intro X v ts rb pb i off e st hT hP hS hf
  refine SpecM.enter Tryz.func139 rfl Tryz.ntmps139 rfl ?_
  intro w0 X0 own0
  refine T.seq ?_
  refine T.region ?_
  refine SL.x (op_alloc z40) rfl rfl ?_
  rintro _ _ _ ⟨B2, rfl, rfl, rfl⟩
  refine SL.nil ?_
  refine T.seq ?_
  refine T.region ?_
  refine SL.y (op_move rfl) rfl rfl ?_
  refine SL.y (op_move rfl) rfl rfl ?_
  refine SL.y (op_makeFunc (vs := [_]) (us := []) rfl rfl) rfl rfl ?_
  refine SL.x (op_callJ en138 rfl (vs := [_, _, _, _]) rfl (left_spec en154 (negation_spec hp) hT hP hS hf) (by repeat constructor)) rfl rfl ?_
  rintro _ _ X1 ⟨_, rfl, hX1, i1, off1, e1, sa, rfl, hS1, x, q, rfl, hx, hO, hsh⟩
  obtain ⟨o9, n9, a9, b9, l9, c9, m9, d9, rfl⟩ := hx.form
  refine SL.x (op_store ty40 rfl rfl (by repeat constructor) rfl rfl rfl) rfl rfl ?_
  rintro _ _ _ ⟨rfl, rfl⟩
  refine SL.nil ?_
  refine T.retM1S [_] _ rfl (ResIs.cell rfl ty40 (by repeat constructor) rfl) (List.sublist_cons_self _ _) (List.Perm.refl _) ?_
  exact ⟨hX1, _, rfl, i1, off1, e1, sa, rfl, hS1, x, (_, _, _, _), rfl, hx, hO, hsh⟩
theorem disj_spec {f : Nat} {p : ParP} (hp : SpecP Tryz.prog 192 p f) : SpecP Tryz.prog 93 (disjP p) f := by
  intro X v ts rb pb i off e st hT hP hS hf
  refine SpecM.enter Tryz.func93 rfl Tryz.ntmps93 rfl ?_
  intro w0 X0 own0
  refine T.seq ?_
  refine T.region ?_
  refine SL.x (op_alloc z40) rfl rfl ?_
  rintro _ _ _ ⟨B2, rfl, rfl, rfl⟩
  refine SL.nil ?_
  refine T.seq ?_
  refine T.region ?_
  refine SL.y (op_move rfl) rfl rfl ?_
  refine SL.y (op_move rfl) rfl rfl ?_
  refine SL.y (op_makeFunc (vs := [_]) (us := []) rfl rfl) rfl rfl ?_
  refine SL.x (op_callJ en138 rfl (vs := [_, _, _, _]) rfl (left_spec en139 (conj_spec hp) hT hP hS hf) (by repeat constructor)) rfl rfl ?_
  rintro _ _ X1 ⟨_, rfl, hX1, i1, off1, e1, sa, rfl, hS1, x, q, rfl, hx, hO, hsh⟩
  obtain ⟨o9, n9, a9, b9, l9, c9, m9, d9, rfl⟩ := hx.form
  refine SL.x (op_store ty40 rfl rfl (by repeat constructor) rfl rfl rfl) rfl rfl ?_
  rintro _ _ _ ⟨rfl, rfl⟩
  refine SL.nil ?_
  refine T.retM1S [_] _ rfl (ResIs.cell rfl ty40 (by repeat constructor) rfl) (List.sublist_cons_self _ _) (List.Perm.refl _) ?_
  exact ⟨hX1, _, rfl, i1, off1, e1, sa, rfl, hS1, x, (_, _, _, _), rfl, hx, hO, hsh⟩
end Go.Proofs.YtnabbnhefjfegaaGreatDoor
namespace Go.Proofs.YtnabbnhefjfegaaGreatDoor
section
set_option maxRecDepth 100000
theorem en93 : Enters Tryz.prog 93 := enters_mk Tryz.func93 (by kernel_rfl) rfl
theorem z1 : Zero Tryz.prog 1 [.nilFunc] := ⟨zero_of (by kernel_rfl)⟩
theorem z2 : Zero Tryz.prog 2 [.int .i64 0] := ⟨zero_of (by kernel_rfl)⟩
end
open Go.RowKit
noncomputable def implA (pr : ParP) : ParP := fun l => implP pr (l.length + 1) l
noncomputable def tailI (pr : ParP) (k : Nat) (x : Ex) : ParP := fun l => if isT wArrow l then bindR (implP pr k l.tail) fun y l' => .ok (two 10 x y, l') else .ok (x, l)
def wrapI (ps : List Ex) (R : Res Ex) : Res Ex := bindR R fun y l => .ok (ps.foldr (two 10) y, l)
section
variable {pr : ParP} {st sa : RSt} {x y : Ex} {k : Nat} {ps : List Ex}
theorem implP_eq {l : List Tk} : implP pr (k + 1) l = bindR (disjP pr l) fun x l' => tailI pr k x l' := rfl
theorem implA_start (h : Out (runM (disjP pr) st) sa x) : runM (implA pr) st = wrapI [] (runM (tailI pr (lenS st) x) sa) := by
  have e : wrapI [] (runM (tailI pr (lenS st) x) sa) = runM (tailI pr (lenS st) x) sa := by
    unfold wrapI
    cases runM (tailI pr (lenS st) x) sa with
    | error z => rfl
    | ok z => rfl
  rw [e, ← runM_par (q := fun x l' => tailI pr (lenS st) x l') h]
  cases st with
  | error z => rfl
  | ok l => rfl
theorem impl_more (h : (accM wArrow st).1 = true) (ho : Out (runM (disjP pr) (accM wArrow st).2) sa y) : wrapI ps (runM (tailI pr (k + 1) x) st) = wrapI (ps ++ [x]) (runM (tailI pr k y) sa) := by
  obtain ⟨l, rfl, h2, h3⟩ := accM_lt h
  have hk : isT wArrow l = true := by
    cases hk : isT wArrow l with
    | true => rfl
    | false => rw [accM_f hk] at h; cases h
  rw [h2] at ho
  rw [← runM_par (q := fun y l' => tailI pr k y l') ho]
  show wrapI ps (tailI pr (k + 1) x l) = wrapI (ps ++ [x]) (bindR (disjP pr l.tail) fun y l' => tailI pr k y l')
  rw [tailI, if_pos hk, implP_eq]
  unfold wrapI
  cases disjP pr l.tail with
  | error z => rfl
  | ok z =>
    obtain ⟨z1, z2⟩ := z
    show bindR (bindR (tailI pr k z1 z2) _) _ = bindR (tailI pr k z1 z2) _
    cases tailI pr k z1 z2 with
    | error u => rfl
    | ok u =>
      obtain ⟨u1, u2⟩ := u
      simp only [bindR, List.foldr_append]
      rfl
theorem impl_halt (h : (accM wArrow st).1 = false) : Out (wrapI ps (runM (tailI pr k x) st)) st (ps.foldr (two 10) x) := by
  cases st with
  | error z => rfl
  | ok l =>
    have hk : isT wArrow l = false := by
      cases hk : isT wArrow l with
      | false => rfl
      | true => rw [accM_t hk] at h; cases h
    show Out (wrapI ps (tailI pr k x l)) _ _
    rw [tailI, hk]
    exact ⟨rfl, rfl⟩
end
/-- Rows of these trees. -/
def PartsR (X : PMap) (xs : List Ex) (qs : List Row4) : Prop := qs.length = xs.length ∧ ∀ (i : Nat) (x : Ex) (q : Row4), xs[i]? = some x → qs[i]? = some q → ExR .u8 X x q
theorem PartsR.mono {X X' : PMap} {xs : List Ex} {qs : List Row4} (h : PartsR X xs qs) (hX : X.le X') : PartsR X' xs qs := ⟨h.1, fun i x q a b => (h.2 i x q a b).mono hX⟩
theorem PartsR.snoc {X : PMap} {xs : List Ex} {qs : List Row4} {x : Ex} {q : Row4} (h : PartsR X xs qs) (hx : ExR .u8 X x q) : PartsR X (xs ++ [x]) (qs ++ [q]) :=
  ⟨by rw [List.length_append, List.length_append, h.1]; rfl, rows_snoc (R := fun X x q => ExR .u8 X x q) h.1 h.2 hx⟩
theorem expression_spec {f : Nat} {p : ParP} (hp : SpecP Tryz.prog 192 p f) : SpecP Tryz.prog 46 (implA p) f := by
  intro X v ts rb pb i off e st hT hP hS hf
  have hmx : maxLen = 9223372036854775807 := rfl
  have hlen := hT.len
  refine SpecM.enter Tryz.func46 rfl Tryz.ntmps46 rfl ?_
  intro w0 X0 own0
  refine T.seq ?_
  refine T.region ?_
  refine SL.x (op_alloc z40) rfl rfl ?_
  rintro _ _ _ ⟨B2, rfl, rfl, rfl⟩
  refine SL.nil ?_
  refine T.seq ?_
  refine T.region ?_
  refine SL.y (op_move rfl) rfl rfl ?_
  refine SL.x (op_callJ en93 rfl (vs := [_]) rfl (disj_spec hp hT hP hS hf) (by repeat constructor)) rfl rfl ?_
  rintro _ _ X1 ⟨_, rfl, hX1, i1, off1, e1, sa, rfl, hS1, x0, q0, rfl, hx0, hO0, hsh0⟩
  obtain ⟨o9, n9, a9, b9, l9, c9, m9, d9, rfl⟩ := hx0.form
  have hl1 := hS1.lenS
  have hsl := hsh0.len
  refine SL.x (op_buildSlice Tryz.underlying38 bs40 (qs := [(0, _)]) rfl rfl rfl rfl rfl) rfl rfl ?_
  rintro _ _ _ ⟨B8, rfl, rfl, rfl⟩
  refine SL.y (op_assign rfl) rfl rfl ?_
  refine SL.nil ?_
  refine T.seq ?_
  refine T.block ?_
  refine T.perm (own' := E0 B2 :: RdO rb v i1 off1 e1 :: (own0 ++ [EO B8 (.int .u8 (o9 : Int), .int .i64 n9, .slice a9 l9 c9, .slice b9 m9 d9)])) (show (EO B8 (.int .u8 (o9 : Int), .int .i64 n9, .slice a9 l9 c9, .slice b9 m9 d9) :: E0 B2 :: RdO rb v i1 off1 e1 :: own0).Perm _ from (List.perm_append_singleton (EO B8 _) (E0 B2 :: RdO rb v i1 off1 e1 :: own0)).symm) ?_
  refine T.loopW (fun m env own X' => ∃ (ps : List Ex) (x : Ex) (qs : List Row4) (vs : Value) (G : Own) (i off : Nat) (e : Int) (sa : RSt) (k : Nat), m = lenS sa ∧ X1.le X' ∧ RdS ts sa i off e ∧ Sh st sa ∧ ps.length + lenS sa ≤ 1000000 ∧ lenS sa ≤ k ∧ PartsR X' (ps ++ [x]) qs ∧ runM (implA p) st = wrapI ps (runM (tailI p k x) sa) ∧ GrowS 40 4 vs qs.length (qs.map rc4).flatten G ∧ env = [(0, .pointer (some ⟨pb, 0, none⟩)), (2, .pointer (some ⟨B2, 0, none⟩)), (3, vs)] ∧ own = E0 B2 :: RdO rb v i off e :: (own0 ++ G)) (lenS sa) ⟨[], x0, [_], _, _, i1, off1, e1, sa, lenS st, rfl, PMap.le_refl _, hS1, hsh0, by simp; omega, hsl, (PartsR.snoc (xs := []) (qs := []) ⟨rfl, fun i x q h => by cases h⟩ hx0), implA_start hO0, grow1 rfl (by omega), rfl, rfl⟩ (by repeat (first | exact Sub.nil | refine Sub.cons rfl ?_)) ?_
  rintro m _ _ X2 ⟨ps, x, qs, vs, G, i2, off2, e2, sb, k, rfl, hX2, hS2, hsh2, hn, hk, hPR, heq, hG, rfl, rfl⟩
  have hP := (hP.mono hX1).mono hX2
  have hT := (hT.mono hX1).mono hX2
  have hql := hPR.1
  rw [List.length_append, List.length_singleton] at hql
  obtain ⟨Av, cv, rfl⟩ := hG.form
  refine T.seq ?_
  refine T.seq ?_
  refine T.region ?_
  refine SL.y (op_move rfl) rfl rfl ?_
  first | refine SL.y (op_nil rfl) rfl rfl ?_ | refine SL.y (op_nilFn rfl) rfl rfl ?_
  refine SL.y (op_fieldAddr fa98_0 rfl) rfl rfl ?_
  first | refine SL.y (op_load ty96 rfl (by repeat constructor) rfl) rfl rfl ?_ | refine SL.y (op_loadX ty96 rfl (by assumption) rfl) rfl rfl ?_
  refine SL.x (op_callJ en90 rfl (vs := [_, _]) rfl (acc_spec hT hS2) (by repeat constructor)) rfl rfl ?_
  rintro _ _ X3 ⟨_, rfl, hX3, i3, off3, e3, _, rfl, hS3, rfl, rfl⟩
  have hP := hP.mono hX3
  have hT := hT.mono hX3
  cases ha : (accM wArrow sb).1 with
  | true =>
    have hdec := accM_dec ha
    obtain ⟨k, rfl⟩ : ∃ q, k = q + 1 := ⟨k - 1, by omega⟩
    have hsh3 := hsh2.trans (accM_sh (w := wArrow))
    refine SL.nil ?_
    refine T.condT rfl ?_
    refine T.skip ?_
    refine T.block ?_
    refine T.region ?_
    refine SL.y (op_move rfl) rfl rfl ?_
    refine SL.y (op_move rfl) rfl rfl ?_
    refine SL.x (op_callJ en93 rfl (vs := [_]) rfl (disj_spec hp hT hP hS3 (hsh3.lt hf)) (by repeat constructor)) rfl rfl ?_
    rintro _ _ X4 ⟨_, rfl, hX4, i4, off4, e4, sc, rfl, hS4, y, q4, rfl, hy, hO4, hsh4⟩
    obtain ⟨o4, n4, a4, b4, l4, c4, m4, d4, rfl⟩ := hy.form
    have hd4 : lenS sc ≤ lenS (accM wArrow sb).2 := hsh4.len
    rw [impl_more ha hO4] at heq
    refine SL.x (op_buildSlice Tryz.underlying38 bs40 (qs := [(0, _)]) rfl rfl rfl rfl rfl) rfl rfl ?_
    rintro _ _ _ ⟨B17, rfl, rfl, rfl⟩
    refine SL.x (op_appendG (own0 := _ :: _ :: own0) sl38 rfl hG rfl rfl rfl (by omega) (by omega)) rfl rfl ?_
    rintro vn _ _ ⟨G2, rfl, rfl, hG2⟩
    have hG2 : GrowS 40 4 vn (qs ++ [(Value.int .u8 (o4 : Int), Value.int .i64 n4, Value.slice a4 l4 c4, Value.slice b4 m4 d4)]).length ((qs ++ [(Value.int .u8 (o4 : Int), Value.int .i64 n4, Value.slice a4 l4 c4, Value.slice b4 m4 d4)]).map rc4).flatten G2 := by rw [List.length_append, List.map_append, List.flatten_append]; exact hG2
    refine SL.y (op_assign rfl) rfl rfl ?_
    refine SL.nil ?_
    refine T.blk ?_
    exact T.backW (lenS sc) (by omega) ⟨ps ++ [x], y, _, vn, G2, i4, off4, e4, sc, k, rfl, (hX2.trans' hX3).trans' hX4, hS4, hsh3.trans hsh4, by rw [List.length_append]; simp; omega, by omega, ((hPR.mono hX3).mono hX4).snoc hy, heq, hG2, rfl, rfl⟩ (by repeat (first | exact Sub.nil | refine Sub.cons rfl ?_))
  | false =>
    rw [accM_same ha] at hS3
    refine SL.nil ?_
    refine T.condF rfl ?_
    refine T.exit (T.exitCode (T.exitCut (T.exitBlk ?_)))
    refine T.pubG (own0 := _ :: _ :: own0) hG ?_
    intro X9 hX9 hS9
    have hRow : RowR rc4 X9 (.slice Av qs.length cv) qs := RowR.ofG hG hS9
    have hPR := (hPR.mono hX3).mono hX9
    obtain ⟨q0, hq0⟩ : ∃ q, qs[ps.length]? = some q := ⟨_, List.getElem?_eq_getElem (by omega)⟩
    have hx9 := hPR.2 ps.length x q0 (by rw [List.getElem?_append_right (Nat.le_refl _), Nat.sub_self]; rfl) hq0
    obtain ⟨bA, pre, rfl, hbA⟩ := hRow.blk (by omega)
    obtain ⟨o8, n8, a8, b8, l8, c8, m8, d8, rfl⟩ := hx9.form
    refine T.seq ?_
    refine T.region ?_
    refine SL.y (op_move rfl) rfl rfl ?_
    refine SL.y (op_move rfl) rfl rfl ?_
    refine SL.y (op_lenS Tryz.underlying38 rfl) rfl rfl ?_
    refine SL.y (op_subN (p := qs.length) (q := 1) rfl rfl (by omega) (by omega)) rfl rfl ?_
    first | refine SL.y (op_indexN Tryz.underlying38 ty40 rfl rfl (by omega)) rfl rfl ?_ | refine SL.y (op_index Tryz.underlying38 ty40 rfl rfl (by omega) (by omega)) rfl rfl ?_
    refine SL.y (op_loadX ty40 rfl hbA (row_read rc4_len hq0 (by omega))) rfl rfl ?_
    refine SL.x (op_alloc z40) rfl rfl ?_
    rintro _ _ _ ⟨B4, rfl, rfl, rfl⟩
    refine SL.x (op_store ty40 rfl rfl (by repeat constructor) rfl rfl rfl) rfl rfl ?_
    rintro _ _ _ ⟨rfl, rfl⟩
    refine SL.nil ?_
    refine T.seq ?_
    refine T.seq ?_
    refine T.region ?_
    refine SL.y (op_move rfl) rfl rfl ?_
    refine SL.y (op_lenS Tryz.underlying38 rfl) rfl rfl ?_
    refine SL.y (op_sub (p := (qs.length : Int)) (q := 2) rfl rfl (by omega) (by omega)) rfl rfl ?_
    rw [show (qs.length : Int) - 2 = (ps.length : Int) - 1 by omega]
    refine SL.y (op_assign rfl) rfl rfl ?_
    refine SL.nil ?_
    refine T.block ?_
    refine T.loopW (fun m env own X' => ∃ (j : Nat) (r : Row4), j = m ∧ j ≤ ps.length ∧ X9.le X' ∧ ExR .u8 X' ((ps.drop j).foldr (two 10) x) r ∧ env = [(2, .pointer (some ⟨B2, 0, none⟩)), (3, .slice (some ⟨bA, pre.length, none⟩) qs.length cv), (4, .pointer (some ⟨B4, 0, none⟩)), (5, .int .i64 ((j : Int) - 1))] ∧ own = EO B4 r :: E0 B2 :: RdO rb v i3 off3 e3 :: own0) ps.length ⟨ps.length, (_, _, _, _), rfl, Nat.le_refl _, PMap.le_refl _, by rw [List.drop_length]; exact hx9, rfl, rfl⟩ (by repeat (first | exact Sub.nil | refine Sub.cons rfl ?_)) ?_
    rintro m _ _ X5 ⟨j, r, rfl, hj, hX5, hr, rfl, rfl⟩
    obtain ⟨o7, n7, a7, b7, l7, c7, m7, d7, rfl⟩ := hr.form
    cases j with
    | succ j =>
      rw [show ((j + 1 : Nat) : Int) - 1 = (j : Int) by omega]
      obtain ⟨y, hy⟩ : ∃ y, ps[j]? = some y := ⟨_, List.getElem?_eq_getElem (by omega)⟩
      obtain ⟨qj, hqj⟩ : ∃ q, qs[j]? = some q := ⟨_, List.getElem?_eq_getElem (by omega)⟩
      have hyq := (hPR.2 j y qj (by rw [List.getElem?_append_left (by omega)]; exact hy) hqj).mono hX5
      obtain ⟨o6, n6, a6, b6, l6, c6, m6, d6, rfl⟩ := hyq.form
      have hdr : (ps.drop j).foldr (two 10) x = two 10 y ((ps.drop (j + 1)).foldr (two 10) x) := by
        obtain ⟨h1, h2⟩ := List.getElem?_eq_some_iff.1 hy
        rw [List.drop_eq_getElem_cons h1, h2]; rfl
      have hc := two_spec (op := 10) hyq hr
      try simp only at hc
      refine T.seq ?_
      refine T.seq ?_
      refine T.region ?_
      refine SL.y (op_move rfl) rfl rfl ?_
      first | refine SL.y (op_geqT rfl rfl (by omega)) rfl rfl ?_ | refine SL.y (op_geqF rfl rfl (by omega)) rfl rfl ?_ | refine SL.y (op_geq rfl rfl) rfl rfl ?_
      refine SL.nil ?_
      refine T.condT rfl ?_
      refine T.skip ?_
      refine T.seq ?_
      refine T.block ?_
      refine T.draw (by kernel_rfl) 6 [.t 0, .t 1, .t 2, .t 3, .t 4, .r 5] (by kernel_rfl) ?_
      refine SD.take rfl panicBody (op_move rfl) rfl rfl ?_
      refine SD.take rfl panicBody (op_move rfl) rfl rfl ?_
      first | refine SD.take rfl panicBody (op_indexN Tryz.underlying38 ty40 rfl rfl (by omega)) rfl rfl ?_ | refine SD.take rfl panicBody (op_index Tryz.underlying38 ty40 rfl rfl (by omega) (by omega)) rfl rfl ?_
      refine SD.take rfl panicBody (op_loadX ty40 rfl (hbA.mono hX5) (row_read rc4_len hqj (by omega))) rfl rfl ?_
      first | refine SD.take rfl panicBody (op_load ty40 rfl (by repeat constructor) rfl) rfl rfl ?_ | refine SD.take rfl panicBody (op_loadX ty40 rfl (by assumption) rfl) rfl rfl ?_
      refine SD.run rfl (op_callF en94 (vs := [_, _, _]) rfl (hc)) rfl rfl ?_
      rintro _ _ X6 ⟨rfl, hX6, q6, rfl, hq6⟩
      refine SD.nil ?_
      show SL _ _ _ _ _ _ _ [_] _ _ _
      obtain ⟨o5, n5, a5, b5, l5, c5, m5, d5, rfl⟩ := hq6.form
      refine SL.x (op_store ty40 rfl rfl (by repeat constructor) rfl rfl rfl) rfl rfl ?_
      rintro _ _ _ ⟨rfl, rfl⟩
      refine SL.nil ?_
      refine T.blk ?_
      refine T.region ?_
      refine SL.y (op_move rfl) rfl rfl ?_
      first | refine SL.y (op_subN (q := 1) rfl rfl (by omega) (by omega)) rfl rfl ?_ | refine SL.y (op_sub rfl rfl (by omega) (by omega)) rfl rfl ?_ | refine SL.y (op_subW rfl rfl) rfl rfl ?_
      refine SL.y (op_assign rfl) rfl rfl ?_
      refine SL.nil ?_
      exact T.backW j (by omega) ⟨j, (_, _, _, _), rfl, by omega, hX5.trans' hX6, by rw [hdr]; exact hq6, rfl, rfl⟩ (by repeat (first | exact Sub.nil | refine Sub.cons rfl ?_))
    | zero =>
      refine T.seq ?_
      refine T.seq ?_
      refine T.region ?_
      refine SL.y (op_move rfl) rfl rfl ?_
      first | refine SL.y (op_geqT rfl rfl (by omega)) rfl rfl ?_ | refine SL.y (op_geqF rfl rfl (by omega)) rfl rfl ?_ | refine SL.y (op_geq rfl rfl) rfl rfl ?_
      refine SL.nil ?_
      refine T.condF rfl ?_
      refine T.exit (T.exitCode (T.exitCut (T.exitBlk ?_)))
      refine T.seq ?_
      refine T.region ?_
      first | refine SL.y (op_load ty40 rfl (by repeat constructor) rfl) rfl rfl ?_ | refine SL.y (op_loadX ty40 rfl (by assumption) rfl) rfl rfl ?_
      refine SL.x (op_store ty40 rfl rfl (by repeat constructor) rfl rfl rfl) rfl rfl ?_
      rintro _ _ _ ⟨rfl, rfl⟩
      refine SL.nil ?_
      refine T.drop B4 (by repeat constructor) ?_
      refine T.retM1S [_] _ rfl (ResIs.cell rfl ty40 (by repeat constructor) rfl) (List.sublist_cons_self _ _) (List.Perm.refl _) ?_
      exact ⟨(((hX1.trans' hX2).trans' hX3).trans' hX9).trans' hX5, _, rfl, i3, off3, e3, sb, rfl, hS3, ps.foldr (two 10) x, (_, _, _, _), rfl, hr, by rw [heq]; exact impl_halt ha, hsh2⟩
theorem expr_all : ∀ f : Nat, SpecP Tryz.prog 46 (exprP (f + 1)) (f + 1)
  | 0 => expression_spec (primary_spec (f := 0) fun {_ _ _ _ _ _ _ _ _} _ _ _ h => absurd h (Nat.not_lt_zero _))
  | f + 1 => expression_spec (primary_spec fun {_ _ _ _ _ _ _ _ _} hT hP hS hf => expr_all f hT hP hS fun l hl => by cases hl; exact hf)
end Go.Proofs.YtnabbnhefjfegaaGreatDoor
namespace Go.Proofs.YtnabbnhefjfegaaGreatDoor
open Go.RowKit
abbrev wEnforce : ByteArray := ⟨#[101, 110, 102, 111, 114, 99, 101]⟩
abbrev wDeclare : ByteArray := ⟨#[100, 101, 99, 108, 97, 114, 101]⟩
abbrev wStatic : ByteArray := ⟨#[115, 116, 97, 116, 105, 99]⟩
abbrev wDynamic : ByteArray := ⟨#[100, 121, 110, 97, 109, 105, 99]⟩
abbrev wUsers : ByteArray := ⟨#[117, 115, 101, 114, 115]⟩
abbrev wColon : ByteArray := ⟨#[58]⟩
abbrev wSemi : ByteArray := ⟨#[59]⟩
noncomputable def conK2 (ex : ParP) (en : Bool) (k : Nat) : List Tk → Res Con := fun l2 => bindR (nameT l2) fun s l3 => bindR (expT wColon l3) fun _ l4 => bindR (ex l4) fun x l5 => bindR (expT wSemi l5) fun _ l6 => .ok (⟨en, k, s, x⟩, l6)
noncomputable def conK1 (ex : ParP) (en : Bool) : List Tk → Res Con := fun l => if isT wStatic l then conK2 ex en 1 l.tail else if isT wDynamic l then conK2 ex en 2 l.tail else bindR (expT wUsers l) fun _ l' => conK2 ex en 3 l'
/-- A constraint of tokens. -/
noncomputable def conP (ex : ParP) : List Tk → Res Con := fun l => if isT wEnforce l then conK1 ex true l.tail else bindR (expT wDeclare l) fun _ l' => conK1 ex false l'
section
variable {ex : ParP} {st : RSt} {en : Bool}
theorem enf_run : runM (conP ex) st = if (accM wEnforce st).1 then runM (conK1 ex true) (accM wEnforce st).2 else runM (conK1 ex false) (expM wDeclare st) := by
  have h := runM_acc (st := st) (w := wEnforce) (q1 := conK1 ex true) (q2 := fun l => bindR (expT wDeclare l) fun _ l' => conK1 ex false l')
  rw [show runM (conP ex) st = _ from h]
  cases ha : (accM wEnforce st).1 with
  | true => rfl
  | false => rw [accM_same ha, runM_exp]
theorem kind_run : runM (conK1 ex en) st = if (accM wStatic st).1 then runM (conK2 ex en 1) (accM wStatic st).2 else if (accM wDynamic st).1 then runM (conK2 ex en 2) (accM wDynamic st).2 else runM (conK2 ex en 3) (expM wUsers st) := by
  have h := runM_acc (st := st) (w := wStatic) (q1 := conK2 ex en 1) (q2 := fun l => if isT wDynamic l then conK2 ex en 2 l.tail else bindR (expT wUsers l) fun _ l' => conK2 ex en 3 l')
  rw [show runM (conK1 ex en) st = _ from h]
  cases ha : (accM wStatic st).1 with
  | true => rfl
  | false =>
    rw [accM_same ha]
    have h := runM_acc (st := st) (w := wDynamic) (q1 := conK2 ex en 2) (q2 := fun l => bindR (expT wUsers l) fun _ l' => conK2 ex en 3 l')
    rw [h]
    cases hb : (accM wDynamic st).1 with
    | true => rfl
    | false => rw [accM_same hb, runM_exp]
theorem expM_dec {w : ByteArray} (h : 0 < lenS st) : lenS (expM w st) < lenS st := by
  cases st with
  | error x => exact absurd h (Nat.lt_irrefl 0)
  | ok l =>
    rw [expM]
    split
    · show l.tail.length < l.length
      have : 0 < l.length := h
      rw [List.length_tail]; omega
    · exact h
end
abbrev CO (b : Nat) (en : Bool) (k : Nat) (s : ByteArray) (r : Row4) : Ow := ⟨b, rc7 (en, k, s, r), 82, 7⟩
abbrev r0 : Row4 := (.int .u8 0, .int .i64 0, .slice none 0 0, .slice none 0 0)
theorem con_spec {f : Nat} {X : PMap} {v : Value} {ts : List Tk} {rb pb i off : Nat} {e : Int} {st : RSt} (hT : Tks X v ts) (hP : Blk X pb [.pointer (some ⟨rb, 0, none⟩)]) (hS : RdS ts st i off e) (hf : ∀ l, st = .ok l → l.length < f + 1) :
    SpecR Tryz.prog 44 [.pointer (some ⟨pb, 0, none⟩)] X ts rb v i off e fun u st' X' => ∃ (c : Con) (r : Row7), u = .agg (rc7 r).toArray ∧ ConR X' c r ∧ Out (runM (conP (exprP (f + 1))) st) st' c ∧ (0 < lenS st → lenS st' < lenS st) := by
  have h0 := enf_run (ex := exprP (f + 1)) (st := st)
  refine SpecM.enter Tryz.func44 rfl Tryz.ntmps44 rfl ?_
  intro w0 X0 own0
  refine T.seq ?_
  refine T.region ?_
  refine SL.x (op_alloc z82) rfl rfl ?_
  rintro _ _ _ ⟨B2, rfl, rfl, rfl⟩
  refine SL.nil ?_
  refine T.seq ?_
  refine T.region ?_
  refine SL.x (op_alloc z82) rfl rfl ?_
  rintro _ _ _ ⟨B3, rfl, rfl, rfl⟩
  refine SL.nil ?_
  refine T.seq ?_
  refine T.meet (fun _ env own X' => ∃ (en : Bool) (i off : Nat) (e : Int) (sa : RSt), X.le X' ∧ RdS ts sa i off e ∧ Sh st sa ∧ (0 < lenS st → lenS sa < lenS st) ∧ runM (conP (exprP (f + 1))) st = runM (conK1 (exprP (f + 1)) en) sa ∧ env = [(0, .pointer (some ⟨pb, 0, none⟩)), (2, .pointer (some ⟨B2, 0, none⟩)), (3, .pointer (some ⟨B3, 0, none⟩))] ∧ own = CO B3 en 0 ⟨#[]⟩ r0 :: CO B2 false 0 ⟨#[]⟩ r0 :: RdO rb v i off e :: own0) ?_ ?_
  · skip
    refine T.seq ?_
    refine T.region ?_
    refine SL.y (op_move rfl) rfl rfl ?_
    first | refine SL.y (op_nil rfl) rfl rfl ?_ | refine SL.y (op_nilFn rfl) rfl rfl ?_
    refine SL.y (op_fieldAddr fa98_0 rfl) rfl rfl ?_
    first | refine SL.y (op_load ty96 rfl (by repeat constructor) rfl) rfl rfl ?_ | refine SL.y (op_loadX ty96 rfl (by assumption) rfl) rfl rfl ?_
    refine SL.x (op_callJ en90 rfl (vs := [_, _]) rfl (acc_spec hT hS) (by repeat constructor)) rfl rfl ?_
    rintro _ _ X1 ⟨_, rfl, hX1, i1, off1, e1, _, rfl, hS1, rfl, rfl⟩
    have hP := hP.mono hX1
    have hT := hT.mono hX1
    cases ha : (accM wEnforce st).1 with
    | true =>
      rw [ha, if_pos rfl] at h0
      have hdec := accM_dec ha
      refine SL.y (op_fieldAddr fa82_0 rfl) rfl rfl ?_
      refine SL.x (op_store ty4 rfl rfl (by repeat constructor) rfl rfl rfl) rfl rfl ?_
      rintro _ _ _ ⟨rfl, rfl⟩
      refine SL.nil ?_
      refine T.seq ?_
      refine T.region ?_
      refine SL.y (op_fieldAddr fa82_0 rfl) rfl rfl ?_
      first | refine SL.y (op_load ty4 rfl (by repeat constructor) rfl) rfl rfl ?_ | refine SL.y (op_loadX ty4 rfl (by assumption) rfl) rfl rfl ?_
      refine SL.y (op_not rfl) rfl rfl ?_
      refine SL.nil ?_
      refine T.condF rfl ?_
      refine T.skip ?_
      exact T.backW 0 (by omega) ⟨true, i1, off1, e1, _, hX1, hS1, accM_sh, fun _ => hdec, h0, rfl, rfl⟩ (by repeat (first | exact Sub.nil | refine Sub.cons rfl ?_))
    | false =>
      rw [ha, if_neg (by decide)] at h0
      rw [accM_same ha] at hS1
      refine SL.y (op_fieldAddr fa82_0 rfl) rfl rfl ?_
      refine SL.x (op_store ty4 rfl rfl (by repeat constructor) rfl rfl rfl) rfl rfl ?_
      rintro _ _ _ ⟨rfl, rfl⟩
      refine SL.nil ?_
      refine T.seq ?_
      refine T.region ?_
      refine SL.y (op_fieldAddr fa82_0 rfl) rfl rfl ?_
      first | refine SL.y (op_load ty4 rfl (by repeat constructor) rfl) rfl rfl ?_ | refine SL.y (op_loadX ty4 rfl (by assumption) rfl) rfl rfl ?_
      refine SL.y (op_not rfl) rfl rfl ?_
      refine SL.nil ?_
      refine T.condT rfl ?_
      refine T.region ?_
      refine SL.y (op_move rfl) rfl rfl ?_
      first | refine SL.y (op_nil rfl) rfl rfl ?_ | refine SL.y (op_nilFn rfl) rfl rfl ?_
      refine SL.y (op_fieldAddr fa98_0 rfl) rfl rfl ?_
      first | refine SL.y (op_load ty96 rfl (by repeat constructor) rfl) rfl rfl ?_ | refine SL.y (op_loadX ty96 rfl (by assumption) rfl) rfl rfl ?_
      refine SL.x (op_callJ en91 rfl (vs := [_, _]) rfl (exp_spec hT hS1) (by repeat constructor)) rfl rfl ?_
      rintro _ _ X2 ⟨_, rfl, hX2, i2, off2, e2, _, rfl, hS2, rfl⟩
      refine SL.nil ?_
      exact T.backW 0 (by omega) ⟨false, i2, off2, e2, _, hX1.trans' hX2, hS2, expM_sh, expM_dec, h0, rfl, rfl⟩ (by repeat (first | exact Sub.nil | refine Sub.cons rfl ?_))
  rintro _ _ _ X3 ⟨en, i3, off3, e3, sa, hX3, hS3, hsh3, hd3, heq3, rfl, rfl⟩
  have hP := hP.mono hX3
  have hT := hT.mono hX3
  have h1 := kind_run (ex := exprP (f + 1)) (st := sa) (en := en)
  refine T.seq ?_
  refine T.meet (fun _ env own X' => ∃ (k : Nat) (i off : Nat) (e : Int) (sb : RSt), X3.le X' ∧ RdS ts sb i off e ∧ Sh sa sb ∧ runM (conK1 (exprP (f + 1)) en) sa = runM (conK2 (exprP (f + 1)) en k) sb ∧ env = [(0, .pointer (some ⟨pb, 0, none⟩)), (2, .pointer (some ⟨B2, 0, none⟩)), (3, .pointer (some ⟨B3, 0, none⟩))] ∧ own = CO B3 en k ⟨#[]⟩ r0 :: CO B2 false 0 ⟨#[]⟩ r0 :: RdO rb v i off e :: own0) ?_ ?_
  · skip
    refine T.block ?_
    refine T.seq ?_
    refine T.region ?_
    refine SL.y (op_move rfl) rfl rfl ?_
    first | refine SL.y (op_nil rfl) rfl rfl ?_ | refine SL.y (op_nilFn rfl) rfl rfl ?_
    refine SL.y (op_fieldAddr fa98_0 rfl) rfl rfl ?_
    first | refine SL.y (op_load ty96 rfl (by repeat constructor) rfl) rfl rfl ?_ | refine SL.y (op_loadX ty96 rfl (by assumption) rfl) rfl rfl ?_
    refine SL.x (op_callJ en90 rfl (vs := [_, _]) rfl (acc_spec hT hS3) (by repeat constructor)) rfl rfl ?_
    rintro _ _ X4 ⟨_, rfl, hX4, i4, off4, e4, _, rfl, hS4, rfl, rfl⟩
    have hP := hP.mono hX4
    have hT := hT.mono hX4
    cases ha : (accM wStatic sa).1 with
    | true =>
      rw [ha, if_pos rfl] at h1
      refine SL.y (op_assign rfl) rfl rfl ?_
      refine SL.nil ?_
      refine T.condT rfl ?_
      refine T.region ?_
      refine SL.y (op_fieldAddr fa82_1 rfl) rfl rfl ?_
      refine SL.x (op_store ty80 rfl rfl (by repeat constructor) rfl rfl rfl) rfl rfl ?_
      rintro _ _ _ ⟨rfl, rfl⟩
      refine SL.nil ?_
      refine T.blk ?_
      exact T.backW 0 (by omega) ⟨1, i4, off4, e4, _, hX4, hS4, accM_sh, h1, rfl, rfl⟩ (by repeat (first | exact Sub.nil | refine Sub.cons rfl ?_))
    | false =>
      rw [ha, if_neg (by decide)] at h1
      rw [accM_same ha] at hS4
      refine SL.y (op_assign rfl) rfl rfl ?_
      refine SL.nil ?_
      refine T.condF rfl ?_
      refine T.seq ?_
      refine T.region ?_
      refine SL.y (op_move rfl) rfl rfl ?_
      first | refine SL.y (op_nil rfl) rfl rfl ?_ | refine SL.y (op_nilFn rfl) rfl rfl ?_
      refine SL.y (op_fieldAddr fa98_0 rfl) rfl rfl ?_
      first | refine SL.y (op_load ty96 rfl (by repeat constructor) rfl) rfl rfl ?_ | refine SL.y (op_loadX ty96 rfl (by assumption) rfl) rfl rfl ?_
      refine SL.x (op_callJ en90 rfl (vs := [_, _]) rfl (acc_spec hT hS4) (by repeat constructor)) rfl rfl ?_
      rintro _ _ X5 ⟨_, rfl, hX5, i5, off5, e5, _, rfl, hS5, rfl, rfl⟩
      have hP := hP.mono hX5
      have hT := hT.mono hX5
      cases hb : (accM wDynamic sa).1 with
      | true =>
        rw [hb, if_pos rfl] at h1
        refine SL.y (op_assign rfl) rfl rfl ?_
        refine SL.nil ?_
        refine T.condT rfl ?_
        refine T.region ?_
        refine SL.y (op_fieldAddr fa82_1 rfl) rfl rfl ?_
        refine SL.x (op_store ty80 rfl rfl (by repeat constructor) rfl rfl rfl) rfl rfl ?_
        rintro _ _ _ ⟨rfl, rfl⟩
        refine SL.nil ?_
        refine T.blk ?_
        exact T.backW 0 (by omega) ⟨2, i5, off5, e5, _, hX4.trans' hX5, hS5, accM_sh, h1, rfl, rfl⟩ (by repeat (first | exact Sub.nil | refine Sub.cons rfl ?_))
      | false =>
        rw [hb, if_neg (by decide)] at h1
        rw [accM_same hb] at hS5
        refine SL.y (op_assign rfl) rfl rfl ?_
        refine SL.nil ?_
        refine T.condF rfl ?_
        refine T.seq ?_
        refine T.region ?_
        refine SL.y (op_move rfl) rfl rfl ?_
        first | refine SL.y (op_nil rfl) rfl rfl ?_ | refine SL.y (op_nilFn rfl) rfl rfl ?_
        refine SL.y (op_fieldAddr fa98_0 rfl) rfl rfl ?_
        first | refine SL.y (op_load ty96 rfl (by repeat constructor) rfl) rfl rfl ?_ | refine SL.y (op_loadX ty96 rfl (by assumption) rfl) rfl rfl ?_
        refine SL.x (op_callJ en91 rfl (vs := [_, _]) rfl (exp_spec hT hS5) (by repeat constructor)) rfl rfl ?_
        rintro _ _ X6 ⟨_, rfl, hX6, i6, off6, e6, _, rfl, hS6, rfl⟩
        refine SL.nil ?_
        refine T.region ?_
        refine SL.y (op_fieldAddr fa82_1 rfl) rfl rfl ?_
        refine SL.x (op_store ty80 rfl rfl (by repeat constructor) rfl rfl rfl) rfl rfl ?_
        rintro _ _ _ ⟨rfl, rfl⟩
        refine SL.nil ?_
        refine T.blk ?_
        exact T.backW 0 (by omega) ⟨3, i6, off6, e6, _, (hX4.trans' hX5).trans' hX6, hS6, expM_sh, h1, rfl, rfl⟩ (by repeat (first | exact Sub.nil | refine Sub.cons rfl ?_))
  rintro _ _ _ X7 ⟨k, i7, off7, e7, sb, hX7, hS7, hsh7, heq7, rfl, rfl⟩
  have hP := hP.mono hX7
  have hT := hT.mono hX7
  rw [heq7] at heq3
  have h2 : runM (conK2 (exprP (f + 1)) en k) sb = runM (fun l4 => bindR (exprP (f + 1) l4) fun x l5 => bindR (expT wSemi l5) fun _ l6 => .ok ((⟨en, k, (namM sb).1, x⟩ : Con), l6)) (expM wColon (namM sb).2) := by
    rw [← runM_exp]
    exact runM_nam (st := sb) (q := fun s l3 => bindR (expT wColon l3) fun _ l4 => bindR (exprP (f + 1) l4) fun x l5 => bindR (expT wSemi l5) fun _ l6 => .ok ((⟨en, k, s, x⟩ : Con), l6))
  refine T.seq ?_
  refine T.region ?_
  refine SL.y (op_move rfl) rfl rfl ?_
  first | refine SL.y (op_nil rfl) rfl rfl ?_ | refine SL.y (op_nilFn rfl) rfl rfl ?_
  refine SL.y (op_fieldAddr fa98_0 rfl) rfl rfl ?_
  first | refine SL.y (op_load ty96 rfl (by repeat constructor) rfl) rfl rfl ?_ | refine SL.y (op_loadX ty96 rfl (by assumption) rfl) rfl rfl ?_
  refine SL.x (op_callJ en92 rfl (vs := [_]) rfl (nam_spec hT hS7) (by repeat constructor)) rfl rfl ?_
  rintro _ _ X8 ⟨_, rfl, hX8, i8, off8, e8, _, rfl, hS8, rfl, rfl⟩
  have hP := hP.mono hX8
  have hT := hT.mono hX8
  refine SL.y (op_fieldAddr fa82_2 rfl) rfl rfl ?_
  refine SL.x (op_store ty9 rfl rfl (by repeat constructor) rfl rfl rfl) rfl rfl ?_
  rintro _ _ _ ⟨rfl, rfl⟩
  refine SL.nil ?_
  refine T.seq ?_
  refine T.region ?_
  refine SL.y (op_move rfl) rfl rfl ?_
  first | refine SL.y (op_nil rfl) rfl rfl ?_ | refine SL.y (op_nilFn rfl) rfl rfl ?_
  refine SL.y (op_fieldAddr fa98_0 rfl) rfl rfl ?_
  first | refine SL.y (op_load ty96 rfl (by repeat constructor) rfl) rfl rfl ?_ | refine SL.y (op_loadX ty96 rfl (by assumption) rfl) rfl rfl ?_
  refine SL.x (op_callJ en91 rfl (vs := [_, _]) rfl (exp_spec hT hS8) (by repeat constructor)) rfl rfl ?_
  rintro _ _ X9 ⟨_, rfl, hX9, i9, off9, e9, _, rfl, hS9, rfl⟩
  have hP := hP.mono hX9
  have hT := hT.mono hX9
  have hsh9 := ((hsh3.trans hsh7).trans (namM_sh (st := sb))).trans (expM_sh (w := wColon))
  have hlt9 := ((hsh7.trans (namM_sh (st := sb))).trans (expM_sh (w := wColon))).len
  refine SL.nil ?_
  refine T.seq ?_
  refine T.region ?_
  refine SL.y (op_move rfl) rfl rfl ?_
  refine SL.x (op_callJ en46 rfl (vs := [_]) rfl (expr_all f hT hP hS9 (hsh9.lt hf)) (by repeat constructor)) rfl rfl ?_
  rintro _ _ Y1 ⟨_, rfl, hY1, j1, of1, er1, sc, rfl, hSc, x, q, rfl, hx, hO, hshc⟩
  obtain ⟨o8, n8, a8, b8, l8, c8, m8, d8, rfl⟩ := hx.form
  have hP := hP.mono hY1
  have hT := hT.mono hY1
  rw [runM_par hO, runM_exp] at h2
  have hlc := hshc.len
  refine SL.y (op_fieldAddr fa82_3 rfl) rfl rfl ?_
  refine SL.x (op_store ty40 rfl rfl (by repeat constructor) rfl rfl rfl) rfl rfl ?_
  rintro _ _ _ ⟨rfl, rfl⟩
  refine SL.nil ?_
  refine T.seq ?_
  refine T.region ?_
  refine SL.y (op_move rfl) rfl rfl ?_
  first | refine SL.y (op_nil rfl) rfl rfl ?_ | refine SL.y (op_nilFn rfl) rfl rfl ?_
  refine SL.y (op_fieldAddr fa98_0 rfl) rfl rfl ?_
  first | refine SL.y (op_load ty96 rfl (by repeat constructor) rfl) rfl rfl ?_ | refine SL.y (op_loadX ty96 rfl (by assumption) rfl) rfl rfl ?_
  refine SL.x (op_callJ en91 rfl (vs := [_, _]) rfl (exp_spec hT hSc) (by repeat constructor)) rfl rfl ?_
  rintro _ _ Y2 ⟨_, rfl, hY2, j2, of2, er2, _, rfl, hSd, rfl⟩
  have hld := (expM_sh (st := sc) (w := wSemi)).len
  refine SL.nil ?_
  refine T.seq ?_
  refine T.region ?_
  first | refine SL.y (op_load ty82 rfl (by repeat constructor) rfl) rfl rfl ?_ | refine SL.y (op_loadX ty82 rfl (by assumption) rfl) rfl rfl ?_
  refine SL.x (op_store ty82 rfl rfl (by repeat constructor) rfl rfl rfl) rfl rfl ?_
  rintro _ _ _ ⟨rfl, rfl⟩
  refine SL.nil ?_
  refine T.drop B3 (by repeat constructor) ?_
  refine T.retM1S [_] _ rfl (ResIs.cell rfl ty82 (by repeat constructor) rfl) (List.sublist_cons_self _ _) (List.Perm.refl _) ?_
  exact ⟨((((hX3.trans' hX7).trans' hX8).trans' hX9).trans' hY1).trans' hY2, _, rfl, j2, of2, er2, _, rfl, hSd, ⟨en, k, (namM sb).1, x⟩, (en, k, (namM sb).1, _, _, _, _), rfl, ⟨rfl, rfl, rfl, hx.mono hY2⟩, by rw [heq3, h2]; exact out_ok rfl, fun h => Nat.lt_of_le_of_lt (Nat.le_trans (Nat.le_trans hld hlc) hlt9) (hd3 h)⟩
end Go.Proofs.YtnabbnhefjfegaaGreatDoor
namespace Go.Proofs.YtnabbnhefjfegaaGreatDoor
open Go.RowKit
theorem scanG_fin (N : Nat) : ∀ (f : Nat) (l : List UInt8) (ts : List Tk), scanG N f l = .ok ts → ∃ ts0 : List Tk, ts = ts0 ++ [⟨0, ⟨#[]⟩, 0, N⟩] ∧ ts0.length ≤ l.length ∧ ∀ t ∈ ts0, 1 ≤ t.kind ∧ t.kind ≤ 3
  | 0, l, ts, h => by cases h
  | f + 1, l, ts, h => by
    rw [scanG] at h
    have hs := skip_len false l
    cases hk : skipL false l with
    | nil =>
      rw [hk] at h
      simp only [Except.ok.injEq] at h
      exact ⟨[], by rw [← h]; rfl, Nat.zero_le _, fun t ht => by cases ht⟩
    | cons b r =>
      rw [hk] at h hs
      simp only at h
      cases ht : tok1 (b :: r) with
      | none => rw [ht] at h; cases h
      | some x =>
        obtain ⟨k, t, n⟩ := x
        rw [ht] at h
        simp only at h
        have hp := tok1_pos ht
        have hkk : 1 ≤ k ∧ k ≤ 3 := by
          rw [tok1] at ht
          split at ht
          · simp only [Option.some.injEq, Prod.mk.injEq] at ht
            rw [← ht.1]; decide
          · split at ht
            · cases hn : numT (b :: r) with
              | none => rw [hn] at ht; cases ht
              | some d =>
                rw [hn] at ht
                simp only [Option.map_some, Option.some.injEq, Prod.mk.injEq] at ht
                rw [← ht.1]; decide
            · cases hf : symsL.find? fun s => s.isPrefixOf (b :: r) with
              | none => rw [hf] at ht; cases ht
              | some d =>
                rw [hf] at ht
                simp only [Option.map_some, Option.some.injEq, Prod.mk.injEq] at ht
                rw [← ht.1]; decide
        cases hr : scanG N f ((b :: r).drop t.length) with
        | error o => rw [hr] at h; cases h
        | ok us =>
          rw [hr] at h
          simp only [consR, Except.ok.injEq] at h
          obtain ⟨ts0, h1, h2, h3⟩ := scanG_fin N f _ us hr
          refine ⟨⟨k, ⟨t.toArray⟩, n, N - (b :: r).length⟩ :: ts0, by rw [← h, h1]; rfl, ?_, fun u hu => ?_⟩
          · rw [List.length_drop] at h2
            rw [List.length_cons]
            simp only [List.length_cons] at h2 hs ⊢
            omega
          · rcases List.mem_cons.1 hu with rfl | hu
            · exact hkk
            · exact h3 u hu
theorem scanL_fin {N : Nat} {l : List UInt8} {ts : List Tk} (h : scanL N l = .ok ts) : ∃ ts0 : List Tk, ts = ts0 ++ [⟨0, ⟨#[]⟩, 0, N⟩] ∧ ts0.length ≤ l.length ∧ ∀ t ∈ ts0, 1 ≤ t.kind ∧ t.kind ≤ 3 := scanG_fin N _ l ts h
end Go.Proofs.YtnabbnhefjfegaaGreatDoor
namespace Go.Proofs.YtnabbnhefjfegaaGreatDoor
section
set_option maxRecDepth 100000
theorem en135 : Enters Tryz.prog 135 := enters_mk Tryz.func135 (by kernel_rfl) rfl
theorem en32 : Enters Tryz.prog 32 := enters_mk Tryz.func32 (by kernel_rfl) rfl
theorem en87 : Enters Tryz.prog 87 := enters_mk Tryz.func87 (by kernel_rfl) rfl
theorem z151 : Zero Tryz.prog 151 [.slice none 0 0, .int .i64 0, .int .i64 0, .int .i64 0] := ⟨zero_of (by kernel_rfl)⟩
theorem st151 : StT Tryz.prog 151 [(0, 1), (1, 1), (2, 1), (3, 1)] [.slice none 0 0, .int .i64 0, .int .i64 0, .int .i64 0] := ⟨⟨_, Tryz.underlying151, fun _ => by kernel_rfl, z151⟩⟩
theorem z98 : Zero Tryz.prog 98 [.pointer none] := ⟨zero_of (by kernel_rfl)⟩
theorem st98 : StT Tryz.prog 98 [(0, 1)] [.pointer none] := ⟨⟨_, Tryz.underlying98, fun _ => by kernel_rfl, z98⟩⟩
end
open Go.RowKit
section
variable {ro : Option Nat} {P : Program} {n : NM} {w0 : Base} {X0 X : PMap} {own : Own} {env : Env} {fn : Func}
theorem run_results3C {r : ResultVar} {t' t'' : Tmp} {v v' v'' : Value} (hr : fn.results = #[r, .tmp t', .tmp t'']) (h : ResIs P env own r v) (h' : ResIs P env own (.tmp t') v') (h'' : ResIs P env own (.tmp t'') v'') {a : Act} {W : World} (ha : EOk n env a) (hs : Stab own X W) : (results fn a.tmps).run P W = .ok (.tuple #[v, v', v'']) W := by
  cases h' with
  | tmp h' =>
    cases h'' with
    | tmp h'' =>
      have h1 := ha.get _ _ h'
      have h2 := ha.get _ _ h''
      rw [Array.getD_eq_getD_getElem?] at h1 h2
      cases h with
      | tmp h =>
        have h0 := ha.get _ _ h
        rw [Array.getD_eq_getD_getElem?] at h0
        simp [results, hr, h0, h1, h2]
      | cell hp ht ho hv =>
        obtain ⟨h3, h4⟩ := run_cell ha hs hp ht ho hv
        rw [Array.getD_eq_getD_getElem?] at h3
        simp [results, hr, h1, h2, h3, asAddr, h4, Result.andThen]
theorem T.retO3 {Φ : Value → Own → PMap → Prop} {w : World} {k : List It} {s : Nat} {r : ResultVar} {t' t'' : Tmp} {v v' v'' : Value} (hr : fn.results = #[r, .tmp t', .tmp t'']) (h : ResIs P env own r v) (h' : ResIs P env own (.tmp t') v') (h'' : ResIs P env own (.tmp t'') v'') (hΦ : Φ (.tuple #[v, v', v'']) own X) : T ro P ⟨s, []⟩ ⟨w, []⟩ X0 (bodyQ P fn (FinO w X0 Φ)) (.code .ret :: k) none env own X := T.retO (fun _ _ ha hs => run_results3C hr h h' h'' ha hs) hΦ
theorem T.ret3C {Φ : Value → PMap → Prop} {k : List It} {r : ResultVar} {t' t'' : Tmp} {v v' v'' : Value} (hr : fn.results = #[r, .tmp t', .tmp t'']) (h : ResIs P env own r v) (h' : ResIs P env own (.tmp t') v') (h'' : ResIs P env own (.tmp t'') v'') (hΦ : Φ (.tuple #[v, v', v'']) X) (hM : Marks n w0 := by first | exact ⟨[], rfl, rfl, .nil⟩ | exact ⟨[_], rfl, rfl, by simp⟩) : T ro P n w0 X0 (bodyQ P fn (Fin w0.w X0 Φ)) (.code .ret :: k) none env own X := T.ret (fun _ _ ha hs => run_results3C hr h h' h'' ha hs) hΦ hM
end
theorem rcT_one (l : List Tk) : ∀ y ∈ (l.map rcT).flatten, y.oneCell' = true := fun y hy => by
  obtain ⟨c, hc, hyc⟩ := List.mem_flatten.1 hy
  obtain ⟨t, _, rfl⟩ := List.mem_map.1 hc
  simp only [rcT, List.mem_cons, List.not_mem_nil, or_false] at hyc
  rcases hyc with rfl | rfl | rfl | rfl <;> rfl
theorem tclone_spec {X : PMap} {v : Value} {l : List Tk} (h : RowR rcT X v l) (hl : l.length < 100000) : SpecO Tryz.prog 135 [v] X fun u own1 _ => GrowS 70 4 u l.length (l.map rcT).flatten own1 := by
  obtain ⟨A, cp, rfl⟩ := h.form
  have hcl := rows_len rcT_len l
  rcases A with _ | ad
  · have hn : l = [] := by
      rcases h with ⟨h1, _⟩ | ⟨_, b, c, pre, hv, _⟩
      · exact h1
      · cases hv
    subst hn
    refine SpecO.enter Tryz.func135 rfl Tryz.ntmps135 rfl ?_
    intro w0 hw0
    refine T.seq ?_
    refine T.region ?_
    refine SL.y (op_assign rfl) rfl rfl ?_
    refine SL.nil ?_
    refine T.seq ?_
    refine T.seq ?_
    refine T.region ?_
    refine SL.y (op_move rfl) rfl rfl ?_
    refine SL.y (op_eqlSNil Tryz.underlying65 rfl rfl) rfl rfl ?_
    refine SL.nil ?_
    refine T.condT rfl ?_
    refine T.seq ?_
    refine T.region ?_
    refine SL.y (op_assign rfl) rfl rfl ?_
    refine SL.nil ?_
    refine T.retO1 rfl (ResIs.tmp rfl) ?_
    exact .inl ⟨rfl, rfl, rfl, rfl⟩
  · refine SpecO.enter Tryz.func135 rfl Tryz.ntmps135 rfl ?_
    intro w0 hw0
    refine T.seq ?_
    refine T.region ?_
    refine SL.y (op_assign rfl) rfl rfl ?_
    refine SL.nil ?_
    refine T.seq ?_
    refine T.seq ?_
    refine T.region ?_
    refine SL.y (op_move rfl) rfl rfl ?_
    refine SL.y (op_eqlSNil Tryz.underlying65 rfl rfl) rfl rfl ?_
    refine SL.nil ?_
    refine T.condF rfl ?_
    refine T.skip ?_
    refine T.seq ?_
    refine T.region ?_
    refine SL.x (op_buildSlice Tryz.underlying65 bs70 (qs := []) rfl rfl rfl rfl rfl) rfl rfl ?_
    rintro _ _ _ ⟨B5, rfl, rfl, rfl⟩
    refine SL.y (op_move rfl) rfl rfl ?_
    refine SL.x (op_append (m := l.length) (news := (l.map rcT).flatten) sl65 rfl rfl (by repeat constructor) rfl rfl (Nat.le_refl _) (by decide) (Src.ofRow rcT_len h) (rcT_one l) (by (have : maxLen = 9223372036854775807 := rfl); omega) (by omega)) rfl rfl ?_
    rintro _ _ _ ⟨b7, cap7, rfl, rfl, rfl, hc7, hm7⟩
    refine SL.y (op_assign rfl) rfl rfl ?_
    refine SL.nil ?_
    refine T.retO1 rfl (ResIs.tmp rfl) ?_
    exact .inr ⟨b7, cap7, by rw [Nat.zero_add], rfl, by omega, hm7, hcl⟩
theorem newReader_spec {X : PMap} {v : Value} {l : List Tk} (h : RowR rcT X v l) (hl : l.length < 100000) : SpecO Tryz.prog 87 [v] X fun u own1 X' => ∃ (rb : Nat) (v' : Value), u = .pointer (some ⟨rb, 0, none⟩) ∧ own1 = [RdO rb v' 0 0 0] ∧ RowR rcT X' v' l := by
  obtain ⟨A, cp, rfl⟩ := h.form
  refine SpecO.enter Tryz.func87 rfl Tryz.ntmps87 rfl ?_
  intro w0 hw0
  refine T.seq ?_
  refine T.region ?_
  refine SL.y (op_assign rfl) rfl rfl ?_
  refine SL.nil ?_
  refine T.seq ?_
  refine T.region ?_
  refine SL.y (op_move rfl) rfl rfl ?_
  refine SL.x (op_callO en135 (vs := [_]) rfl (tclone_spec h hl)) rfl rfl ?_
  rintro vt _ X1 ⟨G, rfl, hX1, hG⟩
  obtain ⟨A1, c1, rfl⟩ := hG.form
  refine SL.y (op_build st151 (qs := [(0, _)]) rfl rfl) rfl rfl ?_
  refine SL.x (op_box rfl) rfl rfl ?_
  rintro _ _ _ ⟨B6, rfl, rfl, rfl⟩
  refine SL.y (op_assign rfl) rfl rfl ?_
  refine SL.nil ?_
  refine T.perm (own' := [_] ++ G) (by rw [List.append_nil]; exact List.Perm.refl _) ?_
  refine T.pubG (own0 := [_]) hG ?_
  intro X9 hX9 hS9
  refine T.retO1 rfl (ResIs.tmp rfl) ?_
  exact ⟨B6, _, rfl, rfl, RowR.ofG hG hS9⟩
/-- The state at the beginning of a text. -/
def begM (s : ByteArray) : RSt := if 8000 < s.size then .error (0, 3) else match scanL s.size (bl s) with
  | .ok ts => .ok ts
  | .error o => .error (o, 8)
theorem begin_spec {X : PMap} {s : ByteArray} (hs : s.size < 1000000000) : SpecO Tryz.prog 42 [.string s] X fun u own1 X' => match begM s with
    | .error x => u = .tuple #[.pointer none, .int .i64 (x.1 : Int), .int .i64 x.2] ∧ own1 = []
    | .ok ts => ∃ (pb rb : Nat) (v : Value), u = .tuple #[.pointer (some ⟨pb, 0, none⟩), .int .i64 0, .int .i64 0] ∧ own1 = [RdO rb v 0 0 0] ∧ Blk X' pb [.pointer (some ⟨rb, 0, none⟩)] ∧ Tks X' v ts ∧ 0 < ts.length ∧ ts.length ≤ 8001 := by
  by_cases h8 : 8000 < s.size
  · have hb : begM s = .error (0, 3) := if_pos h8
    refine SpecO.enter Tryz.func42 rfl Tryz.ntmps42 rfl ?_
    intro w0 hw0
    refine T.seq ?_
    refine T.region ?_
    refine SL.y (op_assign rfl) rfl rfl ?_
    refine SL.y (op_assign (v := .int .i64 ((0 : Nat) : Int)) rfl) rfl rfl ?_
    refine SL.y (op_assign (v := .int .i64 ((0 : Nat) : Int)) rfl) rfl rfl ?_
    refine SL.nil ?_
    refine T.seq ?_
    refine T.region ?_
    refine SL.y (op_move rfl) rfl rfl ?_
    refine SL.x (op_callF en32 (vs := [_]) rfl (scan_spec hs)) rfl rfl ?_
    rintro u1 _ X1 ⟨rfl, hX1, hu1⟩
    rw [if_pos h8] at hu1
    subst hu1
    refine SL.y (op_move rfl) rfl rfl ?_
    refine SL.y (op_extract rfl rfl) rfl rfl ?_
    refine SL.y (op_extract rfl rfl) rfl rfl ?_
    refine SL.y (op_extract rfl rfl) rfl rfl ?_
    refine SL.y (op_assign rfl) rfl rfl ?_
    refine SL.y (op_assign rfl) rfl rfl ?_
    refine SL.y (op_assign rfl) rfl rfl ?_
    refine SL.nil ?_
    refine T.seq ?_
    refine T.seq ?_
    refine T.region ?_
    refine SL.y (op_move rfl) rfl rfl ?_
    first | refine SL.y (op_neqT rfl rfl (by omega)) rfl rfl ?_ | refine SL.y (op_neqF rfl rfl (by omega)) rfl rfl ?_ | refine SL.y (op_neq rfl rfl) rfl rfl ?_
    refine SL.nil ?_
    refine T.condT rfl ?_
    refine T.seq ?_
    refine T.region ?_
    refine SL.y (op_move rfl) rfl rfl ?_
    refine SL.y (op_move rfl) rfl rfl ?_
    refine SL.y (op_assign rfl) rfl rfl ?_
    refine SL.y (op_assign rfl) rfl rfl ?_
    refine SL.y (op_assign rfl) rfl rfl ?_
    refine SL.nil ?_
    refine T.retO3 rfl (ResIs.tmp rfl) (ResIs.tmp rfl) (ResIs.tmp rfl) ?_
    rw [hb]
    exact ⟨rfl, rfl⟩
  · cases hsc : scanL s.size (bl s) with
    | error o =>
      have hb : begM s = .error (o, 8) := by rw [begM, if_neg h8, hsc]
      refine SpecO.enter Tryz.func42 rfl Tryz.ntmps42 rfl ?_
      intro w0 hw0
      refine T.seq ?_
      refine T.region ?_
      refine SL.y (op_assign rfl) rfl rfl ?_
      refine SL.y (op_assign (v := .int .i64 ((0 : Nat) : Int)) rfl) rfl rfl ?_
      refine SL.y (op_assign (v := .int .i64 ((0 : Nat) : Int)) rfl) rfl rfl ?_
      refine SL.nil ?_
      refine T.seq ?_
      refine T.region ?_
      refine SL.y (op_move rfl) rfl rfl ?_
      refine SL.x (op_callF en32 (vs := [_]) rfl (scan_spec hs)) rfl rfl ?_
      rintro u1 _ X1 ⟨rfl, hX1, hu1⟩
      rw [if_neg h8, hsc] at hu1
      simp only at hu1
      subst hu1
      refine SL.y (op_move rfl) rfl rfl ?_
      refine SL.y (op_extract rfl rfl) rfl rfl ?_
      refine SL.y (op_extract rfl rfl) rfl rfl ?_
      refine SL.y (op_extract rfl rfl) rfl rfl ?_
      refine SL.y (op_assign rfl) rfl rfl ?_
      refine SL.y (op_assign rfl) rfl rfl ?_
      refine SL.y (op_assign rfl) rfl rfl ?_
      refine SL.nil ?_
      refine T.seq ?_
      refine T.seq ?_
      refine T.region ?_
      refine SL.y (op_move rfl) rfl rfl ?_
      first | refine SL.y (op_neqT rfl rfl (by omega)) rfl rfl ?_ | refine SL.y (op_neqF rfl rfl (by omega)) rfl rfl ?_ | refine SL.y (op_neq rfl rfl) rfl rfl ?_
      refine SL.nil ?_
      refine T.condT rfl ?_
      refine T.seq ?_
      refine T.region ?_
      refine SL.y (op_move rfl) rfl rfl ?_
      refine SL.y (op_move rfl) rfl rfl ?_
      refine SL.y (op_assign rfl) rfl rfl ?_
      refine SL.y (op_assign rfl) rfl rfl ?_
      refine SL.y (op_assign rfl) rfl rfl ?_
      refine SL.nil ?_
      refine T.retO3 rfl (ResIs.tmp rfl) (ResIs.tmp rfl) (ResIs.tmp rfl) ?_
      rw [hb]
      exact ⟨rfl, rfl⟩
    | ok ts =>
      have hb : begM s = .ok ts := by rw [begM, if_neg h8, hsc]
      obtain ⟨ts0, rfl, hl0, hk0⟩ := scanL_fin hsc
      rw [bl_size] at hl0
      have hll : (ts0 ++ [(⟨0, ⟨#[]⟩, 0, s.size⟩ : Tk)]).length = ts0.length + 1 := by simp
      refine SpecO.enter Tryz.func42 rfl Tryz.ntmps42 rfl ?_
      intro w0 hw0
      refine T.seq ?_
      refine T.region ?_
      refine SL.y (op_assign rfl) rfl rfl ?_
      refine SL.y (op_assign (v := .int .i64 ((0 : Nat) : Int)) rfl) rfl rfl ?_
      refine SL.y (op_assign (v := .int .i64 ((0 : Nat) : Int)) rfl) rfl rfl ?_
      refine SL.nil ?_
      refine T.seq ?_
      refine T.region ?_
      refine SL.y (op_move rfl) rfl rfl ?_
      refine SL.x (op_callF en32 (vs := [_]) rfl (scan_spec hs)) rfl rfl ?_
      rintro u1 _ X1 ⟨rfl, hX1, hu1⟩
      rw [if_neg h8, hsc] at hu1
      simp only at hu1
      obtain ⟨v1, rfl, hR⟩ := hu1
      refine SL.y (op_move rfl) rfl rfl ?_
      refine SL.y (op_extract rfl rfl) rfl rfl ?_
      refine SL.y (op_extract rfl rfl) rfl rfl ?_
      refine SL.y (op_extract rfl rfl) rfl rfl ?_
      refine SL.y (op_assign rfl) rfl rfl ?_
      refine SL.y (op_assign rfl) rfl rfl ?_
      refine SL.y (op_assign rfl) rfl rfl ?_
      refine SL.nil ?_
      refine T.seq ?_
      refine T.seq ?_
      refine T.region ?_
      refine SL.y (op_move rfl) rfl rfl ?_
      first | refine SL.y (op_neqT rfl rfl (by omega)) rfl rfl ?_ | refine SL.y (op_neqF rfl rfl (by omega)) rfl rfl ?_ | refine SL.y (op_neq rfl rfl) rfl rfl ?_
      refine SL.nil ?_
      refine T.condF rfl ?_
      refine T.skip ?_
      refine T.seq ?_
      refine T.region ?_
      refine SL.y (op_move rfl) rfl rfl ?_
      refine SL.x (op_callO en87 (vs := [_]) rfl (newReader_spec hR (by omega))) rfl rfl ?_
      rintro _ _ X2 ⟨_, rfl, hX2, rb, v2, rfl, rfl, hR2⟩
      refine SL.y (op_build st98 (qs := [(0, _)]) rfl rfl) rfl rfl ?_
      refine SL.x (op_box rfl) rfl rfl ?_
      rintro _ _ _ ⟨B21, rfl, rfl, rfl⟩
      refine SL.y (op_assign rfl) rfl rfl ?_
      refine SL.y (op_assign (v := .int .i64 ((0 : Nat) : Int)) rfl) rfl rfl ?_
      refine SL.y (op_assign (v := .int .i64 ((0 : Nat) : Int)) rfl) rfl rfl ?_
      refine SL.nil ?_
      refine T.pub B21 (by repeat constructor) ?_
      intro X3 hX3 hB21 _
      refine T.retO3 rfl (ResIs.tmp rfl) (ResIs.tmp rfl) (ResIs.tmp rfl) ?_
      rw [hb]
      exact ⟨B21, rb, v2, rfl, rfl, hB21, ⟨hR2.mono hX3, by omega, fun t ht => by
        rw [hll, Nat.add_sub_cancel, List.getElem?_append_right (Nat.le_refl _), Nat.sub_self] at ht
        cases ht; rfl⟩, by omega, by omega⟩
end Go.Proofs.YtnabbnhefjfegaaGreatDoor
namespace Go.Proofs.YtnabbnhefjfegaaGreatDoor
open Go.RowKit
/-- Each token that is read weighs at most 14. -/
def Wt (p : ParP) : Prop := ∀ l e l', p l = .ok (e, l') → wtE e + 14 * l'.length ≤ 14 * l.length
theorem isT_len {w : ByteArray} {l : List Tk} (h : isT w l = true) : l.tail.length + 1 = l.length := by
  cases l with
  | nil => cases h
  | cons t l => rfl
theorem wt_two (op : Nat) (x y : Ex) : wtE (two op x y) = wtE x + wtE y + 1 := by simp [two, wtE, wtL, wtS]
theorem nameT_wt {l l' : List Tk} {s : ByteArray} (h : nameT l = .ok (s, l')) : s.size ≤ 12 ∧ l'.length + 1 = l.length := by
  cases l with
  | nil => cases h
  | cons t l =>
    rw [nameT] at h
    split at h
    · cases h
    · split at h
      · cases h
      · rename_i hv
        simp only [Except.ok.injEq, Prod.mk.injEq] at h
        obtain ⟨rfl, rfl⟩ := h
        exact ⟨(Decidable.not_not.1 hv).2.1, rfl⟩
theorem expT_wt {w : ByteArray} {l l' : List Tk} {u : Unit} (h : expT w l = .ok (u, l')) : l'.length + 1 = l.length := by
  rw [expT] at h
  split at h
  · rename_i hk
    simp only [Except.ok.injEq, Prod.mk.injEq] at h
    rw [← h.2]; exact isT_len hk
  · cases h
theorem bind_ok {α β : Type} {x : Res α} {f : α → List Tk → Res β} {r : β × List Tk} (h : bindR x f = .ok r) : ∃ a l, x = .ok (a, l) ∧ f a l = .ok r := by
  cases x with
  | error e => cases h
  | ok y => exact ⟨y.1, y.2, rfl, h⟩
theorem leftG_wt {w : ByteArray} {op : Nat} {p : ParP} (hp : Wt p) : ∀ (k : Nat) (x : Ex) (l : List Tk) (e : Ex) (l' : List Tk), leftG w op p k x l = .ok (e, l') → wtE e + 14 * l'.length ≤ wtE x + 14 * l.length
  | 0, x, l, e, l', h => by
    simp only [leftG, Except.ok.injEq, Prod.mk.injEq] at h
    obtain ⟨rfl, rfl⟩ := h; exact Nat.le_refl _
  | k + 1, x, l, e, l', h => by
    rw [leftG] at h
    split at h
    · rename_i hk
      obtain ⟨y, l1, h1, h2⟩ := bind_ok h
      have h3 := leftG_wt hp k _ _ _ _ h2
      have h4 := hp _ _ _ h1
      have h5 := isT_len hk
      rw [wt_two] at h3
      omega
    · simp only [Except.ok.injEq, Prod.mk.injEq] at h
      obtain ⟨rfl, rfl⟩ := h; exact Nat.le_refl _
theorem leftP_wt {w : ByteArray} {op : Nat} {p : ParP} (hp : Wt p) : Wt (leftP w op p) := fun l e l' h => by
  obtain ⟨x, l1, h1, h2⟩ := bind_ok h
  have := leftG_wt hp _ _ _ _ _ h2
  have := hp _ _ _ h1
  omega
theorem cmpP_wt {p : ParP} (hp : Wt p) : Wt (cmpP p) := fun l e l' h => by
  have hs : Wt (sumP p) := leftP_wt hp
  rw [cmpP_eq] at h
  obtain ⟨x, l1, h1, h2⟩ := bind_ok h
  have h3 := hs _ _ _ h1
  cases hf : cmps.find? fun c => isT c.1 l1 with
  | none =>
    rw [hf] at h2
    simp only [Except.ok.injEq, Prod.mk.injEq] at h2
    obtain ⟨rfl, rfl⟩ := h2; exact h3
  | some c =>
    rw [hf] at h2
    obtain ⟨y, l2, h4, h5⟩ := bind_ok h2
    simp only [Except.ok.injEq, Prod.mk.injEq] at h5
    obtain ⟨rfl, rfl⟩ := h5
    have h6 := hs _ _ _ h4
    have h7 := isT_len (List.find?_some (p := fun c : ByteArray × Nat => isT c.1 l1) hf)
    rw [wt_two]; omega
theorem negP_wt {p : ParP} (hp : Wt p) : ∀ k, Wt (negP p k)
  | 0 => fun l e l' h => by cases h
  | k + 1 => fun l e l' h => by
    rw [negP_succ] at h
    split at h
    · rename_i hk
      obtain ⟨y, l1, h1, h2⟩ := bind_ok h
      simp only [Except.ok.injEq, Prod.mk.injEq] at h2
      obtain ⟨rfl, rfl⟩ := h2
      have h3 := negP_wt hp k _ _ _ h1
      have h4 := isT_len hk
      simp only [wtE, wtL, wtS, List.map_nil, List.sum_nil]
      omega
    · exact cmpP_wt hp _ _ _ h
theorem disjP_wt {p : ParP} (hp : Wt p) : Wt (disjP p) := leftP_wt (leftP_wt fun _ _ _ h => negP_wt hp _ _ _ _ h)
theorem implP_wt {p : ParP} (hp : Wt p) : ∀ k, Wt (implP p k)
  | 0 => fun l e l' h => by cases h
  | k + 1 => fun l e l' h => by
    rw [implP_succ] at h
    obtain ⟨x, l1, h1, h2⟩ := bind_ok h
    have h3 := disjP_wt hp _ _ _ h1
    split at h2
    · rename_i hk
      obtain ⟨y, l2, h4, h5⟩ := bind_ok h2
      simp only [Except.ok.injEq, Prod.mk.injEq] at h5
      obtain ⟨rfl, rfl⟩ := h5
      have h6 := implP_wt hp k _ _ _ h4
      have h7 := isT_len hk
      rw [wt_two]; omega
    · simp only [Except.ok.injEq, Prod.mk.injEq] at h2
      obtain ⟨rfl, rfl⟩ := h2; exact h3
theorem wtS_one (a : List ByteArray) (s : ByteArray) : wtS (a ++ [s]) = wtS a + s.size + 1 := by simp [wtS]; omega
theorem namesG_wt : ∀ (k : Nat) (ns : List ByteArray) (l : List Tk) (ms : List ByteArray) (l' : List Tk), namesG k ns l = .ok (ms, l') → wtS ms + 14 * l'.length ≤ wtS ns + 14 * l.length
  | 0, ns, l, ms, l', h => by
    simp only [namesG, Except.ok.injEq, Prod.mk.injEq] at h
    obtain ⟨rfl, rfl⟩ := h; exact Nat.le_refl _
  | k + 1, ns, l, ms, l', h => by
    rw [namesG] at h
    split at h
    · rename_i hk
      obtain ⟨s, l1, h1, h2⟩ := bind_ok h
      have h3 := namesG_wt k _ _ _ _ h2
      have h4 := nameT_wt h1
      have h5 := isT_len hk
      rw [wtS_one] at h3
      omega
    · simp only [Except.ok.injEq, Prod.mk.injEq] at h
      obtain ⟨rfl, rfl⟩ := h; exact Nat.le_refl _
theorem namesP_wt {several : Bool} {l l' : List Tk} {ns : List ByteArray} (h : namesP several l = .ok (ns, l')) : wtS ns + 14 * l'.length + 1 ≤ 14 * l.length := by
  obtain ⟨_, l1, h1, h⟩ := bind_ok h
  obtain ⟨s, l2, h2, h⟩ := bind_ok h
  obtain ⟨ms, l3, h3, h⟩ := bind_ok h
  obtain ⟨_, l4, h4, h⟩ := bind_ok h
  simp only [Except.ok.injEq, Prod.mk.injEq] at h
  obtain ⟨rfl, rfl⟩ := h
  have a1 := expT_wt h1
  have a2 := nameT_wt h2
  have a3 := namesG_wt _ _ _ _ _ h3
  have a4 := expT_wt h4
  have a5 : wtS [s] = s.size + 1 := by simp [wtS]
  omega
theorem primP_wt {ex : ParP} (hx : Wt ex) : Wt (primP ex) := fun l e l' h => by
  cases l with
  | nil => cases h
  | cons t r =>
    rw [primP] at h
    rw [List.length_cons]
    split at h
    · simp only [Except.ok.injEq, Prod.mk.injEq] at h
      obtain ⟨rfl, rfl⟩ := h
      simp only [wtE, wtL, wtS, List.map_nil, List.sum_nil]; omega
    · split at h
      · simp only [Except.ok.injEq, Prod.mk.injEq] at h
        obtain ⟨rfl, rfl⟩ := h
        simp only [wtE, wtL, wtS, List.map_nil, List.sum_nil]; omega
      · split at h
        · simp only [Except.ok.injEq, Prod.mk.injEq] at h
          obtain ⟨rfl, rfl⟩ := h
          simp only [wtE, wtL, wtS, List.map_nil, List.sum_nil]; omega
        · split at h
          · obtain ⟨ns, l1, h1, h2⟩ := bind_ok h
            simp only [Except.ok.injEq, Prod.mk.injEq] at h2
            obtain ⟨rfl, rfl⟩ := h2
            have := namesP_wt h1
            rw [wtE, wtL]; omega
          · split at h
            · obtain ⟨ns, l1, h1, h2⟩ := bind_ok h
              simp only [Except.ok.injEq, Prod.mk.injEq] at h2
              obtain ⟨rfl, rfl⟩ := h2
              have := namesP_wt h1
              rw [wtE, wtL]; omega
            · split at h
              · obtain ⟨x, l1, h1, h2⟩ := bind_ok h
                obtain ⟨_, l2, h3, h4⟩ := bind_ok h2
                simp only [Except.ok.injEq, Prod.mk.injEq] at h4
                obtain ⟨rfl, rfl⟩ := h4
                have := hx _ _ _ h1
                have := expT_wt h3
                omega
              · obtain ⟨s, l1, h1, h2⟩ := bind_ok h
                simp only [Except.ok.injEq, Prod.mk.injEq] at h2
                obtain ⟨rfl, rfl⟩ := h2
                have a1 := nameT_wt h1
                rw [List.length_cons] at a1
                have a5 : wtS [s] = s.size + 1 := by simp [wtS]
                rw [wtE, wtL]; omega
theorem exprP_wt : ∀ f, Wt (exprP f)
  | 0 => fun l e l' h => by cases h
  | f + 1 => fun l e l' h => implP_wt (primP_wt (exprP_wt f)) _ _ _ _ h
end Go.Proofs.YtnabbnhefjfegaaGreatDoor
namespace Go.Proofs.YtnabbnhefjfegaaGreatDoor
section
set_option maxRecDepth 100000
theorem en42 : Enters Tryz.prog 42 := enters_mk Tryz.func42 (by kernel_rfl) rfl
theorem en43 : Enters Tryz.prog 43 := enters_mk Tryz.func43 (by kernel_rfl) rfl
end
open Go.RowKit
def hdK : List Tk → Nat
  | [] => 0
  | t :: _ => t.kind
/-- The end must have come. -/
def endM : RSt → RSt
  | .ok l => if hdK l = 0 then .ok l else .error (offT l, 8)
  | .error x => .error x
/-- The expression that a text is, or the error with its offset. -/
noncomputable def exprM (s : ByteArray) : Except (Nat × Int) Ex := match begM s with
  | .error x => .error x
  | .ok ts => match exprP (ts.length + 1) ts with
    | .error x => .error x
    | .ok y => match endM (.ok y.2) with
      | .error x => .error x
      | .ok _ => if chkE y.1 = 0 then .ok y.1 else .error (0, chkE y.1)
theorem RdS.zero {ts : List Tk} (h : 0 < ts.length) : RdS ts (.ok ts) 0 0 0 := ⟨h, rfl, rfl, rfl⟩
theorem begM_err {s : ByteArray} {x : Nat × Int} (h : begM s = .error x) : x.2 ≠ 0 := by
  rw [begM] at h
  split at h
  · simp only [Except.error.injEq] at h
    rw [← h]; decide
  · split at h
    · cases h
    · simp only [Except.error.injEq] at h
      rw [← h]; exact fun h => by cases h
theorem exprM_run {s : ByteArray} {ts : List Tk} {sa : RSt} {x : Ex} (hb : begM s = .ok ts) (hO : Out (runM (exprP (ts.length + 1)) (.ok ts)) sa x) : exprM s = match endM sa with
    | .error x => .error x
    | .ok _ => if chkE x = 0 then .ok x else .error (0, chkE x) := by
  rw [exprM, hb]
  simp only [runM] at hO
  cases he : exprP (ts.length + 1) ts with
  | error y => rw [he] at hO; simp only [Out] at hO; subst hO; simp only [he]; rfl
  | ok y => rw [he] at hO; obtain ⟨rfl, rfl⟩ := hO; simp only [he]
theorem expr17_spec {X : PMap} {s : ByteArray} (hs : s.size < 1000000000) : Spec Tryz.prog 20 [.string s] X fun u X' => match exprM s with
    | .error x => u = .tuple #[.agg #[.int .u8 0, .int .i64 0, .slice none 0 0, .slice none 0 0], .int .i64 (x.1 : Int), .int .i64 x.2]
    | .ok e => ∃ r : Row4, u = .tuple #[.agg #[r.1, r.2.1, r.2.2.1, r.2.2.2], .int .i64 0, .int .i64 0] ∧ ExR .u8 X' e r := by
  cases hb : begM s with
  | error x =>
    have hm : exprM s = .error x := by rw [exprM, hb]
    have hx2 := begM_err hb
    obtain ⟨o, c⟩ := x
    simp only at hx2
    refine Spec.enter Tryz.func20 rfl Tryz.ntmps20 rfl ?_
    intro w0 hw0
    refine T.seq ?_
    refine T.region ?_
    refine SL.x (op_alloc z40) rfl rfl ?_
    rintro _ _ _ ⟨B2, rfl, rfl, rfl⟩
    refine SL.y (op_assign (v := .int .i64 ((0 : Nat) : Int)) rfl) rfl rfl ?_
    refine SL.y (op_assign (v := .int .i64 ((0 : Nat) : Int)) rfl) rfl rfl ?_
    refine SL.nil ?_
    refine T.seq ?_
    refine T.region ?_
    refine SL.y (op_move rfl) rfl rfl ?_
    refine SL.x (op_callO en42 (vs := [_]) rfl (begin_spec hs)) rfl rfl ?_
    rintro u1 _ X1 ⟨own1, rfl, hX1, hu1⟩
    rw [hb] at hu1
    obtain ⟨rfl, rfl⟩ := hu1
    refine SL.y (op_move rfl) rfl rfl ?_
    refine SL.y (op_extract rfl rfl) rfl rfl ?_
    refine SL.y (op_extract rfl rfl) rfl rfl ?_
    refine SL.y (op_extract rfl rfl) rfl rfl ?_
    refine SL.y (op_assign rfl) rfl rfl ?_
    refine SL.y (op_assign rfl) rfl rfl ?_
    refine SL.y (op_assign rfl) rfl rfl ?_
    refine SL.nil ?_
    refine T.seq ?_
    refine T.seq ?_
    refine T.region ?_
    refine SL.y (op_move rfl) rfl rfl ?_
    first | refine SL.y (op_neqT rfl rfl (by omega)) rfl rfl ?_ | refine SL.y (op_neqF rfl rfl (by omega)) rfl rfl ?_ | refine SL.y (op_neq rfl rfl) rfl rfl ?_
    refine SL.nil ?_
    refine T.condT rfl ?_
    refine T.seq ?_
    refine T.region ?_
    refine SL.y (op_build st40 (qs := []) rfl rfl) rfl rfl ?_
    refine SL.y (op_move rfl) rfl rfl ?_
    refine SL.y (op_move rfl) rfl rfl ?_
    refine SL.x (op_store ty40 rfl rfl (by repeat constructor) rfl rfl rfl) rfl rfl ?_
    rintro _ _ _ ⟨rfl, rfl⟩
    refine SL.y (op_assign rfl) rfl rfl ?_
    refine SL.y (op_assign rfl) rfl rfl ?_
    refine SL.nil ?_
    refine T.ret3C rfl (ResIs.cell rfl ty40 (by repeat constructor) rfl) (ResIs.tmp rfl) (ResIs.tmp rfl) ?_
    rw [hm]
    rfl
  | ok ts =>
    refine Spec.enter Tryz.func20 rfl Tryz.ntmps20 rfl ?_
    intro w0 hw0
    refine T.seq ?_
    refine T.region ?_
    refine SL.x (op_alloc z40) rfl rfl ?_
    rintro _ _ _ ⟨B2, rfl, rfl, rfl⟩
    refine SL.y (op_assign (v := .int .i64 ((0 : Nat) : Int)) rfl) rfl rfl ?_
    refine SL.y (op_assign (v := .int .i64 ((0 : Nat) : Int)) rfl) rfl rfl ?_
    refine SL.nil ?_
    refine T.seq ?_
    refine T.region ?_
    refine SL.y (op_move rfl) rfl rfl ?_
    refine SL.x (op_callO en42 (vs := [_]) rfl (begin_spec hs)) rfl rfl ?_
    rintro u1 _ X1 ⟨own1, rfl, hX1, hu1⟩
    rw [hb] at hu1
    obtain ⟨pb, rb, v, rfl, rfl, hP, hT, h0, hl8⟩ := hu1
    refine SL.y (op_move rfl) rfl rfl ?_
    refine SL.y (op_extract rfl rfl) rfl rfl ?_
    refine SL.y (op_extract rfl rfl) rfl rfl ?_
    refine SL.y (op_extract rfl rfl) rfl rfl ?_
    refine SL.y (op_assign rfl) rfl rfl ?_
    refine SL.y (op_assign rfl) rfl rfl ?_
    refine SL.y (op_assign rfl) rfl rfl ?_
    refine SL.nil ?_
    refine T.seq ?_
    refine T.seq ?_
    refine T.region ?_
    refine SL.y (op_move rfl) rfl rfl ?_
    first | refine SL.y (op_neqT rfl rfl (by omega)) rfl rfl ?_ | refine SL.y (op_neqF rfl rfl (by omega)) rfl rfl ?_ | refine SL.y (op_neq rfl rfl) rfl rfl ?_
    refine SL.nil ?_
    refine T.condF rfl ?_
    refine T.skip ?_
    refine T.seq ?_
    refine T.region ?_
    refine SL.y (op_move rfl) rfl rfl ?_
    refine SL.x (op_callJ en46 rfl (vs := [_]) rfl (expr_all ts.length hT hP (RdS.zero h0) (fun l h => by cases h; exact Nat.lt_succ_self _)) (by repeat constructor)) rfl rfl ?_
    rintro _ _ X2 ⟨_, rfl, hX2, i2, off2, e2, sa, rfl, hS2, x, q, rfl, hx, hO, hsh⟩
    obtain ⟨o9, n9, a9, b9, l9, c9, m9, d9, rfl⟩ := hx.form
    have hP := hP.mono hX2
    have hT := hT.mono hX2
    obtain ⟨t, ht⟩ := hS2.tok
    have hrun := exprM_run hb hO
    refine SL.x (op_alloc z40) rfl rfl ?_
    rintro _ _ _ ⟨B8, rfl, rfl, rfl⟩
    refine SL.x (op_store ty40 rfl rfl (by repeat constructor) rfl rfl rfl) rfl rfl ?_
    rintro _ _ _ ⟨rfl, rfl⟩
    refine SL.nil ?_
    refine T.seq ?_
    refine T.meet (fun _ env own X' => ∃ (i off : Nat) (e : Int), X2.le X' ∧ RdS ts (endM sa) i off e ∧ env = [(2, .pointer (some ⟨B2, 0, none⟩)), (5, .pointer (some ⟨pb, 0, none⟩)), (8, .pointer (some ⟨B8, 0, none⟩))] ∧ own = EO B8 (.int .u8 (o9 : Int), .int .i64 n9, .slice a9 l9 c9, .slice b9 m9 d9) :: RdO rb v i off e :: [E0 B2]) ?_ ?_
    · skip
      refine T.seq ?_
      refine T.region ?_
      refine SL.y (op_move rfl) rfl rfl ?_
      refine SL.x (op_callLend en43 (vs := [_]) rfl ((fun X1 h1 h2 => (done_spec (hP.mono h1) (hT.row.mono h1) hT.len (h2 (RdO rb v i2 off2 e2) (by simp)) ht : Spec _ _ _ _ fun u _ => u = .bool (decide (e2 ≠ 0 ∨ t.kind = 0)))))) rfl rfl ?_
      rintro _ _ _ ⟨rfl, rfl, rfl⟩
      by_cases hd : e2 ≠ 0 ∨ t.kind = 0
      · have he : endM sa = sa := by
          obtain ⟨_, h2⟩ := hS2
          cases sa with
          | error y => rfl
          | ok l =>
            obtain ⟨_, h3, rfl⟩ := h2
            rcases hd with hd | hd
            · exact absurd h3 hd
            · rw [endM, drop_tok ht]; exact if_pos hd
        rw [decide_eq_true hd]
        refine SL.y (op_not rfl) rfl rfl ?_
        refine SL.nil ?_
        refine T.condF rfl ?_
        refine T.skip ?_
        exact T.backW 0 (by omega) ⟨i2, off2, e2, PMap.le_refl _, by rw [he]; exact hS2, rfl, rfl⟩ (by repeat (first | exact Sub.nil | refine Sub.cons rfl ?_))
      · have he : endM sa = failM 8 sa := by
          obtain ⟨_, h2⟩ := hS2
          cases sa with
          | error y => rfl
          | ok l =>
            obtain ⟨_, h3, rfl⟩ := h2
            rw [endM, drop_tok ht]; exact if_neg fun h => hd (.inr h)
        rw [decide_eq_false hd]
        refine SL.y (op_not rfl) rfl rfl ?_
        refine SL.nil ?_
        refine T.condT rfl ?_
        refine T.region ?_
        refine SL.y (op_move rfl) rfl rfl ?_
        first | refine SL.y (op_nil rfl) rfl rfl ?_ | refine SL.y (op_nilFn rfl) rfl rfl ?_
        refine SL.y (op_fieldAddr fa98_0 rfl) rfl rfl ?_
        first | refine SL.y (op_load ty96 rfl (by repeat constructor) rfl) rfl rfl ?_ | refine SL.y (op_loadX ty96 rfl (by assumption) rfl) rfl rfl ?_
        refine SL.x (op_callJ en47 rfl (vs := [_, _]) rfl (failR_spec hT hS2 (by decide)) (by repeat constructor)) rfl rfl ?_
        rintro _ _ X3 ⟨_, rfl, hX3, i3, off3, e3, _, rfl, hS3, rfl⟩
        refine SL.nil ?_
        exact T.backW 0 (by omega) ⟨i3, off3, e3, hX3, by rw [he]; exact hS3, rfl, rfl⟩ (by repeat (first | exact Sub.nil | refine Sub.cons rfl ?_))
    rintro _ _ _ X4 ⟨i4, off4, e4, hX4, hS4, rfl, rfl⟩
    have hP := hP.mono hX4
    refine T.seq ?_
    refine T.seq ?_
    refine T.region ?_
    refine SL.y (op_move rfl) rfl rfl ?_
    first | refine SL.y (op_nil rfl) rfl rfl ?_ | refine SL.y (op_nilFn rfl) rfl rfl ?_
    refine SL.y (op_fieldAddr fa98_0 rfl) rfl rfl ?_
    first | refine SL.y (op_load ty96 rfl (by repeat constructor) rfl) rfl rfl ?_ | refine SL.y (op_loadX ty96 rfl (by assumption) rfl) rfl rfl ?_
    refine SL.x (op_callLend en45 (vs := [_]) rfl ((fun X1 h1 h2 => (err_spec (h2 (RdO rb v i4 off4 e4) (by simp)) : Spec _ _ _ _ fun u _ => u = .tuple #[.int .i64 (off4 : Int), .int .i64 e4])))) rfl rfl ?_
    rintro _ _ _ ⟨rfl, rfl, rfl⟩
    cases hen : endM sa with
    | error y =>
      rw [hen] at hS4 hrun
      obtain ⟨_, rfl, rfl, hy⟩ := hS4
      obtain ⟨o, c⟩ := y
      simp only at hy
      refine SL.y (op_move rfl) rfl rfl ?_
      refine SL.y (op_extract rfl rfl) rfl rfl ?_
      refine SL.y (op_extract rfl rfl) rfl rfl ?_
      refine SL.y (op_assign rfl) rfl rfl ?_
      refine SL.y (op_assign rfl) rfl rfl ?_
      refine SL.nil ?_
      refine T.seq ?_
      refine T.region ?_
      refine SL.y (op_move rfl) rfl rfl ?_
      first | refine SL.y (op_neqT rfl rfl (by omega)) rfl rfl ?_ | refine SL.y (op_neqF rfl rfl (by omega)) rfl rfl ?_ | refine SL.y (op_neq rfl rfl) rfl rfl ?_
      refine SL.nil ?_
      refine T.condT rfl ?_
      refine T.seq ?_
      refine T.region ?_
      refine SL.y (op_build st40 (qs := []) rfl rfl) rfl rfl ?_
      refine SL.y (op_move rfl) rfl rfl ?_
      refine SL.y (op_move rfl) rfl rfl ?_
      refine SL.x (op_store ty40 rfl rfl (by repeat constructor) rfl rfl rfl) rfl rfl ?_
      rintro _ _ _ ⟨rfl, rfl⟩
      refine SL.y (op_assign rfl) rfl rfl ?_
      refine SL.y (op_assign rfl) rfl rfl ?_
      refine SL.nil ?_
      refine T.ret3C rfl (ResIs.cell rfl ty40 (by repeat constructor) rfl) (ResIs.tmp rfl) (ResIs.tmp rfl) ?_
      rw [hrun]
      rfl
    | ok l =>
      rw [hen] at hS4 hrun
      obtain ⟨_, rfl, rfl, _⟩ := hS4
      have hwx : wtE x < 100000000 := by
        simp only [runM] at hO
        cases he : exprP (ts.length + 1) ts with
        | error y => rw [he] at hO; simp only [Out] at hO; subst hO; cases hen
        | ok y =>
          rw [he] at hO
          obtain ⟨rfl, rfl⟩ := hO
          have := exprP_wt _ _ _ _ he
          omega
      have hc := chk_spec hwx (hx.mono hX4)
      try simp only at hc
      refine SL.y (op_move rfl) rfl rfl ?_
      refine SL.y (op_extract rfl rfl) rfl rfl ?_
      refine SL.y (op_extract rfl rfl) rfl rfl ?_
      refine SL.y (op_assign rfl) rfl rfl ?_
      refine SL.y (op_assign rfl) rfl rfl ?_
      refine SL.nil ?_
      refine T.seq ?_
      refine T.region ?_
      refine SL.y (op_move rfl) rfl rfl ?_
      first | refine SL.y (op_neqT rfl rfl (by omega)) rfl rfl ?_ | refine SL.y (op_neqF rfl rfl (by omega)) rfl rfl ?_ | refine SL.y (op_neq rfl rfl) rfl rfl ?_
      refine SL.nil ?_
      refine T.condF rfl ?_
      refine T.skip ?_
      refine T.seq ?_
      refine T.seq ?_
      refine T.region ?_
      first | refine SL.y (op_load ty40 rfl (by repeat constructor) rfl) rfl rfl ?_ | refine SL.y (op_loadX ty40 rfl (by assumption) rfl) rfl rfl ?_
      refine SL.x (op_callF en25 (vs := [_]) rfl (hc)) rfl rfl ?_
      rintro _ _ X5 ⟨rfl, hX5, rfl⟩
      by_cases hcz : chkE x = 0
      · skip
        refine SL.y (op_assign rfl) rfl rfl ?_
        refine SL.nil ?_
        refine T.seq ?_
        refine T.region ?_
        refine SL.y (op_move rfl) rfl rfl ?_
        first | refine SL.y (op_neqT rfl rfl (by omega)) rfl rfl ?_ | refine SL.y (op_neqF rfl rfl (by omega)) rfl rfl ?_ | refine SL.y (op_neq rfl rfl) rfl rfl ?_
        refine SL.nil ?_
        refine T.condF rfl ?_
        refine T.skip ?_
        refine T.seq ?_
        refine T.region ?_
        first | refine SL.y (op_load ty40 rfl (by repeat constructor) rfl) rfl rfl ?_ | refine SL.y (op_loadX ty40 rfl (by assumption) rfl) rfl rfl ?_
        refine SL.x (op_store ty40 rfl rfl (by repeat constructor) rfl rfl rfl) rfl rfl ?_
        rintro _ _ _ ⟨rfl, rfl⟩
        refine SL.y (op_assign (v := .int .i64 ((0 : Nat) : Int)) rfl) rfl rfl ?_
        refine SL.y (op_assign (v := .int .i64 ((0 : Nat) : Int)) rfl) rfl rfl ?_
        refine SL.nil ?_
        refine T.ret3C rfl (ResIs.cell rfl ty40 (by repeat constructor) rfl) (ResIs.tmp rfl) (ResIs.tmp rfl) ?_
        rw [hrun, if_pos hcz]
        exact ⟨(_, _, _, _), rfl, (hx.mono hX4).mono hX5⟩
      · refine SL.y (op_assign rfl) rfl rfl ?_
        refine SL.nil ?_
        refine T.seq ?_
        refine T.region ?_
        refine SL.y (op_move rfl) rfl rfl ?_
        first | refine SL.y (op_neqT rfl rfl (by omega)) rfl rfl ?_ | refine SL.y (op_neqF rfl rfl (by omega)) rfl rfl ?_ | refine SL.y (op_neq rfl rfl) rfl rfl ?_
        refine SL.nil ?_
        refine T.condT rfl ?_
        refine T.seq ?_
        refine T.region ?_
        refine SL.y (op_build st40 (qs := []) rfl rfl) rfl rfl ?_
        refine SL.y (op_move rfl) rfl rfl ?_
        refine SL.x (op_store ty40 rfl rfl (by repeat constructor) rfl rfl rfl) rfl rfl ?_
        rintro _ _ _ ⟨rfl, rfl⟩
        refine SL.y (op_assign (v := .int .i64 ((0 : Nat) : Int)) rfl) rfl rfl ?_
        refine SL.y (op_assign rfl) rfl rfl ?_
        refine SL.nil ?_
        refine T.ret3C rfl (ResIs.cell rfl ty40 (by repeat constructor) rfl) (ResIs.tmp rfl) (ResIs.tmp rfl) ?_
        rw [hrun, if_neg hcz]
        rfl
end Go.Proofs.YtnabbnhefjfegaaGreatDoor
namespace Go.Proofs.YtnabbnhefjfegaaGreatDoor
section
set_option maxRecDepth 100000
theorem en16 : Enters Tryz.prog 16 := enters_mk Tryz.func16 (by kernel_rfl) rfl
theorem en37 : Enters Tryz.prog 37 := enters_mk Tryz.func37 (by kernel_rfl) rfl
theorem en39 : Enters Tryz.prog 39 := enters_mk Tryz.func39 (by kernel_rfl) rfl
theorem en40 : Enters Tryz.prog 40 := enters_mk Tryz.func40 (by kernel_rfl) rfl
theorem en85 : Enters Tryz.prog 85 := enters_mk Tryz.func85 (by kernel_rfl) rfl
end
open Go.RowKit
theorem sameName_spec {X : PMap} {B : Nat} {c : Con} {w1 w2 w3 w4 : Value} {d : Row7} (hB : Blk X B (rc7 (c.enf, c.kind, c.name, w1, w2, w3, w4))) (hd : ∃ (o : Nat) (n : Int) (A B : Option Addr) (l c1 l' c' : Nat), d.2.2.2 = (.int .u8 (o : Int), .int .i64 n, .slice A l c1, .slice B l' c')) : Spec Tryz.prog 40 [.agg (rc7 d).toArray, .pointer (some ⟨B, 0, none⟩)] X fun u _ => u = .bool (decide (d.2.2.1 = c.name)) := by
  obtain ⟨e, k, s, r⟩ := d
  obtain ⟨o, n, A, Bb, l, c1, l', c', hr⟩ := hd
  simp only at hr
  subst hr
  refine Spec.enter Tryz.func40 rfl Tryz.ntmps40 rfl ?_
  intro w0 hw0
  refine T.seq ?_
  refine T.region ?_
  refine SL.x (op_box rfl) rfl rfl ?_
  rintro _ _ _ ⟨B2, rfl, rfl, rfl⟩
  refine SL.y (op_assign rfl) rfl rfl ?_
  refine SL.nil ?_
  refine T.seq ?_
  refine T.region ?_
  refine SL.y (op_fieldAddr fa82_2 rfl) rfl rfl ?_
  first | refine SL.y (op_load ty9 rfl (by repeat constructor) rfl) rfl rfl ?_ | refine SL.y (op_loadX ty9 rfl (by assumption) rfl) rfl rfl ?_
  refine SL.y (op_fieldAddr fa82_2 rfl) rfl rfl ?_
  first | refine SL.y (op_load ty9 rfl (by repeat constructor) rfl) rfl rfl ?_ | refine SL.y (op_loadX ty9 rfl (by assumption) rfl) rfl rfl ?_
  refine SL.y (op_eqlStrD rfl rfl) rfl rfl ?_
  refine SL.y (op_assign rfl) rfl rfl ?_
  refine SL.nil ?_
  refine T.ret1 rfl (ResIs.tmp rfl) ?_
  rfl
theorem idxC_spec {X : PMap} {v : Value} {B : Nat} {c : Con} {w1 w2 w3 w4 : Value} {cs : List Con} (h : ConsR X v cs) (hB : Blk X B (rc7 (c.enf, c.kind, c.name, w1, w2, w3, w4))) (hl : cs.length < 1000) : Spec Tryz.prog 85 [v, .func (.func 40) #[] #[.pointer (some ⟨B, 0, none⟩)]] X fun u _ => ∃ k : Int, u = .int .i64 k ∧ (0 ≤ k ↔ c.name ∈ cs.map (·.name)) := by
  obtain ⟨rows, hr, hrl, hrow⟩ := h
  obtain ⟨A, cp, rfl⟩ := hr.form
  refine Spec.enter Tryz.func85 rfl Tryz.ntmps85 rfl ?_
  intro w0 hw0
  refine T.seq ?_
  refine T.region ?_
  refine SL.y (op_assign (v := .int .i64 ((0 : Nat) : Int)) rfl) rfl rfl ?_
  refine SL.nil ?_
  refine T.seq ?_
  refine T.seq ?_
  refine T.region ?_
  refine SL.y (op_move rfl) rfl rfl ?_
  refine SL.y (op_lenS Tryz.underlying24 rfl) rfl rfl ?_
  refine SL.y (op_move (v := .int .i64 ((0 : Nat) : Int)) rfl) rfl rfl ?_
  refine SL.nil ?_
  refine T.block ?_
  refine T.loopW (fun m env own X' => ∃ i : Nat, m = rows.length - i ∧ i ≤ rows.length ∧ X.le X' ∧ (∀ q d, q < i → cs[q]? = some d → d.name ≠ c.name) ∧ env = [(0, .slice A rows.length cp), (1, .func (.func 40) #[] #[.pointer (some ⟨B, 0, none⟩)]), (7, .int .i64 (rows.length : Int)), (8, .int .i64 (i : Int))] ∧ own = []) rows.length ⟨0, by simp, by omega, PMap.le_refl _, fun q x hq => absurd hq (by omega), rfl, rfl⟩ (by repeat (first | exact Sub.nil | refine Sub.cons rfl ?_)) ?_
  rintro m _ _ X1 ⟨i, rfl, hi, hX1, hne, rfl, rfl⟩
  rcases Nat.lt_or_ge i rows.length with hil | hil
  · obtain ⟨r2, hr2⟩ : ∃ r2, rows[i]? = some r2 := ⟨_, List.getElem?_eq_getElem hil⟩
    obtain ⟨d, hd2⟩ : ∃ d, cs[i]? = some d := ⟨_, List.getElem?_eq_getElem (by omega)⟩
    have hrc := hrow i d r2 hd2 hr2
    obtain ⟨b, pre, rfl, hbA⟩ := hr.blk (by omega)
    have hf := hrc.2.2.2.form
    have hnm := hrc.2.2.1
    refine T.seq ?_
    refine T.region ?_
    first | refine SL.y (op_lssT rfl rfl (by omega)) rfl rfl ?_ | refine SL.y (op_lssF rfl rfl (by omega)) rfl rfl ?_ | refine SL.y (op_lss rfl rfl) rfl rfl ?_
    refine SL.nil ?_
    refine T.seq ?_
    refine T.condT rfl ?_
    refine T.skip ?_
    refine T.seq ?_
    refine T.block ?_
    refine T.seq ?_
    refine T.region ?_
    refine SL.y (op_move rfl) rfl rfl ?_
    refine SL.y (op_assign rfl) rfl rfl ?_
    refine SL.nil ?_
    refine T.seq ?_
    refine T.region ?_
    refine SL.y (op_move rfl) rfl rfl ?_
    refine SL.y (op_move rfl) rfl rfl ?_
    refine SL.y (op_move rfl) rfl rfl ?_
    first | refine SL.y (op_indexN Tryz.underlying24 ty82 rfl rfl (by omega)) rfl rfl ?_ | refine SL.y (op_index Tryz.underlying24 ty82 rfl rfl (by omega) (by omega)) rfl rfl ?_
    refine SL.y (op_loadX ty82 rfl (hbA.mono hX1) (row_read rc7_len hr2 (by omega))) rfl rfl ?_
    refine SL.x (op_call en40 rfl (vs := [_]) rfl (sameName_spec (hB.mono hX1) hf)) rfl rfl ?_
    rintro _ _ X2 ⟨rfl, hX2, rfl⟩
    rw [hnm]
    by_cases hc : d.name = c.name
    · rw [decide_eq_true hc]
      refine SL.nil ?_
      refine T.condT rfl ?_
      refine T.seq ?_
      refine T.region ?_
      refine SL.y (op_move rfl) rfl rfl ?_
      refine SL.y (op_assign rfl) rfl rfl ?_
      refine SL.nil ?_
      refine T.ret1 rfl (ResIs.tmp rfl) ?_
      exact ⟨_, rfl, fun _ => List.mem_map.2 ⟨d, List.mem_of_getElem? hd2, hc⟩, fun _ => by omega⟩
    · rw [decide_eq_false hc]
      refine SL.nil ?_
      refine T.condF rfl ?_
      refine T.skip ?_
      refine T.blk ?_
      refine T.region ?_
      first | refine SL.y (op_addN (q := 1) rfl rfl (by omega)) rfl rfl ?_ | refine SL.y (op_add rfl rfl (by omega) (by omega)) rfl rfl ?_ | refine SL.y (op_addW rfl rfl) rfl rfl ?_
      refine SL.y (op_move rfl) rfl rfl ?_
      refine SL.nil ?_
      have hne2 : ∀ (q : Nat) (y : Con), q < i + 1 → cs[q]? = some y → y.name ≠ c.name := fun q y hq hy => by
        rcases Nat.lt_or_ge q i with h1 | h1
        · exact hne q y h1 hy
        · obtain rfl : q = i := by omega
          rw [hd2] at hy; cases hy; exact hc
      exact T.backW (rows.length - (i + 1)) (by omega) ⟨i + 1, rfl, by omega, hX1.trans' hX2, hne2, rfl, rfl⟩ (by repeat (first | exact Sub.nil | refine Sub.cons rfl ?_))
  · refine T.seq ?_
    refine T.region ?_
    first | refine SL.y (op_lssT rfl rfl (by omega)) rfl rfl ?_ | refine SL.y (op_lssF rfl rfl (by omega)) rfl rfl ?_ | refine SL.y (op_lss rfl rfl) rfl rfl ?_
    refine SL.nil ?_
    refine T.seq ?_
    refine T.condF rfl ?_
    refine T.exit (T.exitCode (T.exitCut (T.exitBlk ?_)))
    refine T.seq ?_
    refine T.region ?_
    refine SL.y (op_assign rfl) rfl rfl ?_
    refine SL.nil ?_
    refine T.ret1 rfl (ResIs.tmp rfl) ?_
    refine ⟨_, rfl, fun h => absurd h (by omega), fun hm => ?_⟩
    obtain ⟨d, hd, hdn⟩ := List.mem_map.1 hm
    obtain ⟨q, hq⟩ := List.mem_iff_getElem?.1 hd
    have h1 := (List.getElem?_eq_some_iff.1 hq).1
    exact absurd hdn (hne q d (by omega) hq)
theorem conC_spec {X : PMap} {v : Value} {B : Nat} {c : Con} {w1 w2 w3 w4 : Value} {cs : List Con} (h : ConsR X v cs) (hB : Blk X B (rc7 (c.enf, c.kind, c.name, w1, w2, w3, w4))) (hl : cs.length < 1000) : Spec Tryz.prog 39 [v, .func (.func 40) #[] #[.pointer (some ⟨B, 0, none⟩)]] X fun u _ => u = .bool (decide (c.name ∈ cs.map (·.name))) := by
  obtain ⟨A, cp, rfl⟩ : ∃ A cp, v = .slice A cs.length cp := by
    obtain ⟨rows, hr, hrl, _⟩ := h
    obtain ⟨A, cp, rfl⟩ := hr.form
    exact ⟨A, cp, by rw [hrl]⟩
  refine Spec.enter Tryz.func39 rfl Tryz.ntmps39 rfl ?_
  intro w0 hw0
  refine T.seq ?_
  refine T.region ?_
  refine SL.y (op_assign rfl) rfl rfl ?_
  refine SL.nil ?_
  refine T.seq ?_
  refine T.region ?_
  refine SL.y (op_move rfl) rfl rfl ?_
  refine SL.y (op_move rfl) rfl rfl ?_
  refine SL.x (op_callF en85 (vs := [_, _]) rfl (idxC_spec h hB hl)) rfl rfl ?_
  rintro _ _ X1 ⟨rfl, hX1, k, rfl, hk⟩
  refine SL.y (op_geq rfl rfl) rfl rfl ?_
  refine SL.y (op_assign rfl) rfl rfl ?_
  refine SL.nil ?_
  refine T.ret1 rfl (ResIs.tmp rfl) ?_
  simp only [hk]
theorem chkCs_at {cs : List Con} {i : Nat} {c : Con} (h0 : chkCs [] (cs.take i) = 0) (hc : cs[i]? = some c) (hz : errC ((cs.take i).map (·.name)) c ≠ 0) : chkCs [] cs = errC ((cs.take i).map (·.name)) c := by
  obtain ⟨h1, h2⟩ := List.getElem?_eq_some_iff.1 hc
  have e : cs = cs.take i ++ c :: cs.drop (i + 1) := by rw [← h2, ← List.drop_eq_getElem_cons h1, List.take_append_drop]
  have : chkCs [] (cs.take i ++ c :: cs.drop (i + 1)) = errC ((cs.take i).map (·.name)) c := by
    rw [chkCs_app, if_neg (by simp [h0]), List.nil_append, chkCs, if_pos hz]
  rwa [← e] at this
theorem chkCs_snoc {cs : List Con} {i : Nat} {c : Con} (h0 : chkCs [] (cs.take i) = 0) (hc : cs[i]? = some c) (hz : errC ((cs.take i).map (·.name)) c = 0) : chkCs [] (cs.take (i + 1)) = 0 := by
  rw [take_snoc hc, chkCs_app, if_neg (by simp [h0]), List.nil_append, chkCs, if_neg (fun h => h hz), chkCs]
theorem check_spec {M : Nat} {X : PMap} (hI : ItoaOk M X) {v : Value} {cs : List Con} (h : ConsR X v cs) (hl : cs.length ≤ 40) (h0 : 0 < cs.length) (hw : wtC cs < 15000000) (hww : ∀ c ∈ cs, wtE c.ex < 900000) (hn : ∀ c ∈ cs, chkE c.ex = 0 → numE M c.ex)
    : Spec Tryz.prog 16 [v] X fun u _ => u = .int .i64 (chkAll cs) := by
  have hcs := h
  obtain ⟨rows, hr, hrl, hrow⟩ := h
  obtain ⟨A, cp, rfl⟩ := hr.form
  have hcap := hr.cap (by omega)
  by_cases h32 : 32 < cs.length
  · refine Spec.enter Tryz.func16 rfl Tryz.ntmps16 rfl ?_
    intro w0 hw0
    refine T.seq ?_
    refine T.region ?_
    refine SL.y (op_assign (v := .int .i64 ((0 : Nat) : Int)) rfl) rfl rfl ?_
    refine SL.nil ?_
    refine T.seq ?_
    refine T.seq ?_
    refine T.region ?_
    refine SL.y (op_move rfl) rfl rfl ?_
    refine SL.y (op_lenS Tryz.underlying24 rfl) rfl rfl ?_
    first | refine SL.y (op_gtrT rfl rfl (by omega)) rfl rfl ?_ | refine SL.y (op_gtrF rfl rfl (by omega)) rfl rfl ?_ | refine SL.y (op_gtr rfl rfl) rfl rfl ?_
    refine SL.nil ?_
    refine T.condT rfl ?_
    refine T.seq ?_
    refine T.region ?_
    refine SL.y (op_assign (v := .int .i64 ((3 : Nat) : Int)) rfl) rfl rfl ?_
    refine SL.nil ?_
    refine T.ret1 rfl (ResIs.tmp rfl) ?_
    rw [chkAll, if_pos h32]; rfl
  refine Spec.enter Tryz.func16 rfl Tryz.ntmps16 rfl ?_
  intro w0 hw0
  refine T.seq ?_
  refine T.region ?_
  refine SL.y (op_assign (v := .int .i64 ((0 : Nat) : Int)) rfl) rfl rfl ?_
  refine SL.nil ?_
  refine T.seq ?_
  refine T.seq ?_
  refine T.region ?_
  refine SL.y (op_move rfl) rfl rfl ?_
  refine SL.y (op_lenS Tryz.underlying24 rfl) rfl rfl ?_
  first | refine SL.y (op_gtrT rfl rfl (by omega)) rfl rfl ?_ | refine SL.y (op_gtrF rfl rfl (by omega)) rfl rfl ?_ | refine SL.y (op_gtr rfl rfl) rfl rfl ?_
  refine SL.nil ?_
  refine T.condF rfl ?_
  refine T.skip ?_
  refine T.seq ?_
  refine T.seq ?_
  refine T.region ?_
  refine SL.y (op_move rfl) rfl rfl ?_
  refine SL.y (op_lenS Tryz.underlying24 rfl) rfl rfl ?_
  refine SL.y (op_move (v := .int .i64 ((0 : Nat) : Int)) rfl) rfl rfl ?_
  refine SL.nil ?_
  refine T.block ?_
  refine T.loopW (fun m env own X' => ∃ i : Nat, m = rows.length - i ∧ i ≤ rows.length ∧ X.le X' ∧ chkCs [] (cs.take i) = 0 ∧ env = [(0, .slice A rows.length cp), (9, .slice A rows.length cp), (10, .int .i64 (rows.length : Int)), (11, .int .i64 (i : Int))] ∧ own = []) rows.length ⟨0, by simp, by omega, PMap.le_refl _, by simp [chkCs], rfl, rfl⟩ (by repeat (first | exact Sub.nil | refine Sub.cons rfl ?_)) ?_
  rintro m _ _ X1 ⟨i, rfl, hi, hX1, hz0, rfl, rfl⟩
  rcases Nat.lt_or_ge i rows.length with hil | hil
  · obtain ⟨r2, hr2⟩ : ∃ r2, rows[i]? = some r2 := ⟨_, List.getElem?_eq_getElem hil⟩
    obtain ⟨c, hc2⟩ : ∃ c, cs[i]? = some c := ⟨_, List.getElem?_eq_getElem (by omega)⟩
    have hmc := List.mem_of_getElem? hc2
    have hrc := hrow i c r2 hc2 hr2
    have htk : ConsR X (.slice (slA A cp 0 7) i cp) (cs.take i) := ⟨rows.take i, hr.take (sz := 7) (by omega), by rw [List.length_take, List.length_take]; omega, fun q d r a b => by
      rw [List.getElem?_take] at a b
      split at a
      · rename_i hq
        rw [if_pos hq] at b
        exact hrow q d r a b
      · cases a⟩
    obtain ⟨bA, pre, rfl, hbA⟩ := hr.blk (by omega)
    obtain ⟨o8, n8, a8, b8, l8, c8, l9, c9, rfl⟩ := hrc.form
    have hex := hrc.2.2.2
    simp only at hex
    have hwe := hww c hmc
    have hlt : (cs.take i).length < 1000 := by rw [List.length_take]; omega
    refine T.seq ?_
    refine T.region ?_
    first | refine SL.y (op_lssT rfl rfl (by omega)) rfl rfl ?_ | refine SL.y (op_lssF rfl rfl (by omega)) rfl rfl ?_ | refine SL.y (op_lss rfl rfl) rfl rfl ?_
    refine SL.nil ?_
    refine T.seq ?_
    refine T.condT rfl ?_
    refine T.skip ?_
    refine T.seq ?_
    refine T.block ?_
    refine T.seq ?_
    refine T.region ?_
    refine SL.y (op_move rfl) rfl rfl ?_
    first | refine SL.y (op_indexN Tryz.underlying24 ty82 rfl rfl (by omega)) rfl rfl ?_ | refine SL.y (op_index Tryz.underlying24 ty82 rfl rfl (by omega) (by omega)) rfl rfl ?_
    refine SL.y (op_loadX (v := .agg #[.bool c.enf, .int .u8 (c.kind : Int), .string c.name, .int .u8 (o8 : Int), .int .i64 n8, .slice a8 l8 c8, .slice b8 l9 c9]) ty82 rfl (hbA.mono hX1) (row_read rc7_len hr2 (by omega))) rfl rfl ?_
    by_cases hk1 : c.kind < 1
    · have he : errC ((cs.take i).map (·.name)) c = 1 := by rw [errC, if_pos (.inl hk1)]
      refine SL.x (op_alloc z82) rfl rfl ?_
      rintro _ _ _ ⟨B4, rfl, rfl, rfl⟩
      refine SL.y (op_assign rfl) rfl rfl ?_
      refine SL.x (op_store ty82 rfl rfl (by repeat constructor) rfl rfl rfl) rfl rfl ?_
      rintro _ _ _ ⟨rfl, rfl⟩
      refine SL.nil ?_
      refine T.seq ?_
      refine T.block ?_
      refine T.seq ?_
      refine T.region ?_
      refine SL.y (op_fieldAddr fa82_1 rfl) rfl rfl ?_
      first | refine SL.y (op_load ty80 rfl (by repeat constructor) rfl) rfl rfl ?_ | refine SL.y (op_loadX ty80 rfl (by assumption) rfl) rfl rfl ?_
      first | refine SL.y (op_lssT rfl rfl (by omega)) rfl rfl ?_ | refine SL.y (op_lssF rfl rfl (by omega)) rfl rfl ?_ | refine SL.y (op_lss rfl rfl) rfl rfl ?_
      refine SL.y (op_move rfl) rfl rfl ?_
      first | refine SL.skip rfl rfl ?_ | refine SL.y (op_fieldAddr fa82_1 rfl) rfl rfl ?_
      first | refine SL.skip rfl rfl ?_ | refine SL.y (op_load ty80 rfl (by repeat constructor) rfl) rfl rfl ?_ | refine SL.y (op_loadX ty80 rfl (by assumption) rfl) rfl rfl ?_
      first | refine SL.skip rfl rfl ?_ | refine SL.y (op_gtrT rfl rfl (by omega)) rfl rfl ?_ | refine SL.y (op_gtrF rfl rfl (by omega)) rfl rfl ?_ | refine SL.y (op_gtr rfl rfl) rfl rfl ?_
      first | refine SL.y (op_pickT rfl rfl) rfl rfl ?_ | refine SL.y (op_pickF rfl rfl) rfl rfl ?_ | refine SL.y (op_pickB rfl rfl rfl) rfl rfl ?_
      refine SL.y (op_assign rfl) rfl rfl ?_
      refine SL.nil ?_
      refine T.condT rfl ?_
      refine T.seq ?_
      refine T.region ?_
      refine SL.y (op_assign (v := .int .i64 ((1 : Nat) : Int)) rfl) rfl rfl ?_
      refine SL.nil ?_
      refine T.ret1 rfl (ResIs.tmp rfl) ?_
      rw [chkAll, if_neg h32, chkCs_at hz0 hc2 (by rw [he]; decide), he]; rfl
    by_cases hk3 : 3 < c.kind
    · have he : errC ((cs.take i).map (·.name)) c = 1 := by rw [errC, if_pos (.inr hk3)]
      refine SL.x (op_alloc z82) rfl rfl ?_
      rintro _ _ _ ⟨B4, rfl, rfl, rfl⟩
      refine SL.y (op_assign rfl) rfl rfl ?_
      refine SL.x (op_store ty82 rfl rfl (by repeat constructor) rfl rfl rfl) rfl rfl ?_
      rintro _ _ _ ⟨rfl, rfl⟩
      refine SL.nil ?_
      refine T.seq ?_
      refine T.block ?_
      refine T.seq ?_
      refine T.region ?_
      refine SL.y (op_fieldAddr fa82_1 rfl) rfl rfl ?_
      first | refine SL.y (op_load ty80 rfl (by repeat constructor) rfl) rfl rfl ?_ | refine SL.y (op_loadX ty80 rfl (by assumption) rfl) rfl rfl ?_
      first | refine SL.y (op_lssT rfl rfl (by omega)) rfl rfl ?_ | refine SL.y (op_lssF rfl rfl (by omega)) rfl rfl ?_ | refine SL.y (op_lss rfl rfl) rfl rfl ?_
      refine SL.y (op_move rfl) rfl rfl ?_
      first | refine SL.skip rfl rfl ?_ | refine SL.y (op_fieldAddr fa82_1 rfl) rfl rfl ?_
      first | refine SL.skip rfl rfl ?_ | refine SL.y (op_load ty80 rfl (by repeat constructor) rfl) rfl rfl ?_ | refine SL.y (op_loadX ty80 rfl (by assumption) rfl) rfl rfl ?_
      first | refine SL.skip rfl rfl ?_ | refine SL.y (op_gtrT rfl rfl (by omega)) rfl rfl ?_ | refine SL.y (op_gtrF rfl rfl (by omega)) rfl rfl ?_ | refine SL.y (op_gtr rfl rfl) rfl rfl ?_
      first | refine SL.y (op_pickT rfl rfl) rfl rfl ?_ | refine SL.y (op_pickF rfl rfl) rfl rfl ?_ | refine SL.y (op_pickB rfl rfl rfl) rfl rfl ?_
      refine SL.y (op_assign rfl) rfl rfl ?_
      refine SL.nil ?_
      refine T.condT rfl ?_
      refine T.seq ?_
      refine T.region ?_
      refine SL.y (op_assign (v := .int .i64 ((1 : Nat) : Int)) rfl) rfl rfl ?_
      refine SL.nil ?_
      refine T.ret1 rfl (ResIs.tmp rfl) ?_
      rw [chkAll, if_neg h32, chkCs_at hz0 hc2 (by rw [he]; decide), he]; rfl
    have hk : ¬(c.kind < 1 ∨ 3 < c.kind) := fun h => by omega
    refine SL.x (op_alloc z82) rfl rfl ?_
    rintro _ _ _ ⟨B4, rfl, rfl, rfl⟩
    refine SL.y (op_assign rfl) rfl rfl ?_
    refine SL.x (op_store ty82 rfl rfl (by repeat constructor) rfl rfl rfl) rfl rfl ?_
    rintro _ _ _ ⟨rfl, rfl⟩
    refine SL.nil ?_
    refine T.seq ?_
    refine T.block ?_
    refine T.seq ?_
    refine T.region ?_
    refine SL.y (op_fieldAddr fa82_1 rfl) rfl rfl ?_
    first | refine SL.y (op_load ty80 rfl (by repeat constructor) rfl) rfl rfl ?_ | refine SL.y (op_loadX ty80 rfl (by assumption) rfl) rfl rfl ?_
    first | refine SL.y (op_lssT rfl rfl (by omega)) rfl rfl ?_ | refine SL.y (op_lssF rfl rfl (by omega)) rfl rfl ?_ | refine SL.y (op_lss rfl rfl) rfl rfl ?_
    refine SL.y (op_move rfl) rfl rfl ?_
    first | refine SL.skip rfl rfl ?_ | refine SL.y (op_fieldAddr fa82_1 rfl) rfl rfl ?_
    first | refine SL.skip rfl rfl ?_ | refine SL.y (op_load ty80 rfl (by repeat constructor) rfl) rfl rfl ?_ | refine SL.y (op_loadX ty80 rfl (by assumption) rfl) rfl rfl ?_
    first | refine SL.skip rfl rfl ?_ | refine SL.y (op_gtrT rfl rfl (by omega)) rfl rfl ?_ | refine SL.y (op_gtrF rfl rfl (by omega)) rfl rfl ?_ | refine SL.y (op_gtr rfl rfl) rfl rfl ?_
    first | refine SL.y (op_pickT rfl rfl) rfl rfl ?_ | refine SL.y (op_pickF rfl rfl) rfl rfl ?_ | refine SL.y (op_pickB rfl rfl rfl) rfl rfl ?_
    refine SL.y (op_assign rfl) rfl rfl ?_
    refine SL.nil ?_
    refine T.pub B4 (by repeat constructor) ?_
    intro X2 hX2 hB4 _
    have hB4 : Blk X2 B4 (rc7 (c.enf, c.kind, c.name, .int .u8 (o8 : Int), .int .i64 n8, .slice a8 l8 c8, .slice b8 l9 c9)) := hB4
    refine T.condF rfl ?_
    refine T.seq ?_
    refine T.region ?_
    refine SL.y (op_fieldAddr fa82_2 rfl) rfl rfl ?_
    first | refine SL.y (op_load ty9 rfl (by repeat constructor) rfl) rfl rfl ?_ | refine SL.y (op_loadX ty9 rfl (by assumption) rfl) rfl rfl ?_
    refine SL.x (op_callF en38 (vs := [_]) rfl (nvalid_spec)) rfl rfl ?_
    rintro _ _ X3 ⟨rfl, hX3, rfl⟩
    by_cases hv : validS c.name
    case neg =>
      have he : errC ((cs.take i).map (·.name)) c = 9 := by rw [errC, if_neg hk, if_pos hv]
      rw [decide_eq_false hv]
      refine SL.y (op_not rfl) rfl rfl ?_
      refine SL.y (op_assign rfl) rfl rfl ?_
      refine SL.nil ?_
      refine T.condT rfl ?_
      refine T.seq ?_
      refine T.region ?_
      refine SL.y (op_assign (v := .int .i64 ((9 : Nat) : Int)) rfl) rfl rfl ?_
      refine SL.nil ?_
      refine T.ret1 rfl (ResIs.tmp rfl) ?_
      rw [chkAll, if_neg h32, chkCs_at hz0 hc2 (by rw [he]; decide), he]; rfl
    rw [decide_eq_true hv]
    refine SL.y (op_not rfl) rfl rfl ?_
    refine SL.y (op_assign rfl) rfl rfl ?_
    refine SL.nil ?_
    refine T.condF rfl ?_
    refine T.seq ?_
    refine T.region ?_
    refine SL.y (op_move rfl) rfl rfl ?_
    refine SL.y (op_move rfl) rfl rfl ?_
    refine SL.y (op_sliceHi (l := i) Tryz.underlying24 ty82 rfl rfl (by omega)) rfl rfl ?_
    refine SL.y (op_makeFunc (vs := []) (us := [_]) rfl rfl) rfl rfl ?_
    have hcall := conC_spec (((htk.mono hX1).mono hX2).mono hX3) (hB4.mono hX3) hlt
    rw [List.length_take, Nat.min_eq_left (by omega)] at hlt
    refine SL.x (op_callF en39 (vs := [_, _]) rfl (hcall)) rfl rfl ?_
    rintro _ _ X4 ⟨rfl, hX4, rfl⟩
    by_cases hm : c.name ∈ (cs.take i).map (·.name)
    · have he : errC ((cs.take i).map (·.name)) c = 5 := by rw [errC, if_neg hk, if_neg (fun h => h hv), if_pos hm]
      rw [decide_eq_true hm]
      refine SL.y (op_assign rfl) rfl rfl ?_
      refine SL.nil ?_
      refine T.condT rfl ?_
      refine T.seq ?_
      refine T.region ?_
      refine SL.y (op_assign (v := .int .i64 ((5 : Nat) : Int)) rfl) rfl rfl ?_
      refine SL.nil ?_
      refine T.ret1 rfl (ResIs.tmp rfl) ?_
      rw [chkAll, if_neg h32, chkCs_at hz0 hc2 (by rw [he]; decide), he]; rfl
    rw [decide_eq_false hm]
    have he : errC ((cs.take i).map (·.name)) c = chkE c.ex := by rw [errC, if_neg hk, if_neg (fun h => h hv), if_neg hm]
    have hX14 := ((hX1.trans' hX2).trans' hX3).trans' hX4
    refine SL.y (op_assign rfl) rfl rfl ?_
    refine SL.nil ?_
    refine T.condF rfl ?_
    refine T.skip ?_
    refine T.blk ?_
    refine T.seq ?_
    refine T.region ?_
    refine SL.y (op_fieldAddr fa82_3 rfl) rfl rfl ?_
    refine SL.y (op_loadX ty40 rfl ((hB4.mono hX3).mono hX4) rfl) rfl rfl ?_
    refine SL.x (op_callF en25 (vs := [_]) rfl (chk_spec (by omega) (hex.mono hX14))) rfl rfl ?_
    rintro _ _ X5 ⟨rfl, hX5, rfl⟩
    by_cases hz : chkE c.ex = 0
    · skip
      refine SL.y (op_assign rfl) rfl rfl ?_
      refine SL.nil ?_
      refine T.seq ?_
      refine T.region ?_
      refine SL.y (op_move rfl) rfl rfl ?_
      first | refine SL.y (op_neqT rfl rfl (by omega)) rfl rfl ?_ | refine SL.y (op_neqF rfl rfl (by omega)) rfl rfl ?_ | refine SL.y (op_neq rfl rfl) rfl rfl ?_
      refine SL.nil ?_
      refine T.condF rfl ?_
      refine T.skip ?_
      refine T.blk ?_
      refine T.region ?_
      first | refine SL.y (op_addN (q := 1) rfl rfl (by omega)) rfl rfl ?_ | refine SL.y (op_add rfl rfl (by omega) (by omega)) rfl rfl ?_ | refine SL.y (op_addW rfl rfl) rfl rfl ?_
      refine SL.y (op_move rfl) rfl rfl ?_
      refine SL.nil ?_
      exact T.backW (rows.length - (i + 1)) (by omega) ⟨i + 1, rfl, by omega, hX14.trans' hX5, chkCs_snoc hz0 hc2 (he.trans hz), rfl, rfl⟩ (by repeat (first | exact Sub.nil | refine Sub.cons rfl ?_))
    · refine SL.y (op_assign rfl) rfl rfl ?_
      refine SL.nil ?_
      refine T.seq ?_
      refine T.region ?_
      refine SL.y (op_move rfl) rfl rfl ?_
      first | refine SL.y (op_neqT rfl rfl (by omega)) rfl rfl ?_ | refine SL.y (op_neqF rfl rfl (by omega)) rfl rfl ?_ | refine SL.y (op_neq rfl rfl) rfl rfl ?_
      refine SL.nil ?_
      refine T.condT rfl ?_
      refine T.seq ?_
      refine T.region ?_
      refine SL.y (op_move rfl) rfl rfl ?_
      refine SL.y (op_assign rfl) rfl rfl ?_
      refine SL.nil ?_
      refine T.ret1 rfl (ResIs.tmp rfl) ?_
      rw [chkAll, if_neg h32, chkCs_at hz0 hc2 (by rw [he]; exact hz), he, if_pos hz]
  · obtain rfl : i = rows.length := by omega
    have e : cs.take rows.length = cs := List.take_of_length_le (by omega)
    rw [e] at hz0
    have hll := linesL_len (cs := cs) fun c hc => (chkCs_mem hz0 c hc).2.2.1.2.1
    have hsz : (⟨(linesL cs).toArray⟩ : ByteArray).size = (linesL cs).length := by show (linesL cs).toArray.size = _; simp
    refine T.seq ?_
    refine T.region ?_
    first | refine SL.y (op_lssT rfl rfl (by omega)) rfl rfl ?_ | refine SL.y (op_lssF rfl rfl (by omega)) rfl rfl ?_ | refine SL.y (op_lss rfl rfl) rfl rfl ?_
    refine SL.nil ?_
    refine T.seq ?_
    refine T.condF rfl ?_
    refine T.exit (T.exitCode (T.exitCut (T.exitBlk ?_)))
    refine T.seq ?_
    refine T.seq ?_
    refine T.region ?_
    refine SL.y (op_move rfl) rfl rfl ?_
    refine SL.x (op_callF en37 (vs := [_]) rfl (lines_spec (hI.mono hX1) (hcs.mono hX1) hl h0 hw hww (fun c hc => hn c hc (chkCs_mem hz0 c hc).2.2.2) (chkCs_mem hz0))) rfl rfl ?_
    rintro _ _ X5 ⟨rfl, hX5, rfl⟩
    by_cases h8 : 8000 < (linesL cs).length
    · skip
      refine SL.y (op_lenStr Tryz.underlying9 rfl) rfl rfl ?_
      first | refine SL.y (op_gtrT rfl rfl (by omega)) rfl rfl ?_ | refine SL.y (op_gtrF rfl rfl (by omega)) rfl rfl ?_ | refine SL.y (op_gtr rfl rfl) rfl rfl ?_
      refine SL.nil ?_
      refine T.condT rfl ?_
      refine T.seq ?_
      refine T.region ?_
      refine SL.y (op_assign (v := .int .i64 ((3 : Nat) : Int)) rfl) rfl rfl ?_
      refine SL.nil ?_
      refine T.ret1 rfl (ResIs.tmp rfl) ?_
      rw [chkAll, if_neg h32, if_neg (by simp [hz0]), if_pos h8]; rfl
    · refine SL.y (op_lenStr Tryz.underlying9 rfl) rfl rfl ?_
      first | refine SL.y (op_gtrT rfl rfl (by omega)) rfl rfl ?_ | refine SL.y (op_gtrF rfl rfl (by omega)) rfl rfl ?_ | refine SL.y (op_gtr rfl rfl) rfl rfl ?_
      refine SL.nil ?_
      refine T.condF rfl ?_
      refine T.skip ?_
      refine T.seq ?_
      refine T.region ?_
      refine SL.y (op_assign (v := .int .i64 ((0 : Nat) : Int)) rfl) rfl rfl ?_
      refine SL.nil ?_
      refine T.ret1 rfl (ResIs.tmp rfl) ?_
      rw [chkAll, if_neg h32, if_neg (by simp [hz0]), if_neg h8]; rfl
theorem cprint_spec {M : Nat} {X : PMap} (hI : ItoaOk M X) {v : Value} {cs : List Con} (h : ConsR X v cs) (hl : cs.length ≤ 40) (h0 : 0 < cs.length) (hw : wtC cs < 15000000) (hww : ∀ c ∈ cs, wtE c.ex < 900000) (hn : ∀ c ∈ cs, chkE c.ex = 0 → numE M c.ex)
    : Spec Tryz.prog 15 [v] X fun u _ => u = .string (if chkAll cs = 0 then ⟨(linesL cs).toArray⟩ else ⟨#[]⟩) := by
  obtain ⟨A, cp, rfl⟩ : ∃ A cp, v = .slice A cs.length cp := by
    obtain ⟨rows, hr, hrl, _⟩ := h
    obtain ⟨A, cp, rfl⟩ := hr.form
    exact ⟨A, cp, by rw [hrl]⟩
  by_cases hc : chkAll cs = 0
  · have hz0 : chkCs [] cs = 0 := by
      unfold chkAll at hc
      split at hc
      · cases hc
      · split at hc
        · rename_i h2; exact absurd hc h2
        · rename_i h2; exact Decidable.not_not.1 h2
    refine Spec.enter Tryz.func15 rfl Tryz.ntmps15 rfl ?_
    intro w0 hw0
    refine T.seq ?_
    refine T.region ?_
    refine SL.y (op_assign rfl) rfl rfl ?_
    refine SL.nil ?_
    refine T.seq ?_
    refine T.seq ?_
    refine T.region ?_
    refine SL.y (op_move rfl) rfl rfl ?_
    refine SL.x (op_callF en16 (vs := [_]) rfl (check_spec hI h hl h0 hw hww hn)) rfl rfl ?_
    rintro _ _ X1 ⟨rfl, hX1, rfl⟩
    first | refine SL.y (op_neqT rfl rfl (by omega)) rfl rfl ?_ | refine SL.y (op_neqF rfl rfl (by omega)) rfl rfl ?_ | refine SL.y (op_neq rfl rfl) rfl rfl ?_
    refine SL.nil ?_
    refine T.condF rfl ?_
    refine T.skip ?_
    refine T.seq ?_
    refine T.region ?_
    refine SL.y (op_move rfl) rfl rfl ?_
    refine SL.x (op_callF en37 (vs := [_]) rfl (lines_spec (hI.mono hX1) (h.mono hX1) hl h0 hw hww (fun c hc => hn c hc (chkCs_mem hz0 c hc).2.2.2) (chkCs_mem hz0))) rfl rfl ?_
    rintro _ _ X2 ⟨rfl, hX2, rfl⟩
    refine SL.y (op_assign rfl) rfl rfl ?_
    refine SL.nil ?_
    refine T.ret1 rfl (ResIs.tmp rfl) ?_
    rw [if_pos hc]
  · refine Spec.enter Tryz.func15 rfl Tryz.ntmps15 rfl ?_
    intro w0 hw0
    refine T.seq ?_
    refine T.region ?_
    refine SL.y (op_assign rfl) rfl rfl ?_
    refine SL.nil ?_
    refine T.seq ?_
    refine T.seq ?_
    refine T.region ?_
    refine SL.y (op_move rfl) rfl rfl ?_
    refine SL.x (op_callF en16 (vs := [_]) rfl (check_spec hI h hl h0 hw hww hn)) rfl rfl ?_
    rintro _ _ X1 ⟨rfl, hX1, rfl⟩
    first | refine SL.y (op_neqT rfl rfl (by omega)) rfl rfl ?_ | refine SL.y (op_neqF rfl rfl (by omega)) rfl rfl ?_ | refine SL.y (op_neq rfl rfl) rfl rfl ?_
    refine SL.nil ?_
    refine T.condT rfl ?_
    refine T.seq ?_
    refine T.region ?_
    refine SL.y (op_assign rfl) rfl rfl ?_
    refine SL.nil ?_
    refine T.ret1 rfl (ResIs.tmp rfl) ?_
    rw [if_neg hc]
end Go.Proofs.YtnabbnhefjfegaaGreatDoor
namespace Go.Proofs.YtnabbnhefjfegaaGreatDoor
open Go.Shelf
def lays171_ren : Go.Shelf.Ren := ⟨fun | 171 => 115 | 243 => 148 | 246 => 158 | 283 => 175 | 284 => 176 | 285 => 177 | 286 => 178 | 129 => 174 | 317 => 188 | 318 => 189 | 319 => 190 | 320 => 191 | 337 => 195 | 338 => 196 | n => n, fun | 3 => 3 | 9 => 9 | 2 => 2 | 4 => 4 | 171 => 198 | 0 => 0 | 53 => 171 | 37 => 64 | 5 => 5 | 173 => 200 | 212 => 211 | 51 => 168 | 20 => 20 | 213 => 212 | 46 => 131 | 232 => 219 | 233 => 220 | n => n, fun | 17 => 1 | 18 => 2 | 19 => 3 | n => n⟩
theorem lays171 : Go.Proofs.LaysM.n171 Tryz.prog lays171_ren := {
  mixed := by kernel_rfl
  f129 := Tryz.func174.trans (congrArg some (by kernel_rfl))
  f171 := Tryz.func115.trans (congrArg some (by kernel_rfl))
  f243 := Tryz.func148.trans (congrArg some (by kernel_rfl))
  f246 := Tryz.func158.trans (congrArg some (by kernel_rfl))
  f283 := Tryz.func175.trans (congrArg some (by kernel_rfl))
  f284 := Tryz.func176.trans (congrArg some (by kernel_rfl))
  f285 := Tryz.func177.trans (congrArg some (by kernel_rfl))
  f286 := Tryz.func178.trans (congrArg some (by kernel_rfl))
  f317 := Tryz.func188.trans (congrArg some (by kernel_rfl))
  f318 := Tryz.func189.trans (congrArg some (by kernel_rfl))
  f319 := Tryz.func190.trans (congrArg some (by kernel_rfl))
  f320 := Tryz.func191.trans (congrArg some (by kernel_rfl))
  f337 := Tryz.func195.trans (congrArg some (by kernel_rfl))
  f338 := Tryz.func196.trans (congrArg some (by kernel_rfl))
  t0 := Tryz.underlying0
  a0 := Tryz.isAgg0
  z0 := Tryz.sizeOf0
  v0 := Tryz.zeroValue0
  t2 := Tryz.underlying2
  a2 := Tryz.isAgg2
  z2 := Tryz.sizeOf2
  v2 := Tryz.zeroValue2
  t3 := Tryz.underlying3
  a3 := Tryz.isAgg3
  z3 := Tryz.sizeOf3
  v3 := Tryz.zeroValue3
  t4 := Tryz.underlying4
  a4 := Tryz.isAgg4
  z4 := Tryz.sizeOf4
  v4 := Tryz.zeroValue4
  t5 := Tryz.underlying5
  a5 := Tryz.isAgg5
  z5 := Tryz.sizeOf5
  v5 := Tryz.zeroValue5
  t9 := Tryz.underlying9
  a9 := Tryz.isAgg9
  z9 := Tryz.sizeOf9
  v9 := Tryz.zeroValue9
  t20 := Tryz.underlying20
  a20 := Tryz.isAgg20
  z20 := Tryz.sizeOf20
  v20 := Tryz.zeroValue20
  t37 := Tryz.underlying64
  a37 := Tryz.isAgg64
  z37 := Tryz.sizeOf64
  v37 := Tryz.zeroValue64
  t46 := Tryz.underlying131
  a46 := Tryz.isAgg131
  z46 := Tryz.sizeOf131
  v46 := Tryz.zeroValue131
  t51 := Tryz.underlying168
  a51 := Tryz.isAgg168
  z51 := Tryz.sizeOf168
  v51 := Tryz.zeroValue168
  t53 := Tryz.underlying171
  a53 := Tryz.isAgg171
  z53 := Tryz.sizeOf171
  v53 := Tryz.zeroValue171
  t171 := Tryz.underlying198
  a171 := Tryz.isAgg198
  z171 := Tryz.sizeOf198
  v171 := Tryz.zeroValue198
  t173 := Tryz.underlying200
  a173 := Tryz.isAgg200
  z173 := Tryz.sizeOf200
  v173 := Tryz.zeroValue200
  t212 := Tryz.underlying211
  a212 := Tryz.isAgg211
  z212 := Tryz.sizeOf211
  v212 := Tryz.zeroValue211
  t213 := Tryz.underlying212
  a213 := Tryz.isAgg212
  z213 := Tryz.sizeOf212
  t232 := Tryz.underlying219
  a232 := Tryz.isAgg219
  z232 := Tryz.sizeOf219
  v232 := Tryz.zeroValue219
  t233 := Tryz.underlying220
  a233 := Tryz.isAgg220
  z233 := Tryz.sizeOf220
  v233 := Tryz.zeroValue220
  g17 := by kernel_rfl
  g18 := by kernel_rfl
  g19 := by kernel_rfl
  i0 := by kernel_rfl
  i2 := by kernel_rfl
  i3 := by kernel_rfl
  i4 := by kernel_rfl
  i5 := by kernel_rfl
  i9 := by kernel_rfl
  i20 := by kernel_rfl
  i37 := by kernel_rfl
  i46 := by kernel_rfl
  i51 := by kernel_rfl
  i53 := by kernel_rfl
  i171 := by kernel_rfl
  i173 := by kernel_rfl
  i212 := by kernel_rfl
  i232 := by kernel_rfl
  i233 := by kernel_rfl
  m17 := by kernel_rfl
  m18 := by kernel_rfl
  m19 := by kernel_rfl }
end Go.Proofs.YtnabbnhefjfegaaGreatDoor
namespace Go.Proofs.YtnabbnhefjfegaaGreatDoor
open Go.RowKit
/-- The table of powers of ten lies as its initialiser lays it. -/
def Pow10 (X : PMap) : Prop := ∀ w, PIn X w → Lib.TabIs Tryz.prog w "internal/strconv.uint64pow10" .u64 Lib.pow10Tab
theorem Pow10.mono {X X' : PMap} (h : Pow10 X) (hX : X.le X') : Pow10 X' := fun w hw => h w fun k o hk => hw k o (hX k o hk)
theorem decG_lib : ∀ (f v : Nat), v < 10 ^ f → 0 < f → decG f v = Lib.decDigits v
  | 0, _, _, h => by omega
  | f + 1, v, h, _ => by
    rw [decG, Lib.decDigits]
    by_cases hv : v < 10
    · rw [if_pos hv, dif_pos hv]
    · rw [if_neg hv, dif_neg hv]
      have h1 : v / 10 < 10 ^ f := by rw [Nat.pow_succ] at h; omega
      rw [decG_lib f (v / 10) h1 (Nat.pos_of_ne_zero fun e => by subst e; simp at h1; omega)]
theorem itoaL_spec {X : PMap} (hP : Pow10 X) (v : Nat) (hv : v ≤ 9223372036854775807) : Spec Tryz.prog 115 [.int .i64 (v : Int)] X fun u _ => u = .string (decB v) := fun w hw => by
  have h := Any.strconv_Itoa lays171 (v : Int) (by omega) (by omega) w (hP w hw)
  refine h.mono ?_
  rintro e w' ⟨rfl, k, os, rfl⟩
  have e1 : (⟨(Lib.itoa (v : Int)).toArray⟩ : ByteArray) = decB v := by
    rw [Lib.itoa, if_neg (by omega), Int.toNat_natCast, decB, decG_lib 20 v (by omega) (by omega)]
  have hlt : ∀ k' : Nat, k' < w.heap.size → (Sort.grow (w.drewN k) os).heap[k']? = w.heap[k']? := fun k' hk => by
    show (w.heap ++ os)[k']? = _
    rw [Array.getElem?_append_left hk]
  refine ⟨_, X, rfl, ⟨rfl, rfl, rfl, ?_, hlt⟩, fun k' o hk => ?_, fun _ _ => rfl, by rw [e1]⟩
  · show w.heap.size ≤ (w.heap ++ os).size
    simp
  · rw [hlt k' (hw.lt hk)]; exact hw k' o hk
end Go.Proofs.YtnabbnhefjfegaaGreatDoor
namespace Go.Proofs.YtnabbnhefjfegaaGreatDoor
open Go.RowKit
theorem itoa_ok {X : PMap} (hP : Pow10 X) : ItoaOk 1000000 X := fun _ hX v hv => itoaL_spec (hP.mono hX) v (by omega)
mutual
theorem num_of : ∀ e : Ex, nodeE e = 0 → numE 1000000 e
  | .mk op n ns al, h => by
    obtain ⟨h1, h2⟩ := node_ok h
    obtain ⟨_, _, _, _, _, _, _, _, o9⟩ := own_ok h1
    exact (show (op = 1 → n < ((1000000 : Nat) : Int)) ∧ numL 1000000 al from ⟨fun _ => by omega, num_ofL al h2⟩)
theorem num_ofL : ∀ l : List Ex, nodeL l = 0 → numL 1000000 l
  | [], _ => trivial
  | a :: l, h => by
    have h1 : nodeE a = 0 := nodeL_zero h a (by simp)
    rw [nodeL, if_neg (fun h => h h1)] at h
    exact (show numE 1000000 a ∧ numL 1000000 l from ⟨num_of a h1, num_ofL l h⟩)
end
theorem printA_spec {X : PMap} (hP : Pow10 X) {e : Ex} {r : Row4} (hw : wtE e < 900000) (h : ExR .u8 X e r) : Spec Tryz.prog 27 [.agg #[r.1, r.2.1, r.2.2.1, r.2.2.2]] X fun u _ => u = .string (if chkE e = 0 then textE e else ⟨#[]⟩) :=
  eprint_spec (itoa_ok hP) hw (fun hc => num_of e (chkE_node hc)) h
end Go.Proofs.YtnabbnhefjfegaaGreatDoor
namespace Go.Proofs.YtnabbnhefjfegaaGreatDoor
open Go.RowKit
section
variable {P : Program} {n : NM} {own : Own} {X : PMap} {env : Env}
theorem op_sliceData0 {x : Operand} {ts : Array TypeId} {l c : Nat} (hx : eev env x = some (.slice none l c)) : OpY P n env own X (.call { callee := .builtin .unsafeSliceData, args := #[x], argTypes := ts }) (.pointer none) := by
  intro a W oper hop ha _
  have hr : (Builtin.unsafeSliceData_ ts oper.type #[.slice none l c]).run P W = .ok (.pointer none) W := rfl
  simp only [execOp, hop, resolve, invoke, builtin, Sem.run_bind, Sem.run_pure, Result.andThen_ok, List.map_toArray, List.map_cons, List.map_nil, ha.eval hx, hr]
theorem op_unsafeStr0 {x y : Operand} {pt it : TypeId} (hx : eev env x = some (.pointer none)) (hy : eev env y = some (.int .i64 0)) : OpY P n env own X (.call { callee := .builtin .unsafeString, args := #[x, y], argTypes := #[pt, it] }) (.string ⟨#[]⟩) := by
  intro a W oper hop ha _
  have hr : (Builtin.unsafeString_ #[pt, it] oper.type #[.pointer none, .int .i64 0]).run P W = .ok (.string ⟨#[]⟩) W := rfl
  simp only [execOp, hop, resolve, invoke, builtin, Sem.run_bind, Sem.run_pure, Result.andThen_ok, List.map_toArray, List.map_cons, List.map_nil, ha.eval hx, ha.eval hy, hr]
end
theorem bstring0_spec {X : PMap} {b : Nat} {p : Value} : SpecM Tryz.prog 80 [.pointer (some ⟨b, 0, none⟩)] X [BldO b p (.slice none 0 0)] fun u L' _ => u = .string ⟨#[]⟩ ∧ L' = [BldO b p (.slice none 0 0)] := by
  refine SpecM.enter Tryz.func80 rfl Tryz.ntmps80 rfl ?_
  intro w0 X0 own0
  refine T.perm (own' := BldO b p (.slice none 0 0) :: own0) (List.Perm.refl _) ?_
  refine T.seq ?_
  refine T.region ?_
  refine SL.y (op_assign rfl) rfl rfl ?_
  refine SL.nil ?_
  refine T.seq ?_
  refine T.draw (by kernel_rfl) 12 [.t 0, .t 1, .t 2, .t 3, .t 4, .t 5, .t 6, .t 7, .t 8, .t 9, .r 10, .t 11] (by kernel_rfl) ?_
  refine SD.take rfl panicBody (op_move rfl) rfl rfl ?_
  first | refine SD.take rfl panicBody (op_nil rfl) rfl rfl ?_ | refine SD.take rfl panicBody (op_nilFn rfl) rfl rfl ?_
  refine SD.take rfl panicBody (op_fieldAddr fa137_1 rfl) rfl rfl ?_
  first | refine SD.take rfl panicBody (op_load ty64 rfl (by repeat constructor) rfl) rfl rfl ?_ | refine SD.take rfl panicBody (op_loadX ty64 rfl (by assumption) rfl) rfl rfl ?_
  refine SD.take rfl panicBody (op_sliceData0 rfl) rfl rfl ?_
  refine SD.take rfl panicBody (op_move rfl) rfl rfl ?_
  first | refine SD.take rfl panicBody (op_nil rfl) rfl rfl ?_ | refine SD.take rfl panicBody (op_nilFn rfl) rfl rfl ?_
  refine SD.take rfl panicBody (op_fieldAddr fa137_1 rfl) rfl rfl ?_
  first | refine SD.take rfl panicBody (op_load ty64 rfl (by repeat constructor) rfl) rfl rfl ?_ | refine SD.take rfl panicBody (op_loadX ty64 rfl (by assumption) rfl) rfl rfl ?_
  refine SD.take rfl panicBody (op_lenS Tryz.underlying64 rfl) rfl rfl ?_
  refine SD.run rfl (opx_of (fun u => u = .string ⟨#[]⟩) (op_unsafeStr0 rfl rfl) rfl rfl) rfl rfl ?_
  rintro _ _ _ ⟨rfl, rfl, rfl⟩
  refine SD.take rfl panicBody (op_assign rfl) rfl rfl ?_
  refine SD.nil ?_
  show SL _ _ _ _ _ _ _ [] _ _ _
  refine SL.nil ?_
  refine T.retM1 [BldO b p (.slice none 0 0)] rfl (ResIs.tmp rfl) (List.Perm.refl _) ?_
  exact ⟨PMap.le_refl _, rfl, rfl⟩
theorem lines0_spec {X : PMap} {A : Option Addr} {c : Nat} : Spec Tryz.prog 37 [.slice A 0 c] X fun u _ => u = .string ⟨#[]⟩ := by
  refine Spec.enter Tryz.func37 rfl Tryz.ntmps37 rfl ?_
  intro w0 hw0
  refine T.seq ?_
  refine T.region ?_
  refine SL.y (op_assign rfl) rfl rfl ?_
  refine SL.nil ?_
  refine T.seq ?_
  refine T.region ?_
  refine SL.x (op_alloc z137) rfl rfl ?_
  rintro _ _ _ ⟨B3, rfl, rfl, rfl⟩
  refine SL.nil ?_
  refine T.seq ?_
  refine T.seq ?_
  refine T.region ?_
  refine SL.y (op_move rfl) rfl rfl ?_
  refine SL.y (op_lenS Tryz.underlying24 rfl) rfl rfl ?_
  refine SL.y (op_move (v := .int .i64 ((0 : Nat) : Int)) rfl) rfl rfl ?_
  refine SL.nil ?_
  refine T.block ?_
  refine T.unrollStart 1 ?_
  refine T.unroll ?_
  refine T.seq ?_
  refine T.region ?_
  first | refine SL.y (op_lssT rfl rfl (by omega)) rfl rfl ?_ | refine SL.y (op_lssF rfl rfl (by omega)) rfl rfl ?_ | refine SL.y (op_lss rfl rfl) rfl rfl ?_
  refine SL.nil ?_
  refine T.seq ?_
  refine T.condF rfl ?_
  refine T.exit (T.exitCode (T.exitMore (T.exitBlk ?_)))
  refine T.seq ?_
  refine T.region ?_
  refine SL.x (op_callM en80 (vs := [_]) rfl (bstring0_spec) rfl) rfl rfl ?_
  rintro _ _ X5 ⟨_, rfl, hX5, rfl, rfl⟩
  refine SL.y (op_assign rfl) rfl rfl ?_
  refine SL.nil ?_
  refine T.ret1 rfl (ResIs.tmp rfl) ?_
  rfl
theorem check0_spec {X : PMap} {A : Option Addr} {c : Nat} : Spec Tryz.prog 16 [.slice A 0 c] X fun u _ => u = .int .i64 0 := by
  refine Spec.enter Tryz.func16 rfl Tryz.ntmps16 rfl ?_
  intro w0 hw0
  refine T.seq ?_
  refine T.region ?_
  refine SL.y (op_assign (v := .int .i64 ((0 : Nat) : Int)) rfl) rfl rfl ?_
  refine SL.nil ?_
  refine T.seq ?_
  refine T.seq ?_
  refine T.region ?_
  refine SL.y (op_move rfl) rfl rfl ?_
  refine SL.y (op_lenS Tryz.underlying24 rfl) rfl rfl ?_
  first | refine SL.y (op_gtrT rfl rfl (by omega)) rfl rfl ?_ | refine SL.y (op_gtrF rfl rfl (by omega)) rfl rfl ?_ | refine SL.y (op_gtr rfl rfl) rfl rfl ?_
  refine SL.nil ?_
  refine T.condF rfl ?_
  refine T.skip ?_
  refine T.seq ?_
  refine T.seq ?_
  refine T.region ?_
  refine SL.y (op_move rfl) rfl rfl ?_
  refine SL.y (op_lenS Tryz.underlying24 rfl) rfl rfl ?_
  refine SL.y (op_move (v := .int .i64 ((0 : Nat) : Int)) rfl) rfl rfl ?_
  refine SL.nil ?_
  refine T.block ?_
  refine T.unrollStart 1 ?_
  refine T.unroll ?_
  refine T.seq ?_
  refine T.region ?_
  first | refine SL.y (op_lssT rfl rfl (by omega)) rfl rfl ?_ | refine SL.y (op_lssF rfl rfl (by omega)) rfl rfl ?_ | refine SL.y (op_lss rfl rfl) rfl rfl ?_
  refine SL.nil ?_
  refine T.seq ?_
  refine T.condF rfl ?_
  refine T.exit (T.exitCode (T.exitMore (T.exitBlk ?_)))
  refine T.seq ?_
  refine T.seq ?_
  refine T.region ?_
  refine SL.y (op_move rfl) rfl rfl ?_
  refine SL.x (op_callF en37 (vs := [_]) rfl (lines0_spec)) rfl rfl ?_
  rintro _ _ X5 ⟨rfl, hX5, rfl⟩
  have k0 : (⟨#[]⟩ : ByteArray).size = 0 := rfl
  refine SL.y (op_lenStr Tryz.underlying9 rfl) rfl rfl ?_
  first | refine SL.y (op_gtrT rfl rfl (by omega)) rfl rfl ?_ | refine SL.y (op_gtrF rfl rfl (by omega)) rfl rfl ?_ | refine SL.y (op_gtr rfl rfl) rfl rfl ?_
  refine SL.nil ?_
  refine T.condF rfl ?_
  refine T.skip ?_
  refine T.seq ?_
  refine T.region ?_
  refine SL.y (op_assign (v := .int .i64 ((0 : Nat) : Int)) rfl) rfl rfl ?_
  refine SL.nil ?_
  refine T.ret1 rfl (ResIs.tmp rfl) ?_
  rfl
theorem print0_spec {X : PMap} {A : Option Addr} {c : Nat} : Spec Tryz.prog 15 [.slice A 0 c] X fun u _ => u = .string ⟨#[]⟩ := by
  refine Spec.enter Tryz.func15 rfl Tryz.ntmps15 rfl ?_
  intro w0 hw0
  refine T.seq ?_
  refine T.region ?_
  refine SL.y (op_assign rfl) rfl rfl ?_
  refine SL.nil ?_
  refine T.seq ?_
  refine T.seq ?_
  refine T.region ?_
  refine SL.y (op_move rfl) rfl rfl ?_
  refine SL.x (op_callF en16 (vs := [_]) rfl (check0_spec)) rfl rfl ?_
  rintro _ _ X1 ⟨rfl, hX1, rfl⟩
  first | refine SL.y (op_neqT rfl rfl (by omega)) rfl rfl ?_ | refine SL.y (op_neqF rfl rfl (by omega)) rfl rfl ?_ | refine SL.y (op_neq rfl rfl) rfl rfl ?_
  refine SL.nil ?_
  refine T.condF rfl ?_
  refine T.skip ?_
  refine T.seq ?_
  refine T.region ?_
  refine SL.y (op_move rfl) rfl rfl ?_
  refine SL.x (op_callF en37 (vs := [_]) rfl (lines0_spec)) rfl rfl ?_
  rintro _ _ X5 ⟨rfl, hX5, rfl⟩
  refine SL.y (op_assign rfl) rfl rfl ?_
  refine SL.nil ?_
  refine T.ret1 rfl (ResIs.tmp rfl) ?_
  rfl
theorem ConsR.form {X : PMap} {v : Value} {cs : List Con} (h : ConsR X v cs) : ∃ A cp, v = .slice A cs.length cp := by
  obtain ⟨rows, hr, hrl, _⟩ := h
  obtain ⟨A, cp, rfl⟩ := hr.form
  exact ⟨A, cp, by rw [hrl]⟩
theorem checkA_spec {X : PMap} (hP : Pow10 X) {v : Value} {cs : List Con} (h : ConsR X v cs) (hl : cs.length ≤ 40) (hw : wtC cs < 15000000) (hww : ∀ c ∈ cs, wtE c.ex < 900000) : Spec Tryz.prog 16 [v] X fun u _ => u = .int .i64 (chkAll cs) := by
  rcases Nat.eq_zero_or_pos cs.length with h0 | h0
  · obtain rfl := List.eq_nil_of_length_eq_zero h0
    obtain ⟨A, cp, rfl⟩ := h.form
    refine check0_spec.mono fun u _ _ hu => ?_
    rw [hu]; simp [chkAll, chkCs, linesL]
  · exact check_spec (itoa_ok hP) h hl h0 hw hww fun c _ hc => num_of c.ex (chkE_node hc)
theorem cprintA_spec {X : PMap} (hP : Pow10 X) {v : Value} {cs : List Con} (h : ConsR X v cs) (hl : cs.length ≤ 40) (hw : wtC cs < 15000000) (hww : ∀ c ∈ cs, wtE c.ex < 900000) : Spec Tryz.prog 15 [v] X fun u _ => u = .string (if chkAll cs = 0 then ⟨(linesL cs).toArray⟩ else ⟨#[]⟩) := by
  rcases Nat.eq_zero_or_pos cs.length with h0 | h0
  · obtain rfl := List.eq_nil_of_length_eq_zero h0
    obtain ⟨A, cp, rfl⟩ := h.form
    refine print0_spec.mono fun u _ _ hu => ?_
    rw [hu]; simp [chkAll, chkCs, linesL]
  · exact cprint_spec (itoa_ok hP) h hl h0 hw hww fun c _ hc => num_of c.ex (chkE_node hc)
end Go.Proofs.YtnabbnhefjfegaaGreatDoor
namespace Go.Proofs.YtnabbnhefjfegaaGreatDoor
section
set_option maxRecDepth 100000
theorem bs82 : ∃ i z, Tryz.prog.info? 82 = some i ∧ i.size = 7 ∧ i.zero = some z ∧ z.cells = ([.bool false, .int .u8 0, .string ⟨#[]⟩, .int .u8 0, .int .i64 0, .slice none 0 0, .slice none 0 0] : List Value).toArray := bs_of (by kernel_rfl)
theorem en44 : Enters Tryz.prog 44 := enters_mk Tryz.func44 (by kernel_rfl) rfl
theorem sl24 : SlT Tryz.prog 24 82 7 88 := ⟨Tryz.underlying24, sl_of (by kernel_rfl) (by decide)⟩
end
open Go.RowKit
/-- Constraints of tokens, up to the end. -/
noncomputable def consP (ex : ParP) : Nat → List Con → List Tk → Except (Nat × Int) (List Con)
  | 0, cs, _ => .ok cs
  | k + 1, cs, l => if hdK l = 0 then .ok cs else match conP ex l with
    | .error x => .error x
    | .ok y => consP ex k (cs ++ [y.1]) y.2
def runC {α : Type} (p : List Tk → Except (Nat × Int) α) : RSt → Except (Nat × Int) α
  | .ok l => p l
  | .error x => .error x
/-- The constraints of a source, or the error with its offset. -/
noncomputable def parseM (s : ByteArray) : Except (Nat × Int) (List Con) := match begM s with
  | .error x => .error x
  | .ok ts => match consP (exprP (ts.length + 1)) (ts.length + 1) [] ts with
    | .error x => .error x
    | .ok cs => if chkAll cs = 0 then .ok cs else .error (0, chkAll cs)
theorem conP_wt {ex : ParP} (hx : Wt ex) {l l' : List Tk} {c : Con} (h : conP ex l = .ok (c, l')) : wtE c.ex + 14 * l'.length ≤ 14 * l.length := by
  have hK2 : ∀ {en : Bool} {k : Nat} {l l' : List Tk} {c : Con}, conK2 ex en k l = .ok (c, l') → wtE c.ex + 14 * l'.length ≤ 14 * l.length := fun h => by
    obtain ⟨s, l1, h1, h⟩ := bind_ok h
    obtain ⟨_, l2, h2, h⟩ := bind_ok h
    obtain ⟨x, l3, h3, h⟩ := bind_ok h
    obtain ⟨_, l4, h4, h⟩ := bind_ok h
    simp only [Except.ok.injEq, Prod.mk.injEq] at h
    obtain ⟨rfl, rfl⟩ := h
    have a1 := nameT_wt h1
    have a2 := expT_wt h2
    have a3 := hx _ _ _ h3
    have a4 := expT_wt h4
    show wtE x + _ ≤ _
    omega
  have hK1 : ∀ {en : Bool} {l l' : List Tk} {c : Con}, conK1 ex en l = .ok (c, l') → wtE c.ex + 14 * l'.length ≤ 14 * l.length := fun h => by
    rw [conK1] at h
    split at h
    · rename_i hk
      have := hK2 h
      have := isT_len hk
      omega
    · split at h
      · rename_i hk
        have := hK2 h
        have := isT_len hk
        omega
      · obtain ⟨_, l1, h1, h⟩ := bind_ok h
        have := hK2 h
        have := expT_wt h1
        omega
  rw [conP] at h
  split at h
  · rename_i hk
    have := hK1 h
    have := isT_len hk
    omega
  · obtain ⟨_, l1, h1, h⟩ := bind_ok h
    have := hK1 h
    have := expT_wt h1
    omega
theorem checkB_spec {X : PMap} (hP : Pow10 X) {v : Value} {cs : List Con} (h : ConsR X v cs) (hw : wtC cs < 15000000) (hww : ∀ c ∈ cs, wtE c.ex < 900000) : Spec Tryz.prog 16 [v] X fun u _ => u = .int .i64 (chkAll cs) := by
  by_cases h32 : 32 < cs.length
  · obtain ⟨A, cp, rfl⟩ := h.form
    refine Spec.enter Tryz.func16 rfl Tryz.ntmps16 rfl ?_
    intro w0 hw0
    refine T.seq ?_
    refine T.region ?_
    refine SL.y (op_assign (v := .int .i64 ((0 : Nat) : Int)) rfl) rfl rfl ?_
    refine SL.nil ?_
    refine T.seq ?_
    refine T.seq ?_
    refine T.region ?_
    refine SL.y (op_move rfl) rfl rfl ?_
    refine SL.y (op_lenS Tryz.underlying24 rfl) rfl rfl ?_
    first | refine SL.y (op_gtrT rfl rfl (by omega)) rfl rfl ?_ | refine SL.y (op_gtrF rfl rfl (by omega)) rfl rfl ?_ | refine SL.y (op_gtr rfl rfl) rfl rfl ?_
    refine SL.nil ?_
    refine T.condT rfl ?_
    refine T.seq ?_
    refine T.region ?_
    refine SL.y (op_assign (v := .int .i64 ((3 : Nat) : Int)) rfl) rfl rfl ?_
    refine SL.nil ?_
    refine T.ret1 rfl (ResIs.tmp rfl) ?_
    rw [chkAll, if_pos h32]
    rfl
  · exact checkA_spec hP h (by omega) hw hww
theorem consP_stop {ex : ParP} {k : Nat} {cs : List Con} {l : List Tk} (h : hdK l = 0) : consP ex (k + 1) cs l = .ok cs := by rw [consP, if_pos h]
theorem consP_step {ex : ParP} {k : Nat} {cs : List Con} {l : List Tk} {sb : RSt} {c : Con} (h : hdK l ≠ 0) (hO : Out (runM (conP ex) (.ok l)) sb c) : runC (consP ex (k + 1) cs) (.ok l) = runC (consP ex k (cs ++ [c])) sb := by
  show consP ex (k + 1) cs l = _
  rw [consP, if_neg h]
  simp only [runM] at hO
  cases he : conP ex l with
  | error x => rw [he] at hO; simp only [Out] at hO; subst hO; rfl
  | ok y => rw [he] at hO; obtain ⟨rfl, rfl⟩ := hO; rfl
theorem parseM_run {s : ByteArray} {ts : List Tk} (hb : begM s = .ok ts) : parseM s = match runC (consP (exprP (ts.length + 1)) (ts.length + 1) []) (.ok ts) with
    | .error x => .error x
    | .ok cs => if chkAll cs = 0 then .ok cs else .error (0, chkAll cs) := by
  rw [parseM, hb]; rfl
theorem parse_spec {X : PMap} (hP10 : Pow10 X) {s : ByteArray} (hs : s.size < 1000000000) : Spec Tryz.prog 18 [.string s] X fun u X' => match parseM s with
    | .error x => u = .tuple #[.slice none 0 0, .int .i64 (x.1 : Int), .int .i64 x.2]
    | .ok cs => ∃ v, u = .tuple #[v, .int .i64 0, .int .i64 0] ∧ ConsR X' v cs := by
  have hmx : maxLen = 9223372036854775807 := rfl
  cases hb : begM s with
  | error x =>
    have hm : parseM s = .error x := by rw [parseM, hb]
    have hx2 := begM_err hb
    obtain ⟨o, c⟩ := x
    simp only at hx2
    refine Spec.enter Tryz.func18 rfl Tryz.ntmps18 rfl ?_
    intro w0 hw0
    refine T.seq ?_
    refine T.region ?_
    refine SL.y (op_assign rfl) rfl rfl ?_
    refine SL.y (op_assign (v := .int .i64 ((0 : Nat) : Int)) rfl) rfl rfl ?_
    refine SL.y (op_assign (v := .int .i64 ((0 : Nat) : Int)) rfl) rfl rfl ?_
    refine SL.nil ?_
    refine T.seq ?_
    refine T.region ?_
    refine SL.y (op_move rfl) rfl rfl ?_
    refine SL.x (op_callO en42 (vs := [_]) rfl (begin_spec hs)) rfl rfl ?_
    rintro u1 _ X1 ⟨own1, rfl, hX1, hu1⟩
    rw [hb] at hu1
    obtain ⟨rfl, rfl⟩ := hu1
    refine SL.y (op_move rfl) rfl rfl ?_
    refine SL.y (op_extract rfl rfl) rfl rfl ?_
    refine SL.y (op_extract rfl rfl) rfl rfl ?_
    refine SL.y (op_extract rfl rfl) rfl rfl ?_
    refine SL.y (op_assign rfl) rfl rfl ?_
    refine SL.y (op_assign rfl) rfl rfl ?_
    refine SL.y (op_assign rfl) rfl rfl ?_
    refine SL.nil ?_
    refine T.seq ?_
    refine T.seq ?_
    refine T.region ?_
    refine SL.y (op_move rfl) rfl rfl ?_
    first | refine SL.y (op_neqT rfl rfl (by omega)) rfl rfl ?_ | refine SL.y (op_neqF rfl rfl (by omega)) rfl rfl ?_ | refine SL.y (op_neq rfl rfl) rfl rfl ?_
    refine SL.nil ?_
    refine T.condT rfl ?_
    refine T.seq ?_
    refine T.region ?_
    refine SL.y (op_move rfl) rfl rfl ?_
    refine SL.y (op_move rfl) rfl rfl ?_
    refine SL.y (op_assign rfl) rfl rfl ?_
    refine SL.y (op_assign rfl) rfl rfl ?_
    refine SL.y (op_assign rfl) rfl rfl ?_
    refine SL.nil ?_
    refine T.ret3 rfl rfl rfl rfl ?_
    rw [hm]
    rfl
  | ok ts =>
    have hrun := parseM_run hb
    refine Spec.enter Tryz.func18 rfl Tryz.ntmps18 rfl ?_
    intro w0 hw0
    refine T.seq ?_
    refine T.region ?_
    refine SL.y (op_assign rfl) rfl rfl ?_
    refine SL.y (op_assign (v := .int .i64 ((0 : Nat) : Int)) rfl) rfl rfl ?_
    refine SL.y (op_assign (v := .int .i64 ((0 : Nat) : Int)) rfl) rfl rfl ?_
    refine SL.nil ?_
    refine T.seq ?_
    refine T.region ?_
    refine SL.y (op_move rfl) rfl rfl ?_
    refine SL.x (op_callO en42 (vs := [_]) rfl (begin_spec hs)) rfl rfl ?_
    rintro u1 _ X1 ⟨own1, rfl, hX1, hu1⟩
    rw [hb] at hu1
    obtain ⟨pb, rb, v, rfl, rfl, hP, hT, h0, hl8⟩ := hu1
    refine SL.y (op_move rfl) rfl rfl ?_
    refine SL.y (op_extract rfl rfl) rfl rfl ?_
    refine SL.y (op_extract rfl rfl) rfl rfl ?_
    refine SL.y (op_extract rfl rfl) rfl rfl ?_
    refine SL.y (op_assign rfl) rfl rfl ?_
    refine SL.y (op_assign rfl) rfl rfl ?_
    refine SL.y (op_assign rfl) rfl rfl ?_
    refine SL.nil ?_
    refine T.seq ?_
    refine T.seq ?_
    refine T.region ?_
    refine SL.y (op_move rfl) rfl rfl ?_
    first | refine SL.y (op_neqT rfl rfl (by omega)) rfl rfl ?_ | refine SL.y (op_neqF rfl rfl (by omega)) rfl rfl ?_ | refine SL.y (op_neq rfl rfl) rfl rfl ?_
    refine SL.nil ?_
    refine T.condF rfl ?_
    refine T.skip ?_
    refine T.seq ?_
    refine T.region ?_
    refine SL.y (op_assign rfl) rfl rfl ?_
    refine SL.nil ?_
    refine T.seq ?_
    refine T.block ?_
    refine T.loopW (fun m env own X' => ∃ (cs : List Con) (rows : List Row7) (vs : Value) (G : Own) (i off : Nat) (e : Int) (sa : RSt) (k : Nat), m = lenS sa ∧ X1.le X' ∧ RdS ts sa i off e ∧ (∀ l, sa = .ok l → l.length < ts.length + 1) ∧ lenS sa < k ∧ cs.length + lenS sa ≤ ts.length ∧ runC (consP (exprP (ts.length + 1)) (ts.length + 1) []) (.ok ts) = runC (consP (exprP (ts.length + 1)) k cs) sa ∧ (∀ l, sa = .ok l → wtC cs + 14 * l.length ≤ 14 * ts.length) ∧ rows.length = cs.length ∧ (∀ (i : Nat) (c : Con) (r : Row7), cs[i]? = some c → rows[i]? = some r → ConR X' c r) ∧ GrowS 82 7 vs rows.length (rows.map rc7).flatten G ∧ env = [(5, .pointer (some ⟨pb, 0, none⟩)), (8, vs)] ∧ own = RdO rb v i off e :: G) (lenS (.ok ts)) ⟨[], [], _, [], 0, 0, 0, .ok ts, ts.length + 1, rfl, PMap.le_refl _, RdS.zero h0, fun l h => (by cases h; exact Nat.lt_succ_self _), Nat.lt_succ_self _, by simp [lenS], rfl, fun l h => (by cases h; simp [wtC]), rfl, fun i c r h => (by cases h), GrowS.nil, rfl, rfl⟩ (by repeat (first | exact Sub.nil | refine Sub.cons rfl ?_)) ?_
    rintro m _ _ X2 ⟨cs, rows, vs, G, i2, off2, e2, sa, k, rfl, hX2, hS2, hf2, hk2, hn2, heq, hwt, hrl, hrows, hG, rfl, rfl⟩
    have hP := hP.mono hX2
    have hT := hT.mono hX2
    obtain ⟨t, ht⟩ := hS2.tok
    obtain ⟨Av, cv, rfl⟩ := hG.form
    refine T.seq ?_
    refine T.seq ?_
    refine T.region ?_
    refine SL.y (op_move rfl) rfl rfl ?_
    refine SL.x (op_callLend en43 (vs := [_]) rfl ((fun X1 h1 h2 => (done_spec (hP.mono h1) (hT.row.mono h1) hT.len (h2 (RdO rb v i2 off2 e2) (by simp)) ht : Spec _ _ _ _ fun u _ => u = .bool (decide (e2 ≠ 0 ∨ t.kind = 0)))))) rfl rfl ?_
    rintro _ _ _ ⟨rfl, rfl, rfl⟩
    by_cases hd : e2 ≠ 0 ∨ t.kind = 0
    case neg =>
      obtain ⟨l, rfl⟩ : ∃ l, sa = .ok l := by
        obtain ⟨_, h2⟩ := hS2
        cases sa with
        | error y => obtain ⟨_, h3, h4⟩ := h2; exact absurd (.inl (by rw [h3]; exact h4)) hd
        | ok l => exact ⟨l, rfl⟩
      have hll : l = t :: ts.drop (i2 + 1) := by rw [hS2.2.2.2]; exact drop_tok ht
      have hhd : hdK l ≠ 0 := by rw [hll]; exact fun h => hd (.inr h)
      have hpos : 0 < lenS (.ok l) := by rw [hll]; exact Nat.succ_pos _
      obtain ⟨k, rfl⟩ : ∃ q, k = q + 1 := ⟨k - 1, by omega⟩
      rw [decide_eq_false hd]
      refine SL.y (op_not rfl) rfl rfl ?_
      refine SL.nil ?_
      refine T.condT rfl ?_
      refine T.skip ?_
      refine T.block ?_
      refine T.region ?_
      refine SL.y (op_move rfl) rfl rfl ?_
      refine SL.y (op_move rfl) rfl rfl ?_
      refine SL.x (op_callJ en44 rfl (vs := [_]) rfl (con_spec (f := ts.length) hT hP hS2 hf2) (by repeat constructor)) rfl rfl ?_
      rintro _ _ X3 ⟨_, rfl, hX3, i3, off3, e3, sb, rfl, hS3, c, r, rfl, hc, hO, hdec⟩
      obtain ⟨o9, n9, a9, b9, l9, c9, m9, d9, rfl⟩ := hc.form
      have hdec := hdec hpos
      have hstep := consP_step (k := k) (cs := cs) hhd hO
      have hwt2 : ∀ l', sb = .ok l' → wtC (cs ++ [c]) + 14 * l'.length ≤ 14 * ts.length := fun l' h => by
        subst h
        simp only [runM] at hO
        cases he : conP (exprP (ts.length + 1)) l with
        | error y => rw [he] at hO; cases hO
        | ok y =>
          rw [he] at hO
          obtain ⟨rfl, h2⟩ := hO
          have h3 := Except.ok.inj h2
          subst h3
          have a1 := conP_wt (exprP_wt _) he
          have a2 := hwt l rfl
          simp only [wtC, List.map_append, List.map_cons, List.map_nil, List.sum_append, List.sum_cons, List.sum_nil] at a2 ⊢
          omega
      refine SL.x (op_buildSlice Tryz.underlying24 bs82 (qs := [(0, _)]) rfl rfl rfl rfl rfl) rfl rfl ?_
      rintro _ _ _ ⟨B28, rfl, rfl, rfl⟩
      refine SL.x (op_appendG (own0 := [_]) sl24 rfl hG rfl rfl rfl (by omega) (by omega)) rfl rfl ?_
      rintro vn _ _ ⟨G2, rfl, rfl, hG2⟩
      have hG2 : GrowS 82 7 vn (rows ++ [(c.enf, c.kind, c.name, Value.int .u8 (o9 : Int), Value.int .i64 n9, Value.slice a9 l9 c9, Value.slice b9 m9 d9)]).length ((rows ++ [(c.enf, c.kind, c.name, Value.int .u8 (o9 : Int), Value.int .i64 n9, Value.slice a9 l9 c9, Value.slice b9 m9 d9)]).map rc7).flatten G2 := by rw [List.length_append, List.map_append, List.flatten_append]; exact hG2
      refine SL.y (op_assign rfl) rfl rfl ?_
      refine SL.nil ?_
      refine T.blk ?_
      exact T.backW (lenS sb) (by omega) ⟨cs ++ [c], _, vn, G2, i3, off3, e3, sb, k, rfl, hX2.trans' hX3, hS3, fun l' h => (by subst h; have : l'.length < l.length := hdec; have := hf2 l rfl; omega), by omega, by rw [List.length_append]; simp; omega, by rw [heq, hstep], hwt2, by rw [List.length_append, List.length_append, hrl]; rfl, rows_snoc hrl (fun i c r a b => (hrows i c r a b).mono hX3) hc, hG2, rfl, rfl⟩ (by repeat (first | exact Sub.nil | refine Sub.cons rfl ?_))
    rw [decide_eq_true hd]
    refine SL.y (op_not rfl) rfl rfl ?_
    refine SL.nil ?_
    refine T.condF rfl ?_
    refine T.exit (T.exitCode (T.exitCut (T.exitBlk ?_)))
    refine T.seq ?_
    refine T.seq ?_
    refine T.region ?_
    refine SL.y (op_move rfl) rfl rfl ?_
    first | refine SL.y (op_nil rfl) rfl rfl ?_ | refine SL.y (op_nilFn rfl) rfl rfl ?_
    refine SL.y (op_fieldAddr fa98_0 rfl) rfl rfl ?_
    first | refine SL.y (op_load ty96 rfl (by repeat constructor) rfl) rfl rfl ?_ | refine SL.y (op_loadX ty96 rfl (by assumption) rfl) rfl rfl ?_
    refine SL.x (op_callLend en45 (vs := [_]) rfl ((fun X1 h1 h2 => (err_spec (h2 (RdO rb v i2 off2 e2) (by simp)) : Spec _ _ _ _ fun u _ => u = .tuple #[.int .i64 (off2 : Int), .int .i64 e2])))) rfl rfl ?_
    rintro _ _ _ ⟨rfl, rfl, rfl⟩
    rw [heq] at hrun
    cases sa with
    | error y =>
      obtain ⟨_, rfl, rfl, hy⟩ := hS2
      obtain ⟨o, c⟩ := y
      simp only at hy
      refine SL.y (op_move rfl) rfl rfl ?_
      refine SL.y (op_extract rfl rfl) rfl rfl ?_
      refine SL.y (op_extract rfl rfl) rfl rfl ?_
      refine SL.y (op_assign rfl) rfl rfl ?_
      refine SL.y (op_assign rfl) rfl rfl ?_
      refine SL.nil ?_
      refine T.seq ?_
      refine T.region ?_
      refine SL.y (op_move rfl) rfl rfl ?_
      first | refine SL.y (op_neqT rfl rfl (by omega)) rfl rfl ?_ | refine SL.y (op_neqF rfl rfl (by omega)) rfl rfl ?_ | refine SL.y (op_neq rfl rfl) rfl rfl ?_
      refine SL.nil ?_
      refine T.condT rfl ?_
      refine T.seq ?_
      refine T.region ?_
      refine SL.y (op_move rfl) rfl rfl ?_
      refine SL.y (op_move rfl) rfl rfl ?_
      refine SL.y (op_assign rfl) rfl rfl ?_
      refine SL.y (op_assign rfl) rfl rfl ?_
      refine SL.y (op_assign rfl) rfl rfl ?_
      refine SL.nil ?_
      refine T.ret3 rfl rfl rfl rfl ?_
      rw [hrun]
      rfl
    | ok l =>
      obtain ⟨_, rfl, rfl, hl⟩ := hS2
      have hhd : hdK l = 0 := by
        rw [hl, drop_tok ht]
        rcases hd with hd | hd
        · exact absurd rfl hd
        · exact hd
      obtain ⟨k, rfl⟩ : ∃ q, k = q + 1 := ⟨k - 1, by omega⟩
      have hrun : parseM s = if chkAll cs = 0 then .ok cs else .error (0, chkAll cs) := by
        rw [hrun]
        simp only [runC, consP_stop hhd]
      have hw0 := hwt l rfl
      refine SL.y (op_move rfl) rfl rfl ?_
      refine SL.y (op_extract rfl rfl) rfl rfl ?_
      refine SL.y (op_extract rfl rfl) rfl rfl ?_
      refine SL.y (op_assign rfl) rfl rfl ?_
      refine SL.y (op_assign rfl) rfl rfl ?_
      refine SL.nil ?_
      refine T.seq ?_
      refine T.region ?_
      refine SL.y (op_move rfl) rfl rfl ?_
      first | refine SL.y (op_neqT rfl rfl (by omega)) rfl rfl ?_ | refine SL.y (op_neqF rfl rfl (by omega)) rfl rfl ?_ | refine SL.y (op_neq rfl rfl) rfl rfl ?_
      refine SL.nil ?_
      refine T.condF rfl ?_
      refine T.skip ?_
      refine T.seq ?_
      refine T.pubG (own0 := [_]) hG ?_
      intro X9 hX9 hS9
      have hC : ConsR X9 (.slice Av rows.length cv) cs := ⟨rows, RowR.ofG hG hS9, hrl, fun i c r a b => (hrows i c r a b).mono hX9⟩
      refine T.seq ?_
      refine T.region ?_
      refine SL.y (op_move rfl) rfl rfl ?_
      refine SL.x (op_callF en16 (vs := [_]) rfl (checkB_spec (((hP10.mono hX1).mono hX2).mono hX9) hC (by omega) (fun c hc => by have := wtC_mem hc; omega))) rfl rfl ?_
      rintro _ _ Y1 ⟨rfl, hY1, rfl⟩
      by_cases hz : chkAll cs = 0
      · skip
        refine SL.y (op_assign rfl) rfl rfl ?_
        refine SL.nil ?_
        refine T.seq ?_
        refine T.region ?_
        refine SL.y (op_move rfl) rfl rfl ?_
        first | refine SL.y (op_neqT rfl rfl (by omega)) rfl rfl ?_ | refine SL.y (op_neqF rfl rfl (by omega)) rfl rfl ?_ | refine SL.y (op_neq rfl rfl) rfl rfl ?_
        refine SL.nil ?_
        refine T.condF rfl ?_
        refine T.skip ?_
        refine T.seq ?_
        refine T.region ?_
        refine SL.y (op_move rfl) rfl rfl ?_
        refine SL.y (op_assign rfl) rfl rfl ?_
        refine SL.y (op_assign (v := .int .i64 ((0 : Nat) : Int)) rfl) rfl rfl ?_
        refine SL.y (op_assign (v := .int .i64 ((0 : Nat) : Int)) rfl) rfl rfl ?_
        refine SL.nil ?_
        refine T.ret3 rfl rfl rfl rfl ?_
        rw [hrun, if_pos hz]
        exact ⟨_, rfl, hC.mono hY1⟩
      · refine SL.y (op_assign rfl) rfl rfl ?_
        refine SL.nil ?_
        refine T.seq ?_
        refine T.region ?_
        refine SL.y (op_move rfl) rfl rfl ?_
        first | refine SL.y (op_neqT rfl rfl (by omega)) rfl rfl ?_ | refine SL.y (op_neqF rfl rfl (by omega)) rfl rfl ?_ | refine SL.y (op_neq rfl rfl) rfl rfl ?_
        refine SL.nil ?_
        refine T.condT rfl ?_
        refine T.seq ?_
        refine T.region ?_
        refine SL.y (op_move rfl) rfl rfl ?_
        refine SL.y (op_assign rfl) rfl rfl ?_
        refine SL.y (op_assign (v := .int .i64 ((0 : Nat) : Int)) rfl) rfl rfl ?_
        refine SL.y (op_assign rfl) rfl rfl ?_
        refine SL.nil ?_
        refine T.ret3 rfl rfl rfl rfl ?_
        rw [hrun, if_neg hz]
end Go.Proofs.YtnabbnhefjfegaaGreatDoor
namespace Go.Proofs.YtnabbnhefjfegaaGreatDoor
open Go.RowKit
theorem name_key {s : ByteArray} (h : validS s) {w : ByteArray} (hw : w ∈ keyws) : s ≠ w := fun e => h.2.2.1 (e ▸ hw)
theorem kNot : wNot ∈ keyws := by simp [keyws]
theorem kTrue : wTrue ∈ keyws := by simp [keyws]
theorem kFalse : wFalse ∈ keyws := by simp [keyws]
theorem kCount : wCount ∈ keyws := by simp [keyws]
theorem kMembers : wMembers ∈ keyws := by simp [keyws]
theorem nameT_ok {s : ByteArray} {o : Nat} {l : List Tk} (h : validS s) : nameT (wT s o :: l) = .ok (s, l) := by
  show (if (1 : Nat) ≠ 1 ∨ s ∈ keyws then _ else if ¬validS s then _ else _) = _
  rw [if_neg (fun hh => hh.elim (fun h1 => h1 rfl) h.2.2.1), if_neg (fun hh => hh h)]; rfl
theorem expT_ok {w : ByteArray} {o : Nat} {l : List Tk} : expT w (sT w o :: l) = .ok ((), l) := by rw [expT, isT_s, if_pos rfl]; rfl
theorem namesG_ok {rest : List Tk} (hr : isT wComma rest = false) : ∀ (l ns : List ByteArray) (o k : Nat), (∀ s ∈ l, validS s) → (commasK l o ++ rest).length ≤ k → namesG k ns (commasK l o ++ rest) = .ok (ns ++ l, rest)
  | [], ns, o, k, _, _ => by
    rw [commasK, List.nil_append, List.append_nil]
    cases k with
    | zero => rfl
    | succ k => rw [namesG, hr]; rfl
  | s :: l, ns, o, k, hv, hk => by
    rw [commasK] at hk ⊢
    simp only [List.cons_append, List.length_cons] at hk
    obtain ⟨k, rfl⟩ : ∃ q, k = q + 1 := ⟨k - 1, by omega⟩
    simp only [List.cons_append]
    rw [namesG, isT_s, if_pos rfl, List.tail_cons, nameT_ok (hv s (by simp)), bindR_ok, namesG_ok hr l (ns ++ [s]) _ k (fun x hx => hv x (by simp [hx])) (by omega)]
    simp
theorem namesP_ok {ns : List ByteArray} {o o' o'' : Nat} {rest : List Tk} (h1 : 0 < ns.length) (hv : ∀ s ∈ ns, validS s) {several : Bool} (hs : several = true ∨ ns.length = 1) : namesP several (sT wLp o :: (namesK ns o' ++ sT wRp o'' :: rest)) = .ok (ns, rest) := by
  match ns, h1, hs with
  | s :: l, _, hs =>
    rw [namesK, namesP, expT_ok, bindR_ok, List.cons_append, nameT_ok (hv s (by simp)), bindR_ok]
    have hr : isT wComma (sT wRp o'' :: rest) = false := isT_sne (by decide)
    rcases hs with rfl | hs
    · rw [if_pos rfl, namesG_ok hr l [s] _ _ (fun x hx => hv x (by simp [hx])) (Nat.le_refl _), bindR_ok, expT_ok, bindR_ok]; rfl
    · have hl : l = [] := List.eq_nil_of_length_eq_zero (by simpa using hs)
      subst hl
      have : ∀ k, namesG k [s] (commasK [] (o' + s.size) ++ sT wRp o'' :: rest) = .ok ([s], sT wRp o'' :: rest) := fun k => by
        rw [commasK, List.nil_append]
        cases k with
        | zero => rfl
        | succ k => rw [namesG, hr]; rfl
      rw [this, bindR_ok, expT_ok, bindR_ok]
/-- What a tree's tokens do at every level, with and without parentheses. -/
def Good (e : Ex) : Prop := ∀ f, depE e + 1 ≤ f → ∀ k o, 1 ≤ k → k ≤ 7 → Ck (primP (exprP f)) k (oprK e k o) e ∧ (5 ≤ k → hdN (oprK e k o))
theorem strN_pos (op : Nat) : 1 ≤ strN op ∧ strN op ≤ 7 := by
  unfold strN
  split
  · omega
  · split
    · omega
    · split
      · omega
      · split
        · omega
        · split
          · omega
          · split <;> omega
/-- Without parentheses: from the level of the operator down. -/
theorem good_bare {e : Ex} (h : ∀ f, depE e ≤ f → ∀ o, Ck (primP (exprP f)) (strN e.op) (toksE e o) e ∧ (5 ≤ strN e.op → hdN (toksE e o))) : Good e := by
  obtain ⟨hp1, hp7⟩ := strN_pos e.op
  have bare : ∀ f, depE e ≤ f → ∀ k o, 1 ≤ k → k ≤ strN e.op → Ck (primP (exprP f)) k (toksE e o) e := fun f hf k o h1 h2 => Ck.down (h f hf o).1 hp7 (h f hf o).2 k h1 h2
  intro f hf k o h1 h7
  unfold oprK parK
  split
  · have hn : hdN (sT wLp o :: (toksE e (o + 1) ++ [sT wRp (o + 1 + (textE e).size)])) := fun rest => isT_sne (by decide)
    obtain ⟨f, rfl⟩ : ∃ q, f = q + 1 := ⟨f - 1, by omega⟩
    have h7' : Ck (primP (exprP (f + 1))) 7 (sT wLp o :: (toksE e (o + 1) ++ [sT wRp (o + 1 + (textE e).size)])) e := by
      intro rest
      have hb : C1 (primP (exprP f)) (toksE e (o + 1)) e := bare f (by omega) 1 (o + 1) (by omega) hp1
      have hb := hb (sT wRp (o + 1 + (textE e).size) :: rest) _ ⟨fun _ => isT_sne (by decide), fun _ => isT_sne (by decide), fun _ => isT_sne (by decide), fun _ c hc => isT_sne (by revert c; decide), fun _ => isT_sne (by decide)⟩ (Nat.lt_succ_self _)
      rw [List.cons_append, List.append_assoc, List.singleton_append, primP, if_neg (by show ¬(3 : Nat) = 2; omega), isT_sne (by decide), isT_sne (by decide), isT_sne (by decide), isT_sne (by decide), isT_s]
      simp only [Bool.false_eq_true, if_false, if_true]
      rw [exprP_succ, hb, bindR_ok, expT_ok, bindR_ok]
    exact ⟨Ck.down h7' (by omega) (fun _ => hn) k h1 h7, fun _ => hn⟩
  · rename_i hlt
    exact ⟨bare f (by omega) k o h1 (by omega), fun h5 => (h f (by omega) o).2 (by omega)⟩
theorem hdN_append {t u : List Tk} (h : hdN t) : hdN (t ++ u) := fun rest => by rw [List.append_assoc]; exact h _
/-- EVERY ACCEPTED TREE. -/
theorem good_all : ∀ (n : Nat) (e : Ex), sizE e ≤ n → nodeE e = 0 → Good e := by
  intro n
  induction n with
  | zero => intro e h; cases e; rw [sizE] at h; omega
  | succ n ih =>
    intro e hsz hnode
    cases e with
    | mk op v ns al =>
    obtain ⟨hown, hargs⟩ := node_ok hnode
    obtain ⟨o1, o2, o3, o4, o5, o6, o7, o8, o9⟩ := own_ok hown
    rw [sizE] at hsz
    refine good_bare fun f hf o => ?_
    simp only [Ex.op]
    rw [depE] at hf
    by_cases c7 : op < 7
    · have hs7 : strN op = 7 := by unfold strN; rw [if_neg (by omega), if_neg (by omega), if_neg (by omega), if_neg (by omega), if_neg (by omega), if_neg (by omega)]
      have hal : al = [] := List.eq_nil_of_length_eq_zero (by rw [o3, argN, if_pos c7])
      subst hal
      rw [hs7]
      show C7 _ _ _ ∧ _
      by_cases c1 : op = 1
      · subst c1
        obtain ⟨q, rfl⟩ := Int.eq_ofNat_of_zero_le o8
        have hns : ns = [] := List.eq_nil_of_length_eq_zero (by simpa [namN] using o5)
        subst hns
        have e1 : toksE (.mk 1 (q : Int) [] []) o = [⟨2, decB q, q, o⟩] := by rw [toksE, if_pos rfl]; rfl
        rw [e1]
        exact ⟨fun rest => by rw [List.singleton_append, primP, if_pos rfl], fun _ rest => isT_kind2 rfl⟩
      have hv0 := o4 c1
      subst hv0
      by_cases c2 : op = 2
      · subst c2
        have hns : ns = [] := List.eq_nil_of_length_eq_zero (by simpa [namN] using o5)
        subst hns
        have e1 : toksE (.mk 2 0 [] []) o = [wT wTrue o] := by rw [toksE, if_neg (by omega), if_pos rfl]
        rw [e1]
        exact ⟨fun rest => by rw [List.singleton_append, primP, if_neg (by show ¬(1 : Nat) = 2; omega), isT_w, if_pos rfl], fun _ rest => isT_wne (by decide)⟩
      by_cases c3 : op = 3
      · subst c3
        have hns : ns = [] := List.eq_nil_of_length_eq_zero (by simpa [namN] using o5)
        subst hns
        have e1 : toksE (.mk 3 0 [] []) o = [wT wFalse o] := by rw [toksE, if_neg (by omega), if_neg (by omega), if_pos rfl]
        rw [e1]
        exact ⟨fun rest => by rw [List.singleton_append, primP, if_neg (by show ¬(1 : Nat) = 2; omega), isT_wne (by decide), isT_w, if_neg (by simp), if_pos rfl], fun _ rest => isT_wne (by decide)⟩
      by_cases c4 : op = 4
      · subst c4
        obtain ⟨s, rfl⟩ : ∃ s, ns = [s] := by
          have hl1 : ns.length = 1 := by simpa [namN] using o5
          match ns, hl1 with
          | [s], _ => exact ⟨s, rfl⟩
        have hv := o6 s (by simp)
        have e1 : toksE (.mk 4 0 [s] []) o = [wT s o] := by rw [toksE, if_neg (by omega), if_neg (by omega), if_neg (by omega), if_pos rfl]; rfl
        rw [e1]
        refine ⟨fun rest => ?_, fun _ rest => isT_ne (name_key hv kNot)⟩
        have n1 : isT wTrue (wT s o :: rest) = false := isT_ne (name_key hv kTrue)
        have n2 : isT wFalse (wT s o :: rest) = false := isT_ne (name_key hv kFalse)
        have n3 : isT wCount (wT s o :: rest) = false := isT_ne (name_key hv kCount)
        have n4 : isT wMembers (wT s o :: rest) = false := isT_ne (name_key hv kMembers)
        have n5 : isT wLp (wT s o :: rest) = false := isT_ne (fun h => by
          have h6 := hv.2.2.2 0 40 (Nat.le_refl _) (by rw [show s = wLp from h]; rfl)
          exact absurd h6.1 (by decide))
        rw [List.singleton_append, primP, if_neg (by show ¬(1 : Nat) = 2; omega), n1, n2, n3, n4, n5]
        simp only [Bool.false_eq_true, if_false]
        rw [nameT_ok hv, bindR_ok]
      by_cases c5 : op = 5
      · subst c5
        have hl1 : 1 ≤ ns.length ∧ ns.length ≤ 8 := by simpa [namN] using o5
        have e1 : toksE (.mk 5 0 ns []) o = wT wCount o :: sT wLp (o + 5) :: (namesK ns (o + 6) ++ [sT wRp (o + 6 + (joinB ns).size)]) := by rw [toksE, if_neg (by omega), if_neg (by omega), if_neg (by omega), if_neg (by omega), if_pos rfl]
        rw [e1]
        refine ⟨fun rest => ?_, fun _ rest => isT_wne (by decide)⟩
        simp only [List.cons_append, List.append_assoc, List.nil_append]
        rw [primP, if_neg (by show ¬(1 : Nat) = 2; omega), isT_wne (by decide), isT_wne (by decide), isT_w]
        simp only [Bool.false_eq_true, if_false, if_true]
        rw [namesP_ok hl1.1 o6 (.inl rfl), bindR_ok]
      · have c6 : op = 6 := by omega
        subst c6
        obtain ⟨s, rfl⟩ : ∃ s, ns = [s] := by
          have hl1 : ns.length = 1 := by simpa [namN] using o5
          match ns, hl1 with
          | [s], _ => exact ⟨s, rfl⟩
        have e1 : toksE (.mk 6 0 [s] []) o = wT wMembers o :: sT wLp (o + 7) :: (namesK [s] (o + 8) ++ [sT wRp (o + 8 + s.size)]) := by rw [toksE, if_neg (by omega), if_neg (by omega), if_neg (by omega), if_neg (by omega), if_neg (by omega), if_pos rfl]; rfl
        rw [e1]
        refine ⟨fun rest => ?_, fun _ rest => isT_wne (by decide)⟩
        simp only [List.cons_append, List.append_assoc, List.nil_append]
        rw [primP, if_neg (by show ¬(1 : Nat) = 2; omega), isT_wne (by decide), isT_wne (by decide), isT_wne (by decide), isT_w]
        simp only [Bool.false_eq_true, if_false, if_true]
        rw [namesP_ok (by simp) o6 (.inr rfl), bindR_ok]
    have hv0 := o4 (by omega)
    subst hv0
    have hns : ns = [] := List.eq_nil_of_length_eq_zero (by
      unfold namN at o5
      rw [if_neg (by omega), if_neg (by omega)] at o5; exact o5)
    subst hns
    by_cases d7 : op = 7
    · subst d7
      obtain ⟨a, rfl⟩ : ∃ a, al = [a] := by
        have hl1 : al.length = 1 := by rw [o3]; rfl
        match al, hl1 with
        | [a], _ => exact ⟨a, rfl⟩
      have ga := ih a (by rw [sizL, sizL] at hsz; omega) (nodeL_zero hargs a (by simp))
      have hd : depE a + 1 ≤ f := by rw [depL, depL] at hf; omega
      have e1 : toksE (.mk 7 0 [] [a]) o = wT wNot o :: oprK a 4 (o + 4) := by
        rw [toksE, if_neg (by omega), if_neg (by omega), if_neg (by omega), if_neg (by omega), if_neg (by omega), if_neg (by omega), toksL, toksL]; rfl
      rw [e1]
      have h4 : C4 (primP (exprP f)) (oprK a 4 (o + 4)) a := (ga f hd 4 (o + 4) (by omega) (by omega)).1
      exact ⟨b_not h4, fun h => absurd h (by decide)⟩
    obtain ⟨a, b, rfl⟩ : ∃ a b, al = [a, b] := by
      have hl1 : al.length = 2 := by rw [o3, argN, if_neg c7, if_neg d7]
      match al, hl1 with
      | [a, b], _ => exact ⟨a, b, rfl⟩
    have ga := ih a (by rw [sizL, sizL, sizL] at hsz; omega) (nodeL_zero hargs a (by simp))
    have gb := ih b (by rw [sizL, sizL, sizL] at hsz; omega) (nodeL_zero hargs b (by simp))
    have hda : depE a + 1 ≤ f := by rw [depL, depL, depL] at hf; omega
    have hdb : depE b + 1 ≤ f := by rw [depL, depL, depL] at hf; omega
    have e1 : toksE (.mk op 0 [] [a, b]) o = oprK a (lefN op) o ++ opK op (o + (parB (strN a.op) (textE a) (lefN op)).size + 1) :: oprK b (rigN op) (o + (parB (strN a.op) (textE a) (lefN op)).size + (wordB op).size) := by
      rw [toksE, if_neg (by omega), if_neg (by omega), if_neg (by omega), if_neg (by omega), if_neg (by omega), if_neg (by omega), toksL, toksL, toksL]; rfl
    rw [e1]
    generalize o + (parB (strN a.op) (textE a) (lefN op)).size + 1 = p1
    generalize o + (parB (strN a.op) (textE a) (lefN op)).size + (wordB op).size = p2
    have ha := fun k h1 h7 => (ga f hda k o h1 h7).1
    have hb := fun k h1 h7 => (gb f hdb k p2 h1 h7).1
    by_cases e8 : op = 8
    · subst e8
      exact ⟨b_and (ha 3 (by omega) (by omega)) (hb 4 (by omega) (by omega)), fun h => absurd h (by decide)⟩
    by_cases e9 : op = 9
    · subst e9
      exact ⟨b_or (ha 2 (by omega) (by omega)) (hb 3 (by omega) (by omega)), fun h => absurd h (by decide)⟩
    by_cases e10 : op = 10
    · subst e10
      exact ⟨b_arr (ha 2 (by omega) (by omega)) (hb 1 (by omega) (by omega)), fun h => absurd h (by decide)⟩
    by_cases e16 : op = 16
    · subst e16
      exact ⟨b_add (ha 6 (by omega) (by omega)) (hb 7 (by omega) (by omega)), fun _ => hdN_append ((ga f hda 6 o (by omega) (by omega)).2 (by omega))⟩
    have h5 : strN op = 5 := by unfold strN; rw [if_neg (by omega), if_neg (by omega), if_neg (by omega), if_neg (by omega), if_pos (by omega)]
    have hl6 : lefN op = 6 := by rw [lefN, if_neg e10, if_pos h5, h5]
    have hr6 : rigN op = 6 := by rw [rigN, if_neg e10, h5]
    rw [h5, hl6, hr6]
    exact ⟨b_cmp (by omega) (by omega) (ha 6 (by omega) (by omega)) (hb 6 (by omega) (by omega)), fun _ => hdN_append ((ga f hda 6 o (by omega) (by omega)).2 (by omega))⟩
/-- The tokens of a whole text. -/
theorem parse_back {e : Ex} (h : nodeE e = 0) {f o : Nat} (hf : depE e + 1 < f) {rest : List Tk} (hs : Stop 1 rest) : exprP f (toksE e o ++ rest) = .ok (e, rest) := by
  obtain ⟨f, rfl⟩ : ∃ q, f = q + 1 := ⟨f - 1, by omega⟩
  have hg : C1 (primP (exprP f)) (oprK e 1 o) e := (good_all _ e (Nat.le_refl _) h f (by omega) 1 o (by omega) (by omega)).1
  have e1 : oprK e 1 o = toksE e o := by rw [oprK, parK, if_neg (by have := (strN_pos e.op).1; omega)]
  rw [e1] at hg
  rw [exprP_succ]
  exact hg rest _ hs (Nat.lt_succ_self _)
end Go.Proofs.YtnabbnhefjfegaaGreatDoor
namespace Go.Proofs.YtnabbnhefjfegaaGreatDoor
open Go.RowKit
/-- A text whose tokens are those of an expression at level k. -/
def RenP (k : Nat) (t : List UInt8) (e : Ex) : Prop := ∃ ts : Nat → List Tk, LxW t ts ∧ ∀ o f, (ts o).length + 1 ≤ f → Ck (primP (exprP f)) k (ts o) e ∧ (5 ≤ k → hdN (ts o))
theorem oprK_len (a : Ex) (k o : Nat) (h : ∀ o, depE a ≤ (toksE a o).length) : depE a ≤ (oprK a k o).length := by
  unfold oprK parK
  split
  · rw [List.length_cons, List.length_append]; have := h (o + 1); omega
  · exact h o
theorem toks_len : ∀ (n : Nat) (e : Ex), sizE e ≤ n → nodeE e = 0 → ∀ o, depE e ≤ (toksE e o).length := by
  intro n
  induction n with
  | zero => intro e h; cases e; rw [sizE] at h; omega
  | succ n ih =>
    intro e hsz hnode o
    cases e with
    | mk op v ns al =>
    obtain ⟨hown, hargs⟩ := node_ok hnode
    obtain ⟨o1, o2, o3, o4, o5, o6, o7, o8, o9⟩ := own_ok hown
    rw [sizE] at hsz
    by_cases c7 : op < 7
    · have hal : al = [] := List.eq_nil_of_length_eq_zero (by rw [o3, argN, if_pos c7])
      subst hal
      have hd : depE (.mk op v ns []) = 1 := by rw [depE, depL]
      rw [hd, toksE]
      by_cases c1 : op = 1
      · rw [if_pos c1]; exact Nat.le_refl _
      rw [if_neg c1]
      by_cases c2 : op = 2
      · rw [if_pos c2]; exact Nat.le_refl _
      rw [if_neg c2]
      by_cases c3 : op = 3
      · rw [if_pos c3]; exact Nat.le_refl _
      rw [if_neg c3]
      by_cases c4 : op = 4
      · rw [if_pos c4]; exact Nat.le_refl _
      rw [if_neg c4]
      by_cases c5 : op = 5
      · rw [if_pos c5]; exact Nat.succ_le_succ (Nat.zero_le _)
      rw [if_neg c5, if_pos (by omega)]; exact Nat.succ_le_succ (Nat.zero_le _)
    by_cases d7 : op = 7
    · subst d7
      obtain ⟨a, rfl⟩ : ∃ a, al = [a] := by
        have hl1 : al.length = 1 := by rw [o3]; rfl
        match al, hl1 with
        | [a], _ => exact ⟨a, rfl⟩
      have ga := oprK_len a 4 (o + 4) (ih a (by rw [sizL, sizL] at hsz; omega) (nodeL_zero hargs a (by simp)))
      have e1 : toksE (.mk 7 v ns [a]) o = wT wNot o :: oprK a 4 (o + 4) := by
        rw [toksE, if_neg (by omega), if_neg (by omega), if_neg (by omega), if_neg (by omega), if_neg (by omega), if_neg (by omega), toksL, toksL]; rfl
      rw [depE, depL, depL, e1, List.length_cons]
      omega
    obtain ⟨a, b, rfl⟩ : ∃ a b, al = [a, b] := by
      have hl1 : al.length = 2 := by rw [o3, argN, if_neg c7, if_neg d7]
      match al, hl1 with
      | [a, b], _ => exact ⟨a, b, rfl⟩
    have ga := oprK_len a (lefN op) o (ih a (by rw [sizL, sizL, sizL] at hsz; omega) (nodeL_zero hargs a (by simp)))
    have gb := oprK_len b (rigN op) (o + (parB (strN a.op) (textE a) (lefN op)).size + (wordB op).size) (ih b (by rw [sizL, sizL, sizL] at hsz; omega) (nodeL_zero hargs b (by simp)))
    have e1 : toksE (.mk op v ns [a, b]) o = oprK a (lefN op) o ++ opK op (o + (parB (strN a.op) (textE a) (lefN op)).size + 1) :: oprK b (rigN op) (o + (parB (strN a.op) (textE a) (lefN op)).size + (wordB op).size) := by
      rw [toksE, if_neg (by omega), if_neg (by omega), if_neg (by omega), if_neg (by omega), if_neg (by omega), if_neg (by omega), toksL, toksL, toksL]; rfl
    rw [depE, depL, depL, depL, e1, List.length_append, List.length_cons]
    omega
theorem RenP.down {k : Nat} {t : List UInt8} {e : Ex} (h : RenP k t e) (hk : k ≤ 7) (j : Nat) (h1 : 1 ≤ j) (h2 : j ≤ k) : RenP j t e := by
  obtain ⟨ts, hl, hc⟩ := h
  exact ⟨ts, hl, fun o f hf => ⟨Ck.down (hc o f hf).1 hk (hc o f hf).2 j h1 h2, fun h5 => (hc o f hf).2 (by omega)⟩⟩
/-- Two operands in parentheses, or of one token, with an operator between them. -/
theorem RenP.two {op : Nat} {t t' : List UInt8} {e e' : Ex} (h1 : 8 ≤ op) (h2 : op ≤ 16) (h : RenP 7 t e) (h' : RenP 7 t' e') : RenP (strN op) (t ++ bl (wordB op) ++ t') (two op e e') := by
  have g : ∀ k, 1 ≤ k → k ≤ 7 → RenP k t e := fun k h1 h2 => h.down (Nat.le_refl _) k h1 h2
  obtain ⟨ts, hl, hc⟩ := h
  obtain ⟨ts', hl', hc'⟩ := h'
  have hlx : LxW (t ++ bl (wordB op) ++ t') (fun o => ts o ++ opK op (o + t.length + 1) :: ts' (o + (t ++ bl (wordB op)).length)) := by
    refine LxW.of (LxS.appW (hl.appS (lx_op h1 h2) (op_ndel h1 h2)) hl') rfl fun o => ?_
    simp
  refine ⟨_, hlx, fun o f hf => ?_⟩
  rw [List.length_append, List.length_cons] at hf
  have ca := hc o f (by omega)
  have cb := hc' (o + (t ++ bl (wordB op)).length) f (by omega)
  generalize ts o = u at ca ⊢
  generalize ts' (o + (t ++ bl (wordB op)).length) = u' at cb ⊢
  generalize o + t.length + 1 = p1
  have ha : ∀ k, 1 ≤ k → k ≤ 7 → Ck (primP (exprP f)) k u e := fun k h1 h2 => Ck.down ca.1 (Nat.le_refl _) ca.2 k h1 h2
  have hb : ∀ k, 1 ≤ k → k ≤ 7 → Ck (primP (exprP f)) k u' e' := fun k h1 h2 => Ck.down cb.1 (Nat.le_refl _) cb.2 k h1 h2
  have hn : hdN u := ca.2 (by omega)
  by_cases e8 : op = 8
  · subst e8
    exact ⟨b_and (ha 3 (by omega) (by omega)) (hb 4 (by omega) (by omega)), fun h => absurd h (by decide)⟩
  by_cases e9 : op = 9
  · subst e9
    exact ⟨b_or (ha 2 (by omega) (by omega)) (hb 3 (by omega) (by omega)), fun h => absurd h (by decide)⟩
  by_cases e10 : op = 10
  · subst e10
    exact ⟨b_arr (ha 2 (by omega) (by omega)) (hb 1 (by omega) (by omega)), fun h => absurd h (by decide)⟩
  by_cases e16 : op = 16
  · subst e16
    exact ⟨b_add (ha 6 (by omega) (by omega)) (hb 7 (by omega) (by omega)), fun _ => hdN_append hn⟩
  have h5 : strN op = 5 := by unfold strN; rw [if_neg (by omega), if_neg (by omega), if_neg (by omega), if_neg (by omega), if_pos (by omega)]
  rw [h5]
  exact ⟨b_cmp (by omega) (by omega) (ha 6 (by omega) (by omega)) (hb 6 (by omega) (by omega)), fun _ => hdN_append hn⟩
/-- A whole text. -/
theorem RenP.parse {s : ByteArray} {e : Ex} (h : RenP 1 (bl s) e) : ∃ ts : List Tk, scanL s.size (bl s) = .ok ts ∧ ∃ x : Tk, x.kind = 0 ∧ exprP (ts.length + 1) ts = .ok (e, [x]) := by
  obtain ⟨ts, hl, hc⟩ := h
  have h1 := hl s.size [] trivial (by rw [List.append_nil, bl_size]; exact Nat.le_refl _)
  rw [List.append_nil, scan_end, bl_size, Nat.sub_self] at h1
  refine ⟨_, h1, ⟨0, ⟨#[]⟩, 0, s.size⟩, rfl, ?_⟩
  have hb : C1 (primP (exprP ((ts 0).length + 1))) (ts 0) e := (hc 0 _ (Nat.le_refl _)).1
  rw [List.length_append]
  rw [show (ts 0).length + [(⟨0, ⟨#[]⟩, 0, s.size⟩ : Tk)].length + 1 = ((ts 0).length + 1) + 1 from rfl, exprP_succ]
  exact hb _ _ ⟨fun _ => rfl, fun _ => rfl, fun _ => rfl, fun _ c hc => rfl, fun _ => rfl⟩ (Nat.lt_succ_self _)
end Go.Proofs.YtnabbnhefjfegaaGreatDoor
namespace Go.Proofs.YtnabbnhefjfegaaGreatDoor
open Go.RowKit
end Go.Proofs.YtnabbnhefjfegaaGreatDoor
namespace Go.Proofs.YtnabbnhefjfegaaGreatDoor
open Go.RowKit
end Go.Proofs.YtnabbnhefjfegaaGreatDoor
namespace Go.Proofs.YtnabbnhefjfegaaGreatDoor
open Go.RowKit
def modeW (c : Con) : ByteArray := if c.enf then wEnforce else wDeclare
def kindW (k : Nat) : ByteArray := if k = 1 then wStatic else if k = 2 then wDynamic else wUsers
/-- A line without its semicolon. -/
def line0 (c : Con) : List UInt8 := bl (modeB c) ++ bl (kindB c.kind) ++ bl c.name ++ [58] ++ [32] ++ bl (textE c.ex)
def tok0 (c : Con) (o : Nat) : List Tk := [wT (modeW c) o] ++ [wT (kindW c.kind) (o + (bl (modeB c)).length)] ++ [wT c.name (o + (bl (modeB c) ++ bl (kindB c.kind)).length)] ++ [sT wColon (o + (bl (modeB c) ++ bl (kindB c.kind) ++ bl c.name).length)] ++ toksE c.ex (o + (bl (modeB c) ++ bl (kindB c.kind) ++ bl c.name ++ [58] ++ [32]).length)
/-- A constraint whose line is read back. -/
def conOk (c : Con) : Prop := 1 ≤ c.kind ∧ c.kind ≤ 3 ∧ validS c.name ∧ nodeE c.ex = 0
theorem lx_mode (c : Con) : LxS (bl (modeB c)) (fun o => [wT (modeW c) o]) := by
  have h1 : LxW (bl wEnforce) (fun o => [wT wEnforce o]) := lx_word rfl (by decide) (by decide)
  have h2 : LxW (bl wDeclare) (fun o => [wT wDeclare o]) := lx_word rfl (by decide) (by decide)
  unfold modeB modeW
  split
  · exact (h1.appS lx_blank fun r => by simp [ndel]; decide).of rfl fun o => by simp
  · exact (h2.appS lx_blank fun r => by simp [ndel]; decide).of rfl fun o => by simp
theorem lx_kind {k : Nat} (h1 : 1 ≤ k) (h3 : k ≤ 3) : LxS (bl (kindB k)) (fun o => [wT (kindW k) o]) := by
  have g1 : LxW (bl wStatic) (fun o => [wT wStatic o]) := lx_word rfl (by decide) (by decide)
  have g2 : LxW (bl wDynamic) (fun o => [wT wDynamic o]) := lx_word rfl (by decide) (by decide)
  have g3 : LxW (bl wUsers) (fun o => [wT wUsers o]) := lx_word rfl (by decide) (by decide)
  match k, h1, h3 with
  | 1, _, _ => exact (g1.appS lx_blank fun r => by simp [ndel]; decide).of rfl fun o => by simp [kindW]
  | 2, _, _ => exact (g2.appS lx_blank fun r => by simp [ndel]; decide).of rfl fun o => by simp [kindW]
  | 3, _, _ => exact (g3.appS lx_blank fun r => by simp [ndel]; decide).of rfl fun o => by simp [kindW]
theorem lx_colon : LxS [58] (fun o => [sT wColon o]) := lx_sym rfl (by decide) (by decide) fun _ => rfl
theorem lx_semi : LxS [59] (fun o => [sT wSemi o]) := lx_sym rfl (by decide) (by decide) fun _ => rfl
theorem lx_line0 {c : Con} (h : conOk c) : LxW (line0 c) (tok0 c) := by
  obtain ⟨h1, h3, hn, he⟩ := h
  refine (LxS.appW (((LxW.appS (LxS.appW ((lx_mode c).app (lx_kind h1 h3)) (lx_name hn)) lx_colon (fun r => by simp [ndel]; decide)).app lx_blank)) (lx_text _ c.ex (Nat.le_refl _) he)).of rfl fun o => ?_
  simp [tok0]
theorem stop_kind {k : Nat} {t : Tk} {l : List Tk} (h : t.kind = 0) : Stop k (t :: l) := by
  have : ∀ w, isT w (t :: l) = false := fun w => by simp [isT, h]
  exact ⟨fun _ => this _, fun _ => this _, fun _ => this _, fun _ _ _ => this _, fun _ => this _⟩
theorem stop_semi {k o : Nat} {l : List Tk} : Stop k (sT wSemi o :: l) := ⟨fun _ => isT_sne (by decide), fun _ => isT_sne (by decide), fun _ => isT_sne (by decide), fun _ c hc => isT_sne (by revert c; decide), fun _ => isT_sne (by decide)⟩
theorem con_mid {c : Con} (h : conOk c) {F o : Nat} (hF : depE c.ex + 1 < F) {rest : List Tk} (hs : Stop 1 rest) : conP (exprP F) (tok0 c o ++ rest) = bindR (expT wSemi rest) fun _ l => .ok (c, l) := by
  obtain ⟨h1, h3, hn, he⟩ := h
  have hk2 : ∀ en k o1 o2 o3, conK2 (exprP F) en k (wT c.name o1 :: sT wColon o2 :: (toksE c.ex o3 ++ rest)) = bindR (expT wSemi rest) fun _ l => .ok (⟨en, k, c.name, c.ex⟩, l) := fun en k o1 o2 o3 => by
    rw [conK2, nameT_ok hn, bindR_ok, expT_ok, bindR_ok, parse_back he hF hs, bindR_ok]
  have hk1 : ∀ en o0 o1 o2 o3, conK1 (exprP F) en (wT (kindW c.kind) o0 :: wT c.name o1 :: sT wColon o2 :: (toksE c.ex o3 ++ rest)) = bindR (expT wSemi rest) fun _ l => .ok (⟨en, c.kind, c.name, c.ex⟩, l) := fun en o0 o1 o2 o3 => by
    generalize hq : c.kind = q at h1 h3 ⊢
    match q, h1, h3 with
    | 1, _, _ => rw [show kindW 1 = wStatic from rfl, conK1, isT_w, if_pos rfl, List.tail_cons, hk2]
    | 2, _, _ => rw [show kindW 2 = wDynamic from rfl, conK1, isT_wne (by decide), if_neg (by simp), isT_w, if_pos rfl, List.tail_cons, hk2]
    | 3, _, _ =>
      have hx : ∀ l, expT wUsers (wT wUsers o0 :: l) = .ok ((), l) := fun l => by rw [expT, isT_w, if_pos rfl]; rfl
      rw [show kindW 3 = wUsers from rfl, conK1, isT_wne (by decide), if_neg (by simp), isT_wne (by decide), if_neg (by simp), hx, bindR_ok, hk2]
  obtain ⟨en, k, nm, ex⟩ := c
  simp only [tok0, List.append_assoc, List.cons_append, List.nil_append]
  cases en with
  | true =>
    rw [show modeW ⟨true, k, nm, ex⟩ = wEnforce from rfl, conP, isT_w, if_pos rfl, List.tail_cons]
    exact hk1 _ _ _ _ _
  | false =>
    have hx : ∀ o l, expT wDeclare (wT wDeclare o :: l) = .ok ((), l) := fun o l => by rw [expT, isT_w, if_pos rfl]; rfl
    rw [show modeW ⟨false, k, nm, ex⟩ = wDeclare from rfl, conP, isT_wne (by decide), if_neg (by simp), hx, bindR_ok]
    exact hk1 _ _ _ _ _
/-- A text whose tokens are those of constraints. -/
def SrcP (t : List UInt8) (cs : List Con) : Prop := ∃ ts : Nat → List Tk, LxS t ts ∧ ∀ o, cs.length ≤ (ts o).length ∧ (∀ c ∈ cs, depE c.ex < (ts o).length) ∧ ∀ F, (∀ c ∈ cs, depE c.ex + 1 < F) → ∀ k pre rest, consP (exprP F) (k + cs.length) pre (ts o ++ rest) = consP (exprP F) k (pre ++ cs) rest
theorem SrcP.nil : SrcP [] [] := ⟨fun _ => [], fun N r _ => by rw [List.nil_append, appR_nil], fun o => ⟨Nat.le_refl _, fun c h => (by cases h), fun F _ k pre rest => by rw [List.append_nil]; rfl⟩⟩
theorem SrcP.nl : SrcP [10] [] := ⟨fun _ => [], fun N r _ => by rw [List.singleton_append, scan_nl, appR_nil], fun o => ⟨Nat.le_refl _, fun c h => (by cases h), fun F _ k pre rest => by rw [List.append_nil]; rfl⟩⟩
theorem SrcP.app {t t' : List UInt8} {cs cs' : List Con} (h : SrcP t cs) (h' : SrcP t' cs') : SrcP (t ++ t') (cs ++ cs') := by
  obtain ⟨ts, hl, hc⟩ := h
  obtain ⟨ts', hl', hc'⟩ := h'
  refine ⟨_, hl.app hl', fun o => ?_⟩
  obtain ⟨a1, a2, a3⟩ := hc o
  obtain ⟨b1, b2, b3⟩ := hc' (o + t.length)
  refine ⟨by simp only [List.length_append]; omega, fun c hm => ?_, fun F hF k pre rest => ?_⟩
  · rw [List.length_append]
    rcases List.mem_append.1 hm with hm | hm
    · have := a2 c hm; omega
    · have := b2 c hm; omega
  · rw [List.length_append, List.append_assoc, show k + (cs.length + cs'.length) = (k + cs'.length) + cs.length by omega, a3 F (fun c hm => hF c (List.mem_append_left _ hm)), b3 F (fun c hm => hF c (List.mem_append_right _ hm)), List.append_assoc]
theorem tok0_hd {c : Con} {o : Nat} {l : List Tk} : hdK (tok0 c o ++ l) = 1 := by simp [tok0, hdK, wT]
theorem tok0_len {c : Con} (h : conOk c) (o : Nat) : depE c.ex + 4 ≤ (tok0 c o).length := by
  have := toks_len _ c.ex (Nat.le_refl _) h.2.2.2 (o + (bl (modeB c) ++ bl (kindB c.kind) ++ bl c.name ++ [58] ++ [32]).length)
  simp only [tok0, List.length_append, List.length_cons, List.length_nil] at this ⊢
  omega
theorem SrcP.line {c : Con} (h : conOk c) : SrcP (line0 c ++ [59]) [c] := by
  refine ⟨_, (lx_line0 h).appS lx_semi (fun r => by simp [ndel]; decide), fun o => ⟨?_, fun d hd => ?_, fun F hF k pre rest => ?_⟩⟩
  · simp
  · rw [List.mem_singleton.1 hd, List.length_append]
    have := tok0_len h o
    omega
  · rw [List.append_assoc, List.singleton_append, List.length_singleton, consP, if_neg (by rw [tok0_hd]; decide), con_mid h (hF c (by simp)) stop_semi, expT_ok, bindR_ok]
theorem lineB_bl (c : Con) : bl (lineB c) = line0 c ++ [59] ++ [10] := by
  simp only [lineB, line0, bl_app]
  simp [bl]
theorem SrcP.lines : ∀ {cs : List Con}, (∀ c ∈ cs, conOk c) → SrcP (linesL cs) cs
  | [], _ => SrcP.nil
  | c :: cs, h => by
    have h1 := (SrcP.line (h c (by simp))).app (SrcP.nl.app (SrcP.lines (cs := cs) fun d hd => h d (by simp [hd])))
    have e : linesL (c :: cs) = line0 c ++ [59] ++ ([10] ++ linesL cs) := by
      rw [linesL, List.map_cons, List.flatten_cons]
      show bl (lineB c) ++ linesL cs = _
      rw [lineB_bl]
      simp only [List.append_assoc]
    rw [e]
    exact h1
/-- A whole source. -/
theorem SrcP.parse {s : ByteArray} {cs : List Con} (h : SrcP (bl s) cs) (hs : s.size ≤ 8000) : parseM s = if chkAll cs = 0 then .ok cs else .error (0, chkAll cs) := by
  obtain ⟨ts, hl, hc⟩ := h
  have h1 := hl s.size [] (by rw [List.append_nil, bl_size]; exact Nat.le_refl _)
  rw [List.append_nil, scan_end, bl_size, Nat.sub_self] at h1
  have hb : begM s = .ok (ts 0 ++ [⟨0, ⟨#[]⟩, 0, s.size⟩]) := by rw [begM, if_neg (by omega), h1]; rfl
  obtain ⟨a1, a2, a3⟩ := hc 0
  have h2 : consP (exprP ((ts 0 ++ [(⟨0, ⟨#[]⟩, 0, s.size⟩ : Tk)]).length + 1)) ((ts 0 ++ [(⟨0, ⟨#[]⟩, 0, s.size⟩ : Tk)]).length + 1) [] (ts 0 ++ [⟨0, ⟨#[]⟩, 0, s.size⟩]) = .ok cs := by
    obtain ⟨k, hk⟩ : ∃ k, (ts 0 ++ [(⟨0, ⟨#[]⟩, 0, s.size⟩ : Tk)]).length + 1 = (k + 1) + cs.length := ⟨(ts 0).length + 1 - cs.length, by simp only [List.length_append, List.length_cons, List.length_nil]; omega⟩
    rw [hk, a3 _ (fun c hm => by have := a2 c hm; simp only [List.length_append, List.length_cons, List.length_nil] at hk; omega), List.nil_append, consP_stop rfl]
  rw [parseM, hb]
  simp only [h2]
/-- The last semicolon lacks. -/
theorem SrcP.open {s : ByteArray} {t : List UInt8} {cs : List Con} {c : Con} (h : SrcP t cs) (hc : conOk c) (e : bl s = t ++ line0 c) (hs : s.size ≤ 8000) : parseM s = .error (s.size, 8) := by
  obtain ⟨ts, hl, hd⟩ := h
  have hx := LxS.appW hl (lx_line0 hc)
  rw [← e] at hx
  have h1 := hx s.size [] trivial (by rw [List.append_nil, bl_size]; exact Nat.le_refl _)
  rw [List.append_nil, scan_end, bl_size, Nat.sub_self] at h1
  simp only [Nat.zero_add] at h1
  have hb : begM s = .ok ((ts 0 ++ tok0 c t.length) ++ [⟨0, ⟨#[]⟩, 0, s.size⟩]) := by rw [begM, if_neg (by omega), h1]; rfl
  obtain ⟨a1, a2, a3⟩ := hd 0
  have hln := tok0_len hc t.length
  have h2 : consP (exprP (((ts 0 ++ tok0 c t.length) ++ [(⟨0, ⟨#[]⟩, 0, s.size⟩ : Tk)]).length + 1)) (((ts 0 ++ tok0 c t.length) ++ [(⟨0, ⟨#[]⟩, 0, s.size⟩ : Tk)]).length + 1) [] ((ts 0 ++ tok0 c t.length) ++ [⟨0, ⟨#[]⟩, 0, s.size⟩]) = .error (s.size, 8) := by
    obtain ⟨k, hk⟩ : ∃ k, ((ts 0 ++ tok0 c t.length) ++ [(⟨0, ⟨#[]⟩, 0, s.size⟩ : Tk)]).length + 1 = (k + 1) + cs.length := ⟨(ts 0).length + (tok0 c t.length).length + 1 - cs.length, by simp only [List.length_append, List.length_cons, List.length_nil]; omega⟩
    rw [hk, List.append_assoc, a3 _ (fun d hm => by have := a2 d hm; simp only [List.length_append, List.length_cons, List.length_nil] at hk; omega), consP, if_neg (by rw [tok0_hd]; decide), con_mid hc (by simp only [List.length_append, List.length_cons, List.length_nil] at hk; omega) (stop_kind rfl)]
    rfl
  rw [parseM, hb]
  simp only [h2]
/-- A semicolon too many. -/
theorem SrcP.more {s : ByteArray} {t : List UInt8} {cs : List Con} (h : SrcP t cs) (e : bl s = t ++ [59]) (hs : s.size ≤ 8000) : parseM s = .error (t.length, 8) := by
  obtain ⟨ts, hl, hd⟩ := h
  have hx := LxS.app hl lx_semi
  rw [← e] at hx
  have h1 := hx s.size [] (by rw [List.append_nil, bl_size]; exact Nat.le_refl _)
  rw [List.append_nil, scan_end, bl_size, Nat.sub_self] at h1
  simp only [Nat.zero_add] at h1
  have hb : begM s = .ok ((ts 0 ++ [sT wSemi t.length]) ++ [⟨0, ⟨#[]⟩, 0, s.size⟩]) := by rw [begM, if_neg (by omega), h1]; rfl
  obtain ⟨a1, a2, a3⟩ := hd 0
  have h2 : consP (exprP (((ts 0 ++ [sT wSemi t.length]) ++ [(⟨0, ⟨#[]⟩, 0, s.size⟩ : Tk)]).length + 1)) (((ts 0 ++ [sT wSemi t.length]) ++ [(⟨0, ⟨#[]⟩, 0, s.size⟩ : Tk)]).length + 1) [] ((ts 0 ++ [sT wSemi t.length]) ++ [⟨0, ⟨#[]⟩, 0, s.size⟩]) = .error (t.length, 8) := by
    obtain ⟨k, hk⟩ : ∃ k, ((ts 0 ++ [sT wSemi t.length]) ++ [(⟨0, ⟨#[]⟩, 0, s.size⟩ : Tk)]).length + 1 = (k + 1) + cs.length := ⟨(ts 0).length + 1 + 1 - cs.length, by simp only [List.length_append, List.length_cons, List.length_nil]; omega⟩
    rw [hk, List.append_assoc, a3 _ (fun d hm => by have := a2 d hm; simp only [List.length_append, List.length_cons, List.length_nil] at hk; omega), consP, if_neg (by simp [hdK, sT])]
    rfl
  rw [parseM, hb]
  simp only [h2]
theorem conOk_of {cs : List Con} (h : chkAll cs = 0) : cs.length ≤ 32 ∧ (linesL cs).length ≤ 8000 ∧ chkCs [] cs = 0 ∧ ∀ c ∈ cs, conOk c := by
  rw [chkAll] at h
  split at h
  · cases h
  · split at h
    · rename_i h1; exact absurd h h1
    · rename_i h1
      split at h
      · cases h
      · refine ⟨by omega, by omega, by simpa using h1, fun c hc => ?_⟩
        obtain ⟨g1, g2, g3, g4⟩ := chkCs_mem (by simpa using h1) c hc
        exact ⟨g1, g2, g3, chkE_node g4⟩
end Go.Proofs.YtnabbnhefjfegaaGreatDoor
namespace Go.Proofs.YtnabbnhefjfegaaGreatDoor
open Go.RowKit
end Go.Proofs.YtnabbnhefjfegaaGreatDoor
namespace Go.Proofs.YtnabbnhefjfegaaGreatDoor
open Go.RowKit
end Go.Proofs.YtnabbnhefjfegaaGreatDoor
namespace Go.Proofs.YtnabbnhefjfegaaGreatDoor
open Go.RowKit
def rcTi (t : Tk) : List Value := [.int .i64 (t.kind : Int), .string t.text, .int .i64 (t.num : Int), .int .i64 (t.off : Int)]
end Go.Proofs.YtnabbnhefjfegaaGreatDoor
namespace Go.Proofs.YtnabbnhefjfegaaGreatDoor
open Go.RowKit
structure TksI (X : PMap) (v : Value) (ts : List Tk) : Prop where
  row : RowR rcTi X v ts
  len : ts.length < 1000000
  fin : ∀ t, ts[ts.length - 1]? = some t → t.kind = 0
  num : ∀ t ∈ ts, t.kind = 2 → t.num ≤ 999999
theorem TksI.mono {X X' : PMap} {v : Value} {ts : List Tk} (h : TksI X v ts) (hX : X.le X') : TksI X' v ts := ⟨h.row.mono hX, h.len, h.fin, h.num⟩
end Go.Proofs.YtnabbnhefjfegaaGreatDoor
namespace Go.Proofs.YtnabbnhefjfegaaGreatDoor
open Go.RowKit
end Go.Proofs.YtnabbnhefjfegaaGreatDoor
namespace Go.Proofs.YtnabbnhefjfegaaGreatDoor
open Go.RowKit
end Go.Proofs.YtnabbnhefjfegaaGreatDoor
namespace Go.Proofs.YtnabbnhefjfegaaGreatDoor
open Go.RowKit
end Go.Proofs.YtnabbnhefjfegaaGreatDoor
namespace Go.Proofs.YtnabbnhefjfegaaGreatDoor
open Go.RowKit
end Go.Proofs.YtnabbnhefjfegaaGreatDoor
namespace Go.Proofs.YtnabbnhefjfegaaGreatDoor
open Go.RowKit
end Go.Proofs.YtnabbnhefjfegaaGreatDoor
namespace Go.Proofs.YtnabbnhefjfegaaGreatDoor
open Go.RowKit
end Go.Proofs.YtnabbnhefjfegaaGreatDoor
namespace Go.Proofs.YtnabbnhefjfegaaGreatDoor
open Go.RowKit
end Go.Proofs.YtnabbnhefjfegaaGreatDoor
namespace Go.Proofs.YtnabbnhefjfegaaGreatDoor
open Go.RowKit
end Go.Proofs.YtnabbnhefjfegaaGreatDoor
namespace Go.Proofs.YtnabbnhefjfegaaGreatDoor
open Go.RowKit
end Go.Proofs.YtnabbnhefjfegaaGreatDoor
namespace Go.Proofs.YtnabbnhefjfegaaGreatDoor
section
set_option maxRecDepth 100000
theorem fa84_0 : FAdr Tryz.prog 84 0 0 := fadr_mk Tryz.underlying84 rfl rfl (by kernel_rfl)
theorem fa84_1 : FAdr Tryz.prog 84 1 1 := fadr_mk Tryz.underlying84 rfl rfl (by kernel_rfl)
theorem fa84_2 : FAdr Tryz.prog 84 2 2 := fadr_mk Tryz.underlying84 rfl rfl (by kernel_rfl)
theorem fa84_3 : FAdr Tryz.prog 84 3 3 := fadr_mk Tryz.underlying84 rfl rfl (by kernel_rfl)
theorem ty84 : Ty Tryz.prog 84 true 7 := ⟨⟨_, Tryz.underlying84, rfl⟩, by kernel_rfl⟩
end
open Go.RowKit
abbrev r1 : Row4 := (.int .i64 0, .int .i64 0, .slice none 0 0, .slice none 0 0)
end Go.Proofs.YtnabbnhefjfegaaGreatDoor
namespace Go.Proofs.YtnabbnhefjfegaaGreatDoor
open Go.RowKit
end Go.Proofs.YtnabbnhefjfegaaGreatDoor
namespace Go.Proofs.YtnabbnhefjfegaaGreatDoor
open Go.RowKit
end Go.Proofs.YtnabbnhefjfegaaGreatDoor
namespace Go.Proofs.YtnabbnhefjfegaaGreatDoor
open Go.RowKit
end Go.Proofs.YtnabbnhefjfegaaGreatDoor
namespace Go.Proofs.YtnabbnhefjfegaaGreatDoor
open Go.RowKit
theorem expr17_ok {X : PMap} {s : ByteArray} {e : Ex} (h : exprM s = .ok e) (hs : s.size < 1000000000) : Spec Tryz.prog 20 [.string s] X fun u X' => ∃ r : Row4, u = .tuple #[.agg #[r.1, r.2.1, r.2.2.1, r.2.2.2], .int .i64 0, .int .i64 0] ∧ ExR .u8 X' e r := by
  have := expr17_spec (X := X) hs
  simp only [h] at this
  exact this
theorem expr17_err {X : PMap} {s : ByteArray} {x : Nat × Int} (h : exprM s = .error x) (hs : s.size < 1000000000) : Spec Tryz.prog 20 [.string s] X fun u _ => u = .tuple #[.agg #[.int .u8 0, .int .i64 0, .slice none 0 0, .slice none 0 0], .int .i64 (x.1 : Int), .int .i64 x.2] := by
  have := expr17_spec (X := X) hs
  simp only [h] at this
  exact this
def aw1 : List (ByteArray × ByteArray) := [(⟨#[97, 32, 111, 114, 32, 98, 32, 97, 110, 100, 32, 110, 111, 116, 32, 99, 32, 45, 62, 32, 100]⟩, ⟨#[97, 32, 111, 114, 32, 98, 32, 97, 110, 100, 32, 110, 111, 116, 32, 99, 32, 45, 62, 32, 100]⟩), (⟨#[110, 111, 116, 40, 99, 111, 117, 110, 116, 40, 97, 44, 98, 41, 60, 61, 49, 41]⟩, ⟨#[110, 111, 116, 32, 99, 111, 117, 110, 116, 40, 97, 44, 32, 98, 41, 32, 60, 61, 32, 49]⟩), (⟨#[40, 40, 49, 41, 43, 50, 41, 43, 40, 51, 41, 60, 55]⟩, ⟨#[49, 32, 43, 32, 50, 32, 43, 32, 51, 32, 60, 32, 55]⟩)]
def aw2 : List (ByteArray × Nat × Int) := [(⟨#[97, 32, 60, 32, 98, 32, 60, 32, 99]⟩, 6, 8), (⟨#[97, 32, 97, 110, 100]⟩, 5, 8), (⟨#[97, 32, 97, 110, 100, 32, 111, 114]⟩, 6, 8), (⟨#[99, 111, 117, 110, 116, 40, 41]⟩, 6, 8), (⟨#[97, 32, 97, 110, 100, 32, 116, 104, 105, 114, 116, 101, 101, 110, 95, 108, 111, 110, 103]⟩, 6, 9), (⟨#[99, 111, 117, 110, 116, 40, 97, 44, 32, 97, 41, 32, 61, 61, 32, 49]⟩, 0, 5)]
def rcA (x : ByteArray × ByteArray) : List Value := [.string x.1, .string x.2]
theorem rcA_len (x : ByteArray × ByteArray) : (rcA x).length = 2 := rfl
def rcB (x : ByteArray × Nat × Int) : List Value := [.string x.1, .int .i64 (x.2.1 : Int), .int .i64 x.2.2]
theorem rcB_len (x : ByteArray × Nat × Int) : (rcB x).length = 3 := rfl
theorem mem3 {α : Type} {a b c : α} {P : α → Prop} (h1 : P a) (h2 : P b) (h3 : P c) : ∀ x ∈ [a, b, c], P x := fun x hx => by
  simp only [List.mem_cons, List.not_mem_nil, or_false] at hx
  rcases hx with rfl | rfl | rfl
  · exact h1
  · exact h2
  · exact h3
def ex1 : Ex := .mk 10 0 [] [.mk 9 0 [] [.mk 4 0 [⟨#[97]⟩] [], .mk 8 0 [] [.mk 4 0 [⟨#[98]⟩] [], .mk 7 0 [] [.mk 4 0 [⟨#[99]⟩] []]]], .mk 4 0 [⟨#[100]⟩] []]
def ex2 : Ex := .mk 7 0 [] [.mk 11 0 [] [.mk 5 0 [⟨#[97]⟩, ⟨#[98]⟩] [], .mk 1 1 [] []]]
def ex3 : Ex := .mk 12 0 [] [.mk 16 0 [] [.mk 16 0 [] [.mk 1 1 [] [], .mk 1 2 [] []], .mk 1 3 [] []], .mk 1 7 [] []]
theorem aw1_1 : exprM ⟨#[97, 32, 111, 114, 32, 98, 32, 97, 110, 100, 32, 110, 111, 116, 32, 99, 32, 45, 62, 32, 100]⟩ = .ok ex1 := by kernel_rfl
theorem aw1c_1 : chkE ex1 = 0 := by kernel_rfl
theorem aw1t_1 : textE ex1 = ⟨#[97, 32, 111, 114, 32, 98, 32, 97, 110, 100, 32, 110, 111, 116, 32, 99, 32, 45, 62, 32, 100]⟩ := by kernel_rfl
theorem aw1w_1 : wtE ex1 < 900000 := of_decide_eq_true (by kernel_rfl)
theorem aw1_2 : exprM ⟨#[110, 111, 116, 40, 99, 111, 117, 110, 116, 40, 97, 44, 98, 41, 60, 61, 49, 41]⟩ = .ok ex2 := by kernel_rfl
theorem aw1c_2 : chkE ex2 = 0 := by kernel_rfl
theorem aw1t_2 : textE ex2 = ⟨#[110, 111, 116, 32, 99, 111, 117, 110, 116, 40, 97, 44, 32, 98, 41, 32, 60, 61, 32, 49]⟩ := by kernel_rfl
theorem aw1w_2 : wtE ex2 < 900000 := of_decide_eq_true (by kernel_rfl)
theorem aw1_3 : exprM ⟨#[40, 40, 49, 41, 43, 50, 41, 43, 40, 51, 41, 60, 55]⟩ = .ok ex3 := by kernel_rfl
theorem aw1c_3 : chkE ex3 = 0 := by kernel_rfl
theorem aw1t_3 : textE ex3 = ⟨#[49, 32, 43, 32, 50, 32, 43, 32, 51, 32, 60, 32, 55]⟩ := by kernel_rfl
theorem aw1w_3 : wtE ex3 < 900000 := of_decide_eq_true (by kernel_rfl)
theorem aw2_1 : exprM ⟨#[97, 32, 60, 32, 98, 32, 60, 32, 99]⟩ = .error (6, 8) := by kernel_rfl
theorem aw2_2 : exprM ⟨#[97, 32, 97, 110, 100]⟩ = .error (5, 8) := by kernel_rfl
theorem aw2_3 : exprM ⟨#[97, 32, 97, 110, 100, 32, 111, 114]⟩ = .error (6, 8) := by kernel_rfl
theorem aw2_4 : exprM ⟨#[99, 111, 117, 110, 116, 40, 41]⟩ = .error (6, 8) := by kernel_rfl
theorem aw2_5 : exprM ⟨#[97, 32, 97, 110, 100, 32, 116, 104, 105, 114, 116, 101, 101, 110, 95, 108, 111, 110, 103]⟩ = .error (6, 9) := by kernel_rfl
theorem aw2_6 : exprM ⟨#[99, 111, 117, 110, 116, 40, 97, 44, 32, 97, 41, 32, 61, 61, 32, 49]⟩ = .error (0, 5) := by kernel_rfl
theorem aw1_ok : ∀ x ∈ aw1, x.1.size < 1000000000 ∧ ∃ e, exprM x.1 = .ok e ∧ chkE e = 0 ∧ textE e = x.2 ∧ wtE e < 900000 :=
  mem3 ⟨of_decide_eq_true (by kernel_rfl), _, aw1_1, aw1c_1, aw1t_1, aw1w_1⟩ ⟨of_decide_eq_true (by kernel_rfl), _, aw1_2, aw1c_2, aw1t_2, aw1w_2⟩ ⟨of_decide_eq_true (by kernel_rfl), _, aw1_3, aw1c_3, aw1t_3, aw1w_3⟩
theorem aw2_ok : ∀ x ∈ aw2, x.1.size < 1000000000 ∧ exprM x.1 = .error (x.2.1, x.2.2) := fun x hx => by
  simp only [aw2, List.mem_cons, List.not_mem_nil, or_false] at hx
  rcases hx with rfl | rfl | rfl | rfl | rfl | rfl
  · exact ⟨of_decide_eq_true (by kernel_rfl), aw2_1⟩
  · exact ⟨of_decide_eq_true (by kernel_rfl), aw2_2⟩
  · exact ⟨of_decide_eq_true (by kernel_rfl), aw2_3⟩
  · exact ⟨of_decide_eq_true (by kernel_rfl), aw2_4⟩
  · exact ⟨of_decide_eq_true (by kernel_rfl), aw2_5⟩
  · exact ⟨of_decide_eq_true (by kernel_rfl), aw2_6⟩
def awS : ByteArray := ⟨#[101, 110, 102, 111, 114, 99, 101, 32, 115, 116, 97, 116, 105, 99, 32, 115, 111, 100, 58, 32, 99, 111, 117, 110, 116, 40, 97, 44, 32, 98, 41, 32, 60, 61, 32, 49, 59, 32, 35, 32, 116, 119, 111, 10, 100, 101, 99, 108, 97, 114, 101, 32, 117, 115, 101, 114, 115, 32, 117, 58, 109, 101, 109, 98, 101, 114, 115, 40, 97, 41, 62, 48, 59]⟩
def awC : List Con := [⟨true, 1, ⟨#[115, 111, 100]⟩, .mk 11 0 [] [.mk 5 0 [⟨#[97]⟩, ⟨#[98]⟩] [], .mk 1 1 [] []]⟩, ⟨false, 3, ⟨#[117]⟩, .mk 14 0 [] [.mk 6 0 [⟨#[97]⟩] [], .mk 1 0 [] []]⟩]
theorem aw3 : parseM awS = .ok awC := by kernel_rfl
end Go.Proofs.YtnabbnhefjfegaaGreatDoor
namespace Go.Proofs.YtnabbnhefjfegaaGreatDoor
section
set_option maxRecDepth 100000
theorem bs76 : ∃ i z, Tryz.prog.info? 76 = some i ∧ i.size = 2 ∧ i.zero = some z ∧ z.cells = ([.string ⟨#[]⟩, .string ⟨#[]⟩] : List Value).toArray := bs_of (by kernel_rfl)
theorem bs78 : ∃ i z, Tryz.prog.info? 78 = some i ∧ i.size = 3 ∧ i.zero = some z ∧ z.cells = ([.string ⟨#[]⟩, .int .i64 0, .int .i64 0] : List Value).toArray := bs_of (by kernel_rfl)
theorem en18 : Enters Tryz.prog 18 := enters_mk Tryz.func18 (by kernel_rfl) rfl
theorem en20 : Enters Tryz.prog 20 := enters_mk Tryz.func20 (by kernel_rfl) rfl
theorem en27 : Enters Tryz.prog 27 := enters_mk Tryz.func27 (by kernel_rfl) rfl
theorem fa76_0 : FAdr Tryz.prog 76 0 0 := fadr_mk Tryz.underlying76 rfl rfl (by kernel_rfl)
theorem fa76_1 : FAdr Tryz.prog 76 1 1 := fadr_mk Tryz.underlying76 rfl rfl (by kernel_rfl)
theorem fa78_0 : FAdr Tryz.prog 78 0 0 := fadr_mk Tryz.underlying78 rfl rfl (by kernel_rfl)
theorem fa78_1 : FAdr Tryz.prog 78 1 1 := fadr_mk Tryz.underlying78 rfl rfl (by kernel_rfl)
theorem fa78_2 : FAdr Tryz.prog 78 2 2 := fadr_mk Tryz.underlying78 rfl rfl (by kernel_rfl)
theorem z76 : Zero Tryz.prog 76 [.string ⟨#[]⟩, .string ⟨#[]⟩] := ⟨zero_of (by kernel_rfl)⟩
theorem st76 : StT Tryz.prog 76 [(0, 1), (1, 1)] [.string ⟨#[]⟩, .string ⟨#[]⟩] := ⟨⟨_, Tryz.underlying76, fun _ => by kernel_rfl, z76⟩⟩
theorem z78 : Zero Tryz.prog 78 [.string ⟨#[]⟩, .int .i64 0, .int .i64 0] := ⟨zero_of (by kernel_rfl)⟩
theorem st78 : StT Tryz.prog 78 [(0, 1), (1, 1), (2, 1)] [.string ⟨#[]⟩, .int .i64 0, .int .i64 0] := ⟨⟨_, Tryz.underlying78, fun _ => by kernel_rfl, z78⟩⟩
theorem ty76 : Ty Tryz.prog 76 true 2 := ⟨⟨_, Tryz.underlying76, rfl⟩, by kernel_rfl⟩
theorem ty78 : Ty Tryz.prog 78 true 3 := ⟨⟨_, Tryz.underlying78, rfl⟩, by kernel_rfl⟩
end
open Go.RowKit
theorem parse_ok {X : PMap} (hP : Pow10 X) {s : ByteArray} {cs : List Con} (h : parseM s = .ok cs) (hs : s.size < 1000000000) : Spec Tryz.prog 18 [.string s] X fun u X' => ∃ v, u = .tuple #[v, .int .i64 0, .int .i64 0] ∧ ConsR X' v cs := by
  have := parse_spec (X := X) hP hs
  simp only [h] at this
  exact this
theorem awake17_spec {X : PMap} (hP : Pow10 X) : Spec Tryz.prog 12 [] X fun u _ => u = .bool true := by
  refine Spec.enter Tryz.func12 rfl Tryz.ntmps12 rfl ?_
  intro w0 hw0
  refine T.seq ?_
  refine T.region ?_
  refine SL.y (op_assign rfl) rfl rfl ?_
  refine SL.nil ?_
  refine T.seq ?_
  refine T.seq ?_
  refine T.region ?_
  refine SL.y (op_build st76 (qs := [(0, _), (1, _)]) rfl rfl) rfl rfl ?_
  refine SL.y (op_build st76 (qs := [(0, _), (1, _)]) rfl rfl) rfl rfl ?_
  refine SL.y (op_build st76 (qs := [(0, _), (1, _)]) rfl rfl) rfl rfl ?_
  refine SL.x (op_buildSlice Tryz.underlying77 bs76 (qs := [(0, _), (1, _), (2, _)]) rfl rfl rfl rfl rfl) rfl rfl ?_
  rintro _ _ _ ⟨B17, rfl, rfl, rfl⟩
  refine SL.y (op_lenS Tryz.underlying77 rfl) rfl rfl ?_
  refine SL.y (op_move (v := .int .i64 ((0 : Nat) : Int)) rfl) rfl rfl ?_
  refine SL.nil ?_
  refine T.block ?_
  refine T.pub B17 (by repeat constructor) ?_
  intro X1 hX1 hB17 _
  refine T.loopW (fun m env own X' => ∃ i : Nat, m = 3 - i ∧ i ≤ 3 ∧ X1.le X' ∧ env = [(17, .slice (some ⟨B17, 0, none⟩) 3 3), (18, .int .i64 ((3 : Nat) : Int)), (19, .int .i64 (i : Int))] ∧ own = []) 3 ⟨0, by omega, by omega, PMap.le_refl _, rfl, rfl⟩ (by repeat (first | exact Sub.nil | refine Sub.cons rfl ?_)) ?_
  rintro m _ _ X2 ⟨i, rfl, hi, hX2, rfl, rfl⟩
  have hP2 := (hP.mono hX1).mono hX2
  rcases Nat.lt_or_ge i 3 with hil | hil
  · obtain ⟨x, hx⟩ : ∃ x, aw1[i]? = some x := ⟨_, List.getElem?_eq_getElem hil⟩
    obtain ⟨hsz, e, he, hc, ht, hw⟩ := aw1_ok x (List.mem_of_getElem? hx)
    refine T.seq ?_
    refine T.region ?_
    first | refine SL.y (op_lssT rfl rfl (by omega)) rfl rfl ?_ | refine SL.y (op_lssF rfl rfl (by omega)) rfl rfl ?_ | refine SL.y (op_lss rfl rfl) rfl rfl ?_
    refine SL.nil ?_
    refine T.seq ?_
    refine T.condT rfl ?_
    refine T.skip ?_
    refine T.seq ?_
    refine T.block ?_
    refine T.seq ?_
    refine T.region ?_
    first | refine SL.y (op_indexN Tryz.underlying77 ty76 rfl rfl (by omega)) rfl rfl ?_ | refine SL.y (op_index Tryz.underlying77 ty76 rfl rfl (by omega) (by omega)) rfl rfl ?_
    refine SL.y (op_loadX ty76 rfl (hB17.mono hX2) (row_read (pre := []) rcA_len (rs := aw1) hx (by show _ = 0 + _; omega))) rfl rfl ?_
    refine SL.x (op_alloc z76) rfl rfl ?_
    rintro _ _ _ ⟨B2, rfl, rfl, rfl⟩
    refine SL.x (op_store ty76 rfl rfl (by repeat constructor) rfl rfl rfl) rfl rfl ?_
    rintro _ _ _ ⟨rfl, rfl⟩
    refine SL.nil ?_
    refine T.seq ?_
    refine T.region ?_
    refine SL.y (op_fieldAddr fa76_0 rfl) rfl rfl ?_
    first | refine SL.y (op_load ty9 rfl (by repeat constructor) rfl) rfl rfl ?_ | refine SL.y (op_loadX ty9 rfl (by assumption) rfl) rfl rfl ?_
    refine SL.x (op_callF en20 (vs := [_]) rfl (expr17_ok he hsz)) rfl rfl ?_
    rintro _ _ X3 ⟨rfl, hX3, r, rfl, hr⟩
    obtain ⟨o, n, A, B, l, c1, l', c', rfl⟩ := hr.form
    refine SL.y (op_move rfl) rfl rfl ?_
    refine SL.y (op_extract rfl rfl) rfl rfl ?_
    refine SL.y (op_extract rfl rfl) rfl rfl ?_
    refine SL.y (op_extract rfl rfl) rfl rfl ?_
    refine SL.x (op_alloc z40) rfl rfl ?_
    rintro _ _ _ ⟨B3, rfl, rfl, rfl⟩
    refine SL.x (op_store ty40 rfl rfl (by repeat constructor) rfl rfl rfl) rfl rfl ?_
    rintro _ _ _ ⟨rfl, rfl⟩
    refine SL.y (op_assign rfl) rfl rfl ?_
    refine SL.y (op_assign rfl) rfl rfl ?_
    refine SL.nil ?_
    refine T.seq ?_
    refine T.draw (by kernel_rfl) 13 [.t 0, .t 1, .t 2, .t 3, .t 4, .t 5, .t 6, .t 7, .t 9, .t 10, .r 8, .t 11, .t 12] (by kernel_rfl) ?_
    refine SD.take rfl panicBody (op_move rfl) rfl rfl ?_
    first | refine SD.take rfl panicBody (op_neqT rfl rfl (by omega)) rfl rfl ?_ | refine SD.take rfl panicBody (op_neqF rfl rfl (by omega)) rfl rfl ?_ | refine SD.take rfl panicBody (op_neq rfl rfl) rfl rfl ?_
    refine SD.take rfl panicBody (op_move rfl) rfl rfl ?_
    first | refine SD.skip rfl panicBody rfl rfl ?_ | refine SD.take rfl panicBody (op_move rfl) rfl rfl ?_
    first | refine SD.skip rfl panicBody rfl rfl ?_ | refine SD.take rfl panicBody (op_neqT rfl rfl (by omega)) rfl rfl ?_ | refine SD.take rfl panicBody (op_neqF rfl rfl (by omega)) rfl rfl ?_ | refine SD.take rfl panicBody (op_neq rfl rfl) rfl rfl ?_
    first | refine SD.take rfl panicBody (op_pickT rfl rfl) rfl rfl ?_ | refine SD.take rfl panicBody (op_pickF rfl rfl) rfl rfl ?_ | refine SD.take rfl panicBody (op_pickB rfl rfl rfl) rfl rfl ?_
    refine SD.take rfl panicBody (op_move rfl) rfl rfl ?_
    first | refine SD.skip rfl panicBody rfl rfl ?_ | refine SD.take rfl panicBody (op_load ty40 rfl (by repeat constructor) rfl) rfl rfl ?_ | refine SD.take rfl panicBody (op_loadX ty40 rfl (by assumption) rfl) rfl rfl ?_
    first | refine SD.skip rfl panicBody rfl rfl ?_ | refine SD.take rfl panicBody (op_fieldAddr fa76_1 rfl) rfl rfl ?_
    first | refine SD.skip rfl panicBody rfl rfl ?_ | refine SD.take rfl panicBody (op_load ty9 rfl (by repeat constructor) rfl) rfl rfl ?_ | refine SD.take rfl panicBody (op_loadX ty9 rfl (by assumption) rfl) rfl rfl ?_
    have hcall := printA_spec (hP2.mono hX3) hw hr
    try simp only at hcall
    refine SD.run rfl (op_callF en27 (vs := [_]) rfl (hcall)) rfl rfl ?_
    rintro _ _ X4 ⟨rfl, hX4, rfl⟩
    rw [if_pos hc, ht]
    refine SD.take rfl panicBody (op_neqStrD (s := x.2) (s' := x.2) rfl rfl) rfl rfl ?_
    rw [decide_eq_true rfl, Bool.not_true]
    first | refine SD.take rfl panicBody (op_pickT rfl rfl) rfl rfl ?_ | refine SD.take rfl panicBody (op_pickF rfl rfl) rfl rfl ?_ | refine SD.take rfl panicBody (op_pickB rfl rfl rfl) rfl rfl ?_
    refine SD.nil ?_
    show SL _ _ _ _ _ _ _ [] _ _ _
    refine SL.nil ?_
    refine T.condF rfl ?_
    refine T.skip ?_
    refine T.blk ?_
    refine T.region ?_
    first | refine SL.y (op_addN (q := 1) rfl rfl (by omega)) rfl rfl ?_ | refine SL.y (op_add rfl rfl (by omega) (by omega)) rfl rfl ?_ | refine SL.y (op_addW rfl rfl) rfl rfl ?_
    refine SL.y (op_move rfl) rfl rfl ?_
    refine SL.nil ?_
    refine T.drop B2 (by repeat constructor) ?_
    refine T.drop B3 (by repeat constructor) ?_
    exact T.backW (3 - (i + 1)) (by omega) ⟨i + 1, rfl, by omega, (hX2.trans' hX3).trans' hX4, rfl, rfl⟩ (by repeat (first | exact Sub.nil | refine Sub.cons rfl ?_))
  · obtain rfl : i = 3 := by omega
    refine T.seq ?_
    refine T.region ?_
    first | refine SL.y (op_lssT rfl rfl (by omega)) rfl rfl ?_ | refine SL.y (op_lssF rfl rfl (by omega)) rfl rfl ?_ | refine SL.y (op_lss rfl rfl) rfl rfl ?_
    refine SL.nil ?_
    refine T.seq ?_
    refine T.condF rfl ?_
    refine T.exit (T.exitCode (T.exitCut (T.exitBlk ?_)))
    refine T.seq ?_
    refine T.seq ?_
    refine T.region ?_
    refine SL.y (op_build st78 (qs := [(0, _), (1, _), (2, _)]) rfl rfl) rfl rfl ?_
    refine SL.y (op_build st78 (qs := [(0, _), (1, _), (2, _)]) rfl rfl) rfl rfl ?_
    refine SL.y (op_build st78 (qs := [(0, _), (1, _), (2, _)]) rfl rfl) rfl rfl ?_
    refine SL.y (op_build st78 (qs := [(0, _), (1, _), (2, _)]) rfl rfl) rfl rfl ?_
    refine SL.y (op_build st78 (qs := [(0, _), (1, _), (2, _)]) rfl rfl) rfl rfl ?_
    refine SL.y (op_build st78 (qs := [(0, _), (1, _), (2, _)]) rfl rfl) rfl rfl ?_
    refine SL.x (op_buildSlice Tryz.underlying79 bs78 (qs := [(0, _), (1, _), (2, _), (3, _), (4, _), (5, _)]) rfl rfl rfl rfl rfl) rfl rfl ?_
    rintro _ _ _ ⟨B50, rfl, rfl, rfl⟩
    refine SL.y (op_lenS Tryz.underlying79 rfl) rfl rfl ?_
    refine SL.y (op_move (v := .int .i64 ((0 : Nat) : Int)) rfl) rfl rfl ?_
    refine SL.nil ?_
    refine T.block ?_
    refine T.pub B50 (by repeat constructor) ?_
    intro X3 hX3 hB50 _
    refine T.loopW (fun m env own X' => ∃ i : Nat, m = 6 - i ∧ i ≤ 6 ∧ X3.le X' ∧ env = [(50, .slice (some ⟨B50, 0, none⟩) 6 6), (51, .int .i64 ((6 : Nat) : Int)), (52, .int .i64 (i : Int))] ∧ own = []) 6 ⟨0, by omega, by omega, PMap.le_refl _, rfl, rfl⟩ (by repeat (first | exact Sub.nil | refine Sub.cons rfl ?_)) ?_
    rintro m _ _ X4 ⟨i, rfl, hi, hX4, rfl, rfl⟩
    have hP4 := (hP2.mono hX3).mono hX4
    rcases Nat.lt_or_ge i 6 with hil | hil
    · obtain ⟨x, hx⟩ : ∃ x, aw2[i]? = some x := ⟨_, List.getElem?_eq_getElem hil⟩
      obtain ⟨hsz, he⟩ := aw2_ok x (List.mem_of_getElem? hx)
      refine T.seq ?_
      refine T.region ?_
      first | refine SL.y (op_lssT rfl rfl (by omega)) rfl rfl ?_ | refine SL.y (op_lssF rfl rfl (by omega)) rfl rfl ?_ | refine SL.y (op_lss rfl rfl) rfl rfl ?_
      refine SL.nil ?_
      refine T.seq ?_
      refine T.condT rfl ?_
      refine T.skip ?_
      refine T.seq ?_
      refine T.block ?_
      refine T.seq ?_
      refine T.region ?_
      first | refine SL.y (op_indexN Tryz.underlying79 ty78 rfl rfl (by omega)) rfl rfl ?_ | refine SL.y (op_index Tryz.underlying79 ty78 rfl rfl (by omega) (by omega)) rfl rfl ?_
      refine SL.y (op_loadX ty78 rfl (hB50.mono hX4) (row_read (pre := []) rcB_len (rs := aw2) hx (by show _ = 0 + _; omega))) rfl rfl ?_
      refine SL.x (op_alloc z78) rfl rfl ?_
      rintro _ _ _ ⟨B7, rfl, rfl, rfl⟩
      refine SL.x (op_store ty78 rfl rfl (by repeat constructor) rfl rfl rfl) rfl rfl ?_
      rintro _ _ _ ⟨rfl, rfl⟩
      refine SL.nil ?_
      refine T.seq ?_
      refine T.region ?_
      refine SL.y (op_fieldAddr fa78_0 rfl) rfl rfl ?_
      first | refine SL.y (op_load ty9 rfl (by repeat constructor) rfl) rfl rfl ?_ | refine SL.y (op_loadX ty9 rfl (by assumption) rfl) rfl rfl ?_
      refine SL.x (op_callF en20 (vs := [_]) rfl (expr17_err he hsz)) rfl rfl ?_
      rintro _ _ X5 ⟨rfl, hX5, rfl⟩
      refine SL.y (op_move rfl) rfl rfl ?_
      refine SL.y (op_extract rfl rfl) rfl rfl ?_
      refine SL.y (op_extract rfl rfl) rfl rfl ?_
      refine SL.y (op_extract rfl rfl) rfl rfl ?_
      refine SL.x (op_alloc z40) rfl rfl ?_
      rintro _ _ _ ⟨B8, rfl, rfl, rfl⟩
      refine SL.x (op_store ty40 rfl rfl (by repeat constructor) rfl rfl rfl) rfl rfl ?_
      rintro _ _ _ ⟨rfl, rfl⟩
      refine SL.y (op_assign rfl) rfl rfl ?_
      refine SL.y (op_assign rfl) rfl rfl ?_
      refine SL.nil ?_
      refine T.seq ?_
      refine T.region ?_
      refine SL.y (op_move rfl) rfl rfl ?_
      refine SL.y (op_fieldAddr fa78_1 rfl) rfl rfl ?_
      first | refine SL.y (op_load ty3 rfl (by repeat constructor) rfl) rfl rfl ?_ | refine SL.y (op_loadX ty3 rfl (by assumption) rfl) rfl rfl ?_
      first | refine SL.y (op_neqT rfl rfl (by omega)) rfl rfl ?_ | refine SL.y (op_neqF rfl rfl (by omega)) rfl rfl ?_ | refine SL.y (op_neq rfl rfl) rfl rfl ?_
      refine SL.y (op_move rfl) rfl rfl ?_
      first | refine SL.skip rfl rfl ?_ | refine SL.y (op_move rfl) rfl rfl ?_
      first | refine SL.skip rfl rfl ?_ | refine SL.y (op_fieldAddr fa78_2 rfl) rfl rfl ?_
      first | refine SL.skip rfl rfl ?_ | refine SL.y (op_load ty29 rfl (by repeat constructor) rfl) rfl rfl ?_ | refine SL.y (op_loadX ty29 rfl (by assumption) rfl) rfl rfl ?_
      first | refine SL.skip rfl rfl ?_ | refine SL.y (op_neqT rfl rfl (by omega)) rfl rfl ?_ | refine SL.y (op_neqF rfl rfl (by omega)) rfl rfl ?_ | refine SL.y (op_neq rfl rfl) rfl rfl ?_
      first | refine SL.y (op_pickT rfl rfl) rfl rfl ?_ | refine SL.y (op_pickF rfl rfl) rfl rfl ?_ | refine SL.y (op_pickB rfl rfl rfl) rfl rfl ?_
      refine SL.nil ?_
      refine T.condF rfl ?_
      refine T.skip ?_
      refine T.blk ?_
      refine T.region ?_
      first | refine SL.y (op_addN (q := 1) rfl rfl (by omega)) rfl rfl ?_ | refine SL.y (op_add rfl rfl (by omega) (by omega)) rfl rfl ?_ | refine SL.y (op_addW rfl rfl) rfl rfl ?_
      refine SL.y (op_move rfl) rfl rfl ?_
      refine SL.nil ?_
      refine T.drop B7 (by repeat constructor) ?_
      refine T.drop B8 (by repeat constructor) ?_
      exact T.backW (6 - (i + 1)) (by omega) ⟨i + 1, rfl, by omega, hX4.trans' hX5, rfl, rfl⟩ (by repeat (first | exact Sub.nil | refine Sub.cons rfl ?_))
    · obtain rfl : i = 6 := by omega
      refine T.seq ?_
      refine T.region ?_
      first | refine SL.y (op_lssT rfl rfl (by omega)) rfl rfl ?_ | refine SL.y (op_lssF rfl rfl (by omega)) rfl rfl ?_ | refine SL.y (op_lss rfl rfl) rfl rfl ?_
      refine SL.nil ?_
      refine T.seq ?_
      refine T.condF rfl ?_
      refine T.exit (T.exitCode (T.exitCut (T.exitBlk ?_)))
      refine T.seq ?_
      refine T.region ?_
      refine SL.x (op_callF en18 (vs := [_]) rfl (parse_ok hP4 aw3 (of_decide_eq_true (by kernel_rfl)))) rfl rfl ?_
      rintro _ _ X5 ⟨rfl, hX5, v, rfl, hv⟩
      obtain ⟨rows, hR, hl, hrow⟩ := hv
      obtain ⟨r0, hr0⟩ : ∃ r, rows[0]? = some r := ⟨_, List.getElem?_eq_getElem (by rw [hl]; decide)⟩
      obtain ⟨r1, hr1⟩ : ∃ r, rows[1]? = some r := ⟨_, List.getElem?_eq_getElem (by rw [hl]; decide)⟩
      have h0 := hrow 0 _ _ rfl hr0
      have h1 := hrow 1 _ _ rfl hr1
      have hl2 : rows.length = 2 := hl
      obtain ⟨A9, c9, rfl⟩ := hR.form
      obtain ⟨b, pre, rfl, hB⟩ := hR.blk (by rw [hl2]; decide)
      obtain ⟨e0, k0, s0, a0⟩ := r0
      obtain ⟨e1, k1, s1, a1⟩ := r1
      obtain ⟨rfl, rfl, rfl, _⟩ := h0
      obtain ⟨rfl, rfl, rfl, _⟩ := h1
      simp only [hl2]
      refine SL.y (op_move rfl) rfl rfl ?_
      refine SL.y (op_extract rfl rfl) rfl rfl ?_
      refine SL.y (op_extract rfl rfl) rfl rfl ?_
      refine SL.y (op_extract rfl rfl) rfl rfl ?_
      refine SL.y (op_assign rfl) rfl rfl ?_
      refine SL.y (op_assign rfl) rfl rfl ?_
      refine SL.y (op_assign rfl) rfl rfl ?_
      refine SL.nil ?_
      refine T.seq ?_
      refine T.region ?_
      refine SL.y (op_move rfl) rfl rfl ?_
      first | refine SL.y (op_eqlT rfl rfl (by omega)) rfl rfl ?_ | refine SL.y (op_eqlF rfl rfl (by omega)) rfl rfl ?_ | refine SL.y (op_eql rfl rfl) rfl rfl ?_
      refine SL.y (op_move rfl) rfl rfl ?_
      first | refine SL.skip rfl rfl ?_ | refine SL.y (op_move rfl) rfl rfl ?_
      first | refine SL.skip rfl rfl ?_ | refine SL.y (op_lenS Tryz.underlying24 rfl) rfl rfl ?_
      first | refine SL.skip rfl rfl ?_ | refine SL.y (op_eqlT rfl rfl (by omega)) rfl rfl ?_ | refine SL.y (op_eqlF rfl rfl (by omega)) rfl rfl ?_ | refine SL.y (op_eql rfl rfl) rfl rfl ?_
      first | refine SL.y (op_pickT rfl rfl) rfl rfl ?_ | refine SL.y (op_pickF rfl rfl) rfl rfl ?_ | refine SL.y (op_pickB rfl rfl rfl) rfl rfl ?_
      refine SL.y (op_move rfl) rfl rfl ?_
      first | refine SL.skip rfl rfl ?_ | refine SL.y (op_move rfl) rfl rfl ?_
      first | refine SL.skip rfl rfl ?_ | refine SL.y (op_indexN Tryz.underlying24 ty82 rfl rfl (by omega)) rfl rfl ?_ | refine SL.y (op_index Tryz.underlying24 ty82 rfl rfl (by omega) (by omega)) rfl rfl ?_
      first | refine SL.skip rfl rfl ?_ | refine SL.y (op_fieldAddr fa82_0 rfl) rfl rfl ?_
      refine SL.y (op_loadX (v := .bool true) ty4 rfl hB (row_cell (sz := 7) (j := 0) rc7_len hr0 rfl (by omega))) rfl rfl ?_
      first | refine SL.y (op_pickT rfl rfl) rfl rfl ?_ | refine SL.y (op_pickF rfl rfl) rfl rfl ?_ | refine SL.y (op_pickB rfl rfl rfl) rfl rfl ?_
      refine SL.y (op_move rfl) rfl rfl ?_
      first | refine SL.skip rfl rfl ?_ | refine SL.y (op_move rfl) rfl rfl ?_
      first | refine SL.skip rfl rfl ?_ | refine SL.y (op_indexN Tryz.underlying24 ty82 rfl rfl (by omega)) rfl rfl ?_ | refine SL.y (op_index Tryz.underlying24 ty82 rfl rfl (by omega) (by omega)) rfl rfl ?_
      first | refine SL.skip rfl rfl ?_ | refine SL.y (op_fieldAddr fa82_2 rfl) rfl rfl ?_
      refine SL.y (op_loadX (v := .string ⟨#[115, 111, 100]⟩) ty9 rfl hB (row_cell (sz := 7) (j := 2) rc7_len hr0 rfl (by omega))) rfl rfl ?_
      refine SL.y (op_eqlStrD (s := ⟨#[115, 111, 100]⟩) (s' := ⟨#[115, 111, 100]⟩) rfl rfl) rfl rfl ?_
      rw [decide_eq_true rfl]
      first | refine SL.y (op_pickT rfl rfl) rfl rfl ?_ | refine SL.y (op_pickF rfl rfl) rfl rfl ?_ | refine SL.y (op_pickB rfl rfl rfl) rfl rfl ?_
      refine SL.y (op_move rfl) rfl rfl ?_
      first | refine SL.skip rfl rfl ?_ | refine SL.y (op_move rfl) rfl rfl ?_
      first | refine SL.skip rfl rfl ?_ | refine SL.y (op_indexN Tryz.underlying24 ty82 rfl rfl (by omega)) rfl rfl ?_ | refine SL.y (op_index Tryz.underlying24 ty82 rfl rfl (by omega) (by omega)) rfl rfl ?_
      first | refine SL.skip rfl rfl ?_ | refine SL.y (op_fieldAddr fa82_1 rfl) rfl rfl ?_
      refine SL.y (op_loadX (v := .int .u8 3) ty80 rfl hB (row_cell (sz := 7) (j := 1) rc7_len hr1 rfl (by omega))) rfl rfl ?_
      first | refine SL.skip rfl rfl ?_ | refine SL.y (op_eqlT rfl rfl (by omega)) rfl rfl ?_ | refine SL.y (op_eqlF rfl rfl (by omega)) rfl rfl ?_ | refine SL.y (op_eql rfl rfl) rfl rfl ?_
      first | refine SL.y (op_pickT rfl rfl) rfl rfl ?_ | refine SL.y (op_pickF rfl rfl) rfl rfl ?_ | refine SL.y (op_pickB rfl rfl rfl) rfl rfl ?_
      refine SL.y (op_move rfl) rfl rfl ?_
      first | refine SL.skip rfl rfl ?_ | refine SL.y (op_move rfl) rfl rfl ?_
      first | refine SL.skip rfl rfl ?_ | refine SL.y (op_indexN Tryz.underlying24 ty82 rfl rfl (by omega)) rfl rfl ?_ | refine SL.y (op_index Tryz.underlying24 ty82 rfl rfl (by omega) (by omega)) rfl rfl ?_
      first | refine SL.skip rfl rfl ?_ | refine SL.y (op_fieldAddr fa82_0 rfl) rfl rfl ?_
      refine SL.y (op_loadX (v := .bool false) ty4 rfl hB (row_cell (sz := 7) (j := 0) rc7_len hr1 rfl (by omega))) rfl rfl ?_
      first | refine SL.skip rfl rfl ?_ | refine SL.y (op_not rfl) rfl rfl ?_
      first | refine SL.y (op_pickT rfl rfl) rfl rfl ?_ | refine SL.y (op_pickF rfl rfl) rfl rfl ?_ | refine SL.y (op_pickB rfl rfl rfl) rfl rfl ?_
      refine SL.y (op_assign rfl) rfl rfl ?_
      refine SL.nil ?_
      refine T.ret1 rfl (ResIs.tmp rfl) ?_
      rfl
end Go.Proofs.YtnabbnhefjfegaaGreatDoor
namespace Go.Proofs.YtnabbnhefjfegaaGreatDoor
section
set_option maxRecDepth 100000
theorem st82 : StT Tryz.prog 82 [(0, 1), (1, 1), (2, 1), (3, 4)] [.bool false, .int .u8 0, .string ⟨#[]⟩, .int .u8 0, .int .i64 0, .slice none 0 0, .slice none 0 0] := ⟨⟨_, Tryz.underlying82, fun _ => by kernel_rfl, z82⟩⟩
end
open Go.RowKit
theorem set16_spec {X : PMap} {v : Value} {cs : List Con} (h : ConsRi X v cs) (hl : cs.length < 1000) (hok : ∀ c ∈ cs, c.kind < 256 ∧ opsE c.ex ∧ wtE c.ex < 900000) : Spec Tryz.prog 13 [v] X fun u X' => ConsR X' u cs := by
  obtain ⟨rows, hr, hrl, hrow⟩ := h
  obtain ⟨A, cp, rfl⟩ := hr.form
  have hmx : maxLen = 9223372036854775807 := rfl
  refine Spec.enter Tryz.func13 rfl Tryz.ntmps13 rfl ?_
  intro w0 hw0
  refine T.seq ?_
  refine T.region ?_
  refine SL.y (op_assign rfl) rfl rfl ?_
  refine SL.nil ?_
  refine T.seq ?_
  refine T.region ?_
  refine SL.y (op_assign rfl) rfl rfl ?_
  refine SL.nil ?_
  refine T.seq ?_
  refine T.seq ?_
  refine T.region ?_
  refine SL.y (op_move rfl) rfl rfl ?_
  refine SL.y (op_lenS Tryz.underlying26 rfl) rfl rfl ?_
  refine SL.y (op_move (v := .int .i64 ((0 : Nat) : Int)) rfl) rfl rfl ?_
  refine SL.nil ?_
  refine T.block ?_
  refine T.loopW (fun m env own X' => ∃ (i : Nat) (vo : Value) (rs : List Row7), m = rows.length - i ∧ i ≤ rows.length ∧ X.le X' ∧ rs.length = (cs.take i).length ∧ GrowS 82 7 vo rs.length ((rs.map rc7).flatten) own ∧ (∀ (q : Nat) (c : Con) (r : Row7), (cs.take i)[q]? = some c → rs[q]? = some r → ConR X' c r) ∧ env = [(3, vo), (6, .slice A rows.length cp), (7, .int .i64 (rows.length : Int)), (8, .int .i64 (i : Int))]) rows.length ⟨0, _, [], by simp, by omega, PMap.le_refl _, rfl, GrowS.nil, (fun q c r h => by simp at h), rfl⟩ (by repeat (first | exact Sub.nil | refine Sub.cons rfl ?_)) ?_
  rintro m _ G X1 ⟨i, vo, rs, rfl, hi, hX1, hrsl, hG, hrs, rfl⟩
  have hrl2 : rs.length = i := by rw [hrsl, List.length_take]; omega
  obtain ⟨Av, cv, rfl⟩ := hG.form
  rcases Nat.lt_or_ge i rows.length with hil | hil
  · obtain ⟨r2, hr2⟩ : ∃ r2, rows[i]? = some r2 := ⟨_, List.getElem?_eq_getElem hil⟩
    obtain ⟨c, hc2⟩ : ∃ c, cs[i]? = some c := ⟨_, List.getElem?_eq_getElem (by omega)⟩
    have hrc := hrow i c r2 hc2 hr2
    obtain ⟨okk, oko, okw⟩ := hok c (List.mem_of_getElem? hc2)
    obtain ⟨o0, n0, a0, b0, l0, c0, m0, d0, rfl⟩ := hrc.form
    have hex := hrc.2.2.2
    simp only at hex
    obtain ⟨bA, pre, rfl, hbA⟩ := hr.blk (by omega)
    have htk := take_snoc hc2
    refine T.seq ?_
    refine T.region ?_
    first | refine SL.y (op_lssT rfl rfl (by omega)) rfl rfl ?_ | refine SL.y (op_lssF rfl rfl (by omega)) rfl rfl ?_ | refine SL.y (op_lss rfl rfl) rfl rfl ?_
    refine SL.nil ?_
    refine T.seq ?_
    refine T.condT rfl ?_
    refine T.skip ?_
    refine T.seq ?_
    refine T.block ?_
    refine T.seq ?_
    refine T.region ?_
    first | refine SL.y (op_indexN Tryz.underlying26 ty84 rfl rfl (by omega)) rfl rfl ?_ | refine SL.y (op_index Tryz.underlying26 ty84 rfl rfl (by omega) (by omega)) rfl rfl ?_
    refine SL.y (op_loadX (v := .agg #[.bool c.enf, .int .i64 (c.kind : Int), .string c.name, .int .i64 (o0 : Int), .int .i64 n0, .slice a0 l0 c0, .slice b0 m0 d0]) ty84 rfl (hbA.mono hX1) (row_read rc7i_len hr2 (by omega))) rfl rfl ?_
    refine SL.x (op_alloc z84) rfl rfl ?_
    rintro _ _ _ ⟨B5, rfl, rfl, rfl⟩
    refine SL.x (op_store ty84 rfl rfl (by repeat constructor) rfl rfl rfl) rfl rfl ?_
    rintro _ _ _ ⟨rfl, rfl⟩
    refine SL.nil ?_
    refine T.drawG (own0 := [_]) (by kernel_rfl) 13 [.t 0, .t 1, .t 2, .t 3, .t 4, .t 5, .t 6, .t 7, .t 8, .t 9, .r 10, .t 11, .r 12] (by kernel_rfl) ?_
    refine SD.take rfl panicBody (op_move rfl) rfl rfl ?_
    refine SD.take rfl panicBody (op_fieldAddr fa84_0 rfl) rfl rfl ?_
    first | refine SD.take rfl panicBody (op_load ty4 rfl (by repeat constructor) rfl) rfl rfl ?_ | refine SD.take rfl panicBody (op_loadX ty4 rfl (by assumption) rfl) rfl rfl ?_
    refine SD.take rfl panicBody (op_fieldAddr fa84_1 rfl) rfl rfl ?_
    first | refine SD.take rfl panicBody (op_load ty3 rfl (by repeat constructor) rfl) rfl rfl ?_ | refine SD.take rfl panicBody (op_loadX ty3 rfl (by assumption) rfl) rfl rfl ?_
    first | refine SD.take rfl panicBody (op_convU8 Tryz.underlying3 Tryz.underlying80 rfl (by omega) (by omega)) rfl rfl ?_ | refine SD.take rfl panicBody (op_convert Tryz.underlying3 Tryz.underlying80 rfl) rfl rfl ?_
    refine SD.take rfl panicBody (op_fieldAddr fa84_2 rfl) rfl rfl ?_
    first | refine SD.take rfl panicBody (op_load ty9 rfl (by repeat constructor) rfl) rfl rfl ?_ | refine SD.take rfl panicBody (op_loadX ty9 rfl (by assumption) rfl) rfl rfl ?_
    refine SD.take rfl panicBody (op_fieldAddr fa84_3 rfl) rfl rfl ?_
    first | refine SD.take rfl panicBody (op_load ty45 rfl (by repeat constructor) rfl) rfl rfl ?_ | refine SD.take rfl panicBody (op_loadX ty45 rfl (by assumption) rfl) rfl rfl ?_
    have hc := expr_spec 900000 (by omega) (by omega) oko (hex.mono hX1)
    try simp only at hc
    refine SD.run rfl (op_callF en24 (vs := [_]) rfl (hc)) rfl rfl ?_
    rintro _ _ X2 ⟨rfl, hX2, r8, rfl, hr8⟩
    obtain ⟨o8, n8, a8, b8, l8, c8, l9, c9, rfl⟩ := hr8.form
    refine SD.take rfl panicBody (op_build st82 (qs := [(0, _), (1, _), (2, _), (3, _)]) rfl rfl) rfl rfl ?_
    refine SD.run rfl (op_buildSlice Tryz.underlying24 bs82 (qs := [(0, _)]) rfl rfl rfl rfl rfl) rfl rfl ?_
    rintro _ _ _ ⟨B24, rfl, rfl, rfl⟩
    refine SD.nil ?_
    show SL _ _ _ _ _ _ _ [_, _] _ _ _
    refine SL.x (op_appendGA (own0 := [_, _]) (m := 1) sl24 rfl hG rfl (Src.ofOwn0 AtO.here rfl) (by intro y hy; have hy : y ∈ [Value.bool _, Value.int _ _, Value.string _, Value.int _ _, Value.int _ _, Value.slice _ _ _, Value.slice _ _ _] := hy; simp only [List.mem_cons, List.not_mem_nil, or_false] at hy; rcases hy with rfl | rfl | rfl | rfl | rfl | rfl | rfl <;> rfl) (by omega) (by omega)) rfl rfl ?_
    rintro va9 _ _ ⟨Ga9, rfl, rfl, hGa9⟩
    refine SL.y (op_assign rfl) rfl rfl ?_
    refine SL.nil ?_
    refine T.blk ?_
    refine T.region ?_
    first | refine SL.y (op_addN (q := 1) rfl rfl (by omega)) rfl rfl ?_ | refine SL.y (op_add rfl rfl (by omega) (by omega)) rfl rfl ?_ | refine SL.y (op_addW rfl rfl) rfl rfl ?_
    refine SL.y (op_move rfl) rfl rfl ?_
    refine SL.nil ?_
    refine T.less (own' := Ga9) (List.Sublist.cons _ (List.sublist_cons_self _ _)) ?_
    have hnew : ConR X2 c (c.enf, c.kind, c.name, .int .u8 (o8 : Int), .int .i64 n8, .slice a8 l8 c8, .slice b8 l9 c9) := ⟨rfl, rfl, rfl, hr8⟩
    have hG10 : GrowS 82 7 va9 (rs ++ [((c.enf, c.kind, c.name, .int .u8 (o8 : Int), .int .i64 n8, .slice a8 l8 c8, .slice b8 l9 c9) : Row7)]).length (((rs ++ [((c.enf, c.kind, c.name, .int .u8 (o8 : Int), .int .i64 n8, .slice a8 l8 c8, .slice b8 l9 c9) : Row7)]).map rc7).flatten) Ga9 := by
      rw [List.length_append, List.map_append, List.flatten_append]
      exact hGa9
    exact T.backW (rows.length - (i + 1)) (by omega) ⟨i + 1, _, _, rfl, by omega, hX1.trans' hX2, by rw [htk, List.length_append, List.length_append, hrsl]; rfl, hG10, by rw [htk]; exact rows_snoc hrsl (fun q c r h1 h2 => (hrs q c r h1 h2).mono hX2) hnew, rfl⟩ (by repeat (first | exact Sub.nil | refine Sub.cons rfl ?_))
  · obtain rfl : i = rows.length := by omega
    rw [show cs.take rows.length = cs from List.take_of_length_le (by omega)] at hrsl hrs
    refine T.seq ?_
    refine T.region ?_
    first | refine SL.y (op_lssT rfl rfl (by omega)) rfl rfl ?_ | refine SL.y (op_lssF rfl rfl (by omega)) rfl rfl ?_ | refine SL.y (op_lss rfl rfl) rfl rfl ?_
    refine SL.nil ?_
    refine T.seq ?_
    refine T.condF rfl ?_
    refine T.exit (T.exitCode (T.exitCut (T.exitBlk ?_)))
    refine T.seq ?_
    refine T.region ?_
    refine SL.y (op_move rfl) rfl rfl ?_
    refine SL.y (op_assign rfl) rfl rfl ?_
    refine SL.nil ?_
    refine T.pubG (own0 := []) hG ?_
    intro X9 hX9 hS9
    refine T.ret1 rfl (ResIs.tmp rfl) ?_
    exact ⟨rs, RowR.ofG hG hS9, hrsl, fun q c r h1 h2 => (hrs q c r h1 h2).mono hX9⟩
end Go.Proofs.YtnabbnhefjfegaaGreatDoor
