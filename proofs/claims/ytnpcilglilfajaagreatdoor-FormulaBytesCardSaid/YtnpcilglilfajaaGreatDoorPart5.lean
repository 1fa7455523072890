/- What the law's proof rests on: the engine, a small separation logic over the kit's walk, and contracts of the functions that the law reaches. Part 5. -/
import Derived.Test.YtnpcilglilfajaaGreatDoorPart1
import Derived.Test.YtnpcilglilfajaaGreatDoorPart2
import Derived.Test.YtnpcilglilfajaaGreatDoorPart3
import Derived.Test.YtnpcilglilfajaaGreatDoorPart4
namespace Go.Proofs.YtnpcilglilfajaaGreatDoor
section
set_option maxRecDepth 100000
theorem bs1 : ∃ i z, Tryz.prog.info? 1 = some i ∧ i.size = 1 ∧ i.zero = some z ∧ z.cells = ([.nilFunc] : List Value).toArray := bs_of (by kernel_rfl)
theorem bs2 : ∃ i z, Tryz.prog.info? 2 = some i ∧ i.size = 1 ∧ i.zero = some z ∧ z.cells = ([.int .i64 0] : List Value).toArray := bs_of (by kernel_rfl)
theorem en44 : Enters Tryz.prog 44 := enters_mk Tryz.func44 (by kernel_rfl) rfl
theorem en45 : Enters Tryz.prog 45 := enters_mk Tryz.func45 (by kernel_rfl) rfl
theorem en46 : Enters Tryz.prog 46 := enters_mk Tryz.func46 (by kernel_rfl) rfl
theorem en48 : Enters Tryz.prog 48 := enters_mk Tryz.func48 (by kernel_rfl) rfl
theorem en49 : Enters Tryz.prog 49 := enters_mk Tryz.func49 (by kernel_rfl) rfl
theorem en51 : Enters Tryz.prog 51 := enters_mk Tryz.func51 (by kernel_rfl) rfl
theorem ty96 : Ty Tryz.prog 96 true 4 := ⟨⟨_, Tryz.underlying96, rfl⟩, by kernel_rfl⟩
end
open Go.RowKit
abbrev ConI (b : Nat) (c : Cf) (r : Row4) : Ow := ⟨b, [.bool c.enf, .int .i64 (c.kind : Int), .string c.name, r.1, r.2.1, r.2.2.1, r.2.2.2], 98, 7⟩
theorem rcby_spec {X : PMap} {c : Cf} {r : Row4} (hk : c.kind < 128) (hs0 : 0 < c.name.size) (hs1 : c.name.size < 128) (hw : wtF c.fm < 20000) (hn : nokF c.fm) (h : FmR .i64 X c.fm r) : Spec Tryz.prog 46 [.agg #[.bool c.enf, .int .i64 (c.kind : Int), .string c.name, r.1, r.2.1, r.2.2.1, r.2.2.2]] X fun u X' => BytesR X' u (enc18 c.enf c.kind c.name c.fm) :=
  ((rcbytes_spec hk hs0 hs1 hw hn h).pubG).mono fun _ _ _ h => BytesR.ofS h
theorem fBytes_spec {X : PMap} (hT : Tab X) {w1 w2 : Value} {bs1 bs2 : List Nat} {e1 e2 : Bool} {m1 m2 k1 k2 : Nat} (hc1 : CutR X w1 bs1) (hm1 : m1 < 256) (hc2 : CutR X w2 bs2) (hm2 : m2 < 256) : Spec Tryz.prog 10 [.agg #[.bool e1, .int .u8 (m1 : Int), w1, .int .u8 (k1 : Int)], .agg #[.bool e2, .int .u8 (m2 : Int), w2, .int .u8 (k2 : Int)]] X fun u _ => u = .bool true := by
  have hfa := fun {X' : PMap} (hX : X.le X') => fitN_spec (e := e1) (k := k1) (hc1.mono hX) hm1
  have hfb := fun {X' : PMap} (hX : X.le X') => fitN_spec (e := e2) (k := k2) (hc2.mono hX) hm2
  obtain ⟨_, ⟨Aw1, cw1, rfl, _⟩, _⟩ := hc1
  obtain ⟨_, ⟨Aw2, cw2, rfl, _⟩, _⟩ := hc2
  obtain ⟨ca, hca⟩ : ∃ c, c = rawC e1 m1 bs1 k1 := ⟨_, rfl⟩
  obtain ⟨cb, hcb⟩ : ∃ c, c = rawC e2 m2 bs2 k2 := ⟨_, rfl⟩
  have va : chkC18 ca.kind ca.name ca.fm = 0 := by rw [hca]; exact rawC_ok _ _ _ _
  have vb : chkC18 cb.kind cb.name cb.fm = 0 := by rw [hcb]; exact rawC_ok _ _ _ _
  have wa : wtF ca.fm ≤ 961 := by rw [hca]; exact fitR_wt
  have wb : wtF cb.fm ≤ 961 := by rw [hcb]; exact fitR_wt
  have na : nokF ca.fm := by rw [hca]; exact fitR_nok bs1 k1
  have nb : nokF cb.fm := by rw [hcb]; exact fitR_nok bs2 k2
  have oa := nok_ops _ na
  have ob := nok_ops _ nb
  obtain ⟨ka1, ka2, ka3, _⟩ := chkC18_ok va
  obtain ⟨kb1, kb2, kb3, _⟩ := chkC18_ok vb
  have za : 0 < ca.name.size ∧ ca.name.size ≤ 12 := ⟨by have := ka3.1; omega, ka3.2.1⟩
  have zb : 0 < cb.name.size ∧ cb.name.size ≤ 12 := ⟨by have := kb3.1; omega, kb3.2.1⟩
  have la := enc18_len (e := ca.enf) (k := ca.kind) (by omega) za.2 na (by omega)
  have lb := enc18_len (e := cb.enf) (k := cb.kind) (by omega) zb.2 nb (by omega)
  have hre := read_enc (e := ca.enf) va
  refine Spec.enter Tryz.func10 rfl Tryz.ntmps10 rfl ?_
  intro w0 hw0
  refine T.seq <| T.region <| SL.w (op_box rfl) ?_
  rintro _ _ _ ⟨B2, rfl, rfl, rfl⟩
  refine SL.w (op_box rfl) ?_
  rintro _ _ _ ⟨B3, rfl, rfl, rfl⟩
  refine SL.as rfl <| SL.nil <| T.seq <| T.seq <| T.region <| SL.w (op_callF en13 (vs := []) rfl (awake18_spec hT)) ?_
  rintro _ _ X1 ⟨rfl, hX1, rfl⟩
  refine SL.v (op_not rfl) <| SL.nil <| T.condF rfl <| T.skip <| T.pub B2 (by repeat constructor) ?_
  intro X2 hX2 hB2 _
  refine T.pub B3 (by repeat constructor) ?_
  intro X3 hX3 hB3 _
  have hB2 := hB2.mono hX3
  have hX03 := (hX1.trans' hX2).trans' hX3
  refine T.seq <| T.meet (fun _ env own X' => ∃ (b5 b6 : Nat) (ra rb : Row4), X3.le X' ∧ FmR .i64 X' ca.fm ra ∧ FmR .i64 X' cb.fm rb ∧ env = [(5, .pointer (some ⟨b5, 0, none⟩)), (6, .pointer (some ⟨b6, 0, none⟩))] ∧ own = [ConI b5 ca ra, ConI b6 cb rb]) ?_ ?_
  refine T.drawT (by kernel_rfl) 6 (.t 0 (.t 2 (.w3 1 4 5 (.w3 3 4 5 (.w 4 5 (.r 5 .nil) (.r 4 .nil)) (.w 3 5 (.r 5 .nil) (.r 3 .nil)) (.w 3 4 (.r 4 .nil) (.r 3 .nil))) (.w 1 5 (.w 3 5 (.r 5 .nil) (.r 3 .nil)) (.r 1 (.r 3 .nil))) (.w 1 4 (.w 3 4 (.r 4 .nil) (.r 3 .nil)) (.r 1 (.r 3 .nil)))))) (by kernel_rfl) ?_
  refine SDT.take rfl panicBody (op_loadX ty96 rfl (by assumption) rfl) rfl rfl ?_
  refine SDT.take rfl panicBody (op_loadX ty96 rfl (by assumption) rfl) rfl rfl ?_
  refine SDT.three rfl rfl rfl (op_callF en44 (vs := [_]) rfl (hfa hX03)) (op_alloc z98) (op_alloc z98) rfl rfl rfl rfl rfl rfl ?_ ?_ ?_
  · rintro _ _ X5 ⟨rfl, hX5, ra, rfl, hra⟩
    have hra' := hra
    obtain ⟨o1, n1, p1, q1, i1, j1, i2, j2, rfl⟩ := hra'.form
    refine SDT.three rfl rfl rfl (op_callF en44 (vs := [_]) rfl (hfb (hX03.trans' hX5))) (op_alloc z98) (op_alloc z98) rfl rfl rfl rfl rfl rfl ?_ ?_ ?_
    · rintro _ _ X6 ⟨rfl, hX6, rb, rfl, hrb⟩
      have hrb' := hrb
      obtain ⟨o2, n2, p2, q2, i3, j3, i4, j4, rfl⟩ := hrb'.form
      refine SDT.two rfl rfl (op_alloc z98) (op_alloc z98) rfl rfl rfl rfl ?_ ?_
      · rintro _ _ _ ⟨B5, rfl, rfl, rfl⟩
        refine SDT.run rfl (op_alloc z98) rfl rfl ?_
        rintro _ _ _ ⟨B6, rfl, rfl, rfl⟩
        refine SDT.nil ?_
        show SL _ _ _ _ _ _ _ [_, _] _ _ _
        refine SL.w (op_store ty98 rfl rfl (by repeat constructor) rfl rfl rfl) ?_
        rintro _ _ _ ⟨rfl, rfl⟩
        refine SL.w (op_store ty98 rfl rfl (by repeat constructor) rfl rfl rfl) ?_
        rintro _ _ _ ⟨rfl, rfl⟩
        refine SL.nil ?_
        subst hca hcb
        refine T.perm (own' := [ConI B5 (rawC e1 m1 bs1 k1) (.int .i64 (o1 : Int), .int .i64 n1, .slice p1 i1 j1, .slice q1 i2 j2), ConI B6 (rawC e2 m2 bs2 k2) (.int .i64 (o2 : Int), .int .i64 n2, .slice p2 i3 j3, .slice q2 i4 j4)]) (by first | exact List.Perm.refl _ | exact List.Perm.swap _ _ _) ?_
        exact T.backW 0 (by omega) ⟨B5, B6, _, _, hX5.trans' hX6, hra.mono hX6, hrb, rfl, rfl⟩ (by repeat (first | exact Sub.nil | refine Sub.cons rfl ?_))
      · rintro _ _ _ ⟨B6, rfl, rfl, rfl⟩
        refine SDT.run rfl (op_alloc z98) rfl rfl ?_
        rintro _ _ _ ⟨B5, rfl, rfl, rfl⟩
        refine SDT.nil ?_
        show SL _ _ _ _ _ _ _ [_, _] _ _ _
        refine SL.w (op_store ty98 rfl rfl (by repeat constructor) rfl rfl rfl) ?_
        rintro _ _ _ ⟨rfl, rfl⟩
        refine SL.w (op_store ty98 rfl rfl (by repeat constructor) rfl rfl rfl) ?_
        rintro _ _ _ ⟨rfl, rfl⟩
        refine SL.nil ?_
        subst hca hcb
        refine T.perm (own' := [ConI B5 (rawC e1 m1 bs1 k1) (.int .i64 (o1 : Int), .int .i64 n1, .slice p1 i1 j1, .slice q1 i2 j2), ConI B6 (rawC e2 m2 bs2 k2) (.int .i64 (o2 : Int), .int .i64 n2, .slice p2 i3 j3, .slice q2 i4 j4)]) (by first | exact List.Perm.refl _ | exact List.Perm.swap _ _ _) ?_
        exact T.backW 0 (by omega) ⟨B5, B6, _, _, hX5.trans' hX6, hra.mono hX6, hrb, rfl, rfl⟩ (by repeat (first | exact Sub.nil | refine Sub.cons rfl ?_))
    · rintro _ _ _ ⟨B5, rfl, rfl, rfl⟩
      refine SDT.two rfl rfl (op_callF en44 (vs := [_]) rfl (hfb (hX03.trans' hX5))) (op_alloc z98) rfl rfl rfl rfl ?_ ?_
      · rintro _ _ X6 ⟨rfl, hX6, rb, rfl, hrb⟩
        have hrb' := hrb
        obtain ⟨o2, n2, p2, q2, i3, j3, i4, j4, rfl⟩ := hrb'.form
        refine SDT.run rfl (op_alloc z98) rfl rfl ?_
        rintro _ _ _ ⟨B6, rfl, rfl, rfl⟩
        refine SDT.nil ?_
        show SL _ _ _ _ _ _ _ [_, _] _ _ _
        refine SL.w (op_store ty98 rfl rfl (by repeat constructor) rfl rfl rfl) ?_
        rintro _ _ _ ⟨rfl, rfl⟩
        refine SL.w (op_store ty98 rfl rfl (by repeat constructor) rfl rfl rfl) ?_
        rintro _ _ _ ⟨rfl, rfl⟩
        refine SL.nil ?_
        subst hca hcb
        refine T.perm (own' := [ConI B5 (rawC e1 m1 bs1 k1) (.int .i64 (o1 : Int), .int .i64 n1, .slice p1 i1 j1, .slice q1 i2 j2), ConI B6 (rawC e2 m2 bs2 k2) (.int .i64 (o2 : Int), .int .i64 n2, .slice p2 i3 j3, .slice q2 i4 j4)]) (by first | exact List.Perm.refl _ | exact List.Perm.swap _ _ _) ?_
        exact T.backW 0 (by omega) ⟨B5, B6, _, _, hX5.trans' hX6, hra.mono hX6, hrb, rfl, rfl⟩ (by repeat (first | exact Sub.nil | refine Sub.cons rfl ?_))
      · rintro _ _ _ ⟨B6, rfl, rfl, rfl⟩
        refine SDT.run rfl (op_callF en44 (vs := [_]) rfl (hfb (hX03.trans' hX5))) rfl rfl ?_
        rintro _ _ X6 ⟨rfl, hX6, rb, rfl, hrb⟩
        have hrb' := hrb
        obtain ⟨o2, n2, p2, q2, i3, j3, i4, j4, rfl⟩ := hrb'.form
        refine SDT.nil ?_
        show SL _ _ _ _ _ _ _ [_, _] _ _ _
        refine SL.w (op_store ty98 rfl rfl (by repeat constructor) rfl rfl rfl) ?_
        rintro _ _ _ ⟨rfl, rfl⟩
        refine SL.w (op_store ty98 rfl rfl (by repeat constructor) rfl rfl rfl) ?_
        rintro _ _ _ ⟨rfl, rfl⟩
        refine SL.nil ?_
        subst hca hcb
        refine T.perm (own' := [ConI B5 (rawC e1 m1 bs1 k1) (.int .i64 (o1 : Int), .int .i64 n1, .slice p1 i1 j1, .slice q1 i2 j2), ConI B6 (rawC e2 m2 bs2 k2) (.int .i64 (o2 : Int), .int .i64 n2, .slice p2 i3 j3, .slice q2 i4 j4)]) (by first | exact List.Perm.refl _ | exact List.Perm.swap _ _ _) ?_
        exact T.backW 0 (by omega) ⟨B5, B6, _, _, hX5.trans' hX6, hra.mono hX6, hrb, rfl, rfl⟩ (by repeat (first | exact Sub.nil | refine Sub.cons rfl ?_))
    · rintro _ _ _ ⟨B6, rfl, rfl, rfl⟩
      refine SDT.two rfl rfl (op_callF en44 (vs := [_]) rfl (hfb (hX03.trans' hX5))) (op_alloc z98) rfl rfl rfl rfl ?_ ?_
      · rintro _ _ X6 ⟨rfl, hX6, rb, rfl, hrb⟩
        have hrb' := hrb
        obtain ⟨o2, n2, p2, q2, i3, j3, i4, j4, rfl⟩ := hrb'.form
        refine SDT.run rfl (op_alloc z98) rfl rfl ?_
        rintro _ _ _ ⟨B5, rfl, rfl, rfl⟩
        refine SDT.nil ?_
        show SL _ _ _ _ _ _ _ [_, _] _ _ _
        refine SL.w (op_store ty98 rfl rfl (by repeat constructor) rfl rfl rfl) ?_
        rintro _ _ _ ⟨rfl, rfl⟩
        refine SL.w (op_store ty98 rfl rfl (by repeat constructor) rfl rfl rfl) ?_
        rintro _ _ _ ⟨rfl, rfl⟩
        refine SL.nil ?_
        subst hca hcb
        refine T.perm (own' := [ConI B5 (rawC e1 m1 bs1 k1) (.int .i64 (o1 : Int), .int .i64 n1, .slice p1 i1 j1, .slice q1 i2 j2), ConI B6 (rawC e2 m2 bs2 k2) (.int .i64 (o2 : Int), .int .i64 n2, .slice p2 i3 j3, .slice q2 i4 j4)]) (by first | exact List.Perm.refl _ | exact List.Perm.swap _ _ _) ?_
        exact T.backW 0 (by omega) ⟨B5, B6, _, _, hX5.trans' hX6, hra.mono hX6, hrb, rfl, rfl⟩ (by repeat (first | exact Sub.nil | refine Sub.cons rfl ?_))
      · rintro _ _ _ ⟨B5, rfl, rfl, rfl⟩
        refine SDT.run rfl (op_callF en44 (vs := [_]) rfl (hfb (hX03.trans' hX5))) rfl rfl ?_
        rintro _ _ X6 ⟨rfl, hX6, rb, rfl, hrb⟩
        have hrb' := hrb
        obtain ⟨o2, n2, p2, q2, i3, j3, i4, j4, rfl⟩ := hrb'.form
        refine SDT.nil ?_
        show SL _ _ _ _ _ _ _ [_, _] _ _ _
        refine SL.w (op_store ty98 rfl rfl (by repeat constructor) rfl rfl rfl) ?_
        rintro _ _ _ ⟨rfl, rfl⟩
        refine SL.w (op_store ty98 rfl rfl (by repeat constructor) rfl rfl rfl) ?_
        rintro _ _ _ ⟨rfl, rfl⟩
        refine SL.nil ?_
        subst hca hcb
        refine T.perm (own' := [ConI B5 (rawC e1 m1 bs1 k1) (.int .i64 (o1 : Int), .int .i64 n1, .slice p1 i1 j1, .slice q1 i2 j2), ConI B6 (rawC e2 m2 bs2 k2) (.int .i64 (o2 : Int), .int .i64 n2, .slice p2 i3 j3, .slice q2 i4 j4)]) (by first | exact List.Perm.refl _ | exact List.Perm.swap _ _ _) ?_
        exact T.backW 0 (by omega) ⟨B5, B6, _, _, hX5.trans' hX6, hra.mono hX6, hrb, rfl, rfl⟩ (by repeat (first | exact Sub.nil | refine Sub.cons rfl ?_))
  · rintro _ _ _ ⟨B5, rfl, rfl, rfl⟩
    refine SDT.two rfl rfl (op_callF en44 (vs := [_]) rfl (hfa hX03)) (op_alloc z98) rfl rfl rfl rfl ?_ ?_
    · rintro _ _ X5 ⟨rfl, hX5, ra, rfl, hra⟩
      have hra' := hra
      obtain ⟨o1, n1, p1, q1, i1, j1, i2, j2, rfl⟩ := hra'.form
      refine SDT.two rfl rfl (op_callF en44 (vs := [_]) rfl (hfb (hX03.trans' hX5))) (op_alloc z98) rfl rfl rfl rfl ?_ ?_
      · rintro _ _ X6 ⟨rfl, hX6, rb, rfl, hrb⟩
        have hrb' := hrb
        obtain ⟨o2, n2, p2, q2, i3, j3, i4, j4, rfl⟩ := hrb'.form
        refine SDT.run rfl (op_alloc z98) rfl rfl ?_
        rintro _ _ _ ⟨B6, rfl, rfl, rfl⟩
        refine SDT.nil ?_
        show SL _ _ _ _ _ _ _ [_, _] _ _ _
        refine SL.w (op_store ty98 rfl rfl (by repeat constructor) rfl rfl rfl) ?_
        rintro _ _ _ ⟨rfl, rfl⟩
        refine SL.w (op_store ty98 rfl rfl (by repeat constructor) rfl rfl rfl) ?_
        rintro _ _ _ ⟨rfl, rfl⟩
        refine SL.nil ?_
        subst hca hcb
        refine T.perm (own' := [ConI B5 (rawC e1 m1 bs1 k1) (.int .i64 (o1 : Int), .int .i64 n1, .slice p1 i1 j1, .slice q1 i2 j2), ConI B6 (rawC e2 m2 bs2 k2) (.int .i64 (o2 : Int), .int .i64 n2, .slice p2 i3 j3, .slice q2 i4 j4)]) (by first | exact List.Perm.refl _ | exact List.Perm.swap _ _ _) ?_
        exact T.backW 0 (by omega) ⟨B5, B6, _, _, hX5.trans' hX6, hra.mono hX6, hrb, rfl, rfl⟩ (by repeat (first | exact Sub.nil | refine Sub.cons rfl ?_))
      · rintro _ _ _ ⟨B6, rfl, rfl, rfl⟩
        refine SDT.run rfl (op_callF en44 (vs := [_]) rfl (hfb (hX03.trans' hX5))) rfl rfl ?_
        rintro _ _ X6 ⟨rfl, hX6, rb, rfl, hrb⟩
        have hrb' := hrb
        obtain ⟨o2, n2, p2, q2, i3, j3, i4, j4, rfl⟩ := hrb'.form
        refine SDT.nil ?_
        show SL _ _ _ _ _ _ _ [_, _] _ _ _
        refine SL.w (op_store ty98 rfl rfl (by repeat constructor) rfl rfl rfl) ?_
        rintro _ _ _ ⟨rfl, rfl⟩
        refine SL.w (op_store ty98 rfl rfl (by repeat constructor) rfl rfl rfl) ?_
        rintro _ _ _ ⟨rfl, rfl⟩
        refine SL.nil ?_
        subst hca hcb
        refine T.perm (own' := [ConI B5 (rawC e1 m1 bs1 k1) (.int .i64 (o1 : Int), .int .i64 n1, .slice p1 i1 j1, .slice q1 i2 j2), ConI B6 (rawC e2 m2 bs2 k2) (.int .i64 (o2 : Int), .int .i64 n2, .slice p2 i3 j3, .slice q2 i4 j4)]) (by first | exact List.Perm.refl _ | exact List.Perm.swap _ _ _) ?_
        exact T.backW 0 (by omega) ⟨B5, B6, _, _, hX5.trans' hX6, hra.mono hX6, hrb, rfl, rfl⟩ (by repeat (first | exact Sub.nil | refine Sub.cons rfl ?_))
    · rintro _ _ _ ⟨B6, rfl, rfl, rfl⟩
      refine SDT.run rfl (op_callF en44 (vs := [_]) rfl (hfa hX03)) rfl rfl ?_
      rintro _ _ X5 ⟨rfl, hX5, ra, rfl, hra⟩
      have hra' := hra
      obtain ⟨o1, n1, p1, q1, i1, j1, i2, j2, rfl⟩ := hra'.form
      refine SDT.run rfl (op_callF en44 (vs := [_]) rfl (hfb (hX03.trans' hX5))) rfl rfl ?_
      rintro _ _ X6 ⟨rfl, hX6, rb, rfl, hrb⟩
      have hrb' := hrb
      obtain ⟨o2, n2, p2, q2, i3, j3, i4, j4, rfl⟩ := hrb'.form
      refine SDT.nil ?_
      show SL _ _ _ _ _ _ _ [_, _] _ _ _
      refine SL.w (op_store ty98 rfl rfl (by repeat constructor) rfl rfl rfl) ?_
      rintro _ _ _ ⟨rfl, rfl⟩
      refine SL.w (op_store ty98 rfl rfl (by repeat constructor) rfl rfl rfl) ?_
      rintro _ _ _ ⟨rfl, rfl⟩
      refine SL.nil ?_
      subst hca hcb
      refine T.perm (own' := [ConI B5 (rawC e1 m1 bs1 k1) (.int .i64 (o1 : Int), .int .i64 n1, .slice p1 i1 j1, .slice q1 i2 j2), ConI B6 (rawC e2 m2 bs2 k2) (.int .i64 (o2 : Int), .int .i64 n2, .slice p2 i3 j3, .slice q2 i4 j4)]) (by first | exact List.Perm.refl _ | exact List.Perm.swap _ _ _) ?_
      exact T.backW 0 (by omega) ⟨B5, B6, _, _, hX5.trans' hX6, hra.mono hX6, hrb, rfl, rfl⟩ (by repeat (first | exact Sub.nil | refine Sub.cons rfl ?_))
  · rintro _ _ _ ⟨B6, rfl, rfl, rfl⟩
    refine SDT.two rfl rfl (op_callF en44 (vs := [_]) rfl (hfa hX03)) (op_alloc z98) rfl rfl rfl rfl ?_ ?_
    · rintro _ _ X5 ⟨rfl, hX5, ra, rfl, hra⟩
      have hra' := hra
      obtain ⟨o1, n1, p1, q1, i1, j1, i2, j2, rfl⟩ := hra'.form
      refine SDT.two rfl rfl (op_callF en44 (vs := [_]) rfl (hfb (hX03.trans' hX5))) (op_alloc z98) rfl rfl rfl rfl ?_ ?_
      · rintro _ _ X6 ⟨rfl, hX6, rb, rfl, hrb⟩
        have hrb' := hrb
        obtain ⟨o2, n2, p2, q2, i3, j3, i4, j4, rfl⟩ := hrb'.form
        refine SDT.run rfl (op_alloc z98) rfl rfl ?_
        rintro _ _ _ ⟨B5, rfl, rfl, rfl⟩
        refine SDT.nil ?_
        show SL _ _ _ _ _ _ _ [_, _] _ _ _
        refine SL.w (op_store ty98 rfl rfl (by repeat constructor) rfl rfl rfl) ?_
        rintro _ _ _ ⟨rfl, rfl⟩
        refine SL.w (op_store ty98 rfl rfl (by repeat constructor) rfl rfl rfl) ?_
        rintro _ _ _ ⟨rfl, rfl⟩
        refine SL.nil ?_
        subst hca hcb
        refine T.perm (own' := [ConI B5 (rawC e1 m1 bs1 k1) (.int .i64 (o1 : Int), .int .i64 n1, .slice p1 i1 j1, .slice q1 i2 j2), ConI B6 (rawC e2 m2 bs2 k2) (.int .i64 (o2 : Int), .int .i64 n2, .slice p2 i3 j3, .slice q2 i4 j4)]) (by first | exact List.Perm.refl _ | exact List.Perm.swap _ _ _) ?_
        exact T.backW 0 (by omega) ⟨B5, B6, _, _, hX5.trans' hX6, hra.mono hX6, hrb, rfl, rfl⟩ (by repeat (first | exact Sub.nil | refine Sub.cons rfl ?_))
      · rintro _ _ _ ⟨B5, rfl, rfl, rfl⟩
        refine SDT.run rfl (op_callF en44 (vs := [_]) rfl (hfb (hX03.trans' hX5))) rfl rfl ?_
        rintro _ _ X6 ⟨rfl, hX6, rb, rfl, hrb⟩
        have hrb' := hrb
        obtain ⟨o2, n2, p2, q2, i3, j3, i4, j4, rfl⟩ := hrb'.form
        refine SDT.nil ?_
        show SL _ _ _ _ _ _ _ [_, _] _ _ _
        refine SL.w (op_store ty98 rfl rfl (by repeat constructor) rfl rfl rfl) ?_
        rintro _ _ _ ⟨rfl, rfl⟩
        refine SL.w (op_store ty98 rfl rfl (by repeat constructor) rfl rfl rfl) ?_
        rintro _ _ _ ⟨rfl, rfl⟩
        refine SL.nil ?_
        subst hca hcb
        refine T.perm (own' := [ConI B5 (rawC e1 m1 bs1 k1) (.int .i64 (o1 : Int), .int .i64 n1, .slice p1 i1 j1, .slice q1 i2 j2), ConI B6 (rawC e2 m2 bs2 k2) (.int .i64 (o2 : Int), .int .i64 n2, .slice p2 i3 j3, .slice q2 i4 j4)]) (by first | exact List.Perm.refl _ | exact List.Perm.swap _ _ _) ?_
        exact T.backW 0 (by omega) ⟨B5, B6, _, _, hX5.trans' hX6, hra.mono hX6, hrb, rfl, rfl⟩ (by repeat (first | exact Sub.nil | refine Sub.cons rfl ?_))
    · rintro _ _ _ ⟨B5, rfl, rfl, rfl⟩
      refine SDT.run rfl (op_callF en44 (vs := [_]) rfl (hfa hX03)) rfl rfl ?_
      rintro _ _ X5 ⟨rfl, hX5, ra, rfl, hra⟩
      have hra' := hra
      obtain ⟨o1, n1, p1, q1, i1, j1, i2, j2, rfl⟩ := hra'.form
      refine SDT.run rfl (op_callF en44 (vs := [_]) rfl (hfb (hX03.trans' hX5))) rfl rfl ?_
      rintro _ _ X6 ⟨rfl, hX6, rb, rfl, hrb⟩
      have hrb' := hrb
      obtain ⟨o2, n2, p2, q2, i3, j3, i4, j4, rfl⟩ := hrb'.form
      refine SDT.nil ?_
      show SL _ _ _ _ _ _ _ [_, _] _ _ _
      refine SL.w (op_store ty98 rfl rfl (by repeat constructor) rfl rfl rfl) ?_
      rintro _ _ _ ⟨rfl, rfl⟩
      refine SL.w (op_store ty98 rfl rfl (by repeat constructor) rfl rfl rfl) ?_
      rintro _ _ _ ⟨rfl, rfl⟩
      refine SL.nil ?_
      subst hca hcb
      refine T.perm (own' := [ConI B5 (rawC e1 m1 bs1 k1) (.int .i64 (o1 : Int), .int .i64 n1, .slice p1 i1 j1, .slice q1 i2 j2), ConI B6 (rawC e2 m2 bs2 k2) (.int .i64 (o2 : Int), .int .i64 n2, .slice p2 i3 j3, .slice q2 i4 j4)]) (by first | exact List.Perm.refl _ | exact List.Perm.swap _ _ _) ?_
      exact T.backW 0 (by omega) ⟨B5, B6, _, _, hX5.trans' hX6, hra.mono hX6, hrb, rfl, rfl⟩ (by repeat (first | exact Sub.nil | refine Sub.cons rfl ?_))
  rintro _ _ _ X4 ⟨b5, b6, ra, rb, hX4, hra, hrb, rfl, rfl⟩
  have hby := fun {X' : PMap} (hX : X4.le X') => rcby_spec (c := ca) (by omega) za.1 (by omega) (by omega) na (hra.mono hX)
  have hcoA := fun {X' : PMap} (hX : X4.le X') => con18_spec (e := ca.enf) (k := ca.kind) (s := ca.name) (by omega) (by omega) oa (hra.mono hX)
  have hcoB := fun {X' : PMap} (hX : X4.le X') => con18_spec (e := cb.enf) (k := cb.kind) (s := cb.name) (by omega) (by omega) ob (hrb.mono hX)
  have hmkA := fun {X' : PMap} (hX : X4.le X') => make18_spec _ (Nat.le_refl _) (by omega) oa (hra.mono hX)
  have hmkB := fun {X' : PMap} (hX : X4.le X') => make18_spec _ (Nat.le_refl _) (by omega) ob (hrb.mono hX)
  have hrq := fun {X' : PMap} (hX : X4.le X') => rfeq_spec _ (Nat.le_refl _) (by omega) (hra.mono hX) (hrb.mono hX)
  obtain ⟨o1, n1, p1, q1, i1, j1, i2, j2, rfl⟩ := hra.form
  obtain ⟨o2, n2, p2, q2, i3, j3, i4, j4, rfl⟩ := hrb.form
  try simp only at hby
  try simp only at hcoA
  try simp only at hcoB
  try simp only at hmkA
  try simp only at hmkB
  try simp only at hrq
  have hre : readM (enc18 ca.enf ca.kind ca.name ca.fm) = (ca, 0) := read_enc va
  refine T.seq <| T.region <| SL.v (op_load ty98 rfl (by repeat constructor) rfl) ?_
  refine SL.w (op_callF en46 (vs := [_]) rfl (hby (PMap.le_refl _))) ?_
  rintro v19 _ X5 ⟨rfl, hX5, hb5⟩
  have hrd := readC_spec hb5 (by omega) (enc18_lt _ _ _ _)
  obtain ⟨A5, c5, hv5⟩ := hb5.form
  subst hv5
  rw [hre] at hrd
  refine SL.w (op_callF en45 (vs := [_]) rfl (hrd)) ?_
  rintro _ _ X6 ⟨rfl, hX6, r6, rfl, hr6⟩
  have hr6' := hr6
  obtain ⟨o3, n3, p3, q3, i5, j5, i6, j6, rfl⟩ := hr6.form
  have hX46 := hX5.trans' hX6
  refine SL.mv rfl <| SL.v (op_extract rfl rfl) <| SL.v (op_extract rfl rfl) <| SL.w (op_alloc z101) ?_
  rintro _ _ _ ⟨B7, rfl, rfl, rfl⟩
  refine SL.w (op_store ty101 rfl rfl (by repeat constructor) rfl rfl rfl) ?_
  rintro _ _ _ ⟨rfl, rfl⟩
  refine SL.as rfl <| SL.nil <| T.seq <| T.seq <| T.draw (by kernel_rfl) 24 [.t 0, .t 1, .t 2, .t 3, .r 4, .r 5, .t 6, .t 7, .t 8, .t 9, .t 12, .r 10, .r 11, .r 13, .r 14, .t 15, .t 16, .t 17, .t 18, .t 19, .r 20, .r 21, .t 22, .t 23] (by kernel_rfl) ?_
  refine SD.take rfl panicBody (op_move rfl) rfl rfl ?_
  refine SD.take rfl panicBody (op_neqF rfl rfl (by omega)) rfl rfl ?_
  refine SD.take rfl panicBody (op_move rfl) rfl rfl ?_
  refine SD.take rfl panicBody (op_load ty98 rfl (by repeat constructor) rfl) rfl rfl ?_
  refine SD.run rfl (op_callF en48 (vs := [_]) rfl (hcoA hX46)) rfl rfl ?_
  rintro _ _ X7 ⟨rfl, hX7, r7, rfl, hr7⟩
  have h28 := conchk_spec (enf := ca.enf) (kind := ca.kind) (name := ca.name) (by omega) (by omega) hr7
  obtain ⟨o4, n4, p4, q4, i7, j7, i8, j8, rfl⟩ := hr7.form
  simp only [va] at h28
  refine SD.run rfl (op_callF en47 (vs := [_]) rfl (h28)) rfl rfl ?_
  rintro _ _ X8 ⟨rfl, hX8, rfl⟩
  refine SD.take rfl panicBody (op_neqF rfl rfl (by omega)) rfl rfl ?_
  refine SD.take rfl panicBody (op_pickF rfl rfl) rfl rfl ?_
  refine SD.take rfl panicBody (op_move rfl) rfl rfl ?_
  refine SD.take rfl panicBody (op_load ty98 rfl (by repeat constructor) rfl) rfl rfl ?_
  refine SD.take rfl panicBody (op_load ty98 rfl (by repeat constructor) rfl) rfl rfl ?_
  refine SD.run rfl (op_callF en48 (vs := [_]) rfl (hcoA ((hX46.trans' hX7).trans' hX8))) rfl rfl ?_
  rintro _ _ X9 ⟨rfl, hX9, r9, rfl, hr9⟩
  have h34 := cbytes_spec (enf := ca.enf) (kind := ca.kind) (name := ca.name) (by omega) (by omega) hr9
  obtain ⟨o5, n5, p5, q5, i9, j9, i10, j10, rfl⟩ := hr9.form
  simp only [va, ↓reduceIte] at h34
  have hX49 := ((hX46.trans' hX7).trans' hX8).trans' hX9
  refine SD.run rfl (op_callF en50 (vs := [_]) rfl (h34)) rfl rfl ?_
  rintro v34 _ X10 ⟨rfl, hX10, hb10⟩
  obtain ⟨A6, c6, hv6⟩ := hb10.form
  subst hv6
  refine SD.run rfl (op_callF en46 (vs := [_]) rfl (hby (hX49.trans' hX10))) rfl rfl ?_
  rintro v36 _ X11 ⟨rfl, hX11, hb11⟩
  have h37 := eqBytes_spec (hb10.mono hX11) hb11 (by omega)
  obtain ⟨A7, c7, hv7⟩ := hb11.form
  subst hv7
  simp only [decide_true] at h37
  refine SD.run rfl (op_callF en49 (vs := [_, _]) rfl (h37)) rfl rfl ?_
  rintro _ _ X12 ⟨rfl, hX12, rfl⟩
  have hX412 := ((hX49.trans' hX10).trans' hX11).trans' hX12
  refine SD.take rfl panicBody (op_not rfl) rfl rfl ?_
  refine SD.take rfl panicBody (op_pickF rfl rfl) rfl rfl ?_
  refine SD.take rfl panicBody (op_move rfl) rfl rfl ?_
  refine SD.take rfl panicBody (op_load ty101 rfl (by repeat constructor) rfl) rfl rfl ?_
  refine SD.take rfl panicBody (op_load ty98 rfl (by repeat constructor) rfl) rfl rfl ?_
  refine SD.run rfl (op_callF en48 (vs := [_]) rfl (hcoA hX412)) rfl rfl ?_
  rintro _ _ X13 ⟨rfl, hX13, r13, rfl, hr13⟩
  have h44 := feqC_spec (c := ca) (d := ca) (r' := (ca.enf, ca.kind, ca.name, r13)) ((((((((hr6'.mono hX7).mono hX8).mono hX9).mono hX10).mono hX11).mono hX12).mono hX13)) ⟨rfl, rfl, rfl, hr13⟩ (by omega)
  obtain ⟨o7, n7, p7, q7, i13, j13, i14, j14, rfl⟩ := hr13.form
  simp only [decide_true] at h44
  refine SD.run rfl (op_callF en51 (vs := [_, _]) rfl (h44)) rfl rfl ?_
  rintro _ _ X14 ⟨rfl, hX14, rfl⟩
  have hX414 := (hX412.trans' hX13).trans' hX14
  have hcf : ca = cb ↔ ca.enf = cb.enf ∧ ca.kind = cb.kind ∧ ca.name = cb.name ∧ ca.fm = cb.fm := by cases ca; cases cb; exact cf_eq
  refine SD.take rfl panicBody (op_not rfl) rfl rfl ?_
  refine SD.take rfl panicBody (op_pickF rfl rfl) rfl rfl ?_
  refine SD.nil ?_
  show SL _ _ _ _ _ _ _ [] _ _ _
  refine SL.nil <| T.condF rfl <| T.skip <| T.drop B7 (by repeat constructor) ?_
  refine T.seq <| T.meet (fun _ env own X' => ∃ q : Bool, q = decide (ca = cb) ∧ X14.le X' ∧ env = [(5, .pointer (some ⟨b5, 0, none⟩)), (6, .pointer (some ⟨b6, 0, none⟩)), (9, .bool q)] ∧ own = [ConI b5 ca (.int .i64 (o1 : Int), .int .i64 n1, .slice p1 i1 j1, .slice q1 i2 j2), ConI b6 cb (.int .i64 (o2 : Int), .int .i64 n2, .slice p2 i3 j3, .slice q2 i4 j4)]) ?_ ?_
  · by_cases g1 : ca.enf = cb.enf
    case neg =>
      have hb : (ca.enf == cb.enf) = false := by simpa using g1
      refine T.region <| SL.v (op_fieldAddr fa98_0 rfl) <| SL.v (op_load ty4 rfl (by repeat constructor) rfl) ?_
      refine SL.v (op_fieldAddr fa98_0 rfl) <| SL.v (op_load ty4 rfl (by repeat constructor) rfl) ?_
      refine SL.v (op_eqlBb Tryz.underlying4 rfl rfl) ?_
      rw [hb]
      refine SL.mv rfl <| SL.skip rfl rfl ?_
      refine SL.skip rfl rfl ?_
      refine SL.skip rfl rfl ?_
      refine SL.skip rfl rfl ?_
      refine SL.skip rfl rfl ?_
      refine SL.v (op_pickF rfl rfl) <| SL.mv rfl <| SL.skip rfl rfl ?_
      refine SL.skip rfl rfl ?_
      refine SL.skip rfl rfl ?_
      refine SL.skip rfl rfl ?_
      refine SL.skip rfl rfl ?_
      refine SL.v (op_pickF rfl rfl) <| SL.mv rfl <| SL.skip rfl rfl ?_
      refine SL.skip rfl rfl ?_
      refine SL.skip rfl rfl ?_
      refine SL.skip rfl rfl ?_
      refine SL.skip rfl rfl ?_
      refine SL.v (op_pickF rfl rfl) <| SL.as rfl <| SL.nil ?_
      exact T.backW 0 (by omega) ⟨_, (decide_eq_false fun h => g1 (hcf.1 h).1).symm, PMap.le_refl _, rfl, rfl⟩ (by repeat (first | exact Sub.nil | refine Sub.cons rfl ?_))
    have hb : (ca.enf == cb.enf) = true := by simpa using g1
    by_cases g2 : ca.kind = cb.kind
    case neg =>
      refine T.region <| SL.v (op_fieldAddr fa98_0 rfl) <| SL.v (op_load ty4 rfl (by repeat constructor) rfl) ?_
      refine SL.v (op_fieldAddr fa98_0 rfl) <| SL.v (op_load ty4 rfl (by repeat constructor) rfl) ?_
      refine SL.v (op_eqlBb Tryz.underlying4 rfl rfl) ?_
      rw [hb]
      refine SL.mv rfl <| SL.v (op_fieldAddr fa98_1 rfl) <| SL.v (op_load ty3 rfl (by repeat constructor) rfl) ?_
      refine SL.v (op_fieldAddr fa98_1 rfl) <| SL.v (op_load ty3 rfl (by repeat constructor) rfl) ?_
      refine SL.v (op_eqlF rfl rfl (by omega)) ?_
      refine SL.v (op_pickT rfl rfl) <| SL.mv rfl <| SL.skip rfl rfl ?_
      refine SL.skip rfl rfl ?_
      refine SL.skip rfl rfl ?_
      refine SL.skip rfl rfl ?_
      refine SL.skip rfl rfl ?_
      refine SL.v (op_pickF rfl rfl) <| SL.mv rfl <| SL.skip rfl rfl ?_
      refine SL.skip rfl rfl ?_
      refine SL.skip rfl rfl ?_
      refine SL.skip rfl rfl ?_
      refine SL.skip rfl rfl ?_
      refine SL.v (op_pickF rfl rfl) <| SL.as rfl <| SL.nil ?_
      exact T.backW 0 (by omega) ⟨_, (decide_eq_false fun h => g2 (hcf.1 h).2.1).symm, PMap.le_refl _, rfl, rfl⟩ (by repeat (first | exact Sub.nil | refine Sub.cons rfl ?_))
    by_cases g3 : ca.name = cb.name
    case neg =>
      refine T.region <| SL.v (op_fieldAddr fa98_0 rfl) <| SL.v (op_load ty4 rfl (by repeat constructor) rfl) ?_
      refine SL.v (op_fieldAddr fa98_0 rfl) <| SL.v (op_load ty4 rfl (by repeat constructor) rfl) ?_
      refine SL.v (op_eqlBb Tryz.underlying4 rfl rfl) ?_
      rw [hb]
      refine SL.mv rfl <| SL.v (op_fieldAddr fa98_1 rfl) <| SL.v (op_load ty3 rfl (by repeat constructor) rfl) ?_
      refine SL.v (op_fieldAddr fa98_1 rfl) <| SL.v (op_load ty3 rfl (by repeat constructor) rfl) ?_
      refine SL.v (op_eqlT rfl rfl (by omega)) ?_
      refine SL.v (op_pickT rfl rfl) <| SL.mv rfl <| SL.v (op_fieldAddr fa98_2 rfl) <| SL.v (op_load ty9 rfl (by repeat constructor) rfl) ?_
      refine SL.v (op_fieldAddr fa98_2 rfl) <| SL.v (op_load ty9 rfl (by repeat constructor) rfl) ?_
      refine SL.v (op_eqlStrD rfl rfl) ?_
      rw [decide_eq_false g3]
      refine SL.v (op_pickT rfl rfl) <| SL.mv rfl <| SL.skip rfl rfl ?_
      refine SL.skip rfl rfl ?_
      refine SL.skip rfl rfl ?_
      refine SL.skip rfl rfl ?_
      refine SL.skip rfl rfl ?_
      refine SL.v (op_pickF rfl rfl) <| SL.as rfl <| SL.nil ?_
      exact T.backW 0 (by omega) ⟨_, (decide_eq_false fun h => g3 (hcf.1 h).2.2.1).symm, PMap.le_refl _, rfl, rfl⟩ (by repeat (first | exact Sub.nil | refine Sub.cons rfl ?_))
    refine T.region <| SL.v (op_fieldAddr fa98_0 rfl) <| SL.v (op_load ty4 rfl (by repeat constructor) rfl) ?_
    refine SL.v (op_fieldAddr fa98_0 rfl) <| SL.v (op_load ty4 rfl (by repeat constructor) rfl) ?_
    refine SL.v (op_eqlBb Tryz.underlying4 rfl rfl) ?_
    rw [hb]
    refine SL.mv rfl <| SL.v (op_fieldAddr fa98_1 rfl) <| SL.v (op_load ty3 rfl (by repeat constructor) rfl) ?_
    refine SL.v (op_fieldAddr fa98_1 rfl) <| SL.v (op_load ty3 rfl (by repeat constructor) rfl) ?_
    refine SL.v (op_eqlT rfl rfl (by omega)) ?_
    refine SL.v (op_pickT rfl rfl) <| SL.mv rfl <| SL.v (op_fieldAddr fa98_2 rfl) <| SL.v (op_load ty9 rfl (by repeat constructor) rfl) ?_
    refine SL.v (op_fieldAddr fa98_2 rfl) <| SL.v (op_load ty9 rfl (by repeat constructor) rfl) ?_
    refine SL.v (op_eqlStrD rfl rfl) ?_
    rw [decide_eq_true g3]
    refine SL.v (op_pickT rfl rfl) <| SL.mv rfl <| SL.v (op_fieldAddr fa98_3 rfl) <| SL.v (op_load ty27 rfl (by repeat constructor) rfl) ?_
    refine SL.v (op_fieldAddr fa98_3 rfl) <| SL.v (op_load ty27 rfl (by repeat constructor) rfl) ?_
    refine SL.w (op_callF en52 (vs := [_, _]) rfl (hrq hX414)) ?_
    rintro _ _ X15 ⟨rfl, hX15, rfl⟩
    refine SL.v (op_pickT rfl rfl) <| SL.as rfl <| SL.nil ?_
    exact T.backW 0 (by omega) ⟨_, decide_eq_decide.2 ⟨fun h => hcf.2 ⟨g1, g2, g3, h⟩, fun h => (hcf.1 h).2.2.2⟩, hX15, rfl, rfl⟩ (by repeat (first | exact Sub.nil | refine Sub.cons rfl ?_))
  rintro _ _ _ X15 ⟨q, hq, hX15, rfl, rfl⟩
  have hX415 := hX414.trans' hX15
  refine T.seq <| T.region <| SL.v (op_load ty98 rfl (by repeat constructor) rfl) ?_
  refine SL.w (op_callF en48 (vs := [_]) rfl (hcoA hX415)) ?_
  rintro _ _ X16 ⟨rfl, hX16, r16, rfl, hr16⟩
  have h111 := fun {X' : PMap} (hX : X16.le X') => conchk_spec (enf := ca.enf) (kind := ca.kind) (name := ⟨#[98, 121]⟩) (by omega) (by omega) (hr16.mono hX)
  have h116 := fun {X' : PMap} (hX : X16.le X') => cbytes_spec (enf := ca.enf) (kind := ca.kind) (name := ⟨#[98, 121]⟩) (by omega) (by omega) (hr16.mono hX)
  obtain ⟨o8, n8, p8, q8, i15, j15, i16, j16, rfl⟩ := hr16.form
  have hby9 : chkC18 ca.kind ⟨#[98, 121]⟩ ca.fm = 9 := by rw [chkC18, if_neg (by omega), if_pos (of_decide_eq_true (by kernel_rfl))]
  simp only [hby9] at h111
  simp only [hby9, if_neg (show ¬(9 : Int) = 0 by decide)] at h116
  have hX416 := hX415.trans' hX16
  refine SL.w (op_alloc z101) ?_
  rintro _ _ _ ⟨B10, rfl, rfl, rfl⟩
  refine SL.w (op_store ty101 rfl rfl (by repeat constructor) rfl rfl rfl) ?_
  rintro _ _ _ ⟨rfl, rfl⟩
  refine SL.nil <| T.seq <| T.region <| SL.v (op_fieldAddr fa101_2 rfl) <| SL.w (op_store ty9 rfl rfl (by repeat constructor) rfl rfl rfl) ?_
  rintro _ _ _ ⟨rfl, rfl⟩
  refine SL.nil <| T.seq <| T.draw (by kernel_rfl) 45 [.t 0, .t 2, .t 5, .r 1, .r 3, .r 4, .t 6, .t 7, .t 8, .t 9, .t 11, .t 12, .t 15, .t 16, .t 17, .t 18, .r 10, .r 13, .r 14, .r 19, .t 20, .t 21, .t 22, .t 23, .t 26, .t 30, .r 24, .r 25, .r 27, .r 28, .r 29, .t 31, .t 32, .t 33, .t 34, .r 35, .t 36, .t 37, .t 38, .t 39, .r 40, .t 41, .t 42, .t 43, .t 44] (by kernel_rfl) ?_
  refine SD.take rfl panicBody (op_load ty98 rfl (by repeat constructor) rfl) rfl rfl ?_
  refine SD.take rfl panicBody (op_load ty98 rfl (by repeat constructor) rfl) rfl rfl ?_
  refine SD.take rfl panicBody (op_move rfl) rfl rfl ?_
  refine SD.run rfl (op_callF en48 (vs := [_]) rfl (hcoA hX416)) rfl rfl ?_
  rintro _ _ X17 ⟨rfl, hX17, r17, rfl, hr17⟩
  have hr17' := hr17
  obtain ⟨o9, n9, p9, q9, i17, j17, i18, j18, rfl⟩ := hr17.form
  refine SD.run rfl (op_callF en48 (vs := [_]) rfl (hcoB (hX416.trans' hX17))) rfl rfl ?_
  rintro _ _ X18 ⟨rfl, hX18, r18, rfl, hr18⟩
  have h80 := feqC_spec (c := ca) (d := cb) (r := (ca.enf, ca.kind, ca.name, .int .u8 (o9 : Int), .int .i64 n9, .slice p9 i17 j17, .slice q9 i18 j18)) (r' := (cb.enf, cb.kind, cb.name, r18)) ⟨rfl, rfl, rfl, hr17'.mono hX18⟩ ⟨rfl, rfl, rfl, hr18⟩ (by omega)
  obtain ⟨o10, n10, p10, q10, i19, j19, i20, j20, rfl⟩ := hr18.form
  try simp only at h80
  rw [← hq] at h80
  refine SD.run rfl (op_callF en51 (vs := [_, _]) rfl (h80)) rfl rfl ?_
  rintro _ _ X19 ⟨rfl, hX19, rfl⟩
  refine SD.take rfl panicBody (op_eqlBb Tryz.underlying4 rfl rfl) rfl rfl ?_
  rw [show (q == q) = true by simp]
  have hX419 := ((hX416.trans' hX17).trans' hX18).trans' hX19
  refine SD.take rfl panicBody (op_move rfl) rfl rfl ?_
  refine SD.take rfl panicBody (op_fieldAddr fa98_3 rfl) rfl rfl ?_
  refine SD.take rfl panicBody (op_load ty27 rfl (by repeat constructor) rfl) rfl rfl ?_
  refine SD.take rfl panicBody (op_fieldAddr fa98_3 rfl) rfl rfl ?_
  refine SD.take rfl panicBody (op_load ty27 rfl (by repeat constructor) rfl) rfl rfl ?_
  refine SD.take rfl panicBody (op_fieldAddr fa98_3 rfl) rfl rfl ?_
  refine SD.take rfl panicBody (op_load ty27 rfl (by repeat constructor) rfl) rfl rfl ?_
  refine SD.take rfl panicBody (op_fieldAddr fa98_3 rfl) rfl rfl ?_
  refine SD.take rfl panicBody (op_load ty27 rfl (by repeat constructor) rfl) rfl rfl ?_
  refine SD.run rfl (op_callF en16 (vs := [_]) rfl (hmkA hX419)) rfl rfl ?_
  rintro _ _ X20 ⟨rfl, hX20, r20, rfl, hr20⟩
  have hr20' := hr20
  obtain ⟨o11, n11, p11, q11, i21, j21, i22, j22, rfl⟩ := hr20.form
  refine SD.run rfl (op_callF en16 (vs := [_]) rfl (hmkB (hX419.trans' hX20))) rfl rfl ?_
  rintro _ _ X21 ⟨rfl, hX21, r21, rfl, hr21⟩
  have h90 := feq_spec _ (Nat.le_refl _) (by omega) (hr20'.mono hX21) hr21
  obtain ⟨o12, n12, p12, q12, i23, j23, i24, j24, rfl⟩ := hr21.form
  try simp only at h90
  refine SD.run rfl (op_callF en53 (vs := [_, _]) rfl (h90)) rfl rfl ?_
  rintro _ _ X22 ⟨rfl, hX22, rfl⟩
  have hX422 := ((hX419.trans' hX20).trans' hX21).trans' hX22
  refine SD.run rfl (op_callF en52 (vs := [_, _]) rfl (hrq hX422)) rfl rfl ?_
  rintro _ _ X23 ⟨rfl, hX23, rfl⟩
  refine SD.take rfl panicBody (op_eqlBb Tryz.underlying4 rfl rfl) rfl rfl ?_
  rw [show (decide (ca.fm = cb.fm) == decide (ca.fm = cb.fm)) = true by simp]
  refine SD.take rfl panicBody (op_pickT rfl rfl) rfl rfl ?_
  refine SD.take rfl panicBody (op_move rfl) rfl rfl ?_
  refine SD.take rfl panicBody (op_load ty98 rfl (by repeat constructor) rfl) rfl rfl ?_
  refine SD.take rfl panicBody (op_load ty98 rfl (by repeat constructor) rfl) rfl rfl ?_
  refine SD.take rfl panicBody (op_move rfl) rfl rfl ?_
  refine SD.run rfl (op_callF en48 (vs := [_]) rfl (hcoA (hX422.trans' hX23))) rfl rfl ?_
  rintro _ _ X24 ⟨rfl, hX24, r24, rfl, hr24⟩
  have h101 := cbytes_spec (enf := ca.enf) (kind := ca.kind) (name := ca.name) (by omega) (by omega) hr24
  obtain ⟨o13, n13, p13, q13, i25, j25, i26, j26, rfl⟩ := hr24.form
  simp only [va, ↓reduceIte] at h101
  have hX424 := (hX422.trans' hX23).trans' hX24
  refine SD.run rfl (op_callF en50 (vs := [_]) rfl (h101)) rfl rfl ?_
  rintro v101 _ X25 ⟨rfl, hX25, hb25⟩
  obtain ⟨A25, c25, hv25⟩ := hb25.form
  subst hv25
  refine SD.run rfl (op_callF en48 (vs := [_]) rfl (hcoB (hX424.trans' hX25))) rfl rfl ?_
  rintro _ _ X26 ⟨rfl, hX26, r26, rfl, hr26⟩
  have h104 := cbytes_spec (enf := cb.enf) (kind := cb.kind) (name := cb.name) (by omega) (by omega) hr26
  obtain ⟨o14, n14, p14, q14, i27, j27, i28, j28, rfl⟩ := hr26.form
  simp only [vb, ↓reduceIte] at h104
  refine SD.run rfl (op_callF en50 (vs := [_]) rfl (h104)) rfl rfl ?_
  rintro v104 _ X27 ⟨rfl, hX27, hb27⟩
  have h105 := eqBytes_spec ((hb25.mono hX26).mono hX27) hb27 (by omega)
  obtain ⟨A27, c27, hv27⟩ := hb27.form
  subst hv27
  rw [show decide (enc18 ca.enf ca.kind ca.name ca.fm = enc18 cb.enf cb.kind cb.name cb.fm) = q by rw [hq]; exact decide_eq_decide.2 (read_inj va vb)] at h105
  have hX427 := ((hX424.trans' hX25).trans' hX26).trans' hX27
  refine SD.run rfl (op_callF en49 (vs := [_, _]) rfl (h105)) rfl rfl ?_
  rintro _ _ X28 ⟨rfl, hX28, rfl⟩
  refine SD.take rfl panicBody (op_eqlBb Tryz.underlying4 rfl rfl) rfl rfl ?_
  rw [show (q == q) = true by simp]
  have hX1628 := ((((((hX17.trans' hX18).trans' hX19).trans' hX20).trans' hX21).trans' hX22).trans' hX23).trans' ((((hX24.trans' hX25).trans' hX26).trans' hX27).trans' hX28)
  refine SD.take rfl panicBody (op_pickT rfl rfl) rfl rfl ?_
  refine SD.take rfl panicBody (op_move rfl) rfl rfl ?_
  refine SD.take rfl panicBody (op_load ty101 rfl (by repeat constructor) rfl) rfl rfl ?_
  refine SD.run rfl (op_callF en47 (vs := [_]) rfl (h111 hX1628)) rfl rfl ?_
  rintro _ _ X29 ⟨rfl, hX29, rfl⟩
  refine SD.take rfl panicBody (op_eqlT rfl rfl (by omega)) rfl rfl ?_
  refine SD.take rfl panicBody (op_pickT rfl rfl) rfl rfl ?_
  refine SD.take rfl panicBody (op_move rfl) rfl rfl ?_
  refine SD.take rfl panicBody (op_load ty101 rfl (by repeat constructor) rfl) rfl rfl ?_
  refine SD.run rfl (op_callF en50 (vs := [_]) rfl (h116 (hX1628.trans' hX29))) rfl rfl ?_
  rintro _ _ X30 ⟨rfl, hX30, rfl⟩
  refine SD.take rfl panicBody (op_lenS Tryz.underlying44 rfl) rfl rfl ?_
  refine SD.take rfl panicBody (op_eqlT rfl rfl (by omega)) rfl rfl ?_
  refine SD.take rfl panicBody (op_pickT rfl rfl) rfl rfl ?_
  refine SD.take rfl panicBody (op_assign rfl) rfl rfl ?_
  refine SD.nil ?_
  show SL _ _ _ _ _ _ _ [] _ _ _
  refine SL.nil <| T.ret1 rfl (ResIs.tmp rfl) ?_
  rfl
end Go.Proofs.YtnpcilglilfajaaGreatDoor
