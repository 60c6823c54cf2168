import Derived.Test.YthppiphldaopnaaDoorBlockO
import Derived.Test.YthppiphldaopnaaDoorBlockE
/-! Blocks: the law of swaps, the other ways. -/
namespace Go.Proofs.YthppiphldaopnaaDoor.Obj
open Go.RowKit Go.Proofs.YthppiphldaopnaaDoor Go.Proofs.YthppiphldaopnaaDoor.Ext Go.Proofs.YthppiphldaopnaaDoor.PShape Go.Proofs.YthppiphldaopnaaDoor.PBlk Go.Proofs.YthppiphldaopnaaDoor.Pure Go.Proofs.YthppiphldaopnaaDoorW.PrintWords Go.Proofs.YthppiphldaopnaaDoorW.PrintLast Go.Proofs.YthppiphldaopnaaDoorW.PrintMore
set_option linter.unusedVariables false
set_option linter.unusedSimpArgs false
set_option maxRecDepth 100000
attribute [local go_sem high] eqA26 eqA38

set_option maxHeartbeats 4000000 in
theorem swaps_out1 (R C tr tc r0 c0 r1 c1 : Int) (A : Option Addr) (n : Nat) (l : List Int) (w : World) (hg : GoodS R C) (hn : R * C = (l.length : Int)) (hm : l.length ≤ 256) (hl : In w A n l) (h0 : ¬ Lies R C tr tc r0 c0) (hT : TabOK w) :
    Calls Tryd.prog 10 #[.agg #[.int .i64 R, .int .i64 C], .slice A l.length n, .agg #[.int .i64 tr, .int .i64 tc, .int .i64 r0, .int .i64 c0], .int .i64 r1, .int .i64 c1] w fun e w' => e = .returned (.bool true) ∧ Below w.heap.size w w' := by
  obtain ⟨k5, h5⟩ := (same_ l l (by omega)).rounds
  rw [decide_eq_true rfl] at h5
  have K5 := Aside0.mk h5
  obtain ⟨k2, h2⟩ := (inside_no hg h0).rounds
  have K2 := Aside0.mk h2
  have H0 := Aside0.mk h0
  have hbe0 := below_alloc (below_alloc (Below.refl w.heap.size w) (Obj.cells #[.int .i64 R, .int .i64 C] 26)) (Obj.cells #[.int .i64 tr, .int .i64 tc, .int .i64 r0, .int .i64 c0] 38)
  have HG := Aside0.mk hg
  have HN := Aside0.mk hn
  have HL := Aside0.mk hl
  have HT := Aside0.mk hT
  have HM := Aside0.mk hm
  have HBe0 := Aside0.mk hbe0
  have HX0 := Aside0.mk ((Bk.new w 26 [.int .i64 R, .int .i64 C]).alloc (Obj.cells #[.int .i64 tr, .int .i64 tc, .int .i64 r0, .int .i64 c0] 38))
  have HU0 : Aside0 (Bk ((w.alloc (Obj.cells #[.int .i64 R, .int .i64 C] 26)).alloc (Obj.cells #[.int .i64 tr, .int .i64 tc, .int .i64 r0, .int .i64 c0] 38)) (w.heap.size + 1) 38 [.int .i64 tr, .int .i64 tc, .int .i64 r0, .int .i64 c0]) := ⟨by
    have := Bk.new (w.alloc (Obj.cells #[.int .i64 R, .int .i64 C] 26)) 38 [.int .i64 tr, .int .i64 tc, .int .i64 r0, .int .i64 c0]
    simpa using this⟩
  clear h5 hg hn hl hT hm hbe0 h2 h0
  go_enter Tryd.func10, Tryd.ntmps10
  go_wp2_with fail
  refine (bawake_ _ (TabOK.below HT.out HBe0.out)).mono ?_
  rintro e w1 ⟨rfl, hb⟩
  have HB1 := Aside0.mk (below_then HBe0.out HBe0.out.size hb)
  have HX1 := Aside0.mk (HX0.out.below hb)
  have HU1 := Aside0.mk (HU0.out.below hb)
  clear hb HBe0 HX0 HU0
  have c0' := HX1.out.cell 0
  have c1' := HX1.out.cell 1
  go_wp2_with fail
  refine (made_yes R C A n l _ HG.out HN.out HM.out (HL.out.below HB1.out) (TabOK.below HT.out HB1.out)).mono ?_
  rintro e w2 ⟨p, g, rfl, hb, hbe, hp, hg⟩
  have hbe2 := below_alloc (Below.refl w2.heap.size w2) (Obj.cells #[.int .i64 tr, .int .i64 tc, .int .i64 r1, .int .i64 c1] 38)
  have t0 := (HU1.out.below hbe).cell 0
  have t1 := (HU1.out.below hbe).cell 1
  have t2 := (HU1.out.below hbe).cell 2
  have t3 := (HU1.out.below hbe).cell 3
  have s0 := ((HU1.out.below hbe).below hbe2).cell 0
  have s1 := ((HU1.out.below hbe).below hbe2).cell 1
  have s2 := ((HU1.out.below hbe).below hbe2).cell 2
  have s3 := ((HU1.out.below hbe).below hbe2).cell 3
  have HB2 := Aside0.mk (below_then (below_then HB1.out HB1.out.size hbe) (below_then HB1.out HB1.out.size hbe).size hbe2)
  have HX2 := Aside0.mk ((HX1.out.below hbe).below hbe2)
  have HU2 := Aside0.mk ((HU1.out.below hbe).below hbe2)
  have HV2 := Aside0.mk (Bk.new w2 38 [.int .i64 tr, .int .i64 tc, .int .i64 r1, .int .i64 c1])
  have HP2 := Aside0.mk (hb.below hbe2)
  clear hb hbe hp hg HB1 HX1 HU1 c0' c1' hbe2
  go_wp2_with fail
  clear t0 t1 t2 t3
  refine (swap_no1 p g R C tr tc r0 c0 r1 c1 l _ HP2.out H0.out (TabOK.below HT.out HB2.out)).mono ?_
  rintro e w3 ⟨rfl, hb⟩
  have HP3 := Aside0.mk (HP2.out.below hb)
  have HX3 := Aside0.mk (HX2.out.below hb)
  have HU3 := Aside0.mk (HU2.out.below hb)
  have HV3 := Aside0.mk (HV2.out.below hb)
  have HB3 := Aside0.mk (below_then HB2.out HB2.out.size hb)
  clear hb HB2 HX2 HU2 HV2 HP2 s0 s1 s2 s3
  go_wp2_with fail
  refine (words_ p g R C l _ HP3.out).mono ?_
  rintro e w4 ⟨v, rfl, hR, hb⟩
  obtain ⟨Av, cv, rfl, hcv, hCv⟩ := Kd.R_reads hR
  have HA4 := Aside0.mk (In.mk hCv hcv)
  have HX4 := Aside0.mk (HX3.out.below hb)
  have HU4 := Aside0.mk (HU3.out.below hb)
  have HV4 := Aside0.mk (HV3.out.below hb)
  have HB4 := Aside0.mk (below_then HB3.out HB3.out.size hb)
  clear hR hb hcv hCv HB3 HX3 HU3 HV3 HP3
  have c0' := HX4.out.cell 0
  have c1' := HX4.out.cell 1
  have t0 := HU4.out.cell 0
  have t1 := HU4.out.cell 1
  have t2 := HU4.out.cell 2
  have t3 := HU4.out.cell 3
  go_wp2_with fail
  refine (abacistlaw12_inside.calls k2 R C tr tc r0 c0 false _ K2.out).mono ?_
  rintro e w5 ⟨rfl, hb⟩
  have HA6 := Aside0.mk (HA4.out.below hb)
  have HB6 := Aside0.mk (below_then HB4.out HB4.out.size hb)
  clear hb HA4 HX4 HU4 HV4 HB4 c0' c1' t0 t1 t2 t3
  go_wp2_with fail
  refine (abacistref04_Same.calls k5 Av cv l A n l _ _ HA6.out.r HA6.out.c (HL.out.below HB6.out).r HL.out.c K5.out).mono ?_
  rintro e w7 ⟨rfl, hb⟩
  have HB7 := Aside0.mk (below_then HB6.out HB6.out.size hb.below)
  clear hb HA6 HB6
  go_wp2
  go_ret
  exact ⟨rfl, HB7.out⟩
set_option maxHeartbeats 4000000 in
theorem swaps_out2 (R C tr tc r0 c0 r1 c1 : Int) (A : Option Addr) (n : Nat) (l : List Int) (w : World) (hg : GoodS R C) (hn : R * C = (l.length : Int)) (hm : l.length ≤ 256) (hl : In w A n l) (h0 : Lies R C tr tc r0 c0) (h1 : ¬ Lies R C tr tc r1 c1) (hT : TabOK w) :
    Calls Tryd.prog 10 #[.agg #[.int .i64 R, .int .i64 C], .slice A l.length n, .agg #[.int .i64 tr, .int .i64 tc, .int .i64 r0, .int .i64 c0], .int .i64 r1, .int .i64 c1] w fun e w' => e = .returned (.bool true) ∧ Below w.heap.size w w' := by
  obtain ⟨k5, h5⟩ := (same_ l l (by omega)).rounds
  rw [decide_eq_true rfl] at h5
  have K5 := Aside0.mk h5
  obtain ⟨k2, h2⟩ := (inside_yes hg h0).rounds
  obtain ⟨k3, h3⟩ := (inside_no hg h1).rounds
  have K2 := Aside0.mk h2
  have K3 := Aside0.mk h3
  have H0 := Aside0.mk h0
  have H1 := Aside0.mk h1
  have hbe0 := below_alloc (below_alloc (Below.refl w.heap.size w) (Obj.cells #[.int .i64 R, .int .i64 C] 26)) (Obj.cells #[.int .i64 tr, .int .i64 tc, .int .i64 r0, .int .i64 c0] 38)
  have HG := Aside0.mk hg
  have HN := Aside0.mk hn
  have HL := Aside0.mk hl
  have HT := Aside0.mk hT
  have HM := Aside0.mk hm
  have HBe0 := Aside0.mk hbe0
  have HX0 := Aside0.mk ((Bk.new w 26 [.int .i64 R, .int .i64 C]).alloc (Obj.cells #[.int .i64 tr, .int .i64 tc, .int .i64 r0, .int .i64 c0] 38))
  have HU0 : Aside0 (Bk ((w.alloc (Obj.cells #[.int .i64 R, .int .i64 C] 26)).alloc (Obj.cells #[.int .i64 tr, .int .i64 tc, .int .i64 r0, .int .i64 c0] 38)) (w.heap.size + 1) 38 [.int .i64 tr, .int .i64 tc, .int .i64 r0, .int .i64 c0]) := ⟨by
    have := Bk.new (w.alloc (Obj.cells #[.int .i64 R, .int .i64 C] 26)) 38 [.int .i64 tr, .int .i64 tc, .int .i64 r0, .int .i64 c0]
    simpa using this⟩
  clear h5 hg hn hl hT hm hbe0 h2 h3 h0 h1
  go_enter Tryd.func10, Tryd.ntmps10
  go_wp2_with fail
  refine (bawake_ _ (TabOK.below HT.out HBe0.out)).mono ?_
  rintro e w1 ⟨rfl, hb⟩
  have HB1 := Aside0.mk (below_then HBe0.out HBe0.out.size hb)
  have HX1 := Aside0.mk (HX0.out.below hb)
  have HU1 := Aside0.mk (HU0.out.below hb)
  clear hb HBe0 HX0 HU0
  have c0' := HX1.out.cell 0
  have c1' := HX1.out.cell 1
  go_wp2_with fail
  refine (made_yes R C A n l _ HG.out HN.out HM.out (HL.out.below HB1.out) (TabOK.below HT.out HB1.out)).mono ?_
  rintro e w2 ⟨p, g, rfl, hb, hbe, hp, hg⟩
  have hbe2 := below_alloc (Below.refl w2.heap.size w2) (Obj.cells #[.int .i64 tr, .int .i64 tc, .int .i64 r1, .int .i64 c1] 38)
  have t0 := (HU1.out.below hbe).cell 0
  have t1 := (HU1.out.below hbe).cell 1
  have t2 := (HU1.out.below hbe).cell 2
  have t3 := (HU1.out.below hbe).cell 3
  have s0 := ((HU1.out.below hbe).below hbe2).cell 0
  have s1 := ((HU1.out.below hbe).below hbe2).cell 1
  have s2 := ((HU1.out.below hbe).below hbe2).cell 2
  have s3 := ((HU1.out.below hbe).below hbe2).cell 3
  have HB2 := Aside0.mk (below_then (below_then HB1.out HB1.out.size hbe) (below_then HB1.out HB1.out.size hbe).size hbe2)
  have HX2 := Aside0.mk ((HX1.out.below hbe).below hbe2)
  have HU2 := Aside0.mk ((HU1.out.below hbe).below hbe2)
  have HV2 := Aside0.mk (Bk.new w2 38 [.int .i64 tr, .int .i64 tc, .int .i64 r1, .int .i64 c1])
  have HP2 := Aside0.mk (hb.below hbe2)
  clear hb hbe hp hg HB1 HX1 HU1 c0' c1' hbe2
  go_wp2_with fail
  clear t0 t1 t2 t3
  refine (swap_no2 p g R C tr tc r0 c0 r1 c1 l _ HP2.out H0.out H1.out (TabOK.below HT.out HB2.out)).mono ?_
  rintro e w3 ⟨rfl, hb⟩
  have HP3 := Aside0.mk (HP2.out.below hb)
  have HX3 := Aside0.mk (HX2.out.below hb)
  have HU3 := Aside0.mk (HU2.out.below hb)
  have HV3 := Aside0.mk (HV2.out.below hb)
  have HB3 := Aside0.mk (below_then HB2.out HB2.out.size hb)
  clear hb HB2 HX2 HU2 HV2 HP2 s0 s1 s2 s3
  go_wp2_with fail
  refine (words_ p g R C l _ HP3.out).mono ?_
  rintro e w4 ⟨v, rfl, hR, hb⟩
  obtain ⟨Av, cv, rfl, hcv, hCv⟩ := Kd.R_reads hR
  have HA4 := Aside0.mk (In.mk hCv hcv)
  have HX4 := Aside0.mk (HX3.out.below hb)
  have HU4 := Aside0.mk (HU3.out.below hb)
  have HV4 := Aside0.mk (HV3.out.below hb)
  have HB4 := Aside0.mk (below_then HB3.out HB3.out.size hb)
  clear hR hb hcv hCv HB3 HX3 HU3 HV3 HP3
  have c0' := HX4.out.cell 0
  have c1' := HX4.out.cell 1
  have t0 := HU4.out.cell 0
  have t1 := HU4.out.cell 1
  have t2 := HU4.out.cell 2
  have t3 := HU4.out.cell 3
  go_wp2_with fail
  refine (abacistlaw12_inside.calls k2 R C tr tc r0 c0 true _ K2.out).mono ?_
  rintro e w5 ⟨rfl, hb⟩
  have HA5 := Aside0.mk (HA4.out.below hb)
  have HX5 := Aside0.mk (HX4.out.below hb)
  have HV5 := Aside0.mk (HV4.out.below hb)
  have HB5 := Aside0.mk (below_then HB4.out HB4.out.size hb)
  clear hb HA4 HX4 HU4 HV4 HB4 c0' c1' t0 t1 t2 t3
  have c0' := HX5.out.cell 0
  have c1' := HX5.out.cell 1
  have t0 := HV5.out.cell 0
  have t1 := HV5.out.cell 1
  have t2 := HV5.out.cell 2
  have t3 := HV5.out.cell 3
  go_wp2_with fail
  refine (abacistlaw12_inside.calls k3 R C tr tc r1 c1 false _ K3.out).mono ?_
  rintro e w6 ⟨rfl, hb⟩
  have HA6 := Aside0.mk (HA5.out.below hb)
  have HB6 := Aside0.mk (below_then HB5.out HB5.out.size hb)
  clear hb HA5 HX5 HV5 HB5 c0' c1' t0 t1 t2 t3
  go_wp2_with fail
  refine (abacistref04_Same.calls k5 Av cv l A n l _ _ HA6.out.r HA6.out.c (HL.out.below HB6.out).r HL.out.c K5.out).mono ?_
  rintro e w7 ⟨rfl, hb⟩
  have HB7 := Aside0.mk (below_then HB6.out HB6.out.size hb.below)
  clear hb HA6 HB6
  go_wp2
  go_ret
  exact ⟨rfl, HB7.out⟩
set_option maxHeartbeats 4000000 in
theorem swaps_none (R C tr tc r0 c0 r1 c1 : Int) (A : Option Addr) (n : Nat) (l : List Int) (w : World) (hg : ¬ (GoodS R C ∧ l.length ≤ 256 ∧ R * C = (l.length : Int))) (hT : TabOK w) :
    Calls Tryd.prog 10 #[.agg #[.int .i64 R, .int .i64 C], .slice A l.length n, .agg #[.int .i64 tr, .int .i64 tc, .int .i64 r0, .int .i64 c0], .int .i64 r1, .int .i64 c1] w fun e w' => e = .returned (.bool true) ∧ Below w.heap.size w w' := by
  have hbe0 := below_alloc (below_alloc (Below.refl w.heap.size w) (Obj.cells #[.int .i64 R, .int .i64 C] 26)) (Obj.cells #[.int .i64 tr, .int .i64 tc, .int .i64 r0, .int .i64 c0] 38)
  have HG := Aside0.mk hg
  have HT := Aside0.mk hT
  have HBe0 := Aside0.mk hbe0
  have HX0 := Aside0.mk ((Bk.new w 26 [.int .i64 R, .int .i64 C]).alloc (Obj.cells #[.int .i64 tr, .int .i64 tc, .int .i64 r0, .int .i64 c0] 38))
  clear hg hT hbe0
  go_enter Tryd.func10, Tryd.ntmps10
  go_wp2_with fail
  refine (bawake_ _ (TabOK.below HT.out HBe0.out)).mono ?_
  rintro e w1 ⟨rfl, hb⟩
  have HB1 := Aside0.mk (below_then HBe0.out HBe0.out.size hb)
  have HX1 := Aside0.mk (HX0.out.below hb)
  clear hb HBe0 HX0
  have c0' := HX1.out.cell 0
  have c1' := HX1.out.cell 1
  go_wp2_with fail
  refine (made_no R C A n l _ HG.out (TabOK.below HT.out HB1.out)).mono ?_
  rintro e w2 ⟨rfl, hbe⟩
  have HB2 := Aside0.mk (below_then HB1.out HB1.out.size hbe)
  clear hbe HB1 HX1 c0' c1'
  go_wp2
  go_ret
  exact ⟨rfl, HB2.out⟩
theorem BlockSwapsRow (R C : Int) (a1 : Option Addr) (len1 cap1 : Nat) (z1 : List Int) (tr tc r0 c0 r1 c1 : Int) (w : World)
    (w1 : (a1 = none ∧ len1 = 0 ∧ cap1 = 0 ∧ z1 = []) ∨ ∃ x, a1 = some x ∧ len1 ≤ cap1 ∧ cap1 ≤ maxLen ∧ z1.length = cap1 ∧ (∀ i, i < z1.length → w.cell? (x.add i) = some (.int .u64 (z1.getD i 0))) ∧ ∀ n ∈ z1, (Lit.int .u64 n).wf = true) (hT : TabOK w) :
    Calls Tryd.prog 10 #[.agg #[.int .i64 R, .int .i64 C], .slice a1 len1 cap1, .agg #[.int .i64 tr, .int .i64 tc, .int .i64 r0, .int .i64 c0], .int .i64 r1, .int .i64 c1] w fun e w' => e = .returned (.bool true) ∧ Below w.heap.size w w' := by
  obtain ⟨l, rfl, hl, _⟩ := In.of w1
  by_cases h1 : GoodS R C ∧ l.length ≤ 256 ∧ R * C = (l.length : Int)
  · by_cases h2 : Lies R C tr tc r0 c0
    · by_cases h3 : Lies R C tr tc r1 c1
      · obtain ⟨hg, hm, hn⟩ := h1
        obtain ⟨R, C, rfl, rfl, _⟩ := good_bounds hg
        have hn2 : R * C = l.length := by rw [← Int.natCast_mul] at hn; omega
        obtain ⟨q1, q2, q3, q4, q5, q6, q7⟩ := h2
        obtain ⟨_, p2, p3, _, _, p6, p7⟩ := h3
        obtain ⟨a, b, rfl, rfl, ha, hb, _⟩ := good_bounds q1
        obtain ⟨x0, rfl⟩ := Int.eq_ofNat_of_zero_le q2
        obtain ⟨y0, rfl⟩ := Int.eq_ofNat_of_zero_le q3
        obtain ⟨x1, rfl⟩ := Int.eq_ofNat_of_zero_le p2
        obtain ⟨y1, rfl⟩ := Int.eq_ofNat_of_zero_le p3
        exact swaps_in R C a b x0 y0 x1 y1 a1 cap1 l w hg hn2 hm hl ⟨q1, by omega, by omega, hn2, by omega, ha, hb⟩ ⟨q1, by omega, by omega, hn2, by omega, ha, hb⟩ hT
      · exact swaps_out2 R C tr tc r0 c0 r1 c1 a1 cap1 l w h1.1 h1.2.2 h1.2.1 hl h2 h3 hT
    · exact swaps_out1 R C tr tc r0 c0 r1 c1 a1 cap1 l w h1.1 h1.2.2 h1.2.1 hl h2 hT
  · exact swaps_none R C tr tc r0 c0 r1 c1 a1 cap1 l w h1 hT
end Go.Proofs.YthppiphldaopnaaDoor.Obj
