import Derived.Test.YthppiphldaopnaaDoorBlockK
/-! Blocks: the law of parts, the other ways. -/
namespace Go.Proofs.YthppiphldaopnaaDoor.Obj
open Go.RowKit Go.Proofs.YthppiphldaopnaaDoor Go.Proofs.YthppiphldaopnaaDoor.Ext Go.Proofs.YthppiphldaopnaaDoor.PShape Go.Proofs.YthppiphldaopnaaDoor.PBlk Go.Proofs.YthppiphldaopnaaDoor.Pure Go.Proofs.YthppiphldaopnaaDoorW.PrintWords Go.Proofs.YthppiphldaopnaaDoorW.PrintLast Go.Proofs.YthppiphldaopnaaDoorW.PrintMore
set_option linter.unusedVariables false
set_option linter.unusedSimpArgs false
set_option maxRecDepth 100000
attribute [local go_sem high] eqA26

set_option maxHeartbeats 4000000 in
theorem parts_out (R C tr tc r0 c0 : Int) (A : Option Addr) (n : Nat) (l : List Int) (x : Int) (w : World) (hg : GoodS R C) (hn : R * C = (l.length : Int)) (hm : l.length ≤ 256) (hl : In w A n l) (hno : ¬ Lies R C tr tc r0 c0) (hT : TabOK w) :
    Calls Tryd.prog 12 #[.agg #[.int .i64 R, .int .i64 C], .slice A l.length n, .agg #[.int .i64 tr, .int .i64 tc, .int .i64 r0, .int .i64 c0], .int .u64 x] w fun e w' => e = .returned (.bool true) ∧ Below w.heap.size w w' := by
  obtain ⟨k2, h2⟩ := (inside_no hg hno).rounds
  have hbe0 := below_alloc (below_alloc (Below.refl w.heap.size w) (Obj.cells #[.int .i64 R, .int .i64 C] 26)) (Obj.cells #[.int .i64 tr, .int .i64 tc, .int .i64 r0, .int .i64 c0] 38)
  have K2 := Aside0.mk h2
  have HNo := Aside0.mk hno
  have HG := Aside0.mk hg
  have HN := Aside0.mk hn
  have HL := Aside0.mk hl
  have HT := Aside0.mk hT
  have HM := Aside0.mk hm
  have HBe0 := Aside0.mk hbe0
  have HX0 := Aside0.mk ((Bk.new w 26 [.int .i64 R, .int .i64 C]).alloc (Obj.cells #[.int .i64 tr, .int .i64 tc, .int .i64 r0, .int .i64 c0] 38))
  have HU0 : Aside0 (Bk ((w.alloc (Obj.cells #[.int .i64 R, .int .i64 C] 26)).alloc (Obj.cells #[.int .i64 tr, .int .i64 tc, .int .i64 r0, .int .i64 c0] 38)) (w.heap.size + 1) 38 [.int .i64 tr, .int .i64 tc, .int .i64 r0, .int .i64 c0]) := ⟨by
    have := Bk.new (w.alloc (Obj.cells #[.int .i64 R, .int .i64 C] 26)) 38 [.int .i64 tr, .int .i64 tc, .int .i64 r0, .int .i64 c0]
    simpa using this⟩
  clear h2 hno hg hn hl hT hm hbe0
  go_enter Tryd.func12, Tryd.ntmps12
  go_wp2_with fail
  refine (bawake_ _ (TabOK.below HT.out HBe0.out)).mono ?_
  rintro e w1 ⟨rfl, hb⟩
  have HB1 := Aside0.mk (below_then HBe0.out HBe0.out.size hb)
  have HX1 := Aside0.mk (HX0.out.below hb)
  have HU1 := Aside0.mk (HU0.out.below hb)
  clear hb HBe0 HX0 HU0
  have c0' := HX1.out.cell 0
  have c1' := HX1.out.cell 1
  go_wp2_with fail
  refine (made_yes R C A n l _ HG.out HN.out HM.out (HL.out.below HB1.out) (TabOK.below HT.out HB1.out)).mono ?_
  rintro e w2 ⟨p, g, rfl, hb, hbe, hp, hg⟩
  have HB2 := Aside0.mk (below_then HB1.out HB1.out.size hbe)
  have HX2 := Aside0.mk (HX1.out.below hbe)
  have HU2 := Aside0.mk (HU1.out.below hbe)
  have HP2 := Aside0.mk hb
  clear hb hbe hp hg HB1 HX1 HU1 c0' c1'
  have t0 := HU2.out.cell 0
  have t1 := HU2.out.cell 1
  have t2 := HU2.out.cell 2
  have t3 := HU2.out.cell 3
  go_wp2_with fail
  refine (part_no p g R C tr tc r0 c0 l _ HP2.out HNo.out (TabOK.below HT.out HB2.out)).mono ?_
  rintro e w3 ⟨rfl, hbe⟩
  have HB3 := Aside0.mk (below_then HB2.out HB2.out.size hbe)
  have HX3 := Aside0.mk (HX2.out.below hbe)
  have HU3 := Aside0.mk (HU2.out.below hbe)
  clear hbe HB2 HX2 HU2 HP2 t0 t1 t2 t3
  have c0' := HX3.out.cell 0
  have c1' := HX3.out.cell 1
  have t0 := HU3.out.cell 0
  have t1 := HU3.out.cell 1
  have t2 := HU3.out.cell 2
  have t3 := HU3.out.cell 3
  go_wp2_with fail
  refine (abacistlaw12_inside.calls k2 R C tr tc r0 c0 false _ K2.out).mono ?_
  rintro e w4 ⟨rfl, hb⟩
  have HB4 := Aside0.mk (below_then HB3.out HB3.out.size hb)
  clear hb HB3 HX3 HU3 t0 t1 t2 t3 c0' c1'
  go_wp2_with fail
  refine (lay_nil p 0 0 _).mono ?_
  rintro e w5 ⟨rfl, hb⟩
  have HB5 := Aside0.mk (below_then HB4.out HB4.out.size hb)
  clear hb HB4
  go_wp2
  go_ret
  exact ⟨rfl, HB5.out⟩
set_option maxHeartbeats 4000000 in
theorem parts_none (R C tr tc r0 c0 : Int) (A : Option Addr) (n : Nat) (l : List Int) (x : Int) (w : World) (hg : ¬ (GoodS R C ∧ l.length ≤ 256 ∧ R * C = (l.length : Int))) (hT : TabOK w) :
    Calls Tryd.prog 12 #[.agg #[.int .i64 R, .int .i64 C], .slice A l.length n, .agg #[.int .i64 tr, .int .i64 tc, .int .i64 r0, .int .i64 c0], .int .u64 x] w fun e w' => e = .returned (.bool true) ∧ Below w.heap.size w w' := by
  have hbe0 := below_alloc (below_alloc (Below.refl w.heap.size w) (Obj.cells #[.int .i64 R, .int .i64 C] 26)) (Obj.cells #[.int .i64 tr, .int .i64 tc, .int .i64 r0, .int .i64 c0] 38)
  have HG := Aside0.mk hg
  have HT := Aside0.mk hT
  have HBe0 := Aside0.mk hbe0
  have HX0 := Aside0.mk ((Bk.new w 26 [.int .i64 R, .int .i64 C]).alloc (Obj.cells #[.int .i64 tr, .int .i64 tc, .int .i64 r0, .int .i64 c0] 38))
  clear hg hT hbe0
  go_enter Tryd.func12, Tryd.ntmps12
  go_wp2_with fail
  refine (bawake_ _ (TabOK.below HT.out HBe0.out)).mono ?_
  rintro e w1 ⟨rfl, hb⟩
  have HB1 := Aside0.mk (below_then HBe0.out HBe0.out.size hb)
  have HX1 := Aside0.mk (HX0.out.below hb)
  clear hb HBe0 HX0
  have c0' := HX1.out.cell 0
  have c1' := HX1.out.cell 1
  go_wp2_with fail
  refine (made_no R C A n l _ HG.out (TabOK.below HT.out HB1.out)).mono ?_
  rintro e w2 ⟨rfl, hbe⟩
  have HB2 := Aside0.mk (below_then HB1.out HB1.out.size hbe)
  clear hbe HB1 HX1 c0' c1'
  go_wp2
  go_ret
  exact ⟨rfl, HB2.out⟩
theorem BlockPartsRow (R C : Int) (a1 : Option Addr) (len1 cap1 : Nat) (z1 : List Int) (tr tc r0 c0 x : Int) (w : World)
    (w1 : (a1 = none ∧ len1 = 0 ∧ cap1 = 0 ∧ z1 = []) ∨ ∃ x, a1 = some x ∧ len1 ≤ cap1 ∧ cap1 ≤ maxLen ∧ z1.length = cap1 ∧ (∀ i, i < z1.length → w.cell? (x.add i) = some (.int .u64 (z1.getD i 0))) ∧ ∀ n ∈ z1, (Lit.int .u64 n).wf = true) (hT : TabOK w) :
    Calls Tryd.prog 12 #[.agg #[.int .i64 R, .int .i64 C], .slice a1 len1 cap1, .agg #[.int .i64 tr, .int .i64 tc, .int .i64 r0, .int .i64 c0], .int .u64 x] w fun e w' => e = .returned (.bool true) ∧ Below w.heap.size w w' := by
  obtain ⟨l, rfl, hl, _⟩ := In.of w1
  by_cases h1 : GoodS R C ∧ l.length ≤ 256 ∧ R * C = (l.length : Int)
  · by_cases h2 : Lies R C tr tc r0 c0
    · obtain ⟨hg, hm, hn⟩ := h1
      obtain ⟨R, C, rfl, rfl, _⟩ := good_bounds hg
      have hn2 : R * C = l.length := by rw [← Int.natCast_mul] at hn; omega
      obtain ⟨q1, q2, q3, q4, q5, q6, q7⟩ := h2
      obtain ⟨a, b, rfl, rfl, ha, hb, _⟩ := good_bounds q1
      obtain ⟨x0, rfl⟩ := Int.eq_ofNat_of_zero_le q2
      obtain ⟨y0, rfl⟩ := Int.eq_ofNat_of_zero_le q3
      exact parts_in R C a b x0 y0 a1 cap1 l x w hg hn2 hm hl ⟨q1, by omega, by omega, hn2, by omega, ha, hb⟩ hT
    · exact parts_out R C tr tc r0 c0 a1 cap1 l x w h1.1 h1.2.2 h1.2.1 hl h2 hT
  · exact parts_none R C tr tc r0 c0 a1 cap1 l x w h1 hT
end Go.Proofs.YthppiphldaopnaaDoor.Obj
