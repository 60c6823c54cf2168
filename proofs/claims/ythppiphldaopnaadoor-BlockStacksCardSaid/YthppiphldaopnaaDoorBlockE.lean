import Derived.Test.YthppiphldaopnaaDoorBlockD
/-! Blocks: what the laws make. -/
namespace Go.Proofs.YthppiphldaopnaaDoor.Obj
open Go.RowKit Go.Proofs.YthppiphldaopnaaDoor Go.Proofs.YthppiphldaopnaaDoor.Ext Go.Proofs.YthppiphldaopnaaDoor.PShape Go.Proofs.YthppiphldaopnaaDoor.PBlk Go.Proofs.YthppiphldaopnaaDoor.Pure Go.Proofs.YthppiphldaopnaaDoorW.PrintWords Go.Proofs.YthppiphldaopnaaDoorW.PrintLast Go.Proofs.YthppiphldaopnaaDoorW.PrintMore
set_option linter.unusedVariables false
set_option linter.unusedSimpArgs false
set_option maxRecDepth 100000

theorem wrap_rc {r c : Int} (h : GoodS r c) : wrap64 (r * c) = r * c := by
  have := good_pos h
  unfold wrap64
  omega
set_option maxHeartbeats 1000000 in
theorem made_yes (r c : Int) (A : Option Addr) (n : Nat) (l : List Int) (w : World) (hg : GoodS r c) (hn : r * c = (l.length : Int)) (hm : l.length ≤ 256) (hl : In w A n l) (hT : TabOK w) :
    Calls Tryd.prog 37 #[.agg #[.int .i64 r, .int .i64 c], .slice A l.length n] w fun e w' => ∃ p g, e = .returned (.pointer (some ⟨p, 0, none⟩)) ∧ Blo w' p g r c l ∧ Below w.heap.size w w' ∧ w.heap.size ≤ p ∧ w.heap.size ≤ g := by
  obtain ⟨k1, h1⟩ := (rgood_yes r c hg).rounds
  have d1 : decide (256 < (l.length : Int)) = false := decide_eq_false (by omega)
  have K1 := Aside0.mk h1
  have HG := Aside0.mk hg
  have HN := Aside0.mk hn
  have HL := Aside0.mk hl
  have HT := Aside0.mk hT
  have HM := Aside0.mk hm
  have hw := (wrap_rc hg).trans hn
  clear h1 hg hn hl hT hm
  go_enter Tryd.func37, Tryd.ntmps37
  go_wp2_with fail
  refine (abacistref06_Good.calls k1 r c true _ K1.out).mono ?_
  rintro e w1 ⟨rfl, hb⟩
  have HB1 := Aside0.mk (below_then (below_alloc (Below.refl w.heap.size w) _) (below_alloc (Below.refl w.heap.size w) _).size hb)
  have HX1 := Aside0.mk ((Bk.new w 26 [.int .i64 r, .int .i64 c]).below hb)
  have c0 := HX1.out.cell 0
  have c1 := HX1.out.cell 1
  clear hb
  go_wp2_with fail
  refine (of_yes r c A n l _ HG.out HN.out (Nat.le_trans HM.out (by decide)) (HL.out.below HB1.out) (TabOK.below HT.out HB1.out)).mono ?_
  rintro e w2 ⟨p, g, rfl, hb, hbe, hp, hg⟩
  have H := Aside0.mk (And.intro hb (And.intro (below_then HB1.out HB1.out.size hbe) (And.intro (Nat.le_trans HB1.out.size hp) (Nat.le_trans HB1.out.size hg))))
  clear hb hbe hp hg c0 c1
  go_wp2
  go_ret
  exact ⟨p, g, rfl, H.out⟩
set_option maxHeartbeats 1000000 in
theorem made_no (r c : Int) (A : Option Addr) (n : Nat) (l : List Int) (w : World) (hg : ¬ (GoodS r c ∧ l.length ≤ 256 ∧ r * c = (l.length : Int))) (hT : TabOK w) :
    Calls Tryd.prog 37 #[.agg #[.int .i64 r, .int .i64 c], .slice A l.length n] w fun e w' => e = .returned (.pointer none) ∧ Below w.heap.size w w' := by
  by_cases hgs : GoodS r c
  · obtain ⟨k1, h1⟩ := (rgood_yes r c hgs).rounds
    have K1 := Aside0.mk h1
    have hw := wrap_rc hgs
    by_cases hm : l.length ≤ 256
    · have hne : (r * c != (l.length : Int)) = true := by rw [bne_iff_ne]; exact fun h => hg ⟨hgs, hm, h⟩
      have d1 : decide (256 < (l.length : Int)) = false := decide_eq_false (by clear hw; omega)
      clear h1 hg hgs hm hT
      go_enter Tryd.func37, Tryd.ntmps37
      go_wp2_with fail
      refine (abacistref06_Good.calls k1 r c true _ K1.out).mono ?_
      rintro e w1 ⟨rfl, hb⟩
      have HB1 := Aside0.mk (below_then (below_alloc (Below.refl w.heap.size w) _) (below_alloc (Below.refl w.heap.size w) _).size hb)
      have HX1 := Aside0.mk ((Bk.new w 26 [.int .i64 r, .int .i64 c]).below hb)
      have c0 := HX1.out.cell 0
      have c1 := HX1.out.cell 1
      clear hb
      go_wp2
      go_ret
      exact ⟨rfl, HB1.out⟩
    · have d1 : decide (256 < (l.length : Int)) = true := decide_eq_true (by clear hw; omega)
      clear h1 hg hgs hm hT hw
      go_enter Tryd.func37, Tryd.ntmps37
      go_wp2_with fail
      refine (abacistref06_Good.calls k1 r c true _ K1.out).mono ?_
      rintro e w1 ⟨rfl, hb⟩
      have HB1 := Aside0.mk (below_then (below_alloc (Below.refl w.heap.size w) _) (below_alloc (Below.refl w.heap.size w) _).size hb)
      clear hb
      go_wp2
      go_ret
      exact ⟨rfl, HB1.out⟩
  · obtain ⟨k1, h1⟩ := (rgood_no r c hgs).rounds
    have K1 := Aside0.mk h1
    clear h1 hg hgs hT
    go_enter Tryd.func37, Tryd.ntmps37
    go_wp2_with fail
    refine (abacistref06_Good.calls k1 r c false _ K1.out).mono ?_
    rintro e w1 ⟨rfl, hb⟩
    have HB1 := Aside0.mk (below_then (below_alloc (Below.refl w.heap.size w) _) (below_alloc (Below.refl w.heap.size w) _).size hb)
    clear hb
    go_wp2
    go_ret
    exact ⟨rfl, HB1.out⟩
end Go.Proofs.YthppiphldaopnaaDoor.Obj
