import Derived.Test.YtpnkcjnemoompaaDoorRv0
import Derived.Test.YtpnkcjnemoompaaDoorProg
import Derived.Below
import Derived.Deep.Draws
import Derived.Deep.AppendLies
import Derived.Maps.AppendAt
import Derived.OwnWalk
import Derived.Laws.BytesArg
import Derived.Laws.MakeOwn
import Derived.Laws.OwnMore
import Derived.Deep.OwnRows
import Derived.Tactics
import Derived.Lib.ConvBytes
import Derived.Laws.Slices
import Derived.WalkKit
import Derived.KernelRfl
import Derived.RowKit3
import Derived.Deep.LoopGhost
import Derived.Deep.QuietTactic
import Derived.BigQuiet
import Derived.WideLaws
import Derived.Deep.DeepCutAuto
import Derived.Deep.CutBlock
import Derived.Deep.RegionHeld3
import Derived.Laws.Rows
import Derived.Lib.AppendStr
import Derived.ArgAppend
import Derived.Laws.IdiomCopy
import Derived.OrdersHeld
import Derived.Laws.BitsLemmas
import Derived.RowKit
import Derived.Shelf.Spec.TrailingZeros
import Derived.Lib.LaidTab
import Derived.Lib.Hide
import Derived.Shelf.Strings.Builder1
import Derived.Shelf.Strings.Builder2
import Derived.Shelf.Strings.OnBuilder
import Derived.Shelf.Strings.BuilderF
import Derived.Shelf.Strings.BuilderK
import Derived.Shelf.Strings.Builder2Cap
import Derived.Shelf.Strconv.Itoa0
import Derived.Shelf.Strconv.Itoa1
import Derived.Shelf.LaysM
import Derived.Shelf.Strconv.Itoa2
import Derived.Shelf.Strconv.Itoa3
import Derived.Shelf.Bits.Mul64
import Derived.Shelf.Strings.BuilderCap
import Derived.Ground.SlgnProg
import Derived.Shelf.SlicesE.Clone
import Derived.Ground.SlgfProg
import Derived.Shelf.SlicesE.IndexFunc
import Derived.Laws.StructEq
import Derived.Shelf.Spec.BitsCarry
import Derived.Laws.BitsAllLaws
import Derived.OpenShut
import Derived.Laws.CopyOwn
import Derived.StillTailTactics
import Derived.Outline
import Derived.RegionTactic
import Derived.ChangeAlike
import Derived.BigRegion
/-! Texts of this claim, joined: PFftx5, FldD, KernH, KernI, FldG, RowG. -/
section
namespace Go.Proofs.YtpnkcjnemoompaaDoor.PFft
open Go.RowKit Go.Proofs.YtpnkcjnemoompaaDoor.Ext Go.Proofs.YtpnkcjnemoompaaDoor.PPlan Go.Proofs.YtpnkcjnemoompaaDoorW.PrintWords Go.Proofs.YtpnkcjnemoompaaDoorW.PrintLast Go.Proofs.YtpnkcjnemoompaaDoorW.PrintMore
attribute [local go_sem] max2_int min2_int max_two min_two max_three min_three max_four min_four   -- for this text's walks alone
set_option linter.unusedVariables false
set_option linter.unusedSimpArgs false
mutual
def abacistref11_Good.j0 : Nat → Int → Bool → Int → Int → Int → Option (Bool)
  | 0, _, _, _, _, _ => none
  | k + 1, x1, x24, x203000, x203001, x203002 => if x24 = true then (some false) else (abacistref11_Good.l0 k x1 x203000 0 x203000 x203001 x203002)
def abacistref11_Good.l0 : Nat → Int → Int → Int → Int → Int → Int → Option (Bool)
  | 0, _, _, _, _, _, _ => none
  | k + 1, x1, x5, x6, x203000, x203001, x203002 => if x6 < x203002 then (if x5 ≥ x1 then (some false) else (if (wrap64 (x6 + 1)) < x203002 then (if x203001 > (wrap64 (x1 - x5)) then (some false) else (abacistref11_Good.l0 k x1 (wrap64 (x5 + x203001)) (wrap64 (x6 + 1)) x203000 x203001 x203002)) else (abacistref11_Good.l0 k x1 (wrap64 (x5 + x203001)) (wrap64 (x6 + 1)) x203000 x203001 x203002))) else (some true)
end
def abacistref11_Good.f (k : Nat) (a0_0 : Int) (a0_1 : Int) (a0_2 : Int) (a1 : Int) : Option (Bool) := if a0_2 < 0 then (abacistref11_Good.j0 k a1 true a0_0 a0_1 a0_2) else (if a0_2 > 1048576 then (abacistref11_Good.j0 k a1 true a0_0 a0_1 a0_2) else (if a0_1 < 1 then (abacistref11_Good.j0 k a1 true a0_0 a0_1 a0_2) else (abacistref11_Good.j0 k a1 (decide (a0_0 < 0)) a0_0 a0_1 a0_2)))
set_option maxHeartbeats 8000000 in
set_option maxRecDepth 100000 in
theorem abacistref11_Good.calls (k : Nat) (a0_0 : Int) (a0_1 : Int) (a0_2 : Int) (a1 : Int) (r : Bool) (w : World) (h : abacistref11_Good.f k a0_0 a0_1 a0_2 a1 = some r) :
    Calls Tryd.prog 35 #[.agg #[.int .i64 a0_0, .int .i64 a0_1, .int .i64 a0_2], .int .i64 a1] w fun e w' => e = .returned (.bool r) ∧ Below w.heap.size w w' := by
  have hu58 := Tryd.underlying58
  have HB := Aside0.mk (Below.refl w.heap.size w)
  have H : (if a0_2 < 0 then (abacistref11_Good.j0 k a1 true a0_0 a0_1 a0_2) else (if a0_2 > 1048576 then (abacistref11_Good.j0 k a1 true a0_0 a0_1 a0_2) else (if a0_1 < 1 then (abacistref11_Good.j0 k a1 true a0_0 a0_1 a0_2) else (abacistref11_Good.j0 k a1 (decide (a0_0 < 0)) a0_0 a0_1 a0_2)))) = some r := h
  clear h
  have HC3 := Aside0.mk H
  clear H
  go_enter Tryd.func35, Tryd.ntmps35
  go_upto_region 1 with (first | ((with_reducible refine gate_dst (N := 2) rfl ?_); refine box_event ?hg (N := 2) ?hd (cs := #[.int .i64 a0_0, .int .i64 a0_1, .int .i64 a0_2]) (t := 58) ?hr ?_; (case hd => rfl); (case hg => rfl); (case hr => first | (go_simp; done) | (go_simp; rfl)); intro gb202 hg w4 hbox hb; have n0_ := Aside0.mk (below_step (by repeat (first | (with_reducible first | exact HB.out | apply below_alloc | apply pw_below_drewN | apply below_drew1) | exact HB.out)) hb); have n1_ := Aside0.mk (hbox); have n2_ := Aside0.mk ((by rw [hg]; exact (below_size (by repeat (first | (with_reducible first | exact HB.out | apply below_alloc | apply pw_below_drewN | apply below_drew1) | exact HB.out))) : w.heap.size ≤ gb202)); have n3_ := Aside0.mk ((by rw [hg]; exact (below_size (by repeat (first | (with_reducible first | exact HB.out | apply below_alloc | apply pw_below_drewN | apply below_drew1) | exact HB.out))) : w.heap.size ≤ gb202)); clear HB; have HB := n0_; have BK202 := n1_; have GW202 := n2_; have GE202 := n3_; clear n0_ n1_ n2_ n3_; clear hb hbox hg))
  (try simp only [Act.put, List.setIfInBounds_toArray, List.set_cons_zero, List.set_cons_succ])
  go_cut [24] (fun v24 wc => ∃ (kq : Nat) (x24_2 : Bool), v24 = .bool x24_2 ∧ Aside0 (abacistref11_Good.j0 kq a1 x24_2 a0_0 a0_1 a0_2 = some r) ∧ Aside0 (kq ≤ k) ∧ Aside0 (wc.heap[gb202]? = some (.cells #[.int .i64 a0_0, .int .i64 a0_1, .int .i64 a0_2] 58 (0, 0))) ∧ Aside0 (Below w.heap.size w wc))
  case first =>
    have H := HC3.out
    clear HC3
    by_cases c5 : a0_2 < 0
    · rw [if_pos c5] at H
      have c5b0 : decide (a0_2 < 0) = true := decide_eq_true c5
      clear c5
      (first | rw [c5b0] | (simp only [i64_w, i32_w]; rw [c5b0]) | skip)
      have H' := Aside0.mk H
      clear H
      have hcz6_0 : w4.cell? ⟨gb202, 0, none⟩ = some (.int .i64 a0_0) := (blk_cell BK202.out 0).trans rfl
      have hcz6_1 : w4.cell? ⟨gb202, 1, none⟩ = some (.int .i64 a0_1) := (blk_cell BK202.out 1).trans rfl
      have hcz6_2 : w4.cell? ⟨gb202, 2, none⟩ = some (.int .i64 a0_2) := (blk_cell BK202.out 2).trans rfl
      have hfz6_0 := blk_frozen BK202.out 0
      have hfz6_1 := blk_frozen BK202.out 1
      have hfz6_2 := blk_frozen BK202.out 2
      go_wp2
      go_meet
      case rel => exact ⟨_, (true), (by first | rfl | (simp; done) | (simp [*]; done)), H', ⟨by first | omega | exact Nat.le_refl _⟩, ⟨by (with_reducible repeat (first | refine blk_drewN ?_ _ | refine blk_drew ?_ | refine blk_alloc ?_ _)); exact BK202.out⟩, ⟨by repeat (first | (with_reducible first | exact HB.out | apply below_alloc | apply pw_below_drewN | apply below_drew1 | refine below_set ?_ GE202.out) | exact HB.out)⟩⟩
    · rw [if_neg c5] at H
      have c5b0 : decide (a0_2 < 0) = false := decide_eq_false c5
      clear c5
      (first | rw [c5b0] | (simp only [i64_w, i32_w]; rw [c5b0]) | skip)
      by_cases c7 : a0_2 > 1048576
      · rw [if_pos c7] at H
        have c7b0 : decide (1048576 < a0_2) = true := decide_eq_true c7
        clear c7
        have H' := Aside0.mk H
        clear H
        have hcz8_0 : w4.cell? ⟨gb202, 0, none⟩ = some (.int .i64 a0_0) := (blk_cell BK202.out 0).trans rfl
        have hcz8_1 : w4.cell? ⟨gb202, 1, none⟩ = some (.int .i64 a0_1) := (blk_cell BK202.out 1).trans rfl
        have hcz8_2 : w4.cell? ⟨gb202, 2, none⟩ = some (.int .i64 a0_2) := (blk_cell BK202.out 2).trans rfl
        have hfz8_0 := blk_frozen BK202.out 0
        have hfz8_1 := blk_frozen BK202.out 1
        have hfz8_2 := blk_frozen BK202.out 2
        go_wp2
        go_meet
        case rel => exact ⟨_, (true), (by first | rfl | (simp; done) | (simp [*]; done)), H', ⟨by first | omega | exact Nat.le_refl _⟩, ⟨by (with_reducible repeat (first | refine blk_drewN ?_ _ | refine blk_drew ?_ | refine blk_alloc ?_ _)); exact BK202.out⟩, ⟨by repeat (first | (with_reducible first | exact HB.out | apply below_alloc | apply pw_below_drewN | apply below_drew1 | refine below_set ?_ GE202.out) | exact HB.out)⟩⟩
      · rw [if_neg c7] at H
        have c7b0 : decide (1048576 < a0_2) = false := decide_eq_false c7
        clear c7
        by_cases c9 : a0_1 < 1
        · rw [if_pos c9] at H
          have c9b0 : decide (a0_1 < 1) = true := decide_eq_true c9
          clear c9
          have H' := Aside0.mk H
          clear H
          have hcz10_0 : w4.cell? ⟨gb202, 0, none⟩ = some (.int .i64 a0_0) := (blk_cell BK202.out 0).trans rfl
          have hcz10_1 : w4.cell? ⟨gb202, 1, none⟩ = some (.int .i64 a0_1) := (blk_cell BK202.out 1).trans rfl
          have hcz10_2 : w4.cell? ⟨gb202, 2, none⟩ = some (.int .i64 a0_2) := (blk_cell BK202.out 2).trans rfl
          have hfz10_0 := blk_frozen BK202.out 0
          have hfz10_1 := blk_frozen BK202.out 1
          have hfz10_2 := blk_frozen BK202.out 2
          go_wp2
          go_meet
          case rel => exact ⟨_, (true), (by first | rfl | (simp; done) | (simp [*]; done)), H', ⟨by first | omega | exact Nat.le_refl _⟩, ⟨by (with_reducible repeat (first | refine blk_drewN ?_ _ | refine blk_drew ?_ | refine blk_alloc ?_ _)); exact BK202.out⟩, ⟨by repeat (first | (with_reducible first | exact HB.out | apply below_alloc | apply pw_below_drewN | apply below_drew1 | refine below_set ?_ GE202.out) | exact HB.out)⟩⟩
        · rw [if_neg c9] at H
          have c9b0 : decide (a0_1 < 1) = false := decide_eq_false c9
          clear c9
          have H' := Aside0.mk H
          clear H
          have hcz11_0 : w4.cell? ⟨gb202, 0, none⟩ = some (.int .i64 a0_0) := (blk_cell BK202.out 0).trans rfl
          have hcz11_1 : w4.cell? ⟨gb202, 1, none⟩ = some (.int .i64 a0_1) := (blk_cell BK202.out 1).trans rfl
          have hcz11_2 : w4.cell? ⟨gb202, 2, none⟩ = some (.int .i64 a0_2) := (blk_cell BK202.out 2).trans rfl
          have hfz11_0 := blk_frozen BK202.out 0
          have hfz11_1 := blk_frozen BK202.out 1
          have hfz11_2 := blk_frozen BK202.out 2
          go_wp2
          go_meet
          case rel => exact ⟨_, (decide (a0_0 < 0)), (by first | rfl | (simp; done) | (simp [*]; done)), H', ⟨by first | omega | exact Nat.le_refl _⟩, ⟨by (with_reducible repeat (first | refine blk_drewN ?_ _ | refine blk_drew ?_ | refine blk_alloc ?_ _)); exact BK202.out⟩, ⟨by repeat (first | (with_reducible first | exact HB.out | apply below_alloc | apply pw_below_drewN | apply below_drew1 | refine below_set ?_ GE202.out) | exact HB.out)⟩⟩
  case rest =>
    clear HC3
    try clear p2
    try clear c3
    try clear c5
    try clear c5b0
    try clear c7
    try clear c7b0
    try clear c9
    try clear c9b0
    try clear hcz10_0
    try clear hcz10_1
    try clear hcz10_2
    try clear hcz11_0
    try clear hcz11_1
    try clear hcz11_2
    try clear hcz6_0
    try clear hcz6_1
    try clear hcz6_2
    try clear hcz8_0
    try clear hcz8_1
    try clear hcz8_2
    try clear hfz10_0
    try clear hfz10_1
    try clear hfz10_2
    try clear hfz11_0
    try clear hfz11_1
    try clear hfz11_2
    try clear hfz6_0
    try clear hfz6_1
    try clear hfz6_2
    try clear hfz8_0
    try clear hfz8_1
    try clear hfz8_2
    obtain ⟨kq, x24_2, rfl, HA, HJ2, BK202, HB⟩ := hcut
    cases kq with
    | zero => exact absurd HA.out (by simp [abacistref11_Good.j0])
    | succ kj2 =>
      have H := HA.out
      clear HA
      simp only [abacistref11_Good.j0] at H
      by_cases c12 : x24_2 = true
      · subst c12
        have H1 : (some false) = some r := by rw [if_pos rfl] at H; exact H
        clear H
        have H := H1
        clear H1
        obtain rfl := Option.some.inj H
        go_wp2
        go_ret
        exact ⟨by first | rfl | (simp [errW_none, errW_some] <;> rfl) | (simp [*, errW_none, errW_some] <;> rfl), by repeat (first | (with_reducible first | exact HB.out | apply below_alloc | apply pw_below_drewN | apply below_drew1 | refine below_set ?_ GE202.out) | exact HB.out)⟩
      · replace c12 := Bool.eq_false_iff.mpr c12
        subst c12
        have H1 : (abacistref11_Good.l0 kj2 a1 a0_0 0 a0_0 a0_1 a0_2) = some r := by rw [if_neg (show ¬ (false = true) by decide)] at H; exact H
        clear H
        have H := H1
        clear H1
        have H' := Aside0.mk H
        clear H
        have hcz13_0 : wc.cell? ⟨gb202, 0, none⟩ = some (.int .i64 a0_0) := (blk_cell BK202.out 0).trans rfl
        have hcz13_1 : wc.cell? ⟨gb202, 1, none⟩ = some (.int .i64 a0_1) := (blk_cell BK202.out 1).trans rfl
        have hcz13_2 : wc.cell? ⟨gb202, 2, none⟩ = some (.int .i64 a0_2) := (blk_cell BK202.out 2).trans rfl
        have hfz13_0 := blk_frozen BK202.out 0
        have hfz13_1 := blk_frozen BK202.out 1
        have hfz13_2 := blk_frozen BK202.out 2
        go_wp2
        go_loopg [5, 6] kj2 (fun kq v5 v6 w' => ∃ (x5_2 : Int) (x6_2 : Int), v5 = .int .i64 x5_2 ∧ v6 = .int .i64 x6_2 ∧ Aside0 (abacistref11_Good.l0 kq a1 x5_2 x6_2 a0_0 a0_1 a0_2 = some r) ∧ Aside0 (kq ≤ kj2) ∧ Aside0 (w'.heap[gb202]? = some (.cells #[.int .i64 a0_0, .int .i64 a0_1, .int .i64 a0_2] 58 (0, 0))) ∧ Aside0 (Below w.heap.size w w'))
        case atStart => exact ⟨(a0_0), (0), (by first | rfl | (simp; done) | (simp [*]; done)), (by first | rfl | (simp; done) | (simp [*]; done)), H', ⟨Nat.le_refl _⟩, ⟨by (with_reducible repeat (first | refine blk_drewN ?_ _ | refine blk_drew ?_ | refine blk_alloc ?_ _)); exact BK202.out⟩, ⟨by repeat (first | (with_reducible first | exact HB.out | apply below_alloc | apply pw_below_drewN | apply below_drew1 | refine below_set ?_ GE202.out) | exact HB.out)⟩⟩
        case round =>
          clear H'
          try clear c1
          try clear p2
          try clear c3
          try clear c5
          try clear c5b0
          try clear c7
          try clear c7b0
          try clear c9
          try clear c9b0
          try clear c12
          try clear hcz10_0
          try clear hcz10_1
          try clear hcz10_2
          try clear hcz11_0
          try clear hcz11_1
          try clear hcz11_2
          try clear hcz13_0
          try clear hcz13_1
          try clear hcz13_2
          try clear hcz6_0
          try clear hcz6_1
          try clear hcz6_2
          try clear hcz8_0
          try clear hcz8_1
          try clear hcz8_2
          try clear hfz10_0
          try clear hfz10_1
          try clear hfz10_2
          try clear hfz11_0
          try clear hfz11_1
          try clear hfz11_2
          try clear hfz13_0
          try clear hfz13_1
          try clear hfz13_2
          try clear hfz6_0
          try clear hfz6_1
          try clear hfz6_2
          try clear hfz8_0
          try clear hfz8_1
          try clear hfz8_2
          try clear p2
          obtain ⟨x5_2, x6_2, rfl, rfl, HA, HK2, BK202, HB⟩ := hrel
          cases gk with
          | zero => exact absurd HA.out (by simp [abacistref11_Good.l0])
          | succ k2 =>
            have H := HA.out
            clear HA
            simp only [abacistref11_Good.l0] at H
            by_cases c14 : x6_2 < a0_2
            · rw [if_pos c14] at H
              have c14b0 : decide (x6_2 < a0_2) = true := decide_eq_true c14
              clear c14
              by_cases c15 : x5_2 ≥ a1
              · rw [if_pos c15] at H
                have c15b0 : decide (a1 ≤ x5_2) = true := decide_eq_true c15
                clear c15
                obtain rfl := Option.some.inj H
                have hcz16_0 : wr.cell? ⟨gb202, 0, none⟩ = some (.int .i64 a0_0) := (blk_cell BK202.out 0).trans rfl
                have hcz16_1 : wr.cell? ⟨gb202, 1, none⟩ = some (.int .i64 a0_1) := (blk_cell BK202.out 1).trans rfl
                have hcz16_2 : wr.cell? ⟨gb202, 2, none⟩ = some (.int .i64 a0_2) := (blk_cell BK202.out 2).trans rfl
                have hfz16_0 := blk_frozen BK202.out 0
                have hfz16_1 := blk_frozen BK202.out 1
                have hfz16_2 := blk_frozen BK202.out 2
                go_wp2
                go_ret
                exact ⟨by first | rfl | (simp [errW_none, errW_some] <;> rfl) | (simp [*, errW_none, errW_some] <;> rfl), by repeat (first | (with_reducible first | exact HB.out | apply below_alloc | apply pw_below_drewN | apply below_drew1 | refine below_set ?_ GE202.out) | exact HB.out)⟩
              · rw [if_neg c15] at H
                have c15b0 : decide (a1 ≤ x5_2) = false := decide_eq_false c15
                clear c15
                by_cases c17 : (wrap64 (x6_2 + 1)) < a0_2
                · rw [if_pos c17] at H
                  have c17b0 : decide ((wrap64 (x6_2 + 1)) < a0_2) = true := decide_eq_true c17
                  clear c17
                  by_cases c18 : a0_1 > (wrap64 (a1 - x5_2))
                  · rw [if_pos c18] at H
                    have c18b0 : decide ((wrap64 (a1 - x5_2)) < a0_1) = true := decide_eq_true c18
                    clear c18
                    obtain rfl := Option.some.inj H
                    have hcz19_0 : wr.cell? ⟨gb202, 0, none⟩ = some (.int .i64 a0_0) := (blk_cell BK202.out 0).trans rfl
                    have hcz19_1 : wr.cell? ⟨gb202, 1, none⟩ = some (.int .i64 a0_1) := (blk_cell BK202.out 1).trans rfl
                    have hcz19_2 : wr.cell? ⟨gb202, 2, none⟩ = some (.int .i64 a0_2) := (blk_cell BK202.out 2).trans rfl
                    have hfz19_0 := blk_frozen BK202.out 0
                    have hfz19_1 := blk_frozen BK202.out 1
                    have hfz19_2 := blk_frozen BK202.out 2
                    go_wp2
                    go_ret
                    exact ⟨by first | rfl | (simp [errW_none, errW_some] <;> rfl) | (simp [*, errW_none, errW_some] <;> rfl), by repeat (first | (with_reducible first | exact HB.out | apply below_alloc | apply pw_below_drewN | apply below_drew1 | refine below_set ?_ GE202.out) | exact HB.out)⟩
                  · rw [if_neg c18] at H
                    have c18b0 : decide ((wrap64 (a1 - x5_2)) < a0_1) = false := decide_eq_false c18
                    clear c18
                    have H' := Aside0.mk H
                    clear H
                    have hcz20_0 : wr.cell? ⟨gb202, 0, none⟩ = some (.int .i64 a0_0) := (blk_cell BK202.out 0).trans rfl
                    have hcz20_1 : wr.cell? ⟨gb202, 1, none⟩ = some (.int .i64 a0_1) := (blk_cell BK202.out 1).trans rfl
                    have hcz20_2 : wr.cell? ⟨gb202, 2, none⟩ = some (.int .i64 a0_2) := (blk_cell BK202.out 2).trans rfl
                    have hfz20_0 := blk_frozen BK202.out 0
                    have hfz20_1 := blk_frozen BK202.out 1
                    have hfz20_2 := blk_frozen BK202.out 2
                    go_wp2
                    go_roundg k2
                    case measure => have := HJ2.out; have := HK2.out; omega
                    case rel => exact ⟨(wrap64 (x5_2 + a0_1)), (wrap64 (x6_2 + 1)), (by first | rfl | (simp; done) | (simp [*]; done)), (by first | rfl | (simp; done) | (simp [*]; done)), H', ⟨by have := HJ2.out; have := HK2.out; omega⟩, ⟨by (with_reducible repeat (first | refine blk_drewN ?_ _ | refine blk_drew ?_ | refine blk_alloc ?_ _)); exact BK202.out⟩, ⟨by repeat (first | (with_reducible first | exact HB.out | apply below_alloc | apply pw_below_drewN | apply below_drew1 | refine below_set ?_ GE202.out) | exact HB.out)⟩⟩
                · rw [if_neg c17] at H
                  have c17b0 : decide ((wrap64 (x6_2 + 1)) < a0_2) = false := decide_eq_false c17
                  clear c17
                  have H' := Aside0.mk H
                  clear H
                  have hcz21_0 : wr.cell? ⟨gb202, 0, none⟩ = some (.int .i64 a0_0) := (blk_cell BK202.out 0).trans rfl
                  have hcz21_1 : wr.cell? ⟨gb202, 1, none⟩ = some (.int .i64 a0_1) := (blk_cell BK202.out 1).trans rfl
                  have hcz21_2 : wr.cell? ⟨gb202, 2, none⟩ = some (.int .i64 a0_2) := (blk_cell BK202.out 2).trans rfl
                  have hfz21_0 := blk_frozen BK202.out 0
                  have hfz21_1 := blk_frozen BK202.out 1
                  have hfz21_2 := blk_frozen BK202.out 2
                  go_wp2
                  go_roundg k2
                  case measure => have := HJ2.out; have := HK2.out; omega
                  case rel => exact ⟨(wrap64 (x5_2 + a0_1)), (wrap64 (x6_2 + 1)), (by first | rfl | (simp; done) | (simp [*]; done)), (by first | rfl | (simp; done) | (simp [*]; done)), H', ⟨by have := HJ2.out; have := HK2.out; omega⟩, ⟨by (with_reducible repeat (first | refine blk_drewN ?_ _ | refine blk_drew ?_ | refine blk_alloc ?_ _)); exact BK202.out⟩, ⟨by repeat (first | (with_reducible first | exact HB.out | apply below_alloc | apply pw_below_drewN | apply below_drew1 | refine below_set ?_ GE202.out) | exact HB.out)⟩⟩
            · rw [if_neg c14] at H
              have c14b0 : decide (x6_2 < a0_2) = false := decide_eq_false c14
              clear c14
              obtain rfl := Option.some.inj H
              have hcz22_0 : wr.cell? ⟨gb202, 0, none⟩ = some (.int .i64 a0_0) := (blk_cell BK202.out 0).trans rfl
              have hcz22_1 : wr.cell? ⟨gb202, 1, none⟩ = some (.int .i64 a0_1) := (blk_cell BK202.out 1).trans rfl
              have hcz22_2 : wr.cell? ⟨gb202, 2, none⟩ = some (.int .i64 a0_2) := (blk_cell BK202.out 2).trans rfl
              have hfz22_0 := blk_frozen BK202.out 0
              have hfz22_1 := blk_frozen BK202.out 1
              have hfz22_2 := blk_frozen BK202.out 2
              go_wp2
              go_ret
              exact ⟨by first | rfl | (simp [errW_none, errW_some] <;> rfl) | (simp [*, errW_none, errW_some] <;> rfl), by repeat (first | (with_reducible first | exact HB.out | apply below_alloc | apply pw_below_drewN | apply below_drew1 | refine below_set ?_ GE202.out) | exact HB.out)⟩
def abacistref11_Gather.l0 : Nat → List Int → List Int → Int → Int → Int → Int → Option (List Int)
  | 0, _, _, _, _, _, _ => none
  | k + 1, x0, x5, x6, x204000, x204001, x204002 => if x6 < x204002 then (if 0 ≤ (wrap64 (x204000 + (wrap64 (x6 * x204001)))) then (if (wrap64 (x204000 + (wrap64 (x6 * x204001)))) < (x0.length : Int) then (if x5.length < 17592186044416 then (abacistref11_Gather.l0 k x0 (x5 ++ [rd x0 (wrap64 (x204000 + (wrap64 (x6 * x204001))))]) (wrap64 (x6 + 1)) x204000 x204001 x204002) else (none)) else (none)) else (none)) else (some x5)
def abacistref11_Gather.f (k : Nat) (l0 : List Int) (a1_0 : Int) (a1_1 : Int) (a1_2 : Int) : Option (List Int) := abacistref11_Gather.l0 k l0 ([] : List Int) 0 a1_0 a1_1 a1_2
set_option maxHeartbeats 8000000 in
set_option maxRecDepth 100000 in
theorem abacistref11_Gather.calls (k : Nat) (A0 : Option Addr) (c0 : Nat) (l0 : List Int) (a1_0 : Int) (a1_1 : Int) (a1_2 : Int) (r : List Int) (w : World) (hr0 : Kd.C (Kd.int .u64) w A0 l0.length l0) (hc0 : l0.length ≤ c0) (h : abacistref11_Gather.f k l0 a1_0 a1_1 a1_2 = some r) :
    Calls Tryd.prog 39 #[.slice A0 l0.length c0, .agg #[.int .i64 a1_0, .int .i64 a1_1, .int .i64 a1_2]] w fun e w' => ∃ v0_ : Value, e = .returned (v0_) ∧ Kd.R (Kd.int .u64) 45 w' w.heap.size (fun _ => True) v0_ r ∧ Below w.heap.size w w' := by
  have hu58 := Tryd.underlying58
  have HR0 := Aside0.mk hr0
  have HC0 := Aside0.mk hc0
  clear hr0 hc0
  have HB := Aside0.mk (Below.refl w.heap.size w)
  have H : (abacistref11_Gather.l0 k l0 ([] : List Int) 0 a1_0 a1_1 a1_2) = some r := h
  clear h
  have H' := Aside0.mk H
  clear H
  go_enter Tryd.func39, Tryd.ntmps39
  go_wp2_with (first | ((with_reducible refine gate_dst (N := 3) rfl ?_); refine box_event ?hg (N := 3) ?hd (cs := #[.int .i64 a1_0, .int .i64 a1_1, .int .i64 a1_2]) (t := 58) ?hr ?_; (case hd => rfl); (case hg => rfl); (case hr => first | (go_simp; done) | (go_simp; rfl)); intro gb203 hg w3 hbox hb; have n0_ := Aside0.mk (below_step (by repeat (first | (with_reducible first | exact HB.out | apply below_alloc | apply pw_below_drewN | apply below_drew1) | exact HB.out)) hb); have n1_ := Aside0.mk (hbox); have n2_ := Aside0.mk ((by rw [hg]; exact (below_size (by repeat (first | (with_reducible first | exact HB.out | apply below_alloc | apply pw_below_drewN | apply below_drew1) | exact HB.out))) : w.heap.size ≤ gb203)); have n3_ := Aside0.mk ((by rw [hg]; exact (below_size (by repeat (first | (with_reducible first | exact HB.out | apply below_alloc | apply pw_below_drewN | apply below_drew1) | exact HB.out))) : w.heap.size ≤ gb203)); clear HB; have HB := n0_; have BK203 := n1_; have GW203 := n2_; have GE203 := n3_; clear n0_ n1_ n2_ n3_; clear hb hbox hg))
  go_loopg [5, 6] k (fun kq v5 v6 w' => ∃ (x5_1 : List Int) (x6_1 : Int), v6 = .int .i64 x6_1 ∧ Aside0 (abacistref11_Gather.l0 kq l0 x5_1 x6_1 a1_0 a1_1 a1_2 = some r) ∧ Aside0 (kq ≤ k) ∧ Aside0 (Kd.R (Kd.int .u64) 45 w' w.heap.size (fun _ => True) v5 x5_1) ∧ Aside0 (w'.heap[gb203]? = some (.cells #[.int .i64 a1_0, .int .i64 a1_1, .int .i64 a1_2] 58 (0, 0))) ∧ Aside0 (Below w.heap.size w w'))
  case atStart => exact ⟨(([] : List Int)), (0), (by first | rfl | (simp; done) | (simp [*]; done)), H', ⟨Nat.le_refl _⟩, ⟨by first | exact Kd.R_nil _ _ _ _ _ | exact Kd.N_nil _ _ _ _ _ | exact Kd.V_nil _ _ _ _ _ | exact Kd.Q_nil _ _ _ _ _ | exact Kd.S_nil _ _ _ _ _⟩, ⟨by (with_reducible repeat (first | refine blk_drewN ?_ _ | refine blk_drew ?_ | refine blk_alloc ?_ _)); exact BK203.out⟩, ⟨by repeat (first | (with_reducible first | exact HB.out | apply below_alloc | apply pw_below_drewN | apply below_drew1 | refine below_set ?_ GE203.out) | exact HB.out)⟩⟩
  case round =>
    clear H'
    try clear p2
    try clear c3
    obtain ⟨x5_1, x6_1, rfl, HA, HK1, HO_5, BK203, HB⟩ := hrel
    cases gk with
    | zero => exact absurd HA.out (by simp [abacistref11_Gather.l0])
    | succ k1 =>
      have H := HA.out
      clear HA
      simp only [abacistref11_Gather.l0] at H
      by_cases c4 : x6_1 < a1_2
      · rw [if_pos c4] at H
        have c4b0 : decide (x6_1 < a1_2) = true := decide_eq_true c4
        clear c4
        obtain ⟨ji5, hji5⟩ : ∃ j_ : Int, (wrap64 (a1_0 + (wrap64 (x6_1 * a1_1)))) = j_ := ⟨_, rfl⟩
        replace H : (if 0 ≤ (ji5) then (if (ji5) < (l0.length : Int) then (if x5_1.length < 17592186044416 then (abacistref11_Gather.l0 k1 l0 (x5_1 ++ [rd l0 (ji5)]) (wrap64 (x6_1 + 1)) a1_0 a1_1 a1_2) else (none)) else (none)) else (none)) = some r := by first | (rw [hji5] at H; exact H) | (simp only [hji5] at H ⊢; exact H)
        have hji5w : (IntKind.i64.wrap (a1_0 + (wrap64 (x6_1 * a1_1)))) = ji5 := (i64_w _).trans hji5
        by_cases c6 : 0 ≤ (ji5)
        · rw [if_pos c6] at H
          have c6b0 : decide (0 ≤ (ji5)) = true := decide_eq_true c6
          clear c6
          by_cases c7 : (ji5) < (l0.length : Int)
          · rw [if_pos c7] at H
            have c7b0 : decide ((ji5) < (l0.length : Int)) = true := decide_eq_true c7
            clear c7
            by_cases c8 : x5_1.length < 17592186044416
            · rw [if_pos c8] at H
              have LMc8 := Aside0.mk c8
              clear c8
              obtain ⟨y205, hy205⟩ : ∃ y_ : List Int, y_ = (x5_1 ++ [rd l0 (ji5)]) := ⟨_, rfl⟩
              replace H : (abacistref11_Gather.l0 k1 l0 y205 (wrap64 (x6_1 + 1)) a1_0 a1_1 a1_2) = some r := by first | (rw [hy205]; with_reducible exact H) | (have H2_ := (Option.bind_some _ _).symm.trans H; rw [hy205]; with_reducible exact H2_) | (have H2_ := (Option.bind_some _ _).symm.trans H; with_reducible exact H2_) | with_reducible exact H | (rw [hy205]; exact H) | exact H
              have Ny205 := Aside0.mk hy205
              clear hy205
              have H' := Aside0.mk H
              clear H
              have hcz9_0 : wr.cell? ⟨gb203, 0, none⟩ = some (.int .i64 a1_0) := (blk_cell BK203.out 0).trans rfl
              have hcz9_1 : wr.cell? ⟨gb203, 1, none⟩ = some (.int .i64 a1_1) := (blk_cell BK203.out 1).trans rfl
              have hcz9_2 : wr.cell? ⟨gb203, 2, none⟩ = some (.int .i64 a1_2) := (blk_cell BK203.out 2).trans rfl
              have hfz9_0 := blk_frozen BK203.out 0
              have hfz9_1 := blk_frozen BK203.out 1
              have hfz9_2 := blk_frozen BK203.out 2
              have p204 : 0 ≤ ((ji5) : Int) := of_decide_eq_true (by first | (with_reducible assumption) | assumption)
              have q204 : (ji5) < (l0.length : Int) := of_decide_eq_true (by first | (with_reducible assumption) | assumption)
              obtain ⟨ad204, e204, hx204_0⟩ := Kd.at_int HR0.out (ji5) p204 q204
              cases e204
              replace hx204_0 := (HB.out.cell (World.block_lt_of_cell? w _ hx204_0)).trans hx204_0
              replace p204 := eq_true p204
              replace q204 := eq_true q204
              go_wp2_with (first | ((with_reducible refine gate_builtin (b := .append) (xs := #[.tmp 13, .tmp 24]) rfl ?_); at_builtin; refine Kd.R_append (Kd.int .u64) (w0 := w) w.heap.size rfl (.tmp 13) (.tmp 24) 24 45 (.int .u64 0) 8 rfl Tryd.underlying24 info45 rfl (by decide) (by omega) u5 x5_1 (rd l0 (ji5)) [.int .u64 (rd l0 (ji5))] (fun _ => True) (fun _ => False) rfl rfl ?aP (fun _ hk => hk.elim) ?aF ?aO ?aB ?aS ?aL ?_; (case aP => exact rfl); (case aB => exact (by repeat (first | (with_reducible first | exact HB.out | apply below_alloc | apply pw_below_drewN | apply below_drew1 | refine below_set ?_ GE203.out) | exact HB.out))); (case aF => exact (fun _ _ => trivial)); (case aO => exact (by (with_reducible repeat (first | apply Kd.R_alloc | apply Kd.R_drewN | apply Kd.R_drew)); exact HO_5.out)); (case aS => exact (below_size (by repeat (first | (with_reducible first | exact HB.out | apply below_alloc | apply pw_below_drewN | apply below_drew1 | refine below_set ?_ GE203.out) | exact HB.out)))); (case aL => have := LMc8.out; omega); intro v206 w10 ho hb hg hat; rw [← Ny205.out] at ho; have n0_ := Aside0.mk (blk_grown (g := gb203) (o := .cells #[.int .i64 a1_0, .int .i64 a1_1, .int .i64 a1_2] 58 (0, 0)) (by (with_reducible repeat (first | refine blk_drewN ?_ _ | refine blk_drew ?_ | refine blk_alloc ?_ _)); exact BK203.out) hg (Kd.R_ne HO_5.out BK203.out (by decide))); have n1_ := Aside0.mk (hb); have n2_ := Aside0.mk (ho); clear BK203; clear HB; clear HO_5; have BK203 := n0_; have HB := n1_; have HO207 := n2_; clear n0_ n1_ n2_; clear ho hb hg hat))
              go_roundg k1
              case measure => have := HK1.out; omega
              case rel => exact ⟨(y205), (wrap64 (x6_1 + 1)), (by first | rfl | (simp; done) | (simp [*]; done)), H', ⟨by have := HK1.out; omega⟩, ⟨by (with_reducible repeat (first | apply Kd.R_alloc | apply Kd.R_drewN | apply Kd.R_drew)); exact HO207.out⟩, ⟨by (with_reducible repeat (first | refine blk_drewN ?_ _ | refine blk_drew ?_ | refine blk_alloc ?_ _)); exact BK203.out⟩, ⟨by repeat (first | (with_reducible first | exact HB.out | apply below_alloc | apply pw_below_drewN | apply below_drew1 | refine below_set ?_ GE203.out) | exact HB.out)⟩⟩
            · rw [if_neg c8] at H
              exact absurd H (by simp)
          · rw [if_neg c7] at H
            exact absurd H (by simp)
        · rw [if_neg c6] at H
          exact absurd H (by simp)
      · rw [if_neg c4] at H
        have c4b0 : decide (x6_1 < a1_2) = false := decide_eq_false c4
        clear c4
        obtain rfl := Option.some.inj H
        have hcz11_0 : wr.cell? ⟨gb203, 0, none⟩ = some (.int .i64 a1_0) := (blk_cell BK203.out 0).trans rfl
        have hcz11_1 : wr.cell? ⟨gb203, 1, none⟩ = some (.int .i64 a1_1) := (blk_cell BK203.out 1).trans rfl
        have hcz11_2 : wr.cell? ⟨gb203, 2, none⟩ = some (.int .i64 a1_2) := (blk_cell BK203.out 2).trans rfl
        have hfz11_0 := blk_frozen BK203.out 0
        have hfz11_1 := blk_frozen BK203.out 1
        have hfz11_2 := blk_frozen BK203.out 2
        go_wp2
        go_ret
        exact ⟨_, by first | rfl | (simp [errW_none, errW_some] <;> rfl) | (simp [*, errW_none, errW_some] <;> rfl), by (with_reducible repeat (first | apply Kd.R_alloc | apply Kd.R_drewN | apply Kd.R_drew)); exact HO_5.out, by repeat (first | (with_reducible first | exact HB.out | apply below_alloc | apply pw_below_drewN | apply below_drew1 | refine below_set ?_ GE203.out) | exact HB.out)⟩
def abacistref11_Scatter.l0 : Nat → List Int → List Int → Int → Int → Int → Int → Option (List Int)
  | 0, _, _, _, _, _, _ => none
  | k + 1, x2, x7, x8, x209000, x209001, x209002 => if x8 < x209002 then (if 0 ≤ x8 then (if x8 < (x2.length : Int) then (if 0 ≤ (wrap64 (x209000 + (wrap64 (x8 * x209001)))) then (if (wrap64 (x209000 + (wrap64 (x8 * x209001)))) < (x7.length : Int) then (abacistref11_Scatter.l0 k x2 (x7.set ((wrap64 (x209000 + (wrap64 (x8 * x209001)))) : Int).toNat (rd x2 x8)) (wrap64 (x8 + 1)) x209000 x209001 x209002) else (none)) else (none)) else (none)) else (none)) else (some x7)
def abacistref11_Scatter.f (k : Nat) (l0 : List Int) (a1_0 : Int) (a1_1 : Int) (a1_2 : Int) (l2 : List Int) : Option (List Int) := (some (([] : List Int) : List Int)).bind fun y209 => (if y209.length + l0.length < 17592186044416 then (abacistref11_Scatter.l0 k l2 (y209 ++ l0) 0 a1_0 a1_1 a1_2) else (none))
def abacistref11_Scatter.T5 : Bool × List (List Nat × List Nat) := (true, [([], []), ([], []), ([1], [1]), ([], []), ([], []), ([4], [4]), ([3, 5], [3, 5]), ([2, 6], [2, 6]), ([], []), ([], []), ([8, 9], [8, 9]), ([10], [10]), ([0, 7, 0, 1, 2, 3, 4, 5, 6, 7, 8, 9, 10, 11], [0, 7]), ([12, 11, 0, 1, 2, 3, 4, 5, 6, 7, 8, 9, 10, 11], [11, 12])])
def abacistref11_Scatter.B5 : List Nat := [0, 0, 2, 0, 0, 16, 56, 126, 0, 0, 768, 1792, 4095, 8191]
theorem abacistref11_Scatter.tab5 : rtab .any (opsOf Tryd.f40 5) = abacistref11_Scatter.T5 := by kernel_rfl
theorem abacistref11_Scatter.bits5 : waitsOk abacistref11_Scatter.T5.2 abacistref11_Scatter.B5 = true := by kernel_rfl
set_option maxHeartbeats 8000000 in
set_option maxRecDepth 100000 in
theorem abacistref11_Scatter.calls (k : Nat) (A0 : Option Addr) (c0 : Nat) (l0 : List Int) (a1_0 : Int) (a1_1 : Int) (a1_2 : Int) (A2 : Option Addr) (c2 : Nat) (l2 : List Int) (r : List Int) (w : World) (hr0 : Kd.C (Kd.int .u64) w A0 l0.length l0) (hc0 : l0.length ≤ c0) (hr2 : Kd.C (Kd.int .u64) w A2 l2.length l2) (hc2 : l2.length ≤ c2) (h : abacistref11_Scatter.f k l0 a1_0 a1_1 a1_2 l2 = some r) :
    Calls Tryd.prog 40 #[.slice A0 l0.length c0, .agg #[.int .i64 a1_0, .int .i64 a1_1, .int .i64 a1_2], .slice A2 l2.length c2] w fun e w' => ∃ v0_ : Value, e = .returned (v0_) ∧ Kd.R (Kd.int .u64) 45 w' w.heap.size (fun _ => True) v0_ r ∧ Below w.heap.size w w' := by
  have hu58 := Tryd.underlying58
  have HR0 := Aside0.mk hr0
  have HC0 := Aside0.mk hc0
  clear hr0 hc0
  have HR2 := Aside0.mk hr2
  have HC2 := Aside0.mk hc2
  clear hr2 hc2
  have HB := Aside0.mk (Below.refl w.heap.size w)
  have H : ((some (([] : List Int) : List Int)).bind fun y209 => (if y209.length + l0.length < 17592186044416 then (abacistref11_Scatter.l0 k l2 (y209 ++ l0) 0 a1_0 a1_1 a1_2) else (none))) = some r := h
  clear h
  obtain ⟨y209, hy209⟩ : ∃ y_ : List Int, y_ = (([] : List Int)) := ⟨_, rfl⟩
  replace H : (if y209.length + l0.length < 17592186044416 then (abacistref11_Scatter.l0 k l2 (y209 ++ l0) 0 a1_0 a1_1 a1_2) else (none)) = some r := by first | (rw [hy209]; with_reducible exact H) | (have H2_ := (Option.bind_some _ _).symm.trans H; rw [hy209]; with_reducible exact H2_) | (have H2_ := (Option.bind_some _ _).symm.trans H; with_reducible exact H2_) | with_reducible exact H | (rw [hy209]; exact H) | exact H
  have Ny209 := Aside0.mk hy209
  clear hy209
  by_cases c4 : y209.length + l0.length < 17592186044416
  · rw [if_pos c4] at H
    have LMc4 := Aside0.mk c4
    clear c4
    obtain ⟨y212, hy212⟩ : ∃ y_ : List Int, y_ = (y209 ++ l0) := ⟨_, rfl⟩
    replace H : (abacistref11_Scatter.l0 k l2 y212 0 a1_0 a1_1 a1_2) = some r := by first | (rw [hy212]; with_reducible exact H) | (have H2_ := (Option.bind_some _ _).symm.trans H; rw [hy212]; with_reducible exact H2_) | (have H2_ := (Option.bind_some _ _).symm.trans H; with_reducible exact H2_) | with_reducible exact H | (rw [hy212]; exact H) | exact H
    have Ny212 := Aside0.mk hy212
    clear hy212
    have H' := Aside0.mk H
    clear H
    go_enter Tryd.func40, Tryd.ntmps40
    go_wp2_with (first | ((with_reducible refine gate_dst (N := 4) rfl ?_); refine box_event ?hg (N := 4) ?hd (cs := #[.int .i64 a1_0, .int .i64 a1_1, .int .i64 a1_2]) (t := 58) ?hr ?_; (case hd => rfl); (case hg => rfl); (case hr => first | (go_simp; done) | (go_simp; rfl)); intro gb208 hg w5 hbox hb; have n0_ := Aside0.mk (below_step (by repeat (first | (with_reducible first | exact HB.out | apply below_alloc | apply pw_below_drewN | apply below_drew1) | exact HB.out)) hb); have n1_ := Aside0.mk (hbox); have n2_ := Aside0.mk ((by rw [hg]; exact (below_size (by repeat (first | (with_reducible first | exact HB.out | apply below_alloc | apply pw_below_drewN | apply below_drew1) | exact HB.out))) : w.heap.size ≤ gb208)); have n3_ := Aside0.mk ((by rw [hg]; exact (below_size (by repeat (first | (with_reducible first | exact HB.out | apply below_alloc | apply pw_below_drewN | apply below_drew1) | exact HB.out))) : w.heap.size ≤ gb208)); clear HB; have HB := n0_; have BK208 := n1_; have GW208 := n2_; have GE208 := n3_; clear n0_ n1_ n2_ n3_; clear hb hbox hg) | ((with_reducible refine gate_dst (N := 9) rfl ?_); refine Kd.R_lit (Kd.int .u64) _ 45 ?hg (N := 9) ?hd (xs := ([] : List Int)) (inner := []) (ok := fun _ => True) (okp := fun _ => True) ?hr ?hp (fun _ hk => hk) trivial (Below.refl _ _) (Nat.le_refl _) (by simp) ?_; (case hd => rfl); (case hg => rfl); (case hr => first | (go_simp; done) | (go_simp; rfl)); (case hp => exact (Reps.none _ _)); intro v210 w6 ho7 hb hg_ hnew_; clear hg_ hnew_; (first | rw [← Ny209.out] at ho7 | (simp only [Int.reduceToNat] at ho7; rw [← Ny209.out] at ho7)); have n0_ := Aside0.mk (Kd.R_lower ho7 (below_size (by repeat (first | (with_reducible first | exact HB.out | apply below_alloc | apply pw_below_drewN | apply below_drew1 | refine below_set ?_ GE208.out) | exact HB.out)))); have n1_ := Aside0.mk (blk_below (g := gb208) (o := .cells #[.int .i64 a1_0, .int .i64 a1_1, .int .i64 a1_2] 58 (0, 0)) (by (with_reducible repeat (first | refine blk_drewN ?_ _ | refine blk_drew ?_ | refine blk_alloc ?_ _)); exact BK208.out) hb); have n2_ := Aside0.mk (below_step (by repeat (first | (with_reducible first | exact HB.out | apply below_alloc | apply pw_below_drewN | apply below_drew1 | refine below_set ?_ GE208.out) | exact HB.out)) hb); clear BK208; clear HB; have HO211 := n0_; have BK208 := n1_; have HB := n2_; clear n0_ n1_ n2_; clear hb ho7) | ((with_reducible refine gate_builtin (b := .append) (xs := #[.tmp 9, .tmp 10]) rfl ?_); at_builtin; refine Kd.R_append_rows (Kd.int .u64) (w0 := w) w.heap.size rfl (.tmp 9) (.tmp 10) 24 45 (.int .u64 0) 8 rfl Tryd.underlying24 info45 rfl (by decide) (by omega) v210 y209 l0 _ _ _ (fun _ => True) (fun _ => False) rfl rfl ?aO ?aR (fun _ _ h => h) (fun _ h => h.elim) ?aF ?aB ?aS ?aL ?_; (case aR => repeat (first | exact (Kd.C_below HR0.out HB.out) | (with_reducible refine Kd.C_alloc ?_ _) | (with_reducible refine Kd.C_drewN ?_ _) | (with_reducible refine Kd.C_drew ?_))); (case aB => exact (by repeat (first | (with_reducible first | exact HB.out | apply below_alloc | apply pw_below_drewN | apply below_drew1 | refine below_set ?_ GE208.out) | exact HB.out))); (case aF => exact (fun _ _ => trivial)); (case aO => exact (by (with_reducible repeat (first | apply Kd.R_alloc | apply Kd.R_drewN | apply Kd.R_drew)); exact HO211.out)); (case aS => exact (below_size (by repeat (first | (with_reducible first | exact HB.out | apply below_alloc | apply pw_below_drewN | apply below_drew1 | refine below_set ?_ GE208.out) | exact HB.out)))); (case aL => have := LMc4.out; omega); intro v213 w8 ho hb hg hat; rw [← Ny212.out] at ho; have n0_ := Aside0.mk (blk_grown (g := gb208) (o := .cells #[.int .i64 a1_0, .int .i64 a1_1, .int .i64 a1_2] 58 (0, 0)) (by (with_reducible repeat (first | refine blk_drewN ?_ _ | refine blk_drew ?_ | refine blk_alloc ?_ _)); exact BK208.out) hg (Kd.R_ne HO211.out BK208.out (by decide))); have n1_ := Aside0.mk (hb); have n2_ := Aside0.mk (ho); clear BK208; clear HB; clear HO211; have BK208 := n0_; have HB := n1_; have HO214 := n2_; clear n0_ n1_ n2_; clear ho hb hg hat))
    go_loopg [8] k (fun kq v8 w' => ∃ (x7_1 : List Int) (x8_1 : Int), v8 = .int .i64 x8_1 ∧ Aside0 (abacistref11_Scatter.l0 kq l2 x7_1 x8_1 a1_0 a1_1 a1_2 = some r) ∧ Aside0 (kq ≤ k) ∧ Aside0 (Kd.R (Kd.int .u64) 45 w' w.heap.size (fun _ => True) v213 x7_1) ∧ Aside0 (w'.heap[gb208]? = some (.cells #[.int .i64 a1_0, .int .i64 a1_1, .int .i64 a1_2] 58 (0, 0))) ∧ Aside0 (Below w.heap.size w w'))
    case atStart => exact ⟨(y212), (0), (by first | rfl | (simp; done) | (simp [*]; done)), H', ⟨Nat.le_refl _⟩, ⟨by (with_reducible repeat (first | apply Kd.R_alloc | apply Kd.R_drewN | apply Kd.R_drew)); exact HO214.out⟩, ⟨by (with_reducible repeat (first | refine blk_drewN ?_ _ | refine blk_drew ?_ | refine blk_alloc ?_ _)); exact BK208.out⟩, ⟨by repeat (first | (with_reducible first | exact HB.out | apply below_alloc | apply pw_below_drewN | apply below_drew1 | refine below_set ?_ GE208.out) | exact HB.out)⟩⟩
    case round =>
      clear H'
      try clear c2
      try clear p2
      try clear c4
      obtain ⟨x7_1, x8_1, rfl, HA, HK1, HO_7, BK208, HB⟩ := hrel
      cases gk with
      | zero => exact absurd HA.out (by simp [abacistref11_Scatter.l0])
      | succ k1 =>
        have H := HA.out
        clear HA
        simp only [abacistref11_Scatter.l0] at H
        by_cases c9 : x8_1 < a1_2
        · rw [if_pos c9] at H
          have c9b0 : decide (x8_1 < a1_2) = true := decide_eq_true c9
          clear c9
          by_cases c10 : 0 ≤ x8_1
          · rw [if_pos c10] at H
            have c10b0 : decide (0 ≤ x8_1) = true := decide_eq_true c10
            clear c10
            by_cases c11 : x8_1 < (l2.length : Int)
            · rw [if_pos c11] at H
              have c11b0 : decide (x8_1 < (l2.length : Int)) = true := decide_eq_true c11
              clear c11
              obtain ⟨ji12, hji12⟩ : ∃ j_ : Int, (wrap64 (a1_0 + (wrap64 (x8_1 * a1_1)))) = j_ := ⟨_, rfl⟩
              replace H : (if 0 ≤ (ji12) then (if (ji12) < (x7_1.length : Int) then (abacistref11_Scatter.l0 k1 l2 (x7_1.set ((ji12) : Int).toNat (rd l2 x8_1)) (wrap64 (x8_1 + 1)) a1_0 a1_1 a1_2) else (none)) else (none)) = some r := by first | (rw [hji12] at H; exact H) | (simp only [hji12] at H ⊢; exact H)
              have hji12w : (IntKind.i64.wrap (a1_0 + (wrap64 (x8_1 * a1_1)))) = ji12 := (i64_w _).trans hji12
              by_cases c13 : 0 ≤ (ji12)
              · rw [if_pos c13] at H
                have c13b0 : decide (0 ≤ (ji12)) = true := decide_eq_true c13
                clear c13
                by_cases c14 : (ji12) < (x7_1.length : Int)
                · rw [if_pos c14] at H
                  have c14b0 : decide ((ji12) < (x7_1.length : Int)) = true := decide_eq_true c14
                  clear c14
                  obtain ⟨y216, hy216⟩ : ∃ y_ : List Int, y_ = (x7_1.set ((ji12) : Int).toNat (rd l2 x8_1)) := ⟨_, rfl⟩
                  replace H : (abacistref11_Scatter.l0 k1 l2 y216 (wrap64 (x8_1 + 1)) a1_0 a1_1 a1_2) = some r := by first | (rw [hy216]; with_reducible exact H) | (have H2_ := (Option.bind_some _ _).symm.trans H; rw [hy216]; with_reducible exact H2_) | (have H2_ := (Option.bind_some _ _).symm.trans H; with_reducible exact H2_) | with_reducible exact H | (rw [hy216]; exact H) | exact H
                  have Ny216 := Aside0.mk hy216
                  clear hy216
                  have H' := Aside0.mk H
                  clear H
                  have hcz16_0 : wr.cell? ⟨gb208, 0, none⟩ = some (.int .i64 a1_0) := (blk_cell BK208.out 0).trans rfl
                  have hcz16_1 : wr.cell? ⟨gb208, 1, none⟩ = some (.int .i64 a1_1) := (blk_cell BK208.out 1).trans rfl
                  have hcz16_2 : wr.cell? ⟨gb208, 2, none⟩ = some (.int .i64 a1_2) := (blk_cell BK208.out 2).trans rfl
                  have hfz16_0 := blk_frozen BK208.out 0
                  have hfz16_1 := blk_frozen BK208.out 1
                  have hfz16_2 := blk_frozen BK208.out 2
                  try go_wp2
                  have n0_ := Aside0.mk (Kd.R_drew HO_7.out)
                  have n1_ := Aside0.mk (blk_drew BK208.out)
                  have n2_ := Aside0.mk (below_drew1 HB.out)
                  clear HO_7
                  clear BK208
                  clear HB
                  have HO_7 := n0_
                  have BK208 := n1_
                  have HB := n2_
                  clear n0_ n1_ n2_
                  have p215 : 0 ≤ (x8_1 : Int) := of_decide_eq_true (by first | (with_reducible assumption) | assumption)
                  have q215 : x8_1 < (l2.length : Int) := of_decide_eq_true (by first | (with_reducible assumption) | assumption)
                  obtain ⟨ad215, e215, hx215_0⟩ := Kd.at_int HR2.out x8_1 p215 q215
                  have hw215_0 := hx215_0
                  cases e215
                  replace hx215_0 := (HB.out.cell (World.block_lt_of_cell? w _ hx215_0)).trans hx215_0
                  replace p215 := eq_true p215
                  replace q215 := eq_true q215
                  have p15 : 0 ≤ ((ji12) : Int) := of_decide_eq_true (by first | (with_reducible assumption) | assumption)
                  have q15 : ((ji12) : Int) < ((x7_1.length : Int) : Int) := of_decide_eq_true (by first | (with_reducible assumption) | assumption)
                  obtain ⟨go15, co15, eo15, gb15, gl15, cl15, HG15⟩ := Kd.R_form HO_7.out (by omega)
                  (first | cases eo15 | (injection eo15 with ea_ en_ ec_; (first | subst ea_ | (injection ea_ with ea_; subst ea_)); subst ec_; clear en_))
                  have GB15 := Aside0.mk gb15
                  have GG15 := Aside0.mk HG15
                  clear gb15 gl15 HG15
                  obtain ⟨hx15_0, hf15_0⟩ := Kd.R_celln 0 HO_7.out ((ji12) : Int) p15 q15
                  replace p15 := eq_true p15
                  replace q15 := eq_true q15
                  have HP18 := Kd.R_putn HO_7.out ((ji12) : Int) (rd l2 x8_1)
                  rw [← Ny216.out] at HP18
                  have HQ18 := Aside0.mk HP18
                  clear HP18
                  refine start_ (n := 14) (S := fun w' => w'.cell? ⟨gb208, 0, none⟩ = some (.int .i64 a1_0) ∧ w'.cell? ⟨gb208, 1, none⟩ = some (.int .i64 a1_1) ∧ w'.cell? ⟨gb208, 2, none⟩ = some (.int .i64 a1_2) ∧ w'.cell? (ad215.add (x8_1).toNat) = some (.int .u64 (rd l2 x8_1))) (ds := [13]) #[false, false, false, false, false, false, false, false, false, false, false, false, false, false] (by kernel_rfl) rfl rfl ⟨(blk_cell BK208.out 0).trans rfl, (blk_cell BK208.out 1).trans rfl, (blk_cell BK208.out 2).trans rfl, ((HB.out.cell (World.block_lt_of_cell? w _ hw215_0)).trans hw215_0)⟩ (fun hHeld => ?_); refine with_tabW abacistref11_Scatter.tab5 abacistref11_Scatter.bits5 (fun HT_ HW_ => ?_)
                  generalize wr.drew = w17 at HO_7 BK208 HB GG15 HQ18 hf15_0 hx15_0 hx215_0 hHeld ⊢
                  refine pure_ (i := 0) (N := some 18) (v := ?_) (a' := ?_) #[true, false, false, false, false, false, false, false, false, false, false, false, false, false] rfl rfl (any_of HT_.out (by kernel_rfl)) (fun _ _ _ h => h) (Or.inl ⟨by rfl, ?_⟩) ?_ ?_
                  rotate_left
                  · intro w'
                    go_simp
                    with_reducible rfl
                  rotate_left
                  · simp only [Act.put, List.setIfInBounds_toArray, List.set_cons_zero, List.set_cons_succ, i64_w, i32_w]
                    rfl
                  refine pure_ (i := 1) (N := some 19) (v := ?_) (a' := ?_) #[true, true, false, false, false, false, false, false, false, false, false, false, false, false] rfl rfl (any_of HT_.out (by kernel_rfl)) (fun _ _ _ h => h) (Or.inl ⟨by rfl, ?_⟩) ?_ ?_
                  rotate_left
                  · intro w'
                    go_simp
                    with_reducible rfl
                  rotate_left
                  · simp only [Act.put, List.setIfInBounds_toArray, List.set_cons_zero, List.set_cons_succ, i64_w, i32_w]
                    rfl
                  refine pure_ (i := 3) (N := some 21) (v := ?_) (a' := ?_) #[true, true, false, true, false, false, false, false, false, false, false, false, false, false] rfl rfl (any_of HT_.out (by kernel_rfl)) (fun _ _ _ h => h) (Or.inl ⟨by rfl, ?_⟩) ?_ ?_
                  rotate_left
                  · intro w'
                    go_simp
                    with_reducible rfl
                  rotate_left
                  · simp only [Act.put, List.setIfInBounds_toArray, List.set_cons_zero, List.set_cons_succ, i64_w, i32_w]
                    rfl
                  refine pure_ (i := 4) (N := some 22) (v := ?_) (a' := ?_) #[true, true, false, true, true, false, false, false, false, false, false, false, false, false] rfl rfl (any_of HT_.out (by kernel_rfl)) (fun _ _ _ h => h) (Or.inl ⟨by rfl, ?_⟩) ?_ ?_
                  rotate_left
                  · intro w'
                    go_simp
                    with_reducible rfl
                  rotate_left
                  · simp only [Act.put, List.setIfInBounds_toArray, List.set_cons_zero, List.set_cons_succ, i64_w, i32_w]
                    rfl
                  refine pure_ (i := 8) (N := some 26) (v := ?_) (a' := ?_) #[true, true, false, true, true, false, false, false, true, false, false, false, false, false] rfl rfl (any_of HT_.out (by kernel_rfl)) (fun _ _ _ h => h) (Or.inl ⟨by rfl, ?_⟩) ?_ ?_
                  rotate_left
                  · intro w'
                    go_simp
                    with_reducible rfl
                  rotate_left
                  · simp only [Act.put, List.setIfInBounds_toArray, List.set_cons_zero, List.set_cons_succ, i64_w, i32_w]
                    rfl
                  refine pure_ (i := 9) (N := some 27) (v := ?_) (a' := ?_) #[true, true, false, true, true, false, false, false, true, true, false, false, false, false] rfl rfl (any_of HT_.out (by kernel_rfl)) (fun _ _ _ h => h) (Or.inl ⟨by rfl, ?_⟩) ?_ ?_
                  rotate_left
                  · intro w'
                    go_simp
                    with_reducible rfl
                  rotate_left
                  · simp only [Act.put, List.setIfInBounds_toArray, List.set_cons_zero, List.set_cons_succ, i64_w, i32_w]
                    rfl
                  refine pure_ (i := 10) (N := some 28) (v := ?_) (a' := ?_) #[true, true, false, true, true, false, false, false, true, true, true, false, false, false] rfl rfl (any_of HT_.out (by kernel_rfl)) (fun _ _ _ h => h) (Or.inl ⟨by rfl, ?_⟩) ?_ ?_
                  rotate_left
                  · intro w'
                    go_simp
                    with_reducible rfl
                  rotate_left
                  · simp only [Act.put, List.setIfInBounds_toArray, List.set_cons_zero, List.set_cons_succ, i64_w, i32_w]
                    rfl
                  refine take_ (i := 2) (N := some 20) (v := ?_) (a' := ?_) #[true, true, true, true, true, false, false, false, true, true, true, false, false, false] rfl rfl (take_ofW HT_.out HW_.out (by kernel_rfl)) (fun _ _ _ h => h) (Or.inl ⟨by rfl, ?_⟩) hHeld ?_ ?_
                  rotate_left
                  · rintro w' ⟨s0, s1, s2, s3⟩
                    go_simp
                    with_reducible rfl
                  rotate_left
                  · simp only [Act.put, List.setIfInBounds_toArray, List.set_cons_zero, List.set_cons_succ, i64_w, i32_w]
                    rfl
                  refine take_ (i := 5) (N := some 23) (v := ?_) (a' := ?_) #[true, true, true, true, true, true, false, false, true, true, true, false, false, false] rfl rfl (take_ofW HT_.out HW_.out (by kernel_rfl)) (fun _ _ _ h => h) (Or.inl ⟨by rfl, ?_⟩) hHeld ?_ ?_
                  rotate_left
                  · rintro w' ⟨s0, s1, s2, s3⟩
                    go_simp
                    with_reducible rfl
                  rotate_left
                  · simp only [Act.put, List.setIfInBounds_toArray, List.set_cons_zero, List.set_cons_succ, i64_w, i32_w]
                    rfl
                  refine pure_ (i := 6) (N := some 24) (v := ?_) (a' := ?_) #[true, true, true, true, true, true, true, false, true, true, true, false, false, false] rfl rfl (any_of HT_.out (by kernel_rfl)) (fun _ _ _ h => h) (Or.inl ⟨by rfl, ?_⟩) ?_ ?_
                  rotate_left
                  · intro w'
                    go_simp
                    with_reducible rfl
                  rotate_left
                  · simp only [Act.put, List.setIfInBounds_toArray, List.set_cons_zero, List.set_cons_succ, i64_w, i32_w]
                    rfl
                  refine pure_ (i := 7) (N := some 25) (v := ?_) (a' := ?_) #[true, true, true, true, true, true, true, true, true, true, true, false, false, false] rfl rfl (any_of HT_.out (by kernel_rfl)) (fun _ _ _ h => h) (Or.inl ⟨by rfl, ?_⟩) ?_ ?_
                  rotate_left
                  · intro w'
                    go_simp
                    with_reducible rfl
                  rotate_left
                  · simp only [Act.put, List.setIfInBounds_toArray, List.set_cons_zero, List.set_cons_succ, i64_w, i32_w]
                    rfl
                  refine take_ (i := 11) (N := some 29) (v := ?_) (a' := ?_) #[true, true, true, true, true, true, true, true, true, true, true, true, false, false] rfl rfl (take_ofW HT_.out HW_.out (by kernel_rfl)) (fun _ _ _ h => h) (Or.inl ⟨by rfl, ?_⟩) hHeld ?_ ?_
                  rotate_left
                  · rintro w' ⟨s0, s1, s2, s3⟩
                    go_simp
                    with_reducible rfl
                  rotate_left
                  · simp only [Act.put, List.setIfInBounds_toArray, List.set_cons_zero, List.set_cons_succ, i64_w, i32_w]
                    rfl
                  refine pure_ (i := 12) (N := some 30) (v := ?_) (a' := ?_) #[true, true, true, true, true, true, true, true, true, true, true, true, true, false] rfl rfl (any_of HT_.out (by kernel_rfl)) (fun _ _ _ h => h) (Or.inl ⟨by rfl, ?_⟩) ?_ ?_
                  rotate_left
                  · intro w'
                    go_simp
                    with_reducible rfl
                  rotate_left
                  · simp only [Act.put, List.setIfInBounds_toArray, List.set_cons_zero, List.set_cons_succ, i64_w, i32_w]
                    rfl
                  refine last_ (i := 13) (N := none) #[true, true, true, true, true, true, true, true, true, true, true, true, true, true] rfl rfl (one_of HT_.out (by kernel_rfl)) (by decide) (fun K hK => ?_)
                  refine skip_ (w1 := ?_) (by rfl) rfl ?_ ?_
                  rotate_left
                  · go_simp
                    rfl
                  refine hK.out _ _ ?_
                  clear hK K
                  refine done_ (done_of HT_.out (by kernel_rfl)) ?_
                  try go_wp2
                  go_roundg k1
                  case measure => have := HK1.out; omega
                  case rel => exact ⟨(y216), (wrap64 (x8_1 + 1)), (by first | rfl | (simp; done) | (simp [*]; done)), H', ⟨by have := HK1.out; omega⟩, ⟨by (with_reducible repeat (first | apply Kd.R_alloc | apply Kd.R_drewN | apply Kd.R_drew)); exact HQ18.out⟩, ⟨by (with_reducible repeat (first | refine blk_drewN ?_ _ | refine blk_drew ?_ | refine blk_alloc ?_ _)); refine blk_far ?_ (by have h_ := Kd.R_ne HO_7.out BK208.out (by decide); intro e_; exact h_ (by rw [e_]; rfl)) _; (with_reducible repeat (first | refine blk_drewN ?_ _ | refine blk_drew ?_ | refine blk_alloc ?_ _)); exact BK208.out⟩, ⟨by repeat (first | (with_reducible first | exact HB.out | apply below_alloc | apply pw_below_drewN | apply below_drew1 | refine below_set ?_ GB15.out | refine below_set ?_ GE208.out) | exact HB.out)⟩⟩
                · rw [if_neg c14] at H
                  exact absurd H (by simp)
              · rw [if_neg c13] at H
                exact absurd H (by simp)
            · rw [if_neg c11] at H
              exact absurd H (by simp)
          · rw [if_neg c10] at H
            exact absurd H (by simp)
        · rw [if_neg c9] at H
          have c9b0 : decide (x8_1 < a1_2) = false := decide_eq_false c9
          clear c9
          obtain rfl := Option.some.inj H
          have hcz19_0 : wr.cell? ⟨gb208, 0, none⟩ = some (.int .i64 a1_0) := (blk_cell BK208.out 0).trans rfl
          have hcz19_1 : wr.cell? ⟨gb208, 1, none⟩ = some (.int .i64 a1_1) := (blk_cell BK208.out 1).trans rfl
          have hcz19_2 : wr.cell? ⟨gb208, 2, none⟩ = some (.int .i64 a1_2) := (blk_cell BK208.out 2).trans rfl
          have hfz19_0 := blk_frozen BK208.out 0
          have hfz19_1 := blk_frozen BK208.out 1
          have hfz19_2 := blk_frozen BK208.out 2
          go_wp2
          go_ret
          exact ⟨_, by first | rfl | (simp [errW_none, errW_some] <;> rfl) | (simp [*, errW_none, errW_some] <;> rfl), by (with_reducible repeat (first | apply Kd.R_alloc | apply Kd.R_drewN | apply Kd.R_drew)); exact HO_7.out, by repeat (first | (with_reducible first | exact HB.out | apply below_alloc | apply pw_below_drewN | apply below_drew1 | refine below_set ?_ GE208.out) | exact HB.out)⟩
  · rw [if_neg c4] at H
    exact absurd H (by simp)
end Go.Proofs.YtpnkcjnemoompaaDoor.PFft
end
section
set_option linter.unusedVariables false
set_option linter.unusedSimpArgs false
namespace Go.Proofs.YtpnkcjnemoompaaDoor.Fft
open Go.RowKit Go.Proofs.YtpnkcjnemoompaaDoor Go.Proofs.YtpnkcjnemoompaaDoor.Pure Go.Proofs.YtpnkcjnemoompaaDoor.PPlan Go.Proofs.YtpnkcjnemoompaaDoor.PFft Go.Proofs.YtpnkcjnemoompaaDoor.Ext Go.Proofs.YtpnkcjnemoompaaDoorW.PrintWords Go.Proofs.YtpnkcjnemoompaaDoorW.PrintLast Go.Proofs.YtpnkcjnemoompaaDoorW.PrintMore
theorem vgood_no (off step n L : Int) (h : ¬ Vg off step n L) (hL : 0 ≤ L ∧ L ≤ 1048576) (ho : off ≤ 9223372036854775807) : rows_Good.f off step n L = some false := by
  unfold rows_Good.f
  by_cases h1 : n < 0
  · rw [if_pos h1]
  rw [if_neg h1]
  by_cases h2 : n > 1048576
  · rw [if_pos h2]
  rw [if_neg h2]
  by_cases h3 : step < 1
  · rw [if_pos h3]
  rw [if_neg h3]
  by_cases h4 : off < 0
  · rw [if_pos h4]
  rw [if_neg h4]
  by_cases n0 : n = 0
  · exact absurd ⟨by omega, by omega, by omega, by omega, .inl n0⟩ h
  rw [if_neg n0]
  by_cases h5 : off < L
  · rw [if_pos h5]
    by_cases n1 : n = 1
    · subst n1
      exact absurd ⟨by omega, by omega, by omega, by omega, .inr (by omega)⟩ h
    rw [if_neg n1]
    have e1 : wrap64 (n - 1) = n - 1 := wrap_i _ (by omega) (by omega)
    have e2 : wrap64 (L - 1) = L - 1 := wrap_i _ (by omega) (by omega)
    have e3 : wrap64 (L - 1 - off) = L - 1 - off := wrap_i _ (by omega) (by omega)
    rw [e1, if_neg (by omega), e2, e3]
    have hle : Int.tdiv (L - 1 - off) (n - 1) ≤ L - 1 - off := by
      rw [Int.tdiv_eq_ediv_of_nonneg (by omega)]
      exact Int.ediv_le_self _ (by omega)
    have hge : 0 ≤ Int.tdiv (L - 1 - off) (n - 1) := Int.tdiv_nonneg (by omega) (by omega)
    have e4 : wrap64 (Int.tdiv (L - 1 - off) (n - 1)) = Int.tdiv (L - 1 - off) (n - 1) := wrap_i _ (by omega) (by omega)
    rw [e4]
    congr 1
    apply decide_eq_false
    intro hs
    refine h ⟨by omega, by omega, by omega, by omega, .inr ?_⟩
    rw [Int.tdiv_eq_ediv_of_nonneg (by omega)] at hs
    have := (Int.le_ediv_iff_mul_le (by omega)).1 hs
    rw [Int.mul_comm] at this; omega
  · rw [if_neg h5]
theorem Vg.nat {off step n L : Int} (h : Vg off step n L) (hL : 0 ≤ L) : ∃ o s m l : Nat, off = (o : Int) ∧ step = (s : Int) ∧ n = (m : Int) ∧ L = (l : Int) ∧ Vn o s m l := by
  obtain ⟨h1, h2, h3, h4, h5⟩ := h
  obtain ⟨m, rfl⟩ := Int.eq_ofNat_of_zero_le h1
  obtain ⟨s, rfl⟩ := Int.eq_ofNat_of_zero_le (show 0 ≤ step by omega)
  obtain ⟨o, rfl⟩ := Int.eq_ofNat_of_zero_le h4
  obtain ⟨l, rfl⟩ := Int.eq_ofNat_of_zero_le hL
  refine ⟨o, s, m, l, rfl, rfl, rfl, rfl, ⟨by omega, by omega, fun i hi => ?_⟩⟩
  have h6 : (o : Int) + ((m : Int) - 1) * s < l := by
    rcases h5 with h5 | h5
    · omega
    · exact h5
  have h7 : i * s ≤ (m - 1) * s := Nat.mul_le_mul_right _ (by omega)
  have h8 : ((m - 1 : Nat) : Int) * (s : Int) = ((m : Int) - 1) * s := by congr 1; omega
  rw [← h8, ← Int.natCast_mul] at h6
  omega
end Go.Proofs.YtpnkcjnemoompaaDoor.Fft
end
section
namespace Go.Proofs.YtpnkcjnemoompaaDoor.Kern
open Go.RowKit Go.Proofs.YtpnkcjnemoompaaDoor Go.Proofs.YtpnkcjnemoompaaDoor.Ext Go.Proofs.YtpnkcjnemoompaaDoor.PPlan Go.Proofs.YtpnkcjnemoompaaDoor.PFft Go.Proofs.YtpnkcjnemoompaaDoor.Pure Go.Proofs.YtpnkcjnemoompaaDoor.Obj Go.Proofs.YtpnkcjnemoompaaDoor.Fft Go.Proofs.YtpnkcjnemoompaaDoorW.PrintWords Go.Proofs.YtpnkcjnemoompaaDoorW.PrintLast Go.Proofs.YtpnkcjnemoompaaDoorW.PrintMore
set_option linter.unusedVariables false
set_option linter.unusedSimpArgs false
set_option maxRecDepth 100000
set_option maxHeartbeats 4000000 in
theorem gather_no (A : Option Addr) (c : Nat) (l : List Int) (off step n : Int) (w : World) (h : ¬ Vg off step n (l.length : Int)) (hL : l.length ≤ 1048576) (ho : off ≤ 9223372036854775807) :
    Calls Tryd.prog 37 #[.slice A l.length c, .agg #[.int .i64 off, .int .i64 step, .int .i64 n]] w fun e w' => e = .returned (.tuple #[.slice none 0 0, .int .i64 2]) ∧ Below w.heap.size w w' := by
  have HG := Aside0.mk (vgood_no off step n l.length h ⟨by omega, by omega⟩ ho)
  have HB := Aside0.mk (below_alloc (Below.refl w.heap.size w) (Obj.cells #[.int .i64 off, .int .i64 step, .int .i64 n] 58))
  clear h
  go_enter Tryd.func37, Tryd.ntmps37
  go_wp2_with fail
  with_reducible refine (rows_Good.calls off step n l.length false _ HG.out).mono ?_
  rintro e w1 ⟨rfl, hb⟩
  have HB1 := Aside0.mk (below_then HB.out HB.out.size hb)
  clear hb
  go_wp2
  go_ret2
  exact ⟨rfl, HB1.out⟩
end Go.Proofs.YtpnkcjnemoompaaDoor.Kern
end
section
namespace Go.Proofs.YtpnkcjnemoompaaDoor.Kern
open Go.RowKit Go.Proofs.YtpnkcjnemoompaaDoor Go.Proofs.YtpnkcjnemoompaaDoor.Ext Go.Proofs.YtpnkcjnemoompaaDoor.PPlan Go.Proofs.YtpnkcjnemoompaaDoor.PFft Go.Proofs.YtpnkcjnemoompaaDoor.Pure Go.Proofs.YtpnkcjnemoompaaDoor.Obj Go.Proofs.YtpnkcjnemoompaaDoor.Fft Go.Proofs.YtpnkcjnemoompaaDoorW.PrintWords Go.Proofs.YtpnkcjnemoompaaDoorW.PrintLast Go.Proofs.YtpnkcjnemoompaaDoorW.PrintMore
set_option linter.unusedVariables false
set_option linter.unusedSimpArgs false
set_option maxRecDepth 100000
theorem scatter_no (A B : Option Addr) (c m d : Nat) (L : Nat) (off step n : Int) (w : World) (h : ¬ Vg off step n (L : Int)) (hL : L ≤ 1048576) (ho : off ≤ 9223372036854775807) :
    Calls Tryd.prog 38 #[.slice A L c, .agg #[.int .i64 off, .int .i64 step, .int .i64 n], .slice B m d] w fun e w' => e = .returned (.int .i64 2) ∧ Below w.heap.size w w' := by
  have HG := Aside0.mk (vgood_no off step n L h ⟨by omega, by omega⟩ ho)
  have HB := Aside0.mk (below_alloc (Below.refl w.heap.size w) (Obj.cells #[.int .i64 off, .int .i64 step, .int .i64 n] 58))
  clear h
  go_enter Tryd.func38, Tryd.ntmps38
  go_wp2_with fail
  with_reducible refine (rows_Good.calls off step n L false _ HG.out).mono ?_
  rintro e w1 ⟨rfl, hb⟩
  have HB1 := Aside0.mk (below_then HB.out HB.out.size hb)
  clear hb
  go_wp2
  go_ret
  exact ⟨rfl, HB1.out⟩
theorem scatter_odd (A B : Option Addr) (c m d : Nat) (L o s n : Nat) (w : World) (h : Vn o s n L) (hL : L ≤ 1048576) (hm : m ≠ n) :
    Calls Tryd.prog 38 #[.slice A L c, .agg #[.int .i64 (o : Int), .int .i64 (s : Int), .int .i64 (n : Int)], .slice B m d] w fun e w' => e = .returned (.int .i64 19) ∧ Below w.heap.size w w' := by
  have HG := Aside0.mk (vgood_yes o s n L h.good ⟨by omega, by omega⟩)
  have HB := Aside0.mk (below_alloc (Below.refl w.heap.size w) (Obj.cells #[.int .i64 (o : Int), .int .i64 (s : Int), .int .i64 (n : Int)] 58))
  have HK := Aside0.mk (Bk.new w 58 [.int .i64 (o : Int), .int .i64 (s : Int), .int .i64 (n : Int)])
  have d1 : ((m : Int) != (n : Int)) = true := by rw [bne_iff_ne]; omega
  clear h hm
  go_enter Tryd.func38, Tryd.ntmps38
  go_wp2_with fail
  with_reducible refine (rows_Good.calls o s n L true _ HG.out).mono ?_
  rintro e w1 ⟨rfl, hb⟩
  have HB1 := Aside0.mk (below_then HB.out HB.out.size hb)
  have u2 := HK.out.below hb |>.cell 2
  clear hb
  go_wp2
  go_ret
  exact ⟨rfl, HB1.out⟩
end Go.Proofs.YtpnkcjnemoompaaDoor.Kern
end
section
set_option linter.unusedVariables false
set_option linter.unusedSimpArgs false
namespace Go.Proofs.YtpnkcjnemoompaaDoor.Fft
open Go.RowKit Go.Proofs.YtpnkcjnemoompaaDoor Go.Proofs.YtpnkcjnemoompaaDoor.Pure Go.Proofs.YtpnkcjnemoompaaDoor.PPlan Go.Proofs.YtpnkcjnemoompaaDoor.PFft Go.Proofs.YtpnkcjnemoompaaDoor.Ext Go.Proofs.YtpnkcjnemoompaaDoorW.PrintWords Go.Proofs.YtpnkcjnemoompaaDoorW.PrintLast Go.Proofs.YtpnkcjnemoompaaDoorW.PrintMore
theorem rGood_loop (o s n L : Int) (hs : 1 ≤ s) (hsm : s ≤ 9223372036854775807) (ho : 0 ≤ o) (hom : o ≤ 9223372036854775807) (hn : n ≤ 1048576) (hL : 0 ≤ L ∧ L ≤ 1048576) (m : Nat) : ∀ i : Int, 0 ≤ i → i + (m : Int) = n → ∀ X : Int, (i < n → X = o + i * s) →
    Ev (fun k => abacistref11_Good.l0 k L X i o s n) (decide (i = n ∨ o + (n - 1) * s < L)) := by
  induction m with
  | zero =>
    intro i h0 hi X hX
    obtain rfl : i = n := by omega
    rw [decide_eq_true (Or.inl rfl)]
    refine Ev.step (f := fun _ => some true) (fun k => ?_) (Ev.now _)
    simp only [abacistref11_Good.l0]
    rw [if_neg (by omega)]
  | succ m ih =>
    intro i h0 hi X hX
    have hin : i < n := by omega
    have hXe := hX hin
    have hX0 : 0 ≤ X := by have := Int.mul_nonneg h0 (show 0 ≤ s by omega); omega
    have hw : wrap64 (i + 1) = i + 1 := wrap_i _ (by omega) (by omega)
    have hge : (i) * s ≤ (n - 1) * s := Int.mul_le_mul_of_nonneg_right (by omega) (by omega)
    by_cases h1 : X ≥ L
    · refine Ev.step (f := fun _ => some false) (fun k => ?_) (by rw [decide_eq_false (by omega)]; exact Ev.now _)
      simp only [abacistref11_Good.l0]
      rw [if_pos hin, if_pos h1]
    · by_cases h2 : i + 1 < n
      · have hge2 : (i + 1) * s ≤ (n - 1) * s := Int.mul_le_mul_of_nonneg_right (by omega) (by omega)
        rw [Int.add_mul, Int.one_mul] at hge2
        have hwd : wrap64 (L - X) = L - X := wrap_i _ (by omega) (by omega)
        by_cases h3 : s > L - X
        · refine Ev.step (f := fun _ => some false) (fun k => ?_) (by rw [decide_eq_false (by omega)]; exact Ev.now _)
          simp only [abacistref11_Good.l0]
          rw [if_pos hin, if_neg h1, hw, if_pos h2, hwd, if_pos h3]
        · have e : decide (i = n ∨ o + (n - 1) * s < L) = decide (i + 1 = n ∨ o + (n - 1) * s < L) := by
            rw [decide_eq_decide]; omega
          rw [e]
          refine Ev.step (f := fun k => abacistref11_Good.l0 k L (X + s) (i + 1) o s n) (fun k => ?_) (ih (i + 1) (by omega) (by omega) (X + s) (fun _ => by rw [Int.add_mul, Int.one_mul]; omega))
          simp only [abacistref11_Good.l0]
          rw [if_pos hin, if_neg h1, hw, if_pos h2, hwd, if_neg h3, wrap_i (X + s) (by omega) (by omega)]
      · have hn1 : n - 1 = i := by omega
        have e : decide (i = n ∨ o + (n - 1) * s < L) = decide (i + 1 = n ∨ o + (n - 1) * s < L) := by
          rw [decide_eq_decide, hn1, ← hXe]; omega
        rw [e]
        refine Ev.step (f := fun k => abacistref11_Good.l0 k L (wrap64 (X + s)) (i + 1) o s n) (fun k => ?_) (ih (i + 1) (by omega) (by omega) _ (fun h => by omega))
        simp only [abacistref11_Good.l0]
        rw [if_pos hin, if_neg h1, hw, if_neg h2]
theorem rGood_j (x1 o s n : Int) : Ev (fun k => abacistref11_Good.j0 k x1 true o s n) false := by
  refine Ev.step (f := fun _ => some false) (fun k => ?_) (Ev.now _)
  simp only [abacistref11_Good.j0, if_true]
theorem rGood (o s n L : Int) (hsm : s ≤ 9223372036854775807) (hom : o ≤ 9223372036854775807) (hL : 0 ≤ L ∧ L ≤ 1048576) [Decidable (Vg o s n L)] : Ev (fun k => abacistref11_Good.f k o s n L) (decide (Vg o s n L)) := by
  unfold abacistref11_Good.f
  by_cases h1 : n < 0
  · rw [show decide (Vg o s n L) = false from decide_eq_false (fun h => by have := h.1; omega)]
    exact Ev_if h1 (rGood_j _ _ _ _)
  refine Ev_ifn h1 ?_
  by_cases h2 : n > 1048576
  · rw [show decide (Vg o s n L) = false from decide_eq_false (fun h => by have := h.2.1; omega)]
    exact Ev_if h2 (rGood_j _ _ _ _)
  refine Ev_ifn h2 ?_
  by_cases h3 : s < 1
  · rw [show decide (Vg o s n L) = false from decide_eq_false (fun h => by have := h.2.2.1; omega)]
    exact Ev_if h3 (rGood_j _ _ _ _)
  refine Ev_ifn h3 ?_
  by_cases h4 : o < 0
  · rw [show decide (o < 0) = true from decide_eq_true h4, show decide (Vg o s n L) = false from decide_eq_false (fun h => by have := h.2.2.2.1; omega)]
    exact rGood_j _ _ _ _
  · rw [show decide (o < 0) = false from decide_eq_false h4]
    have hl := rGood_loop o s n L (by omega) hsm (by omega) hom (by omega) hL n.toNat 0 (by omega) (by omega) o (fun _ => by omega)
    rw [show decide (Vg o s n L) = decide (0 = n ∨ o + (n - 1) * s < L) by
      rw [decide_eq_decide]
      exact ⟨fun h => h.2.2.2.2.elim (fun q => Or.inl q.symm) Or.inr, fun h => ⟨by omega, by omega, by omega, by omega, h.elim (fun q => Or.inl q.symm) Or.inr⟩⟩]
    refine Ev.step (fun k => ?_) hl
    simp only [abacistref11_Good.j0]
    rw [if_neg (by decide)]
theorem view_at {o s i L : Nat} (h : o + i * s < L) (hL : L ≤ 1048576) : wrap64 ((o : Int) + wrap64 ((i : Int) * (s : Int))) = ((o + i * s : Nat) : Int) := by
  rw [mulc i s (by omega), wrap_i _ (by omega) (by omega)]; rfl
theorem rGather_loop (l : List Int) (o s n : Nat) (h : Vn o s n l.length) (hL : l.length ≤ 1048576) (m : Nat) : ∀ i, i + m = n → Ev (fun k => abacistref11_Gather.l0 k l (gat l o s i) (i : Int) (o : Int) (s : Int) (n : Int)) (gat l o s n) := by
  induction m with
  | zero =>
    intro i hi
    obtain rfl : i = n := by omega
    refine Ev.step (f := fun _ => some _) (fun k => ?_) (Ev.now _)
    simp only [abacistref11_Gather.l0]
    rw [if_neg (by omega)]
  | succ m ih =>
    intro i hi
    have hp := h.lt i (by omega)
    have hn := h.hn
    refine Ev.step (f := fun k => abacistref11_Gather.l0 k l (gat l o s (i + 1)) ((i + 1 : Nat) : Int) (o : Int) (s : Int) (n : Int)) (fun k => ?_) (ih (i + 1) (by omega))
    simp only [abacistref11_Gather.l0]
    rw [view_at hp hL, if_pos (by omega), if_pos (by omega), if_pos (by omega), if_pos (by rw [gat_len]; omega), rdn, wsucc i (by omega), gat_succ]
theorem rGather (l : List Int) (o s n : Nat) (h : Vn o s n l.length) (hL : l.length ≤ 1048576) : Ev (fun k => abacistref11_Gather.f k l (o : Int) (s : Int) (n : Int)) (gat l o s n) := rGather_loop l o s n h hL n 0 (by omega)
theorem rScatter_loop (l ws : List Int) (o s n : Nat) (h : Vn o s n l.length) (hL : l.length ≤ 1048576) (hw : ws.length = n) (m : Nat) : ∀ i, i + m = n → Ev (fun k => abacistref11_Scatter.l0 k ws (sct l o s ws i) (i : Int) (o : Int) (s : Int) (n : Int)) (sct l o s ws n) := by
  induction m with
  | zero =>
    intro i hi
    obtain rfl : i = n := by omega
    refine Ev.step (f := fun _ => some _) (fun k => ?_) (Ev.now _)
    simp only [abacistref11_Scatter.l0]
    rw [if_neg (by omega)]
  | succ m ih =>
    intro i hi
    have hp := h.lt i (by omega)
    have hn := h.hn
    refine Ev.step (f := fun k => abacistref11_Scatter.l0 k ws (sct l o s ws (i + 1)) ((i + 1 : Nat) : Int) (o : Int) (s : Int) (n : Int)) (fun k => ?_) (ih (i + 1) (by omega))
    simp only [abacistref11_Scatter.l0]
    rw [view_at hp hL, if_pos (by omega), if_pos (by omega), if_pos (by omega), if_pos (by omega), if_pos (by rw [sct_len]; omega), rdn, Int.toNat_natCast, wsucc i (by omega)]
    rfl
theorem rScatter (l ws : List Int) (o s n : Nat) (h : Vn o s n l.length) (hL : l.length ≤ 1048576) (hw : ws.length = n) : Ev (fun k => abacistref11_Scatter.f k l (o : Int) (s : Int) (n : Int) ws) (sct l o s ws n) := by
  unfold abacistref11_Scatter.f
  refine Ev.bind (a := []) (Ev.now _) (Ev_if (by simp only [List.length_nil]; omega) ?_)
  rw [List.nil_append]
  exact rScatter_loop l ws o s n h hL hw n 0 (by omega)
end Go.Proofs.YtpnkcjnemoompaaDoor.Fft
end
section
namespace Go.Proofs.YtpnkcjnemoompaaDoor.Kern
open Go.RowKit Go.Proofs.YtpnkcjnemoompaaDoor Go.Proofs.YtpnkcjnemoompaaDoor.Ext Go.Proofs.YtpnkcjnemoompaaDoor.PPlan Go.Proofs.YtpnkcjnemoompaaDoor.PFft Go.Proofs.YtpnkcjnemoompaaDoor.Pure Go.Proofs.YtpnkcjnemoompaaDoor.Obj Go.Proofs.YtpnkcjnemoompaaDoor.Fft Go.Proofs.YtpnkcjnemoompaaDoorW.PrintWords Go.Proofs.YtpnkcjnemoompaaDoorW.PrintLast Go.Proofs.YtpnkcjnemoompaaDoorW.PrintMore
set_option linter.unusedVariables false
set_option linter.unusedSimpArgs false
set_option maxRecDepth 100000
set_option maxHeartbeats 4000000 in
theorem views_bad (A : Option Addr) (c : Nat) (l : List Int) (o s n : Int) (h : ¬ Vg o s n (l.length : Int)) (hsm : s ≤ 9223372036854775807) (hom : o ≤ 9223372036854775807) (B : Option Addr) (e0 : Nat) (q : List Int) (w : World) (hl : In w A c l) (hq : In w B e0 q) (hL : l.length ≤ 100) (hQ : q.length ≤ 100) (hT : TabOK w) :
    Calls Tryd.prog 6 #[.slice A l.length c, .agg #[.int .i64 o, .int .i64 s, .int .i64 n], .slice B q.length e0] w fun e w' => e = .returned (.bool true) ∧ Below w.heap.size w w' := by
  haveI := Classical.propDecidable (Vg o s n (l.length : Int))
  obtain ⟨kg, hkg⟩ := (rGood o s n (l.length : Int) hsm hom ⟨by omega, by omega⟩).rounds
  rw [decide_eq_false h] at hkg
  have HG := Aside0.mk hkg
  have HGG := Aside0.mk (vgood_no o s n l.length h ⟨by omega, by omega⟩ hom)
  have HV := Aside0.mk h
  clear hkg h
  have HT0 := Aside0.mk hT
  have HB0 := Aside0.mk (below_alloc (Below.refl w.heap.size w) (Obj.cells #[.int .i64 o, .int .i64 s, .int .i64 n] 58))
  have HS := Aside0.mk (Bk.new w 58 [.int .i64 o, .int .i64 s, .int .i64 n])
  have HLw := Aside0.mk hl
  have HQw := Aside0.mk hq
  have HL0 := Aside0.mk (hl.below HB0.out)
  have HQ0 := Aside0.mk (hq.below HB0.out)
  obtain ⟨bs, hbs⟩ : ∃ z, z = w.heap.size := ⟨_, rfl⟩
  have hbg : w.heap.size ≤ bs := by omega
  have d1 : decide ((100 : Int) < (l.length : Int)) = false := decide_eq_false (by omega)
  have d2 : decide ((100 : Int) < (q.length : Int)) = false := decide_eq_false (by omega)
  clear hT hl hq
  go_enter Tryd.func6, Tryd.ntmps6
  go_wp2_with fail
  with_reducible refine (awake_calls _ (HT0.out.below HB0.out)).mono ?_
  rintro e w1 ⟨rfl, hb⟩
  rw [← hbs] at HS ⊢
  clear hbs
  have HS0 := HS
  clear HS
  have HB1 := Aside0.mk (below_then HB0.out HB0.out.size hb)
  have HL1 := Aside0.mk (HL0.out.below hb)
  have HQ1 := Aside0.mk (HQ0.out.below hb)
  have HS1 := Aside0.mk (HS0.out.below hb)
  have v0 := HS1.out.cell 0
  have v1 := HS1.out.cell 1
  have v2 := HS1.out.cell 2
  clear hb HB0 HL0 HQ0 HS0
  go_wp2_with fail
  clear v0 v1 v2
  with_reducible refine (abacistref11_Good.calls kg o s n (l.length : Int) false _ HG.out).mono ?_
  rintro e w2 ⟨rfl, hb⟩
  have HB2 := Aside0.mk (below_then HB1.out HB1.out.size hb)
  have HL2 := Aside0.mk (HL1.out.below hb)
  have HQ2 := Aside0.mk (HQ1.out.below hb)
  have HS2 := Aside0.mk (HS1.out.below hb)
  have v0 := HS2.out.cell 0
  have v1 := HS2.out.cell 1
  have v2 := HS2.out.cell 2
  clear hb HB1 HL1 HQ1 HS1
  go_wp2_with fail
  clear v0 v1 v2
  with_reducible refine (rows_Good.calls o s n (l.length : Int) false _ HGG.out).mono ?_
  rintro e w3 ⟨rfl, hb⟩
  have HB3 := Aside0.mk (below_then HB2.out HB2.out.size hb)
  have HL3 := Aside0.mk (HL2.out.below hb)
  have HQ3 := Aside0.mk (HQ2.out.below hb)
  have HS3 := Aside0.mk (HS2.out.below hb)
  have v0 := HS3.out.cell 0
  have v1 := HS3.out.cell 1
  have v2 := HS3.out.cell 2
  clear hb HB2 HL2 HQ2 HS2
  go_wp2_with (first | ((with_reducible refine gate_dst (N := 32) rfl ?_); refine Kd.R_lit (Kd.int .u64) _ 45 ?hg (N := 32) ?hd (xs := []) (inner := []) (ok := fun _ => True) (okp := fun _ => True) ?hr ?hp (fun _ hk => hk) trivial (Below.refl _ _) (Nat.le_refl _) (by simp) ?_; (case hd => rfl); (case hg => rfl); (case hr => first | (go_simp; done) | (go_simp; rfl)); (case hp => exact (Reps.none _ _)); intro v5 w5 ho hb hg_ hnew_; have HOx := Aside0.mk ho; have HBx := Aside0.mk hb; clear hg_ hnew_ ho hb) | ((with_reducible refine gate_builtin (b := .append) (xs := #[.tmp 32, .tmp 33]) rfl ?_); at_builtin; refine Kd.R_append_rows (Kd.int .u64) (w0 := w3) w3.heap.size rfl (.tmp 32) (.tmp 33) 24 45 (.int .u64 0) 8 rfl Tryd.underlying24 info45 rfl (by decide) (by omega) v5 [] (l) _ _ _ (fun _ => True) (fun _ => False) rfl rfl ?aO ?aR (fun _ _ h => h) (fun _ h => h.elim) ?aF ?aB ?aS ?aL ?_; (case aR => exact (Kd.C_below (HL3.out.r) HBx.out)); (case aB => exact HBx.out); (case aF => exact (fun _ _ => trivial)); (case aO => exact HOx.out); (case aS => exact HBx.out.size); (case aL => (simp only [List.length_nil]; omega)); intro v6 w6 ho2 hb2 hg_ hat_; rw [List.nil_append] at ho2; clear hg_ hat_; clear HOx HBx; obtain ⟨Am, cm, hv, hlm, hcm⟩ := Kd.R_reads ho2; subst hv; have HM6 := Aside0.mk (In.mk hcm hlm); clear hcm hlm; have HB6 := Aside0.mk (below_then HB3.out HB3.out.size hb2); have HL6 := Aside0.mk (HL3.out.below hb2); have HQ6 := Aside0.mk (HQ3.out.below hb2); have HS6 := Aside0.mk (HS3.out.below hb2); clear hb2 ho2 v0 v1 v2 HB3 HL3 HQ3 HS3; have v0 := HS6.out.cell 0; have v1 := HS6.out.cell 1; have v2 := HS6.out.cell 2))
  clear v0 v1 v2
  with_reducible refine (gather_no A c l o s n _ HV.out (by omega) hom).mono ?_
  rintro e w7 ⟨rfl, hb⟩
  have HB7 := Aside0.mk (below_then HB6.out HB6.out.size hb)
  have HL7 := Aside0.mk (HL6.out.below hb)
  have HQ7 := Aside0.mk (HQ6.out.below hb)
  have HS7 := Aside0.mk (HS6.out.below hb)
  have HM7 := Aside0.mk (HM6.out.below hb)
  have v0 := HS7.out.cell 0
  have v1 := HS7.out.cell 1
  have v2 := HS7.out.cell 2
  clear hb HB6 HL6 HQ6 HS6 HM6
  go_wp2_with fail
  clear v0 v1 v2
  with_reducible refine (scatter_no Am B cm q.length e0 l.length o s n _ HV.out (by omega) hom).mono ?_
  rintro e w8 ⟨rfl, hb⟩
  have HB8 := Aside0.mk (below_then HB7.out HB7.out.size hb)
  have HL8 := Aside0.mk (HL7.out.below hb)
  have HQ8 := Aside0.mk (HQ7.out.below hb)
  have HS8 := Aside0.mk (HS7.out.below hb)
  have HM8 := Aside0.mk (HM7.out.below hb)
  have v0 := HS8.out.cell 0
  have v1 := HS8.out.cell 1
  have v2 := HS8.out.cell 2
  clear hb HB7 HL7 HQ7 HS7 HM7
  go_wp2_with fail
  clear v0 v1 v2
  with_reducible refine (same_calls A Am c cm l l _ HL8.out HM8.out (by omega) rfl).mono ?_
  rintro e w9 ⟨rfl, hd⟩
  have HB9 := Aside0.mk (below_then HB8.out HB8.out.size hd.below)
  clear hd
  go_wp2
  go_ret
  exact ⟨rfl, HB9.out⟩
set_option maxHeartbeats 4000000 in
theorem views_odd (A : Option Addr) (c : Nat) (l : List Int) (o s n : Nat) (h : Vn o s n l.length) (hsm : (s : Int) ≤ 9223372036854775807) (hom : (o : Int) ≤ 9223372036854775807) (B : Option Addr) (e0 : Nat) (q : List Int) (w : World) (hl : In w A c l) (hq : In w B e0 q) (hL : l.length ≤ 100) (hQ : q.length ≤ 100) (hn : q.length ≠ n) (hT : TabOK w) :
    Calls Tryd.prog 6 #[.slice A l.length c, .agg #[.int .i64 (o : Int), .int .i64 (s : Int), .int .i64 (n : Int)], .slice B q.length e0] w fun e w' => e = .returned (.bool true) ∧ Below w.heap.size w w' := by
  have hv' : Vg (o : Int) (s : Int) (n : Int) (l.length : Int) := h.good
  haveI := Classical.propDecidable (Vg (o : Int) (s : Int) (n : Int) (l.length : Int))
  obtain ⟨kg, hkg⟩ := (rGood (o : Int) (s : Int) (n : Int) (l.length : Int) hsm hom ⟨by omega, by omega⟩).rounds
  rw [decide_eq_true hv'] at hkg
  have HG := Aside0.mk hkg
  have HGG := Aside0.mk (vgood_yes (o : Int) (s : Int) (n : Int) l.length hv' ⟨by omega, by omega⟩)
  have HV := Aside0.mk h
  obtain ⟨kh, hkh⟩ := (rGather l o s n h (by omega)).rounds
  have HGA := Aside0.mk hkh
  have hgl := gat_len l o s n
  have hnn := h.hn
  clear hkg hv' h hkh
  have d3 : ((q.length : Int) != (n : Int)) = true := by rw [bne_iff_ne]; omega
  have HT0 := Aside0.mk hT
  have HB0 := Aside0.mk (below_alloc (Below.refl w.heap.size w) (Obj.cells #[.int .i64 (o : Int), .int .i64 (s : Int), .int .i64 (n : Int)] 58))
  have HS := Aside0.mk (Bk.new w 58 [.int .i64 (o : Int), .int .i64 (s : Int), .int .i64 (n : Int)])
  have HLw := Aside0.mk hl
  have HQw := Aside0.mk hq
  have HL0 := Aside0.mk (hl.below HB0.out)
  have HQ0 := Aside0.mk (hq.below HB0.out)
  obtain ⟨bs, hbs⟩ : ∃ z, z = w.heap.size := ⟨_, rfl⟩
  have hbg : w.heap.size ≤ bs := by omega
  have d1 : decide ((100 : Int) < (l.length : Int)) = false := decide_eq_false (by omega)
  have d2 : decide ((100 : Int) < (q.length : Int)) = false := decide_eq_false (by omega)
  clear hT hl hq
  go_enter Tryd.func6, Tryd.ntmps6
  go_wp2_with fail
  with_reducible refine (awake_calls _ (HT0.out.below HB0.out)).mono ?_
  rintro e w1 ⟨rfl, hb⟩
  rw [← hbs] at HS ⊢
  clear hbs
  have HS0 := HS
  clear HS
  have HB1 := Aside0.mk (below_then HB0.out HB0.out.size hb)
  have HL1 := Aside0.mk (HL0.out.below hb)
  have HQ1 := Aside0.mk (HQ0.out.below hb)
  have HS1 := Aside0.mk (HS0.out.below hb)
  have v0 := HS1.out.cell 0
  have v1 := HS1.out.cell 1
  have v2 := HS1.out.cell 2
  clear hb HB0 HL0 HQ0 HS0
  go_wp2_with fail
  clear v0 v1 v2
  with_reducible refine (abacistref11_Good.calls kg (o : Int) (s : Int) (n : Int) (l.length : Int) true _ HG.out).mono ?_
  rintro e w2 ⟨rfl, hb⟩
  have HB2 := Aside0.mk (below_then HB1.out HB1.out.size hb)
  have HL2 := Aside0.mk (HL1.out.below hb)
  have HQ2 := Aside0.mk (HQ1.out.below hb)
  have HS2 := Aside0.mk (HS1.out.below hb)
  have v0 := HS2.out.cell 0
  have v1 := HS2.out.cell 1
  have v2 := HS2.out.cell 2
  clear hb HB1 HL1 HQ1 HS1
  go_wp2_with fail
  clear v0 v1 v2
  with_reducible refine (rows_Good.calls (o : Int) (s : Int) (n : Int) (l.length : Int) true _ HGG.out).mono ?_
  rintro e w3 ⟨rfl, hb⟩
  have HB3 := Aside0.mk (below_then HB2.out HB2.out.size hb)
  have HL3 := Aside0.mk (HL2.out.below hb)
  have HQ3 := Aside0.mk (HQ2.out.below hb)
  have HS3 := Aside0.mk (HS2.out.below hb)
  have v0 := HS3.out.cell 0
  have v1 := HS3.out.cell 1
  have v2 := HS3.out.cell 2
  clear hb HB2 HL2 HQ2 HS2
  go_wp2_with (first | ((with_reducible refine gate_dst (N := 32) rfl ?_); refine Kd.R_lit (Kd.int .u64) _ 45 ?hg (N := 32) ?hd (xs := []) (inner := []) (ok := fun _ => True) (okp := fun _ => True) ?hr ?hp (fun _ hk => hk) trivial (Below.refl _ _) (Nat.le_refl _) (by simp) ?_; (case hd => rfl); (case hg => rfl); (case hr => first | (go_simp; done) | (go_simp; rfl)); (case hp => exact (Reps.none _ _)); intro v5 w5 ho hb hg_ hnew_; have HOx := Aside0.mk ho; have HBx := Aside0.mk hb; clear hg_ hnew_ ho hb) | ((with_reducible refine gate_builtin (b := .append) (xs := #[.tmp 32, .tmp 33]) rfl ?_); at_builtin; refine Kd.R_append_rows (Kd.int .u64) (w0 := w3) w3.heap.size rfl (.tmp 32) (.tmp 33) 24 45 (.int .u64 0) 8 rfl Tryd.underlying24 info45 rfl (by decide) (by omega) v5 [] (l) _ _ _ (fun _ => True) (fun _ => False) rfl rfl ?aO ?aR (fun _ _ h => h) (fun _ h => h.elim) ?aF ?aB ?aS ?aL ?_; (case aR => exact (Kd.C_below (HL3.out.r) HBx.out)); (case aB => exact HBx.out); (case aF => exact (fun _ _ => trivial)); (case aO => exact HOx.out); (case aS => exact HBx.out.size); (case aL => (simp only [List.length_nil]; omega)); intro v6 w6 ho2 hb2 hg_ hat_; rw [List.nil_append] at ho2; clear hg_ hat_; clear HOx HBx; obtain ⟨Am, cm, hv, hlm, hcm⟩ := Kd.R_reads ho2; subst hv; have HM6 := Aside0.mk (In.mk hcm hlm); clear hcm hlm; have HB6 := Aside0.mk (below_then HB3.out HB3.out.size hb2); have HL6 := Aside0.mk (HL3.out.below hb2); have HQ6 := Aside0.mk (HQ3.out.below hb2); have HS6 := Aside0.mk (HS3.out.below hb2); clear hb2 ho2 v0 v1 v2 HB3 HL3 HQ3 HS3; have v0 := HS6.out.cell 0; have v1 := HS6.out.cell 1; have v2 := HS6.out.cell 2))
  clear v0 v1 v2
  with_reducible refine (gather_yes A c l o s n _ HL6.out HV.out (by omega)).mono ?_
  rintro e w7 ⟨gg, rfl, hrw, hb, hge⟩
  have HR7 := Aside0.mk (show In w7 (some ⟨gg, 0, none⟩) n (gat l o s n) by have h := In.of_mr (Mr.of_rw hrw) (by rw [hgl]; omega); rw [hgl] at h; exact h)
  clear hrw hge
  have HB7 := Aside0.mk (below_then HB6.out HB6.out.size hb)
  have HL7 := Aside0.mk (HL6.out.below hb)
  have HQ7 := Aside0.mk (HQ6.out.below hb)
  have HS7 := Aside0.mk (HS6.out.below hb)
  have HM7 := Aside0.mk (HM6.out.below hb)
  have v0 := HS7.out.cell 0
  have v1 := HS7.out.cell 1
  have v2 := HS7.out.cell 2
  clear hb HB6 HL6 HQ6 HS6 HM6
  go_wp2_with fail
  clear v0 v1 v2
  with_reducible refine (scatter_odd Am B cm q.length e0 l.length o s n _ HV.out (by omega) hn).mono ?_
  rintro e w8 ⟨rfl, hb⟩
  have HB8 := Aside0.mk (below_then HB7.out HB7.out.size hb)
  have HL8 := Aside0.mk (HL7.out.below hb)
  have HQ8 := Aside0.mk (HQ7.out.below hb)
  have HS8 := Aside0.mk (HS7.out.below hb)
  have HM8 := Aside0.mk (HM7.out.below hb)
  have HR8 := Aside0.mk (HR7.out.below hb)
  have v0 := HS8.out.cell 0
  have v1 := HS8.out.cell 1
  have v2 := HS8.out.cell 2
  clear hb HB7 HL7 HQ7 HS7 HM7 HR7
  go_wp2_with fail
  clear v0 v1 v2
  with_reducible refine (abacistref11_Gather.calls kh A c l (o : Int) (s : Int) (n : Int) _ _ HL8.out.r HL8.out.c HGA.out).mono ?_
  rintro e w9 ⟨v, rfl, hr, hb⟩
  obtain ⟨Ar, cr, hv, hlr, hcr⟩ := Kd.R_reads hr
  subst hv
  have HX9 := Aside0.mk (In.mk hcr hlr)
  clear hr hcr hlr
  have HB9 := Aside0.mk (below_then HB8.out HB8.out.size hb)
  have HL9 := Aside0.mk (HL8.out.below hb)
  have HQ9 := Aside0.mk (HQ8.out.below hb)
  have HS9 := Aside0.mk (HS8.out.below hb)
  have HM9 := Aside0.mk (HM8.out.below hb)
  have HR9 := Aside0.mk (HR8.out.below hb)
  have v0 := HS9.out.cell 0
  have v1 := HS9.out.cell 1
  have v2 := HS9.out.cell 2
  clear hb HB8 HL8 HQ8 HS8 HM8 HR8
  go_wp2_with fail
  clear v0 v1 v2
  have hs := same_calls (some ⟨gg, 0, none⟩) Ar n cr (gat l o s n) (gat l o s n) _ HR9.out HX9.out (by omega) rfl
  rw [hgl] at hs
  with_reducible refine hs.mono ?_
  clear hs HX9
  rintro e w10 ⟨rfl, hd⟩
  have HB10 := Aside0.mk (below_then HB9.out HB9.out.size hd.below)
  have HL10 := Aside0.mk (HL9.out.below hd.below)
  have HQ10 := Aside0.mk (HQ9.out.below hd.below)
  have HS10 := Aside0.mk (HS9.out.below hd.below)
  have HM10 := Aside0.mk (HM9.out.below hd.below)
  have HR10 := Aside0.mk (HR9.out.below hd.below)
  have v0 := HS10.out.cell 0
  have v1 := HS10.out.cell 1
  have v2 := HS10.out.cell 2
  clear hd HB9 HL9 HQ9 HS9 HM9 HR9
  go_wp2_with fail
  clear v0 v1 v2
  with_reducible refine (same_calls A Am c cm l l _ HL10.out HM10.out (by omega) rfl).mono ?_
  rintro e w11 ⟨rfl, hd⟩
  have HB11 := Aside0.mk (below_then HB10.out HB10.out.size hd.below)
  clear hd
  go_wp2
  go_ret
  exact ⟨rfl, HB11.out⟩
set_option maxHeartbeats 4000000 in
theorem views_yes (A : Option Addr) (c : Nat) (l : List Int) (o s n : Nat) (h : Vn o s n l.length) (hsm : (s : Int) ≤ 9223372036854775807) (hom : (o : Int) ≤ 9223372036854775807) (B : Option Addr) (e0 : Nat) (q : List Int) (w : World) (hl : In w A c l) (hq : In w B e0 q) (hL : l.length ≤ 100) (hQ : q.length ≤ 100) (hn : q.length = n) (hp : 0 < l.length) (hT : TabOK w) :
    Calls Tryd.prog 6 #[.slice A l.length c, .agg #[.int .i64 (o : Int), .int .i64 (s : Int), .int .i64 (n : Int)], .slice B q.length e0] w fun e w' => e = .returned (.bool true) ∧ Below w.heap.size w w' := by
  obtain ⟨kt, hkt⟩ := (rScatter l q o s n h (by omega) hn).rounds
  have HSC := Aside0.mk hkt
  have hsl := sct_len l o s q n
  clear hkt
  have hv' : Vg (o : Int) (s : Int) (n : Int) (l.length : Int) := h.good
  haveI := Classical.propDecidable (Vg (o : Int) (s : Int) (n : Int) (l.length : Int))
  obtain ⟨kg, hkg⟩ := (rGood (o : Int) (s : Int) (n : Int) (l.length : Int) hsm hom ⟨by omega, by omega⟩).rounds
  rw [decide_eq_true hv'] at hkg
  have HG := Aside0.mk hkg
  have HGG := Aside0.mk (vgood_yes (o : Int) (s : Int) (n : Int) l.length hv' ⟨by omega, by omega⟩)
  have HV := Aside0.mk h
  obtain ⟨kh, hkh⟩ := (rGather l o s n h (by omega)).rounds
  have HGA := Aside0.mk hkh
  have hgl := gat_len l o s n
  have hnn := h.hn
  clear hkg hv' h hkh
  have d3 : ((q.length : Int) != (n : Int)) = false := by rw [hn]; simp
  have HT0 := Aside0.mk hT
  have HB0 := Aside0.mk (below_alloc (Below.refl w.heap.size w) (Obj.cells #[.int .i64 (o : Int), .int .i64 (s : Int), .int .i64 (n : Int)] 58))
  have HS := Aside0.mk (Bk.new w 58 [.int .i64 (o : Int), .int .i64 (s : Int), .int .i64 (n : Int)])
  have HLw := Aside0.mk hl
  have HQw := Aside0.mk hq
  have HL0 := Aside0.mk (hl.below HB0.out)
  have HQ0 := Aside0.mk (hq.below HB0.out)
  obtain ⟨bs, hbs⟩ : ∃ z, z = w.heap.size := ⟨_, rfl⟩
  have hbg : w.heap.size ≤ bs := by omega
  have d1 : decide ((100 : Int) < (l.length : Int)) = false := decide_eq_false (by omega)
  have d2 : decide ((100 : Int) < (q.length : Int)) = false := decide_eq_false (by omega)
  clear hT hl hq
  go_enter Tryd.func6, Tryd.ntmps6
  go_wp2_with fail
  with_reducible refine (awake_calls _ (HT0.out.below HB0.out)).mono ?_
  rintro e w1 ⟨rfl, hb⟩
  rw [← hbs] at HS ⊢
  clear hbs
  have HS0 := HS
  clear HS
  have HB1 := Aside0.mk (below_then HB0.out HB0.out.size hb)
  have HL1 := Aside0.mk (HL0.out.below hb)
  have HQ1 := Aside0.mk (HQ0.out.below hb)
  have HS1 := Aside0.mk (HS0.out.below hb)
  have v0 := HS1.out.cell 0
  have v1 := HS1.out.cell 1
  have v2 := HS1.out.cell 2
  clear hb HB0 HL0 HQ0 HS0
  go_wp2_with fail
  clear v0 v1 v2
  with_reducible refine (abacistref11_Good.calls kg (o : Int) (s : Int) (n : Int) (l.length : Int) true _ HG.out).mono ?_
  rintro e w2 ⟨rfl, hb⟩
  have HB2 := Aside0.mk (below_then HB1.out HB1.out.size hb)
  have HL2 := Aside0.mk (HL1.out.below hb)
  have HQ2 := Aside0.mk (HQ1.out.below hb)
  have HS2 := Aside0.mk (HS1.out.below hb)
  have v0 := HS2.out.cell 0
  have v1 := HS2.out.cell 1
  have v2 := HS2.out.cell 2
  clear hb HB1 HL1 HQ1 HS1
  go_wp2_with fail
  clear v0 v1 v2
  with_reducible refine (rows_Good.calls (o : Int) (s : Int) (n : Int) (l.length : Int) true _ HGG.out).mono ?_
  rintro e w3 ⟨rfl, hb⟩
  have HB3 := Aside0.mk (below_then HB2.out HB2.out.size hb)
  have HL3 := Aside0.mk (HL2.out.below hb)
  have HQ3 := Aside0.mk (HQ2.out.below hb)
  have HS3 := Aside0.mk (HS2.out.below hb)
  have v0 := HS3.out.cell 0
  have v1 := HS3.out.cell 1
  have v2 := HS3.out.cell 2
  clear hb HB2 HL2 HQ2 HS2
  go_wp2_with (first | ((with_reducible refine gate_dst (N := 32) rfl ?_); refine Kd.R_lit (Kd.int .u64) _ 45 ?hg (N := 32) ?hd (xs := []) (inner := []) (ok := fun _ => True) (okp := fun _ => True) ?hr ?hp (fun _ hk => hk) trivial (Below.refl _ _) (Nat.le_refl _) (by simp) ?_; (case hd => rfl); (case hg => rfl); (case hr => first | (go_simp; done) | (go_simp; rfl)); (case hp => exact (Reps.none _ _)); intro v5 w5 ho hb hg_ hnew_; have HOx := Aside0.mk ho; have HBx := Aside0.mk hb; clear hg_ hnew_ ho hb) | ((with_reducible refine gate_builtin (b := .append) (xs := #[.tmp 32, .tmp 33]) rfl ?_); at_builtin; refine Kd.R_append_rows (Kd.int .u64) (w0 := w3) w3.heap.size rfl (.tmp 32) (.tmp 33) 24 45 (.int .u64 0) 8 rfl Tryd.underlying24 info45 rfl (by decide) (by omega) v5 [] (l) _ _ _ (fun _ => True) (fun _ => False) rfl rfl ?aO ?aR (fun _ _ h => h) (fun _ h => h.elim) ?aF ?aB ?aS ?aL ?_; (case aR => exact (Kd.C_below (HL3.out.r) HBx.out)); (case aB => exact HBx.out); (case aF => exact (fun _ _ => trivial)); (case aO => exact HOx.out); (case aS => exact HBx.out.size); (case aL => (simp only [List.length_nil]; omega)); intro v6 w6 ho2 hb2 hg_ hat_; rw [List.nil_append] at ho2; clear hg_ hat_; clear HOx HBx; obtain ⟨gm, cm, hv, hgm, hmm⟩ := Mr.of_R ho2 hp; subst hv; have HM6 := Aside0.mk hmm; have HGm := Aside0.mk (show w.heap.size ≤ gm by have := HB3.out.size; omega); have HNb := Aside0.mk (show bs ≠ gm by have := HS3.out.lt; omega); have HNq := Aside0.mk (show w3.heap.size ≤ gm by omega); clear hmm hgm; have HB6 := Aside0.mk (below_then HB3.out HB3.out.size hb2); have HL6 := Aside0.mk (HL3.out.below hb2); have HQ6 := Aside0.mk (HQ3.out.below hb2); have HS6 := Aside0.mk (HS3.out.below hb2); clear hb2 ho2 v0 v1 v2 HB3 HL3 HQ3 HS3; have v0 := HS6.out.cell 0; have v1 := HS6.out.cell 1; have v2 := HS6.out.cell 2))
  clear v0 v1 v2
  with_reducible refine (gather_yes A c l o s n _ HL6.out HV.out (by omega)).mono ?_
  rintro e w7 ⟨gg, rfl, hrw, hb, hge⟩
  have HW7 := Aside0.mk hrw
  have HNg := Aside0.mk (show gg ≠ gm by have := HM6.out.lt; omega)
  clear hrw hge
  have HB7 := Aside0.mk (below_then HB6.out HB6.out.size hb)
  have HL7 := Aside0.mk (HL6.out.below hb)
  have HQ7 := Aside0.mk (HQ6.out.below hb)
  have HS7 := Aside0.mk (HS6.out.below hb)
  have HM7 := Aside0.mk (HM6.out.below hb)
  have v0 := HS7.out.cell 0
  have v1 := HS7.out.cell 1
  have v2 := HS7.out.cell 2
  clear hb HB6 HL6 HQ6 HS6 HM6
  go_wp2_with fail
  clear v0 v1 v2
  have hsct := scatter_yes gm cm l B e0 q o s n _ HM7.out HV.out (by omega) hn (fun w' hf => HQw.out.below (HB7.out.trans (hf.below (B := w.heap.size) HB7.out.size (by simpa using HGm.out))))
  with_reducible refine hsct.mono ?_
  clear hsct
  rintro e w8 ⟨rfl, hm, hf⟩
  have hb := hf.below (B := w.heap.size) HB7.out.size (by simpa using HGm.out)
  have HB8 := Aside0.mk (HB7.out.trans hb)
  have HL8 := Aside0.mk (HLw.out.below HB8.out)
  have HQ8 := Aside0.mk (HQw.out.below HB8.out)
  have HS8 := Aside0.mk (HS7.out.fr hf (by simpa using HNb.out))
  have HM8 := Aside0.mk hm
  have hW8 := HW7.out.fr hf (by simpa using HNg.out)
  have HR8 := Aside0.mk (show In w8 (some ⟨gg, 0, none⟩) n (gat l o s n) by have h := In.of_mr (Mr.of_rw hW8) (by rw [hgl]; omega); rw [hgl] at h; exact h)
  have v0 := HS8.out.cell 0
  have v1 := HS8.out.cell 1
  have v2 := HS8.out.cell 2
  clear hb hm hf hW8 HB7 HL7 HQ7 HS7 HM7 HW7
  go_wp2_with fail
  clear v0 v1 v2
  with_reducible refine (abacistref11_Gather.calls kh A c l (o : Int) (s : Int) (n : Int) _ _ HL8.out.r HL8.out.c HGA.out).mono ?_
  rintro e w9 ⟨v, rfl, hr, hb⟩
  obtain ⟨Ar, cr, hv, hlr, hcr⟩ := Kd.R_reads hr
  subst hv
  have HX9 := Aside0.mk (In.mk hcr hlr)
  clear hr hcr hlr
  have HB9 := Aside0.mk (below_then HB8.out HB8.out.size hb)
  have HL9 := Aside0.mk (HL8.out.below hb)
  have HQ9 := Aside0.mk (HQ8.out.below hb)
  have HS9 := Aside0.mk (HS8.out.below hb)
  have HM9 := Aside0.mk (HM8.out.below hb)
  have HR9 := Aside0.mk (HR8.out.below hb)
  have v0 := HS9.out.cell 0
  have v1 := HS9.out.cell 1
  have v2 := HS9.out.cell 2
  clear hb HB8 HL8 HQ8 HS8 HM8 HR8
  go_wp2_with fail
  clear v0 v1 v2
  have hs := same_calls (some ⟨gg, 0, none⟩) Ar n cr (gat l o s n) (gat l o s n) _ HR9.out HX9.out (by omega) rfl
  rw [hgl] at hs
  with_reducible refine hs.mono ?_
  clear hs HX9
  rintro e w10 ⟨rfl, hd⟩
  have HB10 := Aside0.mk (below_then HB9.out HB9.out.size hd.below)
  have HL10 := Aside0.mk (HL9.out.below hd.below)
  have HQ10 := Aside0.mk (HQ9.out.below hd.below)
  have HS10 := Aside0.mk (HS9.out.below hd.below)
  have HM10 := Aside0.mk (HM9.out.below hd.below)
  have HR10 := Aside0.mk (HR9.out.below hd.below)
  have v0 := HS10.out.cell 0
  have v1 := HS10.out.cell 1
  have v2 := HS10.out.cell 2
  clear hd HB9 HL9 HQ9 HS9 HM9 HR9
  go_wp2_with fail
  clear v0 v1 v2
  have ht := abacistref11_Scatter.calls kt A c l (o : Int) (s : Int) (n : Int) B e0 q _ _ HL10.out.r HL10.out.c HQ10.out.r HQ10.out.c HSC.out
  rw [hn] at ht
  with_reducible refine ht.mono ?_
  clear ht
  rintro e w11 ⟨v, rfl, hr, hb⟩
  obtain ⟨Ar, cr, hv, hlr, hcr⟩ := Kd.R_reads hr
  subst hv
  have HX11 := Aside0.mk (In.mk hcr hlr)
  clear hr hcr hlr
  have HB11 := Aside0.mk (below_then HB10.out HB10.out.size hb)
  have HL11 := Aside0.mk (HL10.out.below hb)
  have HQ11 := Aside0.mk (HQ10.out.below hb)
  have HS11 := Aside0.mk (HS10.out.below hb)
  have HM11 := Aside0.mk (HM10.out.below hb)
  have HR11 := Aside0.mk (HR10.out.below hb)
  have v0 := HS11.out.cell 0
  have v1 := HS11.out.cell 1
  have v2 := HS11.out.cell 2
  clear hb HB10 HL10 HQ10 HS10 HM10 HR10
  go_wp2_with fail
  clear v0 v1 v2
  have hs := same_calls (some ⟨gm, 0, none⟩) Ar cm cr (sct l o s q n) (sct l o s q n) _ (In.of_mr HM11.out (by omega)) HX11.out (by omega) rfl
  rw [hsl] at hs
  with_reducible refine hs.mono ?_
  clear hs HX11
  rintro e w12 ⟨rfl, hd⟩
  have HB12 := Aside0.mk (below_then HB11.out HB11.out.size hd.below)
  clear hd
  go_wp2
  go_ret
  exact ⟨rfl, HB12.out⟩
set_option maxHeartbeats 4000000 in
theorem scatter_none (A B : Option Addr) (c d L o s n m : Nat) (w : World) (h : Vn o s n L) (hL : L ≤ 1048576) (h0 : n = 0) (hm : m = n) :
    Calls Tryd.prog 38 #[.slice A L c, .agg #[.int .i64 (o : Int), .int .i64 (s : Int), .int .i64 (n : Int)], .slice B m d] w fun e w' => e = .returned (.int .i64 0) ∧ Below w.heap.size w w' := by
  subst hm
  have HG := Aside0.mk (vgood_yes (o : Int) (s : Int) (m : Int) L h.good ⟨by omega, by omega⟩)
  have HB := Aside0.mk (below_alloc (Below.refl w.heap.size w) (Obj.cells #[.int .i64 (o : Int), .int .i64 (s : Int), .int .i64 (m : Int)] 58))
  have HK := Aside0.mk (Bk.new w 58 [.int .i64 (o : Int), .int .i64 (s : Int), .int .i64 (m : Int)])
  have d0 : ((m : Int) != (m : Int)) = false := by simp
  have d1 : decide ((0 : Int) < (m : Int)) = false := decide_eq_false (by omega)
  have d2 : decide (0 < m) = false := decide_eq_false (by omega)
  clear h h0
  go_enter Tryd.func38, Tryd.ntmps38
  go_wp2_with fail
  with_reducible refine (rows_Good.calls o s m L true _ HG.out).mono ?_
  rintro e w1 ⟨rfl, hb⟩
  have HB1 := Aside0.mk (below_then HB.out HB.out.size hb)
  have u2 := HK.out.below hb |>.cell 2
  clear hb
  go_wp2
  go_loopw [23] (fun v23 wr => v23 = .int .i64 0 ∧ Aside0 (Below w.heap.size w wr)) (fun _ _ => 0)
  case atStart => exact ⟨rfl, HB1⟩
  case round =>
    obtain ⟨rfl, HB2⟩ := hrel
    go_wp2
    go_ret
    exact ⟨rfl, HB2.out⟩
set_option maxHeartbeats 4000000 in
theorem views_zero (A : Option Addr) (c : Nat) (l : List Int) (o s n : Nat) (h : Vn o s n l.length) (hsm : (s : Int) ≤ 9223372036854775807) (hom : (o : Int) ≤ 9223372036854775807) (B : Option Addr) (e0 : Nat) (q : List Int) (w : World) (hl : In w A c l) (hq : In w B e0 q) (hL : l.length ≤ 100) (hQ : q.length ≤ 100) (hn : q.length = n) (hp : l.length = 0) (h0 : n = 0) (hT : TabOK w) :
    Calls Tryd.prog 6 #[.slice A l.length c, .agg #[.int .i64 (o : Int), .int .i64 (s : Int), .int .i64 (n : Int)], .slice B q.length e0] w fun e w' => e = .returned (.bool true) ∧ Below w.heap.size w w' := by
  obtain ⟨kt, hkt⟩ := (rScatter l q o s n h (by omega) hn).rounds
  rw [show sct l o s q n = l by rw [h0]; rfl] at hkt
  have HSC := Aside0.mk hkt
  have HZ := Aside0.mk h0
  clear hkt h0 hp
  have hv' : Vg (o : Int) (s : Int) (n : Int) (l.length : Int) := h.good
  haveI := Classical.propDecidable (Vg (o : Int) (s : Int) (n : Int) (l.length : Int))
  obtain ⟨kg, hkg⟩ := (rGood (o : Int) (s : Int) (n : Int) (l.length : Int) hsm hom ⟨by omega, by omega⟩).rounds
  rw [decide_eq_true hv'] at hkg
  have HG := Aside0.mk hkg
  have HGG := Aside0.mk (vgood_yes (o : Int) (s : Int) (n : Int) l.length hv' ⟨by omega, by omega⟩)
  have HV := Aside0.mk h
  obtain ⟨kh, hkh⟩ := (rGather l o s n h (by omega)).rounds
  have HGA := Aside0.mk hkh
  have hgl := gat_len l o s n
  have hnn := h.hn
  clear hkg hv' h hkh
  have d3 : ((q.length : Int) != (n : Int)) = false := by rw [hn]; simp
  have HT0 := Aside0.mk hT
  have HB0 := Aside0.mk (below_alloc (Below.refl w.heap.size w) (Obj.cells #[.int .i64 (o : Int), .int .i64 (s : Int), .int .i64 (n : Int)] 58))
  have HS := Aside0.mk (Bk.new w 58 [.int .i64 (o : Int), .int .i64 (s : Int), .int .i64 (n : Int)])
  have HLw := Aside0.mk hl
  have HQw := Aside0.mk hq
  have HL0 := Aside0.mk (hl.below HB0.out)
  have HQ0 := Aside0.mk (hq.below HB0.out)
  obtain ⟨bs, hbs⟩ : ∃ z, z = w.heap.size := ⟨_, rfl⟩
  have hbg : w.heap.size ≤ bs := by omega
  have d1 : decide ((100 : Int) < (l.length : Int)) = false := decide_eq_false (by omega)
  have d2 : decide ((100 : Int) < (q.length : Int)) = false := decide_eq_false (by omega)
  clear hT hl hq
  go_enter Tryd.func6, Tryd.ntmps6
  go_wp2_with fail
  with_reducible refine (awake_calls _ (HT0.out.below HB0.out)).mono ?_
  rintro e w1 ⟨rfl, hb⟩
  rw [← hbs] at HS ⊢
  clear hbs
  have HS0 := HS
  clear HS
  have HB1 := Aside0.mk (below_then HB0.out HB0.out.size hb)
  have HL1 := Aside0.mk (HL0.out.below hb)
  have HQ1 := Aside0.mk (HQ0.out.below hb)
  have HS1 := Aside0.mk (HS0.out.below hb)
  have v0 := HS1.out.cell 0
  have v1 := HS1.out.cell 1
  have v2 := HS1.out.cell 2
  clear hb HB0 HL0 HQ0 HS0
  go_wp2_with fail
  clear v0 v1 v2
  with_reducible refine (abacistref11_Good.calls kg (o : Int) (s : Int) (n : Int) (l.length : Int) true _ HG.out).mono ?_
  rintro e w2 ⟨rfl, hb⟩
  have HB2 := Aside0.mk (below_then HB1.out HB1.out.size hb)
  have HL2 := Aside0.mk (HL1.out.below hb)
  have HQ2 := Aside0.mk (HQ1.out.below hb)
  have HS2 := Aside0.mk (HS1.out.below hb)
  have v0 := HS2.out.cell 0
  have v1 := HS2.out.cell 1
  have v2 := HS2.out.cell 2
  clear hb HB1 HL1 HQ1 HS1
  go_wp2_with fail
  clear v0 v1 v2
  with_reducible refine (rows_Good.calls (o : Int) (s : Int) (n : Int) (l.length : Int) true _ HGG.out).mono ?_
  rintro e w3 ⟨rfl, hb⟩
  have HB3 := Aside0.mk (below_then HB2.out HB2.out.size hb)
  have HL3 := Aside0.mk (HL2.out.below hb)
  have HQ3 := Aside0.mk (HQ2.out.below hb)
  have HS3 := Aside0.mk (HS2.out.below hb)
  have v0 := HS3.out.cell 0
  have v1 := HS3.out.cell 1
  have v2 := HS3.out.cell 2
  clear hb HB2 HL2 HQ2 HS2
  go_wp2_with (first | ((with_reducible refine gate_dst (N := 32) rfl ?_); refine Kd.R_lit (Kd.int .u64) _ 45 ?hg (N := 32) ?hd (xs := []) (inner := []) (ok := fun _ => True) (okp := fun _ => True) ?hr ?hp (fun _ hk => hk) trivial (Below.refl _ _) (Nat.le_refl _) (by simp) ?_; (case hd => rfl); (case hg => rfl); (case hr => first | (go_simp; done) | (go_simp; rfl)); (case hp => exact (Reps.none _ _)); intro v5 w5 ho hb hg_ hnew_; have HOx := Aside0.mk ho; have HBx := Aside0.mk hb; clear hg_ hnew_ ho hb) | ((with_reducible refine gate_builtin (b := .append) (xs := #[.tmp 32, .tmp 33]) rfl ?_); at_builtin; refine Kd.R_append_rows (Kd.int .u64) (w0 := w3) w3.heap.size rfl (.tmp 32) (.tmp 33) 24 45 (.int .u64 0) 8 rfl Tryd.underlying24 info45 rfl (by decide) (by omega) v5 [] (l) _ _ _ (fun _ => True) (fun _ => False) rfl rfl ?aO ?aR (fun _ _ h => h) (fun _ h => h.elim) ?aF ?aB ?aS ?aL ?_; (case aR => exact (Kd.C_below (HL3.out.r) HBx.out)); (case aB => exact HBx.out); (case aF => exact (fun _ _ => trivial)); (case aO => exact HOx.out); (case aS => exact HBx.out.size); (case aL => (simp only [List.length_nil]; omega)); intro v6 w6 ho2 hb2 hg_ hat_; rw [List.nil_append] at ho2; clear hg_ hat_; clear HOx HBx; obtain ⟨Am, cm, hv, hlm, hcm⟩ := Kd.R_reads ho2; subst hv; have HM6 := Aside0.mk (In.mk hcm hlm); clear hcm hlm; have HB6 := Aside0.mk (below_then HB3.out HB3.out.size hb2); have HL6 := Aside0.mk (HL3.out.below hb2); have HQ6 := Aside0.mk (HQ3.out.below hb2); have HS6 := Aside0.mk (HS3.out.below hb2); clear hb2 ho2 v0 v1 v2 HB3 HL3 HQ3 HS3; have v0 := HS6.out.cell 0; have v1 := HS6.out.cell 1; have v2 := HS6.out.cell 2))
  clear v0 v1 v2
  with_reducible refine (gather_yes A c l o s n _ HL6.out HV.out (by omega)).mono ?_
  rintro e w7 ⟨gg, rfl, hrw, hb, hge⟩
  have HR7 := Aside0.mk (show In w7 (some ⟨gg, 0, none⟩) n (gat l o s n) by have h := In.of_mr (Mr.of_rw hrw) (by rw [hgl]; omega); rw [hgl] at h; exact h)
  clear hrw hge
  have HB7 := Aside0.mk (below_then HB6.out HB6.out.size hb)
  have HL7 := Aside0.mk (HL6.out.below hb)
  have HQ7 := Aside0.mk (HQ6.out.below hb)
  have HS7 := Aside0.mk (HS6.out.below hb)
  have HM7 := Aside0.mk (HM6.out.below hb)
  have v0 := HS7.out.cell 0
  have v1 := HS7.out.cell 1
  have v2 := HS7.out.cell 2
  clear hb HB6 HL6 HQ6 HS6 HM6
  go_wp2_with fail
  clear v0 v1 v2
  with_reducible refine (scatter_none Am B cm e0 l.length o s n n _ HV.out (by omega) HZ.out rfl).mono ?_
  rintro e w8 ⟨rfl, hb⟩
  have HB8 := Aside0.mk (below_then HB7.out HB7.out.size hb)
  have HL8 := Aside0.mk (HL7.out.below hb)
  have HQ8 := Aside0.mk (HQ7.out.below hb)
  have HS8 := Aside0.mk (HS7.out.below hb)
  have HM8 := Aside0.mk (HM7.out.below hb)
  have HR8 := Aside0.mk (HR7.out.below hb)
  have v0 := HS8.out.cell 0
  have v1 := HS8.out.cell 1
  have v2 := HS8.out.cell 2
  clear hb HB7 HL7 HQ7 HS7 HM7 HR7
  go_wp2_with fail
  clear v0 v1 v2
  with_reducible refine (abacistref11_Gather.calls kh A c l (o : Int) (s : Int) (n : Int) _ _ HL8.out.r HL8.out.c HGA.out).mono ?_
  rintro e w9 ⟨v, rfl, hr, hb⟩
  obtain ⟨Ar, cr, hv, hlr, hcr⟩ := Kd.R_reads hr
  subst hv
  have HX9 := Aside0.mk (In.mk hcr hlr)
  clear hr hcr hlr
  have HB9 := Aside0.mk (below_then HB8.out HB8.out.size hb)
  have HL9 := Aside0.mk (HL8.out.below hb)
  have HQ9 := Aside0.mk (HQ8.out.below hb)
  have HS9 := Aside0.mk (HS8.out.below hb)
  have HM9 := Aside0.mk (HM8.out.below hb)
  have HR9 := Aside0.mk (HR8.out.below hb)
  have v0 := HS9.out.cell 0
  have v1 := HS9.out.cell 1
  have v2 := HS9.out.cell 2
  clear hb HB8 HL8 HQ8 HS8 HM8 HR8
  go_wp2_with fail
  clear v0 v1 v2
  have hs := same_calls (some ⟨gg, 0, none⟩) Ar n cr (gat l o s n) (gat l o s n) _ HR9.out HX9.out (by omega) rfl
  rw [hgl] at hs
  with_reducible refine hs.mono ?_
  clear hs HX9
  rintro e w10 ⟨rfl, hd⟩
  have HB10 := Aside0.mk (below_then HB9.out HB9.out.size hd.below)
  have HL10 := Aside0.mk (HL9.out.below hd.below)
  have HQ10 := Aside0.mk (HQ9.out.below hd.below)
  have HS10 := Aside0.mk (HS9.out.below hd.below)
  have HM10 := Aside0.mk (HM9.out.below hd.below)
  have HR10 := Aside0.mk (HR9.out.below hd.below)
  have v0 := HS10.out.cell 0
  have v1 := HS10.out.cell 1
  have v2 := HS10.out.cell 2
  clear hd HB9 HL9 HQ9 HS9 HM9 HR9
  go_wp2_with fail
  clear v0 v1 v2
  have ht := abacistref11_Scatter.calls kt A c l (o : Int) (s : Int) (n : Int) B e0 q _ _ HL10.out.r HL10.out.c HQ10.out.r HQ10.out.c HSC.out
  rw [hn] at ht
  with_reducible refine ht.mono ?_
  clear ht
  rintro e w11 ⟨v, rfl, hr, hb⟩
  obtain ⟨Ar, cr, hv, hlr, hcr⟩ := Kd.R_reads hr
  subst hv
  have HX11 := Aside0.mk (In.mk hcr hlr)
  clear hr hcr hlr
  have HB11 := Aside0.mk (below_then HB10.out HB10.out.size hb)
  have HL11 := Aside0.mk (HL10.out.below hb)
  have HQ11 := Aside0.mk (HQ10.out.below hb)
  have HS11 := Aside0.mk (HS10.out.below hb)
  have HM11 := Aside0.mk (HM10.out.below hb)
  have HR11 := Aside0.mk (HR10.out.below hb)
  have v0 := HS11.out.cell 0
  have v1 := HS11.out.cell 1
  have v2 := HS11.out.cell 2
  clear hb HB10 HL10 HQ10 HS10 HM10 HR10
  go_wp2_with fail
  clear v0 v1 v2
  have hs := same_calls Am Ar cm cr l l _ HM11.out HX11.out (by omega) rfl
  with_reducible refine hs.mono ?_
  clear hs HX11
  rintro e w12 ⟨rfl, hd⟩
  have HB12 := Aside0.mk (below_then HB11.out HB11.out.size hd.below)
  clear hd
  go_wp2
  go_ret
  exact ⟨rfl, HB12.out⟩
theorem views_long (A : Option Addr) (c : Nat) (l : List Int) (o s n : Int) (B : Option Addr) (e0 : Nat) (q : List Int) (w : World) (hL : 100 < l.length ∨ 100 < q.length) (hT : TabOK w) :
    Calls Tryd.prog 6 #[.slice A l.length c, .agg #[.int .i64 o, .int .i64 s, .int .i64 n], .slice B q.length e0] w fun e w' => e = .returned (.bool true) ∧ Below w.heap.size w w' := by
  have HT0 := Aside0.mk hT
  have HB := Aside0.mk (below_alloc (Below.refl w.heap.size w) (Obj.cells #[.int .i64 o, .int .i64 s, .int .i64 n] 58))
  by_cases h1 : 100 < l.length
  · have d1 : decide ((100 : Int) < (l.length : Int)) = true := decide_eq_true (by omega)
    clear hT
    go_enter Tryd.func6, Tryd.ntmps6
    go_wp2_with fail
    with_reducible refine (awake_calls _ (HT0.out.below HB.out)).mono ?_
    rintro e w1 ⟨rfl, hb⟩
    have HB1 := Aside0.mk (below_then HB.out HB.out.size hb)
    clear hb HB
    go_wp2
    go_ret
    exact ⟨rfl, HB1.out⟩
  · have d1 : decide ((100 : Int) < (l.length : Int)) = false := decide_eq_false (by omega)
    have d2 : decide ((100 : Int) < (q.length : Int)) = true := decide_eq_true (by omega)
    clear hT
    go_enter Tryd.func6, Tryd.ntmps6
    go_wp2_with fail
    with_reducible refine (awake_calls _ (HT0.out.below HB.out)).mono ?_
    rintro e w1 ⟨rfl, hb⟩
    have HB1 := Aside0.mk (below_then HB.out HB.out.size hb)
    clear hb HB
    go_wp2
    go_ret
    exact ⟨rfl, HB1.out⟩
theorem RowsViewsRow (a0 : Option Addr) (len0 cap0 : Nat) (z0 : List Int) (o s n : Int) (a2 : Option Addr) (len2 cap2 : Nat) (z2 : List Int) (w : World)
    (w0 : (a0 = none ∧ len0 = 0 ∧ cap0 = 0 ∧ z0 = []) ∨ ∃ x, a0 = some x ∧ len0 ≤ cap0 ∧ cap0 ≤ maxLen ∧ z0.length = cap0 ∧ (∀ i, i < z0.length → w.cell? (x.add i) = some (.int .u64 (z0.getD i 0))) ∧ ∀ n ∈ z0, (Lit.int .u64 n).wf = true)
    (w2 : (a2 = none ∧ len2 = 0 ∧ cap2 = 0 ∧ z2 = []) ∨ ∃ x, a2 = some x ∧ len2 ≤ cap2 ∧ cap2 ≤ maxLen ∧ z2.length = cap2 ∧ (∀ i, i < z2.length → w.cell? (x.add i) = some (.int .u64 (z2.getD i 0))) ∧ ∀ n ∈ z2, (Lit.int .u64 n).wf = true)
    (hom : o ≤ 9223372036854775807) (hsm : s ≤ 9223372036854775807) (hT : TabOK w) :
    Calls Tryd.prog 6 #[.slice a0 len0 cap0, .agg #[.int .i64 o, .int .i64 s, .int .i64 n], .slice a2 len2 cap2] w fun e w' => e = .returned (.bool true) ∧ Below w.heap.size w w' := by
  obtain ⟨l, rfl, hl, hW⟩ := In.of w0
  obtain ⟨q, rfl, hq, hV⟩ := In.of w2
  by_cases h1 : 100 < l.length ∨ 100 < q.length
  · exact views_long a0 cap0 l o s n a2 cap2 q w h1 hT
  by_cases hv : Vg o s n (l.length : Int)
  · obtain ⟨o', s', n', L', rfl, rfl, rfl, hLL, hn⟩ := hv.nat (by omega)
    obtain rfl : L' = l.length := by omega
    by_cases h2 : q.length = n'
    · by_cases h3 : 0 < l.length
      · exact views_yes a0 cap0 l o' s' n' hn hsm hom a2 cap2 q w hl hq (by omega) (by omega) h2 h3 hT
      · have h4 : n' = 0 := by
          rcases Nat.eq_zero_or_pos n' with h | h
          · exact h
          · have := hn.lt 0 h
            omega
        exact views_zero a0 cap0 l o' s' n' hn hsm hom a2 cap2 q w hl hq (by omega) (by omega) h2 (by omega) h4 hT
    · exact views_odd a0 cap0 l o' s' n' hn hsm hom a2 cap2 q w hl hq (by omega) (by omega) h2 hT
  · exact views_bad a0 cap0 l o s n hv hsm hom a2 cap2 q w hl hq (by omega) (by omega) hT
end Go.Proofs.YtpnkcjnemoompaaDoor.Kern
end
