import Derived.Test.YtpnkcjnemoompaaDoorSx2
import Derived.Test.YtpnkcjnemoompaaDoorProg
import Derived.Below
import Derived.Deep.Draws
import Derived.Deep.AppendLies
import Derived.Maps.AppendAt
import Derived.OwnWalk
import Derived.Laws.BytesArg
import Derived.Laws.MakeOwn
import Derived.Laws.OwnMore
import Derived.Deep.OwnRows
import Derived.Tactics
import Derived.Lib.ConvBytes
import Derived.Laws.Slices
import Derived.WalkKit
import Derived.KernelRfl
import Derived.RowKit3
import Derived.Deep.LoopGhost
import Derived.Deep.QuietTactic
import Derived.BigQuiet
import Derived.WideLaws
import Derived.Deep.DeepCutAuto
import Derived.Deep.CutBlock
import Derived.Deep.RegionHeld3
import Derived.Laws.Rows
import Derived.Lib.AppendStr
import Derived.ArgAppend
import Derived.Laws.IdiomCopy
import Derived.OrdersHeld
import Derived.Laws.BitsLemmas
import Derived.RowKit
import Derived.Shelf.Spec.TrailingZeros
import Derived.Lib.LaidTab
import Derived.Lib.Hide
import Derived.Shelf.Strings.Builder1
import Derived.Shelf.Strings.Builder2
import Derived.Shelf.Strings.OnBuilder
import Derived.Shelf.Strings.BuilderF
import Derived.Shelf.Strings.BuilderK
import Derived.Shelf.Strings.Builder2Cap
import Derived.Shelf.Strconv.Itoa0
import Derived.Shelf.Strconv.Itoa1
import Derived.Shelf.LaysM
import Derived.Shelf.Strconv.Itoa2
import Derived.Shelf.Strconv.Itoa3
import Derived.Shelf.Bits.Mul64
import Derived.Shelf.Strings.BuilderCap
import Derived.Ground.SlgnProg
import Derived.Shelf.SlicesE.Clone
import Derived.Ground.SlgfProg
import Derived.Shelf.SlicesE.IndexFunc
import Derived.Laws.StructEq
import Derived.Shelf.Spec.BitsCarry
import Derived.Laws.CopyOwn
import Derived.Laws.BitsAllLaws
import Derived.OpenShut
import Derived.StillTailTactics
import Derived.Outline
import Derived.RegionTactic
import Derived.ChangeAlike
import Derived.BigRegion
/-! Texts of this claim, joined: PFftx4, PFftx7, KernA, KernB, KernC. -/
section
namespace Go.Proofs.YtpnkcjnemoompaaDoor.PFft
open Go.RowKit Go.Proofs.YtpnkcjnemoompaaDoor.Ext Go.Proofs.YtpnkcjnemoompaaDoor.PPlan Go.Proofs.YtpnkcjnemoompaaDoorW.PrintWords Go.Proofs.YtpnkcjnemoompaaDoorW.PrintLast Go.Proofs.YtpnkcjnemoompaaDoorW.PrintMore
attribute [local go_sem] max2_int min2_int max_two min_two max_three min_three max_four min_four   -- for this text's walks alone
set_option linter.unusedVariables false
set_option linter.unusedSimpArgs false
def rows_check.j0 : Nat → Int → Bool → Option (Int)
  | 0, _, _ => none
  | k + 1, x2, x7 => if x7 = true then (some 19) else ((rows_direction.f x2).bind fun t189 => (if t189 = true then (some 0) else (some 18)))
def rows_check.f (k : Nat) (l0 : List Int) (a1_0 : Int) (a1_1 : Int) (a2 : Int) : Option (Int) := (shape_Good.f a1_0 a1_1).bind fun t187 => (if t187 = true then ((shape_Size.f a1_0 a1_1).bind fun t188 => (rows_check.j0 k a2 ((l0.length : Int) != t188))) else (rows_check.j0 k a2 true))
set_option maxHeartbeats 8000000 in
set_option maxRecDepth 100000 in
theorem rows_check.calls (k : Nat) (A0 : Option Addr) (c0 : Nat) (l0 : List Int) (a1_0 : Int) (a1_1 : Int) (a2 : Int) (r : Int) (w : World) (hr0 : Kd.C (Kd.int .u64) w A0 l0.length l0) (hc0 : l0.length ≤ c0) (h : rows_check.f k l0 a1_0 a1_1 a2 = some r) (hT : TabOK w) :
    Calls Tryd.prog 83 #[.slice A0 l0.length c0, .agg #[.int .i64 a1_0, .int .i64 a1_1], .int .i64 a2] w fun e w' => e = .returned (.int .i64 r) ∧ Below w.heap.size w w' := by
  have hu23 := Tryd.underlying23
  have HR0 := Aside0.mk hr0
  have HC0 := Aside0.mk hc0
  clear hr0 hc0
  have HB := Aside0.mk (Below.refl w.heap.size w)
  have H : ((shape_Good.f a1_0 a1_1).bind fun t187 => (if t187 = true then ((shape_Size.f a1_0 a1_1).bind fun t188 => (rows_check.j0 k a2 ((l0.length : Int) != t188))) else (rows_check.j0 k a2 true))) = some r := h
  clear h
  have HC4 := Aside0.mk H
  clear H
  go_enter Tryd.func83, Tryd.ntmps83
  go_upto_region 1 with (first | ((with_reducible refine gate_dst (N := 4) rfl ?_); (try (refine gate_guard (by rfl) ?_; dsimp only)); refine box_event ?hg (N := 4) ?hd (cs := #[.int .i64 a1_0, .int .i64 a1_1]) (t := 23) ?hr ?_; (case hd => rfl); (case hg => rfl); (case hr => first | (go_simp; done) | (go_simp; rfl)); intro gb186 hg w5 hbox hb; have n0_ := Aside0.mk (below_step (by repeat (first | (with_reducible first | exact HB.out | apply below_alloc | apply pw_below_drewN | apply below_drew1) | exact HB.out)) hb); have n1_ := Aside0.mk (hbox); have n2_ := Aside0.mk ((by rw [hg]; exact (below_size (by repeat (first | (with_reducible first | exact HB.out | apply below_alloc | apply pw_below_drewN | apply below_drew1) | exact HB.out))) : w.heap.size ≤ gb186)); have n3_ := Aside0.mk ((by rw [hg]; exact (below_size (by repeat (first | (with_reducible first | exact HB.out | apply below_alloc | apply pw_below_drewN | apply below_drew1) | exact HB.out))) : w.heap.size ≤ gb186)); clear HB; have HB := n0_; have BK186 := n1_; have GW186 := n2_; have GE186 := n3_; clear n0_ n1_ n2_ n3_; clear hb hbox hg))
  (try simp only [Act.put, List.setIfInBounds_toArray, List.set_cons_zero, List.set_cons_succ])
  go_cut [7] (fun v7 wc => ∃ (kq : Nat) (x7_3 : Bool), v7 = .bool x7_3 ∧ Aside0 (rows_check.j0 kq a2 x7_3 = some r) ∧ Aside0 (kq ≤ k) ∧ Aside0 (wc.heap[gb186]? = some (.cells #[.int .i64 a1_0, .int .i64 a1_1] 23 (0, 0))) ∧ Aside0 (Below w.heap.size w wc))
  case first =>
    have H := HC4.out
    clear HC4
    replace H := Option.bind_eq_some_iff.mp H
    obtain ⟨t187, A60, H⟩ := H
    replace H : (if t187 = true then ((shape_Size.f a1_0 a1_1).bind fun t188 => (rows_check.j0 k a2 ((l0.length : Int) != t188))) else (rows_check.j0 k a2 true)) = some r := H
    have A6 := Aside0.mk A60
    clear A60
    by_cases c7 : t187 = true
    · subst c7
      have H1 : ((shape_Size.f a1_0 a1_1).bind fun t188 => (rows_check.j0 k a2 ((l0.length : Int) != t188))) = some r := by rw [if_pos rfl] at H; exact H
      clear H
      have H := H1
      clear H1
      replace H := Option.bind_eq_some_iff.mp H
      obtain ⟨t188, A80, H⟩ := H
      replace H : (rows_check.j0 k a2 ((l0.length : Int) != t188)) = some r := H
      have A8 := Aside0.mk A80
      clear A80
      have H' := Aside0.mk H
      clear H
      have hcz9_0 : w5.cell? ⟨gb186, 0, none⟩ = some (.int .i64 a1_0) := (blk_cell BK186.out 0).trans rfl
      have hcz9_1 : w5.cell? ⟨gb186, 1, none⟩ = some (.int .i64 a1_1) := (blk_cell BK186.out 1).trans rfl
      have hfz9_0 := blk_frozen BK186.out 0
      have hfz9_1 := blk_frozen BK186.out 1
      go_wp2_with (first | ((with_reducible refine gate_callee (f := 68) rfl ?_); refine goesL_ (some 9) rfl rfl Tryd.func68 (by kernel_rfl) rfl #[.agg #[.int .i64 a1_0, .int .i64 a1_1]] rfl (by (try simp only [List.map_toArray, List.map_cons, List.map_nil]); first | done | rfl | (simp only [List.length_drop, List.length_take]; rfl)) ?_; (with_reducible refine (shape_Good.calls a1_0 a1_1 true _ A6.out (TabOK.below hT (by repeat (first | (with_reducible first | exact HB.out | apply below_alloc | apply pw_below_drewN | apply below_drew1 | refine below_set ?_ GE186.out) | exact HB.out)))).mono ?_); rintro e w10 ⟨rfl, hb⟩; refine ⟨_, rfl, ?_⟩; have n0_ := Aside0.mk (blk_below (g := gb186) (o := .cells #[.int .i64 a1_0, .int .i64 a1_1] 23 (0, 0)) (by (with_reducible repeat (first | refine blk_drewN ?_ _ | refine blk_drew ?_ | refine blk_alloc ?_ _)); exact BK186.out) hb); have n1_ := Aside0.mk (below_step (by repeat (first | (with_reducible first | exact HB.out | apply below_alloc | apply pw_below_drewN | apply below_drew1 | refine below_set ?_ GE186.out) | exact HB.out)) hb); clear BK186; clear HB; have BK186 := n0_; have HB := n1_; clear n0_ n1_; (try clear hb); (try clear hb2); (try clear hk); (try clear hi); have hcz11_0 : w10.cell? ⟨gb186, 0, none⟩ = some (.int .i64 a1_0) := (blk_cell BK186.out 0).trans rfl; have hcz11_1 : w10.cell? ⟨gb186, 1, none⟩ = some (.int .i64 a1_1) := (blk_cell BK186.out 1).trans rfl; have hfz11_0 := blk_frozen BK186.out 0; have hfz11_1 := blk_frozen BK186.out 1) | (go_at_call 69; (with_reducible refine (shape_Size.calls a1_0 a1_1 t188 _ A8.out (TabOK.below hT (by repeat (first | (with_reducible first | exact HB.out | apply below_alloc | apply pw_below_drewN | apply below_drew1 | refine below_set ?_ GE186.out) | exact HB.out)))).mono ?_); rintro e w12 ⟨rfl, hb⟩; have n0_ := Aside0.mk (blk_below (g := gb186) (o := .cells #[.int .i64 a1_0, .int .i64 a1_1] 23 (0, 0)) (by (with_reducible repeat (first | refine blk_drewN ?_ _ | refine blk_drew ?_ | refine blk_alloc ?_ _)); exact BK186.out) hb); have n1_ := Aside0.mk (below_step (by repeat (first | (with_reducible first | exact HB.out | apply below_alloc | apply pw_below_drewN | apply below_drew1 | refine below_set ?_ GE186.out) | exact HB.out)) hb); clear BK186; clear HB; have BK186 := n0_; have HB := n1_; clear n0_ n1_; (try clear hb); (try clear hb2); (try clear hk); (try clear hi)))
      go_meet
      case rel => exact ⟨_, (((l0.length : Int) != t188)), (by first | rfl | (simp; done) | (simp [*]; done)), H', ⟨by first | omega | exact Nat.le_refl _⟩, ⟨by (with_reducible repeat (first | refine blk_drewN ?_ _ | refine blk_drew ?_ | refine blk_alloc ?_ _)); exact BK186.out⟩, ⟨by repeat (first | (with_reducible first | exact HB.out | apply below_alloc | apply pw_below_drewN | apply below_drew1 | refine below_set ?_ GE186.out) | exact HB.out)⟩⟩
    · replace c7 := Bool.eq_false_iff.mpr c7
      subst c7
      have H1 : (rows_check.j0 k a2 true) = some r := by rw [if_neg (show ¬ (false = true) by decide)] at H; exact H
      clear H
      have H := H1
      clear H1
      have H' := Aside0.mk H
      clear H
      have hcz13_0 : w5.cell? ⟨gb186, 0, none⟩ = some (.int .i64 a1_0) := (blk_cell BK186.out 0).trans rfl
      have hcz13_1 : w5.cell? ⟨gb186, 1, none⟩ = some (.int .i64 a1_1) := (blk_cell BK186.out 1).trans rfl
      have hfz13_0 := blk_frozen BK186.out 0
      have hfz13_1 := blk_frozen BK186.out 1
      go_wp2_with (first | ((with_reducible refine gate_callee (f := 68) rfl ?_); refine goesL_ (some 9) rfl rfl Tryd.func68 (by kernel_rfl) rfl #[.agg #[.int .i64 a1_0, .int .i64 a1_1]] rfl (by (try simp only [List.map_toArray, List.map_cons, List.map_nil]); first | done | rfl | (simp only [List.length_drop, List.length_take]; rfl)) ?_; (with_reducible refine (shape_Good.calls a1_0 a1_1 false _ A6.out (TabOK.below hT (by repeat (first | (with_reducible first | exact HB.out | apply below_alloc | apply pw_below_drewN | apply below_drew1 | refine below_set ?_ GE186.out) | exact HB.out)))).mono ?_); rintro e w14 ⟨rfl, hb⟩; refine ⟨_, rfl, ?_⟩; have n0_ := Aside0.mk (blk_below (g := gb186) (o := .cells #[.int .i64 a1_0, .int .i64 a1_1] 23 (0, 0)) (by (with_reducible repeat (first | refine blk_drewN ?_ _ | refine blk_drew ?_ | refine blk_alloc ?_ _)); exact BK186.out) hb); have n1_ := Aside0.mk (below_step (by repeat (first | (with_reducible first | exact HB.out | apply below_alloc | apply pw_below_drewN | apply below_drew1 | refine below_set ?_ GE186.out) | exact HB.out)) hb); clear BK186; clear HB; have BK186 := n0_; have HB := n1_; clear n0_ n1_; (try clear hb); (try clear hb2); (try clear hk); (try clear hi)))
      go_meet
      case rel => exact ⟨_, (true), (by first | rfl | (simp; done) | (simp [*]; done)), H', ⟨by first | omega | exact Nat.le_refl _⟩, ⟨by (with_reducible repeat (first | refine blk_drewN ?_ _ | refine blk_drew ?_ | refine blk_alloc ?_ _)); exact BK186.out⟩, ⟨by repeat (first | (with_reducible first | exact HB.out | apply below_alloc | apply pw_below_drewN | apply below_drew1 | refine below_set ?_ GE186.out) | exact HB.out)⟩⟩
  case rest =>
    clear HC4
    try clear p2
    try clear c6
    try clear c7
    try clear c8
    try clear hcz11_0
    try clear hcz11_1
    try clear hcz13_0
    try clear hcz13_1
    try clear hcz9_0
    try clear hcz9_1
    try clear hfz11_0
    try clear hfz11_1
    try clear hfz13_0
    try clear hfz13_1
    try clear hfz9_0
    try clear hfz9_1
    obtain ⟨kq, x7_3, rfl, HA, HJ3, BK186, HB⟩ := hcut
    cases kq with
    | zero => exact absurd HA.out (by simp [rows_check.j0])
    | succ kj3 =>
      have H := HA.out
      clear HA
      simp only [rows_check.j0] at H
      by_cases c15 : x7_3 = true
      · subst c15
        have H1 : (some 19) = some r := by rw [if_pos rfl] at H; exact H
        clear H
        have H := H1
        clear H1
        obtain rfl := Option.some.inj H
        go_wp2
        go_ret
        exact ⟨by first | rfl | (simp [errW_none, errW_some] <;> rfl) | (simp [*, errW_none, errW_some] <;> rfl), by repeat (first | (with_reducible first | exact HB.out | apply below_alloc | apply pw_below_drewN | apply below_drew1 | refine below_set ?_ GE186.out) | exact HB.out)⟩
      · replace c15 := Bool.eq_false_iff.mpr c15
        subst c15
        have H1 : ((rows_direction.f a2).bind fun t189 => (if t189 = true then (some 0) else (some 18))) = some r := by rw [if_neg (show ¬ (false = true) by decide)] at H; exact H
        clear H
        have H := H1
        clear H1
        replace H := Option.bind_eq_some_iff.mp H
        obtain ⟨t189, A160, H⟩ := H
        replace H : (if t189 = true then (some 0) else (some 18)) = some r := H
        have A16 := Aside0.mk A160
        clear A160
        by_cases c17 : t189 = true
        · subst c17
          have H1 : (some 0) = some r := by rw [if_pos rfl] at H; exact H
          clear H
          have H := H1
          clear H1
          obtain rfl := Option.some.inj H
          go_wp2_with (first | ((with_reducible refine gate_callee (f := 103) rfl ?_); refine goesL_ (some 20) rfl rfl Tryd.func103 (by kernel_rfl) rfl #[.int .i64 a2] rfl (by (try simp only [List.map_toArray, List.map_cons, List.map_nil]); first | done | rfl | (simp only [List.length_drop, List.length_take]; rfl)) ?_; (with_reducible refine (rows_direction.calls a2 true _ A16.out).mono ?_); rintro e w' ⟨rfl, ⟨nd, rfl⟩⟩; refine ⟨_, rfl, ?_⟩))
          go_ret
          exact ⟨by first | rfl | (simp [errW_none, errW_some] <;> rfl) | (simp [*, errW_none, errW_some] <;> rfl), by repeat (first | (with_reducible first | exact HB.out | apply below_alloc | apply pw_below_drewN | apply below_drew1 | refine below_set ?_ GE186.out) | exact HB.out)⟩
        · replace c17 := Bool.eq_false_iff.mpr c17
          subst c17
          have H1 : (some 18) = some r := by rw [if_neg (show ¬ (false = true) by decide)] at H; exact H
          clear H
          have H := H1
          clear H1
          obtain rfl := Option.some.inj H
          go_wp2_with (first | ((with_reducible refine gate_callee (f := 103) rfl ?_); refine goesL_ (some 20) rfl rfl Tryd.func103 (by kernel_rfl) rfl #[.int .i64 a2] rfl (by (try simp only [List.map_toArray, List.map_cons, List.map_nil]); first | done | rfl | (simp only [List.length_drop, List.length_take]; rfl)) ?_; (with_reducible refine (rows_direction.calls a2 false _ A16.out).mono ?_); rintro e w' ⟨rfl, ⟨nd, rfl⟩⟩; refine ⟨_, rfl, ?_⟩))
          go_ret
          exact ⟨by first | rfl | (simp [errW_none, errW_some] <;> rfl) | (simp [*, errW_none, errW_some] <;> rfl), by repeat (first | (with_reducible first | exact HB.out | apply below_alloc | apply pw_below_drewN | apply below_drew1 | refine below_set ?_ GE186.out) | exact HB.out)⟩
def rows_Good.f (a0_0 : Int) (a0_1 : Int) (a0_2 : Int) (a1 : Int) : Option (Bool) := if a0_2 < 0 then (some false) else (if a0_2 > 1048576 then (some false) else (if a0_1 < 1 then (some false) else (if a0_0 < 0 then (some false) else (if a0_2 = 0 then (some true) else (if a0_0 < a1 then (if a0_2 = 1 then (some true) else (if (wrap64 (a0_2 - 1)) = 0 then (none) else (some (decide (a0_1 ≤ (wrap64 (Int.tdiv (wrap64 ((wrap64 (a1 - 1)) - a0_0)) (wrap64 (a0_2 - 1))))))))) else (some false))))))
set_option maxHeartbeats 8000000 in
set_option maxRecDepth 100000 in
theorem rows_Good.calls (a0_0 : Int) (a0_1 : Int) (a0_2 : Int) (a1 : Int) (r : Bool) (w : World) (h : rows_Good.f a0_0 a0_1 a0_2 a1 = some r) :
    Calls Tryd.prog 36 #[.agg #[.int .i64 a0_0, .int .i64 a0_1, .int .i64 a0_2], .int .i64 a1] w fun e w' => e = .returned (.bool r) ∧ Below w.heap.size w w' := by
  have hu58 := Tryd.underlying58
  have HB := Aside0.mk (Below.refl w.heap.size w)
  have H : (if a0_2 < 0 then (some false) else (if a0_2 > 1048576 then (some false) else (if a0_1 < 1 then (some false) else (if a0_0 < 0 then (some false) else (if a0_2 = 0 then (some true) else (if a0_0 < a1 then (if a0_2 = 1 then (some true) else (if (wrap64 (a0_2 - 1)) = 0 then (none) else (some (decide (a0_1 ≤ (wrap64 (Int.tdiv (wrap64 ((wrap64 (a1 - 1)) - a0_0)) (wrap64 (a0_2 - 1))))))))) else (some false))))))) = some r := h
  clear h
  by_cases c3 : a0_2 < 0
  · rw [if_pos c3] at H
    have c3b0 : decide (a0_2 < 0) = true := decide_eq_true c3
    clear c3
    obtain rfl := Option.some.inj H
    go_enter Tryd.func36, Tryd.ntmps36
    go_wp2_with (first | ((with_reducible refine gate_dst (N := 2) rfl ?_); refine box_event ?hg (N := 2) ?hd (cs := #[.int .i64 a0_0, .int .i64 a0_1, .int .i64 a0_2]) (t := 58) ?hr ?_; (case hd => rfl); (case hg => rfl); (case hr => first | (go_simp; done) | (go_simp; rfl)); intro gb190 hg w4 hbox hb; have n0_ := Aside0.mk (below_step (by repeat (first | (with_reducible first | exact HB.out | apply below_alloc | apply pw_below_drewN | apply below_drew1) | exact HB.out)) hb); have n1_ := Aside0.mk (hbox); have n2_ := Aside0.mk ((by rw [hg]; exact (below_size (by repeat (first | (with_reducible first | exact HB.out | apply below_alloc | apply pw_below_drewN | apply below_drew1) | exact HB.out))) : w.heap.size ≤ gb190)); have n3_ := Aside0.mk ((by rw [hg]; exact (below_size (by repeat (first | (with_reducible first | exact HB.out | apply below_alloc | apply pw_below_drewN | apply below_drew1) | exact HB.out))) : w.heap.size ≤ gb190)); clear HB; have HB := n0_; have BK190 := n1_; have GW190 := n2_; have GE190 := n3_; clear n0_ n1_ n2_ n3_; clear hb hbox hg; have hcz5_0 : w4.cell? ⟨gb190, 0, none⟩ = some (.int .i64 a0_0) := (blk_cell BK190.out 0).trans rfl; have hcz5_1 : w4.cell? ⟨gb190, 1, none⟩ = some (.int .i64 a0_1) := (blk_cell BK190.out 1).trans rfl; have hcz5_2 : w4.cell? ⟨gb190, 2, none⟩ = some (.int .i64 a0_2) := (blk_cell BK190.out 2).trans rfl; have hfz5_0 := blk_frozen BK190.out 0; have hfz5_1 := blk_frozen BK190.out 1; have hfz5_2 := blk_frozen BK190.out 2))
    repeat (go_quiet (first | ((with_reducible refine gate_dst (N := 2) rfl ?_); refine box_event ?hg (N := 2) ?hd (cs := #[.int .i64 a0_0, .int .i64 a0_1, .int .i64 a0_2]) (t := 58) ?hr ?_; (case hd => rfl); (case hg => rfl); (case hr => first | (go_simp; done) | (go_simp; rfl)); intro gb190 hg w4 hbox hb; have n0_ := Aside0.mk (below_step (by repeat (first | (with_reducible first | exact HB.out | apply below_alloc | apply pw_below_drewN | apply below_drew1) | exact HB.out)) hb); have n1_ := Aside0.mk (hbox); have n2_ := Aside0.mk ((by rw [hg]; exact (below_size (by repeat (first | (with_reducible first | exact HB.out | apply below_alloc | apply pw_below_drewN | apply below_drew1) | exact HB.out))) : w.heap.size ≤ gb190)); have n3_ := Aside0.mk ((by rw [hg]; exact (below_size (by repeat (first | (with_reducible first | exact HB.out | apply below_alloc | apply pw_below_drewN | apply below_drew1) | exact HB.out))) : w.heap.size ≤ gb190)); clear HB; have HB := n0_; have BK190 := n1_; have GW190 := n2_; have GE190 := n3_; clear n0_ n1_ n2_ n3_; clear hb hbox hg; have hcz5_0 : w4.cell? ⟨gb190, 0, none⟩ = some (.int .i64 a0_0) := (blk_cell BK190.out 0).trans rfl; have hcz5_1 : w4.cell? ⟨gb190, 1, none⟩ = some (.int .i64 a0_1) := (blk_cell BK190.out 1).trans rfl; have hcz5_2 : w4.cell? ⟨gb190, 2, none⟩ = some (.int .i64 a0_2) := (blk_cell BK190.out 2).trans rfl; have hfz5_0 := blk_frozen BK190.out 0; have hfz5_1 := blk_frozen BK190.out 1; have hfz5_2 := blk_frozen BK190.out 2)); try go_wp2_with (first | ((with_reducible refine gate_dst (N := 2) rfl ?_); refine box_event ?hg (N := 2) ?hd (cs := #[.int .i64 a0_0, .int .i64 a0_1, .int .i64 a0_2]) (t := 58) ?hr ?_; (case hd => rfl); (case hg => rfl); (case hr => first | (go_simp; done) | (go_simp; rfl)); intro gb190 hg w4 hbox hb; have n0_ := Aside0.mk (below_step (by repeat (first | (with_reducible first | exact HB.out | apply below_alloc | apply pw_below_drewN | apply below_drew1) | exact HB.out)) hb); have n1_ := Aside0.mk (hbox); have n2_ := Aside0.mk ((by rw [hg]; exact (below_size (by repeat (first | (with_reducible first | exact HB.out | apply below_alloc | apply pw_below_drewN | apply below_drew1) | exact HB.out))) : w.heap.size ≤ gb190)); have n3_ := Aside0.mk ((by rw [hg]; exact (below_size (by repeat (first | (with_reducible first | exact HB.out | apply below_alloc | apply pw_below_drewN | apply below_drew1) | exact HB.out))) : w.heap.size ≤ gb190)); clear HB; have HB := n0_; have BK190 := n1_; have GW190 := n2_; have GE190 := n3_; clear n0_ n1_ n2_ n3_; clear hb hbox hg; have hcz5_0 : w4.cell? ⟨gb190, 0, none⟩ = some (.int .i64 a0_0) := (blk_cell BK190.out 0).trans rfl; have hcz5_1 : w4.cell? ⟨gb190, 1, none⟩ = some (.int .i64 a0_1) := (blk_cell BK190.out 1).trans rfl; have hcz5_2 : w4.cell? ⟨gb190, 2, none⟩ = some (.int .i64 a0_2) := (blk_cell BK190.out 2).trans rfl; have hfz5_0 := blk_frozen BK190.out 0; have hfz5_1 := blk_frozen BK190.out 1; have hfz5_2 := blk_frozen BK190.out 2)))
    go_ret
    exact ⟨by first | rfl | (simp [errW_none, errW_some] <;> rfl) | (simp [*, errW_none, errW_some] <;> rfl), by repeat (first | (with_reducible first | exact HB.out | apply below_alloc | apply pw_below_drewN | apply below_drew1 | refine below_set ?_ GE190.out) | exact HB.out)⟩
  · rw [if_neg c3] at H
    have c3b0 : decide (a0_2 < 0) = false := decide_eq_false c3
    clear c3
    by_cases c6 : a0_2 > 1048576
    · rw [if_pos c6] at H
      have c6b0 : decide (1048576 < a0_2) = true := decide_eq_true c6
      clear c6
      obtain rfl := Option.some.inj H
      go_enter Tryd.func36, Tryd.ntmps36
      go_wp2_with (first | ((with_reducible refine gate_dst (N := 2) rfl ?_); refine box_event ?hg (N := 2) ?hd (cs := #[.int .i64 a0_0, .int .i64 a0_1, .int .i64 a0_2]) (t := 58) ?hr ?_; (case hd => rfl); (case hg => rfl); (case hr => first | (go_simp; done) | (go_simp; rfl)); intro gb190 hg w7 hbox hb; have n0_ := Aside0.mk (below_step (by repeat (first | (with_reducible first | exact HB.out | apply below_alloc | apply pw_below_drewN | apply below_drew1) | exact HB.out)) hb); have n1_ := Aside0.mk (hbox); have n2_ := Aside0.mk ((by rw [hg]; exact (below_size (by repeat (first | (with_reducible first | exact HB.out | apply below_alloc | apply pw_below_drewN | apply below_drew1) | exact HB.out))) : w.heap.size ≤ gb190)); have n3_ := Aside0.mk ((by rw [hg]; exact (below_size (by repeat (first | (with_reducible first | exact HB.out | apply below_alloc | apply pw_below_drewN | apply below_drew1) | exact HB.out))) : w.heap.size ≤ gb190)); clear HB; have HB := n0_; have BK190 := n1_; have GW190 := n2_; have GE190 := n3_; clear n0_ n1_ n2_ n3_; clear hb hbox hg; have hcz8_0 : w7.cell? ⟨gb190, 0, none⟩ = some (.int .i64 a0_0) := (blk_cell BK190.out 0).trans rfl; have hcz8_1 : w7.cell? ⟨gb190, 1, none⟩ = some (.int .i64 a0_1) := (blk_cell BK190.out 1).trans rfl; have hcz8_2 : w7.cell? ⟨gb190, 2, none⟩ = some (.int .i64 a0_2) := (blk_cell BK190.out 2).trans rfl; have hfz8_0 := blk_frozen BK190.out 0; have hfz8_1 := blk_frozen BK190.out 1; have hfz8_2 := blk_frozen BK190.out 2))
      repeat (go_quiet (first | ((with_reducible refine gate_dst (N := 2) rfl ?_); refine box_event ?hg (N := 2) ?hd (cs := #[.int .i64 a0_0, .int .i64 a0_1, .int .i64 a0_2]) (t := 58) ?hr ?_; (case hd => rfl); (case hg => rfl); (case hr => first | (go_simp; done) | (go_simp; rfl)); intro gb190 hg w7 hbox hb; have n0_ := Aside0.mk (below_step (by repeat (first | (with_reducible first | exact HB.out | apply below_alloc | apply pw_below_drewN | apply below_drew1) | exact HB.out)) hb); have n1_ := Aside0.mk (hbox); have n2_ := Aside0.mk ((by rw [hg]; exact (below_size (by repeat (first | (with_reducible first | exact HB.out | apply below_alloc | apply pw_below_drewN | apply below_drew1) | exact HB.out))) : w.heap.size ≤ gb190)); have n3_ := Aside0.mk ((by rw [hg]; exact (below_size (by repeat (first | (with_reducible first | exact HB.out | apply below_alloc | apply pw_below_drewN | apply below_drew1) | exact HB.out))) : w.heap.size ≤ gb190)); clear HB; have HB := n0_; have BK190 := n1_; have GW190 := n2_; have GE190 := n3_; clear n0_ n1_ n2_ n3_; clear hb hbox hg; have hcz8_0 : w7.cell? ⟨gb190, 0, none⟩ = some (.int .i64 a0_0) := (blk_cell BK190.out 0).trans rfl; have hcz8_1 : w7.cell? ⟨gb190, 1, none⟩ = some (.int .i64 a0_1) := (blk_cell BK190.out 1).trans rfl; have hcz8_2 : w7.cell? ⟨gb190, 2, none⟩ = some (.int .i64 a0_2) := (blk_cell BK190.out 2).trans rfl; have hfz8_0 := blk_frozen BK190.out 0; have hfz8_1 := blk_frozen BK190.out 1; have hfz8_2 := blk_frozen BK190.out 2)); try go_wp2_with (first | ((with_reducible refine gate_dst (N := 2) rfl ?_); refine box_event ?hg (N := 2) ?hd (cs := #[.int .i64 a0_0, .int .i64 a0_1, .int .i64 a0_2]) (t := 58) ?hr ?_; (case hd => rfl); (case hg => rfl); (case hr => first | (go_simp; done) | (go_simp; rfl)); intro gb190 hg w7 hbox hb; have n0_ := Aside0.mk (below_step (by repeat (first | (with_reducible first | exact HB.out | apply below_alloc | apply pw_below_drewN | apply below_drew1) | exact HB.out)) hb); have n1_ := Aside0.mk (hbox); have n2_ := Aside0.mk ((by rw [hg]; exact (below_size (by repeat (first | (with_reducible first | exact HB.out | apply below_alloc | apply pw_below_drewN | apply below_drew1) | exact HB.out))) : w.heap.size ≤ gb190)); have n3_ := Aside0.mk ((by rw [hg]; exact (below_size (by repeat (first | (with_reducible first | exact HB.out | apply below_alloc | apply pw_below_drewN | apply below_drew1) | exact HB.out))) : w.heap.size ≤ gb190)); clear HB; have HB := n0_; have BK190 := n1_; have GW190 := n2_; have GE190 := n3_; clear n0_ n1_ n2_ n3_; clear hb hbox hg; have hcz8_0 : w7.cell? ⟨gb190, 0, none⟩ = some (.int .i64 a0_0) := (blk_cell BK190.out 0).trans rfl; have hcz8_1 : w7.cell? ⟨gb190, 1, none⟩ = some (.int .i64 a0_1) := (blk_cell BK190.out 1).trans rfl; have hcz8_2 : w7.cell? ⟨gb190, 2, none⟩ = some (.int .i64 a0_2) := (blk_cell BK190.out 2).trans rfl; have hfz8_0 := blk_frozen BK190.out 0; have hfz8_1 := blk_frozen BK190.out 1; have hfz8_2 := blk_frozen BK190.out 2)))
      go_ret
      exact ⟨by first | rfl | (simp [errW_none, errW_some] <;> rfl) | (simp [*, errW_none, errW_some] <;> rfl), by repeat (first | (with_reducible first | exact HB.out | apply below_alloc | apply pw_below_drewN | apply below_drew1 | refine below_set ?_ GE190.out) | exact HB.out)⟩
    · rw [if_neg c6] at H
      have c6b0 : decide (1048576 < a0_2) = false := decide_eq_false c6
      clear c6
      by_cases c9 : a0_1 < 1
      · rw [if_pos c9] at H
        have c9b0 : decide (a0_1 < 1) = true := decide_eq_true c9
        clear c9
        obtain rfl := Option.some.inj H
        go_enter Tryd.func36, Tryd.ntmps36
        go_wp2_with (first | ((with_reducible refine gate_dst (N := 2) rfl ?_); refine box_event ?hg (N := 2) ?hd (cs := #[.int .i64 a0_0, .int .i64 a0_1, .int .i64 a0_2]) (t := 58) ?hr ?_; (case hd => rfl); (case hg => rfl); (case hr => first | (go_simp; done) | (go_simp; rfl)); intro gb190 hg w10 hbox hb; have n0_ := Aside0.mk (below_step (by repeat (first | (with_reducible first | exact HB.out | apply below_alloc | apply pw_below_drewN | apply below_drew1) | exact HB.out)) hb); have n1_ := Aside0.mk (hbox); have n2_ := Aside0.mk ((by rw [hg]; exact (below_size (by repeat (first | (with_reducible first | exact HB.out | apply below_alloc | apply pw_below_drewN | apply below_drew1) | exact HB.out))) : w.heap.size ≤ gb190)); have n3_ := Aside0.mk ((by rw [hg]; exact (below_size (by repeat (first | (with_reducible first | exact HB.out | apply below_alloc | apply pw_below_drewN | apply below_drew1) | exact HB.out))) : w.heap.size ≤ gb190)); clear HB; have HB := n0_; have BK190 := n1_; have GW190 := n2_; have GE190 := n3_; clear n0_ n1_ n2_ n3_; clear hb hbox hg; have hcz11_0 : w10.cell? ⟨gb190, 0, none⟩ = some (.int .i64 a0_0) := (blk_cell BK190.out 0).trans rfl; have hcz11_1 : w10.cell? ⟨gb190, 1, none⟩ = some (.int .i64 a0_1) := (blk_cell BK190.out 1).trans rfl; have hcz11_2 : w10.cell? ⟨gb190, 2, none⟩ = some (.int .i64 a0_2) := (blk_cell BK190.out 2).trans rfl; have hfz11_0 := blk_frozen BK190.out 0; have hfz11_1 := blk_frozen BK190.out 1; have hfz11_2 := blk_frozen BK190.out 2))
        repeat (go_quiet (first | ((with_reducible refine gate_dst (N := 2) rfl ?_); refine box_event ?hg (N := 2) ?hd (cs := #[.int .i64 a0_0, .int .i64 a0_1, .int .i64 a0_2]) (t := 58) ?hr ?_; (case hd => rfl); (case hg => rfl); (case hr => first | (go_simp; done) | (go_simp; rfl)); intro gb190 hg w10 hbox hb; have n0_ := Aside0.mk (below_step (by repeat (first | (with_reducible first | exact HB.out | apply below_alloc | apply pw_below_drewN | apply below_drew1) | exact HB.out)) hb); have n1_ := Aside0.mk (hbox); have n2_ := Aside0.mk ((by rw [hg]; exact (below_size (by repeat (first | (with_reducible first | exact HB.out | apply below_alloc | apply pw_below_drewN | apply below_drew1) | exact HB.out))) : w.heap.size ≤ gb190)); have n3_ := Aside0.mk ((by rw [hg]; exact (below_size (by repeat (first | (with_reducible first | exact HB.out | apply below_alloc | apply pw_below_drewN | apply below_drew1) | exact HB.out))) : w.heap.size ≤ gb190)); clear HB; have HB := n0_; have BK190 := n1_; have GW190 := n2_; have GE190 := n3_; clear n0_ n1_ n2_ n3_; clear hb hbox hg; have hcz11_0 : w10.cell? ⟨gb190, 0, none⟩ = some (.int .i64 a0_0) := (blk_cell BK190.out 0).trans rfl; have hcz11_1 : w10.cell? ⟨gb190, 1, none⟩ = some (.int .i64 a0_1) := (blk_cell BK190.out 1).trans rfl; have hcz11_2 : w10.cell? ⟨gb190, 2, none⟩ = some (.int .i64 a0_2) := (blk_cell BK190.out 2).trans rfl; have hfz11_0 := blk_frozen BK190.out 0; have hfz11_1 := blk_frozen BK190.out 1; have hfz11_2 := blk_frozen BK190.out 2)); try go_wp2_with (first | ((with_reducible refine gate_dst (N := 2) rfl ?_); refine box_event ?hg (N := 2) ?hd (cs := #[.int .i64 a0_0, .int .i64 a0_1, .int .i64 a0_2]) (t := 58) ?hr ?_; (case hd => rfl); (case hg => rfl); (case hr => first | (go_simp; done) | (go_simp; rfl)); intro gb190 hg w10 hbox hb; have n0_ := Aside0.mk (below_step (by repeat (first | (with_reducible first | exact HB.out | apply below_alloc | apply pw_below_drewN | apply below_drew1) | exact HB.out)) hb); have n1_ := Aside0.mk (hbox); have n2_ := Aside0.mk ((by rw [hg]; exact (below_size (by repeat (first | (with_reducible first | exact HB.out | apply below_alloc | apply pw_below_drewN | apply below_drew1) | exact HB.out))) : w.heap.size ≤ gb190)); have n3_ := Aside0.mk ((by rw [hg]; exact (below_size (by repeat (first | (with_reducible first | exact HB.out | apply below_alloc | apply pw_below_drewN | apply below_drew1) | exact HB.out))) : w.heap.size ≤ gb190)); clear HB; have HB := n0_; have BK190 := n1_; have GW190 := n2_; have GE190 := n3_; clear n0_ n1_ n2_ n3_; clear hb hbox hg; have hcz11_0 : w10.cell? ⟨gb190, 0, none⟩ = some (.int .i64 a0_0) := (blk_cell BK190.out 0).trans rfl; have hcz11_1 : w10.cell? ⟨gb190, 1, none⟩ = some (.int .i64 a0_1) := (blk_cell BK190.out 1).trans rfl; have hcz11_2 : w10.cell? ⟨gb190, 2, none⟩ = some (.int .i64 a0_2) := (blk_cell BK190.out 2).trans rfl; have hfz11_0 := blk_frozen BK190.out 0; have hfz11_1 := blk_frozen BK190.out 1; have hfz11_2 := blk_frozen BK190.out 2)))
        go_ret
        exact ⟨by first | rfl | (simp [errW_none, errW_some] <;> rfl) | (simp [*, errW_none, errW_some] <;> rfl), by repeat (first | (with_reducible first | exact HB.out | apply below_alloc | apply pw_below_drewN | apply below_drew1 | refine below_set ?_ GE190.out) | exact HB.out)⟩
      · rw [if_neg c9] at H
        have c9b0 : decide (a0_1 < 1) = false := decide_eq_false c9
        clear c9
        by_cases c12 : a0_0 < 0
        · rw [if_pos c12] at H
          have c12b0 : decide (a0_0 < 0) = true := decide_eq_true c12
          clear c12
          obtain rfl := Option.some.inj H
          go_enter Tryd.func36, Tryd.ntmps36
          go_wp2_with (first | ((with_reducible refine gate_dst (N := 2) rfl ?_); refine box_event ?hg (N := 2) ?hd (cs := #[.int .i64 a0_0, .int .i64 a0_1, .int .i64 a0_2]) (t := 58) ?hr ?_; (case hd => rfl); (case hg => rfl); (case hr => first | (go_simp; done) | (go_simp; rfl)); intro gb190 hg w13 hbox hb; have n0_ := Aside0.mk (below_step (by repeat (first | (with_reducible first | exact HB.out | apply below_alloc | apply pw_below_drewN | apply below_drew1) | exact HB.out)) hb); have n1_ := Aside0.mk (hbox); have n2_ := Aside0.mk ((by rw [hg]; exact (below_size (by repeat (first | (with_reducible first | exact HB.out | apply below_alloc | apply pw_below_drewN | apply below_drew1) | exact HB.out))) : w.heap.size ≤ gb190)); have n3_ := Aside0.mk ((by rw [hg]; exact (below_size (by repeat (first | (with_reducible first | exact HB.out | apply below_alloc | apply pw_below_drewN | apply below_drew1) | exact HB.out))) : w.heap.size ≤ gb190)); clear HB; have HB := n0_; have BK190 := n1_; have GW190 := n2_; have GE190 := n3_; clear n0_ n1_ n2_ n3_; clear hb hbox hg; have hcz14_0 : w13.cell? ⟨gb190, 0, none⟩ = some (.int .i64 a0_0) := (blk_cell BK190.out 0).trans rfl; have hcz14_1 : w13.cell? ⟨gb190, 1, none⟩ = some (.int .i64 a0_1) := (blk_cell BK190.out 1).trans rfl; have hcz14_2 : w13.cell? ⟨gb190, 2, none⟩ = some (.int .i64 a0_2) := (blk_cell BK190.out 2).trans rfl; have hfz14_0 := blk_frozen BK190.out 0; have hfz14_1 := blk_frozen BK190.out 1; have hfz14_2 := blk_frozen BK190.out 2))
          repeat (go_quiet (first | ((with_reducible refine gate_dst (N := 2) rfl ?_); refine box_event ?hg (N := 2) ?hd (cs := #[.int .i64 a0_0, .int .i64 a0_1, .int .i64 a0_2]) (t := 58) ?hr ?_; (case hd => rfl); (case hg => rfl); (case hr => first | (go_simp; done) | (go_simp; rfl)); intro gb190 hg w13 hbox hb; have n0_ := Aside0.mk (below_step (by repeat (first | (with_reducible first | exact HB.out | apply below_alloc | apply pw_below_drewN | apply below_drew1) | exact HB.out)) hb); have n1_ := Aside0.mk (hbox); have n2_ := Aside0.mk ((by rw [hg]; exact (below_size (by repeat (first | (with_reducible first | exact HB.out | apply below_alloc | apply pw_below_drewN | apply below_drew1) | exact HB.out))) : w.heap.size ≤ gb190)); have n3_ := Aside0.mk ((by rw [hg]; exact (below_size (by repeat (first | (with_reducible first | exact HB.out | apply below_alloc | apply pw_below_drewN | apply below_drew1) | exact HB.out))) : w.heap.size ≤ gb190)); clear HB; have HB := n0_; have BK190 := n1_; have GW190 := n2_; have GE190 := n3_; clear n0_ n1_ n2_ n3_; clear hb hbox hg; have hcz14_0 : w13.cell? ⟨gb190, 0, none⟩ = some (.int .i64 a0_0) := (blk_cell BK190.out 0).trans rfl; have hcz14_1 : w13.cell? ⟨gb190, 1, none⟩ = some (.int .i64 a0_1) := (blk_cell BK190.out 1).trans rfl; have hcz14_2 : w13.cell? ⟨gb190, 2, none⟩ = some (.int .i64 a0_2) := (blk_cell BK190.out 2).trans rfl; have hfz14_0 := blk_frozen BK190.out 0; have hfz14_1 := blk_frozen BK190.out 1; have hfz14_2 := blk_frozen BK190.out 2)); try go_wp2_with (first | ((with_reducible refine gate_dst (N := 2) rfl ?_); refine box_event ?hg (N := 2) ?hd (cs := #[.int .i64 a0_0, .int .i64 a0_1, .int .i64 a0_2]) (t := 58) ?hr ?_; (case hd => rfl); (case hg => rfl); (case hr => first | (go_simp; done) | (go_simp; rfl)); intro gb190 hg w13 hbox hb; have n0_ := Aside0.mk (below_step (by repeat (first | (with_reducible first | exact HB.out | apply below_alloc | apply pw_below_drewN | apply below_drew1) | exact HB.out)) hb); have n1_ := Aside0.mk (hbox); have n2_ := Aside0.mk ((by rw [hg]; exact (below_size (by repeat (first | (with_reducible first | exact HB.out | apply below_alloc | apply pw_below_drewN | apply below_drew1) | exact HB.out))) : w.heap.size ≤ gb190)); have n3_ := Aside0.mk ((by rw [hg]; exact (below_size (by repeat (first | (with_reducible first | exact HB.out | apply below_alloc | apply pw_below_drewN | apply below_drew1) | exact HB.out))) : w.heap.size ≤ gb190)); clear HB; have HB := n0_; have BK190 := n1_; have GW190 := n2_; have GE190 := n3_; clear n0_ n1_ n2_ n3_; clear hb hbox hg; have hcz14_0 : w13.cell? ⟨gb190, 0, none⟩ = some (.int .i64 a0_0) := (blk_cell BK190.out 0).trans rfl; have hcz14_1 : w13.cell? ⟨gb190, 1, none⟩ = some (.int .i64 a0_1) := (blk_cell BK190.out 1).trans rfl; have hcz14_2 : w13.cell? ⟨gb190, 2, none⟩ = some (.int .i64 a0_2) := (blk_cell BK190.out 2).trans rfl; have hfz14_0 := blk_frozen BK190.out 0; have hfz14_1 := blk_frozen BK190.out 1; have hfz14_2 := blk_frozen BK190.out 2)))
          go_ret
          exact ⟨by first | rfl | (simp [errW_none, errW_some] <;> rfl) | (simp [*, errW_none, errW_some] <;> rfl), by repeat (first | (with_reducible first | exact HB.out | apply below_alloc | apply pw_below_drewN | apply below_drew1 | refine below_set ?_ GE190.out) | exact HB.out)⟩
        · rw [if_neg c12] at H
          have c12b0 : decide (a0_0 < 0) = false := decide_eq_false c12
          clear c12
          by_cases c15 : a0_2 = 0
          · rw [if_pos c15] at H
            have c15b0 : (a0_2 == 0) = true := beq_iff_eq.mpr c15
            have c15b1 : (a0_2 != 0) = false := bne_eq_false_iff_eq.mpr c15
            clear c15
            obtain rfl := Option.some.inj H
            go_enter Tryd.func36, Tryd.ntmps36
            go_wp2_with (first | ((with_reducible refine gate_dst (N := 2) rfl ?_); refine box_event ?hg (N := 2) ?hd (cs := #[.int .i64 a0_0, .int .i64 a0_1, .int .i64 a0_2]) (t := 58) ?hr ?_; (case hd => rfl); (case hg => rfl); (case hr => first | (go_simp; done) | (go_simp; rfl)); intro gb190 hg w16 hbox hb; have n0_ := Aside0.mk (below_step (by repeat (first | (with_reducible first | exact HB.out | apply below_alloc | apply pw_below_drewN | apply below_drew1) | exact HB.out)) hb); have n1_ := Aside0.mk (hbox); have n2_ := Aside0.mk ((by rw [hg]; exact (below_size (by repeat (first | (with_reducible first | exact HB.out | apply below_alloc | apply pw_below_drewN | apply below_drew1) | exact HB.out))) : w.heap.size ≤ gb190)); have n3_ := Aside0.mk ((by rw [hg]; exact (below_size (by repeat (first | (with_reducible first | exact HB.out | apply below_alloc | apply pw_below_drewN | apply below_drew1) | exact HB.out))) : w.heap.size ≤ gb190)); clear HB; have HB := n0_; have BK190 := n1_; have GW190 := n2_; have GE190 := n3_; clear n0_ n1_ n2_ n3_; clear hb hbox hg; have hcz17_0 : w16.cell? ⟨gb190, 0, none⟩ = some (.int .i64 a0_0) := (blk_cell BK190.out 0).trans rfl; have hcz17_1 : w16.cell? ⟨gb190, 1, none⟩ = some (.int .i64 a0_1) := (blk_cell BK190.out 1).trans rfl; have hcz17_2 : w16.cell? ⟨gb190, 2, none⟩ = some (.int .i64 a0_2) := (blk_cell BK190.out 2).trans rfl; have hfz17_0 := blk_frozen BK190.out 0; have hfz17_1 := blk_frozen BK190.out 1; have hfz17_2 := blk_frozen BK190.out 2))
            repeat (go_quiet (first | ((with_reducible refine gate_dst (N := 2) rfl ?_); refine box_event ?hg (N := 2) ?hd (cs := #[.int .i64 a0_0, .int .i64 a0_1, .int .i64 a0_2]) (t := 58) ?hr ?_; (case hd => rfl); (case hg => rfl); (case hr => first | (go_simp; done) | (go_simp; rfl)); intro gb190 hg w16 hbox hb; have n0_ := Aside0.mk (below_step (by repeat (first | (with_reducible first | exact HB.out | apply below_alloc | apply pw_below_drewN | apply below_drew1) | exact HB.out)) hb); have n1_ := Aside0.mk (hbox); have n2_ := Aside0.mk ((by rw [hg]; exact (below_size (by repeat (first | (with_reducible first | exact HB.out | apply below_alloc | apply pw_below_drewN | apply below_drew1) | exact HB.out))) : w.heap.size ≤ gb190)); have n3_ := Aside0.mk ((by rw [hg]; exact (below_size (by repeat (first | (with_reducible first | exact HB.out | apply below_alloc | apply pw_below_drewN | apply below_drew1) | exact HB.out))) : w.heap.size ≤ gb190)); clear HB; have HB := n0_; have BK190 := n1_; have GW190 := n2_; have GE190 := n3_; clear n0_ n1_ n2_ n3_; clear hb hbox hg; have hcz17_0 : w16.cell? ⟨gb190, 0, none⟩ = some (.int .i64 a0_0) := (blk_cell BK190.out 0).trans rfl; have hcz17_1 : w16.cell? ⟨gb190, 1, none⟩ = some (.int .i64 a0_1) := (blk_cell BK190.out 1).trans rfl; have hcz17_2 : w16.cell? ⟨gb190, 2, none⟩ = some (.int .i64 a0_2) := (blk_cell BK190.out 2).trans rfl; have hfz17_0 := blk_frozen BK190.out 0; have hfz17_1 := blk_frozen BK190.out 1; have hfz17_2 := blk_frozen BK190.out 2)); try go_wp2_with (first | ((with_reducible refine gate_dst (N := 2) rfl ?_); refine box_event ?hg (N := 2) ?hd (cs := #[.int .i64 a0_0, .int .i64 a0_1, .int .i64 a0_2]) (t := 58) ?hr ?_; (case hd => rfl); (case hg => rfl); (case hr => first | (go_simp; done) | (go_simp; rfl)); intro gb190 hg w16 hbox hb; have n0_ := Aside0.mk (below_step (by repeat (first | (with_reducible first | exact HB.out | apply below_alloc | apply pw_below_drewN | apply below_drew1) | exact HB.out)) hb); have n1_ := Aside0.mk (hbox); have n2_ := Aside0.mk ((by rw [hg]; exact (below_size (by repeat (first | (with_reducible first | exact HB.out | apply below_alloc | apply pw_below_drewN | apply below_drew1) | exact HB.out))) : w.heap.size ≤ gb190)); have n3_ := Aside0.mk ((by rw [hg]; exact (below_size (by repeat (first | (with_reducible first | exact HB.out | apply below_alloc | apply pw_below_drewN | apply below_drew1) | exact HB.out))) : w.heap.size ≤ gb190)); clear HB; have HB := n0_; have BK190 := n1_; have GW190 := n2_; have GE190 := n3_; clear n0_ n1_ n2_ n3_; clear hb hbox hg; have hcz17_0 : w16.cell? ⟨gb190, 0, none⟩ = some (.int .i64 a0_0) := (blk_cell BK190.out 0).trans rfl; have hcz17_1 : w16.cell? ⟨gb190, 1, none⟩ = some (.int .i64 a0_1) := (blk_cell BK190.out 1).trans rfl; have hcz17_2 : w16.cell? ⟨gb190, 2, none⟩ = some (.int .i64 a0_2) := (blk_cell BK190.out 2).trans rfl; have hfz17_0 := blk_frozen BK190.out 0; have hfz17_1 := blk_frozen BK190.out 1; have hfz17_2 := blk_frozen BK190.out 2)))
            go_ret
            exact ⟨by first | rfl | (simp [errW_none, errW_some] <;> rfl) | (simp [*, errW_none, errW_some] <;> rfl), by repeat (first | (with_reducible first | exact HB.out | apply below_alloc | apply pw_below_drewN | apply below_drew1 | refine below_set ?_ GE190.out) | exact HB.out)⟩
          · rw [if_neg c15] at H
            have c15b0 : (a0_2 == 0) = false := beq_eq_false_iff_ne.mpr c15
            have c15b1 : (a0_2 != 0) = true := bne_iff_ne.mpr c15
            by_cases c18 : a0_0 < a1
            · rw [if_pos c18] at H
              have c18b0 : decide (a0_0 < a1) = true := decide_eq_true c18
              clear c18
              by_cases c19 : a0_2 = 1
              · rw [if_pos c19] at H
                have c19b0 : (a0_2 == 1) = true := beq_iff_eq.mpr c19
                have c19b1 : (a0_2 != 1) = false := bne_eq_false_iff_eq.mpr c19
                clear c19
                obtain rfl := Option.some.inj H
                go_enter Tryd.func36, Tryd.ntmps36
                go_wp2_with (first | ((with_reducible refine gate_dst (N := 2) rfl ?_); refine box_event ?hg (N := 2) ?hd (cs := #[.int .i64 a0_0, .int .i64 a0_1, .int .i64 a0_2]) (t := 58) ?hr ?_; (case hd => rfl); (case hg => rfl); (case hr => first | (go_simp; done) | (go_simp; rfl)); intro gb190 hg w20 hbox hb; have n0_ := Aside0.mk (below_step (by repeat (first | (with_reducible first | exact HB.out | apply below_alloc | apply pw_below_drewN | apply below_drew1) | exact HB.out)) hb); have n1_ := Aside0.mk (hbox); have n2_ := Aside0.mk ((by rw [hg]; exact (below_size (by repeat (first | (with_reducible first | exact HB.out | apply below_alloc | apply pw_below_drewN | apply below_drew1) | exact HB.out))) : w.heap.size ≤ gb190)); have n3_ := Aside0.mk ((by rw [hg]; exact (below_size (by repeat (first | (with_reducible first | exact HB.out | apply below_alloc | apply pw_below_drewN | apply below_drew1) | exact HB.out))) : w.heap.size ≤ gb190)); clear HB; have HB := n0_; have BK190 := n1_; have GW190 := n2_; have GE190 := n3_; clear n0_ n1_ n2_ n3_; clear hb hbox hg; have hcz21_0 : w20.cell? ⟨gb190, 0, none⟩ = some (.int .i64 a0_0) := (blk_cell BK190.out 0).trans rfl; have hcz21_1 : w20.cell? ⟨gb190, 1, none⟩ = some (.int .i64 a0_1) := (blk_cell BK190.out 1).trans rfl; have hcz21_2 : w20.cell? ⟨gb190, 2, none⟩ = some (.int .i64 a0_2) := (blk_cell BK190.out 2).trans rfl; have hfz21_0 := blk_frozen BK190.out 0; have hfz21_1 := blk_frozen BK190.out 1; have hfz21_2 := blk_frozen BK190.out 2))
                repeat (go_quiet (first | ((with_reducible refine gate_dst (N := 2) rfl ?_); refine box_event ?hg (N := 2) ?hd (cs := #[.int .i64 a0_0, .int .i64 a0_1, .int .i64 a0_2]) (t := 58) ?hr ?_; (case hd => rfl); (case hg => rfl); (case hr => first | (go_simp; done) | (go_simp; rfl)); intro gb190 hg w20 hbox hb; have n0_ := Aside0.mk (below_step (by repeat (first | (with_reducible first | exact HB.out | apply below_alloc | apply pw_below_drewN | apply below_drew1) | exact HB.out)) hb); have n1_ := Aside0.mk (hbox); have n2_ := Aside0.mk ((by rw [hg]; exact (below_size (by repeat (first | (with_reducible first | exact HB.out | apply below_alloc | apply pw_below_drewN | apply below_drew1) | exact HB.out))) : w.heap.size ≤ gb190)); have n3_ := Aside0.mk ((by rw [hg]; exact (below_size (by repeat (first | (with_reducible first | exact HB.out | apply below_alloc | apply pw_below_drewN | apply below_drew1) | exact HB.out))) : w.heap.size ≤ gb190)); clear HB; have HB := n0_; have BK190 := n1_; have GW190 := n2_; have GE190 := n3_; clear n0_ n1_ n2_ n3_; clear hb hbox hg; have hcz21_0 : w20.cell? ⟨gb190, 0, none⟩ = some (.int .i64 a0_0) := (blk_cell BK190.out 0).trans rfl; have hcz21_1 : w20.cell? ⟨gb190, 1, none⟩ = some (.int .i64 a0_1) := (blk_cell BK190.out 1).trans rfl; have hcz21_2 : w20.cell? ⟨gb190, 2, none⟩ = some (.int .i64 a0_2) := (blk_cell BK190.out 2).trans rfl; have hfz21_0 := blk_frozen BK190.out 0; have hfz21_1 := blk_frozen BK190.out 1; have hfz21_2 := blk_frozen BK190.out 2)); try go_wp2_with (first | ((with_reducible refine gate_dst (N := 2) rfl ?_); refine box_event ?hg (N := 2) ?hd (cs := #[.int .i64 a0_0, .int .i64 a0_1, .int .i64 a0_2]) (t := 58) ?hr ?_; (case hd => rfl); (case hg => rfl); (case hr => first | (go_simp; done) | (go_simp; rfl)); intro gb190 hg w20 hbox hb; have n0_ := Aside0.mk (below_step (by repeat (first | (with_reducible first | exact HB.out | apply below_alloc | apply pw_below_drewN | apply below_drew1) | exact HB.out)) hb); have n1_ := Aside0.mk (hbox); have n2_ := Aside0.mk ((by rw [hg]; exact (below_size (by repeat (first | (with_reducible first | exact HB.out | apply below_alloc | apply pw_below_drewN | apply below_drew1) | exact HB.out))) : w.heap.size ≤ gb190)); have n3_ := Aside0.mk ((by rw [hg]; exact (below_size (by repeat (first | (with_reducible first | exact HB.out | apply below_alloc | apply pw_below_drewN | apply below_drew1) | exact HB.out))) : w.heap.size ≤ gb190)); clear HB; have HB := n0_; have BK190 := n1_; have GW190 := n2_; have GE190 := n3_; clear n0_ n1_ n2_ n3_; clear hb hbox hg; have hcz21_0 : w20.cell? ⟨gb190, 0, none⟩ = some (.int .i64 a0_0) := (blk_cell BK190.out 0).trans rfl; have hcz21_1 : w20.cell? ⟨gb190, 1, none⟩ = some (.int .i64 a0_1) := (blk_cell BK190.out 1).trans rfl; have hcz21_2 : w20.cell? ⟨gb190, 2, none⟩ = some (.int .i64 a0_2) := (blk_cell BK190.out 2).trans rfl; have hfz21_0 := blk_frozen BK190.out 0; have hfz21_1 := blk_frozen BK190.out 1; have hfz21_2 := blk_frozen BK190.out 2)))
                go_ret
                exact ⟨by first | rfl | (simp [errW_none, errW_some] <;> rfl) | (simp [*, errW_none, errW_some] <;> rfl), by repeat (first | (with_reducible first | exact HB.out | apply below_alloc | apply pw_below_drewN | apply below_drew1 | refine below_set ?_ GE190.out) | exact HB.out)⟩
              · rw [if_neg c19] at H
                have c19b0 : (a0_2 == 1) = false := beq_eq_false_iff_ne.mpr c19
                have c19b1 : (a0_2 != 1) = true := bne_iff_ne.mpr c19
                by_cases c22 : (wrap64 (a0_2 - 1)) = 0
                · rw [if_pos c22] at H
                  exact absurd H (by simp)
                · rw [if_neg c22] at H
                  have c22b0 : ((wrap64 (a0_2 - 1)) == 0) = false := beq_eq_false_iff_ne.mpr c22
                  have c22b1 : ((wrap64 (a0_2 - 1)) != 0) = true := bne_iff_ne.mpr c22
                  obtain rfl := Option.some.inj H
                  go_enter Tryd.func36, Tryd.ntmps36
                  go_wp2_with (first | ((with_reducible refine gate_dst (N := 2) rfl ?_); refine box_event ?hg (N := 2) ?hd (cs := #[.int .i64 a0_0, .int .i64 a0_1, .int .i64 a0_2]) (t := 58) ?hr ?_; (case hd => rfl); (case hg => rfl); (case hr => first | (go_simp; done) | (go_simp; rfl)); intro gb190 hg w23 hbox hb; have n0_ := Aside0.mk (below_step (by repeat (first | (with_reducible first | exact HB.out | apply below_alloc | apply pw_below_drewN | apply below_drew1) | exact HB.out)) hb); have n1_ := Aside0.mk (hbox); have n2_ := Aside0.mk ((by rw [hg]; exact (below_size (by repeat (first | (with_reducible first | exact HB.out | apply below_alloc | apply pw_below_drewN | apply below_drew1) | exact HB.out))) : w.heap.size ≤ gb190)); have n3_ := Aside0.mk ((by rw [hg]; exact (below_size (by repeat (first | (with_reducible first | exact HB.out | apply below_alloc | apply pw_below_drewN | apply below_drew1) | exact HB.out))) : w.heap.size ≤ gb190)); clear HB; have HB := n0_; have BK190 := n1_; have GW190 := n2_; have GE190 := n3_; clear n0_ n1_ n2_ n3_; clear hb hbox hg; have hcz24_0 : w23.cell? ⟨gb190, 0, none⟩ = some (.int .i64 a0_0) := (blk_cell BK190.out 0).trans rfl; have hcz24_1 : w23.cell? ⟨gb190, 1, none⟩ = some (.int .i64 a0_1) := (blk_cell BK190.out 1).trans rfl; have hcz24_2 : w23.cell? ⟨gb190, 2, none⟩ = some (.int .i64 a0_2) := (blk_cell BK190.out 2).trans rfl; have hfz24_0 := blk_frozen BK190.out 0; have hfz24_1 := blk_frozen BK190.out 1; have hfz24_2 := blk_frozen BK190.out 2))
                  repeat (go_quiet (first | ((with_reducible refine gate_dst (N := 2) rfl ?_); refine box_event ?hg (N := 2) ?hd (cs := #[.int .i64 a0_0, .int .i64 a0_1, .int .i64 a0_2]) (t := 58) ?hr ?_; (case hd => rfl); (case hg => rfl); (case hr => first | (go_simp; done) | (go_simp; rfl)); intro gb190 hg w23 hbox hb; have n0_ := Aside0.mk (below_step (by repeat (first | (with_reducible first | exact HB.out | apply below_alloc | apply pw_below_drewN | apply below_drew1) | exact HB.out)) hb); have n1_ := Aside0.mk (hbox); have n2_ := Aside0.mk ((by rw [hg]; exact (below_size (by repeat (first | (with_reducible first | exact HB.out | apply below_alloc | apply pw_below_drewN | apply below_drew1) | exact HB.out))) : w.heap.size ≤ gb190)); have n3_ := Aside0.mk ((by rw [hg]; exact (below_size (by repeat (first | (with_reducible first | exact HB.out | apply below_alloc | apply pw_below_drewN | apply below_drew1) | exact HB.out))) : w.heap.size ≤ gb190)); clear HB; have HB := n0_; have BK190 := n1_; have GW190 := n2_; have GE190 := n3_; clear n0_ n1_ n2_ n3_; clear hb hbox hg; have hcz24_0 : w23.cell? ⟨gb190, 0, none⟩ = some (.int .i64 a0_0) := (blk_cell BK190.out 0).trans rfl; have hcz24_1 : w23.cell? ⟨gb190, 1, none⟩ = some (.int .i64 a0_1) := (blk_cell BK190.out 1).trans rfl; have hcz24_2 : w23.cell? ⟨gb190, 2, none⟩ = some (.int .i64 a0_2) := (blk_cell BK190.out 2).trans rfl; have hfz24_0 := blk_frozen BK190.out 0; have hfz24_1 := blk_frozen BK190.out 1; have hfz24_2 := blk_frozen BK190.out 2)); try go_wp2_with (first | ((with_reducible refine gate_dst (N := 2) rfl ?_); refine box_event ?hg (N := 2) ?hd (cs := #[.int .i64 a0_0, .int .i64 a0_1, .int .i64 a0_2]) (t := 58) ?hr ?_; (case hd => rfl); (case hg => rfl); (case hr => first | (go_simp; done) | (go_simp; rfl)); intro gb190 hg w23 hbox hb; have n0_ := Aside0.mk (below_step (by repeat (first | (with_reducible first | exact HB.out | apply below_alloc | apply pw_below_drewN | apply below_drew1) | exact HB.out)) hb); have n1_ := Aside0.mk (hbox); have n2_ := Aside0.mk ((by rw [hg]; exact (below_size (by repeat (first | (with_reducible first | exact HB.out | apply below_alloc | apply pw_below_drewN | apply below_drew1) | exact HB.out))) : w.heap.size ≤ gb190)); have n3_ := Aside0.mk ((by rw [hg]; exact (below_size (by repeat (first | (with_reducible first | exact HB.out | apply below_alloc | apply pw_below_drewN | apply below_drew1) | exact HB.out))) : w.heap.size ≤ gb190)); clear HB; have HB := n0_; have BK190 := n1_; have GW190 := n2_; have GE190 := n3_; clear n0_ n1_ n2_ n3_; clear hb hbox hg; have hcz24_0 : w23.cell? ⟨gb190, 0, none⟩ = some (.int .i64 a0_0) := (blk_cell BK190.out 0).trans rfl; have hcz24_1 : w23.cell? ⟨gb190, 1, none⟩ = some (.int .i64 a0_1) := (blk_cell BK190.out 1).trans rfl; have hcz24_2 : w23.cell? ⟨gb190, 2, none⟩ = some (.int .i64 a0_2) := (blk_cell BK190.out 2).trans rfl; have hfz24_0 := blk_frozen BK190.out 0; have hfz24_1 := blk_frozen BK190.out 1; have hfz24_2 := blk_frozen BK190.out 2)))
                  go_ret
                  exact ⟨by first | rfl | (simp [errW_none, errW_some] <;> rfl) | (simp [*, errW_none, errW_some] <;> rfl), by repeat (first | (with_reducible first | exact HB.out | apply below_alloc | apply pw_below_drewN | apply below_drew1 | refine below_set ?_ GE190.out) | exact HB.out)⟩
            · rw [if_neg c18] at H
              have c18b0 : decide (a0_0 < a1) = false := decide_eq_false c18
              clear c18
              obtain rfl := Option.some.inj H
              go_enter Tryd.func36, Tryd.ntmps36
              go_wp2_with (first | ((with_reducible refine gate_dst (N := 2) rfl ?_); refine box_event ?hg (N := 2) ?hd (cs := #[.int .i64 a0_0, .int .i64 a0_1, .int .i64 a0_2]) (t := 58) ?hr ?_; (case hd => rfl); (case hg => rfl); (case hr => first | (go_simp; done) | (go_simp; rfl)); intro gb190 hg w25 hbox hb; have n0_ := Aside0.mk (below_step (by repeat (first | (with_reducible first | exact HB.out | apply below_alloc | apply pw_below_drewN | apply below_drew1) | exact HB.out)) hb); have n1_ := Aside0.mk (hbox); have n2_ := Aside0.mk ((by rw [hg]; exact (below_size (by repeat (first | (with_reducible first | exact HB.out | apply below_alloc | apply pw_below_drewN | apply below_drew1) | exact HB.out))) : w.heap.size ≤ gb190)); have n3_ := Aside0.mk ((by rw [hg]; exact (below_size (by repeat (first | (with_reducible first | exact HB.out | apply below_alloc | apply pw_below_drewN | apply below_drew1) | exact HB.out))) : w.heap.size ≤ gb190)); clear HB; have HB := n0_; have BK190 := n1_; have GW190 := n2_; have GE190 := n3_; clear n0_ n1_ n2_ n3_; clear hb hbox hg; have hcz26_0 : w25.cell? ⟨gb190, 0, none⟩ = some (.int .i64 a0_0) := (blk_cell BK190.out 0).trans rfl; have hcz26_1 : w25.cell? ⟨gb190, 1, none⟩ = some (.int .i64 a0_1) := (blk_cell BK190.out 1).trans rfl; have hcz26_2 : w25.cell? ⟨gb190, 2, none⟩ = some (.int .i64 a0_2) := (blk_cell BK190.out 2).trans rfl; have hfz26_0 := blk_frozen BK190.out 0; have hfz26_1 := blk_frozen BK190.out 1; have hfz26_2 := blk_frozen BK190.out 2))
              repeat (go_quiet (first | ((with_reducible refine gate_dst (N := 2) rfl ?_); refine box_event ?hg (N := 2) ?hd (cs := #[.int .i64 a0_0, .int .i64 a0_1, .int .i64 a0_2]) (t := 58) ?hr ?_; (case hd => rfl); (case hg => rfl); (case hr => first | (go_simp; done) | (go_simp; rfl)); intro gb190 hg w25 hbox hb; have n0_ := Aside0.mk (below_step (by repeat (first | (with_reducible first | exact HB.out | apply below_alloc | apply pw_below_drewN | apply below_drew1) | exact HB.out)) hb); have n1_ := Aside0.mk (hbox); have n2_ := Aside0.mk ((by rw [hg]; exact (below_size (by repeat (first | (with_reducible first | exact HB.out | apply below_alloc | apply pw_below_drewN | apply below_drew1) | exact HB.out))) : w.heap.size ≤ gb190)); have n3_ := Aside0.mk ((by rw [hg]; exact (below_size (by repeat (first | (with_reducible first | exact HB.out | apply below_alloc | apply pw_below_drewN | apply below_drew1) | exact HB.out))) : w.heap.size ≤ gb190)); clear HB; have HB := n0_; have BK190 := n1_; have GW190 := n2_; have GE190 := n3_; clear n0_ n1_ n2_ n3_; clear hb hbox hg; have hcz26_0 : w25.cell? ⟨gb190, 0, none⟩ = some (.int .i64 a0_0) := (blk_cell BK190.out 0).trans rfl; have hcz26_1 : w25.cell? ⟨gb190, 1, none⟩ = some (.int .i64 a0_1) := (blk_cell BK190.out 1).trans rfl; have hcz26_2 : w25.cell? ⟨gb190, 2, none⟩ = some (.int .i64 a0_2) := (blk_cell BK190.out 2).trans rfl; have hfz26_0 := blk_frozen BK190.out 0; have hfz26_1 := blk_frozen BK190.out 1; have hfz26_2 := blk_frozen BK190.out 2)); try go_wp2_with (first | ((with_reducible refine gate_dst (N := 2) rfl ?_); refine box_event ?hg (N := 2) ?hd (cs := #[.int .i64 a0_0, .int .i64 a0_1, .int .i64 a0_2]) (t := 58) ?hr ?_; (case hd => rfl); (case hg => rfl); (case hr => first | (go_simp; done) | (go_simp; rfl)); intro gb190 hg w25 hbox hb; have n0_ := Aside0.mk (below_step (by repeat (first | (with_reducible first | exact HB.out | apply below_alloc | apply pw_below_drewN | apply below_drew1) | exact HB.out)) hb); have n1_ := Aside0.mk (hbox); have n2_ := Aside0.mk ((by rw [hg]; exact (below_size (by repeat (first | (with_reducible first | exact HB.out | apply below_alloc | apply pw_below_drewN | apply below_drew1) | exact HB.out))) : w.heap.size ≤ gb190)); have n3_ := Aside0.mk ((by rw [hg]; exact (below_size (by repeat (first | (with_reducible first | exact HB.out | apply below_alloc | apply pw_below_drewN | apply below_drew1) | exact HB.out))) : w.heap.size ≤ gb190)); clear HB; have HB := n0_; have BK190 := n1_; have GW190 := n2_; have GE190 := n3_; clear n0_ n1_ n2_ n3_; clear hb hbox hg; have hcz26_0 : w25.cell? ⟨gb190, 0, none⟩ = some (.int .i64 a0_0) := (blk_cell BK190.out 0).trans rfl; have hcz26_1 : w25.cell? ⟨gb190, 1, none⟩ = some (.int .i64 a0_1) := (blk_cell BK190.out 1).trans rfl; have hcz26_2 : w25.cell? ⟨gb190, 2, none⟩ = some (.int .i64 a0_2) := (blk_cell BK190.out 2).trans rfl; have hfz26_0 := blk_frozen BK190.out 0; have hfz26_1 := blk_frozen BK190.out 1; have hfz26_2 := blk_frozen BK190.out 2)))
              go_ret
              exact ⟨by first | rfl | (simp [errW_none, errW_some] <;> rfl) | (simp [*, errW_none, errW_some] <;> rfl), by repeat (first | (with_reducible first | exact HB.out | apply below_alloc | apply pw_below_drewN | apply below_drew1 | refine below_set ?_ GE190.out) | exact HB.out)⟩
def rows_Join.l0 : Nat → List Int → List (List Int) → Int → Int → Option (List Int)
  | 0, _, _, _, _ => none
  | k + 1, x3, x6, x7, x8 => if x8 < x7 then (if 0 ≤ x8 then (if x8 < (x6.length : Int) then (if x3.length + (rd_L1 x6 x8).length < 17592186044416 then (rows_Join.l0 k (x3 ++ (rd_L1 x6 x8)) x6 x7 (wrap64 (x8 + 1))) else (none)) else (none)) else (none)) else (some x3)
def rows_Join.f (k : Nat) (l0 : List (List Int)) : Option (List Int) := rows_Join.l0 k ([] : List Int) l0 (l0.length : Int) 0
set_option maxHeartbeats 8000000 in
set_option maxRecDepth 100000 in
theorem rows_Join.calls (k : Nat) (A0 : Option Addr) (c0 : Nat) (l0 : List (List Int)) (r : List Int) (w : World) (hr0 : Kd.C (Kd.slice 45 (Kd.int .u64)) w A0 l0.length l0) (hc0 : l0.length ≤ c0) (h : rows_Join.f k l0 = some r) :
    Calls Tryd.prog 63 #[.slice A0 l0.length c0] w fun e w' => ∃ v0_ : Value, e = .returned (v0_) ∧ Kd.R (Kd.int .u64) 45 w' w.heap.size (fun _ => True) v0_ r ∧ Below w.heap.size w w' := by
  have HR0 := Aside0.mk hr0
  have HC0 := Aside0.mk hc0
  clear hr0 hc0
  have HB := Aside0.mk (Below.refl w.heap.size w)
  have H : (rows_Join.l0 k ([] : List Int) l0 (l0.length : Int) 0) = some r := h
  clear h
  have H' := Aside0.mk H
  clear H
  go_enter Tryd.func63, Tryd.ntmps63
  go_wp2
  go_loopg [3, 8] k (fun kq v3 v8 w' => ∃ (x3_1 : List Int) (x8_1 : Int), v8 = .int .i64 x8_1 ∧ Aside0 (rows_Join.l0 kq x3_1 l0 (l0.length : Int) x8_1 = some r) ∧ Aside0 (kq ≤ k) ∧ Aside0 (Kd.R (Kd.int .u64) 45 w' w.heap.size (fun _ => True) v3 x3_1) ∧ Aside0 (Below w.heap.size w w'))
  case atStart => exact ⟨(([] : List Int)), (0), (by first | rfl | (simp; done) | (simp [*]; done)), H', ⟨Nat.le_refl _⟩, ⟨by first | exact Kd.R_nil _ _ _ _ _ | exact Kd.N_nil _ _ _ _ _ | exact Kd.V_nil _ _ _ _ _ | exact Kd.Q_nil _ _ _ _ _ | exact Kd.S_nil _ _ _ _ _⟩, ⟨by repeat (first | (with_reducible first | exact HB.out | apply below_alloc | apply pw_below_drewN | apply below_drew1) | exact HB.out)⟩⟩
  case round =>
    clear H'
    obtain ⟨x3_1, x8_1, rfl, HA, HK1, HO_3, HB⟩ := hrel
    cases gk with
    | zero => exact absurd HA.out (by simp [rows_Join.l0])
    | succ k1 =>
      have H := HA.out
      clear HA
      simp only [rows_Join.l0] at H
      by_cases c2 : x8_1 < (l0.length : Int)
      · rw [if_pos c2] at H
        have c2b0 : decide (x8_1 < (l0.length : Int)) = true := decide_eq_true c2
        clear c2
        by_cases c3 : 0 ≤ x8_1
        · rw [if_pos c3] at H
          have c3b0 : decide (0 ≤ x8_1) = true := decide_eq_true c3
          clear c3
          by_cases c4 : x8_1 < (l0.length : Int)
          · rw [if_pos c4] at H
            have c4b0 : decide (x8_1 < (l0.length : Int)) = true := decide_eq_true c4
            clear c4
            by_cases c5 : x3_1.length + (rd_L1 l0 x8_1).length < 17592186044416
            · rw [if_pos c5] at H
              have LMc5 := Aside0.mk c5
              clear c5
              obtain ⟨y199, hy199⟩ : ∃ y_ : List Int, y_ = (x3_1 ++ (rd_L1 l0 x8_1)) := ⟨_, rfl⟩
              replace H : (rows_Join.l0 k1 y199 l0 (l0.length : Int) (wrap64 (x8_1 + 1))) = some r := by first | (rw [hy199]; with_reducible exact H) | (have H2_ := (Option.bind_some _ _).symm.trans H; rw [hy199]; with_reducible exact H2_) | (have H2_ := (Option.bind_some _ _).symm.trans H; with_reducible exact H2_) | with_reducible exact H | (rw [hy199]; exact H) | exact H
              have Ny199 := Aside0.mk hy199
              clear hy199
              have H' := Aside0.mk H
              clear H
              have p198 : 0 ≤ (x8_1 : Int) := of_decide_eq_true (by first | (with_reducible assumption) | assumption)
              have q198 : x8_1 < (l0.length : Int) := of_decide_eq_true (by first | (with_reducible assumption) | assumption)
              obtain ⟨ad198, A198_0, c198_0, e198, hx198_0, hl198_0, hi198_0⟩ := at_L1 HR0.out x8_1 p198 q198
              cases e198
              replace hx198_0 := (HB.out.cell (World.block_lt_of_cell? w _ hx198_0)).trans hx198_0
              have HR198_0 := Aside0.mk hi198_0
              have HC198_0 := Aside0.mk hl198_0
              clear hi198_0 hl198_0
              replace p198 := eq_true p198
              replace q198 := eq_true q198
              go_wp2_with (first | ((with_reducible refine gate_builtin (b := .append) (xs := #[.tmp 12, .tmp 13]) rfl ?_); at_builtin; refine Kd.R_append_rows (Kd.int .u64) (w0 := w) w.heap.size rfl (.tmp 12) (.tmp 13) 24 45 (.int .u64 0) 8 rfl Tryd.underlying24 info45 rfl (by decide) (by omega) u3 x3_1 (rd_L1 l0 x8_1) _ _ _ (fun _ => True) (fun _ => False) rfl rfl ?aO ?aR (fun _ _ h => h) (fun _ h => h.elim) ?aF ?aB ?aS ?aL ?_; (case aR => repeat (first | exact (Kd.C_below HR198_0.out HB.out) | (with_reducible refine Kd.C_alloc ?_ _) | (with_reducible refine Kd.C_drewN ?_ _) | (with_reducible refine Kd.C_drew ?_))); (case aB => exact (by repeat (first | (with_reducible first | exact HB.out | apply below_alloc | apply pw_below_drewN | apply below_drew1) | exact HB.out))); (case aF => exact (fun _ _ => trivial)); (case aO => exact (by (with_reducible repeat (first | apply Kd.R_alloc | apply Kd.R_drewN | apply Kd.R_drew)); exact HO_3.out)); (case aS => exact (below_size (by repeat (first | (with_reducible first | exact HB.out | apply below_alloc | apply pw_below_drewN | apply below_drew1) | exact HB.out)))); (case aL => have := LMc5.out; omega); intro v200 w6 ho hb hg hat; rw [← Ny199.out] at ho; have n0_ := Aside0.mk (hb); have n1_ := Aside0.mk (ho); clear HB; clear HO_3; have HB := n0_; have HO201 := n1_; clear n0_ n1_; clear ho hb hg hat))
              go_roundg k1
              case measure => have := HK1.out; omega
              case rel => exact ⟨(y199), (wrap64 (x8_1 + 1)), (by first | rfl | (simp; done) | (simp [*]; done)), H', ⟨by have := HK1.out; omega⟩, ⟨by (with_reducible repeat (first | apply Kd.R_alloc | apply Kd.R_drewN | apply Kd.R_drew)); exact HO201.out⟩, ⟨by repeat (first | (with_reducible first | exact HB.out | apply below_alloc | apply pw_below_drewN | apply below_drew1) | exact HB.out)⟩⟩
            · rw [if_neg c5] at H
              exact absurd H (by simp)
          · rw [if_neg c4] at H
            exact absurd H (by simp)
        · rw [if_neg c3] at H
          exact absurd H (by simp)
      · rw [if_neg c2] at H
        have c2b0 : decide (x8_1 < (l0.length : Int)) = false := decide_eq_false c2
        clear c2
        obtain rfl := Option.some.inj H
        go_wp2
        go_ret
        exact ⟨_, by first | rfl | (simp [errW_none, errW_some] <;> rfl) | (simp [*, errW_none, errW_some] <;> rfl), by (with_reducible repeat (first | apply Kd.R_alloc | apply Kd.R_drewN | apply Kd.R_drew)); exact HO_3.out, by repeat (first | (with_reducible first | exact HB.out | apply below_alloc | apply pw_below_drewN | apply below_drew1) | exact HB.out)⟩
end Go.Proofs.YtpnkcjnemoompaaDoor.PFft
end
section
namespace Go.Proofs.YtpnkcjnemoompaaDoor.PFft
open Go.RowKit Go.Proofs.YtpnkcjnemoompaaDoor.Ext Go.Proofs.YtpnkcjnemoompaaDoor.PPlan Go.Proofs.YtpnkcjnemoompaaDoorW.PrintWords Go.Proofs.YtpnkcjnemoompaaDoorW.PrintLast Go.Proofs.YtpnkcjnemoompaaDoorW.PrintMore
attribute [local go_sem] max2_int min2_int max_two min_two max_three min_three max_four min_four   -- for this text's walks alone
set_option linter.unusedVariables false
set_option linter.unusedSimpArgs false
def abacistref04_Same.l0 : Nat → List Int → List Int → Int → Option (Bool)
  | 0, _, _, _ => none
  | k + 1, x0, x1, x5 => if x5 < (x0.length : Int) then (if 0 ≤ x5 then (if x5 < (x1.length : Int) then (if (rd x0 x5) = (rd x1 x5) then (abacistref04_Same.l0 k x0 x1 (wrap64 (x5 + 1))) else (some false)) else (none)) else (none)) else (some true)
def abacistref04_Same.f (k : Nat) (l0 : List Int) (l1 : List Int) : Option (Bool) := if (l0.length : Int) = (l1.length : Int) then (abacistref04_Same.l0 k l0 l1 0) else (some false)
set_option maxHeartbeats 8000000 in
set_option maxRecDepth 100000 in
theorem abacistref04_Same.calls (k : Nat) (A0 : Option Addr) (c0 : Nat) (l0 : List Int) (A1 : Option Addr) (c1 : Nat) (l1 : List Int) (r : Bool) (w : World) (hr0 : Kd.C (Kd.int .u64) w A0 l0.length l0) (hc0 : l0.length ≤ c0) (hr1 : Kd.C (Kd.int .u64) w A1 l1.length l1) (hc1 : l1.length ≤ c1) (h : abacistref04_Same.f k l0 l1 = some r) :
    Calls Tryd.prog 19 #[.slice A0 l0.length c0, .slice A1 l1.length c1] w fun e w' => e = .returned (.bool r) ∧ Drawn0 w w' := by
  have HR0 := Aside0.mk hr0
  have HC0 := Aside0.mk hc0
  clear hr0 hc0
  have HR1 := Aside0.mk hr1
  have HC1 := Aside0.mk hc1
  clear hr1 hc1
  have H : (if (l0.length : Int) = (l1.length : Int) then (abacistref04_Same.l0 k l0 l1 0) else (some false)) = some r := h
  clear h
  by_cases c3 : (l0.length : Int) = (l1.length : Int)
  · rw [if_pos c3] at H
    have c3b0 : ((l0.length : Int) == (l1.length : Int)) = true := beq_iff_eq.mpr c3
    have c3b1 : ((l0.length : Int) != (l1.length : Int)) = false := bne_eq_false_iff_eq.mpr c3
    have c3b2 : (l0.length == l1.length) = true := by first | simpa using c3 | (simp at c3 ⊢; omega)
    clear c3
    have H' := Aside0.mk H
    clear H
    go_enter Tryd.func19, Tryd.ntmps19
    go_wp2
    repeat (go_quiet (fail); try go_wp2)
    go_loopg [5] k (fun kq v5 w' => ∃ (x5_1 : Int), v5 = .int .i64 x5_1 ∧ Aside0 (abacistref04_Same.l0 kq l0 l1 x5_1 = some r) ∧ Aside0 (kq ≤ k) ∧ Drawn0 w w')
    case atStart => exact ⟨(0), (by first | rfl | (simp; done) | (simp [*]; done)), H', ⟨Nat.le_refl _⟩, by repeat (first | exact Drawn0.refl _ | apply Drawn0.step)⟩
    case round =>
      clear H'
      try clear c1
      try clear p2
      try clear c3
      try clear c3b0
      try clear c3b1
      try clear c3b2
      obtain ⟨x5_1, rfl, HA, HK1, ⟨m1, rfl⟩⟩ := hrel
      cases gk with
      | zero => exact absurd HA.out (by simp [abacistref04_Same.l0])
      | succ k1 =>
        have H := HA.out
        clear HA
        simp only [abacistref04_Same.l0] at H
        by_cases c4 : x5_1 < (l0.length : Int)
        · rw [if_pos c4] at H
          have c4b0 : decide (x5_1 < (l0.length : Int)) = true := decide_eq_true c4
          clear c4
          by_cases c5 : 0 ≤ x5_1
          · rw [if_pos c5] at H
            have c5b0 : decide (0 ≤ x5_1) = true := decide_eq_true c5
            clear c5
            by_cases c6 : x5_1 < (l1.length : Int)
            · rw [if_pos c6] at H
              have c6b0 : decide (x5_1 < (l1.length : Int)) = true := decide_eq_true c6
              clear c6
              by_cases c7 : (rd l0 x5_1) = (rd l1 x5_1)
              · rw [if_pos c7] at H
                have c7b0 : ((rd l0 x5_1) == (rd l1 x5_1)) = true := beq_iff_eq.mpr c7
                have c7b1 : ((rd l0 x5_1) != (rd l1 x5_1)) = false := bne_eq_false_iff_eq.mpr c7
                clear c7
                have H' := Aside0.mk H
                clear H
                have p267 : 0 ≤ (x5_1 : Int) := of_decide_eq_true (by first | (with_reducible assumption) | assumption)
                have q267 : x5_1 < (l0.length : Int) := of_decide_eq_true (by first | (with_reducible assumption) | assumption)
                obtain ⟨ad267, e267, hx267_0⟩ := Kd.at_int HR0.out x5_1 p267 q267
                cases e267
                replace p267 := eq_true p267
                replace q267 := eq_true q267
                have p268 : 0 ≤ (x5_1 : Int) := of_decide_eq_true (by first | (with_reducible assumption) | assumption)
                have q268 : x5_1 < (l1.length : Int) := of_decide_eq_true (by first | (with_reducible assumption) | assumption)
                obtain ⟨ad268, e268, hx268_0⟩ := Kd.at_int HR1.out x5_1 p268 q268
                cases e268
                replace p268 := eq_true p268
                replace q268 := eq_true q268
                go_wp2
                repeat (go_quiet (fail); try go_wp2)
                go_roundg k1
                case measure => have := HK1.out; omega
                case rel => exact ⟨(wrap64 (x5_1 + 1)), (by first | rfl | (simp; done) | (simp [*]; done)), H', ⟨by have := HK1.out; omega⟩, by repeat (first | exact Drawn0.refl _ | apply Drawn0.step)⟩
              · rw [if_neg c7] at H
                have c7b0 : ((rd l0 x5_1) == (rd l1 x5_1)) = false := beq_eq_false_iff_ne.mpr c7
                have c7b1 : ((rd l0 x5_1) != (rd l1 x5_1)) = true := bne_iff_ne.mpr c7
                obtain rfl := Option.some.inj H
                have p267 : 0 ≤ (x5_1 : Int) := of_decide_eq_true (by first | (with_reducible assumption) | assumption)
                have q267 : x5_1 < (l0.length : Int) := of_decide_eq_true (by first | (with_reducible assumption) | assumption)
                obtain ⟨ad267, e267, hx267_0⟩ := Kd.at_int HR0.out x5_1 p267 q267
                cases e267
                replace p267 := eq_true p267
                replace q267 := eq_true q267
                have p268 : 0 ≤ (x5_1 : Int) := of_decide_eq_true (by first | (with_reducible assumption) | assumption)
                have q268 : x5_1 < (l1.length : Int) := of_decide_eq_true (by first | (with_reducible assumption) | assumption)
                obtain ⟨ad268, e268, hx268_0⟩ := Kd.at_int HR1.out x5_1 p268 q268
                cases e268
                replace p268 := eq_true p268
                replace q268 := eq_true q268
                go_wp2
                repeat (go_quiet (fail); try go_wp2)
                go_ret
                exact ⟨by first | rfl | (simp; done) | (simp [*]; done), by repeat (first | exact Drawn0.refl _ | apply Drawn0.step)⟩
            · rw [if_neg c6] at H
              exact absurd H (by simp)
          · rw [if_neg c5] at H
            exact absurd H (by simp)
        · rw [if_neg c4] at H
          have c4b0 : decide (x5_1 < (l0.length : Int)) = false := decide_eq_false c4
          clear c4
          obtain rfl := Option.some.inj H
          go_wp2
          repeat (go_quiet (fail); try go_wp2)
          go_ret
          exact ⟨by first | rfl | (simp; done) | (simp [*]; done), by repeat (first | exact Drawn0.refl _ | apply Drawn0.step)⟩
  · rw [if_neg c3] at H
    have c3b0 : ((l0.length : Int) == (l1.length : Int)) = false := beq_eq_false_iff_ne.mpr c3
    have c3b1 : ((l0.length : Int) != (l1.length : Int)) = true := bne_iff_ne.mpr c3
    have c3b2 : (l0.length == l1.length) = false := by first | simpa using c3 | (simp at c3 ⊢; omega)
    obtain rfl := Option.some.inj H
    go_enter Tryd.func19, Tryd.ntmps19
    go_wp2
    repeat (go_quiet (fail); try go_wp2)
    go_ret
    exact ⟨by first | rfl | (simp; done) | (simp [*]; done), by repeat (first | exact Drawn0.refl _ | apply Drawn0.step)⟩
end Go.Proofs.YtpnkcjnemoompaaDoor.PFft
end
section
namespace Go.Proofs.YtpnkcjnemoompaaDoor.Kern
open Go.RowKit Go.Proofs.YtpnkcjnemoompaaDoor Go.Proofs.YtpnkcjnemoompaaDoor.Ext Go.Proofs.YtpnkcjnemoompaaDoor.PPlan Go.Proofs.YtpnkcjnemoompaaDoor.PFft Go.Proofs.YtpnkcjnemoompaaDoor.Pure Go.Proofs.YtpnkcjnemoompaaDoor.Obj Go.Proofs.YtpnkcjnemoompaaDoor.Fft Go.Proofs.YtpnkcjnemoompaaDoorW.PrintWords Go.Proofs.YtpnkcjnemoompaaDoorW.PrintLast Go.Proofs.YtpnkcjnemoompaaDoorW.PrintMore
set_option linter.unusedVariables false
set_option linter.unusedSimpArgs false
set_option maxRecDepth 100000
def Mr (w : World) (g c : Nat) (xs : List Int) : Prop := ∃ cs : List Value, Bk w g 45 cs ∧ cs.length = c ∧ xs.length ≤ c ∧ cs.take xs.length = nums .u64 xs
section
variable {w w' : World} {g c : Nat} {xs : List Int}
theorem Mr.len (h : Mr w g c xs) : xs.length ≤ c := by obtain ⟨cs, _, _, h, _⟩ := h; exact h
theorem Mr.lt (h : Mr w g c xs) : g < w.heap.size := by obtain ⟨cs, h, _⟩ := h; exact h.lt
theorem Mr.fr {S : List Nat} (h : Mr w g c xs) (hf : Fr w w' S) (hg : g ∉ S) : Mr w' g c xs := by
  obtain ⟨cs, h1, h2⟩ := h
  exact ⟨cs, h1.fr hf hg, h2⟩
theorem Mr.below (h : Mr w g c xs) (hb : Below w.heap.size w w') : Mr w' g c xs := by
  obtain ⟨cs, h1, h2⟩ := h
  exact ⟨cs, h1.below hb, h2⟩
theorem Mr.of_rw (h : Rw w g xs) : Mr w g xs.length xs := ⟨nums .u64 xs, h, nums_length .u64 xs, Nat.le_refl _, by rw [← nums_length .u64 xs, List.take_length]⟩
theorem Mr.ne {t : Nat} {cs : List Value} {b : Nat} (h : Mr w g c xs) (hb : Bk w b t cs) (ht : t ≠ 45) : b ≠ g := by
  obtain ⟨cs', h1, _⟩ := h
  exact hb.ne h1 ht
theorem nums_at (xs : List Int) (i : Nat) (hi : i < xs.length) : (nums .u64 xs)[i]? = some (.int .u64 (xs.getD i 0)) := by simp [nums, hi]
theorem Mr.cell (h : Mr w g c xs) (i : Nat) (hi : i < xs.length) : w.cell? ⟨g, i, none⟩ = some (.int .u64 (xs.getD i 0)) := by
  obtain ⟨cs, h1, h2, h3, h4⟩ := h
  rw [h1.cell, ← nums_at xs i hi, ← h4, List.getElem?_take, if_pos hi]
theorem Mr.frozen (h : Mr w g c xs) (i : Nat) : w.frozen? ⟨g, i, none⟩ = false := by
  obtain ⟨cs, h1, _⟩ := h
  exact h1.frozen i
theorem Mr.put (h : Mr w g c xs) (i : Nat) (x : Int) : Mr (w.setCell ⟨g, i, none⟩ (.int .u64 x)) g c (xs.set i x) := by
  obtain ⟨cs, h1, h2, h3, h4⟩ := h
  refine ⟨cs.set i (.int .u64 x), h1.put i _, by rw [List.length_set]; exact h2, by rw [List.length_set]; exact h3, ?_⟩
  rw [List.length_set, List.take_set, h4]
  simp [nums, List.map_set]
theorem Mr.far (h : Mr w g c xs) (b i : Nat) (u : Value) (hne : g ≠ b) : Mr (w.setCell ⟨b, i, none⟩ u) g c xs := by
  obtain ⟨cs, h1, h2⟩ := h
  exact ⟨cs, h1.far i u hne, h2⟩
theorem Mr.part (h : Mr w g c xs) (off n : Nat) (hn : off + n ≤ xs.length) (hm : n ≤ 9223372036854775807) : Kd.C (Kd.int .u64) w (some ⟨g, off, none⟩) n ((xs.drop off).take n) := by
  refine ⟨by rw [List.length_take, List.length_drop]; omega, hm, fun _ => ⟨_, rfl, fun j p hj => ⟨[.int .u64 p], rfl, rfl, fun i u hu => ?_⟩⟩⟩
  have hjn : j < n := by
    have := (List.getElem?_eq_some_iff.1 hj).1
    rw [List.length_take, List.length_drop] at this; omega
  have hp : xs[off + j]? = some p := by
    rw [List.getElem?_take, if_pos hjn, List.getElem?_drop] at hj
    exact hj
  rcases i with _ | i
  · simp only [List.getElem?_cons_zero, Option.some.injEq] at hu
    subst hu
    have hsz : (Kd.int .u64).sz = 1 := rfl
    rw [hsz, add_at]
    simp only [Nat.mul_one, Nat.add_zero]
    rw [h.cell _ (by omega)]
    simp [List.getD, hp]
  · simp at hu
theorem Mr.whole (h : Mr w g c xs) (hm : xs.length ≤ 9223372036854775807) : Kd.C (Kd.int .u64) w (some ⟨g, 0, none⟩) xs.length xs := by
  have := h.part 0 xs.length (by omega) hm
  simpa using this
theorem Mr.of_R {base : Nat} {ok : Nat → Prop} {v : Value} (hR : Kd.R (Kd.int .u64) 45 w base ok v xs) (h0 : 0 < xs.length) : ∃ g c, v = .slice (some ⟨g, 0, none⟩) xs.length c ∧ base ≤ g ∧ Mr w g c xs := by
  obtain ⟨_, inner, ⟨hl, hv⟩, hr⟩ := hR
  rcases hv with ⟨_, h⟩ | ⟨g, cap, cur, rfl, hg, hh, hc, hm, hcs, ht⟩
  · omega
  · refine ⟨g, cap, rfl, hg, cur.toList, by simpa [Bk] using hh, by have hsz : (Kd.int IntKind.u64).sz = 1 := rfl
                                                                    rw [hsz, Nat.mul_one] at hcs; simpa using hcs, hc, ?_⟩
    have hsz : (Kd.int IntKind.u64).sz = 1 := rfl
    rw [hsz, Nat.mul_one] at ht
    rw [ht]
    apply List.ext_getElem?
    intro j
    have hil : inner.length = xs.length := by rw [hsz, Nat.mul_one] at hl; exact hl
    by_cases hj : j < xs.length
    · have hx := hr.2 j (xs[j]) (by simp [hj])
      rw [hsz, Nat.mul_one] at hx
      have hin : inner[j]? = some (.int .u64 (xs[j])) := by
        have := congrArg (·[0]?) (show (inner.drop j).take 1 = [Value.int .u64 (xs[j])] from hx)
        simpa [List.getElem?_take, List.getElem?_drop] using this
      rw [hin]
      simp [nums, hj]
    · rw [List.getElem?_eq_none (by omega), List.getElem?_eq_none (by rw [nums_length]; omega)]
end
theorem copy_mr {P : Program} {w : World} {ops : Array Oper} {rest : List Oper} {o : Oper} {a : Act} {Q : Exit → Act → World → Prop} (hgd : o.guard = none) (d s : Operand) (dT sT : TypeId)
    (ho : o.op = .call { callee := .builtin .copy, args := #[d, s], argTypes := #[dT, sT] }) (hu : P.underlying dT = some (.slice 45)) (hsz : (P.info? 45).map (·.size) = some 1)
    (g c : Nat) (xs ys : List Int) (ad : Addr) (sCap : Nat) (hd : a.eval d = .slice (some ⟨g, 0, none⟩) xs.length c) (hs : a.eval s = .slice (some ad) ys.length sCap)
    (hg : Mr w g c xs) (hn : ys.length = xs.length) (hsrc : ∀ j, j < ys.length → w.cell? (ad.add j) = some (.int .u64 (ys.getD j 0)))
    (h : ∀ w', Mr w' g c ys → Fr w w' [g] → wpList P ops Q rest (a.put o.dst (goInt ys.length)) w') : wpList P ops Q (o :: rest) a w := by
  obtain ⟨cs, h1, h2, h3, h4⟩ := hg
  refine wpList_copy_own hgd d s dT sT ho 45 hu hsz g 0 xs.length c ad ys.length sCap hd hs cs.toArray 45 h1 (nums .u64 ys) (by rw [nums_length, hn]; exact (Nat.min_self _).symm) ?_ (by rw [nums_length]; simp; omega) ?_ ?_
  · intro j v hj
    have hjl : j < ys.length := by
      have := (List.getElem?_eq_some_iff.1 hj).1
      rwa [nums_length] at this
    rw [hsrc j hjl]
    simp [nums, hjl] at hj
    simp [hjl, hj]
  · intro v hv
    obtain ⟨x, _, rfl⟩ := List.mem_map.1 hv
    rfl
  · rw [nums_length]
    refine h _ ?_ ?_
    · have h5 := setRow_heap w g cs.toArray (cs.toArray.toList.take 0 ++ (nums .u64 ys ++ cs.toArray.toList.drop (0 + ys.length))).toArray 45 (0, 0) h1
      refine ⟨nums .u64 ys ++ cs.drop ys.length, ?_, by simp [nums_length]; omega, by omega, by rw [List.take_append_of_le_length (by rw [nums_length]; omega), ← nums_length .u64 ys, List.take_length]⟩
      unfold Bk
      rw [h5]
      simp
    · have hb := below_setRow (B := 0) (Below.refl 0 w) (Nat.zero_le g) (cs.toArray.toList.take 0 ++ (nums .u64 ys ++ cs.toArray.toList.drop (0 + ys.length))).toArray
      exact ⟨hb.os, hb.tape, hb.output, hb.size, fun k _ hk => setRow_other w g k _ (fun e => hk (by rw [e]; simp))⟩
theorem size_u64 : (Tryd.prog.info? 45).map (·.size) = some 1 := by kernel_rfl
theorem info_u64 : (Tryd.prog.info? 45).map (fun i => (i.zero, i.size, i.bytes)) = some (some (.int .u64 0), 1, 8) := by kernel_rfl
theorem wrapn {x : Int} {a : Nat} (h : x = (a : Int)) (ha : a ≤ 9223372036854775807) : wrap64 x = (a : Int) := by
  rw [h]
  exact wrap_i _ (by omega) (by omega)
set_option maxHeartbeats 1000000 in
theorem at_calls (j : Int) (jn i q s m n N a1 a2 a3 t : Nat) (P gs cs bp bq bs bi bn : Nat) (v : Int) (w : World) (ej : j = (jn : Int)) (en : n = 4 * m) (e1 : jn * m = a1) (e2 : i + a1 = a2) (e3 : s * a2 = a3) (e4 : q + a3 = t) (ht : t < N) (hN : N ≤ 1048576) (b2 : a2 ≤ 1048576) (bn2 : n ≤ 1048576)
    (cp : w.cell? ⟨bp, 0, none⟩ = some (.pointer (some ⟨P, 0, none⟩))) (cs_ : w.cell? ⟨P, 2, none⟩ = some (.slice (some ⟨gs, 0, none⟩) N cs)) (cq : w.cell? ⟨bq, 0, none⟩ = some (.int .i64 (q : Int))) (cS : w.cell? ⟨bs, 0, none⟩ = some (.int .i64 (s : Int))) (ci : w.cell? ⟨bi, 0, none⟩ = some (.int .i64 (i : Int))) (cn : w.cell? ⟨bn, 0, none⟩ = some (.int .i64 (n : Int)))
    (cv : w.cell? ⟨gs, t, none⟩ = some (.int .u64 v)) :
    Calls Tryd.prog 169 #[.int .i64 j, .pointer (some ⟨bp, 0, none⟩), .pointer (some ⟨bq, 0, none⟩), .pointer (some ⟨bs, 0, none⟩), .pointer (some ⟨bi, 0, none⟩), .pointer (some ⟨bn, 0, none⟩)] w fun e w' => e = .returned (.int .u64 v) ∧ ∃ k, w' = w.drewN k := by
  subst ej
  have t0 : (0 : Int) ≤ (t : Int) := by omega
  have t1 : (t : Int) < (N : Int) := by omega
  obtain ⟨k1, k2, k3, k4, k5⟩ : wrap64 ((n : Int) / 4) = (m : Int) ∧ wrap64 ((jn : Int) * (m : Int)) = (a1 : Int) ∧ wrap64 ((i : Int) + (a1 : Int)) = (a2 : Int) ∧ wrap64 ((s : Int) * (a2 : Int)) = (a3 : Int) ∧ wrap64 ((q : Int) + (a3 : Int)) = (t : Int) :=
    ⟨wrapn (by omega) (by omega), wrapn (by rw [← Int.natCast_mul, e1]) (by omega), wrapn (by omega) (by omega), wrapn (by rw [← Int.natCast_mul, e3]) (by omega), wrapn (by omega) (by omega)⟩
  clear e1 e2 e3 e4 ht hN b2 bn2 en
  go_enter Tryd.func169, Tryd.ntmps169
  go_wp2_with fail
  refine start_ (n := 17) (S := fun w' => w'.cell? ⟨bp, 0, none⟩ = some (.pointer (some ⟨P, 0, none⟩)) ∧ w'.cell? ⟨P, 2, none⟩ = some (.slice (some ⟨gs, 0, none⟩) N cs) ∧ w'.cell? ⟨bq, 0, none⟩ = some (.int .i64 (q : Int)) ∧ w'.cell? ⟨bs, 0, none⟩ = some (.int .i64 (s : Int)) ∧ w'.cell? ⟨bi, 0, none⟩ = some (.int .i64 (i : Int)) ∧ w'.cell? ⟨bn, 0, none⟩ = some (.int .i64 (n : Int)) ∧ w'.cell? ⟨gs, t, none⟩ = some (.int .u64 v)) (ds := []) #[false, false, false, false, false, false, false, false, false, false, false, false, false, false, false, false, false] (by kernel_rfl) rfl rfl ⟨cp, cs_, cq, cS, ci, cn, cv⟩ (fun hHeld => ?_)
  refine pure_ (i := 7) (N := some 15) (v := ?_) (a' := ?_) #[false, false, false, false, false, false, false, true, false, false, false, false, false, false, false, false, false] rfl rfl (by kernel_rfl) (fun _ _ _ h => h) (Or.inl ⟨by rfl, ?_⟩) ?_ ?_
  rotate_left
  · intro w'
    go_simp
    with_reducible rfl
  rotate_left
  · simp only [Act.put, List.setIfInBounds_toArray, List.set_cons_zero, List.set_cons_succ, i64_w, i32_w]
    rfl
  refine take_ (i := 0) (N := some 8) (v := ?_) (a' := ?_) #[true, false, false, false, false, false, false, true, false, false, false, false, false, false, false, false, false] rfl rfl (by kernel_rfl) (fun _ _ _ h => h) (Or.inl ⟨by rfl, ?_⟩) hHeld ?_ ?_
  rotate_left
  · rintro w' ⟨s0, s1, s2, s3, s4, s5, s6⟩
    go_simp
    with_reducible rfl
  rotate_left
  · simp only [Act.put, List.setIfInBounds_toArray, List.set_cons_zero, List.set_cons_succ, i64_w, i32_w]
    rfl
  refine pure_ (i := 1) (N := some 9) (v := ?_) (a' := ?_) #[true, true, false, false, false, false, false, true, false, false, false, false, false, false, false, false, false] rfl rfl (by kernel_rfl) (fun _ _ _ h => h) (Or.inl ⟨by rfl, ?_⟩) ?_ ?_
  rotate_left
  · intro w'
    go_simp
    with_reducible rfl
  rotate_left
  · simp only [Act.put, List.setIfInBounds_toArray, List.set_cons_zero, List.set_cons_succ, i64_w, i32_w]
    rfl
  refine pure_ (i := 2) (N := some 10) (v := ?_) (a' := ?_) #[true, true, true, false, false, false, false, true, false, false, false, false, false, false, false, false, false] rfl rfl (by kernel_rfl) (fun _ _ _ h => h) (Or.inl ⟨by rfl, ?_⟩) ?_ ?_
  rotate_left
  · intro w'
    go_simp
    with_reducible rfl
  rotate_left
  · simp only [Act.put, List.setIfInBounds_toArray, List.set_cons_zero, List.set_cons_succ, i64_w, i32_w]
    rfl
  refine take_ (i := 3) (N := some 11) (v := ?_) (a' := ?_) #[true, true, true, true, false, false, false, true, false, false, false, false, false, false, false, false, false] rfl rfl (by kernel_rfl) (fun _ _ _ h => h) (Or.inl ⟨by rfl, ?_⟩) hHeld ?_ ?_
  rotate_left
  · rintro w' ⟨s0, s1, s2, s3, s4, s5, s6⟩
    go_simp
    with_reducible rfl
  rotate_left
  · simp only [Act.put, List.setIfInBounds_toArray, List.set_cons_zero, List.set_cons_succ, i64_w, i32_w]
    rfl
  refine take_ (i := 4) (N := some 12) (v := ?_) (a' := ?_) #[true, true, true, true, true, false, false, true, false, false, false, false, false, false, false, false, false] rfl rfl (by kernel_rfl) (fun _ _ _ h => h) (Or.inl ⟨by rfl, ?_⟩) hHeld ?_ ?_
  rotate_left
  · rintro w' ⟨s0, s1, s2, s3, s4, s5, s6⟩
    go_simp
    with_reducible rfl
  rotate_left
  · simp only [Act.put, List.setIfInBounds_toArray, List.set_cons_zero, List.set_cons_succ, i64_w, i32_w]
    rfl
  refine take_ (i := 5) (N := some 13) (v := ?_) (a' := ?_) #[true, true, true, true, true, true, false, true, false, false, false, false, false, false, false, false, false] rfl rfl (by kernel_rfl) (fun _ _ _ h => h) (Or.inl ⟨by rfl, ?_⟩) hHeld ?_ ?_
  rotate_left
  · rintro w' ⟨s0, s1, s2, s3, s4, s5, s6⟩
    go_simp
    with_reducible rfl
  rotate_left
  · simp only [Act.put, List.setIfInBounds_toArray, List.set_cons_zero, List.set_cons_succ, i64_w, i32_w]
    rfl
  refine take_ (i := 6) (N := some 14) (v := ?_) (a' := ?_) #[true, true, true, true, true, true, true, true, false, false, false, false, false, false, false, false, false] rfl rfl (by kernel_rfl) (fun _ _ _ h => h) (Or.inl ⟨by rfl, ?_⟩) hHeld ?_ ?_
  rotate_left
  · rintro w' ⟨s0, s1, s2, s3, s4, s5, s6⟩
    go_simp
    with_reducible rfl
  rotate_left
  · simp only [Act.put, List.setIfInBounds_toArray, List.set_cons_zero, List.set_cons_succ, i64_w, i32_w]
    rfl
  refine take_ (i := 8) (N := some 16) (v := ?_) (a' := ?_) #[true, true, true, true, true, true, true, true, true, false, false, false, false, false, false, false, false] rfl rfl (by kernel_rfl) (fun _ _ _ h => h) (Or.inl ⟨by rfl, ?_⟩) hHeld ?_ ?_
  rotate_left
  · rintro w' ⟨s0, s1, s2, s3, s4, s5, s6⟩
    go_simp
    with_reducible rfl
  rotate_left
  · simp only [Act.put, List.setIfInBounds_toArray, List.set_cons_zero, List.set_cons_succ, i64_w, i32_w]
    rfl
  refine pure_ (i := 9) (N := some 17) (v := ?_) (a' := ?_) #[true, true, true, true, true, true, true, true, true, true, false, false, false, false, false, false, false] rfl rfl (by kernel_rfl) (fun _ _ _ h => h) (Or.inl ⟨by rfl, ?_⟩) ?_ ?_
  rotate_left
  · intro w'
    go_simp
    with_reducible rfl
  rotate_left
  · simp only [Act.put, List.setIfInBounds_toArray, List.set_cons_zero, List.set_cons_succ, i64_w, i32_w]
    rfl
  refine pure_ (i := 10) (N := some 18) (v := ?_) (a' := ?_) #[true, true, true, true, true, true, true, true, true, true, true, false, false, false, false, false, false] rfl rfl (by kernel_rfl) (fun _ _ _ h => h) (Or.inl ⟨by rfl, ?_⟩) ?_ ?_
  rotate_left
  · intro w'
    go_simp
    with_reducible rfl
  rotate_left
  · simp only [Act.put, List.setIfInBounds_toArray, List.set_cons_zero, List.set_cons_succ, i64_w, i32_w]
    rfl
  refine pure_ (i := 11) (N := some 19) (v := ?_) (a' := ?_) #[true, true, true, true, true, true, true, true, true, true, true, true, false, false, false, false, false] rfl rfl (by kernel_rfl) (fun _ _ _ h => h) (Or.inl ⟨by rfl, ?_⟩) ?_ ?_
  rotate_left
  · intro w'
    go_simp
    with_reducible rfl
  rotate_left
  · simp only [Act.put, List.setIfInBounds_toArray, List.set_cons_zero, List.set_cons_succ, i64_w, i32_w]
    rfl
  refine pure_ (i := 12) (N := some 20) (v := ?_) (a' := ?_) #[true, true, true, true, true, true, true, true, true, true, true, true, true, false, false, false, false] rfl rfl (by kernel_rfl) (fun _ _ _ h => h) (Or.inl ⟨by rfl, ?_⟩) ?_ ?_
  rotate_left
  · intro w'
    go_simp
    with_reducible rfl
  rotate_left
  · simp only [Act.put, List.setIfInBounds_toArray, List.set_cons_zero, List.set_cons_succ, i64_w, i32_w]
    rfl
  refine pure_ (i := 13) (N := some 21) (v := ?_) (a' := ?_) #[true, true, true, true, true, true, true, true, true, true, true, true, true, true, false, false, false] rfl rfl (by kernel_rfl) (fun _ _ _ h => h) (Or.inl ⟨by rfl, ?_⟩) ?_ ?_
  rotate_left
  · intro w'
    go_simp
    with_reducible rfl
  rotate_left
  · simp only [Act.put, List.setIfInBounds_toArray, List.set_cons_zero, List.set_cons_succ, i64_w, i32_w]
    rfl
  refine pure_ (i := 14) (N := some 22) (v := ?_) (a' := ?_) #[true, true, true, true, true, true, true, true, true, true, true, true, true, true, true, false, false] rfl rfl (by kernel_rfl) (fun _ _ _ h => h) (Or.inl ⟨by rfl, ?_⟩) ?_ ?_
  rotate_left
  · intro w'
    go_simp
    with_reducible rfl
  rotate_left
  · simp only [Act.put, List.setIfInBounds_toArray, List.set_cons_zero, List.set_cons_succ, i64_w, i32_w]
    rfl
  refine take_ (i := 15) (N := some 23) (v := ?_) (a' := ?_) #[true, true, true, true, true, true, true, true, true, true, true, true, true, true, true, true, false] rfl rfl (by kernel_rfl) (fun _ _ _ h => h) (Or.inl ⟨by rfl, ?_⟩) hHeld ?_ ?_
  rotate_left
  · rintro w' ⟨s0, s1, s2, s3, s4, s5, s6⟩
    go_simp
    with_reducible rfl
  rotate_left
  · simp only [Act.put, List.setIfInBounds_toArray, List.set_cons_zero, List.set_cons_succ, i64_w, i32_w]
    rfl
  refine pure_ (i := 16) (N := some 7) (v := ?_) (a' := ?_) #[true, true, true, true, true, true, true, true, true, true, true, true, true, true, true, true, true] rfl rfl (by kernel_rfl) (fun _ _ _ h => h) (Or.inl ⟨by rfl, ?_⟩) ?_ ?_
  rotate_left
  · intro w'
    go_simp
    with_reducible rfl
  rotate_left
  · simp only [Act.put, List.setIfInBounds_toArray, List.set_cons_zero, List.set_cons_succ, i64_w, i32_w]
    rfl
  refine done_ (by kernel_rfl) ?_
  go_wp2
  go_ret
  exact ⟨rfl, 1, rfl⟩
end Go.Proofs.YtpnkcjnemoompaaDoor.Kern
end
section
namespace Go.Proofs.YtpnkcjnemoompaaDoor.Kern
open Go.RowKit Go.Proofs.YtpnkcjnemoompaaDoor Go.Proofs.YtpnkcjnemoompaaDoor.Ext Go.Proofs.YtpnkcjnemoompaaDoor.PPlan Go.Proofs.YtpnkcjnemoompaaDoor.PFft Go.Proofs.YtpnkcjnemoompaaDoor.Pure Go.Proofs.YtpnkcjnemoompaaDoor.Obj Go.Proofs.YtpnkcjnemoompaaDoor.Fft Go.Proofs.YtpnkcjnemoompaaDoorW.PrintWords Go.Proofs.YtpnkcjnemoompaaDoorW.PrintLast Go.Proofs.YtpnkcjnemoompaaDoorW.PrintMore
set_option linter.unusedVariables false
set_option linter.unusedSimpArgs false
set_option maxRecDepth 100000
structure In (w : World) (A : Option Addr) (c : Nat) (l : List Int) : Prop where
  r : Kd.C (Kd.int .u64) w A l.length l
  c : l.length ≤ c
theorem In.below {w W : World} {A : Option Addr} {c : Nat} {l : List Int} (h : In w A c l) (hb : Below w.heap.size w W) : In W A c l := ⟨Kd.C_below h.r hb, h.c⟩
theorem In.of_mr {w : World} {g c : Nat} {l : List Int} (h : Mr w g c l) (hm : l.length ≤ 9223372036854775807) : In w (some ⟨g, 0, none⟩) c l := ⟨h.whole hm, h.len⟩
set_option maxHeartbeats 2000000 in
theorem scale_calls (A : Option Addr) (c : Nat) (l : List Int) (a : Int) (w : World) (hl : In w A c l) (hw : Ws l) (ha : W64 a) (hlen : l.length ≤ 1048576) :
    Calls Tryd.prog 70 #[.slice A l.length c, .int .u64 a] w fun e w' => ∃ g, e = .returned (.slice (some ⟨g, 0, none⟩) l.length l.length) ∧ Rw w' g (tb l.length fun i => el l i * fo a) ∧ Below w.heap.size w w' ∧ w.heap.size ≤ g := by
  have HL := Aside0.mk hl
  have HW := Aside0.mk hw
  have HA := Aside0.mk ha
  clear hl hw ha
  go_enter Tryd.func70, Tryd.ntmps70
  go_wp2_with ((with_reducible refine gate_dst (N := 10) rfl ?_); refine make_row rfl 24 (.tmp 9) (.tmp 9) rfl l.length rfl rfl Tryd.underlying24 info_u64 (by omega) ?_; intro w1 hrow hb hsz; have HR := Aside0.mk (show Rw w1 w.heap.size (fl l.length 0 fun i => el l i * fo a) by rw [fl_zero]; exact hrow); have HB := Aside0.mk hb; have HZ := Aside0.mk hsz; clear hrow hb hsz)
  go_loopw [13] (fun v13 wr => ∃ i : Nat, v13 = .int .i64 i ∧ i ≤ l.length ∧ Aside0 (Rw wr w.heap.size (fl l.length i fun i => el l i * fo a)) ∧ Aside0 (Below w.heap.size w wr)) (fun v13 _ => l.length - (intOf v13).toNat)
  case atStart => exact ⟨0, rfl, Nat.zero_le _, HR, HB⟩
  case round =>
    clear HR HB
    obtain ⟨i, rfl, hi, HR, HB⟩ := hrel
    by_cases h1 : i < l.length
    · obtain ⟨ad, q, hx⟩ := Kd.at_int (HL.out.below HB.out).r (i : Int) (by omega) (by omega)
      cases q
      simp only [Int.toNat_natCast] at hx
      rw [rdn] at hx
      have HM := Aside0.mk (gMul (l.getD i 0) a (HW.out i) HA.out)
      have hia : (i : Int) < (l.length : Int) := by omega
      have HF := Aside0.mk (fl_set (fun i => el l i * fo a) h1 (fv (fo (l.getD i 0) * fo a)) rfl)
      generalize fv (fo (l.getD i 0) * fo a) = y at *
      generalize l.getD i 0 = x at *
      go_wp2_with fail
      with_reducible refine (gold_Mul.calls x a y _ HM.out).mono ?_
      rintro e w2 ⟨rfl, hb⟩
      have HB2 := Aside0.mk (below_then HB.out HB.out.size hb)
      have HR2 := Aside0.mk (HR.out.below hb)
      clear hb hx
      have u1 := HR2.out.cell i (by rw [fl_len _ (by omega)]; exact h1)
      have u2 := Bk.frozen HR2.out i
      go_wp2
      go_roundw
      case rel => exact ⟨i + 1, by go_num, by omega, ⟨by rw [← HF.out]; exact HR2.out.put i y⟩, ⟨HB2.out.setCell (p := ⟨w.heap.size, i, none⟩) (Nat.le_refl _) _⟩⟩
      case measure => simp [intOf]; omega
    · obtain rfl : i = l.length := by omega
      have hia : decide ((l.length : Int) < (l.length : Int)) = false := decide_eq_false (by omega)
      go_wp2
      go_ret
      have hr := HR.out
      rw [fl_full] at hr
      exact ⟨_, rfl, hr, HB.out, Nat.le_refl _⟩
theorem cross_calls (a b c d u : F) (w : World) :
    Calls Tryd.prog 170 #[.int .u64 (fv a), .int .u64 (fv b), .int .u64 (fv c), .int .u64 (fv d), .int .u64 (fv u)] w fun e w' => e = .returned (.agg #[.int .u64 (fv (crs a b c d u 0)), .int .u64 (fv (crs a b c d u 1)), .int .u64 (fv (crs a b c d u 2)), .int .u64 (fv (crs a b c d u 3))]) ∧ Below w.heap.size w w' := by
  have gA : ∀ x y : F, gold_Add.f (fv x) (fv y) = some (fv (x + y)) := fun x y => by have := gAdd (fv x) (fv y) (fv_w _) (fv_w _); rw [fo_fv, fo_fv] at this; exact this
  have gS : ∀ x y : F, gold_Sub.f (fv x) (fv y) = some (fv (x - y)) := fun x y => by have := gSub (fv x) (fv y) (fv_w _) (fv_w _); rw [fo_fv, fo_fv] at this; exact this
  have GA := Aside0.mk gA
  have GS := Aside0.mk gS
  have HB0 := Aside0.mk (below_alloc (Below.refl w.heap.size w) (Obj.cells #[.int .u64 0, .int .u64 0, .int .u64 0, .int .u64 0] 199))
  have HK0 := Aside0.mk (Bk.new w 199 [.int .u64 0, .int .u64 0, .int .u64 0, .int .u64 0])
  clear gA gS
  go_enter Tryd.func170, Tryd.ntmps170
  go_wp2_with fail
  with_reducible refine (gold_Add.calls _ _ _ _ (GA.out a c)).mono ?_
  rintro e w1 ⟨rfl, hb⟩
  have HB1 := Aside0.mk (below_then HB0.out HB0.out.size hb)
  have HK1 := Aside0.mk (HK0.out.below hb)
  clear hb HB0 HK0
  go_wp2_with fail
  with_reducible refine (gold_Sub.calls _ _ _ _ (GS.out a c)).mono ?_
  rintro e w2 ⟨rfl, hb⟩
  have HB2 := Aside0.mk (below_then HB1.out HB1.out.size hb)
  have HK2 := Aside0.mk (HK1.out.below hb)
  clear hb HB1 HK1
  go_wp2_with fail
  with_reducible refine (gold_Add.calls _ _ _ _ (GA.out b d)).mono ?_
  rintro e w3 ⟨rfl, hb⟩
  have HB3 := Aside0.mk (below_then HB2.out HB2.out.size hb)
  have HK3 := Aside0.mk (HK2.out.below hb)
  clear hb HB2 HK2
  go_wp2_with fail
  with_reducible refine (gold_Sub.calls _ _ _ _ (GS.out b d)).mono ?_
  rintro e w4 ⟨rfl, hb⟩
  have HB4 := Aside0.mk (below_then HB3.out HB3.out.size hb)
  have HK4 := Aside0.mk (HK3.out.below hb)
  clear hb HB3 HK3
  go_wp2_with fail
  with_reducible refine (gold_Mul.calls _ _ _ _ (gMulF u (b - d))).mono ?_
  rintro e w5 ⟨rfl, hb⟩
  have HB5 := Aside0.mk (below_then HB4.out HB4.out.size hb)
  have HK5 := Aside0.mk (HK4.out.below hb)
  clear hb HB4 HK4
  go_wp2_with fail
  with_reducible refine (gold_Add.calls _ _ _ _ (GA.out (a + c) (b + d))).mono ?_
  rintro e w6 ⟨rfl, hb⟩
  have HB6 := Aside0.mk (below_then HB5.out HB5.out.size hb)
  have HK6 := Aside0.mk (HK5.out.below hb)
  clear hb HB5 HK5
  go_wp2_with fail
  with_reducible refine (gold_Add.calls _ _ _ _ (GA.out (a - c) (u * (b - d)))).mono ?_
  rintro e w7 ⟨rfl, hb⟩
  have HB7 := Aside0.mk (below_then HB6.out HB6.out.size hb)
  have HK7 := Aside0.mk (HK6.out.below hb)
  clear hb HB6 HK6
  go_wp2_with fail
  with_reducible refine (gold_Sub.calls _ _ _ _ (GS.out (a + c) (b + d))).mono ?_
  rintro e w8 ⟨rfl, hb⟩
  have HB8 := Aside0.mk (below_then HB7.out HB7.out.size hb)
  have HK8 := Aside0.mk (HK7.out.below hb)
  clear hb HB7 HK7
  go_wp2_with fail
  with_reducible refine (gold_Sub.calls _ _ _ _ (GS.out (a - c) (u * (b - d)))).mono ?_
  rintro e w9 ⟨rfl, hb⟩
  have HB9 := Aside0.mk (below_then HB8.out HB8.out.size hb)
  have HK9 := Aside0.mk (HK8.out.below hb)
  clear hb HB8 HK8
  have z0 := HK9.out.cell 0
  have z1 := HK9.out.cell 1
  have z2 := HK9.out.cell 2
  have z3 := HK9.out.cell 3
  have f0 := HK9.out.frozen 0
  have f1 := HK9.out.frozen 1
  have f2 := HK9.out.frozen 2
  have f3 := HK9.out.frozen 3
  go_wp2
  refine bodyPost_ret (results_cell_row rfl _ _ w.heap.size 199 #[.int .u64 (fv (a + c + (b + d))), .int .u64 (fv (a - c + u * (b - d))), .int .u64 (fv (a + c - (b + d))), .int .u64 (fv (a - c - u * (b - d)))] (0, 0) _ rfl ((((HK9.out.put 0 _).put 1 _).put 2 _).put 3 _) Tryd.underlying199 rfl (by kernel_rfl)) rfl ⟨rfl, ?_⟩
  have hs : w.heap.size ≤ w.heap.size := Nat.le_refl _
  exact below_set (below_set (below_set (below_set HB9.out hs) hs) hs) hs
end Go.Proofs.YtpnkcjnemoompaaDoor.Kern
end
section
namespace Go.Proofs.YtpnkcjnemoompaaDoor.Kern
open Go.RowKit Go.Proofs.YtpnkcjnemoompaaDoor Go.Proofs.YtpnkcjnemoompaaDoor.Ext Go.Proofs.YtpnkcjnemoompaaDoor.PPlan Go.Proofs.YtpnkcjnemoompaaDoor.PFft Go.Proofs.YtpnkcjnemoompaaDoor.Pure Go.Proofs.YtpnkcjnemoompaaDoor.Obj Go.Proofs.YtpnkcjnemoompaaDoor.Fft Go.Proofs.YtpnkcjnemoompaaDoorW.PrintWords Go.Proofs.YtpnkcjnemoompaaDoorW.PrintLast Go.Proofs.YtpnkcjnemoompaaDoorW.PrintMore
set_option linter.unusedVariables false
set_option linter.unusedSimpArgs false
set_option maxRecDepth 100000
theorem wrapb {x : Int} {a : Nat} (h : x = (a : Int)) (ha : a ≤ 9223372036854775807) : IntKind.i64.wrap x = (a : Int) ∧ wrap64 x = (a : Int) := by rw [i64_w]; exact ⟨wrapn h ha, wrapn h ha⟩
def tgq (s m : Nat) (W U : F) (f : Nat → F) (i q r : Nat) : F := crs (f (q + s * i)) (f (q + s * (i + m))) (f (q + s * (i + 2 * m))) (f (q + s * (i + 3 * m))) U r * pw W (s * (i * r))
def Dn (s m : Nat) (tg : Nat → Nat → Nat → F) (ys : List Int) (i q : Nat) : Prop := ∀ i' q' r, q' < s → r < 4 → i' < m → (i' < i ∨ i' = i ∧ q' < q) → ys.getD (q' + s * (4 * i' + r)) 0 = fv (tg i' q' r)
theorem Dn.start (s m : Nat) (tg : Nat → Nat → Nat → F) (ys : List Int) : Dn s m tg ys 0 0 := fun i' q' r _ _ _ h => by omega
theorem Dn.row {s m : Nat} {tg : Nat → Nat → Nat → F} {ys : List Int} {i : Nat} (h : Dn s m tg ys i s) : Dn s m tg ys (i + 1) 0 := fun i' q' r hq hr hi h' => h i' q' r hq hr hi (by omega)
theorem place_inj {s a b x y : Nat} (ha : a < s) (hb : b < s) (h : a + s * x = b + s * y) : a = b ∧ x = y := by
  have h1 : (a + s * x) % s = a := by rw [Nat.add_mul_mod_self_left, Nat.mod_eq_of_lt ha]
  have h2 : (b + s * y) % s = b := by rw [Nat.add_mul_mod_self_left, Nat.mod_eq_of_lt hb]
  have e : a = b := by rw [← h1, h, h2]
  subst e
  exact ⟨rfl, Nat.eq_of_mul_eq_mul_left (by omega) (Nat.add_left_cancel h)⟩
theorem getD_set (ys : List Int) (i j : Nat) (v : Int) (hi : i < ys.length) : (ys.set i v).getD j 0 = if j = i then v else ys.getD j 0 := by
  simp only [List.getD_eq_getElem?_getD, List.getElem?_set]
  by_cases h : i = j
  · subst h; simp [hi]
  · rw [if_neg h, if_neg (fun e => h e.symm)]
theorem Dn.step {s m : Nat} {tg : Nat → Nat → Nat → F} {ys : List Int} {i q : Nat} (h : Dn s m tg ys i q) (hq : q < s) (hi : i < m) (hl : ∀ r, r < 4 → q + s * (4 * i + r) < ys.length) :
    Dn s m tg ((((ys.set (q + s * (4 * i)) (fv (tg i q 0))).set (q + s * (4 * i + 1)) (fv (tg i q 1))).set (q + s * (4 * i + 2)) (fv (tg i q 2))).set (q + s * (4 * i + 3)) (fv (tg i q 3))) i (q + 1) := by
  intro i' q' r hq' hr hi' h'
  have l0 := hl 0 (by omega)
  have l1 := hl 1 (by omega)
  have l2 := hl 2 (by omega)
  have l3 := hl 3 (by omega)
  rw [Nat.add_zero] at l0
  rw [getD_set _ _ _ _ (by simp only [List.length_set]; exact l3), getD_set _ _ _ _ (by simp only [List.length_set]; exact l2), getD_set _ _ _ _ (by simp only [List.length_set]; exact l1), getD_set _ _ _ _ l0]
  have key : ∀ r', q' + s * (4 * i' + r) = q + s * (4 * i + r') → r' < 4 → i' = i ∧ q' = q ∧ r = r' := fun r' e hr' => by
    obtain ⟨e1, e2⟩ := place_inj hq' hq e
    omega
  by_cases c3 : q' + s * (4 * i' + r) = q + s * (4 * i + 3)
  · obtain ⟨rfl, rfl, rfl⟩ := key 3 c3 (by omega)
    rw [if_pos rfl]
  rw [if_neg c3]
  by_cases c2 : q' + s * (4 * i' + r) = q + s * (4 * i + 2)
  · obtain ⟨rfl, rfl, rfl⟩ := key 2 c2 (by omega)
    rw [if_pos rfl]
  rw [if_neg c2]
  by_cases c1 : q' + s * (4 * i' + r) = q + s * (4 * i + 1)
  · obtain ⟨rfl, rfl, rfl⟩ := key 1 c1 (by omega)
    rw [if_pos rfl]
  rw [if_neg c1]
  by_cases c0 : q' + s * (4 * i' + r) = q + s * (4 * i)
  · obtain ⟨rfl, rfl, rfl⟩ := key 0 c0 (by omega)
    exact if_pos rfl
  rw [if_neg c0]
  refine h i' q' r hq' hr hi' ?_
  rcases h' with h' | ⟨rfl, h'⟩
  · exact .inl h'
  · refine .inr ⟨rfl, ?_⟩
    by_cases e : q' = q
    · subst e
      rcases (by omega : r = 0 ∨ r = 1 ∨ r = 2 ∨ r = 3) with rfl | rfl | rfl | rfl
      · exact absurd rfl c0
      · exact absurd rfl c1
      · exact absurd rfl c2
      · exact absurd rfl c3
    · omega
structure Qst (w0 w : World) (P gp cp gs cs gd cd bp bn bs n s N : Nat) (W U : F) (f : Nat → F) (ys : List Int) : Prop where
  ps : Bk w P 196 [.slice (some ⟨gp, 0, none⟩) N cp, .int .u64 (fv U), .slice (some ⟨gs, 0, none⟩) N cs, .slice (some ⟨gd, 0, none⟩) N cd]
  pow : Mr w gp cp (tb N (pw W))
  src : Mr w gs cs (tb N f)
  dst : Mr w gd cd ys
  len : ys.length = N
  bp : Bk w bp 194 [.pointer (some ⟨P, 0, none⟩)]
  bn : Bk w bn 3 [.int .i64 (n : Int)]
  bs : Bk w bs 3 [.int .i64 (s : Int)]
  fr : Fr w0 w [gd]
  n1 : gd ≠ gp
  n2 : gd ≠ gs
section
variable {w0 w w1 : World} {P gp cp gs cs gd cd bp bn bs n s N : Nat} {W U : F} {f : Nat → F} {ys : List Int}
theorem Qst.below (h : Qst w0 w P gp cp gs cs gd cd bp bn bs n s N W U f ys) (hb : Below w.heap.size w w1) : Qst w0 w1 P gp cp gs cs gd cd bp bn bs n s N W U f ys :=
  ⟨h.ps.below hb, h.pow.below hb, h.src.below hb, h.dst.below hb, h.len, h.bp.below hb, h.bn.below hb, h.bs.below hb, h.fr.trans (Fr.of_below hb [gd]), h.n1, h.n2⟩
theorem Qst.put (h : Qst w0 w P gp cp gs cs gd cd bp bn bs n s N W U f ys) (i : Nat) (x : Int) : Qst w0 (w.setCell ⟨gd, i, none⟩ (.int .u64 x)) P gp cp gs cs gd cd bp bn bs n s N W U f (ys.set i x) :=
  ⟨h.ps.far i _ (h.dst.ne h.ps (by decide)), h.pow.far _ _ _ (Ne.symm h.n1), h.src.far _ _ _ (Ne.symm h.n2), h.dst.put i x, by rw [List.length_set]; exact h.len, h.bp.far i _ (h.dst.ne h.bp (by decide)), h.bn.far i _ (h.dst.ne h.bn (by decide)), h.bs.far i _ (h.dst.ne h.bs (by decide)), h.fr.set gd i _ (.inl (by simp)), h.n1, h.n2⟩
end
theorem place_lt {q s x n N : Nat} (hq : q < s) (hx : x < n) (hN : n * s = N) : q + s * x < N := by
  have h1 : s * (x + 1) ≤ s * n := Nat.mul_le_mul_left s hx
  rw [Nat.mul_comm s n, hN, Nat.mul_add, Nat.mul_one] at h1
  omega
theorem at_q (j : Int) (jn i q a2 m bq bi : Nat) {w0 w : World} {P gp cp gs cs gd cd bp bn bs n s N : Nat} {W U : F} {f : Nat → F} {ys : List Int} (h : Qst w0 w P gp cp gs cs gd cd bp bn bs n s N W U f ys) (hq : Bk w bq 3 [.int .i64 (q : Int)]) (hi : Bk w bi 3 [.int .i64 (i : Int)])
    (ej : j = (jn : Int)) (hj : jn < 4) (him : i < m) (hqs : q < s) (hn : n = 4 * m) (hN : n * s = N) (hN2 : N ≤ 1048576) (e2 : i + jn * m = a2) (hn2 : n ≤ 1048576) :
    Calls Tryd.prog 169 #[.int .i64 j, .pointer (some ⟨bp, 0, none⟩), .pointer (some ⟨bq, 0, none⟩), .pointer (some ⟨bs, 0, none⟩), .pointer (some ⟨bi, 0, none⟩), .pointer (some ⟨bn, 0, none⟩)] w fun e w' => e = .returned (.int .u64 (fv (f (q + s * a2)))) ∧ Below w.heap.size w w' := by
  have ha : a2 < n := by
    rcases (by omega : jn = 0 ∨ jn = 1 ∨ jn = 2 ∨ jn = 3) with rfl | rfl | rfl | rfl <;> omega
  have ht := place_lt hqs ha hN
  have hv := h.src.cell (q + s * a2) (by rw [tb_len]; exact ht)
  rw [tb_get f ht] at hv
  exact (at_calls j jn i q s m n N _ a2 _ _ P gs cs bp bq bs bi bn _ w ej hn rfl e2 rfl rfl ht hN2 (by omega) hn2 (h.bp.cell 0) (h.ps.cell 2) (hq.cell 0) (h.bs.cell 0) (hi.cell 0) (h.bn.cell 0) hv).mono fun e w' ⟨he, k, hk⟩ => ⟨he, by rw [hk]; exact pw_below_drewN (Below.refl _ _) k⟩
structure Cst (w0 w : World) (P gp cp gs cs gd cd bp bn bs n s N : Nat) (W U : F) (f : Nat → F) (ys : List Int) (bi bq ba i q : Nat) (y0 y1 y2 y3 : F) : Prop where
  st : Qst w0 w P gp cp gs cs gd cd bp bn bs n s N W U f ys
  bi : Bk w bi 3 [.int .i64 (i : Int)]
  bq : Bk w bq 3 [.int .i64 (q : Int)]
  ba : Bk w ba 199 [.int .u64 (fv y0), .int .u64 (fv y1), .int .u64 (fv y2), .int .u64 (fv y3)]
section
variable {w0 w w1 : World} {P gp cp gs cs gd cd bp bn bs n s N : Nat} {W U : F} {f : Nat → F} {ys : List Int} {bi bq ba i q : Nat} {y0 y1 y2 y3 : F}
theorem Cst.below (h : Cst w0 w P gp cp gs cs gd cd bp bn bs n s N W U f ys bi bq ba i q y0 y1 y2 y3) (hb : Below w.heap.size w w1) : Cst w0 w1 P gp cp gs cs gd cd bp bn bs n s N W U f ys bi bq ba i q y0 y1 y2 y3 := ⟨h.st.below hb, h.bi.below hb, h.bq.below hb, h.ba.below hb⟩
theorem Cst.put (h : Cst w0 w P gp cp gs cs gd cd bp bn bs n s N W U f ys bi bq ba i q y0 y1 y2 y3) (j : Nat) (x : Int) : Cst w0 (w.setCell ⟨gd, j, none⟩ (.int .u64 x)) P gp cp gs cs gd cd bp bn bs n s N W U f (ys.set j x) bi bq ba i q y0 y1 y2 y3 :=
  ⟨h.st.put j x, h.bi.far j _ (h.st.dst.ne h.bi (by decide)), h.bq.far j _ (h.st.dst.ne h.bq (by decide)), h.ba.far j _ (h.st.dst.ne h.ba (by decide))⟩
end
theorem Qst.far {w0 w : World} {P gp cp gs cs gd cd bp bn bs n s N : Nat} {W U : F} {f : Nat → F} {ys : List Int} (h : Qst w0 w P gp cp gs cs gd cd bp bn bs n s N W U f ys) (b t : Nat) (cs' : List Value) (hb : Bk w b t cs') (h1 : t = 199) (hz : w0.heap.size ≤ b) (j : Nat) (u : Value) : Qst w0 (w.setCell ⟨b, j, none⟩ u) P gp cp gs cs gd cd bp bn bs n s N W U f ys := by
  subst h1
  exact ⟨h.ps.far j u (h.ps.ne hb (by decide)), h.pow.far b j u (Ne.symm (h.pow.ne hb (by decide))), h.src.far b j u (Ne.symm (h.src.ne hb (by decide))), h.dst.far b j u (Ne.symm (h.dst.ne hb (by decide))), h.len, h.bp.far j u (h.bp.ne hb (by decide)), h.bn.far j u (h.bn.ne hb (by decide)), h.bs.far j u (h.bs.ne hb (by decide)), h.fr.set b j u (.inr hz), h.n1, h.n2⟩
theorem Cst.made {w0 w : World} {P gp cp gs cs gd cd bp bn bs n s N : Nat} {W U : F} {f : Nat → F} {ys : List Int} {bi bq ba i q : Nat} (h : Qst w0 w P gp cp gs cs gd cd bp bn bs n s N W U f ys) (hi : Bk w bi 3 [.int .i64 (i : Int)]) (hq : Bk w bq 3 [.int .i64 (q : Int)]) (ha : Bk w ba 199 [.int .u64 0, .int .u64 0, .int .u64 0, .int .u64 0]) (hz : w0.heap.size ≤ ba) (y0 y1 y2 y3 : F) :
    Cst w0 ((((w.setCell ⟨ba, 0, none⟩ (.int .u64 (fv y0))).setCell ⟨ba, 1, none⟩ (.int .u64 (fv y1))).setCell ⟨ba, 2, none⟩ (.int .u64 (fv y2))).setCell ⟨ba, 3, none⟩ (.int .u64 (fv y3))) P gp cp gs cs gd cd bp bn bs n s N W U f ys bi bq ba i q y0 y1 y2 y3 := by
  have a1 := ha.put 0 (.int .u64 (fv y0))
  have a2 := a1.put 1 (.int .u64 (fv y1))
  have a3 := a2.put 2 (.int .u64 (fv y2))
  have a4 := a3.put 3 (.int .u64 (fv y3))
  have ei := hi.ne ha (by decide)
  have eq := hq.ne ha (by decide)
  exact ⟨(((h.far ba _ _ ha rfl hz 0 _).far ba _ _ a1 rfl hz 1 _).far ba _ _ a2 rfl hz 2 _).far ba _ _ a3 rfl hz 3 _, (((hi.far 0 _ ei).far 1 _ ei).far 2 _ ei).far 3 _ ei, (((hq.far 0 _ eq).far 1 _ eq).far 2 _ eq).far 3 _ eq, a4⟩
theorem Dn.next {s m i q : Nat} {W U : F} {f : Nat → F} {ys : List Int} (h : Dn s m (tgq s m W U f) ys i q) (hq : q < s) (hi : i < m) {n N : Nat} (hn : n = 4 * m) (hN : n * s = N) (hl : ys.length = N) {x1 x2 x3 t0 t1 t2 t3 : Nat} (e1 : x1 = i * s) (e2 : x2 = 2 * i * s) (e3 : x3 = 3 * i * s) (g0 : t0 = q + s * (4 * i)) (g1 : t1 = t0 + s) (g2 : t2 = t0 + 2 * s) (g3 : t3 = t0 + 3 * s) {y0 y1 y2 y3 : F}
    (c0 : crs (f (q + s * i)) (f (q + s * (i + m))) (f (q + s * (i + 2 * m))) (f (q + s * (i + 3 * m))) U 0 = y0) (c1 : crs (f (q + s * i)) (f (q + s * (i + m))) (f (q + s * (i + 2 * m))) (f (q + s * (i + 3 * m))) U 1 = y1) (c2 : crs (f (q + s * i)) (f (q + s * (i + m))) (f (q + s * (i + 2 * m))) (f (q + s * (i + 3 * m))) U 2 = y2) (c3 : crs (f (q + s * i)) (f (q + s * (i + m))) (f (q + s * (i + 2 * m))) (f (q + s * (i + 3 * m))) U 3 = y3) :
    Dn s m (tgq s m W U f) ((((ys.set t0 (fv y0)).set t1 (fv (y1 * pw W x1))).set t2 (fv (y2 * pw W x2))).set t3 (fv (y3 * pw W x3))) i (q + 1) := by
  have hs := h.step hq hi (fun r hr => by rw [hl]; exact place_lt hq (by omega) hN)
  have v0 : tgq s m W U f i q 0 = y0 := by unfold tgq; rw [c0, Nat.mul_zero, Nat.mul_zero, pw_zero]; grobner
  have v1 : tgq s m W U f i q 1 = y1 * pw W x1 := by unfold tgq; rw [c1, e1, Nat.mul_one, Nat.mul_comm s i]
  have v2 : tgq s m W U f i q 2 = y2 * pw W x2 := by unfold tgq; rw [c2, e2, Nat.mul_comm s (i * 2), Nat.mul_comm i 2]
  have v3 : tgq s m W U f i q 3 = y3 * pw W x3 := by unfold tgq; rw [c3, e3, Nat.mul_comm s (i * 3), Nat.mul_comm i 3]
  rw [v0, v1, v2, v3] at hs
  have p1 : t1 = q + s * (4 * i + 1) := by rw [Nat.mul_add]; omega
  have p2 : t2 = q + s * (4 * i + 2) := by rw [Nat.mul_add]; omega
  have p3 : t3 = q + s * (4 * i + 3) := by rw [Nat.mul_add]; omega
  rw [g0, p1, p2, p3]
  exact hs
set_option maxHeartbeats 16000000 in
theorem quarter_calls (P gp cp gs cs gd cd n m s N : Nat) (W U : F) (f : Nat → F) (ys : List Int) (w : World) (hn : n = 4 * m) (hm : 0 < m) (hN : n * s = N) (hN2 : N ≤ 1048576) (hs : 0 < s)
    (hps : Bk w P 196 [.slice (some ⟨gp, 0, none⟩) N cp, .int .u64 (fv U), .slice (some ⟨gs, 0, none⟩) N cs, .slice (some ⟨gd, 0, none⟩) N cd])
    (hpw : Mr w gp cp (tb N (pw W))) (hsrc : Mr w gs cs (tb N f)) (hdst : Mr w gd cd ys) (hy : ys.length = N) (n1 : gd ≠ gp) (n2 : gd ≠ gs) :
    Calls Tryd.prog 165 #[.pointer (some ⟨P, 0, none⟩), .int .i64 (n : Int), .int .i64 (s : Int)] w fun e w' => e = .returned (.tuple #[]) ∧ ∃ ys', ys'.length = N ∧ Dn s m (tgq s m W U f) ys' m 0 ∧ Fr w w' [gd, P] ∧
      Bk w' P 196 [.slice (some ⟨gp, 0, none⟩) N cp, .int .u64 (fv U), .slice (some ⟨gd, 0, none⟩) N cd, .slice (some ⟨gs, 0, none⟩) N cs] ∧ Mr w' gs cs (tb N f) ∧ Mr w' gd cd ys' := by
  have hw3 : Qst w (((w.alloc (.cells #[.pointer (some ⟨P, 0, none⟩)] 194)).alloc (.cells #[.int .i64 (n : Int)] 3)).alloc (.cells #[.int .i64 (s : Int)] 3)) P gp cp gs cs gd cd w.heap.size (w.heap.size + 1) (w.heap.size + 1 + 1) n s N W U f ys := by
    have b1 := below_alloc (Below.refl w.heap.size w) (.cells #[.pointer (some ⟨P, 0, none⟩)] 194)
    have b2 := below_alloc b1 (.cells #[.int .i64 (n : Int)] 3)
    have b3 := below_alloc b2 (.cells #[.int .i64 (s : Int)] 3)
    have e1 := Bk.new w 194 [.pointer (some ⟨P, 0, none⟩)]
    have e2 := Bk.new (w.alloc (.cells #[.pointer (some ⟨P, 0, none⟩)] 194)) 3 [.int .i64 (n : Int)]
    have e3 := Bk.new ((w.alloc (.cells #[.pointer (some ⟨P, 0, none⟩)] 194)).alloc (.cells #[.int .i64 (n : Int)] 3)) 3 [.int .i64 (s : Int)]
    simp only [World.size_alloc] at e2 e3
    exact ⟨hps.below b3, hpw.below b3, hsrc.below b3, hdst.below b3, hy, (e1.alloc _).alloc _, e2.alloc _, e3, Fr.of_below b3 [gd], n1, n2⟩
  have HQ := Aside0.mk hw3
  have HN := Aside0.mk hN
  have Hn := Aside0.mk hn
  have Hm := Aside0.mk hm
  have Hs := Aside0.mk hs
  have H2 := Aside0.mk hN2
  clear hw3 hps hpw hsrc hdst n1 n2 hy hN hn hm hs hN2
  go_enter Tryd.func165, Tryd.ntmps165
  go_wp2_with fail
  obtain ⟨W0, hW0⟩ : ∃ W0, W0 = ((w.alloc (.cells #[.pointer (some ⟨P, 0, none⟩)] 194)).alloc (.cells #[.int .i64 (n : Int)] 3)).alloc (.cells #[.int .i64 (s : Int)] 3) := ⟨_, rfl⟩
  rw [← hW0] at HQ ⊢
  obtain ⟨bp, hbp⟩ : ∃ b, b = w.heap.size := ⟨_, rfl⟩
  obtain ⟨bn, hbn⟩ : ∃ b, b = w.heap.size + 1 := ⟨_, rfl⟩
  obtain ⟨bs, hbs⟩ : ∃ b, b = w.heap.size + 1 + 1 := ⟨_, rfl⟩
  rw [← hbs, ← hbn, ← hbp] at HQ ⊢
  clear hW0 hbp hbn hbs
  have hn0 : (n = 0) = False := eq_false (by have := Hn.out; have := Hm.out; omega)
  have hdiv : (N : Int) / (n : Int) = (s : Int) := by
    rw [← HN.out, Int.natCast_mul, Int.mul_ediv_cancel_left _ (by have := Hn.out; have := Hm.out; omega)]
  have hs2 : s ≤ 1048576 := by
    have := HN.out
    have h4 : s ≤ n * s := Nat.le_mul_of_pos_left _ (by have := Hn.out; have := Hm.out; omega)
    have := H2.out
    omega
  have hn2 : n ≤ 1048576 := by
    have := HN.out
    have h4 : n ≤ n * s := Nat.le_mul_of_pos_right _ Hs.out
    have := H2.out
    omega
  have hm2 : m ≤ 1048576 := by have := Hn.out; omega
  obtain ⟨kA, kB⟩ := wrapb hdiv (show s ≤ 9223372036854775807 by omega)
  clear hdiv
  refine start_ (n := 8) (S := fun w' => w'.cell? ⟨bp, 0, none⟩ = some (.pointer (some ⟨P, 0, none⟩)) ∧ w'.cell? ⟨P, 2, none⟩ = some (.slice (some ⟨gs, 0, none⟩) N cs) ∧ w'.cell? ⟨bn, 0, none⟩ = some (.int .i64 (n : Int))) (ds := []) #[false, false, false, false, false, false, false, false] (by kernel_rfl) rfl rfl ⟨HQ.out.bp.cell 0, HQ.out.ps.cell 2, HQ.out.bn.cell 0⟩ (fun hHeld => ?_)
  refine take_ (i := 0) (N := some 15) (v := ?_) (a' := ?_) #[true, false, false, false, false, false, false, false] rfl rfl (by kernel_rfl) (fun _ _ _ h => h) (Or.inl ⟨by rfl, ?_⟩) hHeld ?_ ?_
  rotate_left
  · rintro w' ⟨s0, s1, s2⟩
    go_simp
    with_reducible rfl
  rotate_left
  · simp only [Act.put, List.setIfInBounds_toArray, List.set_cons_zero, List.set_cons_succ, i64_w, i32_w]
    rfl
  refine pure_ (i := 1) (N := some 16) (v := ?_) (a' := ?_) #[true, true, false, false, false, false, false, false] rfl rfl (by kernel_rfl) (fun _ _ _ h => h) (Or.inl ⟨by rfl, ?_⟩) ?_ ?_
  rotate_left
  · intro w'
    go_simp
    with_reducible rfl
  rotate_left
  · simp only [Act.put, List.setIfInBounds_toArray, List.set_cons_zero, List.set_cons_succ, i64_w, i32_w]
    rfl
  refine pure_ (i := 2) (N := some 17) (v := ?_) (a' := ?_) #[true, true, true, false, false, false, false, false] rfl rfl (by kernel_rfl) (fun _ _ _ h => h) (Or.inl ⟨by rfl, ?_⟩) ?_ ?_
  rotate_left
  · intro w'
    go_simp
    with_reducible rfl
  rotate_left
  · simp only [Act.put, List.setIfInBounds_toArray, List.set_cons_zero, List.set_cons_succ, i64_w, i32_w]
    rfl
  refine take_ (i := 3) (N := some 18) (v := ?_) (a' := ?_) #[true, true, true, true, false, false, false, false] rfl rfl (by kernel_rfl) (fun _ _ _ h => h) (Or.inl ⟨by rfl, ?_⟩) hHeld ?_ ?_
  rotate_left
  · rintro w' ⟨s0, s1, s2⟩
    go_simp
    with_reducible rfl
  rotate_left
  · simp only [Act.put, List.setIfInBounds_toArray, List.set_cons_zero, List.set_cons_succ, i64_w, i32_w]
    rfl
  refine pure_ (i := 4) (N := some 19) (v := ?_) (a' := ?_) #[true, true, true, true, true, false, false, false] rfl rfl (by kernel_rfl) (fun _ _ _ h => h) (Or.inl ⟨by rfl, ?_⟩) ?_ ?_
  rotate_left
  · intro w'
    go_simp
    with_reducible rfl
  rotate_left
  · simp only [Act.put, List.setIfInBounds_toArray, List.set_cons_zero, List.set_cons_succ, i64_w, i32_w]
    rfl
  refine take_ (i := 5) (N := some 20) (v := ?_) (a' := ?_) #[true, true, true, true, true, true, false, false] rfl rfl (by kernel_rfl) (fun _ _ _ h => h) (Or.inl ⟨by rfl, ?_⟩) hHeld ?_ ?_
  rotate_left
  · rintro w' ⟨s0, s1, s2⟩
    go_simp
    with_reducible rfl
  rotate_left
  · simp only [Act.put, List.setIfInBounds_toArray, List.set_cons_zero, List.set_cons_succ, i64_w, i32_w]
    rfl
  refine pure_ (i := 6) (N := some 21) (v := ?_) (a' := ?_) #[true, true, true, true, true, true, true, false] rfl rfl (by kernel_rfl) (fun _ _ _ h => h) (Or.inl ⟨by rfl, ?_⟩) ?_ ?_
  rotate_left
  · intro w'
    go_simp
    with_reducible rfl
  rotate_left
  · simp only [Act.put, List.setIfInBounds_toArray, List.set_cons_zero, List.set_cons_succ, i64_w, i32_w]
    rfl
  refine pure_ (i := 7) (N := some 6) (v := ?_) (a' := ?_) #[true, true, true, true, true, true, true, true] rfl rfl (by kernel_rfl) (fun _ _ _ h => h) (Or.inl ⟨by rfl, ?_⟩) ?_ ?_
  rotate_left
  · intro w'
    go_simp
    with_reducible rfl
  rotate_left
  · simp only [Act.put, List.setIfInBounds_toArray, List.set_cons_zero, List.set_cons_succ, i64_w, i32_w]
    rfl
  refine done_ (by kernel_rfl) ?_
  clear hHeld kA kB hn0
  have HQ1 := Aside0.mk (HQ.out.below (below_drew1 (Below.refl _ _)))
  have u1 := HQ1.out.bn.cell 0
  obtain ⟨kA, kB⟩ := wrapb (show (n : Int) / 4 = (m : Int) by have := Hn.out; omega) (show m ≤ 9223372036854775807 by have := Hn.out; omega)
  go_wp2
  clear kA kB u1 HQ
  go_loopw [24] (fun v24 wr => ∃ (i : Nat) (ys : List Int), v24 = .int .i64 i ∧ i ≤ m ∧ Aside0 (Qst w wr P gp cp gs cs gd cd bp bn bs n s N W U f ys) ∧ Aside0 (Dn s m (tgq s m W U f) ys i 0)) (fun v24 _ => m - (intOf v24).toNat)
  case atStart => exact ⟨0, ys, rfl, Nat.zero_le _, HQ1, ⟨Dn.start _ _ _ _⟩⟩
  case round =>
    clear HQ1
    obtain ⟨i, ys, rfl, hi, HQ, HD⟩ := hrel
    by_cases h1 : i < m
    · have hia : (i : Int) < (m : Int) := by omega
      go_wp2_with fail
      obtain ⟨bi, hbi⟩ : ∃ b, b = wr.heap.size := ⟨_, rfl⟩
      obtain ⟨wi, hwi⟩ : ∃ w', w' = wr.alloc (.cells #[.int .i64 (i : Int)] 3) := ⟨_, rfl⟩
      have HBi : Aside0 (Bk wi bi 3 [.int .i64 (i : Int)]) := ⟨by rw [hwi, hbi]; exact Bk.new wr 3 [.int .i64 (i : Int)]⟩
      have HQi : Aside0 (Qst w wi P gp cp gs cs gd cd bp bn bs n s N W U f ys) := ⟨by rw [hwi]; exact HQ.out.below (below_alloc (Below.refl _ _) _)⟩
      rw [← hwi, ← hbi]
      clear HQ hwi hbi
      have him4 : i < n := by have := Hn.out; omega
      obtain ⟨x1, e1⟩ : ∃ x, x = i * s := ⟨_, rfl⟩
      obtain ⟨c2, f2⟩ : ∃ x, x = 2 * i := ⟨_, rfl⟩
      obtain ⟨c3, f3⟩ : ∃ x, x = 3 * i := ⟨_, rfl⟩
      obtain ⟨x2, e2⟩ : ∃ x, x = c2 * s := ⟨_, rfl⟩
      obtain ⟨x3, e3⟩ : ∃ x, x = c3 * s := ⟨_, rfl⟩
      have l3 : x3 < N := by
        rw [e3, f3, ← HN.out]
        exact Nat.mul_lt_mul_of_pos_right (by have := Hn.out; omega) Hs.out
      have l1 : x1 ≤ x3 := by rw [e1, e3]; exact Nat.mul_le_mul_right _ (by omega)
      have l2 : x2 ≤ x3 := by rw [e2, e3]; exact Nat.mul_le_mul_right _ (by omega)
      have l4 := H2.out
      have g1 := Aside0.mk (HQi.out.pow.cell x1 (by rw [tb_len]; omega))
      have g2 := Aside0.mk (HQi.out.pow.cell x2 (by rw [tb_len]; omega))
      have g3 := Aside0.mk (HQi.out.pow.cell x3 (by rw [tb_len]; omega))
      rw [tb_get _ (by omega)] at g1 g2 g3
      have o1 : (0 : Int) ≤ (x1 : Int) ∧ (x1 : Int) < (N : Int) := by omega
      have o2 : (0 : Int) ≤ (x2 : Int) ∧ (x2 : Int) < (N : Int) := by omega
      have o3 : (0 : Int) ≤ (x3 : Int) ∧ (x3 : Int) < (N : Int) := by omega
      have E1 := Aside0.mk e1
      have E2 := Aside0.mk (show x2 = 2 * i * s by rw [e2, f2])
      have E3 := Aside0.mk (show x3 = 3 * i * s by rw [e3, f3])
      obtain ⟨k1, k2, k3, k4, k5⟩ : (IntKind.i64.wrap ((i : Int) * (s : Int)) = (x1 : Int) ∧ wrap64 ((i : Int) * (s : Int)) = (x1 : Int)) ∧ (IntKind.i64.wrap (2 * (i : Int)) = (c2 : Int) ∧ wrap64 (2 * (i : Int)) = (c2 : Int)) ∧ (IntKind.i64.wrap ((c2 : Int) * (s : Int)) = (x2 : Int) ∧ wrap64 ((c2 : Int) * (s : Int)) = (x2 : Int)) ∧ (IntKind.i64.wrap (3 * (i : Int)) = (c3 : Int) ∧ wrap64 (3 * (i : Int)) = (c3 : Int)) ∧ (IntKind.i64.wrap ((c3 : Int) * (s : Int)) = (x3 : Int) ∧ wrap64 ((c3 : Int) * (s : Int)) = (x3 : Int)) :=
        ⟨wrapb (by rw [← Int.natCast_mul, e1]) (by omega), wrapb (by omega) (by omega), wrapb (by rw [← Int.natCast_mul, e2]) (by omega), wrapb (by omega) (by omega), wrapb (by rw [← Int.natCast_mul, e3]) (by omega)⟩
      clear e1 e2 e3 f2 f3 l1 l2 l3 l4 him4
      obtain ⟨o1, o1'⟩ := o1
      obtain ⟨o2, o2'⟩ := o2
      obtain ⟨o3, o3'⟩ := o3
      obtain ⟨k1, k1'⟩ := k1
      obtain ⟨k2, k2'⟩ := k2
      obtain ⟨k3, k3'⟩ := k3
      obtain ⟨k4, k4'⟩ := k4
      obtain ⟨k5, k5'⟩ := k5
      refine start_ (n := 32) (S := fun w' => w'.cell? ⟨bp, 0, none⟩ = some (.pointer (some ⟨P, 0, none⟩)) ∧ w'.cell? ⟨P, 0, none⟩ = some (.slice (some ⟨gp, 0, none⟩) N cp) ∧ w'.cell? ⟨bi, 0, none⟩ = some (.int .i64 (i : Int)) ∧ w'.cell? ⟨gp, x1, none⟩ = some (.int .u64 (fv (pw W x1))) ∧ w'.cell? ⟨gp, x2, none⟩ = some (.int .u64 (fv (pw W x2))) ∧ w'.cell? ⟨gp, x3, none⟩ = some (.int .u64 (fv (pw W x3)))) (ds := []) #[false, false, false, false, false, false, false, false, false, false, false, false, false, false, false, false, false, false, false, false, false, false, false, false, false, false, false, false, false, false, false, false] (by kernel_rfl) rfl rfl ⟨HQi.out.bp.cell 0, HQi.out.ps.cell 0, HBi.out.cell 0, g1.out, g2.out, g3.out⟩ (fun hHeld => ?_)
      refine pure_ (i := 5) (N := some 32) (v := ?_) (a' := ?_) #[false, false, false, false, false, true, false, false, false, false, false, false, false, false, false, false, false, false, false, false, false, false, false, false, false, false, false, false, false, false, false, false] rfl rfl (by kernel_rfl) (fun _ _ _ h => h) (Or.inl ⟨by rfl, ?_⟩) ?_ ?_
      rotate_left
      · intro w'
        go_simp
        with_reducible rfl
      rotate_left
      · simp only [Act.put, List.setIfInBounds_toArray, List.set_cons_zero, List.set_cons_succ, i64_w, i32_w]
        rfl
      refine pure_ (i := 15) (N := some 42) (v := ?_) (a' := ?_) #[false, false, false, false, false, true, false, false, false, false, false, false, false, false, false, true, false, false, false, false, false, false, false, false, false, false, false, false, false, false, false, false] rfl rfl (by kernel_rfl) (fun _ _ _ h => h) (Or.inl ⟨by rfl, ?_⟩) ?_ ?_
      rotate_left
      · intro w'
        go_simp
        with_reducible rfl
      rotate_left
      · simp only [Act.put, List.setIfInBounds_toArray, List.set_cons_zero, List.set_cons_succ, i64_w, i32_w]
        rfl
      refine pure_ (i := 25) (N := some 52) (v := ?_) (a' := ?_) #[false, false, false, false, false, true, false, false, false, false, false, false, false, false, false, true, false, false, false, false, false, false, false, false, false, true, false, false, false, false, false, false] rfl rfl (by kernel_rfl) (fun _ _ _ h => h) (Or.inl ⟨by rfl, ?_⟩) ?_ ?_
      rotate_left
      · intro w'
        go_simp
        with_reducible rfl
      rotate_left
      · simp only [Act.put, List.setIfInBounds_toArray, List.set_cons_zero, List.set_cons_succ, i64_w, i32_w]
        rfl
      refine take_ (i := 0) (N := some 27) (v := ?_) (a' := ?_) #[true, false, false, false, false, true, false, false, false, false, false, false, false, false, false, true, false, false, false, false, false, false, false, false, false, true, false, false, false, false, false, false] rfl rfl (by kernel_rfl) (fun _ _ _ h => h) (Or.inl ⟨by rfl, ?_⟩) hHeld ?_ ?_
      rotate_left
      · rintro w' ⟨s0, s1, s2, s3, s4, s5⟩
        go_simp
        with_reducible rfl
      rotate_left
      · simp only [Act.put, List.setIfInBounds_toArray, List.set_cons_zero, List.set_cons_succ, i64_w, i32_w]
        rfl
      refine pure_ (i := 1) (N := some 28) (v := ?_) (a' := ?_) #[true, true, false, false, false, true, false, false, false, false, false, false, false, false, false, true, false, false, false, false, false, false, false, false, false, true, false, false, false, false, false, false] rfl rfl (by kernel_rfl) (fun _ _ _ h => h) (Or.inl ⟨by rfl, ?_⟩) ?_ ?_
      rotate_left
      · intro w'
        go_simp
        with_reducible rfl
      rotate_left
      · simp only [Act.put, List.setIfInBounds_toArray, List.set_cons_zero, List.set_cons_succ, i64_w, i32_w]
        rfl
      refine pure_ (i := 2) (N := some 29) (v := ?_) (a' := ?_) #[true, true, true, false, false, true, false, false, false, false, false, false, false, false, false, true, false, false, false, false, false, false, false, false, false, true, false, false, false, false, false, false] rfl rfl (by kernel_rfl) (fun _ _ _ h => h) (Or.inl ⟨by rfl, ?_⟩) ?_ ?_
      rotate_left
      · intro w'
        go_simp
        with_reducible rfl
      rotate_left
      · simp only [Act.put, List.setIfInBounds_toArray, List.set_cons_zero, List.set_cons_succ, i64_w, i32_w]
        rfl
      refine take_ (i := 3) (N := some 30) (v := ?_) (a' := ?_) #[true, true, true, true, false, true, false, false, false, false, false, false, false, false, false, true, false, false, false, false, false, false, false, false, false, true, false, false, false, false, false, false] rfl rfl (by kernel_rfl) (fun _ _ _ h => h) (Or.inl ⟨by rfl, ?_⟩) hHeld ?_ ?_
      rotate_left
      · rintro w' ⟨s0, s1, s2, s3, s4, s5⟩
        go_simp
        with_reducible rfl
      rotate_left
      · simp only [Act.put, List.setIfInBounds_toArray, List.set_cons_zero, List.set_cons_succ, i64_w, i32_w]
        rfl
      refine take_ (i := 4) (N := some 31) (v := ?_) (a' := ?_) #[true, true, true, true, true, true, false, false, false, false, false, false, false, false, false, true, false, false, false, false, false, false, false, false, false, true, false, false, false, false, false, false] rfl rfl (by kernel_rfl) (fun _ _ _ h => h) (Or.inl ⟨by rfl, ?_⟩) hHeld ?_ ?_
      rotate_left
      · rintro w' ⟨s0, s1, s2, s3, s4, s5⟩
        go_simp
        with_reducible rfl
      rotate_left
      · simp only [Act.put, List.setIfInBounds_toArray, List.set_cons_zero, List.set_cons_succ, i64_w, i32_w]
        rfl
      refine pure_ (i := 6) (N := some 33) (v := ?_) (a' := ?_) #[true, true, true, true, true, true, true, false, false, false, false, false, false, false, false, true, false, false, false, false, false, false, false, false, false, true, false, false, false, false, false, false] rfl rfl (by kernel_rfl) (fun _ _ _ h => h) (Or.inl ⟨by rfl, ?_⟩) ?_ ?_
      rotate_left
      · intro w'
        go_simp
        with_reducible rfl
      rotate_left
      · simp only [Act.put, List.setIfInBounds_toArray, List.set_cons_zero, List.set_cons_succ, i64_w, i32_w]
        rfl
      refine pure_ (i := 7) (N := some 34) (v := ?_) (a' := ?_) #[true, true, true, true, true, true, true, true, false, false, false, false, false, false, false, true, false, false, false, false, false, false, false, false, false, true, false, false, false, false, false, false] rfl rfl (by kernel_rfl) (fun _ _ _ h => h) (Or.inl ⟨by rfl, ?_⟩) ?_ ?_
      rotate_left
      · intro w'
        go_simp
        with_reducible rfl
      rotate_left
      · simp only [Act.put, List.setIfInBounds_toArray, List.set_cons_zero, List.set_cons_succ, i64_w, i32_w]
        rfl
      refine take_ (i := 8) (N := some 35) (v := ?_) (a' := ?_) #[true, true, true, true, true, true, true, true, true, false, false, false, false, false, false, true, false, false, false, false, false, false, false, false, false, true, false, false, false, false, false, false] rfl rfl (by kernel_rfl) (fun _ _ _ h => h) (Or.inl ⟨by rfl, ?_⟩) hHeld ?_ ?_
      rotate_left
      · rintro w' ⟨s0, s1, s2, s3, s4, s5⟩
        go_simp
        with_reducible rfl
      rotate_left
      · simp only [Act.put, List.setIfInBounds_toArray, List.set_cons_zero, List.set_cons_succ, i64_w, i32_w]
        rfl
      refine pure_ (i := 29) (N := some 8) (v := ?_) (a' := ?_) #[true, true, true, true, true, true, true, true, true, false, false, false, false, false, false, true, false, false, false, false, false, false, false, false, false, true, false, false, false, true, false, false] rfl rfl (by kernel_rfl) (fun _ _ _ h => h) (Or.inl ⟨by rfl, ?_⟩) ?_ ?_
      rotate_left
      · intro w'
        go_simp
        with_reducible rfl
      rotate_left
      · simp only [Act.put, List.setIfInBounds_toArray, List.set_cons_zero, List.set_cons_succ, i64_w, i32_w]
        rfl
      refine take_ (i := 9) (N := some 36) (v := ?_) (a' := ?_) #[true, true, true, true, true, true, true, true, true, true, false, false, false, false, false, true, false, false, false, false, false, false, false, false, false, true, false, false, false, true, false, false] rfl rfl (by kernel_rfl) (fun _ _ _ h => h) (Or.inl ⟨by rfl, ?_⟩) hHeld ?_ ?_
      rotate_left
      · rintro w' ⟨s0, s1, s2, s3, s4, s5⟩
        go_simp
        with_reducible rfl
      rotate_left
      · simp only [Act.put, List.setIfInBounds_toArray, List.set_cons_zero, List.set_cons_succ, i64_w, i32_w]
        rfl
      refine pure_ (i := 10) (N := some 37) (v := ?_) (a' := ?_) #[true, true, true, true, true, true, true, true, true, true, true, false, false, false, false, true, false, false, false, false, false, false, false, false, false, true, false, false, false, true, false, false] rfl rfl (by kernel_rfl) (fun _ _ _ h => h) (Or.inl ⟨by rfl, ?_⟩) ?_ ?_
      rotate_left
      · intro w'
        go_simp
        with_reducible rfl
      rotate_left
      · simp only [Act.put, List.setIfInBounds_toArray, List.set_cons_zero, List.set_cons_succ, i64_w, i32_w]
        rfl
      refine pure_ (i := 11) (N := some 38) (v := ?_) (a' := ?_) #[true, true, true, true, true, true, true, true, true, true, true, true, false, false, false, true, false, false, false, false, false, false, false, false, false, true, false, false, false, true, false, false] rfl rfl (by kernel_rfl) (fun _ _ _ h => h) (Or.inl ⟨by rfl, ?_⟩) ?_ ?_
      rotate_left
      · intro w'
        go_simp
        with_reducible rfl
      rotate_left
      · simp only [Act.put, List.setIfInBounds_toArray, List.set_cons_zero, List.set_cons_succ, i64_w, i32_w]
        rfl
      refine take_ (i := 12) (N := some 39) (v := ?_) (a' := ?_) #[true, true, true, true, true, true, true, true, true, true, true, true, true, false, false, true, false, false, false, false, false, false, false, false, false, true, false, false, false, true, false, false] rfl rfl (by kernel_rfl) (fun _ _ _ h => h) (Or.inl ⟨by rfl, ?_⟩) hHeld ?_ ?_
      rotate_left
      · rintro w' ⟨s0, s1, s2, s3, s4, s5⟩
        go_simp
        with_reducible rfl
      rotate_left
      · simp only [Act.put, List.setIfInBounds_toArray, List.set_cons_zero, List.set_cons_succ, i64_w, i32_w]
        rfl
      refine take_ (i := 13) (N := some 40) (v := ?_) (a' := ?_) #[true, true, true, true, true, true, true, true, true, true, true, true, true, true, false, true, false, false, false, false, false, false, false, false, false, true, false, false, false, true, false, false] rfl rfl (by kernel_rfl) (fun _ _ _ h => h) (Or.inl ⟨by rfl, ?_⟩) hHeld ?_ ?_
      rotate_left
      · rintro w' ⟨s0, s1, s2, s3, s4, s5⟩
        go_simp
        with_reducible rfl
      rotate_left
      · simp only [Act.put, List.setIfInBounds_toArray, List.set_cons_zero, List.set_cons_succ, i64_w, i32_w]
        rfl
      refine pure_ (i := 14) (N := some 41) (v := ?_) (a' := ?_) #[true, true, true, true, true, true, true, true, true, true, true, true, true, true, true, true, false, false, false, false, false, false, false, false, false, true, false, false, false, true, false, false] rfl rfl (by kernel_rfl) (fun _ _ _ h => h) (Or.inl ⟨by rfl, ?_⟩) ?_ ?_
      rotate_left
      · intro w'
        go_simp
        with_reducible rfl
      rotate_left
      · simp only [Act.put, List.setIfInBounds_toArray, List.set_cons_zero, List.set_cons_succ, i64_w, i32_w]
        rfl
      refine pure_ (i := 16) (N := some 43) (v := ?_) (a' := ?_) #[true, true, true, true, true, true, true, true, true, true, true, true, true, true, true, true, true, false, false, false, false, false, false, false, false, true, false, false, false, true, false, false] rfl rfl (by kernel_rfl) (fun _ _ _ h => h) (Or.inl ⟨by rfl, ?_⟩) ?_ ?_
      rotate_left
      · intro w'
        go_simp
        with_reducible rfl
      rotate_left
      · simp only [Act.put, List.setIfInBounds_toArray, List.set_cons_zero, List.set_cons_succ, i64_w, i32_w]
        rfl
      refine pure_ (i := 17) (N := some 44) (v := ?_) (a' := ?_) #[true, true, true, true, true, true, true, true, true, true, true, true, true, true, true, true, true, true, false, false, false, false, false, false, false, true, false, false, false, true, false, false] rfl rfl (by kernel_rfl) (fun _ _ _ h => h) (Or.inl ⟨by rfl, ?_⟩) ?_ ?_
      rotate_left
      · intro w'
        go_simp
        with_reducible rfl
      rotate_left
      · simp only [Act.put, List.setIfInBounds_toArray, List.set_cons_zero, List.set_cons_succ, i64_w, i32_w]
        rfl
      refine take_ (i := 18) (N := some 45) (v := ?_) (a' := ?_) #[true, true, true, true, true, true, true, true, true, true, true, true, true, true, true, true, true, true, true, false, false, false, false, false, false, true, false, false, false, true, false, false] rfl rfl (by kernel_rfl) (fun _ _ _ h => h) (Or.inl ⟨by rfl, ?_⟩) hHeld ?_ ?_
      rotate_left
      · rintro w' ⟨s0, s1, s2, s3, s4, s5⟩
        go_simp
        with_reducible rfl
      rotate_left
      · simp only [Act.put, List.setIfInBounds_toArray, List.set_cons_zero, List.set_cons_succ, i64_w, i32_w]
        rfl
      refine pure_ (i := 30) (N := some 9) (v := ?_) (a' := ?_) #[true, true, true, true, true, true, true, true, true, true, true, true, true, true, true, true, true, true, true, false, false, false, false, false, false, true, false, false, false, true, true, false] rfl rfl (by kernel_rfl) (fun _ _ _ h => h) (Or.inl ⟨by rfl, ?_⟩) ?_ ?_
      rotate_left
      · intro w'
        go_simp
        with_reducible rfl
      rotate_left
      · simp only [Act.put, List.setIfInBounds_toArray, List.set_cons_zero, List.set_cons_succ, i64_w, i32_w]
        rfl
      refine take_ (i := 19) (N := some 46) (v := ?_) (a' := ?_) #[true, true, true, true, true, true, true, true, true, true, true, true, true, true, true, true, true, true, true, true, false, false, false, false, false, true, false, false, false, true, true, false] rfl rfl (by kernel_rfl) (fun _ _ _ h => h) (Or.inl ⟨by rfl, ?_⟩) hHeld ?_ ?_
      rotate_left
      · rintro w' ⟨s0, s1, s2, s3, s4, s5⟩
        go_simp
        with_reducible rfl
      rotate_left
      · simp only [Act.put, List.setIfInBounds_toArray, List.set_cons_zero, List.set_cons_succ, i64_w, i32_w]
        rfl
      refine pure_ (i := 20) (N := some 47) (v := ?_) (a' := ?_) #[true, true, true, true, true, true, true, true, true, true, true, true, true, true, true, true, true, true, true, true, true, false, false, false, false, true, false, false, false, true, true, false] rfl rfl (by kernel_rfl) (fun _ _ _ h => h) (Or.inl ⟨by rfl, ?_⟩) ?_ ?_
      rotate_left
      · intro w'
        go_simp
        with_reducible rfl
      rotate_left
      · simp only [Act.put, List.setIfInBounds_toArray, List.set_cons_zero, List.set_cons_succ, i64_w, i32_w]
        rfl
      refine pure_ (i := 21) (N := some 48) (v := ?_) (a' := ?_) #[true, true, true, true, true, true, true, true, true, true, true, true, true, true, true, true, true, true, true, true, true, true, false, false, false, true, false, false, false, true, true, false] rfl rfl (by kernel_rfl) (fun _ _ _ h => h) (Or.inl ⟨by rfl, ?_⟩) ?_ ?_
      rotate_left
      · intro w'
        go_simp
        with_reducible rfl
      rotate_left
      · simp only [Act.put, List.setIfInBounds_toArray, List.set_cons_zero, List.set_cons_succ, i64_w, i32_w]
        rfl
      refine take_ (i := 22) (N := some 49) (v := ?_) (a' := ?_) #[true, true, true, true, true, true, true, true, true, true, true, true, true, true, true, true, true, true, true, true, true, true, true, false, false, true, false, false, false, true, true, false] rfl rfl (by kernel_rfl) (fun _ _ _ h => h) (Or.inl ⟨by rfl, ?_⟩) hHeld ?_ ?_
      rotate_left
      · rintro w' ⟨s0, s1, s2, s3, s4, s5⟩
        go_simp
        with_reducible rfl
      rotate_left
      · simp only [Act.put, List.setIfInBounds_toArray, List.set_cons_zero, List.set_cons_succ, i64_w, i32_w]
        rfl
      refine take_ (i := 23) (N := some 50) (v := ?_) (a' := ?_) #[true, true, true, true, true, true, true, true, true, true, true, true, true, true, true, true, true, true, true, true, true, true, true, true, false, true, false, false, false, true, true, false] rfl rfl (by kernel_rfl) (fun _ _ _ h => h) (Or.inl ⟨by rfl, ?_⟩) hHeld ?_ ?_
      rotate_left
      · rintro w' ⟨s0, s1, s2, s3, s4, s5⟩
        go_simp
        with_reducible rfl
      rotate_left
      · simp only [Act.put, List.setIfInBounds_toArray, List.set_cons_zero, List.set_cons_succ, i64_w, i32_w]
        rfl
      refine pure_ (i := 24) (N := some 51) (v := ?_) (a' := ?_) #[true, true, true, true, true, true, true, true, true, true, true, true, true, true, true, true, true, true, true, true, true, true, true, true, true, true, false, false, false, true, true, false] rfl rfl (by kernel_rfl) (fun _ _ _ h => h) (Or.inl ⟨by rfl, ?_⟩) ?_ ?_
      rotate_left
      · intro w'
        go_simp
        with_reducible rfl
      rotate_left
      · simp only [Act.put, List.setIfInBounds_toArray, List.set_cons_zero, List.set_cons_succ, i64_w, i32_w]
        rfl
      refine pure_ (i := 26) (N := some 53) (v := ?_) (a' := ?_) #[true, true, true, true, true, true, true, true, true, true, true, true, true, true, true, true, true, true, true, true, true, true, true, true, true, true, true, false, false, true, true, false] rfl rfl (by kernel_rfl) (fun _ _ _ h => h) (Or.inl ⟨by rfl, ?_⟩) ?_ ?_
      rotate_left
      · intro w'
        go_simp
        with_reducible rfl
      rotate_left
      · simp only [Act.put, List.setIfInBounds_toArray, List.set_cons_zero, List.set_cons_succ, i64_w, i32_w]
        rfl
      refine pure_ (i := 27) (N := some 54) (v := ?_) (a' := ?_) #[true, true, true, true, true, true, true, true, true, true, true, true, true, true, true, true, true, true, true, true, true, true, true, true, true, true, true, true, false, true, true, false] rfl rfl (by kernel_rfl) (fun _ _ _ h => h) (Or.inl ⟨by rfl, ?_⟩) ?_ ?_
      rotate_left
      · intro w'
        go_simp
        with_reducible rfl
      rotate_left
      · simp only [Act.put, List.setIfInBounds_toArray, List.set_cons_zero, List.set_cons_succ, i64_w, i32_w]
        rfl
      refine take_ (i := 28) (N := some 55) (v := ?_) (a' := ?_) #[true, true, true, true, true, true, true, true, true, true, true, true, true, true, true, true, true, true, true, true, true, true, true, true, true, true, true, true, true, true, true, false] rfl rfl (by kernel_rfl) (fun _ _ _ h => h) (Or.inl ⟨by rfl, ?_⟩) hHeld ?_ ?_
      rotate_left
      · rintro w' ⟨s0, s1, s2, s3, s4, s5⟩
        go_simp
        with_reducible rfl
      rotate_left
      · simp only [Act.put, List.setIfInBounds_toArray, List.set_cons_zero, List.set_cons_succ, i64_w, i32_w]
        rfl
      refine pure_ (i := 31) (N := some 10) (v := ?_) (a' := ?_) #[true, true, true, true, true, true, true, true, true, true, true, true, true, true, true, true, true, true, true, true, true, true, true, true, true, true, true, true, true, true, true, true] rfl rfl (by kernel_rfl) (fun _ _ _ h => h) (Or.inl ⟨by rfl, ?_⟩) ?_ ?_
      rotate_left
      · intro w'
        go_simp
        with_reducible rfl
      rotate_left
      · simp only [Act.put, List.setIfInBounds_toArray, List.set_cons_zero, List.set_cons_succ, i64_w, i32_w]
        rfl
      refine done_ (by kernel_rfl) ?_
      clear hHeld k1 k2 k3 k4 k5 k1' k2' k3' k4' k5' o1 o2 o3 o1' o2' o3' g1 g2 g3
      have HQ5 := Aside0.mk (HQi.out.below (below_drew1 (Below.refl _ _)))
      have HB5 := Aside0.mk (HBi.out.below (below_drew1 (Below.refl _ _)))
      have u1 := HQ5.out.bs.cell 0
      go_wp2
      clear u1 HQi HBi
      generalize wi.drew = wj at *
      go_loopw [57] (fun v57 wr => ∃ (q : Nat) (ys : List Int), v57 = .int .i64 q ∧ q ≤ s ∧ Aside0 (Qst w wr P gp cp gs cs gd cd bp bn bs n s N W U f ys) ∧ Aside0 (Dn s m (tgq s m W U f) ys i q) ∧ Aside0 (Bk wr bi 3 [.int .i64 (i : Int)])) (fun v57 _ => s - (intOf v57).toNat)
      case atStart => exact ⟨0, ys, rfl, Nat.zero_le _, HQ5, HD, HB5⟩
      case round =>
        clear HQ5 HB5 HD
        obtain ⟨q, ys, rfl, hq, HQ, HD, HBi⟩ := hrel
        by_cases h2 : q < s
        · have hqa : (q : Int) < (s : Int) := by omega
          go_wp2_with fail
          obtain ⟨bq, hbq⟩ : ∃ b, b = wr.heap.size := ⟨_, rfl⟩
          obtain ⟨wq, hwq⟩ : ∃ w', w' = wr.alloc (.cells #[.int .i64 (q : Int)] 3) := ⟨_, rfl⟩
          have HBq : Aside0 (Bk wq bq 3 [.int .i64 (q : Int)]) := ⟨by rw [hwq, hbq]; exact Bk.new wr 3 [.int .i64 (q : Int)]⟩
          have HQq : Aside0 (Qst w wq P gp cp gs cs gd cd bp bn bs n s N W U f ys) := ⟨by rw [hwq]; exact HQ.out.below (below_alloc (Below.refl _ _) _)⟩
          have HBi2 : Aside0 (Bk wq bi 3 [.int .i64 (i : Int)]) := ⟨by rw [hwq]; exact HBi.out.below (below_alloc (Below.refl _ _) _)⟩
          rw [← hwq, ← hbq]
          clear HQ hwq hbq HBi
          have e169 : ∀ args w, (callFunc 169 args).run Tryd.prog w = .ok (.enter 169 args) w := enters_of Tryd.func169 (by kernel_rfl) rfl
          refine start_ (n := 15) (S := fun w' => w'.cell? ⟨bp, 0, none⟩ = some (.pointer (some ⟨P, 0, none⟩)) ∧ w'.cell? ⟨P, 1, none⟩ = some (.int .u64 (fv U)) ∧ Aside0 (Qst w w' P gp cp gs cs gd cd bp bn bs n s N W U f ys) ∧ Aside0 (Bk w' bq 3 [.int .i64 (q : Int)]) ∧ Aside0 (Bk w' bi 3 [.int .i64 (i : Int)])) (ds := [14]) #[false, false, false, false, false, false, false, false, false, false, false, false, false, false, false] (by kernel_rfl) rfl rfl ⟨HQq.out.bp.cell 0, HQq.out.ps.cell 1, ⟨HQq.out.below (below_drew1 (Below.refl _ _))⟩, ⟨HBq.out.below (below_drew1 (Below.refl _ _))⟩, ⟨HBi2.out.below (below_drew1 (Below.refl _ _))⟩⟩ (fun hHeld => ?_)
          refine pure_ (i := 0) (N := some 61) (v := ?_) (a' := ?_) #[true, false, false, false, false, false, false, false, false, false, false, false, false, false, false] rfl rfl (by kernel_rfl) (fun _ _ _ h => h) (Or.inl ⟨by rfl, ?_⟩) ?_ ?_
          rotate_left
          · intro w'
            go_simp
            with_reducible rfl
          rotate_left
          · simp only [Act.put, List.setIfInBounds_toArray, List.set_cons_zero, List.set_cons_succ, i64_w, i32_w]
            rfl
          refine pure_ (i := 2) (N := some 63) (v := ?_) (a' := ?_) #[true, false, true, false, false, false, false, false, false, false, false, false, false, false, false] rfl rfl (by kernel_rfl) (fun _ _ _ h => h) (Or.inl ⟨by rfl, ?_⟩) ?_ ?_
          rotate_left
          · intro w'
            go_simp
            with_reducible rfl
          rotate_left
          · simp only [Act.put, List.setIfInBounds_toArray, List.set_cons_zero, List.set_cons_succ, i64_w, i32_w]
            rfl
          refine pure_ (i := 4) (N := some 65) (v := ?_) (a' := ?_) #[true, false, true, false, true, false, false, false, false, false, false, false, false, false, false] rfl rfl (by kernel_rfl) (fun _ _ _ h => h) (Or.inl ⟨by rfl, ?_⟩) ?_ ?_
          rotate_left
          · intro w'
            go_simp
            with_reducible rfl
          rotate_left
          · simp only [Act.put, List.setIfInBounds_toArray, List.set_cons_zero, List.set_cons_succ, i64_w, i32_w]
            rfl
          refine pure_ (i := 6) (N := some 67) (v := ?_) (a' := ?_) #[true, false, true, false, true, false, true, false, false, false, false, false, false, false, false] rfl rfl (by kernel_rfl) (fun _ _ _ h => h) (Or.inl ⟨by rfl, ?_⟩) ?_ ?_
          rotate_left
          · intro w'
            go_simp
            with_reducible rfl
          rotate_left
          · simp only [Act.put, List.setIfInBounds_toArray, List.set_cons_zero, List.set_cons_succ, i64_w, i32_w]
            rfl
          refine take_ (i := 8) (N := some 69) (v := ?_) (a' := ?_) #[true, false, true, false, true, false, true, false, true, false, false, false, false, false, false] rfl rfl (by kernel_rfl) (fun _ _ _ h => h) (Or.inl ⟨by rfl, ?_⟩) hHeld ?_ ?_
          rotate_left
          · rintro w' ⟨s0, s1, s2, s3, s4⟩
            go_simp
            with_reducible rfl
          rotate_left
          · simp only [Act.put, List.setIfInBounds_toArray, List.set_cons_zero, List.set_cons_succ, i64_w, i32_w]
            rfl
          refine pure_ (i := 9) (N := some 70) (v := ?_) (a' := ?_) #[true, false, true, false, true, false, true, false, true, true, false, false, false, false, false] rfl rfl (by kernel_rfl) (fun _ _ _ h => h) (Or.inl ⟨by rfl, ?_⟩) ?_ ?_
          rotate_left
          · intro w'
            go_simp
            with_reducible rfl
          rotate_left
          · simp only [Act.put, List.setIfInBounds_toArray, List.set_cons_zero, List.set_cons_succ, i64_w, i32_w]
            rfl
          refine pure_ (i := 10) (N := some 71) (v := ?_) (a' := ?_) #[true, false, true, false, true, false, true, false, true, true, true, false, false, false, false] rfl rfl (by kernel_rfl) (fun _ _ _ h => h) (Or.inl ⟨by rfl, ?_⟩) ?_ ?_
          rotate_left
          · intro w'
            go_simp
            with_reducible rfl
          rotate_left
          · simp only [Act.put, List.setIfInBounds_toArray, List.set_cons_zero, List.set_cons_succ, i64_w, i32_w]
            rfl
          refine take_ (i := 11) (N := some 72) (v := ?_) (a' := ?_) #[true, false, true, false, true, false, true, false, true, true, true, true, false, false, false] rfl rfl (by kernel_rfl) (fun _ _ _ h => h) (Or.inl ⟨by rfl, ?_⟩) hHeld ?_ ?_
          rotate_left
          · rintro w' ⟨s0, s1, s2, s3, s4⟩
            go_simp
            with_reducible rfl
          rotate_left
          · simp only [Act.put, List.setIfInBounds_toArray, List.set_cons_zero, List.set_cons_succ, i64_w, i32_w]
            rfl
          refine join_ (σ := Nat) 1 #[true, true, true, true, true, true, true, true, true, true, true, true, true, true, false] (fun b => [(62, .int .u64 (fv (f (q + s * i)))), (64, .int .u64 (fv (f (q + s * (i + m))))), (66, .int .u64 (fv (f (q + s * (i + 2 * m))))), (68, .int .u64 (fv (f (q + s * (i + 3 * m))))), (73, .agg #[.int .u64 (fv (crs (f (q + s * i)) (f (q + s * (i + m))) (f (q + s * (i + 2 * m))) (f (q + s * (i + 3 * m))) U 0)), .int .u64 (fv (crs (f (q + s * i)) (f (q + s * (i + m))) (f (q + s * (i + 2 * m))) (f (q + s * (i + 3 * m))) U 1)), .int .u64 (fv (crs (f (q + s * i)) (f (q + s * (i + m))) (f (q + s * (i + 2 * m))) (f (q + s * (i + 3 * m))) U 2)), .int .u64 (fv (crs (f (q + s * i)) (f (q + s * (i + m))) (f (q + s * (i + 2 * m))) (f (q + s * (i + 3 * m))) U 3))]), (13, .pointer (some ⟨b, 0, none⟩))]) (fun b w' => (w'.cell? ⟨bp, 0, none⟩ = some (.pointer (some ⟨P, 0, none⟩)) ∧ w'.cell? ⟨P, 1, none⟩ = some (.int .u64 (fv U)) ∧ Aside0 (Qst w w' P gp cp gs cs gd cd bp bn bs n s N W U f ys) ∧ Aside0 (Bk w' bq 3 [.int .i64 (q : Int)]) ∧ Aside0 (Bk w' bi 3 [.int .i64 (i : Int)])) ∧ Aside0 (Bk w' b 199 [.int .u64 0, .int .u64 0, .int .u64 0, .int .u64 0]) ∧ Aside0 (w.heap.size ≤ b)) ?_ ?_
          rotate_left
          · intro hCont
            refine two_ (i := 1) (j := 13) (Ni := some 62) (Nj := some 13) #[true, true, true, false, true, false, true, false, true, true, true, true, false, false, false] #[true, false, true, false, true, false, true, false, true, true, true, true, false, true, false] rfl rfl rfl rfl (by kernel_rfl) (by decide) (by decide) (fun K hK => ?_) (fun K hK => ?_)
            · skip
              refine call_ 169 #[.int .i64 0, .pointer (some ⟨bp, 0, none⟩), .pointer (some ⟨bq, 0, none⟩), .pointer (some ⟨bs, 0, none⟩), .pointer (some ⟨bi, 0, none⟩), .pointer (some ⟨bn, 0, none⟩)] (by rfl) rfl ?hr ?_
              case hr => first | (go_simp; done) | (go_simp; rfl)
              with_reducible refine (at_q 0 0 i q (i) m bq bi hHeld.2.2.1.out hHeld.2.2.2.1.out hHeld.2.2.2.2.out rfl (by decide) h1 h2 Hn.out HN.out H2.out (by omega) hn2).mono ?_
              rintro e w4 ⟨rfl, hb⟩
              refine ⟨_, rfl, ?_⟩
              have nS := hHeld.2.2.1.out.below hb
              have nq := hHeld.2.2.2.1.out.below hb
              have ni := hHeld.2.2.2.2.out.below hb
              clear hHeld hb
              refine hK.out _ _ ⟨nS.bp.cell 0, nS.ps.cell 1, ⟨nS⟩, ⟨nq⟩, ⟨ni⟩⟩ (fun hHeld => ?_)
              clear hK K
              refine norm_ (a' := ?_) ?_ ?_
              rotate_left
              · show Act.put _ (some 62) _ = _
                simp only [Act.put, List.setIfInBounds_toArray, List.set_cons_zero, List.set_cons_succ, i64_w, i32_w]
                rfl
              refine two_ (i := 3) (j := 13) (Ni := some 64) (Nj := some 13) #[true, true, true, true, true, false, true, false, true, true, true, true, false, false, false] #[true, true, true, false, true, false, true, false, true, true, true, true, false, true, false] rfl rfl rfl rfl (by kernel_rfl) (by decide) (by decide) (fun K hK => ?_) (fun K hK => ?_)
              · skip
                refine call_ 169 #[.int .i64 1, .pointer (some ⟨bp, 0, none⟩), .pointer (some ⟨bq, 0, none⟩), .pointer (some ⟨bs, 0, none⟩), .pointer (some ⟨bi, 0, none⟩), .pointer (some ⟨bn, 0, none⟩)] (by rfl) rfl ?hr ?_
                case hr => first | (go_simp; done) | (go_simp; rfl)
                with_reducible refine (at_q 1 1 i q (i + m) m bq bi hHeld.2.2.1.out hHeld.2.2.2.1.out hHeld.2.2.2.2.out rfl (by decide) h1 h2 Hn.out HN.out H2.out (by omega) hn2).mono ?_
                rintro e w5 ⟨rfl, hb⟩
                refine ⟨_, rfl, ?_⟩
                have nS := hHeld.2.2.1.out.below hb
                have nq := hHeld.2.2.2.1.out.below hb
                have ni := hHeld.2.2.2.2.out.below hb
                clear hHeld hb
                refine hK.out _ _ ⟨nS.bp.cell 0, nS.ps.cell 1, ⟨nS⟩, ⟨nq⟩, ⟨ni⟩⟩ (fun hHeld => ?_)
                clear hK K
                refine norm_ (a' := ?_) ?_ ?_
                rotate_left
                · show Act.put _ (some 64) _ = _
                  simp only [Act.put, List.setIfInBounds_toArray, List.set_cons_zero, List.set_cons_succ, i64_w, i32_w]
                  rfl
                refine two_ (i := 5) (j := 13) (Ni := some 66) (Nj := some 13) #[true, true, true, true, true, true, true, false, true, true, true, true, false, false, false] #[true, true, true, true, true, false, true, false, true, true, true, true, false, true, false] rfl rfl rfl rfl (by kernel_rfl) (by decide) (by decide) (fun K hK => ?_) (fun K hK => ?_)
                · skip
                  refine call_ 169 #[.int .i64 2, .pointer (some ⟨bp, 0, none⟩), .pointer (some ⟨bq, 0, none⟩), .pointer (some ⟨bs, 0, none⟩), .pointer (some ⟨bi, 0, none⟩), .pointer (some ⟨bn, 0, none⟩)] (by rfl) rfl ?hr ?_
                  case hr => first | (go_simp; done) | (go_simp; rfl)
                  with_reducible refine (at_q 2 2 i q (i + 2 * m) m bq bi hHeld.2.2.1.out hHeld.2.2.2.1.out hHeld.2.2.2.2.out rfl (by decide) h1 h2 Hn.out HN.out H2.out (by omega) hn2).mono ?_
                  rintro e w6 ⟨rfl, hb⟩
                  refine ⟨_, rfl, ?_⟩
                  have nS := hHeld.2.2.1.out.below hb
                  have nq := hHeld.2.2.2.1.out.below hb
                  have ni := hHeld.2.2.2.2.out.below hb
                  clear hHeld hb
                  refine hK.out _ _ ⟨nS.bp.cell 0, nS.ps.cell 1, ⟨nS⟩, ⟨nq⟩, ⟨ni⟩⟩ (fun hHeld => ?_)
                  clear hK K
                  refine norm_ (a' := ?_) ?_ ?_
                  rotate_left
                  · show Act.put _ (some 66) _ = _
                    simp only [Act.put, List.setIfInBounds_toArray, List.set_cons_zero, List.set_cons_succ, i64_w, i32_w]
                    rfl
                  refine two_ (i := 7) (j := 13) (Ni := some 68) (Nj := some 13) #[true, true, true, true, true, true, true, true, true, true, true, true, false, false, false] #[true, true, true, true, true, true, true, false, true, true, true, true, false, true, false] rfl rfl rfl rfl (by kernel_rfl) (by decide) (by decide) (fun K hK => ?_) (fun K hK => ?_)
                  · skip
                    refine call_ 169 #[.int .i64 3, .pointer (some ⟨bp, 0, none⟩), .pointer (some ⟨bq, 0, none⟩), .pointer (some ⟨bs, 0, none⟩), .pointer (some ⟨bi, 0, none⟩), .pointer (some ⟨bn, 0, none⟩)] (by rfl) rfl ?hr ?_
                    case hr => first | (go_simp; done) | (go_simp; rfl)
                    with_reducible refine (at_q 3 3 i q (i + 3 * m) m bq bi hHeld.2.2.1.out hHeld.2.2.2.1.out hHeld.2.2.2.2.out rfl (by decide) h1 h2 Hn.out HN.out H2.out (by omega) hn2).mono ?_
                    rintro e w7 ⟨rfl, hb⟩
                    refine ⟨_, rfl, ?_⟩
                    have nS := hHeld.2.2.1.out.below hb
                    have nq := hHeld.2.2.2.1.out.below hb
                    have ni := hHeld.2.2.2.2.out.below hb
                    clear hHeld hb
                    refine hK.out _ _ ⟨nS.bp.cell 0, nS.ps.cell 1, ⟨nS⟩, ⟨nq⟩, ⟨ni⟩⟩ (fun hHeld => ?_)
                    clear hK K
                    refine norm_ (a' := ?_) ?_ ?_
                    rotate_left
                    · show Act.put _ (some 68) _ = _
                      simp only [Act.put, List.setIfInBounds_toArray, List.set_cons_zero, List.set_cons_succ, i64_w, i32_w]
                      rfl
                    refine two_ (i := 12) (j := 13) (Ni := some 73) (Nj := some 13) #[true, true, true, true, true, true, true, true, true, true, true, true, true, false, false] #[true, true, true, true, true, true, true, true, true, true, true, true, false, true, false] rfl rfl rfl rfl (by kernel_rfl) (by decide) (by decide) (fun K hK => ?_) (fun K hK => ?_)
                    · skip
                      refine goes_ Tryd.func170 (by kernel_rfl) rfl #[.int .u64 (fv (f (q + s * i))), .int .u64 (fv (f (q + s * (i + m)))), .int .u64 (fv (f (q + s * (i + 2 * m)))), .int .u64 (fv (f (q + s * (i + 3 * m)))), .int .u64 (fv U)] (by rfl) rfl rfl (by simp only [List.map_toArray, List.map_cons, List.map_nil]; rfl) ?_
                      with_reducible refine (cross_calls _ _ _ _ _ _).mono ?_
                      rintro e w8 ⟨rfl, hb⟩
                      refine ⟨_, rfl, ?_⟩
                      have nS := hHeld.2.2.1.out.below hb
                      have nq := hHeld.2.2.2.1.out.below hb
                      have ni := hHeld.2.2.2.2.out.below hb
                      clear hHeld hb
                      refine hK.out _ _ ⟨nS.bp.cell 0, nS.ps.cell 1, ⟨nS⟩, ⟨nq⟩, ⟨ni⟩⟩ (fun hHeld => ?_)
                      clear hK K
                      refine norm_ (a' := ?_) ?_ ?_
                      rotate_left
                      · show Act.put _ (some 73) _ = _
                        simp only [Act.put, List.setIfInBounds_toArray, List.set_cons_zero, List.set_cons_succ, i64_w, i32_w]
                        rfl
                      refine one_ (i := 13) (N := some 13) #[true, true, true, true, true, true, true, true, true, true, true, true, true, true, false] rfl rfl (by kernel_rfl) (by decide) (fun K hK => ?_)
                      refine alloc_step (t := 199) (cs := #[.int .u64 0, .int .u64 0, .int .u64 0, .int .u64 0]) (by rfl) rfl ?hr ?_
                      case hr => first | (go_simp; done) | (go_simp; rfl)
                      intro w9 hA hb _
                      have HA := Aside0.mk hA
                      have HZ := Aside0.mk hHeld.2.2.1.out.fr.size
                      clear hA
                      have nS := hHeld.2.2.1.out.below hb
                      have nq := hHeld.2.2.2.1.out.below hb
                      have ni := hHeld.2.2.2.2.out.below hb
                      clear hHeld hb
                      refine hK.out _ _ ⟨nS.bp.cell 0, nS.ps.cell 1, ⟨nS⟩, ⟨nq⟩, ⟨ni⟩⟩ (fun hHeld => ?_)
                      clear hK K
                      refine norm_ (a' := ?_) ?_ ?_
                      rotate_left
                      · show Act.put _ (some 13) _ = _
                        simp only [Act.put, List.setIfInBounds_toArray, List.set_cons_zero, List.set_cons_succ, i64_w, i32_w]
                        rfl
                      exact norm_ (by first | (simp only [putAll, Act.put, List.setIfInBounds_toArray, List.set_cons_zero, List.set_cons_succ]; done) | (simp only [putAll, Act.put, List.setIfInBounds_toArray, List.set_cons_zero, List.set_cons_succ]; rfl)) (hCont w8.heap.size _ ⟨hHeld, HA, HZ⟩)
                    · skip
                      refine alloc_step (t := 199) (cs := #[.int .u64 0, .int .u64 0, .int .u64 0, .int .u64 0]) (by rfl) rfl ?hr ?_
                      case hr => first | (go_simp; done) | (go_simp; rfl)
                      intro w8 hA hb _
                      have HA := Aside0.mk hA
                      have HZ := Aside0.mk hHeld.2.2.1.out.fr.size
                      clear hA
                      have nS := hHeld.2.2.1.out.below hb
                      have nq := hHeld.2.2.2.1.out.below hb
                      have ni := hHeld.2.2.2.2.out.below hb
                      clear hHeld hb
                      refine hK.out _ _ ⟨nS.bp.cell 0, nS.ps.cell 1, ⟨nS⟩, ⟨nq⟩, ⟨ni⟩⟩ (fun hHeld => ?_)
                      clear hK K
                      refine norm_ (a' := ?_) ?_ ?_
                      rotate_left
                      · show Act.put _ (some 13) _ = _
                        simp only [Act.put, List.setIfInBounds_toArray, List.set_cons_zero, List.set_cons_succ, i64_w, i32_w]
                        rfl
                      refine one_ (i := 12) (N := some 73) #[true, true, true, true, true, true, true, true, true, true, true, true, true, true, false] rfl rfl (by kernel_rfl) (by decide) (fun K hK => ?_)
                      refine goes_ Tryd.func170 (by kernel_rfl) rfl #[.int .u64 (fv (f (q + s * i))), .int .u64 (fv (f (q + s * (i + m)))), .int .u64 (fv (f (q + s * (i + 2 * m)))), .int .u64 (fv (f (q + s * (i + 3 * m)))), .int .u64 (fv U)] (by rfl) rfl rfl (by simp only [List.map_toArray, List.map_cons, List.map_nil]; rfl) ?_
                      with_reducible refine (cross_calls _ _ _ _ _ _).mono ?_
                      rintro e w9 ⟨rfl, hb⟩
                      refine ⟨_, rfl, ?_⟩
                      have nA := HA.out.below hb
                      clear HA
                      have HA := Aside0.mk nA
                      clear nA
                      have nS := hHeld.2.2.1.out.below hb
                      have nq := hHeld.2.2.2.1.out.below hb
                      have ni := hHeld.2.2.2.2.out.below hb
                      clear hHeld hb
                      refine hK.out _ _ ⟨nS.bp.cell 0, nS.ps.cell 1, ⟨nS⟩, ⟨nq⟩, ⟨ni⟩⟩ (fun hHeld => ?_)
                      clear hK K
                      refine norm_ (a' := ?_) ?_ ?_
                      rotate_left
                      · show Act.put _ (some 73) _ = _
                        simp only [Act.put, List.setIfInBounds_toArray, List.set_cons_zero, List.set_cons_succ, i64_w, i32_w]
                        rfl
                      exact norm_ (by first | (simp only [putAll, Act.put, List.setIfInBounds_toArray, List.set_cons_zero, List.set_cons_succ]; done) | (simp only [putAll, Act.put, List.setIfInBounds_toArray, List.set_cons_zero, List.set_cons_succ]; rfl)) (hCont w7.heap.size _ ⟨hHeld, HA, HZ⟩)
                  · skip
                    refine alloc_step (t := 199) (cs := #[.int .u64 0, .int .u64 0, .int .u64 0, .int .u64 0]) (by rfl) rfl ?hr ?_
                    case hr => first | (go_simp; done) | (go_simp; rfl)
                    intro w7 hA hb _
                    have HA := Aside0.mk hA
                    have HZ := Aside0.mk hHeld.2.2.1.out.fr.size
                    clear hA
                    have nS := hHeld.2.2.1.out.below hb
                    have nq := hHeld.2.2.2.1.out.below hb
                    have ni := hHeld.2.2.2.2.out.below hb
                    clear hHeld hb
                    refine hK.out _ _ ⟨nS.bp.cell 0, nS.ps.cell 1, ⟨nS⟩, ⟨nq⟩, ⟨ni⟩⟩ (fun hHeld => ?_)
                    clear hK K
                    refine norm_ (a' := ?_) ?_ ?_
                    rotate_left
                    · show Act.put _ (some 13) _ = _
                      simp only [Act.put, List.setIfInBounds_toArray, List.set_cons_zero, List.set_cons_succ, i64_w, i32_w]
                      rfl
                    refine one_ (i := 7) (N := some 68) #[true, true, true, true, true, true, true, true, true, true, true, true, false, true, false] rfl rfl (by kernel_rfl) (by decide) (fun K hK => ?_)
                    refine call_ 169 #[.int .i64 3, .pointer (some ⟨bp, 0, none⟩), .pointer (some ⟨bq, 0, none⟩), .pointer (some ⟨bs, 0, none⟩), .pointer (some ⟨bi, 0, none⟩), .pointer (some ⟨bn, 0, none⟩)] (by rfl) rfl ?hr ?_
                    case hr => first | (go_simp; done) | (go_simp; rfl)
                    with_reducible refine (at_q 3 3 i q (i + 3 * m) m bq bi hHeld.2.2.1.out hHeld.2.2.2.1.out hHeld.2.2.2.2.out rfl (by decide) h1 h2 Hn.out HN.out H2.out (by omega) hn2).mono ?_
                    rintro e w8 ⟨rfl, hb⟩
                    refine ⟨_, rfl, ?_⟩
                    have nA := HA.out.below hb
                    clear HA
                    have HA := Aside0.mk nA
                    clear nA
                    have nS := hHeld.2.2.1.out.below hb
                    have nq := hHeld.2.2.2.1.out.below hb
                    have ni := hHeld.2.2.2.2.out.below hb
                    clear hHeld hb
                    refine hK.out _ _ ⟨nS.bp.cell 0, nS.ps.cell 1, ⟨nS⟩, ⟨nq⟩, ⟨ni⟩⟩ (fun hHeld => ?_)
                    clear hK K
                    refine norm_ (a' := ?_) ?_ ?_
                    rotate_left
                    · show Act.put _ (some 68) _ = _
                      simp only [Act.put, List.setIfInBounds_toArray, List.set_cons_zero, List.set_cons_succ, i64_w, i32_w]
                      rfl
                    refine one_ (i := 12) (N := some 73) #[true, true, true, true, true, true, true, true, true, true, true, true, true, true, false] rfl rfl (by kernel_rfl) (by decide) (fun K hK => ?_)
                    refine goes_ Tryd.func170 (by kernel_rfl) rfl #[.int .u64 (fv (f (q + s * i))), .int .u64 (fv (f (q + s * (i + m)))), .int .u64 (fv (f (q + s * (i + 2 * m)))), .int .u64 (fv (f (q + s * (i + 3 * m)))), .int .u64 (fv U)] (by rfl) rfl rfl (by simp only [List.map_toArray, List.map_cons, List.map_nil]; rfl) ?_
                    with_reducible refine (cross_calls _ _ _ _ _ _).mono ?_
                    rintro e w9 ⟨rfl, hb⟩
                    refine ⟨_, rfl, ?_⟩
                    have nA := HA.out.below hb
                    clear HA
                    have HA := Aside0.mk nA
                    clear nA
                    have nS := hHeld.2.2.1.out.below hb
                    have nq := hHeld.2.2.2.1.out.below hb
                    have ni := hHeld.2.2.2.2.out.below hb
                    clear hHeld hb
                    refine hK.out _ _ ⟨nS.bp.cell 0, nS.ps.cell 1, ⟨nS⟩, ⟨nq⟩, ⟨ni⟩⟩ (fun hHeld => ?_)
                    clear hK K
                    refine norm_ (a' := ?_) ?_ ?_
                    rotate_left
                    · show Act.put _ (some 73) _ = _
                      simp only [Act.put, List.setIfInBounds_toArray, List.set_cons_zero, List.set_cons_succ, i64_w, i32_w]
                      rfl
                    exact norm_ (by first | (simp only [putAll, Act.put, List.setIfInBounds_toArray, List.set_cons_zero, List.set_cons_succ]; done) | (simp only [putAll, Act.put, List.setIfInBounds_toArray, List.set_cons_zero, List.set_cons_succ]; rfl)) (hCont w6.heap.size _ ⟨hHeld, HA, HZ⟩)
                · skip
                  refine alloc_step (t := 199) (cs := #[.int .u64 0, .int .u64 0, .int .u64 0, .int .u64 0]) (by rfl) rfl ?hr ?_
                  case hr => first | (go_simp; done) | (go_simp; rfl)
                  intro w6 hA hb _
                  have HA := Aside0.mk hA
                  have HZ := Aside0.mk hHeld.2.2.1.out.fr.size
                  clear hA
                  have nS := hHeld.2.2.1.out.below hb
                  have nq := hHeld.2.2.2.1.out.below hb
                  have ni := hHeld.2.2.2.2.out.below hb
                  clear hHeld hb
                  refine hK.out _ _ ⟨nS.bp.cell 0, nS.ps.cell 1, ⟨nS⟩, ⟨nq⟩, ⟨ni⟩⟩ (fun hHeld => ?_)
                  clear hK K
                  refine norm_ (a' := ?_) ?_ ?_
                  rotate_left
                  · show Act.put _ (some 13) _ = _
                    simp only [Act.put, List.setIfInBounds_toArray, List.set_cons_zero, List.set_cons_succ, i64_w, i32_w]
                    rfl
                  refine one_ (i := 5) (N := some 66) #[true, true, true, true, true, true, true, false, true, true, true, true, false, true, false] rfl rfl (by kernel_rfl) (by decide) (fun K hK => ?_)
                  refine call_ 169 #[.int .i64 2, .pointer (some ⟨bp, 0, none⟩), .pointer (some ⟨bq, 0, none⟩), .pointer (some ⟨bs, 0, none⟩), .pointer (some ⟨bi, 0, none⟩), .pointer (some ⟨bn, 0, none⟩)] (by rfl) rfl ?hr ?_
                  case hr => first | (go_simp; done) | (go_simp; rfl)
                  with_reducible refine (at_q 2 2 i q (i + 2 * m) m bq bi hHeld.2.2.1.out hHeld.2.2.2.1.out hHeld.2.2.2.2.out rfl (by decide) h1 h2 Hn.out HN.out H2.out (by omega) hn2).mono ?_
                  rintro e w7 ⟨rfl, hb⟩
                  refine ⟨_, rfl, ?_⟩
                  have nA := HA.out.below hb
                  clear HA
                  have HA := Aside0.mk nA
                  clear nA
                  have nS := hHeld.2.2.1.out.below hb
                  have nq := hHeld.2.2.2.1.out.below hb
                  have ni := hHeld.2.2.2.2.out.below hb
                  clear hHeld hb
                  refine hK.out _ _ ⟨nS.bp.cell 0, nS.ps.cell 1, ⟨nS⟩, ⟨nq⟩, ⟨ni⟩⟩ (fun hHeld => ?_)
                  clear hK K
                  refine norm_ (a' := ?_) ?_ ?_
                  rotate_left
                  · show Act.put _ (some 66) _ = _
                    simp only [Act.put, List.setIfInBounds_toArray, List.set_cons_zero, List.set_cons_succ, i64_w, i32_w]
                    rfl
                  refine one_ (i := 7) (N := some 68) #[true, true, true, true, true, true, true, true, true, true, true, true, false, true, false] rfl rfl (by kernel_rfl) (by decide) (fun K hK => ?_)
                  refine call_ 169 #[.int .i64 3, .pointer (some ⟨bp, 0, none⟩), .pointer (some ⟨bq, 0, none⟩), .pointer (some ⟨bs, 0, none⟩), .pointer (some ⟨bi, 0, none⟩), .pointer (some ⟨bn, 0, none⟩)] (by rfl) rfl ?hr ?_
                  case hr => first | (go_simp; done) | (go_simp; rfl)
                  with_reducible refine (at_q 3 3 i q (i + 3 * m) m bq bi hHeld.2.2.1.out hHeld.2.2.2.1.out hHeld.2.2.2.2.out rfl (by decide) h1 h2 Hn.out HN.out H2.out (by omega) hn2).mono ?_
                  rintro e w8 ⟨rfl, hb⟩
                  refine ⟨_, rfl, ?_⟩
                  have nA := HA.out.below hb
                  clear HA
                  have HA := Aside0.mk nA
                  clear nA
                  have nS := hHeld.2.2.1.out.below hb
                  have nq := hHeld.2.2.2.1.out.below hb
                  have ni := hHeld.2.2.2.2.out.below hb
                  clear hHeld hb
                  refine hK.out _ _ ⟨nS.bp.cell 0, nS.ps.cell 1, ⟨nS⟩, ⟨nq⟩, ⟨ni⟩⟩ (fun hHeld => ?_)
                  clear hK K
                  refine norm_ (a' := ?_) ?_ ?_
                  rotate_left
                  · show Act.put _ (some 68) _ = _
                    simp only [Act.put, List.setIfInBounds_toArray, List.set_cons_zero, List.set_cons_succ, i64_w, i32_w]
                    rfl
                  refine one_ (i := 12) (N := some 73) #[true, true, true, true, true, true, true, true, true, true, true, true, true, true, false] rfl rfl (by kernel_rfl) (by decide) (fun K hK => ?_)
                  refine goes_ Tryd.func170 (by kernel_rfl) rfl #[.int .u64 (fv (f (q + s * i))), .int .u64 (fv (f (q + s * (i + m)))), .int .u64 (fv (f (q + s * (i + 2 * m)))), .int .u64 (fv (f (q + s * (i + 3 * m)))), .int .u64 (fv U)] (by rfl) rfl rfl (by simp only [List.map_toArray, List.map_cons, List.map_nil]; rfl) ?_
                  with_reducible refine (cross_calls _ _ _ _ _ _).mono ?_
                  rintro e w9 ⟨rfl, hb⟩
                  refine ⟨_, rfl, ?_⟩
                  have nA := HA.out.below hb
                  clear HA
                  have HA := Aside0.mk nA
                  clear nA
                  have nS := hHeld.2.2.1.out.below hb
                  have nq := hHeld.2.2.2.1.out.below hb
                  have ni := hHeld.2.2.2.2.out.below hb
                  clear hHeld hb
                  refine hK.out _ _ ⟨nS.bp.cell 0, nS.ps.cell 1, ⟨nS⟩, ⟨nq⟩, ⟨ni⟩⟩ (fun hHeld => ?_)
                  clear hK K
                  refine norm_ (a' := ?_) ?_ ?_
                  rotate_left
                  · show Act.put _ (some 73) _ = _
                    simp only [Act.put, List.setIfInBounds_toArray, List.set_cons_zero, List.set_cons_succ, i64_w, i32_w]
                    rfl
                  exact norm_ (by first | (simp only [putAll, Act.put, List.setIfInBounds_toArray, List.set_cons_zero, List.set_cons_succ]; done) | (simp only [putAll, Act.put, List.setIfInBounds_toArray, List.set_cons_zero, List.set_cons_succ]; rfl)) (hCont w5.heap.size _ ⟨hHeld, HA, HZ⟩)
              · skip
                refine alloc_step (t := 199) (cs := #[.int .u64 0, .int .u64 0, .int .u64 0, .int .u64 0]) (by rfl) rfl ?hr ?_
                case hr => first | (go_simp; done) | (go_simp; rfl)
                intro w5 hA hb _
                have HA := Aside0.mk hA
                have HZ := Aside0.mk hHeld.2.2.1.out.fr.size
                clear hA
                have nS := hHeld.2.2.1.out.below hb
                have nq := hHeld.2.2.2.1.out.below hb
                have ni := hHeld.2.2.2.2.out.below hb
                clear hHeld hb
                refine hK.out _ _ ⟨nS.bp.cell 0, nS.ps.cell 1, ⟨nS⟩, ⟨nq⟩, ⟨ni⟩⟩ (fun hHeld => ?_)
                clear hK K
                refine norm_ (a' := ?_) ?_ ?_
                rotate_left
                · show Act.put _ (some 13) _ = _
                  simp only [Act.put, List.setIfInBounds_toArray, List.set_cons_zero, List.set_cons_succ, i64_w, i32_w]
                  rfl
                refine one_ (i := 3) (N := some 64) #[true, true, true, true, true, false, true, false, true, true, true, true, false, true, false] rfl rfl (by kernel_rfl) (by decide) (fun K hK => ?_)
                refine call_ 169 #[.int .i64 1, .pointer (some ⟨bp, 0, none⟩), .pointer (some ⟨bq, 0, none⟩), .pointer (some ⟨bs, 0, none⟩), .pointer (some ⟨bi, 0, none⟩), .pointer (some ⟨bn, 0, none⟩)] (by rfl) rfl ?hr ?_
                case hr => first | (go_simp; done) | (go_simp; rfl)
                with_reducible refine (at_q 1 1 i q (i + m) m bq bi hHeld.2.2.1.out hHeld.2.2.2.1.out hHeld.2.2.2.2.out rfl (by decide) h1 h2 Hn.out HN.out H2.out (by omega) hn2).mono ?_
                rintro e w6 ⟨rfl, hb⟩
                refine ⟨_, rfl, ?_⟩
                have nA := HA.out.below hb
                clear HA
                have HA := Aside0.mk nA
                clear nA
                have nS := hHeld.2.2.1.out.below hb
                have nq := hHeld.2.2.2.1.out.below hb
                have ni := hHeld.2.2.2.2.out.below hb
                clear hHeld hb
                refine hK.out _ _ ⟨nS.bp.cell 0, nS.ps.cell 1, ⟨nS⟩, ⟨nq⟩, ⟨ni⟩⟩ (fun hHeld => ?_)
                clear hK K
                refine norm_ (a' := ?_) ?_ ?_
                rotate_left
                · show Act.put _ (some 64) _ = _
                  simp only [Act.put, List.setIfInBounds_toArray, List.set_cons_zero, List.set_cons_succ, i64_w, i32_w]
                  rfl
                refine one_ (i := 5) (N := some 66) #[true, true, true, true, true, true, true, false, true, true, true, true, false, true, false] rfl rfl (by kernel_rfl) (by decide) (fun K hK => ?_)
                refine call_ 169 #[.int .i64 2, .pointer (some ⟨bp, 0, none⟩), .pointer (some ⟨bq, 0, none⟩), .pointer (some ⟨bs, 0, none⟩), .pointer (some ⟨bi, 0, none⟩), .pointer (some ⟨bn, 0, none⟩)] (by rfl) rfl ?hr ?_
                case hr => first | (go_simp; done) | (go_simp; rfl)
                with_reducible refine (at_q 2 2 i q (i + 2 * m) m bq bi hHeld.2.2.1.out hHeld.2.2.2.1.out hHeld.2.2.2.2.out rfl (by decide) h1 h2 Hn.out HN.out H2.out (by omega) hn2).mono ?_
                rintro e w7 ⟨rfl, hb⟩
                refine ⟨_, rfl, ?_⟩
                have nA := HA.out.below hb
                clear HA
                have HA := Aside0.mk nA
                clear nA
                have nS := hHeld.2.2.1.out.below hb
                have nq := hHeld.2.2.2.1.out.below hb
                have ni := hHeld.2.2.2.2.out.below hb
                clear hHeld hb
                refine hK.out _ _ ⟨nS.bp.cell 0, nS.ps.cell 1, ⟨nS⟩, ⟨nq⟩, ⟨ni⟩⟩ (fun hHeld => ?_)
                clear hK K
                refine norm_ (a' := ?_) ?_ ?_
                rotate_left
                · show Act.put _ (some 66) _ = _
                  simp only [Act.put, List.setIfInBounds_toArray, List.set_cons_zero, List.set_cons_succ, i64_w, i32_w]
                  rfl
                refine one_ (i := 7) (N := some 68) #[true, true, true, true, true, true, true, true, true, true, true, true, false, true, false] rfl rfl (by kernel_rfl) (by decide) (fun K hK => ?_)
                refine call_ 169 #[.int .i64 3, .pointer (some ⟨bp, 0, none⟩), .pointer (some ⟨bq, 0, none⟩), .pointer (some ⟨bs, 0, none⟩), .pointer (some ⟨bi, 0, none⟩), .pointer (some ⟨bn, 0, none⟩)] (by rfl) rfl ?hr ?_
                case hr => first | (go_simp; done) | (go_simp; rfl)
                with_reducible refine (at_q 3 3 i q (i + 3 * m) m bq bi hHeld.2.2.1.out hHeld.2.2.2.1.out hHeld.2.2.2.2.out rfl (by decide) h1 h2 Hn.out HN.out H2.out (by omega) hn2).mono ?_
                rintro e w8 ⟨rfl, hb⟩
                refine ⟨_, rfl, ?_⟩
                have nA := HA.out.below hb
                clear HA
                have HA := Aside0.mk nA
                clear nA
                have nS := hHeld.2.2.1.out.below hb
                have nq := hHeld.2.2.2.1.out.below hb
                have ni := hHeld.2.2.2.2.out.below hb
                clear hHeld hb
                refine hK.out _ _ ⟨nS.bp.cell 0, nS.ps.cell 1, ⟨nS⟩, ⟨nq⟩, ⟨ni⟩⟩ (fun hHeld => ?_)
                clear hK K
                refine norm_ (a' := ?_) ?_ ?_
                rotate_left
                · show Act.put _ (some 68) _ = _
                  simp only [Act.put, List.setIfInBounds_toArray, List.set_cons_zero, List.set_cons_succ, i64_w, i32_w]
                  rfl
                refine one_ (i := 12) (N := some 73) #[true, true, true, true, true, true, true, true, true, true, true, true, true, true, false] rfl rfl (by kernel_rfl) (by decide) (fun K hK => ?_)
                refine goes_ Tryd.func170 (by kernel_rfl) rfl #[.int .u64 (fv (f (q + s * i))), .int .u64 (fv (f (q + s * (i + m)))), .int .u64 (fv (f (q + s * (i + 2 * m)))), .int .u64 (fv (f (q + s * (i + 3 * m)))), .int .u64 (fv U)] (by rfl) rfl rfl (by simp only [List.map_toArray, List.map_cons, List.map_nil]; rfl) ?_
                with_reducible refine (cross_calls _ _ _ _ _ _).mono ?_
                rintro e w9 ⟨rfl, hb⟩
                refine ⟨_, rfl, ?_⟩
                have nA := HA.out.below hb
                clear HA
                have HA := Aside0.mk nA
                clear nA
                have nS := hHeld.2.2.1.out.below hb
                have nq := hHeld.2.2.2.1.out.below hb
                have ni := hHeld.2.2.2.2.out.below hb
                clear hHeld hb
                refine hK.out _ _ ⟨nS.bp.cell 0, nS.ps.cell 1, ⟨nS⟩, ⟨nq⟩, ⟨ni⟩⟩ (fun hHeld => ?_)
                clear hK K
                refine norm_ (a' := ?_) ?_ ?_
                rotate_left
                · show Act.put _ (some 73) _ = _
                  simp only [Act.put, List.setIfInBounds_toArray, List.set_cons_zero, List.set_cons_succ, i64_w, i32_w]
                  rfl
                exact norm_ (by first | (simp only [putAll, Act.put, List.setIfInBounds_toArray, List.set_cons_zero, List.set_cons_succ]; done) | (simp only [putAll, Act.put, List.setIfInBounds_toArray, List.set_cons_zero, List.set_cons_succ]; rfl)) (hCont w4.heap.size _ ⟨hHeld, HA, HZ⟩)
            · skip
              refine alloc_step (t := 199) (cs := #[.int .u64 0, .int .u64 0, .int .u64 0, .int .u64 0]) (by rfl) rfl ?hr ?_
              case hr => first | (go_simp; done) | (go_simp; rfl)
              intro w4 hA hb _
              have HA := Aside0.mk hA
              have HZ := Aside0.mk hHeld.2.2.1.out.fr.size
              clear hA
              have nS := hHeld.2.2.1.out.below hb
              have nq := hHeld.2.2.2.1.out.below hb
              have ni := hHeld.2.2.2.2.out.below hb
              clear hHeld hb
              refine hK.out _ _ ⟨nS.bp.cell 0, nS.ps.cell 1, ⟨nS⟩, ⟨nq⟩, ⟨ni⟩⟩ (fun hHeld => ?_)
              clear hK K
              refine norm_ (a' := ?_) ?_ ?_
              rotate_left
              · show Act.put _ (some 13) _ = _
                simp only [Act.put, List.setIfInBounds_toArray, List.set_cons_zero, List.set_cons_succ, i64_w, i32_w]
                rfl
              refine one_ (i := 1) (N := some 62) #[true, true, true, false, true, false, true, false, true, true, true, true, false, true, false] rfl rfl (by kernel_rfl) (by decide) (fun K hK => ?_)
              refine call_ 169 #[.int .i64 0, .pointer (some ⟨bp, 0, none⟩), .pointer (some ⟨bq, 0, none⟩), .pointer (some ⟨bs, 0, none⟩), .pointer (some ⟨bi, 0, none⟩), .pointer (some ⟨bn, 0, none⟩)] (by rfl) rfl ?hr ?_
              case hr => first | (go_simp; done) | (go_simp; rfl)
              with_reducible refine (at_q 0 0 i q (i) m bq bi hHeld.2.2.1.out hHeld.2.2.2.1.out hHeld.2.2.2.2.out rfl (by decide) h1 h2 Hn.out HN.out H2.out (by omega) hn2).mono ?_
              rintro e w5 ⟨rfl, hb⟩
              refine ⟨_, rfl, ?_⟩
              have nA := HA.out.below hb
              clear HA
              have HA := Aside0.mk nA
              clear nA
              have nS := hHeld.2.2.1.out.below hb
              have nq := hHeld.2.2.2.1.out.below hb
              have ni := hHeld.2.2.2.2.out.below hb
              clear hHeld hb
              refine hK.out _ _ ⟨nS.bp.cell 0, nS.ps.cell 1, ⟨nS⟩, ⟨nq⟩, ⟨ni⟩⟩ (fun hHeld => ?_)
              clear hK K
              refine norm_ (a' := ?_) ?_ ?_
              rotate_left
              · show Act.put _ (some 62) _ = _
                simp only [Act.put, List.setIfInBounds_toArray, List.set_cons_zero, List.set_cons_succ, i64_w, i32_w]
                rfl
              refine one_ (i := 3) (N := some 64) #[true, true, true, true, true, false, true, false, true, true, true, true, false, true, false] rfl rfl (by kernel_rfl) (by decide) (fun K hK => ?_)
              refine call_ 169 #[.int .i64 1, .pointer (some ⟨bp, 0, none⟩), .pointer (some ⟨bq, 0, none⟩), .pointer (some ⟨bs, 0, none⟩), .pointer (some ⟨bi, 0, none⟩), .pointer (some ⟨bn, 0, none⟩)] (by rfl) rfl ?hr ?_
              case hr => first | (go_simp; done) | (go_simp; rfl)
              with_reducible refine (at_q 1 1 i q (i + m) m bq bi hHeld.2.2.1.out hHeld.2.2.2.1.out hHeld.2.2.2.2.out rfl (by decide) h1 h2 Hn.out HN.out H2.out (by omega) hn2).mono ?_
              rintro e w6 ⟨rfl, hb⟩
              refine ⟨_, rfl, ?_⟩
              have nA := HA.out.below hb
              clear HA
              have HA := Aside0.mk nA
              clear nA
              have nS := hHeld.2.2.1.out.below hb
              have nq := hHeld.2.2.2.1.out.below hb
              have ni := hHeld.2.2.2.2.out.below hb
              clear hHeld hb
              refine hK.out _ _ ⟨nS.bp.cell 0, nS.ps.cell 1, ⟨nS⟩, ⟨nq⟩, ⟨ni⟩⟩ (fun hHeld => ?_)
              clear hK K
              refine norm_ (a' := ?_) ?_ ?_
              rotate_left
              · show Act.put _ (some 64) _ = _
                simp only [Act.put, List.setIfInBounds_toArray, List.set_cons_zero, List.set_cons_succ, i64_w, i32_w]
                rfl
              refine one_ (i := 5) (N := some 66) #[true, true, true, true, true, true, true, false, true, true, true, true, false, true, false] rfl rfl (by kernel_rfl) (by decide) (fun K hK => ?_)
              refine call_ 169 #[.int .i64 2, .pointer (some ⟨bp, 0, none⟩), .pointer (some ⟨bq, 0, none⟩), .pointer (some ⟨bs, 0, none⟩), .pointer (some ⟨bi, 0, none⟩), .pointer (some ⟨bn, 0, none⟩)] (by rfl) rfl ?hr ?_
              case hr => first | (go_simp; done) | (go_simp; rfl)
              with_reducible refine (at_q 2 2 i q (i + 2 * m) m bq bi hHeld.2.2.1.out hHeld.2.2.2.1.out hHeld.2.2.2.2.out rfl (by decide) h1 h2 Hn.out HN.out H2.out (by omega) hn2).mono ?_
              rintro e w7 ⟨rfl, hb⟩
              refine ⟨_, rfl, ?_⟩
              have nA := HA.out.below hb
              clear HA
              have HA := Aside0.mk nA
              clear nA
              have nS := hHeld.2.2.1.out.below hb
              have nq := hHeld.2.2.2.1.out.below hb
              have ni := hHeld.2.2.2.2.out.below hb
              clear hHeld hb
              refine hK.out _ _ ⟨nS.bp.cell 0, nS.ps.cell 1, ⟨nS⟩, ⟨nq⟩, ⟨ni⟩⟩ (fun hHeld => ?_)
              clear hK K
              refine norm_ (a' := ?_) ?_ ?_
              rotate_left
              · show Act.put _ (some 66) _ = _
                simp only [Act.put, List.setIfInBounds_toArray, List.set_cons_zero, List.set_cons_succ, i64_w, i32_w]
                rfl
              refine one_ (i := 7) (N := some 68) #[true, true, true, true, true, true, true, true, true, true, true, true, false, true, false] rfl rfl (by kernel_rfl) (by decide) (fun K hK => ?_)
              refine call_ 169 #[.int .i64 3, .pointer (some ⟨bp, 0, none⟩), .pointer (some ⟨bq, 0, none⟩), .pointer (some ⟨bs, 0, none⟩), .pointer (some ⟨bi, 0, none⟩), .pointer (some ⟨bn, 0, none⟩)] (by rfl) rfl ?hr ?_
              case hr => first | (go_simp; done) | (go_simp; rfl)
              with_reducible refine (at_q 3 3 i q (i + 3 * m) m bq bi hHeld.2.2.1.out hHeld.2.2.2.1.out hHeld.2.2.2.2.out rfl (by decide) h1 h2 Hn.out HN.out H2.out (by omega) hn2).mono ?_
              rintro e w8 ⟨rfl, hb⟩
              refine ⟨_, rfl, ?_⟩
              have nA := HA.out.below hb
              clear HA
              have HA := Aside0.mk nA
              clear nA
              have nS := hHeld.2.2.1.out.below hb
              have nq := hHeld.2.2.2.1.out.below hb
              have ni := hHeld.2.2.2.2.out.below hb
              clear hHeld hb
              refine hK.out _ _ ⟨nS.bp.cell 0, nS.ps.cell 1, ⟨nS⟩, ⟨nq⟩, ⟨ni⟩⟩ (fun hHeld => ?_)
              clear hK K
              refine norm_ (a' := ?_) ?_ ?_
              rotate_left
              · show Act.put _ (some 68) _ = _
                simp only [Act.put, List.setIfInBounds_toArray, List.set_cons_zero, List.set_cons_succ, i64_w, i32_w]
                rfl
              refine one_ (i := 12) (N := some 73) #[true, true, true, true, true, true, true, true, true, true, true, true, true, true, false] rfl rfl (by kernel_rfl) (by decide) (fun K hK => ?_)
              refine goes_ Tryd.func170 (by kernel_rfl) rfl #[.int .u64 (fv (f (q + s * i))), .int .u64 (fv (f (q + s * (i + m)))), .int .u64 (fv (f (q + s * (i + 2 * m)))), .int .u64 (fv (f (q + s * (i + 3 * m)))), .int .u64 (fv U)] (by rfl) rfl rfl (by simp only [List.map_toArray, List.map_cons, List.map_nil]; rfl) ?_
              with_reducible refine (cross_calls _ _ _ _ _ _).mono ?_
              rintro e w9 ⟨rfl, hb⟩
              refine ⟨_, rfl, ?_⟩
              have nA := HA.out.below hb
              clear HA
              have HA := Aside0.mk nA
              clear nA
              have nS := hHeld.2.2.1.out.below hb
              have nq := hHeld.2.2.2.1.out.below hb
              have ni := hHeld.2.2.2.2.out.below hb
              clear hHeld hb
              refine hK.out _ _ ⟨nS.bp.cell 0, nS.ps.cell 1, ⟨nS⟩, ⟨nq⟩, ⟨ni⟩⟩ (fun hHeld => ?_)
              clear hK K
              refine norm_ (a' := ?_) ?_ ?_
              rotate_left
              · show Act.put _ (some 73) _ = _
                simp only [Act.put, List.setIfInBounds_toArray, List.set_cons_zero, List.set_cons_succ, i64_w, i32_w]
                rfl
              exact norm_ (by first | (simp only [putAll, Act.put, List.setIfInBounds_toArray, List.set_cons_zero, List.set_cons_succ]; done) | (simp only [putAll, Act.put, List.setIfInBounds_toArray, List.set_cons_zero, List.set_cons_succ]; rfl)) (hCont wq.heap.size _ ⟨hHeld, HA, HZ⟩)
          rintro ba w10 ⟨hHeld, HA, HZ⟩
          refine norm_ (a' := ?_) ?_ ?_
          rotate_left
          · simp only [putAll, Act.put, List.setIfInBounds_toArray, List.set_cons_zero, List.set_cons_succ]
            rfl
          refine last_ (i := 14) (N := none) #[true, true, true, true, true, true, true, true, true, true, true, true, true, true, true] rfl rfl (by kernel_rfl) (by decide) (fun K hK => ?_)
          have z0 := HA.out.cell 0
          have z1 := HA.out.cell 1
          have z2 := HA.out.cell 2
          have z3 := HA.out.cell 3
          have y0 := HA.out.frozen 0
          have y1 := HA.out.frozen 1
          have y2 := HA.out.frozen 2
          have y3 := HA.out.frozen 3
          refine skip_ (w1 := ?_) (by rfl) rfl ?_ ?_
          rotate_left
          · go_simp
            rfl
          refine hK.out _ _ ?_
          clear hK K
          refine done_ (by kernel_rfl) ?_
          have hQ9 := hHeld.2.2.1.out
          have hq9 := hHeld.2.2.2.1.out
          have hi9 := hHeld.2.2.2.2.out
          have HC := Aside0.mk (Cst.made hQ9 hi9 hq9 HA.out HZ.out (crs (f (q + s * i)) (f (q + s * (i + m))) (f (q + s * (i + 2 * m))) (f (q + s * (i + 3 * m))) U 0) (crs (f (q + s * i)) (f (q + s * (i + m))) (f (q + s * (i + 2 * m))) (f (q + s * (i + 3 * m))) U 1) (crs (f (q + s * i)) (f (q + s * (i + m))) (f (q + s * (i + 2 * m))) (f (q + s * (i + 3 * m))) U 2) (crs (f (q + s * i)) (f (q + s * (i + m))) (f (q + s * (i + 2 * m))) (f (q + s * (i + 3 * m))) U 3))
          have hNx := fun {t0 t1 t2 t3 : Nat} => HD.out.next h2 h1 Hn.out HN.out hQ9.len E1.out E2.out E3.out (t0 := t0) (t1 := t1) (t2 := t2) (t3 := t3)
          have HNx := Aside0.mk @hNx
          clear hHeld hQ9 hq9 hi9 HA HZ HQq HBq HBi2 hNx
          generalize c0 : crs (f (q + s * i)) (f (q + s * (i + m))) (f (q + s * (i + 2 * m))) (f (q + s * (i + 3 * m))) U 0 = y0 at HC ⊢
          generalize c1 : crs (f (q + s * i)) (f (q + s * (i + m))) (f (q + s * (i + 2 * m))) (f (q + s * (i + 3 * m))) U 1 = y1 at HC ⊢
          generalize c2_ : crs (f (q + s * i)) (f (q + s * (i + m))) (f (q + s * (i + 2 * m))) (f (q + s * (i + 3 * m))) U 2 = y2 at HC ⊢
          generalize c3_ : crs (f (q + s * i)) (f (q + s * (i + m))) (f (q + s * (i + 2 * m))) (f (q + s * (i + 3 * m))) U 3 = y3 at HC ⊢
          obtain ⟨wc, hwc⟩ : ∃ w', w' = (((w10.setCell ⟨ba, 0, none⟩ (.int .u64 (fv y0))).setCell ⟨ba, 1, none⟩ (.int .u64 (fv y1))).setCell ⟨ba, 2, none⟩ (.int .u64 (fv y2))).setCell ⟨ba, 3, none⟩ (.int .u64 (fv y3)) := ⟨_, rfl⟩
          rw [← hwc] at HC ⊢
          clear hwc
          obtain ⟨s4, hs4⟩ : ∃ x, x = s * 4 := ⟨_, rfl⟩
          obtain ⟨z4, hz4⟩ : ∃ x, x = s4 * i := ⟨_, rfl⟩
          obtain ⟨t0, ht0⟩ : ∃ x, x = q + z4 := ⟨_, rfl⟩
          obtain ⟨t1, ht1⟩ : ∃ x, x = t0 + s := ⟨_, rfl⟩
          obtain ⟨d2, hd2⟩ : ∃ x, x = 2 * s := ⟨_, rfl⟩
          obtain ⟨t2, ht2⟩ : ∃ x, x = t0 + d2 := ⟨_, rfl⟩
          obtain ⟨d3, hd3⟩ : ∃ x, x = 3 * s := ⟨_, rfl⟩
          obtain ⟨t3, ht3⟩ : ∃ x, x = t0 + d3 := ⟨_, rfl⟩
          have et0 : t0 = q + s * (4 * i) := by rw [ht0, hz4, hs4, Nat.mul_assoc]
          have HNy := Aside0.mk (HNx.out et0 ht1 (show t2 = t0 + 2 * s by omega) (show t3 = t0 + 3 * s by omega) c0 c1 c2_ c3_)
          have T3 : Aside0 (t3 < N) := ⟨by have := place_lt h2 (show 4 * i + 3 < n by have := Hn.out; omega) HN.out
                                           rw [Nat.mul_add] at this
                                           omega⟩
          have T0 : Aside0 (t0 < N) := ⟨by have := T3.out; omega⟩
          have T1 : Aside0 (t1 < N) := ⟨by have := T3.out; omega⟩
          have T2 : Aside0 (t2 < N) := ⟨by have := T3.out; omega⟩
          have o0 : (0 : Int) ≤ (t0 : Int) ∧ (t0 : Int) < (N : Int) := by have := T0.out; omega
          have o1 : (0 : Int) ≤ (t1 : Int) ∧ (t1 : Int) < (N : Int) := by have := T1.out; omega
          have o2 : (0 : Int) ≤ (t2 : Int) ∧ (t2 : Int) < (N : Int) := by have := T2.out; omega
          have o3 : (0 : Int) ≤ (t3 : Int) ∧ (t3 : Int) < (N : Int) := by have := T3.out; omega
          have l4 := H2.out
          have l5 := T3.out
          obtain ⟨k1, k2, k3, k4, k5, k6, k7, k8⟩ : (IntKind.i64.wrap ((s : Int) * 4) = (s4 : Int) ∧ wrap64 ((s : Int) * 4) = (s4 : Int)) ∧ (IntKind.i64.wrap ((s4 : Int) * (i : Int)) = (z4 : Int) ∧ wrap64 ((s4 : Int) * (i : Int)) = (z4 : Int)) ∧ (IntKind.i64.wrap ((q : Int) + (z4 : Int)) = (t0 : Int) ∧ wrap64 ((q : Int) + (z4 : Int)) = (t0 : Int)) ∧ (IntKind.i64.wrap ((t0 : Int) + (s : Int)) = (t1 : Int) ∧ wrap64 ((t0 : Int) + (s : Int)) = (t1 : Int)) ∧ (IntKind.i64.wrap (2 * (s : Int)) = (d2 : Int) ∧ wrap64 (2 * (s : Int)) = (d2 : Int)) ∧ (IntKind.i64.wrap ((t0 : Int) + (d2 : Int)) = (t2 : Int) ∧ wrap64 ((t0 : Int) + (d2 : Int)) = (t2 : Int)) ∧ (IntKind.i64.wrap (3 * (s : Int)) = (d3 : Int) ∧ wrap64 (3 * (s : Int)) = (d3 : Int)) ∧ (IntKind.i64.wrap ((t0 : Int) + (d3 : Int)) = (t3 : Int) ∧ wrap64 ((t0 : Int) + (d3 : Int)) = (t3 : Int)) :=
            ⟨wrapb (by omega) (by omega), wrapb (by rw [← Int.natCast_mul, hz4]) (by omega), wrapb (by omega) (by omega), wrapb (by omega) (by omega), wrapb (by omega) (by omega), wrapb (by omega) (by omega), wrapb (by omega) (by omega), wrapb (by omega) (by omega)⟩
          clear hs4 hz4 ht0 ht1 hd2 ht2 hd3 ht3 et0 l4 l5 HNx c0 c1 c2_ c3_ HD
          obtain ⟨o0, o0'⟩ := o0
          obtain ⟨o1, o1'⟩ := o1
          obtain ⟨o2, o2'⟩ := o2
          obtain ⟨o3, o3'⟩ := o3
          obtain ⟨k1, k1'⟩ := k1
          obtain ⟨k2, k2'⟩ := k2
          obtain ⟨k3, k3'⟩ := k3
          obtain ⟨k4, k4'⟩ := k4
          obtain ⟨k5, k5'⟩ := k5
          obtain ⟨k6, k6'⟩ := k6
          obtain ⟨k7, k7'⟩ := k7
          obtain ⟨k8, k8'⟩ := k8
          have u1 := HC.out.bq.cell 0
          have u2 := HC.out.st.bs.cell 0
          have u3 := HC.out.bi.cell 0
          go_wp2_with fail
          clear u1 u2 u3
          refine start_ (n := 9) (S := fun w' => w'.cell? ⟨bp, 0, none⟩ = some (.pointer (some ⟨P, 0, none⟩)) ∧ w'.cell? ⟨P, 3, none⟩ = some (.slice (some ⟨gd, 0, none⟩) N cd) ∧ w'.cell? ⟨ba, 0, none⟩ = some (.int .u64 (fv y0))) (ds := [8]) #[false, false, false, false, false, false, false, false, false] (by kernel_rfl) rfl rfl ⟨HC.out.st.bp.cell 0, HC.out.st.ps.cell 3, HC.out.ba.cell 0⟩ (fun hHeld => ?_)
          refine pure_ (i := 4) (N := some 84) (v := ?_) (a' := ?_) #[false, false, false, false, true, false, false, false, false] rfl rfl (by kernel_rfl) (fun _ _ _ h => h) (Or.inl ⟨by rfl, ?_⟩) ?_ ?_
          rotate_left
          · intro w'
            go_simp
            with_reducible rfl
          rotate_left
          · simp only [Act.put, List.setIfInBounds_toArray, List.set_cons_zero, List.set_cons_succ, i64_w, i32_w]
            rfl
          refine pure_ (i := 5) (N := some 85) (v := ?_) (a' := ?_) #[false, false, false, false, true, true, false, false, false] rfl rfl (by kernel_rfl) (fun _ _ _ h => h) (Or.inl ⟨by rfl, ?_⟩) ?_ ?_
          rotate_left
          · intro w'
            go_simp
            with_reducible rfl
          rotate_left
          · simp only [Act.put, List.setIfInBounds_toArray, List.set_cons_zero, List.set_cons_succ, i64_w, i32_w]
            rfl
          refine take_ (i := 0) (N := some 80) (v := ?_) (a' := ?_) #[true, false, false, false, true, true, false, false, false] rfl rfl (by kernel_rfl) (fun _ _ _ h => h) (Or.inl ⟨by rfl, ?_⟩) hHeld ?_ ?_
          rotate_left
          · rintro w' ⟨s0, s1, s2⟩
            go_simp
            with_reducible rfl
          rotate_left
          · simp only [Act.put, List.setIfInBounds_toArray, List.set_cons_zero, List.set_cons_succ, i64_w, i32_w]
            rfl
          refine pure_ (i := 1) (N := some 81) (v := ?_) (a' := ?_) #[true, true, false, false, true, true, false, false, false] rfl rfl (by kernel_rfl) (fun _ _ _ h => h) (Or.inl ⟨by rfl, ?_⟩) ?_ ?_
          rotate_left
          · intro w'
            go_simp
            with_reducible rfl
          rotate_left
          · simp only [Act.put, List.setIfInBounds_toArray, List.set_cons_zero, List.set_cons_succ, i64_w, i32_w]
            rfl
          refine pure_ (i := 2) (N := some 82) (v := ?_) (a' := ?_) #[true, true, true, false, true, true, false, false, false] rfl rfl (by kernel_rfl) (fun _ _ _ h => h) (Or.inl ⟨by rfl, ?_⟩) ?_ ?_
          rotate_left
          · intro w'
            go_simp
            with_reducible rfl
          rotate_left
          · simp only [Act.put, List.setIfInBounds_toArray, List.set_cons_zero, List.set_cons_succ, i64_w, i32_w]
            rfl
          refine take_ (i := 3) (N := some 83) (v := ?_) (a' := ?_) #[true, true, true, true, true, true, false, false, false] rfl rfl (by kernel_rfl) (fun _ _ _ h => h) (Or.inl ⟨by rfl, ?_⟩) hHeld ?_ ?_
          rotate_left
          · rintro w' ⟨s0, s1, s2⟩
            go_simp
            with_reducible rfl
          rotate_left
          · simp only [Act.put, List.setIfInBounds_toArray, List.set_cons_zero, List.set_cons_succ, i64_w, i32_w]
            rfl
          refine take_ (i := 6) (N := some 86) (v := ?_) (a' := ?_) #[true, true, true, true, true, true, true, false, false] rfl rfl (by kernel_rfl) (fun _ _ _ h => h) (Or.inl ⟨by rfl, ?_⟩) hHeld ?_ ?_
          rotate_left
          · rintro w' ⟨s0, s1, s2⟩
            go_simp
            with_reducible rfl
          rotate_left
          · simp only [Act.put, List.setIfInBounds_toArray, List.set_cons_zero, List.set_cons_succ, i64_w, i32_w]
            rfl
          refine pure_ (i := 7) (N := some 87) (v := ?_) (a' := ?_) #[true, true, true, true, true, true, true, true, false] rfl rfl (by kernel_rfl) (fun _ _ _ h => h) (Or.inl ⟨by rfl, ?_⟩) ?_ ?_
          rotate_left
          · intro w'
            go_simp
            with_reducible rfl
          rotate_left
          · simp only [Act.put, List.setIfInBounds_toArray, List.set_cons_zero, List.set_cons_succ, i64_w, i32_w]
            rfl
          refine last_ (i := 8) (N := none) #[true, true, true, true, true, true, true, true, true] rfl rfl (by kernel_rfl) (by decide) (fun K hK => ?_)
          have c1 := HC.out.st.dst.cell t0 (by rw [HC.out.st.len]; exact T0.out)
          have f1 := HC.out.st.dst.frozen t0
          refine skip_ (w1 := ?_) (by rfl) rfl ?_ ?_
          rotate_left
          · go_simp
            rfl
          refine hK.out _ _ ?_
          clear hK K
          refine done_ (by kernel_rfl) ?_
          have HC1 := Aside0.mk ((HC.out.put t0 (fv y0)).below (below_drew1 (Below.refl _ _)))
          obtain ⟨wd, hwd⟩ : ∃ w', w' = (wc.setCell ⟨gd, t0, none⟩ (.int .u64 (fv y0))).drew := ⟨_, rfl⟩
          rw [← hwd] at HC1 ⊢
          clear hwd HC hHeld
          go_wp2_with fail
          refine start_ (n := 13) (S := fun w' => w'.cell? ⟨bp, 0, none⟩ = some (.pointer (some ⟨P, 0, none⟩)) ∧ w'.cell? ⟨P, 3, none⟩ = some (.slice (some ⟨gd, 0, none⟩) N cd) ∧ w'.cell? ⟨bs, 0, none⟩ = some (.int .i64 (s : Int)) ∧ w'.cell? ⟨ba, 1, none⟩ = some (.int .u64 (fv y1)) ∧ Aside0 (Cst w w' P gp cp gs cs gd cd bp bn bs n s N W U f (ys.set t0 (fv y0)) bi bq ba i q y0 y1 y2 y3)) (ds := [12]) #[false, false, false, false, false, false, false, false, false, false, false, false, false] (by kernel_rfl) rfl rfl ⟨HC1.out.st.bp.cell 0, HC1.out.st.ps.cell 3, HC1.out.st.bs.cell 0, HC1.out.ba.cell 1, ⟨HC1.out.below (below_drew1 (Below.refl _ _))⟩⟩ (fun hHeld => ?_)
          refine pure_ (i := 4) (N := some 92) (v := ?_) (a' := ?_) #[false, false, false, false, true, false, false, false, false, false, false, false, false] rfl rfl (by kernel_rfl) (fun _ _ _ h => h) (Or.inl ⟨by rfl, ?_⟩) ?_ ?_
          rotate_left
          · intro w'
            go_simp
            with_reducible rfl
          rotate_left
          · simp only [Act.put, List.setIfInBounds_toArray, List.set_cons_zero, List.set_cons_succ, i64_w, i32_w]
            rfl
          refine pure_ (i := 7) (N := some 95) (v := ?_) (a' := ?_) #[false, false, false, false, true, false, false, true, false, false, false, false, false] rfl rfl (by kernel_rfl) (fun _ _ _ h => h) (Or.inl ⟨by rfl, ?_⟩) ?_ ?_
          rotate_left
          · intro w'
            go_simp
            with_reducible rfl
          rotate_left
          · simp only [Act.put, List.setIfInBounds_toArray, List.set_cons_zero, List.set_cons_succ, i64_w, i32_w]
            rfl
          refine pure_ (i := 9) (N := some 97) (v := ?_) (a' := ?_) #[false, false, false, false, true, false, false, true, false, true, false, false, false] rfl rfl (by kernel_rfl) (fun _ _ _ h => h) (Or.inl ⟨by rfl, ?_⟩) ?_ ?_
          rotate_left
          · intro w'
            go_simp
            with_reducible rfl
          rotate_left
          · simp only [Act.put, List.setIfInBounds_toArray, List.set_cons_zero, List.set_cons_succ, i64_w, i32_w]
            rfl
          refine take_ (i := 0) (N := some 88) (v := ?_) (a' := ?_) #[true, false, false, false, true, false, false, true, false, true, false, false, false] rfl rfl (by kernel_rfl) (fun _ _ _ h => h) (Or.inl ⟨by rfl, ?_⟩) hHeld ?_ ?_
          rotate_left
          · rintro w' ⟨s0, s1, s2, s3, s4⟩
            go_simp
            with_reducible rfl
          rotate_left
          · simp only [Act.put, List.setIfInBounds_toArray, List.set_cons_zero, List.set_cons_succ, i64_w, i32_w]
            rfl
          refine pure_ (i := 1) (N := some 89) (v := ?_) (a' := ?_) #[true, true, false, false, true, false, false, true, false, true, false, false, false] rfl rfl (by kernel_rfl) (fun _ _ _ h => h) (Or.inl ⟨by rfl, ?_⟩) ?_ ?_
          rotate_left
          · intro w'
            go_simp
            with_reducible rfl
          rotate_left
          · simp only [Act.put, List.setIfInBounds_toArray, List.set_cons_zero, List.set_cons_succ, i64_w, i32_w]
            rfl
          refine pure_ (i := 2) (N := some 90) (v := ?_) (a' := ?_) #[true, true, true, false, true, false, false, true, false, true, false, false, false] rfl rfl (by kernel_rfl) (fun _ _ _ h => h) (Or.inl ⟨by rfl, ?_⟩) ?_ ?_
          rotate_left
          · intro w'
            go_simp
            with_reducible rfl
          rotate_left
          · simp only [Act.put, List.setIfInBounds_toArray, List.set_cons_zero, List.set_cons_succ, i64_w, i32_w]
            rfl
          refine take_ (i := 3) (N := some 91) (v := ?_) (a' := ?_) #[true, true, true, true, true, false, false, true, false, true, false, false, false] rfl rfl (by kernel_rfl) (fun _ _ _ h => h) (Or.inl ⟨by rfl, ?_⟩) hHeld ?_ ?_
          rotate_left
          · rintro w' ⟨s0, s1, s2, s3, s4⟩
            go_simp
            with_reducible rfl
          rotate_left
          · simp only [Act.put, List.setIfInBounds_toArray, List.set_cons_zero, List.set_cons_succ, i64_w, i32_w]
            rfl
          refine take_ (i := 5) (N := some 93) (v := ?_) (a' := ?_) #[true, true, true, true, true, true, false, true, false, true, false, false, false] rfl rfl (by kernel_rfl) (fun _ _ _ h => h) (Or.inl ⟨by rfl, ?_⟩) hHeld ?_ ?_
          rotate_left
          · rintro w' ⟨s0, s1, s2, s3, s4⟩
            go_simp
            with_reducible rfl
          rotate_left
          · simp only [Act.put, List.setIfInBounds_toArray, List.set_cons_zero, List.set_cons_succ, i64_w, i32_w]
            rfl
          refine pure_ (i := 6) (N := some 94) (v := ?_) (a' := ?_) #[true, true, true, true, true, true, true, true, false, true, false, false, false] rfl rfl (by kernel_rfl) (fun _ _ _ h => h) (Or.inl ⟨by rfl, ?_⟩) ?_ ?_
          rotate_left
          · intro w'
            go_simp
            with_reducible rfl
          rotate_left
          · simp only [Act.put, List.setIfInBounds_toArray, List.set_cons_zero, List.set_cons_succ, i64_w, i32_w]
            rfl
          refine take_ (i := 8) (N := some 96) (v := ?_) (a' := ?_) #[true, true, true, true, true, true, true, true, true, true, false, false, false] rfl rfl (by kernel_rfl) (fun _ _ _ h => h) (Or.inl ⟨by rfl, ?_⟩) hHeld ?_ ?_
          rotate_left
          · rintro w' ⟨s0, s1, s2, s3, s4⟩
            go_simp
            with_reducible rfl
          rotate_left
          · simp only [Act.put, List.setIfInBounds_toArray, List.set_cons_zero, List.set_cons_succ, i64_w, i32_w]
            rfl
          refine one_ (i := 10) (N := some 98) #[true, true, true, true, true, true, true, true, true, true, true, false, false] rfl rfl (by kernel_rfl) (by decide) (fun K hK => ?_)
          refine goes_ Tryd.func77 (by kernel_rfl) rfl #[.int .u64 (fv y1), .int .u64 (fv (pw W x1))] (by rfl) rfl rfl (by simp only [List.map_toArray, List.map_cons, List.map_nil]; rfl) ?_
          with_reducible refine (gold_Mul.calls _ _ _ _ (gMulF y1 (pw W x1))).mono ?_
          rintro e wd1 ⟨rfl, hb⟩
          refine ⟨_, rfl, ?_⟩
          have nS := hHeld.2.2.2.2.out.below hb
          clear hHeld hb
          refine hK.out _ _ ⟨nS.st.bp.cell 0, nS.st.ps.cell 3, nS.st.bs.cell 0, nS.ba.cell 1, ⟨nS⟩⟩ (fun hHeld => ?_)
          clear hK K
          refine norm_ (a' := ?_) ?_ ?_
          rotate_left
          · show Act.put _ (some 98) _ = _
            simp only [Act.put, List.setIfInBounds_toArray, List.set_cons_zero, List.set_cons_succ, i64_w, i32_w]
            rfl
          refine pure_ (i := 11) (N := some 99) (v := ?_) (a' := ?_) #[true, true, true, true, true, true, true, true, true, true, true, true, false] rfl rfl (by kernel_rfl) (fun _ _ _ h => h) (Or.inl ⟨by rfl, ?_⟩) ?_ ?_
          rotate_left
          · intro w'
            go_simp
            with_reducible rfl
          rotate_left
          · simp only [Act.put, List.setIfInBounds_toArray, List.set_cons_zero, List.set_cons_succ, i64_w, i32_w]
            rfl
          refine last_ (i := 12) (N := none) #[true, true, true, true, true, true, true, true, true, true, true, true, true] rfl rfl (by kernel_rfl) (by decide) (fun K hK => ?_)
          have nS := hHeld.2.2.2.2.out
          have c1 := nS.st.dst.cell t1 (by rw [nS.st.len]; exact T1.out)
          have f1 := nS.st.dst.frozen t1
          have HC2 := Aside0.mk (nS.put t1 (fv (y1 * pw W x1)))
          clear nS
          refine skip_ (w1 := ?_) (by rfl) rfl ?_ ?_
          rotate_left
          · go_simp
            rfl
          refine hK.out _ _ ?_
          clear hK K
          refine done_ (by kernel_rfl) ?_
          obtain ⟨we1, hwd⟩ : ∃ w', w' = wd1.setCell ⟨gd, t1, none⟩ (.int .u64 (fv (y1 * pw W x1))) := ⟨_, rfl⟩
          rw [← hwd] at HC2 ⊢
          clear hwd HC1 hHeld
          go_wp2_with fail
          refine start_ (n := 14) (S := fun w' => w'.cell? ⟨bp, 0, none⟩ = some (.pointer (some ⟨P, 0, none⟩)) ∧ w'.cell? ⟨P, 3, none⟩ = some (.slice (some ⟨gd, 0, none⟩) N cd) ∧ w'.cell? ⟨bs, 0, none⟩ = some (.int .i64 (s : Int)) ∧ w'.cell? ⟨ba, 2, none⟩ = some (.int .u64 (fv y2)) ∧ Aside0 (Cst w w' P gp cp gs cs gd cd bp bn bs n s N W U f ((ys.set t0 (fv y0)).set t1 (fv (y1 * pw W x1))) bi bq ba i q y0 y1 y2 y3)) (ds := [13]) #[false, false, false, false, false, false, false, false, false, false, false, false, false, false] (by kernel_rfl) rfl rfl ⟨HC2.out.st.bp.cell 0, HC2.out.st.ps.cell 3, HC2.out.st.bs.cell 0, HC2.out.ba.cell 2, ⟨HC2.out.below (below_drew1 (Below.refl _ _))⟩⟩ (fun hHeld => ?_)
          refine pure_ (i := 4) (N := some 104) (v := ?_) (a' := ?_) #[false, false, false, false, true, false, false, false, false, false, false, false, false, false] rfl rfl (by kernel_rfl) (fun _ _ _ h => h) (Or.inl ⟨by rfl, ?_⟩) ?_ ?_
          rotate_left
          · intro w'
            go_simp
            with_reducible rfl
          rotate_left
          · simp only [Act.put, List.setIfInBounds_toArray, List.set_cons_zero, List.set_cons_succ, i64_w, i32_w]
            rfl
          refine pure_ (i := 8) (N := some 108) (v := ?_) (a' := ?_) #[false, false, false, false, true, false, false, false, true, false, false, false, false, false] rfl rfl (by kernel_rfl) (fun _ _ _ h => h) (Or.inl ⟨by rfl, ?_⟩) ?_ ?_
          rotate_left
          · intro w'
            go_simp
            with_reducible rfl
          rotate_left
          · simp only [Act.put, List.setIfInBounds_toArray, List.set_cons_zero, List.set_cons_succ, i64_w, i32_w]
            rfl
          refine pure_ (i := 10) (N := some 110) (v := ?_) (a' := ?_) #[false, false, false, false, true, false, false, false, true, false, true, false, false, false] rfl rfl (by kernel_rfl) (fun _ _ _ h => h) (Or.inl ⟨by rfl, ?_⟩) ?_ ?_
          rotate_left
          · intro w'
            go_simp
            with_reducible rfl
          rotate_left
          · simp only [Act.put, List.setIfInBounds_toArray, List.set_cons_zero, List.set_cons_succ, i64_w, i32_w]
            rfl
          refine take_ (i := 0) (N := some 100) (v := ?_) (a' := ?_) #[true, false, false, false, true, false, false, false, true, false, true, false, false, false] rfl rfl (by kernel_rfl) (fun _ _ _ h => h) (Or.inl ⟨by rfl, ?_⟩) hHeld ?_ ?_
          rotate_left
          · rintro w' ⟨s0, s1, s2, s3, s4⟩
            go_simp
            with_reducible rfl
          rotate_left
          · simp only [Act.put, List.setIfInBounds_toArray, List.set_cons_zero, List.set_cons_succ, i64_w, i32_w]
            rfl
          refine pure_ (i := 1) (N := some 101) (v := ?_) (a' := ?_) #[true, true, false, false, true, false, false, false, true, false, true, false, false, false] rfl rfl (by kernel_rfl) (fun _ _ _ h => h) (Or.inl ⟨by rfl, ?_⟩) ?_ ?_
          rotate_left
          · intro w'
            go_simp
            with_reducible rfl
          rotate_left
          · simp only [Act.put, List.setIfInBounds_toArray, List.set_cons_zero, List.set_cons_succ, i64_w, i32_w]
            rfl
          refine pure_ (i := 2) (N := some 102) (v := ?_) (a' := ?_) #[true, true, true, false, true, false, false, false, true, false, true, false, false, false] rfl rfl (by kernel_rfl) (fun _ _ _ h => h) (Or.inl ⟨by rfl, ?_⟩) ?_ ?_
          rotate_left
          · intro w'
            go_simp
            with_reducible rfl
          rotate_left
          · simp only [Act.put, List.setIfInBounds_toArray, List.set_cons_zero, List.set_cons_succ, i64_w, i32_w]
            rfl
          refine take_ (i := 3) (N := some 103) (v := ?_) (a' := ?_) #[true, true, true, true, true, false, false, false, true, false, true, false, false, false] rfl rfl (by kernel_rfl) (fun _ _ _ h => h) (Or.inl ⟨by rfl, ?_⟩) hHeld ?_ ?_
          rotate_left
          · rintro w' ⟨s0, s1, s2, s3, s4⟩
            go_simp
            with_reducible rfl
          rotate_left
          · simp only [Act.put, List.setIfInBounds_toArray, List.set_cons_zero, List.set_cons_succ, i64_w, i32_w]
            rfl
          refine take_ (i := 5) (N := some 105) (v := ?_) (a' := ?_) #[true, true, true, true, true, true, false, false, true, false, true, false, false, false] rfl rfl (by kernel_rfl) (fun _ _ _ h => h) (Or.inl ⟨by rfl, ?_⟩) hHeld ?_ ?_
          rotate_left
          · rintro w' ⟨s0, s1, s2, s3, s4⟩
            go_simp
            with_reducible rfl
          rotate_left
          · simp only [Act.put, List.setIfInBounds_toArray, List.set_cons_zero, List.set_cons_succ, i64_w, i32_w]
            rfl
          refine pure_ (i := 6) (N := some 106) (v := ?_) (a' := ?_) #[true, true, true, true, true, true, true, false, true, false, true, false, false, false] rfl rfl (by kernel_rfl) (fun _ _ _ h => h) (Or.inl ⟨by rfl, ?_⟩) ?_ ?_
          rotate_left
          · intro w'
            go_simp
            with_reducible rfl
          rotate_left
          · simp only [Act.put, List.setIfInBounds_toArray, List.set_cons_zero, List.set_cons_succ, i64_w, i32_w]
            rfl
          refine pure_ (i := 7) (N := some 107) (v := ?_) (a' := ?_) #[true, true, true, true, true, true, true, true, true, false, true, false, false, false] rfl rfl (by kernel_rfl) (fun _ _ _ h => h) (Or.inl ⟨by rfl, ?_⟩) ?_ ?_
          rotate_left
          · intro w'
            go_simp
            with_reducible rfl
          rotate_left
          · simp only [Act.put, List.setIfInBounds_toArray, List.set_cons_zero, List.set_cons_succ, i64_w, i32_w]
            rfl
          refine take_ (i := 9) (N := some 109) (v := ?_) (a' := ?_) #[true, true, true, true, true, true, true, true, true, true, true, false, false, false] rfl rfl (by kernel_rfl) (fun _ _ _ h => h) (Or.inl ⟨by rfl, ?_⟩) hHeld ?_ ?_
          rotate_left
          · rintro w' ⟨s0, s1, s2, s3, s4⟩
            go_simp
            with_reducible rfl
          rotate_left
          · simp only [Act.put, List.setIfInBounds_toArray, List.set_cons_zero, List.set_cons_succ, i64_w, i32_w]
            rfl
          refine one_ (i := 11) (N := some 111) #[true, true, true, true, true, true, true, true, true, true, true, true, false, false] rfl rfl (by kernel_rfl) (by decide) (fun K hK => ?_)
          refine goes_ Tryd.func77 (by kernel_rfl) rfl #[.int .u64 (fv y2), .int .u64 (fv (pw W x2))] (by rfl) rfl rfl (by simp only [List.map_toArray, List.map_cons, List.map_nil]; rfl) ?_
          with_reducible refine (gold_Mul.calls _ _ _ _ (gMulF y2 (pw W x2))).mono ?_
          rintro e wd2 ⟨rfl, hb⟩
          refine ⟨_, rfl, ?_⟩
          have nS := hHeld.2.2.2.2.out.below hb
          clear hHeld hb
          refine hK.out _ _ ⟨nS.st.bp.cell 0, nS.st.ps.cell 3, nS.st.bs.cell 0, nS.ba.cell 2, ⟨nS⟩⟩ (fun hHeld => ?_)
          clear hK K
          refine norm_ (a' := ?_) ?_ ?_
          rotate_left
          · show Act.put _ (some 111) _ = _
            simp only [Act.put, List.setIfInBounds_toArray, List.set_cons_zero, List.set_cons_succ, i64_w, i32_w]
            rfl
          refine pure_ (i := 12) (N := some 112) (v := ?_) (a' := ?_) #[true, true, true, true, true, true, true, true, true, true, true, true, true, false] rfl rfl (by kernel_rfl) (fun _ _ _ h => h) (Or.inl ⟨by rfl, ?_⟩) ?_ ?_
          rotate_left
          · intro w'
            go_simp
            with_reducible rfl
          rotate_left
          · simp only [Act.put, List.setIfInBounds_toArray, List.set_cons_zero, List.set_cons_succ, i64_w, i32_w]
            rfl
          refine last_ (i := 13) (N := none) #[true, true, true, true, true, true, true, true, true, true, true, true, true, true] rfl rfl (by kernel_rfl) (by decide) (fun K hK => ?_)
          have nS := hHeld.2.2.2.2.out
          have c1 := nS.st.dst.cell t2 (by rw [nS.st.len]; exact T2.out)
          have f1 := nS.st.dst.frozen t2
          have HC3 := Aside0.mk (nS.put t2 (fv (y2 * pw W x2)))
          clear nS
          refine skip_ (w1 := ?_) (by rfl) rfl ?_ ?_
          rotate_left
          · go_simp
            rfl
          refine hK.out _ _ ?_
          clear hK K
          refine done_ (by kernel_rfl) ?_
          obtain ⟨we2, hwd⟩ : ∃ w', w' = wd2.setCell ⟨gd, t2, none⟩ (.int .u64 (fv (y2 * pw W x2))) := ⟨_, rfl⟩
          rw [← hwd] at HC3 ⊢
          clear hwd HC2 hHeld
          go_wp2_with fail
          refine start_ (n := 14) (S := fun w' => w'.cell? ⟨bp, 0, none⟩ = some (.pointer (some ⟨P, 0, none⟩)) ∧ w'.cell? ⟨P, 3, none⟩ = some (.slice (some ⟨gd, 0, none⟩) N cd) ∧ w'.cell? ⟨bs, 0, none⟩ = some (.int .i64 (s : Int)) ∧ w'.cell? ⟨ba, 3, none⟩ = some (.int .u64 (fv y3)) ∧ Aside0 (Cst w w' P gp cp gs cs gd cd bp bn bs n s N W U f (((ys.set t0 (fv y0)).set t1 (fv (y1 * pw W x1))).set t2 (fv (y2 * pw W x2))) bi bq ba i q y0 y1 y2 y3)) (ds := [13]) #[false, false, false, false, false, false, false, false, false, false, false, false, false, false] (by kernel_rfl) rfl rfl ⟨HC3.out.st.bp.cell 0, HC3.out.st.ps.cell 3, HC3.out.st.bs.cell 0, HC3.out.ba.cell 3, ⟨HC3.out.below (below_drew1 (Below.refl _ _))⟩⟩ (fun hHeld => ?_)
          refine pure_ (i := 4) (N := some 117) (v := ?_) (a' := ?_) #[false, false, false, false, true, false, false, false, false, false, false, false, false, false] rfl rfl (by kernel_rfl) (fun _ _ _ h => h) (Or.inl ⟨by rfl, ?_⟩) ?_ ?_
          rotate_left
          · intro w'
            go_simp
            with_reducible rfl
          rotate_left
          · simp only [Act.put, List.setIfInBounds_toArray, List.set_cons_zero, List.set_cons_succ, i64_w, i32_w]
            rfl
          refine pure_ (i := 8) (N := some 121) (v := ?_) (a' := ?_) #[false, false, false, false, true, false, false, false, true, false, false, false, false, false] rfl rfl (by kernel_rfl) (fun _ _ _ h => h) (Or.inl ⟨by rfl, ?_⟩) ?_ ?_
          rotate_left
          · intro w'
            go_simp
            with_reducible rfl
          rotate_left
          · simp only [Act.put, List.setIfInBounds_toArray, List.set_cons_zero, List.set_cons_succ, i64_w, i32_w]
            rfl
          refine pure_ (i := 10) (N := some 123) (v := ?_) (a' := ?_) #[false, false, false, false, true, false, false, false, true, false, true, false, false, false] rfl rfl (by kernel_rfl) (fun _ _ _ h => h) (Or.inl ⟨by rfl, ?_⟩) ?_ ?_
          rotate_left
          · intro w'
            go_simp
            with_reducible rfl
          rotate_left
          · simp only [Act.put, List.setIfInBounds_toArray, List.set_cons_zero, List.set_cons_succ, i64_w, i32_w]
            rfl
          refine take_ (i := 0) (N := some 113) (v := ?_) (a' := ?_) #[true, false, false, false, true, false, false, false, true, false, true, false, false, false] rfl rfl (by kernel_rfl) (fun _ _ _ h => h) (Or.inl ⟨by rfl, ?_⟩) hHeld ?_ ?_
          rotate_left
          · rintro w' ⟨s0, s1, s2, s3, s4⟩
            go_simp
            with_reducible rfl
          rotate_left
          · simp only [Act.put, List.setIfInBounds_toArray, List.set_cons_zero, List.set_cons_succ, i64_w, i32_w]
            rfl
          refine pure_ (i := 1) (N := some 114) (v := ?_) (a' := ?_) #[true, true, false, false, true, false, false, false, true, false, true, false, false, false] rfl rfl (by kernel_rfl) (fun _ _ _ h => h) (Or.inl ⟨by rfl, ?_⟩) ?_ ?_
          rotate_left
          · intro w'
            go_simp
            with_reducible rfl
          rotate_left
          · simp only [Act.put, List.setIfInBounds_toArray, List.set_cons_zero, List.set_cons_succ, i64_w, i32_w]
            rfl
          refine pure_ (i := 2) (N := some 115) (v := ?_) (a' := ?_) #[true, true, true, false, true, false, false, false, true, false, true, false, false, false] rfl rfl (by kernel_rfl) (fun _ _ _ h => h) (Or.inl ⟨by rfl, ?_⟩) ?_ ?_
          rotate_left
          · intro w'
            go_simp
            with_reducible rfl
          rotate_left
          · simp only [Act.put, List.setIfInBounds_toArray, List.set_cons_zero, List.set_cons_succ, i64_w, i32_w]
            rfl
          refine take_ (i := 3) (N := some 116) (v := ?_) (a' := ?_) #[true, true, true, true, true, false, false, false, true, false, true, false, false, false] rfl rfl (by kernel_rfl) (fun _ _ _ h => h) (Or.inl ⟨by rfl, ?_⟩) hHeld ?_ ?_
          rotate_left
          · rintro w' ⟨s0, s1, s2, s3, s4⟩
            go_simp
            with_reducible rfl
          rotate_left
          · simp only [Act.put, List.setIfInBounds_toArray, List.set_cons_zero, List.set_cons_succ, i64_w, i32_w]
            rfl
          refine take_ (i := 5) (N := some 118) (v := ?_) (a' := ?_) #[true, true, true, true, true, true, false, false, true, false, true, false, false, false] rfl rfl (by kernel_rfl) (fun _ _ _ h => h) (Or.inl ⟨by rfl, ?_⟩) hHeld ?_ ?_
          rotate_left
          · rintro w' ⟨s0, s1, s2, s3, s4⟩
            go_simp
            with_reducible rfl
          rotate_left
          · simp only [Act.put, List.setIfInBounds_toArray, List.set_cons_zero, List.set_cons_succ, i64_w, i32_w]
            rfl
          refine pure_ (i := 6) (N := some 119) (v := ?_) (a' := ?_) #[true, true, true, true, true, true, true, false, true, false, true, false, false, false] rfl rfl (by kernel_rfl) (fun _ _ _ h => h) (Or.inl ⟨by rfl, ?_⟩) ?_ ?_
          rotate_left
          · intro w'
            go_simp
            with_reducible rfl
          rotate_left
          · simp only [Act.put, List.setIfInBounds_toArray, List.set_cons_zero, List.set_cons_succ, i64_w, i32_w]
            rfl
          refine pure_ (i := 7) (N := some 120) (v := ?_) (a' := ?_) #[true, true, true, true, true, true, true, true, true, false, true, false, false, false] rfl rfl (by kernel_rfl) (fun _ _ _ h => h) (Or.inl ⟨by rfl, ?_⟩) ?_ ?_
          rotate_left
          · intro w'
            go_simp
            with_reducible rfl
          rotate_left
          · simp only [Act.put, List.setIfInBounds_toArray, List.set_cons_zero, List.set_cons_succ, i64_w, i32_w]
            rfl
          refine take_ (i := 9) (N := some 122) (v := ?_) (a' := ?_) #[true, true, true, true, true, true, true, true, true, true, true, false, false, false] rfl rfl (by kernel_rfl) (fun _ _ _ h => h) (Or.inl ⟨by rfl, ?_⟩) hHeld ?_ ?_
          rotate_left
          · rintro w' ⟨s0, s1, s2, s3, s4⟩
            go_simp
            with_reducible rfl
          rotate_left
          · simp only [Act.put, List.setIfInBounds_toArray, List.set_cons_zero, List.set_cons_succ, i64_w, i32_w]
            rfl
          refine one_ (i := 11) (N := some 124) #[true, true, true, true, true, true, true, true, true, true, true, true, false, false] rfl rfl (by kernel_rfl) (by decide) (fun K hK => ?_)
          refine goes_ Tryd.func77 (by kernel_rfl) rfl #[.int .u64 (fv y3), .int .u64 (fv (pw W x3))] (by rfl) rfl rfl (by simp only [List.map_toArray, List.map_cons, List.map_nil]; rfl) ?_
          with_reducible refine (gold_Mul.calls _ _ _ _ (gMulF y3 (pw W x3))).mono ?_
          rintro e wd3 ⟨rfl, hb⟩
          refine ⟨_, rfl, ?_⟩
          have nS := hHeld.2.2.2.2.out.below hb
          clear hHeld hb
          refine hK.out _ _ ⟨nS.st.bp.cell 0, nS.st.ps.cell 3, nS.st.bs.cell 0, nS.ba.cell 3, ⟨nS⟩⟩ (fun hHeld => ?_)
          clear hK K
          refine norm_ (a' := ?_) ?_ ?_
          rotate_left
          · show Act.put _ (some 124) _ = _
            simp only [Act.put, List.setIfInBounds_toArray, List.set_cons_zero, List.set_cons_succ, i64_w, i32_w]
            rfl
          refine pure_ (i := 12) (N := some 125) (v := ?_) (a' := ?_) #[true, true, true, true, true, true, true, true, true, true, true, true, true, false] rfl rfl (by kernel_rfl) (fun _ _ _ h => h) (Or.inl ⟨by rfl, ?_⟩) ?_ ?_
          rotate_left
          · intro w'
            go_simp
            with_reducible rfl
          rotate_left
          · simp only [Act.put, List.setIfInBounds_toArray, List.set_cons_zero, List.set_cons_succ, i64_w, i32_w]
            rfl
          refine last_ (i := 13) (N := none) #[true, true, true, true, true, true, true, true, true, true, true, true, true, true] rfl rfl (by kernel_rfl) (by decide) (fun K hK => ?_)
          have nS := hHeld.2.2.2.2.out
          have c1 := nS.st.dst.cell t3 (by rw [nS.st.len]; exact T3.out)
          have f1 := nS.st.dst.frozen t3
          have HC4 := Aside0.mk (nS.put t3 (fv (y3 * pw W x3)))
          clear nS
          refine skip_ (w1 := ?_) (by rfl) rfl ?_ ?_
          rotate_left
          · go_simp
            rfl
          refine hK.out _ _ ?_
          clear hK K
          refine done_ (by kernel_rfl) ?_
          obtain ⟨we3, hwd⟩ : ∃ w', w' = wd3.setCell ⟨gd, t3, none⟩ (.int .u64 (fv (y3 * pw W x3))) := ⟨_, rfl⟩
          rw [← hwd] at HC4 ⊢
          clear hwd HC3 hHeld
          clear k1 k2 k3 k4 k5 k6 k7 k8 k1' k2' k3' k4' k5' k6' k7' k8' o0 o1 o2 o3 o0' o1' o2' o3'
          go_wp2
          go_roundw
          case rel => exact ⟨q + 1, _, by go_num, by omega, ⟨HC4.out.st⟩, HNy, ⟨HC4.out.bi⟩⟩
          case measure => simp [intOf]; omega
        · obtain rfl : q = s := by omega
          have hqa : decide ((q : Int) < (q : Int)) = false := decide_eq_false (by omega)
          go_wp2
          go_roundw
          case rel => exact ⟨i + 1, ys, by go_num, by omega, HQ, ⟨HD.out.row⟩⟩
          case measure => simp [intOf]; omega
    · have hia : decide ((i : Int) < (m : Int)) = false := decide_eq_false (by omega)
      obtain rfl : i = m := by omega
      go_wp2_with fail
      have hbP : bp ≠ P := HQ.out.bp.ne HQ.out.ps (by decide)
      have hbP' : P ≠ bp := Ne.symm hbP
      have v0 := HQ.out.bp.cell 0
      have v2 := HQ.out.ps.cell 2
      have v3 := HQ.out.ps.cell 3
      have z2 := HQ.out.ps.frozen 2
      have z3 := HQ.out.ps.frozen 3
      go_region
      go_wp2
      refine bodyPost_end (results_none Tryd.results165 _ _ _) rfl ?_
      have hgP : gd ≠ P := Ne.symm (HQ.out.dst.ne HQ.out.ps (by decide))
      have hgs : gs ≠ P := Ne.symm (HQ.out.src.ne HQ.out.ps (by decide))
      refine ⟨rfl, ys, HQ.out.len, HD.out, ?_, ?_, ?_, ?_⟩
      · exact (((HQ.out.fr.mono (fun k hk => by simp at hk ⊢; exact .inl hk)).set P 2 _ (.inl (by simp))).set P 3 _ (.inl (by simp))).drew
      · exact (((HQ.out.ps.put 2 _).put 3 _)).drew
      · exact ((HQ.out.src.far P 2 _ hgs).far P 3 _ hgs).below (below_drew1 (Below.refl _ _))
      · exact ((HQ.out.dst.far P 2 _ hgP).far P 3 _ hgP).below (below_drew1 (Below.refl _ _))
end Go.Proofs.YtpnkcjnemoompaaDoor.Kern
end
