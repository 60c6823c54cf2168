import Derived.Test.YtpnkcjnemoompaaGreatDoorPa2
import Derived.Test.YtpnkcjnemoompaaGreatDoorProg
import Derived.Below
import Derived.Deep.Draws
import Derived.Deep.AppendLies
import Derived.Maps.AppendAt
import Derived.OwnWalk
import Derived.Laws.BytesArg
import Derived.Laws.MakeOwn
import Derived.Laws.OwnMore
import Derived.Deep.OwnRows
import Derived.Tactics
import Derived.Lib.ConvBytes
import Derived.Laws.Slices
import Derived.WalkKit
import Derived.KernelRfl
import Derived.RowKit3
import Derived.Deep.LoopGhost
import Derived.Deep.QuietTactic
import Derived.BigQuiet
import Derived.WideLaws
import Derived.Deep.DeepCutAuto
import Derived.Deep.CutBlock
import Derived.Deep.RegionHeld3
import Derived.Laws.Rows
import Derived.Lib.AppendStr
import Derived.ArgAppend
import Derived.Laws.IdiomCopy
import Derived.OrdersHeld
import Derived.Laws.BitsLemmas
import Derived.RowKit
import Derived.Shelf.Spec.TrailingZeros
import Derived.Lib.LaidTab
import Derived.Lib.Hide
import Derived.Shelf.Strings.Builder1
import Derived.Shelf.Strings.Builder2
import Derived.Shelf.Strings.OnBuilder
import Derived.Shelf.Strings.BuilderF
import Derived.Shelf.Strings.BuilderK
import Derived.Shelf.Strings.Builder2Cap
import Derived.Shelf.Strconv.Itoa0
import Derived.Shelf.Strconv.Itoa1
import Derived.Shelf.LaysM
import Derived.Shelf.Strconv.Itoa2
import Derived.Shelf.Strconv.Itoa3
import Derived.Shelf.Bits.Mul64
import Derived.Shelf.Strings.BuilderCap
import Derived.Ground.SlgnProg
import Derived.Shelf.SlicesE.Clone
import Derived.Laws.StructEq
import Derived.Shelf.Spec.BitsCarry
import Derived.Laws.BitsAllLaws
import Derived.OpenShut
/-! Texts of this claim, joined: PFftx4, PFftx5, Nums, FftA, FftB, FldA, FldB, FldC. -/
section
namespace Go.Proofs.YtpnkcjnemoompaaGreatDoor.PFft
open Go.RowKit Go.Proofs.YtpnkcjnemoompaaGreatDoor.Ext Go.Proofs.YtpnkcjnemoompaaGreatDoor.PPlan Go.Proofs.YtpnkcjnemoompaaGreatDoorW.PrintWords Go.Proofs.YtpnkcjnemoompaaGreatDoorW.PrintLast Go.Proofs.YtpnkcjnemoompaaGreatDoorW.PrintMore
attribute [local go_sem] max2_int min2_int max_two min_two max_three min_three max_four min_four   -- for this text's walks alone
set_option linter.unusedVariables false
set_option linter.unusedSimpArgs false
def rows_check.j0 : Nat → Int → Bool → Option (Int)
  | 0, _, _ => none
  | k + 1, x2, x7 => if x7 = true then (some 19) else ((rows_direction.f x2).bind fun t189 => (if t189 = true then (some 0) else (some 18)))
def rows_check.f (k : Nat) (l0 : List Int) (a1_0 : Int) (a1_1 : Int) (a2 : Int) : Option (Int) := (shape_Good.f a1_0 a1_1).bind fun t187 => (if t187 = true then ((shape_Size.f a1_0 a1_1).bind fun t188 => (rows_check.j0 k a2 ((l0.length : Int) != t188))) else (rows_check.j0 k a2 true))
set_option maxHeartbeats 8000000 in
set_option maxRecDepth 100000 in
theorem rows_check.calls (k : Nat) (A0 : Option Addr) (c0 : Nat) (l0 : List Int) (a1_0 : Int) (a1_1 : Int) (a2 : Int) (r : Int) (w : World) (hr0 : Kd.C (Kd.int .u64) w A0 l0.length l0) (hc0 : l0.length ≤ c0) (h : rows_check.f k l0 a1_0 a1_1 a2 = some r) (hT : TabOK w) :
    Calls Tryz.prog 59 #[.slice A0 l0.length c0, .agg #[.int .i64 a1_0, .int .i64 a1_1], .int .i64 a2] w fun e w' => e = .returned (.int .i64 r) ∧ Below w.heap.size w w' := by
  have hu32 := Tryz.underlying32
  have HR0 := Aside0.mk hr0
  have HC0 := Aside0.mk hc0
  clear hr0 hc0
  have HB := Aside0.mk (Below.refl w.heap.size w)
  have H : ((shape_Good.f a1_0 a1_1).bind fun t187 => (if t187 = true then ((shape_Size.f a1_0 a1_1).bind fun t188 => (rows_check.j0 k a2 ((l0.length : Int) != t188))) else (rows_check.j0 k a2 true))) = some r := h
  clear h
  have HC4 := Aside0.mk H
  clear H
  go_enter Tryz.func59, Tryz.ntmps59
  go_upto_region 1 with (first | ((with_reducible refine gate_dst (N := 4) rfl ?_); (try (refine gate_guard (by rfl) ?_; dsimp only)); refine box_event ?hg (N := 4) ?hd (cs := #[.int .i64 a1_0, .int .i64 a1_1]) (t := 32) ?hr ?_; (case hd => rfl); (case hg => rfl); (case hr => first | (go_simp; done) | (go_simp; rfl)); intro gb186 hg w5 hbox hb; have n0_ := Aside0.mk (below_step (by repeat (first | (with_reducible first | exact HB.out | apply below_alloc | apply pw_below_drewN | apply below_drew1) | exact HB.out)) hb); have n1_ := Aside0.mk (hbox); have n2_ := Aside0.mk ((by rw [hg]; exact (below_size (by repeat (first | (with_reducible first | exact HB.out | apply below_alloc | apply pw_below_drewN | apply below_drew1) | exact HB.out))) : w.heap.size ≤ gb186)); have n3_ := Aside0.mk ((by rw [hg]; exact (below_size (by repeat (first | (with_reducible first | exact HB.out | apply below_alloc | apply pw_below_drewN | apply below_drew1) | exact HB.out))) : w.heap.size ≤ gb186)); clear HB; have HB := n0_; have BK186 := n1_; have GW186 := n2_; have GE186 := n3_; clear n0_ n1_ n2_ n3_; clear hb hbox hg))
  (try simp only [Act.put, List.setIfInBounds_toArray, List.set_cons_zero, List.set_cons_succ])
  go_cut [7] (fun v7 wc => ∃ (kq : Nat) (x7_3 : Bool), v7 = .bool x7_3 ∧ Aside0 (rows_check.j0 kq a2 x7_3 = some r) ∧ Aside0 (kq ≤ k) ∧ Aside0 (wc.heap[gb186]? = some (.cells #[.int .i64 a1_0, .int .i64 a1_1] 32 (0, 0))) ∧ Aside0 (Below w.heap.size w wc))
  case first =>
    have H := HC4.out
    clear HC4
    replace H := Option.bind_eq_some_iff.mp H
    obtain ⟨t187, A60, H⟩ := H
    replace H : (if t187 = true then ((shape_Size.f a1_0 a1_1).bind fun t188 => (rows_check.j0 k a2 ((l0.length : Int) != t188))) else (rows_check.j0 k a2 true)) = some r := H
    have A6 := Aside0.mk A60
    clear A60
    by_cases c7 : t187 = true
    · subst c7
      have H1 : ((shape_Size.f a1_0 a1_1).bind fun t188 => (rows_check.j0 k a2 ((l0.length : Int) != t188))) = some r := by rw [if_pos rfl] at H; exact H
      clear H
      have H := H1
      clear H1
      replace H := Option.bind_eq_some_iff.mp H
      obtain ⟨t188, A80, H⟩ := H
      replace H : (rows_check.j0 k a2 ((l0.length : Int) != t188)) = some r := H
      have A8 := Aside0.mk A80
      clear A80
      have H' := Aside0.mk H
      clear H
      have hcz9_0 : w5.cell? ⟨gb186, 0, none⟩ = some (.int .i64 a1_0) := (blk_cell BK186.out 0).trans rfl
      have hcz9_1 : w5.cell? ⟨gb186, 1, none⟩ = some (.int .i64 a1_1) := (blk_cell BK186.out 1).trans rfl
      have hfz9_0 := blk_frozen BK186.out 0
      have hfz9_1 := blk_frozen BK186.out 1
      go_wp2_with (first | ((with_reducible refine gate_callee (f := 21) rfl ?_); refine goesL_ (some 9) rfl rfl Tryz.func21 (by kernel_rfl) rfl #[.agg #[.int .i64 a1_0, .int .i64 a1_1]] rfl (by (try simp only [List.map_toArray, List.map_cons, List.map_nil]); first | done | rfl | (simp only [List.length_drop, List.length_take]; rfl)) ?_; (with_reducible refine (shape_Good.calls a1_0 a1_1 true _ A6.out (TabOK.below hT (by repeat (first | (with_reducible first | exact HB.out | apply below_alloc | apply pw_below_drewN | apply below_drew1 | refine below_set ?_ GE186.out) | exact HB.out)))).mono ?_); rintro e w10 ⟨rfl, hb⟩; refine ⟨_, rfl, ?_⟩; have n0_ := Aside0.mk (blk_below (g := gb186) (o := .cells #[.int .i64 a1_0, .int .i64 a1_1] 32 (0, 0)) (by (with_reducible repeat (first | refine blk_drewN ?_ _ | refine blk_drew ?_ | refine blk_alloc ?_ _)); exact BK186.out) hb); have n1_ := Aside0.mk (below_step (by repeat (first | (with_reducible first | exact HB.out | apply below_alloc | apply pw_below_drewN | apply below_drew1 | refine below_set ?_ GE186.out) | exact HB.out)) hb); clear BK186; clear HB; have BK186 := n0_; have HB := n1_; clear n0_ n1_; (try clear hb); (try clear hb2); (try clear hk); (try clear hi); have hcz11_0 : w10.cell? ⟨gb186, 0, none⟩ = some (.int .i64 a1_0) := (blk_cell BK186.out 0).trans rfl; have hcz11_1 : w10.cell? ⟨gb186, 1, none⟩ = some (.int .i64 a1_1) := (blk_cell BK186.out 1).trans rfl; have hfz11_0 := blk_frozen BK186.out 0; have hfz11_1 := blk_frozen BK186.out 1) | (go_at_call 22; (with_reducible refine (shape_Size.calls a1_0 a1_1 t188 _ A8.out (TabOK.below hT (by repeat (first | (with_reducible first | exact HB.out | apply below_alloc | apply pw_below_drewN | apply below_drew1 | refine below_set ?_ GE186.out) | exact HB.out)))).mono ?_); rintro e w12 ⟨rfl, hb⟩; have n0_ := Aside0.mk (blk_below (g := gb186) (o := .cells #[.int .i64 a1_0, .int .i64 a1_1] 32 (0, 0)) (by (with_reducible repeat (first | refine blk_drewN ?_ _ | refine blk_drew ?_ | refine blk_alloc ?_ _)); exact BK186.out) hb); have n1_ := Aside0.mk (below_step (by repeat (first | (with_reducible first | exact HB.out | apply below_alloc | apply pw_below_drewN | apply below_drew1 | refine below_set ?_ GE186.out) | exact HB.out)) hb); clear BK186; clear HB; have BK186 := n0_; have HB := n1_; clear n0_ n1_; (try clear hb); (try clear hb2); (try clear hk); (try clear hi)))
      go_meet
      case rel => exact ⟨_, (((l0.length : Int) != t188)), (by first | rfl | (simp; done) | (simp [*]; done)), H', ⟨by first | omega | exact Nat.le_refl _⟩, ⟨by (with_reducible repeat (first | refine blk_drewN ?_ _ | refine blk_drew ?_ | refine blk_alloc ?_ _)); exact BK186.out⟩, ⟨by repeat (first | (with_reducible first | exact HB.out | apply below_alloc | apply pw_below_drewN | apply below_drew1 | refine below_set ?_ GE186.out) | exact HB.out)⟩⟩
    · replace c7 := Bool.eq_false_iff.mpr c7
      subst c7
      have H1 : (rows_check.j0 k a2 true) = some r := by rw [if_neg (show ¬ (false = true) by decide)] at H; exact H
      clear H
      have H := H1
      clear H1
      have H' := Aside0.mk H
      clear H
      have hcz13_0 : w5.cell? ⟨gb186, 0, none⟩ = some (.int .i64 a1_0) := (blk_cell BK186.out 0).trans rfl
      have hcz13_1 : w5.cell? ⟨gb186, 1, none⟩ = some (.int .i64 a1_1) := (blk_cell BK186.out 1).trans rfl
      have hfz13_0 := blk_frozen BK186.out 0
      have hfz13_1 := blk_frozen BK186.out 1
      go_wp2_with (first | ((with_reducible refine gate_callee (f := 21) rfl ?_); refine goesL_ (some 9) rfl rfl Tryz.func21 (by kernel_rfl) rfl #[.agg #[.int .i64 a1_0, .int .i64 a1_1]] rfl (by (try simp only [List.map_toArray, List.map_cons, List.map_nil]); first | done | rfl | (simp only [List.length_drop, List.length_take]; rfl)) ?_; (with_reducible refine (shape_Good.calls a1_0 a1_1 false _ A6.out (TabOK.below hT (by repeat (first | (with_reducible first | exact HB.out | apply below_alloc | apply pw_below_drewN | apply below_drew1 | refine below_set ?_ GE186.out) | exact HB.out)))).mono ?_); rintro e w14 ⟨rfl, hb⟩; refine ⟨_, rfl, ?_⟩; have n0_ := Aside0.mk (blk_below (g := gb186) (o := .cells #[.int .i64 a1_0, .int .i64 a1_1] 32 (0, 0)) (by (with_reducible repeat (first | refine blk_drewN ?_ _ | refine blk_drew ?_ | refine blk_alloc ?_ _)); exact BK186.out) hb); have n1_ := Aside0.mk (below_step (by repeat (first | (with_reducible first | exact HB.out | apply below_alloc | apply pw_below_drewN | apply below_drew1 | refine below_set ?_ GE186.out) | exact HB.out)) hb); clear BK186; clear HB; have BK186 := n0_; have HB := n1_; clear n0_ n1_; (try clear hb); (try clear hb2); (try clear hk); (try clear hi)))
      go_meet
      case rel => exact ⟨_, (true), (by first | rfl | (simp; done) | (simp [*]; done)), H', ⟨by first | omega | exact Nat.le_refl _⟩, ⟨by (with_reducible repeat (first | refine blk_drewN ?_ _ | refine blk_drew ?_ | refine blk_alloc ?_ _)); exact BK186.out⟩, ⟨by repeat (first | (with_reducible first | exact HB.out | apply below_alloc | apply pw_below_drewN | apply below_drew1 | refine below_set ?_ GE186.out) | exact HB.out)⟩⟩
  case rest =>
    clear HC4
    try clear c2
    try clear p2
    try clear c5
    try clear c7
    try clear hcz11_0
    try clear hcz11_1
    try clear hcz13_0
    try clear hcz13_1
    try clear hcz9_0
    try clear hcz9_1
    try clear hfz11_0
    try clear hfz11_1
    try clear hfz13_0
    try clear hfz13_1
    try clear hfz9_0
    try clear hfz9_1
    obtain ⟨kq, x7_3, rfl, HA, HJ3, BK186, HB⟩ := hcut
    cases kq with
    | zero => exact absurd HA.out (by simp [rows_check.j0])
    | succ kj3 =>
      have H := HA.out
      clear HA
      simp only [rows_check.j0] at H
      by_cases c15 : x7_3 = true
      · subst c15
        have H1 : (some 19) = some r := by rw [if_pos rfl] at H; exact H
        clear H
        have H := H1
        clear H1
        obtain rfl := Option.some.inj H
        go_wp2
        go_ret
        exact ⟨by first | rfl | (simp [errW_none, errW_some] <;> rfl) | (simp [*, errW_none, errW_some] <;> rfl), by repeat (first | (with_reducible first | exact HB.out | apply below_alloc | apply pw_below_drewN | apply below_drew1 | refine below_set ?_ GE186.out) | exact HB.out)⟩
      · replace c15 := Bool.eq_false_iff.mpr c15
        subst c15
        have H1 : ((rows_direction.f a2).bind fun t189 => (if t189 = true then (some 0) else (some 18))) = some r := by rw [if_neg (show ¬ (false = true) by decide)] at H; exact H
        clear H
        have H := H1
        clear H1
        replace H := Option.bind_eq_some_iff.mp H
        obtain ⟨t189, A160, H⟩ := H
        replace H : (if t189 = true then (some 0) else (some 18)) = some r := H
        have A16 := Aside0.mk A160
        clear A160
        by_cases c17 : t189 = true
        · subst c17
          have H1 : (some 0) = some r := by rw [if_pos rfl] at H; exact H
          clear H
          have H := H1
          clear H1
          obtain rfl := Option.some.inj H
          go_wp2_with (first | ((with_reducible refine gate_callee (f := 76) rfl ?_); refine goesL_ (some 20) rfl rfl Tryz.func76 (by kernel_rfl) rfl #[.int .i64 a2] rfl (by (try simp only [List.map_toArray, List.map_cons, List.map_nil]); first | done | rfl | (simp only [List.length_drop, List.length_take]; rfl)) ?_; (with_reducible refine (rows_direction.calls a2 true _ A16.out).mono ?_); rintro e w' ⟨rfl, ⟨nd, rfl⟩⟩; refine ⟨_, rfl, ?_⟩))
          go_ret
          exact ⟨by first | rfl | (simp [errW_none, errW_some] <;> rfl) | (simp [*, errW_none, errW_some] <;> rfl), by repeat (first | (with_reducible first | exact HB.out | apply below_alloc | apply pw_below_drewN | apply below_drew1 | refine below_set ?_ GE186.out) | exact HB.out)⟩
        · replace c17 := Bool.eq_false_iff.mpr c17
          subst c17
          have H1 : (some 18) = some r := by rw [if_neg (show ¬ (false = true) by decide)] at H; exact H
          clear H
          have H := H1
          clear H1
          obtain rfl := Option.some.inj H
          go_wp2_with (first | ((with_reducible refine gate_callee (f := 76) rfl ?_); refine goesL_ (some 20) rfl rfl Tryz.func76 (by kernel_rfl) rfl #[.int .i64 a2] rfl (by (try simp only [List.map_toArray, List.map_cons, List.map_nil]); first | done | rfl | (simp only [List.length_drop, List.length_take]; rfl)) ?_; (with_reducible refine (rows_direction.calls a2 false _ A16.out).mono ?_); rintro e w' ⟨rfl, ⟨nd, rfl⟩⟩; refine ⟨_, rfl, ?_⟩))
          go_ret
          exact ⟨by first | rfl | (simp [errW_none, errW_some] <;> rfl) | (simp [*, errW_none, errW_some] <;> rfl), by repeat (first | (with_reducible first | exact HB.out | apply below_alloc | apply pw_below_drewN | apply below_drew1 | refine below_set ?_ GE186.out) | exact HB.out)⟩
def rows_Good.f (a0_0 : Int) (a0_1 : Int) (a0_2 : Int) (a1 : Int) : Option (Bool) := if a0_2 < 0 then (some false) else (if a0_2 > 1048576 then (some false) else (if a0_1 < 1 then (some false) else (if a0_0 < 0 then (some false) else (if a0_2 = 0 then (some true) else (if a0_0 < a1 then (if a0_2 = 1 then (some true) else (if (wrap64 (a0_2 - 1)) = 0 then (none) else (some (decide (a0_1 ≤ (wrap64 (Int.tdiv (wrap64 ((wrap64 (a1 - 1)) - a0_0)) (wrap64 (a0_2 - 1))))))))) else (some false))))))
set_option maxHeartbeats 8000000 in
set_option maxRecDepth 100000 in
theorem rows_Good.calls (a0_0 : Int) (a0_1 : Int) (a0_2 : Int) (a1 : Int) (r : Bool) (w : World) (h : rows_Good.f a0_0 a0_1 a0_2 a1 = some r) :
    Calls Tryz.prog 102 #[.agg #[.int .i64 a0_0, .int .i64 a0_1, .int .i64 a0_2], .int .i64 a1] w fun e w' => e = .returned (.bool r) ∧ Below w.heap.size w w' := by
  have hu97 := Tryz.underlying97
  have HB := Aside0.mk (Below.refl w.heap.size w)
  have H : (if a0_2 < 0 then (some false) else (if a0_2 > 1048576 then (some false) else (if a0_1 < 1 then (some false) else (if a0_0 < 0 then (some false) else (if a0_2 = 0 then (some true) else (if a0_0 < a1 then (if a0_2 = 1 then (some true) else (if (wrap64 (a0_2 - 1)) = 0 then (none) else (some (decide (a0_1 ≤ (wrap64 (Int.tdiv (wrap64 ((wrap64 (a1 - 1)) - a0_0)) (wrap64 (a0_2 - 1))))))))) else (some false))))))) = some r := h
  clear h
  by_cases c3 : a0_2 < 0
  · rw [if_pos c3] at H
    have c3b0 : decide (a0_2 < 0) = true := decide_eq_true c3
    clear c3
    obtain rfl := Option.some.inj H
    go_enter Tryz.func102, Tryz.ntmps102
    go_wp2_with (first | ((with_reducible refine gate_dst (N := 2) rfl ?_); refine box_event ?hg (N := 2) ?hd (cs := #[.int .i64 a0_0, .int .i64 a0_1, .int .i64 a0_2]) (t := 97) ?hr ?_; (case hd => rfl); (case hg => rfl); (case hr => first | (go_simp; done) | (go_simp; rfl)); intro gb190 hg w4 hbox hb; have n0_ := Aside0.mk (below_step (by repeat (first | (with_reducible first | exact HB.out | apply below_alloc | apply pw_below_drewN | apply below_drew1) | exact HB.out)) hb); have n1_ := Aside0.mk (hbox); have n2_ := Aside0.mk ((by rw [hg]; exact (below_size (by repeat (first | (with_reducible first | exact HB.out | apply below_alloc | apply pw_below_drewN | apply below_drew1) | exact HB.out))) : w.heap.size ≤ gb190)); have n3_ := Aside0.mk ((by rw [hg]; exact (below_size (by repeat (first | (with_reducible first | exact HB.out | apply below_alloc | apply pw_below_drewN | apply below_drew1) | exact HB.out))) : w.heap.size ≤ gb190)); clear HB; have HB := n0_; have BK190 := n1_; have GW190 := n2_; have GE190 := n3_; clear n0_ n1_ n2_ n3_; clear hb hbox hg; have hcz5_0 : w4.cell? ⟨gb190, 0, none⟩ = some (.int .i64 a0_0) := (blk_cell BK190.out 0).trans rfl; have hcz5_1 : w4.cell? ⟨gb190, 1, none⟩ = some (.int .i64 a0_1) := (blk_cell BK190.out 1).trans rfl; have hcz5_2 : w4.cell? ⟨gb190, 2, none⟩ = some (.int .i64 a0_2) := (blk_cell BK190.out 2).trans rfl; have hfz5_0 := blk_frozen BK190.out 0; have hfz5_1 := blk_frozen BK190.out 1; have hfz5_2 := blk_frozen BK190.out 2))
    repeat (go_quiet (first | ((with_reducible refine gate_dst (N := 2) rfl ?_); refine box_event ?hg (N := 2) ?hd (cs := #[.int .i64 a0_0, .int .i64 a0_1, .int .i64 a0_2]) (t := 97) ?hr ?_; (case hd => rfl); (case hg => rfl); (case hr => first | (go_simp; done) | (go_simp; rfl)); intro gb190 hg w4 hbox hb; have n0_ := Aside0.mk (below_step (by repeat (first | (with_reducible first | exact HB.out | apply below_alloc | apply pw_below_drewN | apply below_drew1) | exact HB.out)) hb); have n1_ := Aside0.mk (hbox); have n2_ := Aside0.mk ((by rw [hg]; exact (below_size (by repeat (first | (with_reducible first | exact HB.out | apply below_alloc | apply pw_below_drewN | apply below_drew1) | exact HB.out))) : w.heap.size ≤ gb190)); have n3_ := Aside0.mk ((by rw [hg]; exact (below_size (by repeat (first | (with_reducible first | exact HB.out | apply below_alloc | apply pw_below_drewN | apply below_drew1) | exact HB.out))) : w.heap.size ≤ gb190)); clear HB; have HB := n0_; have BK190 := n1_; have GW190 := n2_; have GE190 := n3_; clear n0_ n1_ n2_ n3_; clear hb hbox hg; have hcz5_0 : w4.cell? ⟨gb190, 0, none⟩ = some (.int .i64 a0_0) := (blk_cell BK190.out 0).trans rfl; have hcz5_1 : w4.cell? ⟨gb190, 1, none⟩ = some (.int .i64 a0_1) := (blk_cell BK190.out 1).trans rfl; have hcz5_2 : w4.cell? ⟨gb190, 2, none⟩ = some (.int .i64 a0_2) := (blk_cell BK190.out 2).trans rfl; have hfz5_0 := blk_frozen BK190.out 0; have hfz5_1 := blk_frozen BK190.out 1; have hfz5_2 := blk_frozen BK190.out 2)); try go_wp2_with (first | ((with_reducible refine gate_dst (N := 2) rfl ?_); refine box_event ?hg (N := 2) ?hd (cs := #[.int .i64 a0_0, .int .i64 a0_1, .int .i64 a0_2]) (t := 97) ?hr ?_; (case hd => rfl); (case hg => rfl); (case hr => first | (go_simp; done) | (go_simp; rfl)); intro gb190 hg w4 hbox hb; have n0_ := Aside0.mk (below_step (by repeat (first | (with_reducible first | exact HB.out | apply below_alloc | apply pw_below_drewN | apply below_drew1) | exact HB.out)) hb); have n1_ := Aside0.mk (hbox); have n2_ := Aside0.mk ((by rw [hg]; exact (below_size (by repeat (first | (with_reducible first | exact HB.out | apply below_alloc | apply pw_below_drewN | apply below_drew1) | exact HB.out))) : w.heap.size ≤ gb190)); have n3_ := Aside0.mk ((by rw [hg]; exact (below_size (by repeat (first | (with_reducible first | exact HB.out | apply below_alloc | apply pw_below_drewN | apply below_drew1) | exact HB.out))) : w.heap.size ≤ gb190)); clear HB; have HB := n0_; have BK190 := n1_; have GW190 := n2_; have GE190 := n3_; clear n0_ n1_ n2_ n3_; clear hb hbox hg; have hcz5_0 : w4.cell? ⟨gb190, 0, none⟩ = some (.int .i64 a0_0) := (blk_cell BK190.out 0).trans rfl; have hcz5_1 : w4.cell? ⟨gb190, 1, none⟩ = some (.int .i64 a0_1) := (blk_cell BK190.out 1).trans rfl; have hcz5_2 : w4.cell? ⟨gb190, 2, none⟩ = some (.int .i64 a0_2) := (blk_cell BK190.out 2).trans rfl; have hfz5_0 := blk_frozen BK190.out 0; have hfz5_1 := blk_frozen BK190.out 1; have hfz5_2 := blk_frozen BK190.out 2)))
    go_ret
    exact ⟨by first | rfl | (simp [errW_none, errW_some] <;> rfl) | (simp [*, errW_none, errW_some] <;> rfl), by repeat (first | (with_reducible first | exact HB.out | apply below_alloc | apply pw_below_drewN | apply below_drew1 | refine below_set ?_ GE190.out) | exact HB.out)⟩
  · rw [if_neg c3] at H
    have c3b0 : decide (a0_2 < 0) = false := decide_eq_false c3
    clear c3
    by_cases c6 : a0_2 > 1048576
    · rw [if_pos c6] at H
      have c6b0 : decide (1048576 < a0_2) = true := decide_eq_true c6
      clear c6
      obtain rfl := Option.some.inj H
      go_enter Tryz.func102, Tryz.ntmps102
      go_wp2_with (first | ((with_reducible refine gate_dst (N := 2) rfl ?_); refine box_event ?hg (N := 2) ?hd (cs := #[.int .i64 a0_0, .int .i64 a0_1, .int .i64 a0_2]) (t := 97) ?hr ?_; (case hd => rfl); (case hg => rfl); (case hr => first | (go_simp; done) | (go_simp; rfl)); intro gb190 hg w7 hbox hb; have n0_ := Aside0.mk (below_step (by repeat (first | (with_reducible first | exact HB.out | apply below_alloc | apply pw_below_drewN | apply below_drew1) | exact HB.out)) hb); have n1_ := Aside0.mk (hbox); have n2_ := Aside0.mk ((by rw [hg]; exact (below_size (by repeat (first | (with_reducible first | exact HB.out | apply below_alloc | apply pw_below_drewN | apply below_drew1) | exact HB.out))) : w.heap.size ≤ gb190)); have n3_ := Aside0.mk ((by rw [hg]; exact (below_size (by repeat (first | (with_reducible first | exact HB.out | apply below_alloc | apply pw_below_drewN | apply below_drew1) | exact HB.out))) : w.heap.size ≤ gb190)); clear HB; have HB := n0_; have BK190 := n1_; have GW190 := n2_; have GE190 := n3_; clear n0_ n1_ n2_ n3_; clear hb hbox hg; have hcz8_0 : w7.cell? ⟨gb190, 0, none⟩ = some (.int .i64 a0_0) := (blk_cell BK190.out 0).trans rfl; have hcz8_1 : w7.cell? ⟨gb190, 1, none⟩ = some (.int .i64 a0_1) := (blk_cell BK190.out 1).trans rfl; have hcz8_2 : w7.cell? ⟨gb190, 2, none⟩ = some (.int .i64 a0_2) := (blk_cell BK190.out 2).trans rfl; have hfz8_0 := blk_frozen BK190.out 0; have hfz8_1 := blk_frozen BK190.out 1; have hfz8_2 := blk_frozen BK190.out 2))
      repeat (go_quiet (first | ((with_reducible refine gate_dst (N := 2) rfl ?_); refine box_event ?hg (N := 2) ?hd (cs := #[.int .i64 a0_0, .int .i64 a0_1, .int .i64 a0_2]) (t := 97) ?hr ?_; (case hd => rfl); (case hg => rfl); (case hr => first | (go_simp; done) | (go_simp; rfl)); intro gb190 hg w7 hbox hb; have n0_ := Aside0.mk (below_step (by repeat (first | (with_reducible first | exact HB.out | apply below_alloc | apply pw_below_drewN | apply below_drew1) | exact HB.out)) hb); have n1_ := Aside0.mk (hbox); have n2_ := Aside0.mk ((by rw [hg]; exact (below_size (by repeat (first | (with_reducible first | exact HB.out | apply below_alloc | apply pw_below_drewN | apply below_drew1) | exact HB.out))) : w.heap.size ≤ gb190)); have n3_ := Aside0.mk ((by rw [hg]; exact (below_size (by repeat (first | (with_reducible first | exact HB.out | apply below_alloc | apply pw_below_drewN | apply below_drew1) | exact HB.out))) : w.heap.size ≤ gb190)); clear HB; have HB := n0_; have BK190 := n1_; have GW190 := n2_; have GE190 := n3_; clear n0_ n1_ n2_ n3_; clear hb hbox hg; have hcz8_0 : w7.cell? ⟨gb190, 0, none⟩ = some (.int .i64 a0_0) := (blk_cell BK190.out 0).trans rfl; have hcz8_1 : w7.cell? ⟨gb190, 1, none⟩ = some (.int .i64 a0_1) := (blk_cell BK190.out 1).trans rfl; have hcz8_2 : w7.cell? ⟨gb190, 2, none⟩ = some (.int .i64 a0_2) := (blk_cell BK190.out 2).trans rfl; have hfz8_0 := blk_frozen BK190.out 0; have hfz8_1 := blk_frozen BK190.out 1; have hfz8_2 := blk_frozen BK190.out 2)); try go_wp2_with (first | ((with_reducible refine gate_dst (N := 2) rfl ?_); refine box_event ?hg (N := 2) ?hd (cs := #[.int .i64 a0_0, .int .i64 a0_1, .int .i64 a0_2]) (t := 97) ?hr ?_; (case hd => rfl); (case hg => rfl); (case hr => first | (go_simp; done) | (go_simp; rfl)); intro gb190 hg w7 hbox hb; have n0_ := Aside0.mk (below_step (by repeat (first | (with_reducible first | exact HB.out | apply below_alloc | apply pw_below_drewN | apply below_drew1) | exact HB.out)) hb); have n1_ := Aside0.mk (hbox); have n2_ := Aside0.mk ((by rw [hg]; exact (below_size (by repeat (first | (with_reducible first | exact HB.out | apply below_alloc | apply pw_below_drewN | apply below_drew1) | exact HB.out))) : w.heap.size ≤ gb190)); have n3_ := Aside0.mk ((by rw [hg]; exact (below_size (by repeat (first | (with_reducible first | exact HB.out | apply below_alloc | apply pw_below_drewN | apply below_drew1) | exact HB.out))) : w.heap.size ≤ gb190)); clear HB; have HB := n0_; have BK190 := n1_; have GW190 := n2_; have GE190 := n3_; clear n0_ n1_ n2_ n3_; clear hb hbox hg; have hcz8_0 : w7.cell? ⟨gb190, 0, none⟩ = some (.int .i64 a0_0) := (blk_cell BK190.out 0).trans rfl; have hcz8_1 : w7.cell? ⟨gb190, 1, none⟩ = some (.int .i64 a0_1) := (blk_cell BK190.out 1).trans rfl; have hcz8_2 : w7.cell? ⟨gb190, 2, none⟩ = some (.int .i64 a0_2) := (blk_cell BK190.out 2).trans rfl; have hfz8_0 := blk_frozen BK190.out 0; have hfz8_1 := blk_frozen BK190.out 1; have hfz8_2 := blk_frozen BK190.out 2)))
      go_ret
      exact ⟨by first | rfl | (simp [errW_none, errW_some] <;> rfl) | (simp [*, errW_none, errW_some] <;> rfl), by repeat (first | (with_reducible first | exact HB.out | apply below_alloc | apply pw_below_drewN | apply below_drew1 | refine below_set ?_ GE190.out) | exact HB.out)⟩
    · rw [if_neg c6] at H
      have c6b0 : decide (1048576 < a0_2) = false := decide_eq_false c6
      clear c6
      by_cases c9 : a0_1 < 1
      · rw [if_pos c9] at H
        have c9b0 : decide (a0_1 < 1) = true := decide_eq_true c9
        clear c9
        obtain rfl := Option.some.inj H
        go_enter Tryz.func102, Tryz.ntmps102
        go_wp2_with (first | ((with_reducible refine gate_dst (N := 2) rfl ?_); refine box_event ?hg (N := 2) ?hd (cs := #[.int .i64 a0_0, .int .i64 a0_1, .int .i64 a0_2]) (t := 97) ?hr ?_; (case hd => rfl); (case hg => rfl); (case hr => first | (go_simp; done) | (go_simp; rfl)); intro gb190 hg w10 hbox hb; have n0_ := Aside0.mk (below_step (by repeat (first | (with_reducible first | exact HB.out | apply below_alloc | apply pw_below_drewN | apply below_drew1) | exact HB.out)) hb); have n1_ := Aside0.mk (hbox); have n2_ := Aside0.mk ((by rw [hg]; exact (below_size (by repeat (first | (with_reducible first | exact HB.out | apply below_alloc | apply pw_below_drewN | apply below_drew1) | exact HB.out))) : w.heap.size ≤ gb190)); have n3_ := Aside0.mk ((by rw [hg]; exact (below_size (by repeat (first | (with_reducible first | exact HB.out | apply below_alloc | apply pw_below_drewN | apply below_drew1) | exact HB.out))) : w.heap.size ≤ gb190)); clear HB; have HB := n0_; have BK190 := n1_; have GW190 := n2_; have GE190 := n3_; clear n0_ n1_ n2_ n3_; clear hb hbox hg; have hcz11_0 : w10.cell? ⟨gb190, 0, none⟩ = some (.int .i64 a0_0) := (blk_cell BK190.out 0).trans rfl; have hcz11_1 : w10.cell? ⟨gb190, 1, none⟩ = some (.int .i64 a0_1) := (blk_cell BK190.out 1).trans rfl; have hcz11_2 : w10.cell? ⟨gb190, 2, none⟩ = some (.int .i64 a0_2) := (blk_cell BK190.out 2).trans rfl; have hfz11_0 := blk_frozen BK190.out 0; have hfz11_1 := blk_frozen BK190.out 1; have hfz11_2 := blk_frozen BK190.out 2))
        repeat (go_quiet (first | ((with_reducible refine gate_dst (N := 2) rfl ?_); refine box_event ?hg (N := 2) ?hd (cs := #[.int .i64 a0_0, .int .i64 a0_1, .int .i64 a0_2]) (t := 97) ?hr ?_; (case hd => rfl); (case hg => rfl); (case hr => first | (go_simp; done) | (go_simp; rfl)); intro gb190 hg w10 hbox hb; have n0_ := Aside0.mk (below_step (by repeat (first | (with_reducible first | exact HB.out | apply below_alloc | apply pw_below_drewN | apply below_drew1) | exact HB.out)) hb); have n1_ := Aside0.mk (hbox); have n2_ := Aside0.mk ((by rw [hg]; exact (below_size (by repeat (first | (with_reducible first | exact HB.out | apply below_alloc | apply pw_below_drewN | apply below_drew1) | exact HB.out))) : w.heap.size ≤ gb190)); have n3_ := Aside0.mk ((by rw [hg]; exact (below_size (by repeat (first | (with_reducible first | exact HB.out | apply below_alloc | apply pw_below_drewN | apply below_drew1) | exact HB.out))) : w.heap.size ≤ gb190)); clear HB; have HB := n0_; have BK190 := n1_; have GW190 := n2_; have GE190 := n3_; clear n0_ n1_ n2_ n3_; clear hb hbox hg; have hcz11_0 : w10.cell? ⟨gb190, 0, none⟩ = some (.int .i64 a0_0) := (blk_cell BK190.out 0).trans rfl; have hcz11_1 : w10.cell? ⟨gb190, 1, none⟩ = some (.int .i64 a0_1) := (blk_cell BK190.out 1).trans rfl; have hcz11_2 : w10.cell? ⟨gb190, 2, none⟩ = some (.int .i64 a0_2) := (blk_cell BK190.out 2).trans rfl; have hfz11_0 := blk_frozen BK190.out 0; have hfz11_1 := blk_frozen BK190.out 1; have hfz11_2 := blk_frozen BK190.out 2)); try go_wp2_with (first | ((with_reducible refine gate_dst (N := 2) rfl ?_); refine box_event ?hg (N := 2) ?hd (cs := #[.int .i64 a0_0, .int .i64 a0_1, .int .i64 a0_2]) (t := 97) ?hr ?_; (case hd => rfl); (case hg => rfl); (case hr => first | (go_simp; done) | (go_simp; rfl)); intro gb190 hg w10 hbox hb; have n0_ := Aside0.mk (below_step (by repeat (first | (with_reducible first | exact HB.out | apply below_alloc | apply pw_below_drewN | apply below_drew1) | exact HB.out)) hb); have n1_ := Aside0.mk (hbox); have n2_ := Aside0.mk ((by rw [hg]; exact (below_size (by repeat (first | (with_reducible first | exact HB.out | apply below_alloc | apply pw_below_drewN | apply below_drew1) | exact HB.out))) : w.heap.size ≤ gb190)); have n3_ := Aside0.mk ((by rw [hg]; exact (below_size (by repeat (first | (with_reducible first | exact HB.out | apply below_alloc | apply pw_below_drewN | apply below_drew1) | exact HB.out))) : w.heap.size ≤ gb190)); clear HB; have HB := n0_; have BK190 := n1_; have GW190 := n2_; have GE190 := n3_; clear n0_ n1_ n2_ n3_; clear hb hbox hg; have hcz11_0 : w10.cell? ⟨gb190, 0, none⟩ = some (.int .i64 a0_0) := (blk_cell BK190.out 0).trans rfl; have hcz11_1 : w10.cell? ⟨gb190, 1, none⟩ = some (.int .i64 a0_1) := (blk_cell BK190.out 1).trans rfl; have hcz11_2 : w10.cell? ⟨gb190, 2, none⟩ = some (.int .i64 a0_2) := (blk_cell BK190.out 2).trans rfl; have hfz11_0 := blk_frozen BK190.out 0; have hfz11_1 := blk_frozen BK190.out 1; have hfz11_2 := blk_frozen BK190.out 2)))
        go_ret
        exact ⟨by first | rfl | (simp [errW_none, errW_some] <;> rfl) | (simp [*, errW_none, errW_some] <;> rfl), by repeat (first | (with_reducible first | exact HB.out | apply below_alloc | apply pw_below_drewN | apply below_drew1 | refine below_set ?_ GE190.out) | exact HB.out)⟩
      · rw [if_neg c9] at H
        have c9b0 : decide (a0_1 < 1) = false := decide_eq_false c9
        clear c9
        by_cases c12 : a0_0 < 0
        · rw [if_pos c12] at H
          have c12b0 : decide (a0_0 < 0) = true := decide_eq_true c12
          clear c12
          obtain rfl := Option.some.inj H
          go_enter Tryz.func102, Tryz.ntmps102
          go_wp2_with (first | ((with_reducible refine gate_dst (N := 2) rfl ?_); refine box_event ?hg (N := 2) ?hd (cs := #[.int .i64 a0_0, .int .i64 a0_1, .int .i64 a0_2]) (t := 97) ?hr ?_; (case hd => rfl); (case hg => rfl); (case hr => first | (go_simp; done) | (go_simp; rfl)); intro gb190 hg w13 hbox hb; have n0_ := Aside0.mk (below_step (by repeat (first | (with_reducible first | exact HB.out | apply below_alloc | apply pw_below_drewN | apply below_drew1) | exact HB.out)) hb); have n1_ := Aside0.mk (hbox); have n2_ := Aside0.mk ((by rw [hg]; exact (below_size (by repeat (first | (with_reducible first | exact HB.out | apply below_alloc | apply pw_below_drewN | apply below_drew1) | exact HB.out))) : w.heap.size ≤ gb190)); have n3_ := Aside0.mk ((by rw [hg]; exact (below_size (by repeat (first | (with_reducible first | exact HB.out | apply below_alloc | apply pw_below_drewN | apply below_drew1) | exact HB.out))) : w.heap.size ≤ gb190)); clear HB; have HB := n0_; have BK190 := n1_; have GW190 := n2_; have GE190 := n3_; clear n0_ n1_ n2_ n3_; clear hb hbox hg; have hcz14_0 : w13.cell? ⟨gb190, 0, none⟩ = some (.int .i64 a0_0) := (blk_cell BK190.out 0).trans rfl; have hcz14_1 : w13.cell? ⟨gb190, 1, none⟩ = some (.int .i64 a0_1) := (blk_cell BK190.out 1).trans rfl; have hcz14_2 : w13.cell? ⟨gb190, 2, none⟩ = some (.int .i64 a0_2) := (blk_cell BK190.out 2).trans rfl; have hfz14_0 := blk_frozen BK190.out 0; have hfz14_1 := blk_frozen BK190.out 1; have hfz14_2 := blk_frozen BK190.out 2))
          repeat (go_quiet (first | ((with_reducible refine gate_dst (N := 2) rfl ?_); refine box_event ?hg (N := 2) ?hd (cs := #[.int .i64 a0_0, .int .i64 a0_1, .int .i64 a0_2]) (t := 97) ?hr ?_; (case hd => rfl); (case hg => rfl); (case hr => first | (go_simp; done) | (go_simp; rfl)); intro gb190 hg w13 hbox hb; have n0_ := Aside0.mk (below_step (by repeat (first | (with_reducible first | exact HB.out | apply below_alloc | apply pw_below_drewN | apply below_drew1) | exact HB.out)) hb); have n1_ := Aside0.mk (hbox); have n2_ := Aside0.mk ((by rw [hg]; exact (below_size (by repeat (first | (with_reducible first | exact HB.out | apply below_alloc | apply pw_below_drewN | apply below_drew1) | exact HB.out))) : w.heap.size ≤ gb190)); have n3_ := Aside0.mk ((by rw [hg]; exact (below_size (by repeat (first | (with_reducible first | exact HB.out | apply below_alloc | apply pw_below_drewN | apply below_drew1) | exact HB.out))) : w.heap.size ≤ gb190)); clear HB; have HB := n0_; have BK190 := n1_; have GW190 := n2_; have GE190 := n3_; clear n0_ n1_ n2_ n3_; clear hb hbox hg; have hcz14_0 : w13.cell? ⟨gb190, 0, none⟩ = some (.int .i64 a0_0) := (blk_cell BK190.out 0).trans rfl; have hcz14_1 : w13.cell? ⟨gb190, 1, none⟩ = some (.int .i64 a0_1) := (blk_cell BK190.out 1).trans rfl; have hcz14_2 : w13.cell? ⟨gb190, 2, none⟩ = some (.int .i64 a0_2) := (blk_cell BK190.out 2).trans rfl; have hfz14_0 := blk_frozen BK190.out 0; have hfz14_1 := blk_frozen BK190.out 1; have hfz14_2 := blk_frozen BK190.out 2)); try go_wp2_with (first | ((with_reducible refine gate_dst (N := 2) rfl ?_); refine box_event ?hg (N := 2) ?hd (cs := #[.int .i64 a0_0, .int .i64 a0_1, .int .i64 a0_2]) (t := 97) ?hr ?_; (case hd => rfl); (case hg => rfl); (case hr => first | (go_simp; done) | (go_simp; rfl)); intro gb190 hg w13 hbox hb; have n0_ := Aside0.mk (below_step (by repeat (first | (with_reducible first | exact HB.out | apply below_alloc | apply pw_below_drewN | apply below_drew1) | exact HB.out)) hb); have n1_ := Aside0.mk (hbox); have n2_ := Aside0.mk ((by rw [hg]; exact (below_size (by repeat (first | (with_reducible first | exact HB.out | apply below_alloc | apply pw_below_drewN | apply below_drew1) | exact HB.out))) : w.heap.size ≤ gb190)); have n3_ := Aside0.mk ((by rw [hg]; exact (below_size (by repeat (first | (with_reducible first | exact HB.out | apply below_alloc | apply pw_below_drewN | apply below_drew1) | exact HB.out))) : w.heap.size ≤ gb190)); clear HB; have HB := n0_; have BK190 := n1_; have GW190 := n2_; have GE190 := n3_; clear n0_ n1_ n2_ n3_; clear hb hbox hg; have hcz14_0 : w13.cell? ⟨gb190, 0, none⟩ = some (.int .i64 a0_0) := (blk_cell BK190.out 0).trans rfl; have hcz14_1 : w13.cell? ⟨gb190, 1, none⟩ = some (.int .i64 a0_1) := (blk_cell BK190.out 1).trans rfl; have hcz14_2 : w13.cell? ⟨gb190, 2, none⟩ = some (.int .i64 a0_2) := (blk_cell BK190.out 2).trans rfl; have hfz14_0 := blk_frozen BK190.out 0; have hfz14_1 := blk_frozen BK190.out 1; have hfz14_2 := blk_frozen BK190.out 2)))
          go_ret
          exact ⟨by first | rfl | (simp [errW_none, errW_some] <;> rfl) | (simp [*, errW_none, errW_some] <;> rfl), by repeat (first | (with_reducible first | exact HB.out | apply below_alloc | apply pw_below_drewN | apply below_drew1 | refine below_set ?_ GE190.out) | exact HB.out)⟩
        · rw [if_neg c12] at H
          have c12b0 : decide (a0_0 < 0) = false := decide_eq_false c12
          clear c12
          by_cases c15 : a0_2 = 0
          · rw [if_pos c15] at H
            have c15b0 : (a0_2 == 0) = true := beq_iff_eq.mpr c15
            have c15b1 : (a0_2 != 0) = false := bne_eq_false_iff_eq.mpr c15
            clear c15
            obtain rfl := Option.some.inj H
            go_enter Tryz.func102, Tryz.ntmps102
            go_wp2_with (first | ((with_reducible refine gate_dst (N := 2) rfl ?_); refine box_event ?hg (N := 2) ?hd (cs := #[.int .i64 a0_0, .int .i64 a0_1, .int .i64 a0_2]) (t := 97) ?hr ?_; (case hd => rfl); (case hg => rfl); (case hr => first | (go_simp; done) | (go_simp; rfl)); intro gb190 hg w16 hbox hb; have n0_ := Aside0.mk (below_step (by repeat (first | (with_reducible first | exact HB.out | apply below_alloc | apply pw_below_drewN | apply below_drew1) | exact HB.out)) hb); have n1_ := Aside0.mk (hbox); have n2_ := Aside0.mk ((by rw [hg]; exact (below_size (by repeat (first | (with_reducible first | exact HB.out | apply below_alloc | apply pw_below_drewN | apply below_drew1) | exact HB.out))) : w.heap.size ≤ gb190)); have n3_ := Aside0.mk ((by rw [hg]; exact (below_size (by repeat (first | (with_reducible first | exact HB.out | apply below_alloc | apply pw_below_drewN | apply below_drew1) | exact HB.out))) : w.heap.size ≤ gb190)); clear HB; have HB := n0_; have BK190 := n1_; have GW190 := n2_; have GE190 := n3_; clear n0_ n1_ n2_ n3_; clear hb hbox hg; have hcz17_0 : w16.cell? ⟨gb190, 0, none⟩ = some (.int .i64 a0_0) := (blk_cell BK190.out 0).trans rfl; have hcz17_1 : w16.cell? ⟨gb190, 1, none⟩ = some (.int .i64 a0_1) := (blk_cell BK190.out 1).trans rfl; have hcz17_2 : w16.cell? ⟨gb190, 2, none⟩ = some (.int .i64 a0_2) := (blk_cell BK190.out 2).trans rfl; have hfz17_0 := blk_frozen BK190.out 0; have hfz17_1 := blk_frozen BK190.out 1; have hfz17_2 := blk_frozen BK190.out 2))
            repeat (go_quiet (first | ((with_reducible refine gate_dst (N := 2) rfl ?_); refine box_event ?hg (N := 2) ?hd (cs := #[.int .i64 a0_0, .int .i64 a0_1, .int .i64 a0_2]) (t := 97) ?hr ?_; (case hd => rfl); (case hg => rfl); (case hr => first | (go_simp; done) | (go_simp; rfl)); intro gb190 hg w16 hbox hb; have n0_ := Aside0.mk (below_step (by repeat (first | (with_reducible first | exact HB.out | apply below_alloc | apply pw_below_drewN | apply below_drew1) | exact HB.out)) hb); have n1_ := Aside0.mk (hbox); have n2_ := Aside0.mk ((by rw [hg]; exact (below_size (by repeat (first | (with_reducible first | exact HB.out | apply below_alloc | apply pw_below_drewN | apply below_drew1) | exact HB.out))) : w.heap.size ≤ gb190)); have n3_ := Aside0.mk ((by rw [hg]; exact (below_size (by repeat (first | (with_reducible first | exact HB.out | apply below_alloc | apply pw_below_drewN | apply below_drew1) | exact HB.out))) : w.heap.size ≤ gb190)); clear HB; have HB := n0_; have BK190 := n1_; have GW190 := n2_; have GE190 := n3_; clear n0_ n1_ n2_ n3_; clear hb hbox hg; have hcz17_0 : w16.cell? ⟨gb190, 0, none⟩ = some (.int .i64 a0_0) := (blk_cell BK190.out 0).trans rfl; have hcz17_1 : w16.cell? ⟨gb190, 1, none⟩ = some (.int .i64 a0_1) := (blk_cell BK190.out 1).trans rfl; have hcz17_2 : w16.cell? ⟨gb190, 2, none⟩ = some (.int .i64 a0_2) := (blk_cell BK190.out 2).trans rfl; have hfz17_0 := blk_frozen BK190.out 0; have hfz17_1 := blk_frozen BK190.out 1; have hfz17_2 := blk_frozen BK190.out 2)); try go_wp2_with (first | ((with_reducible refine gate_dst (N := 2) rfl ?_); refine box_event ?hg (N := 2) ?hd (cs := #[.int .i64 a0_0, .int .i64 a0_1, .int .i64 a0_2]) (t := 97) ?hr ?_; (case hd => rfl); (case hg => rfl); (case hr => first | (go_simp; done) | (go_simp; rfl)); intro gb190 hg w16 hbox hb; have n0_ := Aside0.mk (below_step (by repeat (first | (with_reducible first | exact HB.out | apply below_alloc | apply pw_below_drewN | apply below_drew1) | exact HB.out)) hb); have n1_ := Aside0.mk (hbox); have n2_ := Aside0.mk ((by rw [hg]; exact (below_size (by repeat (first | (with_reducible first | exact HB.out | apply below_alloc | apply pw_below_drewN | apply below_drew1) | exact HB.out))) : w.heap.size ≤ gb190)); have n3_ := Aside0.mk ((by rw [hg]; exact (below_size (by repeat (first | (with_reducible first | exact HB.out | apply below_alloc | apply pw_below_drewN | apply below_drew1) | exact HB.out))) : w.heap.size ≤ gb190)); clear HB; have HB := n0_; have BK190 := n1_; have GW190 := n2_; have GE190 := n3_; clear n0_ n1_ n2_ n3_; clear hb hbox hg; have hcz17_0 : w16.cell? ⟨gb190, 0, none⟩ = some (.int .i64 a0_0) := (blk_cell BK190.out 0).trans rfl; have hcz17_1 : w16.cell? ⟨gb190, 1, none⟩ = some (.int .i64 a0_1) := (blk_cell BK190.out 1).trans rfl; have hcz17_2 : w16.cell? ⟨gb190, 2, none⟩ = some (.int .i64 a0_2) := (blk_cell BK190.out 2).trans rfl; have hfz17_0 := blk_frozen BK190.out 0; have hfz17_1 := blk_frozen BK190.out 1; have hfz17_2 := blk_frozen BK190.out 2)))
            go_ret
            exact ⟨by first | rfl | (simp [errW_none, errW_some] <;> rfl) | (simp [*, errW_none, errW_some] <;> rfl), by repeat (first | (with_reducible first | exact HB.out | apply below_alloc | apply pw_below_drewN | apply below_drew1 | refine below_set ?_ GE190.out) | exact HB.out)⟩
          · rw [if_neg c15] at H
            have c15b0 : (a0_2 == 0) = false := beq_eq_false_iff_ne.mpr c15
            have c15b1 : (a0_2 != 0) = true := bne_iff_ne.mpr c15
            by_cases c18 : a0_0 < a1
            · rw [if_pos c18] at H
              have c18b0 : decide (a0_0 < a1) = true := decide_eq_true c18
              clear c18
              by_cases c19 : a0_2 = 1
              · rw [if_pos c19] at H
                have c19b0 : (a0_2 == 1) = true := beq_iff_eq.mpr c19
                have c19b1 : (a0_2 != 1) = false := bne_eq_false_iff_eq.mpr c19
                clear c19
                obtain rfl := Option.some.inj H
                go_enter Tryz.func102, Tryz.ntmps102
                go_wp2_with (first | ((with_reducible refine gate_dst (N := 2) rfl ?_); refine box_event ?hg (N := 2) ?hd (cs := #[.int .i64 a0_0, .int .i64 a0_1, .int .i64 a0_2]) (t := 97) ?hr ?_; (case hd => rfl); (case hg => rfl); (case hr => first | (go_simp; done) | (go_simp; rfl)); intro gb190 hg w20 hbox hb; have n0_ := Aside0.mk (below_step (by repeat (first | (with_reducible first | exact HB.out | apply below_alloc | apply pw_below_drewN | apply below_drew1) | exact HB.out)) hb); have n1_ := Aside0.mk (hbox); have n2_ := Aside0.mk ((by rw [hg]; exact (below_size (by repeat (first | (with_reducible first | exact HB.out | apply below_alloc | apply pw_below_drewN | apply below_drew1) | exact HB.out))) : w.heap.size ≤ gb190)); have n3_ := Aside0.mk ((by rw [hg]; exact (below_size (by repeat (first | (with_reducible first | exact HB.out | apply below_alloc | apply pw_below_drewN | apply below_drew1) | exact HB.out))) : w.heap.size ≤ gb190)); clear HB; have HB := n0_; have BK190 := n1_; have GW190 := n2_; have GE190 := n3_; clear n0_ n1_ n2_ n3_; clear hb hbox hg; have hcz21_0 : w20.cell? ⟨gb190, 0, none⟩ = some (.int .i64 a0_0) := (blk_cell BK190.out 0).trans rfl; have hcz21_1 : w20.cell? ⟨gb190, 1, none⟩ = some (.int .i64 a0_1) := (blk_cell BK190.out 1).trans rfl; have hcz21_2 : w20.cell? ⟨gb190, 2, none⟩ = some (.int .i64 a0_2) := (blk_cell BK190.out 2).trans rfl; have hfz21_0 := blk_frozen BK190.out 0; have hfz21_1 := blk_frozen BK190.out 1; have hfz21_2 := blk_frozen BK190.out 2))
                repeat (go_quiet (first | ((with_reducible refine gate_dst (N := 2) rfl ?_); refine box_event ?hg (N := 2) ?hd (cs := #[.int .i64 a0_0, .int .i64 a0_1, .int .i64 a0_2]) (t := 97) ?hr ?_; (case hd => rfl); (case hg => rfl); (case hr => first | (go_simp; done) | (go_simp; rfl)); intro gb190 hg w20 hbox hb; have n0_ := Aside0.mk (below_step (by repeat (first | (with_reducible first | exact HB.out | apply below_alloc | apply pw_below_drewN | apply below_drew1) | exact HB.out)) hb); have n1_ := Aside0.mk (hbox); have n2_ := Aside0.mk ((by rw [hg]; exact (below_size (by repeat (first | (with_reducible first | exact HB.out | apply below_alloc | apply pw_below_drewN | apply below_drew1) | exact HB.out))) : w.heap.size ≤ gb190)); have n3_ := Aside0.mk ((by rw [hg]; exact (below_size (by repeat (first | (with_reducible first | exact HB.out | apply below_alloc | apply pw_below_drewN | apply below_drew1) | exact HB.out))) : w.heap.size ≤ gb190)); clear HB; have HB := n0_; have BK190 := n1_; have GW190 := n2_; have GE190 := n3_; clear n0_ n1_ n2_ n3_; clear hb hbox hg; have hcz21_0 : w20.cell? ⟨gb190, 0, none⟩ = some (.int .i64 a0_0) := (blk_cell BK190.out 0).trans rfl; have hcz21_1 : w20.cell? ⟨gb190, 1, none⟩ = some (.int .i64 a0_1) := (blk_cell BK190.out 1).trans rfl; have hcz21_2 : w20.cell? ⟨gb190, 2, none⟩ = some (.int .i64 a0_2) := (blk_cell BK190.out 2).trans rfl; have hfz21_0 := blk_frozen BK190.out 0; have hfz21_1 := blk_frozen BK190.out 1; have hfz21_2 := blk_frozen BK190.out 2)); try go_wp2_with (first | ((with_reducible refine gate_dst (N := 2) rfl ?_); refine box_event ?hg (N := 2) ?hd (cs := #[.int .i64 a0_0, .int .i64 a0_1, .int .i64 a0_2]) (t := 97) ?hr ?_; (case hd => rfl); (case hg => rfl); (case hr => first | (go_simp; done) | (go_simp; rfl)); intro gb190 hg w20 hbox hb; have n0_ := Aside0.mk (below_step (by repeat (first | (with_reducible first | exact HB.out | apply below_alloc | apply pw_below_drewN | apply below_drew1) | exact HB.out)) hb); have n1_ := Aside0.mk (hbox); have n2_ := Aside0.mk ((by rw [hg]; exact (below_size (by repeat (first | (with_reducible first | exact HB.out | apply below_alloc | apply pw_below_drewN | apply below_drew1) | exact HB.out))) : w.heap.size ≤ gb190)); have n3_ := Aside0.mk ((by rw [hg]; exact (below_size (by repeat (first | (with_reducible first | exact HB.out | apply below_alloc | apply pw_below_drewN | apply below_drew1) | exact HB.out))) : w.heap.size ≤ gb190)); clear HB; have HB := n0_; have BK190 := n1_; have GW190 := n2_; have GE190 := n3_; clear n0_ n1_ n2_ n3_; clear hb hbox hg; have hcz21_0 : w20.cell? ⟨gb190, 0, none⟩ = some (.int .i64 a0_0) := (blk_cell BK190.out 0).trans rfl; have hcz21_1 : w20.cell? ⟨gb190, 1, none⟩ = some (.int .i64 a0_1) := (blk_cell BK190.out 1).trans rfl; have hcz21_2 : w20.cell? ⟨gb190, 2, none⟩ = some (.int .i64 a0_2) := (blk_cell BK190.out 2).trans rfl; have hfz21_0 := blk_frozen BK190.out 0; have hfz21_1 := blk_frozen BK190.out 1; have hfz21_2 := blk_frozen BK190.out 2)))
                go_ret
                exact ⟨by first | rfl | (simp [errW_none, errW_some] <;> rfl) | (simp [*, errW_none, errW_some] <;> rfl), by repeat (first | (with_reducible first | exact HB.out | apply below_alloc | apply pw_below_drewN | apply below_drew1 | refine below_set ?_ GE190.out) | exact HB.out)⟩
              · rw [if_neg c19] at H
                have c19b0 : (a0_2 == 1) = false := beq_eq_false_iff_ne.mpr c19
                have c19b1 : (a0_2 != 1) = true := bne_iff_ne.mpr c19
                by_cases c22 : (wrap64 (a0_2 - 1)) = 0
                · rw [if_pos c22] at H
                  exact absurd H (by simp)
                · rw [if_neg c22] at H
                  have c22b0 : ((wrap64 (a0_2 - 1)) == 0) = false := beq_eq_false_iff_ne.mpr c22
                  have c22b1 : ((wrap64 (a0_2 - 1)) != 0) = true := bne_iff_ne.mpr c22
                  obtain rfl := Option.some.inj H
                  go_enter Tryz.func102, Tryz.ntmps102
                  go_wp2_with (first | ((with_reducible refine gate_dst (N := 2) rfl ?_); refine box_event ?hg (N := 2) ?hd (cs := #[.int .i64 a0_0, .int .i64 a0_1, .int .i64 a0_2]) (t := 97) ?hr ?_; (case hd => rfl); (case hg => rfl); (case hr => first | (go_simp; done) | (go_simp; rfl)); intro gb190 hg w23 hbox hb; have n0_ := Aside0.mk (below_step (by repeat (first | (with_reducible first | exact HB.out | apply below_alloc | apply pw_below_drewN | apply below_drew1) | exact HB.out)) hb); have n1_ := Aside0.mk (hbox); have n2_ := Aside0.mk ((by rw [hg]; exact (below_size (by repeat (first | (with_reducible first | exact HB.out | apply below_alloc | apply pw_below_drewN | apply below_drew1) | exact HB.out))) : w.heap.size ≤ gb190)); have n3_ := Aside0.mk ((by rw [hg]; exact (below_size (by repeat (first | (with_reducible first | exact HB.out | apply below_alloc | apply pw_below_drewN | apply below_drew1) | exact HB.out))) : w.heap.size ≤ gb190)); clear HB; have HB := n0_; have BK190 := n1_; have GW190 := n2_; have GE190 := n3_; clear n0_ n1_ n2_ n3_; clear hb hbox hg; have hcz24_0 : w23.cell? ⟨gb190, 0, none⟩ = some (.int .i64 a0_0) := (blk_cell BK190.out 0).trans rfl; have hcz24_1 : w23.cell? ⟨gb190, 1, none⟩ = some (.int .i64 a0_1) := (blk_cell BK190.out 1).trans rfl; have hcz24_2 : w23.cell? ⟨gb190, 2, none⟩ = some (.int .i64 a0_2) := (blk_cell BK190.out 2).trans rfl; have hfz24_0 := blk_frozen BK190.out 0; have hfz24_1 := blk_frozen BK190.out 1; have hfz24_2 := blk_frozen BK190.out 2))
                  repeat (go_quiet (first | ((with_reducible refine gate_dst (N := 2) rfl ?_); refine box_event ?hg (N := 2) ?hd (cs := #[.int .i64 a0_0, .int .i64 a0_1, .int .i64 a0_2]) (t := 97) ?hr ?_; (case hd => rfl); (case hg => rfl); (case hr => first | (go_simp; done) | (go_simp; rfl)); intro gb190 hg w23 hbox hb; have n0_ := Aside0.mk (below_step (by repeat (first | (with_reducible first | exact HB.out | apply below_alloc | apply pw_below_drewN | apply below_drew1) | exact HB.out)) hb); have n1_ := Aside0.mk (hbox); have n2_ := Aside0.mk ((by rw [hg]; exact (below_size (by repeat (first | (with_reducible first | exact HB.out | apply below_alloc | apply pw_below_drewN | apply below_drew1) | exact HB.out))) : w.heap.size ≤ gb190)); have n3_ := Aside0.mk ((by rw [hg]; exact (below_size (by repeat (first | (with_reducible first | exact HB.out | apply below_alloc | apply pw_below_drewN | apply below_drew1) | exact HB.out))) : w.heap.size ≤ gb190)); clear HB; have HB := n0_; have BK190 := n1_; have GW190 := n2_; have GE190 := n3_; clear n0_ n1_ n2_ n3_; clear hb hbox hg; have hcz24_0 : w23.cell? ⟨gb190, 0, none⟩ = some (.int .i64 a0_0) := (blk_cell BK190.out 0).trans rfl; have hcz24_1 : w23.cell? ⟨gb190, 1, none⟩ = some (.int .i64 a0_1) := (blk_cell BK190.out 1).trans rfl; have hcz24_2 : w23.cell? ⟨gb190, 2, none⟩ = some (.int .i64 a0_2) := (blk_cell BK190.out 2).trans rfl; have hfz24_0 := blk_frozen BK190.out 0; have hfz24_1 := blk_frozen BK190.out 1; have hfz24_2 := blk_frozen BK190.out 2)); try go_wp2_with (first | ((with_reducible refine gate_dst (N := 2) rfl ?_); refine box_event ?hg (N := 2) ?hd (cs := #[.int .i64 a0_0, .int .i64 a0_1, .int .i64 a0_2]) (t := 97) ?hr ?_; (case hd => rfl); (case hg => rfl); (case hr => first | (go_simp; done) | (go_simp; rfl)); intro gb190 hg w23 hbox hb; have n0_ := Aside0.mk (below_step (by repeat (first | (with_reducible first | exact HB.out | apply below_alloc | apply pw_below_drewN | apply below_drew1) | exact HB.out)) hb); have n1_ := Aside0.mk (hbox); have n2_ := Aside0.mk ((by rw [hg]; exact (below_size (by repeat (first | (with_reducible first | exact HB.out | apply below_alloc | apply pw_below_drewN | apply below_drew1) | exact HB.out))) : w.heap.size ≤ gb190)); have n3_ := Aside0.mk ((by rw [hg]; exact (below_size (by repeat (first | (with_reducible first | exact HB.out | apply below_alloc | apply pw_below_drewN | apply below_drew1) | exact HB.out))) : w.heap.size ≤ gb190)); clear HB; have HB := n0_; have BK190 := n1_; have GW190 := n2_; have GE190 := n3_; clear n0_ n1_ n2_ n3_; clear hb hbox hg; have hcz24_0 : w23.cell? ⟨gb190, 0, none⟩ = some (.int .i64 a0_0) := (blk_cell BK190.out 0).trans rfl; have hcz24_1 : w23.cell? ⟨gb190, 1, none⟩ = some (.int .i64 a0_1) := (blk_cell BK190.out 1).trans rfl; have hcz24_2 : w23.cell? ⟨gb190, 2, none⟩ = some (.int .i64 a0_2) := (blk_cell BK190.out 2).trans rfl; have hfz24_0 := blk_frozen BK190.out 0; have hfz24_1 := blk_frozen BK190.out 1; have hfz24_2 := blk_frozen BK190.out 2)))
                  go_ret
                  exact ⟨by first | rfl | (simp [errW_none, errW_some] <;> rfl) | (simp [*, errW_none, errW_some] <;> rfl), by repeat (first | (with_reducible first | exact HB.out | apply below_alloc | apply pw_below_drewN | apply below_drew1 | refine below_set ?_ GE190.out) | exact HB.out)⟩
            · rw [if_neg c18] at H
              have c18b0 : decide (a0_0 < a1) = false := decide_eq_false c18
              clear c18
              obtain rfl := Option.some.inj H
              go_enter Tryz.func102, Tryz.ntmps102
              go_wp2_with (first | ((with_reducible refine gate_dst (N := 2) rfl ?_); refine box_event ?hg (N := 2) ?hd (cs := #[.int .i64 a0_0, .int .i64 a0_1, .int .i64 a0_2]) (t := 97) ?hr ?_; (case hd => rfl); (case hg => rfl); (case hr => first | (go_simp; done) | (go_simp; rfl)); intro gb190 hg w25 hbox hb; have n0_ := Aside0.mk (below_step (by repeat (first | (with_reducible first | exact HB.out | apply below_alloc | apply pw_below_drewN | apply below_drew1) | exact HB.out)) hb); have n1_ := Aside0.mk (hbox); have n2_ := Aside0.mk ((by rw [hg]; exact (below_size (by repeat (first | (with_reducible first | exact HB.out | apply below_alloc | apply pw_below_drewN | apply below_drew1) | exact HB.out))) : w.heap.size ≤ gb190)); have n3_ := Aside0.mk ((by rw [hg]; exact (below_size (by repeat (first | (with_reducible first | exact HB.out | apply below_alloc | apply pw_below_drewN | apply below_drew1) | exact HB.out))) : w.heap.size ≤ gb190)); clear HB; have HB := n0_; have BK190 := n1_; have GW190 := n2_; have GE190 := n3_; clear n0_ n1_ n2_ n3_; clear hb hbox hg; have hcz26_0 : w25.cell? ⟨gb190, 0, none⟩ = some (.int .i64 a0_0) := (blk_cell BK190.out 0).trans rfl; have hcz26_1 : w25.cell? ⟨gb190, 1, none⟩ = some (.int .i64 a0_1) := (blk_cell BK190.out 1).trans rfl; have hcz26_2 : w25.cell? ⟨gb190, 2, none⟩ = some (.int .i64 a0_2) := (blk_cell BK190.out 2).trans rfl; have hfz26_0 := blk_frozen BK190.out 0; have hfz26_1 := blk_frozen BK190.out 1; have hfz26_2 := blk_frozen BK190.out 2))
              repeat (go_quiet (first | ((with_reducible refine gate_dst (N := 2) rfl ?_); refine box_event ?hg (N := 2) ?hd (cs := #[.int .i64 a0_0, .int .i64 a0_1, .int .i64 a0_2]) (t := 97) ?hr ?_; (case hd => rfl); (case hg => rfl); (case hr => first | (go_simp; done) | (go_simp; rfl)); intro gb190 hg w25 hbox hb; have n0_ := Aside0.mk (below_step (by repeat (first | (with_reducible first | exact HB.out | apply below_alloc | apply pw_below_drewN | apply below_drew1) | exact HB.out)) hb); have n1_ := Aside0.mk (hbox); have n2_ := Aside0.mk ((by rw [hg]; exact (below_size (by repeat (first | (with_reducible first | exact HB.out | apply below_alloc | apply pw_below_drewN | apply below_drew1) | exact HB.out))) : w.heap.size ≤ gb190)); have n3_ := Aside0.mk ((by rw [hg]; exact (below_size (by repeat (first | (with_reducible first | exact HB.out | apply below_alloc | apply pw_below_drewN | apply below_drew1) | exact HB.out))) : w.heap.size ≤ gb190)); clear HB; have HB := n0_; have BK190 := n1_; have GW190 := n2_; have GE190 := n3_; clear n0_ n1_ n2_ n3_; clear hb hbox hg; have hcz26_0 : w25.cell? ⟨gb190, 0, none⟩ = some (.int .i64 a0_0) := (blk_cell BK190.out 0).trans rfl; have hcz26_1 : w25.cell? ⟨gb190, 1, none⟩ = some (.int .i64 a0_1) := (blk_cell BK190.out 1).trans rfl; have hcz26_2 : w25.cell? ⟨gb190, 2, none⟩ = some (.int .i64 a0_2) := (blk_cell BK190.out 2).trans rfl; have hfz26_0 := blk_frozen BK190.out 0; have hfz26_1 := blk_frozen BK190.out 1; have hfz26_2 := blk_frozen BK190.out 2)); try go_wp2_with (first | ((with_reducible refine gate_dst (N := 2) rfl ?_); refine box_event ?hg (N := 2) ?hd (cs := #[.int .i64 a0_0, .int .i64 a0_1, .int .i64 a0_2]) (t := 97) ?hr ?_; (case hd => rfl); (case hg => rfl); (case hr => first | (go_simp; done) | (go_simp; rfl)); intro gb190 hg w25 hbox hb; have n0_ := Aside0.mk (below_step (by repeat (first | (with_reducible first | exact HB.out | apply below_alloc | apply pw_below_drewN | apply below_drew1) | exact HB.out)) hb); have n1_ := Aside0.mk (hbox); have n2_ := Aside0.mk ((by rw [hg]; exact (below_size (by repeat (first | (with_reducible first | exact HB.out | apply below_alloc | apply pw_below_drewN | apply below_drew1) | exact HB.out))) : w.heap.size ≤ gb190)); have n3_ := Aside0.mk ((by rw [hg]; exact (below_size (by repeat (first | (with_reducible first | exact HB.out | apply below_alloc | apply pw_below_drewN | apply below_drew1) | exact HB.out))) : w.heap.size ≤ gb190)); clear HB; have HB := n0_; have BK190 := n1_; have GW190 := n2_; have GE190 := n3_; clear n0_ n1_ n2_ n3_; clear hb hbox hg; have hcz26_0 : w25.cell? ⟨gb190, 0, none⟩ = some (.int .i64 a0_0) := (blk_cell BK190.out 0).trans rfl; have hcz26_1 : w25.cell? ⟨gb190, 1, none⟩ = some (.int .i64 a0_1) := (blk_cell BK190.out 1).trans rfl; have hcz26_2 : w25.cell? ⟨gb190, 2, none⟩ = some (.int .i64 a0_2) := (blk_cell BK190.out 2).trans rfl; have hfz26_0 := blk_frozen BK190.out 0; have hfz26_1 := blk_frozen BK190.out 1; have hfz26_2 := blk_frozen BK190.out 2)))
              go_ret
              exact ⟨by first | rfl | (simp [errW_none, errW_some] <;> rfl) | (simp [*, errW_none, errW_some] <;> rfl), by repeat (first | (with_reducible first | exact HB.out | apply below_alloc | apply pw_below_drewN | apply below_drew1 | refine below_set ?_ GE190.out) | exact HB.out)⟩
def abacistref03_Root.l0 : Nat → Int → Int → Int → Option (Int)
  | 0, _, _, _ => none
  | k + 1, x0, x3, x4 => if x4 < x0 then (abacistref03_Root.l0 k x0 (IntKind.u64.wrap (Int.tdiv x3 2)) (wrap64 (x4 + 1))) else ((abacistref02_Pow.f k 7 x3).bind fun t198 => (some t198))
def abacistref03_Root.f (k : Nat) (a0 : Int) : Option (Int) := abacistref03_Root.l0 k a0 18446744069414584320 0
set_option maxHeartbeats 8000000 in
set_option maxRecDepth 100000 in
theorem abacistref03_Root.calls (k : Nat) (a0 : Int) (r : Int) (w : World) (h : abacistref03_Root.f k a0 = some r) :
    Calls Tryz.prog 66 #[.int .i64 a0] w fun e w' => e = .returned (.int .u64 r) ∧ Drawn0 w w' := by
  have H : (abacistref03_Root.l0 k a0 18446744069414584320 0) = some r := h
  clear h
  have H' := Aside0.mk H
  clear H
  go_enter Tryz.func66, Tryz.ntmps66
  go_wp2
  go_loopg [3, 4] k (fun kq v3 v4 w' => ∃ (x3_1 : Int) (x4_1 : Int), v3 = .int .u64 x3_1 ∧ v4 = .int .i64 x4_1 ∧ Aside0 (abacistref03_Root.l0 kq a0 x3_1 x4_1 = some r) ∧ Aside0 (kq ≤ k) ∧ Drawn0 w w')
  case atStart => exact ⟨(18446744069414584320), (0), (by first | rfl | (simp; done) | (simp [*]; done)), (by first | rfl | (simp; done) | (simp [*]; done)), H', ⟨Nat.le_refl _⟩, by repeat (first | exact Drawn0.refl _ | apply Drawn0.step)⟩
  case round =>
    clear H'
    obtain ⟨x3_1, x4_1, rfl, rfl, HA, HK1, ⟨m1, rfl⟩⟩ := hrel
    cases gk with
    | zero => exact absurd HA.out (by simp [abacistref03_Root.l0])
    | succ k1 =>
      have H := HA.out
      clear HA
      simp only [abacistref03_Root.l0] at H
      by_cases c2 : x4_1 < a0
      · rw [if_pos c2] at H
        have c2b0 : decide (x4_1 < a0) = true := decide_eq_true c2
        clear c2
        have H' := Aside0.mk H
        clear H
        go_wp2
        go_roundg k1
        case measure => have := HK1.out; omega
        case rel => exact ⟨(IntKind.u64.wrap (Int.tdiv x3_1 2)), (wrap64 (x4_1 + 1)), (by first | rfl | (simp; done) | (simp [*]; done)), (by first | rfl | (simp; done) | (simp [*]; done)), H', ⟨by have := HK1.out; omega⟩, by repeat (first | exact Drawn0.refl _ | apply Drawn0.step)⟩
      · rw [if_neg c2] at H
        have c2b0 : decide (x4_1 < a0) = false := decide_eq_false c2
        clear c2
        replace H := Option.bind_eq_some_iff.mp H
        obtain ⟨t198, A30, H⟩ := H
        replace H : (some t198) = some r := H
        have A3 := Aside0.mk A30
        clear A30
        obtain rfl := Option.some.inj H
        go_wp2_with (first | ((with_reducible refine gate_callee (f := 48) rfl ?_); refine goesL_ (some 13) rfl rfl Tryz.func48 (by kernel_rfl) rfl #[.int .u64 7, .int .u64 x3_1] rfl (by (try simp only [List.map_toArray, List.map_cons, List.map_nil]); first | done | rfl | (simp only [List.length_drop, List.length_take]; rfl)) ?_; (with_reducible refine (abacistref02_Pow.calls k1 7 x3_1 t198 _ A3.out).mono ?_); rintro e w' ⟨rfl, ⟨nd, rfl⟩⟩; refine ⟨_, rfl, ?_⟩))
        go_ret
        exact ⟨by first | rfl | (simp; done) | (simp [*]; done), by repeat (first | exact Drawn0.refl _ | apply Drawn0.step)⟩
def abacistref08_Root.l0 : Nat → Int → Int → Int → Int → Option (Int)
  | 0, _, _, _, _ => none
  | k + 1, x0, x5, x6, x7 => if x7 < x0 then (abacistref08_Root.l0 k x0 x5 (IntKind.u64.wrap (2 * x6)) (wrap64 (x7 + 1))) else ((abacistref02_Pow.f k x5 (IntKind.u64.wrap (x6 - 1))).bind fun t200 => (some t200))
def abacistref08_Root.f (k : Nat) (a0 : Int) (a1 : Int) : Option (Int) := (abacistref03_Root.f k a0).bind fun t199 => (if a1 = 0 then (some t199) else (abacistref08_Root.l0 k a0 t199 1 0))
set_option maxHeartbeats 8000000 in
set_option maxRecDepth 100000 in
theorem abacistref08_Root.calls (k : Nat) (a0 : Int) (a1 : Int) (r : Int) (w : World) (h : abacistref08_Root.f k a0 a1 = some r) :
    Calls Tryz.prog 45 #[.int .i64 a0, .int .i64 a1] w fun e w' => e = .returned (.int .u64 r) ∧ Drawn0 w w' := by
  have H : ((abacistref03_Root.f k a0).bind fun t199 => (if a1 = 0 then (some t199) else (abacistref08_Root.l0 k a0 t199 1 0))) = some r := h
  clear h
  replace H := Option.bind_eq_some_iff.mp H
  obtain ⟨t199, A30, H⟩ := H
  replace H : (if a1 = 0 then (some t199) else (abacistref08_Root.l0 k a0 t199 1 0)) = some r := H
  have A3 := Aside0.mk A30
  clear A30
  by_cases c4 : a1 = 0
  · rw [if_pos c4] at H
    have c4b0 : (a1 == 0) = true := beq_iff_eq.mpr c4
    have c4b1 : (a1 != 0) = false := bne_eq_false_iff_eq.mpr c4
    clear c4
    obtain rfl := Option.some.inj H
    go_enter Tryz.func45, Tryz.ntmps45
    go_wp2_with (first | ((with_reducible refine gate_callee (f := 66) rfl ?_); refine goesL_ (some 9) rfl rfl Tryz.func66 (by kernel_rfl) rfl #[.int .i64 a0] rfl (by (try simp only [List.map_toArray, List.map_cons, List.map_nil]); first | done | rfl | (simp only [List.length_drop, List.length_take]; rfl)) ?_; (with_reducible refine (abacistref03_Root.calls k a0 t199 _ A3.out).mono ?_); rintro e w' ⟨rfl, ⟨nd, rfl⟩⟩; refine ⟨_, rfl, ?_⟩))
    go_ret
    exact ⟨by first | rfl | (simp; done) | (simp [*]; done), by repeat (first | exact Drawn0.refl _ | apply Drawn0.step)⟩
  · rw [if_neg c4] at H
    have c4b0 : (a1 == 0) = false := beq_eq_false_iff_ne.mpr c4
    have c4b1 : (a1 != 0) = true := bne_iff_ne.mpr c4
    have H' := Aside0.mk H
    clear H
    go_enter Tryz.func45, Tryz.ntmps45
    go_wp2_with (first | ((with_reducible refine gate_callee (f := 66) rfl ?_); refine goesL_ (some 9) rfl rfl Tryz.func66 (by kernel_rfl) rfl #[.int .i64 a0] rfl (by (try simp only [List.map_toArray, List.map_cons, List.map_nil]); first | done | rfl | (simp only [List.length_drop, List.length_take]; rfl)) ?_; (with_reducible refine (abacistref03_Root.calls k a0 t199 _ A3.out).mono ?_); rintro e w' ⟨rfl, ⟨nd, rfl⟩⟩; refine ⟨_, rfl, ?_⟩))
    go_loopg [6, 7] k (fun kq v6 v7 w' => ∃ (x6_1 : Int) (x7_1 : Int), v6 = .int .u64 x6_1 ∧ v7 = .int .i64 x7_1 ∧ Aside0 (abacistref08_Root.l0 kq a0 t199 x6_1 x7_1 = some r) ∧ Aside0 (kq ≤ k) ∧ Drawn0 w w')
    case atStart => exact ⟨(1), (0), (by first | rfl | (simp; done) | (simp [*]; done)), (by first | rfl | (simp; done) | (simp [*]; done)), H', ⟨Nat.le_refl _⟩, by repeat (first | exact Drawn0.refl _ | apply Drawn0.step)⟩
    case round =>
      clear H'
      try clear p2
      try clear c4
      try clear c4b0
      try clear c4b1
      obtain ⟨x6_1, x7_1, rfl, rfl, HA, HK1, ⟨m1, rfl⟩⟩ := hrel
      cases gk with
      | zero => exact absurd HA.out (by simp [abacistref08_Root.l0])
      | succ k1 =>
        have H := HA.out
        clear HA
        simp only [abacistref08_Root.l0] at H
        by_cases c5 : x7_1 < a0
        · rw [if_pos c5] at H
          have c5b0 : decide (x7_1 < a0) = true := decide_eq_true c5
          clear c5
          have H' := Aside0.mk H
          clear H
          go_wp2
          go_roundg k1
          case measure => have := HK1.out; omega
          case rel => exact ⟨(IntKind.u64.wrap (2 * x6_1)), (wrap64 (x7_1 + 1)), (by first | rfl | (simp; done) | (simp [*]; done)), (by first | rfl | (simp; done) | (simp [*]; done)), H', ⟨by have := HK1.out; omega⟩, by repeat (first | exact Drawn0.refl _ | apply Drawn0.step)⟩
        · rw [if_neg c5] at H
          have c5b0 : decide (x7_1 < a0) = false := decide_eq_false c5
          clear c5
          replace H := Option.bind_eq_some_iff.mp H
          obtain ⟨t200, A60, H⟩ := H
          replace H : (some t200) = some r := H
          have A6 := Aside0.mk A60
          clear A60
          obtain rfl := Option.some.inj H
          go_wp2_with (first | ((with_reducible refine gate_callee (f := 48) rfl ?_); refine goesL_ (some 23) rfl rfl Tryz.func48 (by kernel_rfl) rfl #[.int .u64 t199, .int .u64 (IntKind.u64.wrap (x6_1 - 1))] rfl (by (try simp only [List.map_toArray, List.map_cons, List.map_nil]); first | done | rfl | (simp only [List.length_drop, List.length_take]; rfl)) ?_; (with_reducible refine (abacistref02_Pow.calls k1 t199 (IntKind.u64.wrap (x6_1 - 1)) t200 _ A6.out).mono ?_); rintro e w' ⟨rfl, ⟨nd, rfl⟩⟩; refine ⟨_, rfl, ?_⟩))
          go_ret
          exact ⟨by first | rfl | (simp; done) | (simp [*]; done), by repeat (first | exact Drawn0.refl _ | apply Drawn0.step)⟩
mutual
def abacistref08_Dft.l0 : Nat → List Int → Int → List Int → Int → Int → Option (List Int)
  | 0, _, _, _, _, _ => none
  | k + 1, x0, x7, x8, x9, x10 => if x10 < (x0.length : Int) then (abacistref08_Dft.l1 k x0 x7 x8 x9 x10 0 1 0) else (some x8)
def abacistref08_Dft.l1 : Nat → List Int → Int → List Int → Int → Int → Int → Int → Int → Option (List Int)
  | 0, _, _, _, _, _, _, _, _ => none
  | k + 1, x0, x7, x8, x9, x10, x11, x12, x13 => if x13 < (x0.length : Int) then (if 0 ≤ x13 then ((abacistref02_Mul.f k (rd x0 x13) x12).bind fun t203 => ((abacistref02_Add.f x11 t203).bind fun t204 => ((abacistref02_Mul.f k x12 x9).bind fun t205 => (abacistref08_Dft.l1 k x0 x7 x8 x9 x10 t204 t205 (wrap64 (x13 + 1)))))) else (none)) else (if x8.length < 17592186044416 then ((abacistref02_Mul.f k x9 x7).bind fun t209 => (abacistref08_Dft.l0 k x0 x7 (x8 ++ [x11]) t209 (wrap64 (x10 + 1)))) else (none))
end
def abacistref08_Dft.f (k : Nat) (l0 : List Int) (a1 : Int) (a2 : Int) : Option (List Int) := (abacistref08_Root.f k a1 a2).bind fun t201 => (abacistref08_Dft.l0 k l0 t201 ([] : List Int) 1 0)
set_option maxHeartbeats 8000000 in
set_option maxRecDepth 100000 in
theorem abacistref08_Dft.calls (k : Nat) (A0 : Option Addr) (c0 : Nat) (l0 : List Int) (a1 : Int) (a2 : Int) (r : List Int) (w : World) (hr0 : Kd.C (Kd.int .u64) w A0 l0.length l0) (hc0 : l0.length ≤ c0) (h : abacistref08_Dft.f k l0 a1 a2 = some r) :
    Calls Tryz.prog 25 #[.slice A0 l0.length c0, .int .i64 a1, .int .i64 a2] w fun e w' => ∃ v0_ : Value, e = .returned (v0_) ∧ Kd.R (Kd.int .u64) 33 w' w.heap.size (fun _ => True) v0_ r ∧ Below w.heap.size w w' := by
  have HR0 := Aside0.mk hr0
  have HC0 := Aside0.mk hc0
  clear hr0 hc0
  have HB := Aside0.mk (Below.refl w.heap.size w)
  have H : ((abacistref08_Root.f k a1 a2).bind fun t201 => (abacistref08_Dft.l0 k l0 t201 ([] : List Int) 1 0)) = some r := h
  clear h
  replace H := Option.bind_eq_some_iff.mp H
  obtain ⟨t201, A40, H⟩ := H
  replace H : (abacistref08_Dft.l0 k l0 t201 ([] : List Int) 1 0) = some r := H
  have A4 := Aside0.mk A40
  clear A40
  have H' := Aside0.mk H
  clear H
  go_enter Tryz.func25, Tryz.ntmps25
  go_wp2_with (first | ((with_reducible refine gate_callee (f := 45) rfl ?_); refine goesL_ (some 16) rfl rfl Tryz.func45 (by kernel_rfl) rfl #[.int .i64 a1, .int .i64 a2] rfl (by (try simp only [List.map_toArray, List.map_cons, List.map_nil]); first | done | rfl | (simp only [List.length_drop, List.length_take]; rfl)) ?_; (with_reducible refine (abacistref08_Root.calls k a1 a2 t201 _ A4.out).mono ?_); rintro e w' ⟨rfl, ⟨nd, rfl⟩⟩; refine ⟨_, rfl, ?_⟩))
  go_loopg [8, 9, 10] k (fun kq v8 v9 v10 w' => ∃ (x8_1 : List Int) (x9_1 : Int) (x10_1 : Int), v9 = .int .u64 x9_1 ∧ v10 = .int .i64 x10_1 ∧ Aside0 (abacistref08_Dft.l0 kq l0 t201 x8_1 x9_1 x10_1 = some r) ∧ Aside0 (kq ≤ k) ∧ Aside0 (Kd.R (Kd.int .u64) 33 w' w.heap.size (fun _ => True) v8 x8_1) ∧ Aside0 (Below w.heap.size w w'))
  case atStart => exact ⟨(([] : List Int)), (1), (0), (by first | rfl | (simp; done) | (simp [*]; done)), (by first | rfl | (simp; done) | (simp [*]; done)), H', ⟨Nat.le_refl _⟩, ⟨by first | exact Kd.R_nil _ _ _ _ _ | exact Kd.N_nil _ _ _ _ _ | exact Kd.V_nil _ _ _ _ _ | exact Kd.Q_nil _ _ _ _ _ | exact Kd.S_nil _ _ _ _ _⟩, ⟨by repeat (first | (with_reducible first | exact HB.out | apply below_alloc | apply pw_below_drewN | apply below_drew1) | exact HB.out)⟩⟩
  case round =>
    clear H'
    try clear c2
    try clear p2
    try clear c4
    obtain ⟨x8_1, x9_1, x10_1, rfl, rfl, HA, HK1, HO_8, HB⟩ := hrel
    cases gk with
    | zero => exact absurd HA.out (by simp [abacistref08_Dft.l0])
    | succ k1 =>
      have H := HA.out
      clear HA
      simp only [abacistref08_Dft.l0] at H
      by_cases c5 : x10_1 < (l0.length : Int)
      · rw [if_pos c5] at H
        have c5b0 : decide (x10_1 < (l0.length : Int)) = true := decide_eq_true c5
        clear c5
        have H' := Aside0.mk H
        clear H
        go_wp2
        go_loopg [11, 12, 13] k1 (fun kq v11 v12 v13 w' => ∃ (x11_2 : Int) (x12_2 : Int) (x13_2 : Int), v11 = .int .u64 x11_2 ∧ v12 = .int .u64 x12_2 ∧ v13 = .int .i64 x13_2 ∧ Aside0 (abacistref08_Dft.l1 kq l0 t201 x8_1 x9_1 x10_1 x11_2 x12_2 x13_2 = some r) ∧ Aside0 (kq ≤ k1) ∧ Aside0 (Kd.R (Kd.int .u64) 33 w' w.heap.size (fun _ => True) u8 x8_1) ∧ Aside0 (Below w.heap.size w w'))
        case atStart => exact ⟨(0), (1), (0), (by first | rfl | (simp; done) | (simp [*]; done)), (by first | rfl | (simp; done) | (simp [*]; done)), (by first | rfl | (simp; done) | (simp [*]; done)), H', ⟨Nat.le_refl _⟩, ⟨by (with_reducible repeat (first | apply Kd.R_alloc | apply Kd.R_drewN | apply Kd.R_drew)); exact HO_8.out⟩, ⟨by repeat (first | (with_reducible first | exact HB.out | apply below_alloc | apply pw_below_drewN | apply below_drew1) | exact HB.out)⟩⟩
        case round =>
          clear H'
          try clear c2
          try clear p2
          try clear c4
          try clear c5
          try clear c5b0
          try clear p2
          obtain ⟨x11_2, x12_2, x13_2, rfl, rfl, rfl, HA, HK2, HO_8, HB⟩ := hrel
          cases gk with
          | zero => exact absurd HA.out (by simp [abacistref08_Dft.l1])
          | succ k2 =>
            have H := HA.out
            clear HA
            simp only [abacistref08_Dft.l1] at H
            by_cases c6 : x13_2 < (l0.length : Int)
            · rw [if_pos c6] at H
              have c6b0 : decide (x13_2 < (l0.length : Int)) = true := decide_eq_true c6
              clear c6
              by_cases c7 : 0 ≤ x13_2
              · rw [if_pos c7] at H
                have c7b0 : decide (0 ≤ x13_2) = true := decide_eq_true c7
                clear c7
                replace H := Option.bind_eq_some_iff.mp H
                obtain ⟨t203, A80, H⟩ := H
                replace H : ((abacistref02_Add.f x11_2 t203).bind fun t204 => ((abacistref02_Mul.f k2 x12_2 x9_1).bind fun t205 => (abacistref08_Dft.l1 k2 l0 t201 x8_1 x9_1 x10_1 t204 t205 (wrap64 (x13_2 + 1))))) = some r := H
                have A8 := Aside0.mk A80
                clear A80
                replace H := Option.bind_eq_some_iff.mp H
                obtain ⟨t204, A90, H⟩ := H
                replace H : ((abacistref02_Mul.f k2 x12_2 x9_1).bind fun t205 => (abacistref08_Dft.l1 k2 l0 t201 x8_1 x9_1 x10_1 t204 t205 (wrap64 (x13_2 + 1)))) = some r := H
                have A9 := Aside0.mk A90
                clear A90
                replace H := Option.bind_eq_some_iff.mp H
                obtain ⟨t205, A100, H⟩ := H
                replace H : (abacistref08_Dft.l1 k2 l0 t201 x8_1 x9_1 x10_1 t204 t205 (wrap64 (x13_2 + 1))) = some r := H
                have A10 := Aside0.mk A100
                clear A100
                have H' := Aside0.mk H
                clear H
                have p202 : 0 ≤ (x13_2 : Int) := of_decide_eq_true (by first | (with_reducible assumption) | assumption)
                have q202 : x13_2 < (l0.length : Int) := of_decide_eq_true (by first | (with_reducible assumption) | assumption)
                obtain ⟨ad202, e202, hx202_0⟩ := Kd.at_int HR0.out x13_2 p202 q202
                cases e202
                replace hx202_0 := (HB.out.cell (World.block_lt_of_cell? w _ hx202_0)).trans hx202_0
                replace p202 := eq_true p202
                replace q202 := eq_true q202
                go_wp2_with (first | ((with_reducible refine gate_callee (f := 47) rfl ?_); refine goesL_ (some 35) rfl rfl Tryz.func47 (by kernel_rfl) rfl #[.int .u64 (rd l0 x13_2), .int .u64 x12_2] rfl (by (try simp only [List.map_toArray, List.map_cons, List.map_nil]); first | done | rfl | (simp only [List.length_drop, List.length_take]; rfl)) ?_; (with_reducible refine (abacistref02_Mul.calls k2 (rd l0 x13_2) x12_2 t203 _ A8.out).mono ?_); rintro e w' ⟨rfl, ⟨nd, rfl⟩⟩; refine ⟨_, rfl, ?_⟩) | ((with_reducible refine gate_callee (f := 46) rfl ?_); refine goesL_ (some 36) rfl rfl Tryz.func46 (by kernel_rfl) rfl #[.int .u64 x11_2, .int .u64 t203] rfl (by (try simp only [List.map_toArray, List.map_cons, List.map_nil]); first | done | rfl | (simp only [List.length_drop, List.length_take]; rfl)) ?_; (with_reducible refine (abacistref02_Add.calls x11_2 t203 t204 _ A9.out).mono ?_); rintro e w' ⟨rfl, ⟨nd, rfl⟩⟩; refine ⟨_, rfl, ?_⟩) | ((with_reducible refine gate_callee (f := 47) rfl ?_); refine goesL_ (some 39) rfl rfl Tryz.func47 (by kernel_rfl) rfl #[.int .u64 x12_2, .int .u64 x9_1] rfl (by (try simp only [List.map_toArray, List.map_cons, List.map_nil]); first | done | rfl | (simp only [List.length_drop, List.length_take]; rfl)) ?_; (with_reducible refine (abacistref02_Mul.calls k2 x12_2 x9_1 t205 _ A10.out).mono ?_); rintro e w' ⟨rfl, ⟨nd, rfl⟩⟩; refine ⟨_, rfl, ?_⟩))
                go_roundg k2
                case measure => have := HK1.out; have := HK2.out; omega
                case rel => exact ⟨(t204), (t205), (wrap64 (x13_2 + 1)), (by first | rfl | (simp; done) | (simp [*]; done)), (by first | rfl | (simp; done) | (simp [*]; done)), (by first | rfl | (simp; done) | (simp [*]; done)), H', ⟨by have := HK1.out; have := HK2.out; omega⟩, ⟨by (with_reducible repeat (first | apply Kd.R_alloc | apply Kd.R_drewN | apply Kd.R_drew)); exact HO_8.out⟩, ⟨by repeat (first | (with_reducible first | exact HB.out | apply below_alloc | apply pw_below_drewN | apply below_drew1) | exact HB.out)⟩⟩
              · rw [if_neg c7] at H
                exact absurd H (by simp)
            · rw [if_neg c6] at H
              have c6b0 : decide (x13_2 < (l0.length : Int)) = false := decide_eq_false c6
              clear c6
              by_cases c11 : x8_1.length < 17592186044416
              · rw [if_pos c11] at H
                have LMc11 := Aside0.mk c11
                clear c11
                obtain ⟨y206, hy206⟩ : ∃ y_ : List Int, y_ = (x8_1 ++ [x11_2]) := ⟨_, rfl⟩
                replace H : ((abacistref02_Mul.f k2 x9_1 t201).bind fun t209 => (abacistref08_Dft.l0 k2 l0 t201 y206 t209 (wrap64 (x10_1 + 1)))) = some r := by first | (rw [hy206]; with_reducible exact H) | (have H2_ := (Option.bind_some _ _).symm.trans H; rw [hy206]; with_reducible exact H2_) | (have H2_ := (Option.bind_some _ _).symm.trans H; with_reducible exact H2_) | with_reducible exact H | (rw [hy206]; exact H) | exact H
                have Ny206 := Aside0.mk hy206
                clear hy206
                replace H := Option.bind_eq_some_iff.mp H
                obtain ⟨t209, A120, H⟩ := H
                replace H : (abacistref08_Dft.l0 k2 l0 t201 y206 t209 (wrap64 (x10_1 + 1))) = some r := H
                have A12 := Aside0.mk A120
                clear A120
                have H' := Aside0.mk H
                clear H
                go_wp2_with (first | ((with_reducible refine gate_builtin (b := .append) (xs := #[.tmp 40, .tmp 42]) rfl ?_); at_builtin; refine Kd.R_append (Kd.int .u64) (w0 := w) w.heap.size rfl (.tmp 40) (.tmp 42) 22 33 (.int .u64 0) 8 rfl Tryz.underlying22 info33 rfl (by decide) (by omega) u8 x8_1 x11_2 [.int .u64 x11_2] (fun _ => True) (fun _ => False) rfl rfl ?aP (fun _ hk => hk.elim) ?aF ?aO ?aB ?aS ?aL ?_; (case aP => exact rfl); (case aB => exact (by repeat (first | (with_reducible first | exact HB.out | apply below_alloc | apply pw_below_drewN | apply below_drew1) | exact HB.out))); (case aF => exact (fun _ _ => trivial)); (case aO => exact (by (with_reducible repeat (first | apply Kd.R_alloc | apply Kd.R_drewN | apply Kd.R_drew)); exact HO_8.out)); (case aS => exact (below_size (by repeat (first | (with_reducible first | exact HB.out | apply below_alloc | apply pw_below_drewN | apply below_drew1) | exact HB.out)))); (case aL => have := LMc11.out; omega); intro v207 w13 ho hb hg hat; rw [← Ny206.out] at ho; have n0_ := Aside0.mk (hb); have n1_ := Aside0.mk (ho); clear HB; clear HO_8; have HB := n0_; have HO208 := n1_; clear n0_ n1_; clear ho hb hg hat) | ((with_reducible refine gate_callee (f := 47) rfl ?_); refine goesL_ (some 46) rfl rfl Tryz.func47 (by kernel_rfl) rfl #[.int .u64 x9_1, .int .u64 t201] rfl (by (try simp only [List.map_toArray, List.map_cons, List.map_nil]); first | done | rfl | (simp only [List.length_drop, List.length_take]; rfl)) ?_; (with_reducible refine (abacistref02_Mul.calls k2 x9_1 t201 t209 _ A12.out).mono ?_); rintro e w' ⟨rfl, ⟨nd, rfl⟩⟩; refine ⟨_, rfl, ?_⟩))
                go_roundg k2
                case measure => have := HK1.out; have := HK2.out; omega
                case rel => exact ⟨(y206), (t209), (wrap64 (x10_1 + 1)), (by first | rfl | (simp; done) | (simp [*]; done)), (by first | rfl | (simp; done) | (simp [*]; done)), H', ⟨by have := HK1.out; have := HK2.out; omega⟩, ⟨by (with_reducible repeat (first | apply Kd.R_alloc | apply Kd.R_drewN | apply Kd.R_drew)); exact HO208.out⟩, ⟨by repeat (first | (with_reducible first | exact HB.out | apply below_alloc | apply pw_below_drewN | apply below_drew1) | exact HB.out)⟩⟩
              · rw [if_neg c11] at H
                exact absurd H (by simp)
      · rw [if_neg c5] at H
        have c5b0 : decide (x10_1 < (l0.length : Int)) = false := decide_eq_false c5
        clear c5
        obtain rfl := Option.some.inj H
        go_wp2
        go_ret
        exact ⟨_, by first | rfl | (simp [errW_none, errW_some] <;> rfl) | (simp [*, errW_none, errW_some] <;> rfl), by (with_reducible repeat (first | apply Kd.R_alloc | apply Kd.R_drewN | apply Kd.R_drew)); exact HO_8.out, by repeat (first | (with_reducible first | exact HB.out | apply below_alloc | apply pw_below_drewN | apply below_drew1) | exact HB.out)⟩
end Go.Proofs.YtpnkcjnemoompaaGreatDoor.PFft
end
section
namespace Go.Proofs.YtpnkcjnemoompaaGreatDoor.PFft
open Go.RowKit Go.Proofs.YtpnkcjnemoompaaGreatDoor.Ext Go.Proofs.YtpnkcjnemoompaaGreatDoor.PPlan Go.Proofs.YtpnkcjnemoompaaGreatDoorW.PrintWords Go.Proofs.YtpnkcjnemoompaaGreatDoorW.PrintLast Go.Proofs.YtpnkcjnemoompaaGreatDoorW.PrintMore
attribute [local go_sem] max2_int min2_int max_two min_two max_three min_three max_four min_four   -- for this text's walks alone
set_option linter.unusedVariables false
set_option linter.unusedSimpArgs false
def abacistref06_Good.f (k : Nat) (a0_0 : Int) (a0_1 : Int) : Option (Bool) := (abacistref03_Fits.f k a0_0).bind fun t223 => ((abacistref03_Fits.f k a0_1).bind fun t224 => (if t223 ≥ 0 then (if t224 ≥ 0 then (some (decide ((wrap64 (t223 + t224)) ≤ 32))) else (some false)) else (some false)))
set_option maxHeartbeats 8000000 in
set_option maxRecDepth 100000 in
theorem abacistref06_Good.calls (k : Nat) (a0_0 : Int) (a0_1 : Int) (r : Bool) (w : World) (h : abacistref06_Good.f k a0_0 a0_1 = some r) :
    Calls Tryz.prog 28 #[.agg #[.int .i64 a0_0, .int .i64 a0_1]] w fun e w' => e = .returned (.bool r) ∧ Below w.heap.size w w' := by
  have hu32 := Tryz.underlying32
  have HB := Aside0.mk (Below.refl w.heap.size w)
  have H : ((abacistref03_Fits.f k a0_0).bind fun t223 => ((abacistref03_Fits.f k a0_1).bind fun t224 => (if t223 ≥ 0 then (if t224 ≥ 0 then (some (decide ((wrap64 (t223 + t224)) ≤ 32))) else (some false)) else (some false)))) = some r := h
  clear h
  replace H := Option.bind_eq_some_iff.mp H
  obtain ⟨t223, A20, H⟩ := H
  replace H : ((abacistref03_Fits.f k a0_1).bind fun t224 => (if t223 ≥ 0 then (if t224 ≥ 0 then (some (decide ((wrap64 (t223 + t224)) ≤ 32))) else (some false)) else (some false))) = some r := H
  have A2 := Aside0.mk A20
  clear A20
  replace H := Option.bind_eq_some_iff.mp H
  obtain ⟨t224, A30, H⟩ := H
  replace H : (if t223 ≥ 0 then (if t224 ≥ 0 then (some (decide ((wrap64 (t223 + t224)) ≤ 32))) else (some false)) else (some false)) = some r := H
  have A3 := Aside0.mk A30
  clear A30
  by_cases c4 : t223 ≥ 0
  · rw [if_pos c4] at H
    have c4b0 : decide (0 ≤ t223) = true := decide_eq_true c4
    clear c4
    by_cases c5 : t224 ≥ 0
    · rw [if_pos c5] at H
      have c5b0 : decide (0 ≤ t224) = true := decide_eq_true c5
      clear c5
      obtain rfl := Option.some.inj H
      go_enter Tryz.func28, Tryz.ntmps28
      go_wp2_with (first | ((with_reducible refine gate_dst (N := 1) rfl ?_); refine box_event ?hg (N := 1) ?hd (cs := #[.int .i64 a0_0, .int .i64 a0_1]) (t := 32) ?hr ?_; (case hd => rfl); (case hg => rfl); (case hr => first | (go_simp; done) | (go_simp; rfl)); intro gb222 hg w6 hbox hb; have n0_ := Aside0.mk (below_step (by repeat (first | (with_reducible first | exact HB.out | apply below_alloc | apply pw_below_drewN | apply below_drew1) | exact HB.out)) hb); have n1_ := Aside0.mk (hbox); have n2_ := Aside0.mk ((by rw [hg]; exact (below_size (by repeat (first | (with_reducible first | exact HB.out | apply below_alloc | apply pw_below_drewN | apply below_drew1) | exact HB.out))) : w.heap.size ≤ gb222)); have n3_ := Aside0.mk ((by rw [hg]; exact (below_size (by repeat (first | (with_reducible first | exact HB.out | apply below_alloc | apply pw_below_drewN | apply below_drew1) | exact HB.out))) : w.heap.size ≤ gb222)); clear HB; have HB := n0_; have BK222 := n1_; have GW222 := n2_; have GE222 := n3_; clear n0_ n1_ n2_ n3_; clear hb hbox hg; have hcz7_0 : w6.cell? ⟨gb222, 0, none⟩ = some (.int .i64 a0_0) := (blk_cell BK222.out 0).trans rfl; have hcz7_1 : w6.cell? ⟨gb222, 1, none⟩ = some (.int .i64 a0_1) := (blk_cell BK222.out 1).trans rfl; have hfz7_0 := blk_frozen BK222.out 0; have hfz7_1 := blk_frozen BK222.out 1) | ((with_reducible refine gate_callee (f := 6) rfl ?_); refine goesL_ (some 7) rfl rfl Tryz.func6 (by kernel_rfl) rfl #[.int .i64 a0_0] rfl (by (try simp only [List.map_toArray, List.map_cons, List.map_nil]); first | done | rfl | (simp only [List.length_drop, List.length_take]; rfl)) ?_; (with_reducible refine (abacistref03_Fits.calls k a0_0 t223 _ A2.out).mono ?_); rintro e w' ⟨rfl, ⟨nd, rfl⟩⟩; refine ⟨_, rfl, ?_⟩) | ((with_reducible refine gate_callee (f := 6) rfl ?_); refine goesL_ (some 10) rfl rfl Tryz.func6 (by kernel_rfl) rfl #[.int .i64 a0_1] rfl (by (try simp only [List.map_toArray, List.map_cons, List.map_nil]); first | done | rfl | (simp only [List.length_drop, List.length_take]; rfl)) ?_; (with_reducible refine (abacistref03_Fits.calls k a0_1 t224 _ A3.out).mono ?_); rintro e w' ⟨rfl, ⟨nd, rfl⟩⟩; refine ⟨_, rfl, ?_⟩))
      go_ret
      exact ⟨by first | rfl | (simp [errW_none, errW_some] <;> rfl) | (simp [*, errW_none, errW_some] <;> rfl), by repeat (first | (with_reducible first | exact HB.out | apply below_alloc | apply pw_below_drewN | apply below_drew1 | refine below_set ?_ GE222.out) | exact HB.out)⟩
    · rw [if_neg c5] at H
      have c5b0 : decide (0 ≤ t224) = false := decide_eq_false c5
      clear c5
      obtain rfl := Option.some.inj H
      go_enter Tryz.func28, Tryz.ntmps28
      go_wp2_with (first | ((with_reducible refine gate_dst (N := 1) rfl ?_); refine box_event ?hg (N := 1) ?hd (cs := #[.int .i64 a0_0, .int .i64 a0_1]) (t := 32) ?hr ?_; (case hd => rfl); (case hg => rfl); (case hr => first | (go_simp; done) | (go_simp; rfl)); intro gb222 hg w8 hbox hb; have n0_ := Aside0.mk (below_step (by repeat (first | (with_reducible first | exact HB.out | apply below_alloc | apply pw_below_drewN | apply below_drew1) | exact HB.out)) hb); have n1_ := Aside0.mk (hbox); have n2_ := Aside0.mk ((by rw [hg]; exact (below_size (by repeat (first | (with_reducible first | exact HB.out | apply below_alloc | apply pw_below_drewN | apply below_drew1) | exact HB.out))) : w.heap.size ≤ gb222)); have n3_ := Aside0.mk ((by rw [hg]; exact (below_size (by repeat (first | (with_reducible first | exact HB.out | apply below_alloc | apply pw_below_drewN | apply below_drew1) | exact HB.out))) : w.heap.size ≤ gb222)); clear HB; have HB := n0_; have BK222 := n1_; have GW222 := n2_; have GE222 := n3_; clear n0_ n1_ n2_ n3_; clear hb hbox hg; have hcz9_0 : w8.cell? ⟨gb222, 0, none⟩ = some (.int .i64 a0_0) := (blk_cell BK222.out 0).trans rfl; have hcz9_1 : w8.cell? ⟨gb222, 1, none⟩ = some (.int .i64 a0_1) := (blk_cell BK222.out 1).trans rfl; have hfz9_0 := blk_frozen BK222.out 0; have hfz9_1 := blk_frozen BK222.out 1) | ((with_reducible refine gate_callee (f := 6) rfl ?_); refine goesL_ (some 7) rfl rfl Tryz.func6 (by kernel_rfl) rfl #[.int .i64 a0_0] rfl (by (try simp only [List.map_toArray, List.map_cons, List.map_nil]); first | done | rfl | (simp only [List.length_drop, List.length_take]; rfl)) ?_; (with_reducible refine (abacistref03_Fits.calls k a0_0 t223 _ A2.out).mono ?_); rintro e w' ⟨rfl, ⟨nd, rfl⟩⟩; refine ⟨_, rfl, ?_⟩) | ((with_reducible refine gate_callee (f := 6) rfl ?_); refine goesL_ (some 10) rfl rfl Tryz.func6 (by kernel_rfl) rfl #[.int .i64 a0_1] rfl (by (try simp only [List.map_toArray, List.map_cons, List.map_nil]); first | done | rfl | (simp only [List.length_drop, List.length_take]; rfl)) ?_; (with_reducible refine (abacistref03_Fits.calls k a0_1 t224 _ A3.out).mono ?_); rintro e w' ⟨rfl, ⟨nd, rfl⟩⟩; refine ⟨_, rfl, ?_⟩))
      go_ret
      exact ⟨by first | rfl | (simp [errW_none, errW_some] <;> rfl) | (simp [*, errW_none, errW_some] <;> rfl), by repeat (first | (with_reducible first | exact HB.out | apply below_alloc | apply pw_below_drewN | apply below_drew1 | refine below_set ?_ GE222.out) | exact HB.out)⟩
  · rw [if_neg c4] at H
    have c4b0 : decide (0 ≤ t223) = false := decide_eq_false c4
    clear c4
    obtain rfl := Option.some.inj H
    go_enter Tryz.func28, Tryz.ntmps28
    go_wp2_with (first | ((with_reducible refine gate_dst (N := 1) rfl ?_); refine box_event ?hg (N := 1) ?hd (cs := #[.int .i64 a0_0, .int .i64 a0_1]) (t := 32) ?hr ?_; (case hd => rfl); (case hg => rfl); (case hr => first | (go_simp; done) | (go_simp; rfl)); intro gb222 hg w10 hbox hb; have n0_ := Aside0.mk (below_step (by repeat (first | (with_reducible first | exact HB.out | apply below_alloc | apply pw_below_drewN | apply below_drew1) | exact HB.out)) hb); have n1_ := Aside0.mk (hbox); have n2_ := Aside0.mk ((by rw [hg]; exact (below_size (by repeat (first | (with_reducible first | exact HB.out | apply below_alloc | apply pw_below_drewN | apply below_drew1) | exact HB.out))) : w.heap.size ≤ gb222)); have n3_ := Aside0.mk ((by rw [hg]; exact (below_size (by repeat (first | (with_reducible first | exact HB.out | apply below_alloc | apply pw_below_drewN | apply below_drew1) | exact HB.out))) : w.heap.size ≤ gb222)); clear HB; have HB := n0_; have BK222 := n1_; have GW222 := n2_; have GE222 := n3_; clear n0_ n1_ n2_ n3_; clear hb hbox hg; have hcz11_0 : w10.cell? ⟨gb222, 0, none⟩ = some (.int .i64 a0_0) := (blk_cell BK222.out 0).trans rfl; have hcz11_1 : w10.cell? ⟨gb222, 1, none⟩ = some (.int .i64 a0_1) := (blk_cell BK222.out 1).trans rfl; have hfz11_0 := blk_frozen BK222.out 0; have hfz11_1 := blk_frozen BK222.out 1) | ((with_reducible refine gate_callee (f := 6) rfl ?_); refine goesL_ (some 7) rfl rfl Tryz.func6 (by kernel_rfl) rfl #[.int .i64 a0_0] rfl (by (try simp only [List.map_toArray, List.map_cons, List.map_nil]); first | done | rfl | (simp only [List.length_drop, List.length_take]; rfl)) ?_; (with_reducible refine (abacistref03_Fits.calls k a0_0 t223 _ A2.out).mono ?_); rintro e w' ⟨rfl, ⟨nd, rfl⟩⟩; refine ⟨_, rfl, ?_⟩) | ((with_reducible refine gate_callee (f := 6) rfl ?_); refine goesL_ (some 10) rfl rfl Tryz.func6 (by kernel_rfl) rfl #[.int .i64 a0_1] rfl (by (try simp only [List.map_toArray, List.map_cons, List.map_nil]); first | done | rfl | (simp only [List.length_drop, List.length_take]; rfl)) ?_; (with_reducible refine (abacistref03_Fits.calls k a0_1 t224 _ A3.out).mono ?_); rintro e w' ⟨rfl, ⟨nd, rfl⟩⟩; refine ⟨_, rfl, ?_⟩))
    go_ret
    exact ⟨by first | rfl | (simp [errW_none, errW_some] <;> rfl) | (simp [*, errW_none, errW_some] <;> rfl), by repeat (first | (with_reducible first | exact HB.out | apply below_alloc | apply pw_below_drewN | apply below_drew1 | refine below_set ?_ GE222.out) | exact HB.out)⟩
mutual
def abacistref06_Transpose.l0 : Nat → List Int → List Int → Int → Int → Int → Option (List Int)
  | 0, _, _, _, _, _ => none
  | k + 1, x0, x5, x6, x226000, x226001 => if x6 < x226000 then (abacistref06_Transpose.l1 k x0 x5 x6 0 x226000 x226001) else (some x5)
def abacistref06_Transpose.l1 : Nat → List Int → List Int → Int → Int → Int → Int → Option (List Int)
  | 0, _, _, _, _, _, _ => none
  | k + 1, x0, x5, x6, x7, x226000, x226001 => if x7 < x226001 then (if 0 ≤ (wrap64 ((wrap64 (x6 * x226001)) + x7)) then (if (wrap64 ((wrap64 (x6 * x226001)) + x7)) < (x0.length : Int) then (if 0 ≤ (wrap64 ((wrap64 (x7 * x226000)) + x6)) then (if (wrap64 ((wrap64 (x7 * x226000)) + x6)) < (x5.length : Int) then (abacistref06_Transpose.l1 k x0 (x5.set ((wrap64 ((wrap64 (x7 * x226000)) + x6)) : Int).toNat (rd x0 (wrap64 ((wrap64 (x6 * x226001)) + x7)))) x6 (wrap64 (x7 + 1)) x226000 x226001) else (none)) else (none)) else (none)) else (none)) else (abacistref06_Transpose.l0 k x0 x5 (wrap64 (x6 + 1)) x226000 x226001)
end
def abacistref06_Transpose.f (k : Nat) (l0 : List Int) (a1_0 : Int) (a1_1 : Int) : Option (List Int) := (some (([] : List Int) : List Int)).bind fun y226 => (if y226.length + l0.length < 17592186044416 then (abacistref06_Transpose.l0 k l0 (y226 ++ l0) 0 a1_0 a1_1) else (none))
def abacistref06_Transpose.T8 : Bool × List (List Nat × List Nat) := (true, [([], []), ([], []), ([], []), ([2], [2]), ([1, 3], [1, 3]), ([], []), ([4, 5], [4, 5]), ([], []), ([], []), ([], []), ([9], [9]), ([8, 10], [8, 10]), ([], []), ([11, 12], [11, 12]), ([7, 13], [7, 13]), ([14], [14]), ([0, 6, 0, 1, 2, 3, 4, 5, 6, 7, 8, 9, 10, 11, 12, 13, 14, 15], [0, 6]), ([16, 15, 0, 1, 2, 3, 4, 5, 6, 7, 8, 9, 10, 11, 12, 13, 14, 15], [15, 16])])
def abacistref06_Transpose.B8 : List Nat := [0, 0, 0, 4, 14, 0, 62, 0, 0, 0, 512, 1792, 0, 7936, 16256, 32640, 65535, 131071]
theorem abacistref06_Transpose.tab8 : rtab .any (opsOf Tryz.f29 8) = abacistref06_Transpose.T8 := by kernel_rfl
theorem abacistref06_Transpose.bits8 : waitsOk abacistref06_Transpose.T8.2 abacistref06_Transpose.B8 = true := by kernel_rfl
set_option maxHeartbeats 8000000 in
set_option maxRecDepth 100000 in
theorem abacistref06_Transpose.calls (k : Nat) (A0 : Option Addr) (c0 : Nat) (l0 : List Int) (a1_0 : Int) (a1_1 : Int) (r : List Int) (w : World) (hr0 : Kd.C (Kd.int .u64) w A0 l0.length l0) (hc0 : l0.length ≤ c0) (h : abacistref06_Transpose.f k l0 a1_0 a1_1 = some r) :
    Calls Tryz.prog 29 #[.slice A0 l0.length c0, .agg #[.int .i64 a1_0, .int .i64 a1_1]] w fun e w' => ∃ v0_ : Value, e = .returned (v0_) ∧ Kd.R (Kd.int .u64) 33 w' w.heap.size (fun _ => True) v0_ r ∧ Below w.heap.size w w' := by
  have hu32 := Tryz.underlying32
  have HR0 := Aside0.mk hr0
  have HC0 := Aside0.mk hc0
  clear hr0 hc0
  have HB := Aside0.mk (Below.refl w.heap.size w)
  have H : ((some (([] : List Int) : List Int)).bind fun y226 => (if y226.length + l0.length < 17592186044416 then (abacistref06_Transpose.l0 k l0 (y226 ++ l0) 0 a1_0 a1_1) else (none))) = some r := h
  clear h
  obtain ⟨y226, hy226⟩ : ∃ y_ : List Int, y_ = (([] : List Int)) := ⟨_, rfl⟩
  replace H : (if y226.length + l0.length < 17592186044416 then (abacistref06_Transpose.l0 k l0 (y226 ++ l0) 0 a1_0 a1_1) else (none)) = some r := by first | (rw [hy226]; with_reducible exact H) | (have H2_ := (Option.bind_some _ _).symm.trans H; rw [hy226]; with_reducible exact H2_) | (have H2_ := (Option.bind_some _ _).symm.trans H; with_reducible exact H2_) | with_reducible exact H | (rw [hy226]; exact H) | exact H
  have Ny226 := Aside0.mk hy226
  clear hy226
  by_cases c3 : y226.length + l0.length < 17592186044416
  · rw [if_pos c3] at H
    have LMc3 := Aside0.mk c3
    clear c3
    obtain ⟨y229, hy229⟩ : ∃ y_ : List Int, y_ = (y226 ++ l0) := ⟨_, rfl⟩
    replace H : (abacistref06_Transpose.l0 k l0 y229 0 a1_0 a1_1) = some r := by first | (rw [hy229]; with_reducible exact H) | (have H2_ := (Option.bind_some _ _).symm.trans H; rw [hy229]; with_reducible exact H2_) | (have H2_ := (Option.bind_some _ _).symm.trans H; with_reducible exact H2_) | with_reducible exact H | (rw [hy229]; exact H) | exact H
    have Ny229 := Aside0.mk hy229
    clear hy229
    have H' := Aside0.mk H
    clear H
    go_enter Tryz.func29, Tryz.ntmps29
    go_wp2_with (first | ((with_reducible refine gate_dst (N := 3) rfl ?_); refine box_event ?hg (N := 3) ?hd (cs := #[.int .i64 a1_0, .int .i64 a1_1]) (t := 32) ?hr ?_; (case hd => rfl); (case hg => rfl); (case hr => first | (go_simp; done) | (go_simp; rfl)); intro gb225 hg w4 hbox hb; have n0_ := Aside0.mk (below_step (by repeat (first | (with_reducible first | exact HB.out | apply below_alloc | apply pw_below_drewN | apply below_drew1) | exact HB.out)) hb); have n1_ := Aside0.mk (hbox); have n2_ := Aside0.mk ((by rw [hg]; exact (below_size (by repeat (first | (with_reducible first | exact HB.out | apply below_alloc | apply pw_below_drewN | apply below_drew1) | exact HB.out))) : w.heap.size ≤ gb225)); have n3_ := Aside0.mk ((by rw [hg]; exact (below_size (by repeat (first | (with_reducible first | exact HB.out | apply below_alloc | apply pw_below_drewN | apply below_drew1) | exact HB.out))) : w.heap.size ≤ gb225)); clear HB; have HB := n0_; have BK225 := n1_; have GW225 := n2_; have GE225 := n3_; clear n0_ n1_ n2_ n3_; clear hb hbox hg) | ((with_reducible refine gate_dst (N := 8) rfl ?_); refine Kd.R_lit (Kd.int .u64) _ 33 ?hg (N := 8) ?hd (xs := ([] : List Int)) (inner := []) (ok := fun _ => True) (okp := fun _ => True) ?hr ?hp (fun _ hk => hk) trivial (Below.refl _ _) (Nat.le_refl _) (by simp) ?_; (case hd => rfl); (case hg => rfl); (case hr => first | (go_simp; done) | (go_simp; rfl)); (case hp => exact (Reps.none _ _)); intro v227 w5 ho6 hb hg_ hnew_; clear hg_ hnew_; (first | rw [← Ny226.out] at ho6 | (simp only [Int.reduceToNat] at ho6; rw [← Ny226.out] at ho6)); have n0_ := Aside0.mk (Kd.R_lower ho6 (below_size (by repeat (first | (with_reducible first | exact HB.out | apply below_alloc | apply pw_below_drewN | apply below_drew1 | refine below_set ?_ GE225.out) | exact HB.out)))); have n1_ := Aside0.mk (blk_below (g := gb225) (o := .cells #[.int .i64 a1_0, .int .i64 a1_1] 32 (0, 0)) (by (with_reducible repeat (first | refine blk_drewN ?_ _ | refine blk_drew ?_ | refine blk_alloc ?_ _)); exact BK225.out) hb); have n2_ := Aside0.mk (below_step (by repeat (first | (with_reducible first | exact HB.out | apply below_alloc | apply pw_below_drewN | apply below_drew1 | refine below_set ?_ GE225.out) | exact HB.out)) hb); clear BK225; clear HB; have HO228 := n0_; have BK225 := n1_; have HB := n2_; clear n0_ n1_ n2_; clear hb ho6) | ((with_reducible refine gate_builtin (b := .append) (xs := #[.tmp 8, .tmp 9]) rfl ?_); at_builtin; refine Kd.R_append_rows (Kd.int .u64) (w0 := w) w.heap.size rfl (.tmp 8) (.tmp 9) 22 33 (.int .u64 0) 8 rfl Tryz.underlying22 info33 rfl (by decide) (by omega) v227 y226 l0 _ _ _ (fun _ => True) (fun _ => False) rfl rfl ?aO ?aR (fun _ _ h => h) (fun _ h => h.elim) ?aF ?aB ?aS ?aL ?_; (case aR => repeat (first | exact (Kd.C_below HR0.out HB.out) | (with_reducible refine Kd.C_alloc ?_ _) | (with_reducible refine Kd.C_drewN ?_ _) | (with_reducible refine Kd.C_drew ?_))); (case aB => exact (by repeat (first | (with_reducible first | exact HB.out | apply below_alloc | apply pw_below_drewN | apply below_drew1 | refine below_set ?_ GE225.out) | exact HB.out))); (case aF => exact (fun _ _ => trivial)); (case aO => exact (by (with_reducible repeat (first | apply Kd.R_alloc | apply Kd.R_drewN | apply Kd.R_drew)); exact HO228.out)); (case aS => exact (below_size (by repeat (first | (with_reducible first | exact HB.out | apply below_alloc | apply pw_below_drewN | apply below_drew1 | refine below_set ?_ GE225.out) | exact HB.out)))); (case aL => have := LMc3.out; omega); intro v230 w7 ho hb hg hat; rw [← Ny229.out] at ho; have n0_ := Aside0.mk (blk_grown (g := gb225) (o := .cells #[.int .i64 a1_0, .int .i64 a1_1] 32 (0, 0)) (by (with_reducible repeat (first | refine blk_drewN ?_ _ | refine blk_drew ?_ | refine blk_alloc ?_ _)); exact BK225.out) hg (Kd.R_ne HO228.out BK225.out (by decide))); have n1_ := Aside0.mk (hb); have n2_ := Aside0.mk (ho); clear BK225; clear HB; clear HO228; have BK225 := n0_; have HB := n1_; have HO231 := n2_; clear n0_ n1_ n2_; clear ho hb hg hat))
    go_loopg [6] k (fun kq v6 w' => ∃ (x5_1 : List Int) (x6_1 : Int), v6 = .int .i64 x6_1 ∧ Aside0 (abacistref06_Transpose.l0 kq l0 x5_1 x6_1 a1_0 a1_1 = some r) ∧ Aside0 (kq ≤ k) ∧ Aside0 (Kd.R (Kd.int .u64) 33 w' w.heap.size (fun _ => True) v230 x5_1) ∧ Aside0 (w'.heap[gb225]? = some (.cells #[.int .i64 a1_0, .int .i64 a1_1] 32 (0, 0))) ∧ Aside0 (Below w.heap.size w w'))
    case atStart => exact ⟨(y229), (0), (by first | rfl | (simp; done) | (simp [*]; done)), H', ⟨Nat.le_refl _⟩, ⟨by (with_reducible repeat (first | apply Kd.R_alloc | apply Kd.R_drewN | apply Kd.R_drew)); exact HO231.out⟩, ⟨by (with_reducible repeat (first | refine blk_drewN ?_ _ | refine blk_drew ?_ | refine blk_alloc ?_ _)); exact BK225.out⟩, ⟨by repeat (first | (with_reducible first | exact HB.out | apply below_alloc | apply pw_below_drewN | apply below_drew1 | refine below_set ?_ GE225.out) | exact HB.out)⟩⟩
    case round =>
      clear H'
      try clear c2
      try clear p2
      try clear c3
      obtain ⟨x5_1, x6_1, rfl, HA, HK1, HO_5, BK225, HB⟩ := hrel
      cases gk with
      | zero => exact absurd HA.out (by simp [abacistref06_Transpose.l0])
      | succ k1 =>
        have H := HA.out
        clear HA
        simp only [abacistref06_Transpose.l0] at H
        by_cases c8 : x6_1 < a1_0
        · rw [if_pos c8] at H
          have c8b0 : decide (x6_1 < a1_0) = true := decide_eq_true c8
          clear c8
          have H' := Aside0.mk H
          clear H
          have hcz9_0 : wr.cell? ⟨gb225, 0, none⟩ = some (.int .i64 a1_0) := (blk_cell BK225.out 0).trans rfl
          have hcz9_1 : wr.cell? ⟨gb225, 1, none⟩ = some (.int .i64 a1_1) := (blk_cell BK225.out 1).trans rfl
          have hfz9_0 := blk_frozen BK225.out 0
          have hfz9_1 := blk_frozen BK225.out 1
          go_wp2
          go_loopg [7] k1 (fun kq v7 w' => ∃ (x5_2 : List Int) (x7_2 : Int), v7 = .int .i64 x7_2 ∧ Aside0 (abacistref06_Transpose.l1 kq l0 x5_2 x6_1 x7_2 a1_0 a1_1 = some r) ∧ Aside0 (kq ≤ k1) ∧ Aside0 (Kd.R (Kd.int .u64) 33 w' w.heap.size (fun _ => True) v230 x5_2) ∧ Aside0 (w'.heap[gb225]? = some (.cells #[.int .i64 a1_0, .int .i64 a1_1] 32 (0, 0))) ∧ Aside0 (Below w.heap.size w w'))
          case atStart => exact ⟨(x5_1), (0), (by first | rfl | (simp; done) | (simp [*]; done)), H', ⟨Nat.le_refl _⟩, ⟨by (with_reducible repeat (first | apply Kd.R_alloc | apply Kd.R_drewN | apply Kd.R_drew)); exact HO_5.out⟩, ⟨by (with_reducible repeat (first | refine blk_drewN ?_ _ | refine blk_drew ?_ | refine blk_alloc ?_ _)); exact BK225.out⟩, ⟨by repeat (first | (with_reducible first | exact HB.out | apply below_alloc | apply pw_below_drewN | apply below_drew1 | refine below_set ?_ GE225.out) | exact HB.out)⟩⟩
          case round =>
            clear H'
            try clear c2
            try clear p2
            try clear c3
            try clear c8
            try clear c8b0
            try clear hcz9_0
            try clear hcz9_1
            try clear hfz9_0
            try clear hfz9_1
            try clear p2
            obtain ⟨x5_2, x7_2, rfl, HA, HK2, HO_5, BK225, HB⟩ := hrel
            cases gk with
            | zero => exact absurd HA.out (by simp [abacistref06_Transpose.l1])
            | succ k2 =>
              have H := HA.out
              clear HA
              simp only [abacistref06_Transpose.l1] at H
              by_cases c10 : x7_2 < a1_1
              · rw [if_pos c10] at H
                have c10b0 : decide (x7_2 < a1_1) = true := decide_eq_true c10
                clear c10
                obtain ⟨ji11, hji11⟩ : ∃ j_ : Int, (wrap64 ((wrap64 (x6_1 * a1_1)) + x7_2)) = j_ := ⟨_, rfl⟩
                replace H : (if 0 ≤ (ji11) then (if (ji11) < (l0.length : Int) then (if 0 ≤ (wrap64 ((wrap64 (x7_2 * a1_0)) + x6_1)) then (if (wrap64 ((wrap64 (x7_2 * a1_0)) + x6_1)) < (x5_2.length : Int) then (abacistref06_Transpose.l1 k2 l0 (x5_2.set ((wrap64 ((wrap64 (x7_2 * a1_0)) + x6_1)) : Int).toNat (rd l0 (ji11))) x6_1 (wrap64 (x7_2 + 1)) a1_0 a1_1) else (none)) else (none)) else (none)) else (none)) = some r := by first | (rw [hji11] at H; exact H) | (simp only [hji11] at H ⊢; exact H)
                have hji11w : (IntKind.i64.wrap ((wrap64 (x6_1 * a1_1)) + x7_2)) = ji11 := (i64_w _).trans hji11
                by_cases c12 : 0 ≤ (ji11)
                · rw [if_pos c12] at H
                  have c12b0 : decide (0 ≤ (ji11)) = true := decide_eq_true c12
                  clear c12
                  by_cases c13 : (ji11) < (l0.length : Int)
                  · rw [if_pos c13] at H
                    have c13b0 : decide ((ji11) < (l0.length : Int)) = true := decide_eq_true c13
                    clear c13
                    obtain ⟨ji14, hji14⟩ : ∃ j_ : Int, (wrap64 ((wrap64 (x7_2 * a1_0)) + x6_1)) = j_ := ⟨_, rfl⟩
                    replace H : (if 0 ≤ (ji14) then (if (ji14) < (x5_2.length : Int) then (abacistref06_Transpose.l1 k2 l0 (x5_2.set ((ji14) : Int).toNat (rd l0 (ji11))) x6_1 (wrap64 (x7_2 + 1)) a1_0 a1_1) else (none)) else (none)) = some r := by first | (rw [hji14] at H; exact H) | (simp only [hji14] at H ⊢; exact H)
                    have hji14w : (IntKind.i64.wrap ((wrap64 (x7_2 * a1_0)) + x6_1)) = ji14 := (i64_w _).trans hji14
                    by_cases c15 : 0 ≤ (ji14)
                    · rw [if_pos c15] at H
                      have c15b0 : decide (0 ≤ (ji14)) = true := decide_eq_true c15
                      clear c15
                      by_cases c16 : (ji14) < (x5_2.length : Int)
                      · rw [if_pos c16] at H
                        have c16b0 : decide ((ji14) < (x5_2.length : Int)) = true := decide_eq_true c16
                        clear c16
                        obtain ⟨y233, hy233⟩ : ∃ y_ : List Int, y_ = (x5_2.set ((ji14) : Int).toNat (rd l0 (ji11))) := ⟨_, rfl⟩
                        replace H : (abacistref06_Transpose.l1 k2 l0 y233 x6_1 (wrap64 (x7_2 + 1)) a1_0 a1_1) = some r := by first | (rw [hy233]; with_reducible exact H) | (have H2_ := (Option.bind_some _ _).symm.trans H; rw [hy233]; with_reducible exact H2_) | (have H2_ := (Option.bind_some _ _).symm.trans H; with_reducible exact H2_) | with_reducible exact H | (rw [hy233]; exact H) | exact H
                        have Ny233 := Aside0.mk hy233
                        clear hy233
                        have H' := Aside0.mk H
                        clear H
                        have hcz18_0 : wr.cell? ⟨gb225, 0, none⟩ = some (.int .i64 a1_0) := (blk_cell BK225.out 0).trans rfl
                        have hcz18_1 : wr.cell? ⟨gb225, 1, none⟩ = some (.int .i64 a1_1) := (blk_cell BK225.out 1).trans rfl
                        have hfz18_0 := blk_frozen BK225.out 0
                        have hfz18_1 := blk_frozen BK225.out 1
                        try go_wp2
                        have n0_ := Aside0.mk (Kd.R_drew HO_5.out)
                        have n1_ := Aside0.mk (blk_drew BK225.out)
                        have n2_ := Aside0.mk (below_drew1 HB.out)
                        clear HO_5
                        clear BK225
                        clear HB
                        have HO_5 := n0_
                        have BK225 := n1_
                        have HB := n2_
                        clear n0_ n1_ n2_
                        have p232 : 0 ≤ ((ji11) : Int) := of_decide_eq_true (by first | (with_reducible assumption) | assumption)
                        have q232 : (ji11) < (l0.length : Int) := of_decide_eq_true (by first | (with_reducible assumption) | assumption)
                        obtain ⟨ad232, e232, hx232_0⟩ := Kd.at_int HR0.out (ji11) p232 q232
                        have hw232_0 := hx232_0
                        cases e232
                        replace hx232_0 := (HB.out.cell (World.block_lt_of_cell? w _ hx232_0)).trans hx232_0
                        replace p232 := eq_true p232
                        replace q232 := eq_true q232
                        have p17 : 0 ≤ ((ji14) : Int) := of_decide_eq_true (by first | (with_reducible assumption) | assumption)
                        have q17 : ((ji14) : Int) < ((x5_2.length : Int) : Int) := of_decide_eq_true (by first | (with_reducible assumption) | assumption)
                        obtain ⟨go17, co17, eo17, gb17, gl17, cl17, HG17⟩ := Kd.R_form HO_5.out (by omega)
                        (first | cases eo17 | (injection eo17 with ea_ en_ ec_; (first | subst ea_ | (injection ea_ with ea_; subst ea_)); subst ec_; clear en_))
                        have GB17 := Aside0.mk gb17
                        have GG17 := Aside0.mk HG17
                        clear gb17 gl17 HG17
                        obtain ⟨hx17_0, hf17_0⟩ := Kd.R_celln 0 HO_5.out ((ji14) : Int) p17 q17
                        replace p17 := eq_true p17
                        replace q17 := eq_true q17
                        have HP20 := Kd.R_putn HO_5.out ((ji14) : Int) (rd l0 (ji11))
                        rw [← Ny233.out] at HP20
                        have HQ20 := Aside0.mk HP20
                        clear HP20
                        refine start_ (n := 18) (S := fun w' => w'.cell? ⟨gb225, 0, none⟩ = some (.int .i64 a1_0) ∧ w'.cell? ⟨gb225, 1, none⟩ = some (.int .i64 a1_1) ∧ w'.cell? (ad232.add ((ji11)).toNat) = some (.int .u64 (rd l0 (ji11)))) (ds := [17]) #[false, false, false, false, false, false, false, false, false, false, false, false, false, false, false, false, false, false] (by kernel_rfl) rfl rfl ⟨(blk_cell BK225.out 0).trans rfl, (blk_cell BK225.out 1).trans rfl, ((HB.out.cell (World.block_lt_of_cell? w _ hw232_0)).trans hw232_0)⟩ (fun hHeld => ?_); refine with_tabW abacistref06_Transpose.tab8 abacistref06_Transpose.bits8 (fun HT_ HW_ => ?_)
                        generalize wr.drew = w19 at HO_5 BK225 HB GG17 HQ20 hf17_0 hx17_0 hx232_0 hHeld ⊢
                        refine pure_ (i := 0) (N := some 23) (v := ?_) (a' := ?_) #[true, false, false, false, false, false, false, false, false, false, false, false, false, false, false, false, false, false] rfl rfl (any_of HT_.out (by kernel_rfl)) (fun _ _ _ h => h) (Or.inl ⟨by rfl, ?_⟩) ?_ ?_
                        rotate_left
                        · intro w'
                          go_simp
                          with_reducible rfl
                        rotate_left
                        · simp only [Act.put, List.setIfInBounds_toArray, List.set_cons_zero, List.set_cons_succ, i64_w, i32_w]
                          rfl
                        refine pure_ (i := 1) (N := some 24) (v := ?_) (a' := ?_) #[true, true, false, false, false, false, false, false, false, false, false, false, false, false, false, false, false, false] rfl rfl (any_of HT_.out (by kernel_rfl)) (fun _ _ _ h => h) (Or.inl ⟨by rfl, ?_⟩) ?_ ?_
                        rotate_left
                        · intro w'
                          go_simp
                          with_reducible rfl
                        rotate_left
                        · simp only [Act.put, List.setIfInBounds_toArray, List.set_cons_zero, List.set_cons_succ, i64_w, i32_w]
                          rfl
                        refine pure_ (i := 2) (N := some 25) (v := ?_) (a' := ?_) #[true, true, true, false, false, false, false, false, false, false, false, false, false, false, false, false, false, false] rfl rfl (any_of HT_.out (by kernel_rfl)) (fun _ _ _ h => h) (Or.inl ⟨by rfl, ?_⟩) ?_ ?_
                        rotate_left
                        · intro w'
                          go_simp
                          with_reducible rfl
                        rotate_left
                        · simp only [Act.put, List.setIfInBounds_toArray, List.set_cons_zero, List.set_cons_succ, i64_w, i32_w]
                          rfl
                        refine pure_ (i := 5) (N := some 28) (v := ?_) (a' := ?_) #[true, true, true, false, false, true, false, false, false, false, false, false, false, false, false, false, false, false] rfl rfl (any_of HT_.out (by kernel_rfl)) (fun _ _ _ h => h) (Or.inl ⟨by rfl, ?_⟩) ?_ ?_
                        rotate_left
                        · intro w'
                          go_simp
                          with_reducible rfl
                        rotate_left
                        · simp only [Act.put, List.setIfInBounds_toArray, List.set_cons_zero, List.set_cons_succ, i64_w, i32_w]
                          rfl
                        refine pure_ (i := 7) (N := some 30) (v := ?_) (a' := ?_) #[true, true, true, false, false, true, false, true, false, false, false, false, false, false, false, false, false, false] rfl rfl (any_of HT_.out (by kernel_rfl)) (fun _ _ _ h => h) (Or.inl ⟨by rfl, ?_⟩) ?_ ?_
                        rotate_left
                        · intro w'
                          go_simp
                          with_reducible rfl
                        rotate_left
                        · simp only [Act.put, List.setIfInBounds_toArray, List.set_cons_zero, List.set_cons_succ, i64_w, i32_w]
                          rfl
                        refine pure_ (i := 8) (N := some 31) (v := ?_) (a' := ?_) #[true, true, true, false, false, true, false, true, true, false, false, false, false, false, false, false, false, false] rfl rfl (any_of HT_.out (by kernel_rfl)) (fun _ _ _ h => h) (Or.inl ⟨by rfl, ?_⟩) ?_ ?_
                        rotate_left
                        · intro w'
                          go_simp
                          with_reducible rfl
                        rotate_left
                        · simp only [Act.put, List.setIfInBounds_toArray, List.set_cons_zero, List.set_cons_succ, i64_w, i32_w]
                          rfl
                        refine pure_ (i := 9) (N := some 32) (v := ?_) (a' := ?_) #[true, true, true, false, false, true, false, true, true, true, false, false, false, false, false, false, false, false] rfl rfl (any_of HT_.out (by kernel_rfl)) (fun _ _ _ h => h) (Or.inl ⟨by rfl, ?_⟩) ?_ ?_
                        rotate_left
                        · intro w'
                          go_simp
                          with_reducible rfl
                        rotate_left
                        · simp only [Act.put, List.setIfInBounds_toArray, List.set_cons_zero, List.set_cons_succ, i64_w, i32_w]
                          rfl
                        refine pure_ (i := 12) (N := some 35) (v := ?_) (a' := ?_) #[true, true, true, false, false, true, false, true, true, true, false, false, true, false, false, false, false, false] rfl rfl (any_of HT_.out (by kernel_rfl)) (fun _ _ _ h => h) (Or.inl ⟨by rfl, ?_⟩) ?_ ?_
                        rotate_left
                        · intro w'
                          go_simp
                          with_reducible rfl
                        rotate_left
                        · simp only [Act.put, List.setIfInBounds_toArray, List.set_cons_zero, List.set_cons_succ, i64_w, i32_w]
                          rfl
                        refine take_ (i := 3) (N := some 26) (v := ?_) (a' := ?_) #[true, true, true, true, false, true, false, true, true, true, false, false, true, false, false, false, false, false] rfl rfl (take_ofW HT_.out HW_.out (by kernel_rfl)) (fun _ _ _ h => h) (Or.inl ⟨by rfl, ?_⟩) hHeld ?_ ?_
                        rotate_left
                        · rintro w' ⟨s0, s1, s2⟩
                          go_simp
                          with_reducible rfl
                        rotate_left
                        · simp only [Act.put, List.setIfInBounds_toArray, List.set_cons_zero, List.set_cons_succ, i64_w, i32_w]
                          rfl
                        refine pure_ (i := 4) (N := some 27) (v := ?_) (a' := ?_) #[true, true, true, true, true, true, false, true, true, true, false, false, true, false, false, false, false, false] rfl rfl (any_of HT_.out (by kernel_rfl)) (fun _ _ _ h => h) (Or.inl ⟨by rfl, ?_⟩) ?_ ?_
                        rotate_left
                        · intro w'
                          go_simp
                          with_reducible rfl
                        rotate_left
                        · simp only [Act.put, List.setIfInBounds_toArray, List.set_cons_zero, List.set_cons_succ, i64_w, i32_w]
                          rfl
                        refine pure_ (i := 6) (N := some 29) (v := ?_) (a' := ?_) #[true, true, true, true, true, true, true, true, true, true, false, false, true, false, false, false, false, false] rfl rfl (any_of HT_.out (by kernel_rfl)) (fun _ _ _ h => h) (Or.inl ⟨by rfl, ?_⟩) ?_ ?_
                        rotate_left
                        · intro w'
                          go_simp
                          with_reducible rfl
                        rotate_left
                        · simp only [Act.put, List.setIfInBounds_toArray, List.set_cons_zero, List.set_cons_succ, i64_w, i32_w]
                          rfl
                        refine take_ (i := 10) (N := some 33) (v := ?_) (a' := ?_) #[true, true, true, true, true, true, true, true, true, true, true, false, true, false, false, false, false, false] rfl rfl (take_ofW HT_.out HW_.out (by kernel_rfl)) (fun _ _ _ h => h) (Or.inl ⟨by rfl, ?_⟩) hHeld ?_ ?_
                        rotate_left
                        · rintro w' ⟨s0, s1, s2⟩
                          go_simp
                          with_reducible rfl
                        rotate_left
                        · simp only [Act.put, List.setIfInBounds_toArray, List.set_cons_zero, List.set_cons_succ, i64_w, i32_w]
                          rfl
                        refine pure_ (i := 11) (N := some 34) (v := ?_) (a' := ?_) #[true, true, true, true, true, true, true, true, true, true, true, true, true, false, false, false, false, false] rfl rfl (any_of HT_.out (by kernel_rfl)) (fun _ _ _ h => h) (Or.inl ⟨by rfl, ?_⟩) ?_ ?_
                        rotate_left
                        · intro w'
                          go_simp
                          with_reducible rfl
                        rotate_left
                        · simp only [Act.put, List.setIfInBounds_toArray, List.set_cons_zero, List.set_cons_succ, i64_w, i32_w]
                          rfl
                        refine pure_ (i := 13) (N := some 36) (v := ?_) (a' := ?_) #[true, true, true, true, true, true, true, true, true, true, true, true, true, true, false, false, false, false] rfl rfl (any_of HT_.out (by kernel_rfl)) (fun _ _ _ h => h) (Or.inl ⟨by rfl, ?_⟩) ?_ ?_
                        rotate_left
                        · intro w'
                          go_simp
                          with_reducible rfl
                        rotate_left
                        · simp only [Act.put, List.setIfInBounds_toArray, List.set_cons_zero, List.set_cons_succ, i64_w, i32_w]
                          rfl
                        refine pure_ (i := 14) (N := some 37) (v := ?_) (a' := ?_) #[true, true, true, true, true, true, true, true, true, true, true, true, true, true, true, false, false, false] rfl rfl (any_of HT_.out (by kernel_rfl)) (fun _ _ _ h => h) (Or.inl ⟨by rfl, ?_⟩) ?_ ?_
                        rotate_left
                        · intro w'
                          go_simp
                          with_reducible rfl
                        rotate_left
                        · simp only [Act.put, List.setIfInBounds_toArray, List.set_cons_zero, List.set_cons_succ, i64_w, i32_w]
                          rfl
                        refine take_ (i := 15) (N := some 38) (v := ?_) (a' := ?_) #[true, true, true, true, true, true, true, true, true, true, true, true, true, true, true, true, false, false] rfl rfl (take_ofW HT_.out HW_.out (by kernel_rfl)) (fun _ _ _ h => h) (Or.inl ⟨by rfl, ?_⟩) hHeld ?_ ?_
                        rotate_left
                        · rintro w' ⟨s0, s1, s2⟩
                          go_simp
                          with_reducible rfl
                        rotate_left
                        · simp only [Act.put, List.setIfInBounds_toArray, List.set_cons_zero, List.set_cons_succ, i64_w, i32_w]
                          rfl
                        refine pure_ (i := 16) (N := some 39) (v := ?_) (a' := ?_) #[true, true, true, true, true, true, true, true, true, true, true, true, true, true, true, true, true, false] rfl rfl (any_of HT_.out (by kernel_rfl)) (fun _ _ _ h => h) (Or.inl ⟨by rfl, ?_⟩) ?_ ?_
                        rotate_left
                        · intro w'
                          go_simp
                          with_reducible rfl
                        rotate_left
                        · simp only [Act.put, List.setIfInBounds_toArray, List.set_cons_zero, List.set_cons_succ, i64_w, i32_w]
                          rfl
                        refine last_ (i := 17) (N := none) #[true, true, true, true, true, true, true, true, true, true, true, true, true, true, true, true, true, true] rfl rfl (one_of HT_.out (by kernel_rfl)) (by decide) (fun K hK => ?_)
                        refine skip_ (w1 := ?_) (by rfl) rfl ?_ ?_
                        rotate_left
                        · go_simp
                          rfl
                        refine hK.out _ _ ?_
                        clear hK K
                        refine done_ (done_of HT_.out (by kernel_rfl)) ?_
                        try go_wp2
                        go_roundg k2
                        case measure => have := HK1.out; have := HK2.out; omega
                        case rel => exact ⟨(y233), (wrap64 (x7_2 + 1)), (by first | rfl | (simp; done) | (simp [*]; done)), H', ⟨by have := HK1.out; have := HK2.out; omega⟩, ⟨by (with_reducible repeat (first | apply Kd.R_alloc | apply Kd.R_drewN | apply Kd.R_drew)); exact HQ20.out⟩, ⟨by (with_reducible repeat (first | refine blk_drewN ?_ _ | refine blk_drew ?_ | refine blk_alloc ?_ _)); refine blk_far ?_ (by have h_ := Kd.R_ne HO_5.out BK225.out (by decide); intro e_; exact h_ (by rw [e_]; rfl)) _; (with_reducible repeat (first | refine blk_drewN ?_ _ | refine blk_drew ?_ | refine blk_alloc ?_ _)); exact BK225.out⟩, ⟨by repeat (first | (with_reducible first | exact HB.out | apply below_alloc | apply pw_below_drewN | apply below_drew1 | refine below_set ?_ GB17.out | refine below_set ?_ GE225.out) | exact HB.out)⟩⟩
                      · rw [if_neg c16] at H
                        exact absurd H (by simp)
                    · rw [if_neg c15] at H
                      exact absurd H (by simp)
                  · rw [if_neg c13] at H
                    exact absurd H (by simp)
                · rw [if_neg c12] at H
                  exact absurd H (by simp)
              · rw [if_neg c10] at H
                have c10b0 : decide (x7_2 < a1_1) = false := decide_eq_false c10
                clear c10
                have H' := Aside0.mk H
                clear H
                have hcz21_0 : wr.cell? ⟨gb225, 0, none⟩ = some (.int .i64 a1_0) := (blk_cell BK225.out 0).trans rfl
                have hcz21_1 : wr.cell? ⟨gb225, 1, none⟩ = some (.int .i64 a1_1) := (blk_cell BK225.out 1).trans rfl
                have hfz21_0 := blk_frozen BK225.out 0
                have hfz21_1 := blk_frozen BK225.out 1
                go_wp2
                go_roundg k2
                case measure => have := HK1.out; have := HK2.out; omega
                case rel => exact ⟨(x5_2), (wrap64 (x6_1 + 1)), (by first | rfl | (simp; done) | (simp [*]; done)), H', ⟨by have := HK1.out; have := HK2.out; omega⟩, ⟨by (with_reducible repeat (first | apply Kd.R_alloc | apply Kd.R_drewN | apply Kd.R_drew)); exact HO_5.out⟩, ⟨by (with_reducible repeat (first | refine blk_drewN ?_ _ | refine blk_drew ?_ | refine blk_alloc ?_ _)); exact BK225.out⟩, ⟨by repeat (first | (with_reducible first | exact HB.out | apply below_alloc | apply pw_below_drewN | apply below_drew1 | refine below_set ?_ GE225.out) | exact HB.out)⟩⟩
        · rw [if_neg c8] at H
          have c8b0 : decide (x6_1 < a1_0) = false := decide_eq_false c8
          clear c8
          obtain rfl := Option.some.inj H
          have hcz22_0 : wr.cell? ⟨gb225, 0, none⟩ = some (.int .i64 a1_0) := (blk_cell BK225.out 0).trans rfl
          have hcz22_1 : wr.cell? ⟨gb225, 1, none⟩ = some (.int .i64 a1_1) := (blk_cell BK225.out 1).trans rfl
          have hfz22_0 := blk_frozen BK225.out 0
          have hfz22_1 := blk_frozen BK225.out 1
          go_wp2
          go_ret
          exact ⟨_, by first | rfl | (simp [errW_none, errW_some] <;> rfl) | (simp [*, errW_none, errW_some] <;> rfl), by (with_reducible repeat (first | apply Kd.R_alloc | apply Kd.R_drewN | apply Kd.R_drew)); exact HO_5.out, by repeat (first | (with_reducible first | exact HB.out | apply below_alloc | apply pw_below_drewN | apply below_drew1 | refine below_set ?_ GE225.out) | exact HB.out)⟩
  · rw [if_neg c3] at H
    exact absurd H (by simp)
def abacistref04_Same.l0 : Nat → List Int → List Int → Int → Option (Bool)
  | 0, _, _, _ => none
  | k + 1, x0, x1, x5 => if x5 < (x0.length : Int) then (if 0 ≤ x5 then (if x5 < (x1.length : Int) then (if (rd x0 x5) = (rd x1 x5) then (abacistref04_Same.l0 k x0 x1 (wrap64 (x5 + 1))) else (some false)) else (none)) else (none)) else (some true)
def abacistref04_Same.f (k : Nat) (l0 : List Int) (l1 : List Int) : Option (Bool) := if (l0.length : Int) = (l1.length : Int) then (abacistref04_Same.l0 k l0 l1 0) else (some false)
set_option maxHeartbeats 8000000 in
set_option maxRecDepth 100000 in
theorem abacistref04_Same.calls (k : Nat) (A0 : Option Addr) (c0 : Nat) (l0 : List Int) (A1 : Option Addr) (c1 : Nat) (l1 : List Int) (r : Bool) (w : World) (hr0 : Kd.C (Kd.int .u64) w A0 l0.length l0) (hc0 : l0.length ≤ c0) (hr1 : Kd.C (Kd.int .u64) w A1 l1.length l1) (hc1 : l1.length ≤ c1) (h : abacistref04_Same.f k l0 l1 = some r) :
    Calls Tryz.prog 10 #[.slice A0 l0.length c0, .slice A1 l1.length c1] w fun e w' => e = .returned (.bool r) ∧ Drawn0 w w' := by
  have HR0 := Aside0.mk hr0
  have HC0 := Aside0.mk hc0
  clear hr0 hc0
  have HR1 := Aside0.mk hr1
  have HC1 := Aside0.mk hc1
  clear hr1 hc1
  have H : (if (l0.length : Int) = (l1.length : Int) then (abacistref04_Same.l0 k l0 l1 0) else (some false)) = some r := h
  clear h
  by_cases c3 : (l0.length : Int) = (l1.length : Int)
  · rw [if_pos c3] at H
    have c3b0 : ((l0.length : Int) == (l1.length : Int)) = true := beq_iff_eq.mpr c3
    have c3b1 : ((l0.length : Int) != (l1.length : Int)) = false := bne_eq_false_iff_eq.mpr c3
    have c3b2 : (l0.length == l1.length) = true := by first | simpa using c3 | (simp at c3 ⊢; omega)
    clear c3
    have H' := Aside0.mk H
    clear H
    go_enter Tryz.func10, Tryz.ntmps10
    go_wp2
    repeat (go_quiet (fail); try go_wp2)
    go_loopg [5] k (fun kq v5 w' => ∃ (x5_1 : Int), v5 = .int .i64 x5_1 ∧ Aside0 (abacistref04_Same.l0 kq l0 l1 x5_1 = some r) ∧ Aside0 (kq ≤ k) ∧ Drawn0 w w')
    case atStart => exact ⟨(0), (by first | rfl | (simp; done) | (simp [*]; done)), H', ⟨Nat.le_refl _⟩, by repeat (first | exact Drawn0.refl _ | apply Drawn0.step)⟩
    case round =>
      clear H'
      try clear c1
      try clear p2
      try clear c3
      try clear c3b0
      try clear c3b1
      try clear c3b2
      obtain ⟨x5_1, rfl, HA, HK1, ⟨m1, rfl⟩⟩ := hrel
      cases gk with
      | zero => exact absurd HA.out (by simp [abacistref04_Same.l0])
      | succ k1 =>
        have H := HA.out
        clear HA
        simp only [abacistref04_Same.l0] at H
        by_cases c4 : x5_1 < (l0.length : Int)
        · rw [if_pos c4] at H
          have c4b0 : decide (x5_1 < (l0.length : Int)) = true := decide_eq_true c4
          clear c4
          by_cases c5 : 0 ≤ x5_1
          · rw [if_pos c5] at H
            have c5b0 : decide (0 ≤ x5_1) = true := decide_eq_true c5
            clear c5
            by_cases c6 : x5_1 < (l1.length : Int)
            · rw [if_pos c6] at H
              have c6b0 : decide (x5_1 < (l1.length : Int)) = true := decide_eq_true c6
              clear c6
              by_cases c7 : (rd l0 x5_1) = (rd l1 x5_1)
              · rw [if_pos c7] at H
                have c7b0 : ((rd l0 x5_1) == (rd l1 x5_1)) = true := beq_iff_eq.mpr c7
                have c7b1 : ((rd l0 x5_1) != (rd l1 x5_1)) = false := bne_eq_false_iff_eq.mpr c7
                clear c7
                have H' := Aside0.mk H
                clear H
                have p234 : 0 ≤ (x5_1 : Int) := of_decide_eq_true (by first | (with_reducible assumption) | assumption)
                have q234 : x5_1 < (l0.length : Int) := of_decide_eq_true (by first | (with_reducible assumption) | assumption)
                obtain ⟨ad234, e234, hx234_0⟩ := Kd.at_int HR0.out x5_1 p234 q234
                cases e234
                replace p234 := eq_true p234
                replace q234 := eq_true q234
                have p235 : 0 ≤ (x5_1 : Int) := of_decide_eq_true (by first | (with_reducible assumption) | assumption)
                have q235 : x5_1 < (l1.length : Int) := of_decide_eq_true (by first | (with_reducible assumption) | assumption)
                obtain ⟨ad235, e235, hx235_0⟩ := Kd.at_int HR1.out x5_1 p235 q235
                cases e235
                replace p235 := eq_true p235
                replace q235 := eq_true q235
                go_wp2
                repeat (go_quiet (fail); try go_wp2)
                go_roundg k1
                case measure => have := HK1.out; omega
                case rel => exact ⟨(wrap64 (x5_1 + 1)), (by first | rfl | (simp; done) | (simp [*]; done)), H', ⟨by have := HK1.out; omega⟩, by repeat (first | exact Drawn0.refl _ | apply Drawn0.step)⟩
              · rw [if_neg c7] at H
                have c7b0 : ((rd l0 x5_1) == (rd l1 x5_1)) = false := beq_eq_false_iff_ne.mpr c7
                have c7b1 : ((rd l0 x5_1) != (rd l1 x5_1)) = true := bne_iff_ne.mpr c7
                obtain rfl := Option.some.inj H
                have p234 : 0 ≤ (x5_1 : Int) := of_decide_eq_true (by first | (with_reducible assumption) | assumption)
                have q234 : x5_1 < (l0.length : Int) := of_decide_eq_true (by first | (with_reducible assumption) | assumption)
                obtain ⟨ad234, e234, hx234_0⟩ := Kd.at_int HR0.out x5_1 p234 q234
                cases e234
                replace p234 := eq_true p234
                replace q234 := eq_true q234
                have p235 : 0 ≤ (x5_1 : Int) := of_decide_eq_true (by first | (with_reducible assumption) | assumption)
                have q235 : x5_1 < (l1.length : Int) := of_decide_eq_true (by first | (with_reducible assumption) | assumption)
                obtain ⟨ad235, e235, hx235_0⟩ := Kd.at_int HR1.out x5_1 p235 q235
                cases e235
                replace p235 := eq_true p235
                replace q235 := eq_true q235
                go_wp2
                repeat (go_quiet (fail); try go_wp2)
                go_ret
                exact ⟨by first | rfl | (simp; done) | (simp [*]; done), by repeat (first | exact Drawn0.refl _ | apply Drawn0.step)⟩
            · rw [if_neg c6] at H
              exact absurd H (by simp)
          · rw [if_neg c5] at H
            exact absurd H (by simp)
        · rw [if_neg c4] at H
          have c4b0 : decide (x5_1 < (l0.length : Int)) = false := decide_eq_false c4
          clear c4
          obtain rfl := Option.some.inj H
          go_wp2
          repeat (go_quiet (fail); try go_wp2)
          go_ret
          exact ⟨by first | rfl | (simp; done) | (simp [*]; done), by repeat (first | exact Drawn0.refl _ | apply Drawn0.step)⟩
  · rw [if_neg c3] at H
    have c3b0 : ((l0.length : Int) == (l1.length : Int)) = false := beq_eq_false_iff_ne.mpr c3
    have c3b1 : ((l0.length : Int) != (l1.length : Int)) = true := bne_iff_ne.mpr c3
    have c3b2 : (l0.length == l1.length) = false := by first | simpa using c3 | (simp at c3 ⊢; omega)
    obtain rfl := Option.some.inj H
    go_enter Tryz.func10, Tryz.ntmps10
    go_wp2
    repeat (go_quiet (fail); try go_wp2)
    go_ret
    exact ⟨by first | rfl | (simp; done) | (simp [*]; done), by repeat (first | exact Drawn0.refl _ | apply Drawn0.step)⟩
def gold_Add.f (a0 : Int) (a1 : Int) : Option (Int) := (gold_Of.f a0).bind fun t236 => ((gold_Of.f a1).bind fun t237 => ((wide_Add.f 0 t236 0 t237).bind fun bt238 => ((gold_Reduce.f bt238.1 bt238.2.1).bind fun t242 => (some t242))))
set_option maxHeartbeats 8000000 in
set_option maxRecDepth 100000 in
theorem gold_Add.calls (a0 : Int) (a1 : Int) (r : Int) (w : World) (h : gold_Add.f a0 a1 = some r) :
    Calls Tryz.prog 112 #[.int .u64 a0, .int .u64 a1] w fun e w' => e = .returned (.int .u64 r) ∧ Below w.heap.size w w' := by
  have hu115 := Tryz.underlying115
  have HB := Aside0.mk (Below.refl w.heap.size w)
  have H : ((gold_Of.f a0).bind fun t236 => ((gold_Of.f a1).bind fun t237 => ((wide_Add.f 0 t236 0 t237).bind fun bt238 => ((gold_Reduce.f bt238.1 bt238.2.1).bind fun t242 => (some t242))))) = some r := h
  clear h
  replace H := Option.bind_eq_some_iff.mp H
  obtain ⟨t236, A30, H⟩ := H
  replace H : ((gold_Of.f a1).bind fun t237 => ((wide_Add.f 0 t236 0 t237).bind fun bt238 => ((gold_Reduce.f bt238.1 bt238.2.1).bind fun t242 => (some t242)))) = some r := H
  have A3 := Aside0.mk A30
  clear A30
  replace H := Option.bind_eq_some_iff.mp H
  obtain ⟨t237, A40, H⟩ := H
  replace H : ((wide_Add.f 0 t236 0 t237).bind fun bt238 => ((gold_Reduce.f bt238.1 bt238.2.1).bind fun t242 => (some t242))) = some r := H
  have A4 := Aside0.mk A40
  clear A40
  replace H := Option.bind_eq_some_iff.mp H
  obtain ⟨⟨t238, t239, t240⟩, A50, H⟩ := H
  replace H : ((gold_Reduce.f t238 t239).bind fun t242 => (some t242)) = some r := H
  have A5 := Aside0.mk A50
  clear A50
  replace H := Option.bind_eq_some_iff.mp H
  obtain ⟨t242, A60, H⟩ := H
  replace H : (some t242) = some r := H
  have A6 := Aside0.mk A60
  clear A60
  obtain rfl := Option.some.inj H
  go_enter Tryz.func112, Tryz.ntmps112
  go_wp2_with (first | ((with_reducible refine gate_callee (f := 75) rfl ?_); refine goesL_ (some 9) rfl rfl Tryz.func75 (by kernel_rfl) rfl #[.int .u64 a0] rfl (by (try simp only [List.map_toArray, List.map_cons, List.map_nil]); first | done | rfl | (simp only [List.length_drop, List.length_take]; rfl)) ?_; (with_reducible refine (gold_Of.calls a0 t236 _ A3.out).mono ?_); rintro e w' ⟨rfl, ⟨nd, rfl⟩⟩; refine ⟨_, rfl, ?_⟩) | ((with_reducible refine gate_callee (f := 75) rfl ?_); refine goesL_ (some 12) rfl rfl Tryz.func75 (by kernel_rfl) rfl #[.int .u64 a1] rfl (by (try simp only [List.map_toArray, List.map_cons, List.map_nil]); first | done | rfl | (simp only [List.length_drop, List.length_take]; rfl)) ?_; (with_reducible refine (gold_Of.calls a1 t237 _ A4.out).mono ?_); rintro e w' ⟨rfl, ⟨nd, rfl⟩⟩; refine ⟨_, rfl, ?_⟩) | ((with_reducible refine gate_callee (f := 114) rfl ?_); refine goesL_ (some 14) rfl rfl Tryz.func114 (by kernel_rfl) rfl #[.agg #[.int .u64 0, .int .u64 t236], .agg #[.int .u64 0, .int .u64 t237]] rfl (by (try simp only [List.map_toArray, List.map_cons, List.map_nil]); first | done | rfl | (simp only [List.length_drop, List.length_take]; rfl)) ?_; (with_reducible refine (wide_Add.calls 0 t236 0 t237 t238 t239 t240 _ A5.out).mono ?_); rintro e w7 ⟨rfl, hb⟩; refine ⟨_, rfl, ?_⟩; have n0_ := Aside0.mk (below_step (by repeat (first | (with_reducible first | exact HB.out | apply below_alloc | apply pw_below_drewN | apply below_drew1) | exact HB.out)) hb); clear HB; have HB := n0_; clear n0_; (try clear hb); (try clear hb2); (try clear hk); (try clear hi)) | ((with_reducible refine gate_dst (N := 5) rfl ?_); refine box_event ?hg (N := 5) ?hd (cs := #[.int .u64 0, .int .u64 0]) (t := 115) ?hr ?_; (case hd => rfl); (case hg => rfl); (case hr => first | (go_simp; done) | (go_simp; rfl)); intro gb241 hg w8 hbox hb; have n0_ := Aside0.mk (below_step (by repeat (first | (with_reducible first | exact HB.out | apply below_alloc | apply pw_below_drewN | apply below_drew1) | exact HB.out)) hb); have n1_ := Aside0.mk (hbox); have n2_ := Aside0.mk ((by rw [hg]; exact (below_size (by repeat (first | (with_reducible first | exact HB.out | apply below_alloc | apply pw_below_drewN | apply below_drew1) | exact HB.out))) : w.heap.size ≤ gb241)); have n3_ := Aside0.mk ((by rw [hg]; exact (below_size (by repeat (first | (with_reducible first | exact HB.out | apply below_alloc | apply pw_below_drewN | apply below_drew1) | exact HB.out))) : w.heap.size ≤ gb241)); clear HB; have HB := n0_; have BK241 := n1_; have GW241 := n2_; have GE241 := n3_; clear n0_ n1_ n2_ n3_; clear hb hbox hg; have hcz9_0 : w8.cell? ⟨gb241, 0, none⟩ = some (.int .u64 0) := (blk_cell BK241.out 0).trans rfl; have hcz9_1 : w8.cell? ⟨gb241, 1, none⟩ = some (.int .u64 0) := (blk_cell BK241.out 1).trans rfl; have hfz9_0 := blk_frozen BK241.out 0; have hfz9_1 := blk_frozen BK241.out 1) | ((with_reducible refine gate_callee (f := 82) rfl ?_); refine goesL_ (some 18) rfl rfl Tryz.func82 (by kernel_rfl) rfl #[.agg #[.int .u64 t238, .int .u64 t239]] rfl (by (try simp only [List.map_toArray, List.map_cons, List.map_nil]); first | done | rfl | (simp only [List.length_drop, List.length_take]; rfl)) ?_; (with_reducible refine (gold_Reduce.calls t238 t239 t242 _ A6.out).mono ?_); rintro e w10 ⟨rfl, hb⟩; refine ⟨_, rfl, ?_⟩; have n0_ := Aside0.mk (blk_below (g := gb241) (o := .cells #[.int .u64 t238, .int .u64 t239] 115 (0, 0)) (by (with_reducible repeat (first | refine blk_drewN ?_ _ | refine blk_drew ?_ | refine blk_alloc ?_ _)); refine blk_put (cs := #[.int .u64 t238, .int .u64 0]) ?_ 1 _ rfl; (with_reducible repeat (first | refine blk_drewN ?_ _ | refine blk_drew ?_ | refine blk_alloc ?_ _)); refine blk_put (cs := #[.int .u64 0, .int .u64 0]) ?_ 0 _ rfl; (with_reducible repeat (first | refine blk_drewN ?_ _ | refine blk_drew ?_ | refine blk_alloc ?_ _)); exact BK241.out) hb); have n1_ := Aside0.mk (below_step (by repeat (first | (with_reducible first | exact HB.out | apply below_alloc | apply pw_below_drewN | apply below_drew1 | refine below_set ?_ GE241.out) | exact HB.out)) hb); clear BK241; clear HB; have BK241 := n0_; have HB := n1_; clear n0_ n1_; (try clear hb); (try clear hb2); (try clear hk); (try clear hi)))
  go_ret
  exact ⟨by first | rfl | (simp [errW_none, errW_some] <;> rfl) | (simp [*, errW_none, errW_some] <;> rfl), by repeat (first | (with_reducible first | exact HB.out | apply below_alloc | apply pw_below_drewN | apply below_drew1 | refine below_set ?_ GE241.out) | exact HB.out)⟩
def gold_Sub.f (a0 : Int) (a1 : Int) : Option (Int) := (gold_Neg.f a1).bind fun t243 => ((gold_Add.f a0 t243).bind fun t244 => (some t244))
set_option maxHeartbeats 8000000 in
set_option maxRecDepth 100000 in
theorem gold_Sub.calls (a0 : Int) (a1 : Int) (r : Int) (w : World) (h : gold_Sub.f a0 a1 = some r) :
    Calls Tryz.prog 113 #[.int .u64 a0, .int .u64 a1] w fun e w' => e = .returned (.int .u64 r) ∧ Below w.heap.size w w' := by
  have HB := Aside0.mk (Below.refl w.heap.size w)
  have H : ((gold_Neg.f a1).bind fun t243 => ((gold_Add.f a0 t243).bind fun t244 => (some t244))) = some r := h
  clear h
  replace H := Option.bind_eq_some_iff.mp H
  obtain ⟨t243, A30, H⟩ := H
  replace H : ((gold_Add.f a0 t243).bind fun t244 => (some t244)) = some r := H
  have A3 := Aside0.mk A30
  clear A30
  replace H := Option.bind_eq_some_iff.mp H
  obtain ⟨t244, A40, H⟩ := H
  replace H : (some t244) = some r := H
  have A4 := Aside0.mk A40
  clear A40
  obtain rfl := Option.some.inj H
  go_enter Tryz.func113, Tryz.ntmps113
  go_wp2_with (first | ((with_reducible refine gate_callee (f := 105) rfl ?_); refine goesL_ (some 7) rfl rfl Tryz.func105 (by kernel_rfl) rfl #[.int .u64 a1] rfl (by (try simp only [List.map_toArray, List.map_cons, List.map_nil]); first | done | rfl | (simp only [List.length_drop, List.length_take]; rfl)) ?_; (with_reducible refine (gold_Neg.calls a1 t243 _ A3.out).mono ?_); rintro e w' ⟨rfl, ⟨nd, rfl⟩⟩; refine ⟨_, rfl, ?_⟩) | ((with_reducible refine gate_callee (f := 112) rfl ?_); refine goesL_ (some 8) rfl rfl Tryz.func112 (by kernel_rfl) rfl #[.int .u64 a0, .int .u64 t243] rfl (by (try simp only [List.map_toArray, List.map_cons, List.map_nil]); first | done | rfl | (simp only [List.length_drop, List.length_take]; rfl)) ?_; (with_reducible refine (gold_Add.calls a0 t243 t244 _ A4.out).mono ?_); rintro e w5 ⟨rfl, hb⟩; refine ⟨_, rfl, ?_⟩; have n0_ := Aside0.mk (below_step (by repeat (first | (with_reducible first | exact HB.out | apply below_alloc | apply pw_below_drewN | apply below_drew1) | exact HB.out)) hb); clear HB; have HB := n0_; clear n0_; (try clear hb); (try clear hb2); (try clear hk); (try clear hi)))
  go_ret
  exact ⟨by first | rfl | (simp [errW_none, errW_some] <;> rfl) | (simp [*, errW_none, errW_some] <;> rfl), by repeat (first | (with_reducible first | exact HB.out | apply below_alloc | apply pw_below_drewN | apply below_drew1) | exact HB.out)⟩
end Go.Proofs.YtpnkcjnemoompaaGreatDoor.PFft
end
section
set_option linter.unusedVariables false
set_option linter.unusedSimpArgs false
namespace Go.Proofs.YtpnkcjnemoompaaGreatDoor.Pure
open Go.RowKit Go.Proofs.YtpnkcjnemoompaaGreatDoor Go.Proofs.YtpnkcjnemoompaaGreatDoorW.PrintWords Go.Proofs.YtpnkcjnemoompaaGreatDoorW.PrintLast Go.Proofs.YtpnkcjnemoompaaGreatDoorW.PrintMore
theorem e64 : (2 : Nat) ^ 64 = 18446744073709551616 := by decide
theorem pow_split {i n : Nat} (h : i ≤ n) : 2 ^ n = 2 ^ i * 2 ^ (n - i) := by rw [← Nat.pow_add]; congr 1; omega
theorem pow_mono {i j : Nat} (h : i ≤ j) : 2 ^ i ≤ 2 ^ j := Nat.pow_le_pow_right (n := 2) (by omega) h
theorem wrap_u (n : Int) (h0 : 0 ≤ n) (h : n < 18446744073709551616) : IntKind.u64.wrap n = n := by rw [IntKind.wrap_u64]; omega
theorem wrap_i (n : Int) (h : -9223372036854775808 ≤ n) (h2 : n ≤ 9223372036854775807) : wrap64 n = n := by unfold wrap64; omega
theorem cast_pow (i : Nat) : ((2 : Int) ^ i) = ((2 ^ i : Nat) : Int) := by simp
theorem shr_u (x i : Nat) (h : i ≤ 64) : shr .u64 (x : Int) (i : Int) = ((x / 2 ^ i : Nat) : Int) := by
  unfold shr
  have e : min (i : Int).toNat IntKind.u64.bits = i := by simp [IntKind.bits]; omega
  rw [e, cast_pow, ← Int.natCast_ediv]
theorem shl_u (x i : Nat) (h : i ≤ 64) : shl .u64 (x : Int) (i : Int) = ((x * 2 ^ i % 18446744073709551616 : Nat) : Int) := by
  unfold shl
  have e : min (i : Int).toNat IntKind.u64.bits = i := by simp [IntKind.bits]; omega
  rw [e, cast_pow, ← Int.natCast_mul, IntKind.wrap_u64]
  omega
theorem Ev_if {α : Type} {c : Prop} [Decidable c] {f g : Nat → Option α} {r : α} (hc : c) (h : Ev f r) : Ev (fun n => if c then f n else g n) r := Ev.congr (fun _ => if_pos hc) h
theorem Ev_ifn {α : Type} {c : Prop} [Decidable c] {f g : Nat → Option α} {r : α} (hc : ¬ c) (h : Ev g r) : Ev (fun n => if c then f n else g n) r := Ev.congr (fun _ => if_neg hc) h
theorem Ev_eq {α : Type} {o : Option α} {r : α} (h : o = some r) : Ev (fun _ => o) r := by rw [h]; exact Ev.now _
theorem pow32 {k : Nat} (hk : k ≤ 32) : 2 ^ k ≤ 4294967296 := by
  have h := pow_mono hk
  have e : (2 : Nat) ^ 32 = 4294967296 := by decide
  omega
theorem shl_i (x k : Nat) (hk : k ≤ 63) (h : x * 2 ^ k < 9223372036854775808) : shl .i64 (x : Int) (k : Int) = ((x * 2 ^ k : Nat) : Int) := by
  unfold shl
  have e : min (k : Int).toNat IntKind.i64.bits = k := by simp [IntKind.bits]; omega
  rw [e, cast_pow, ← Int.natCast_mul, IntKind.wrap_i64]
  generalize x * 2 ^ k = y at *
  omega
theorem shl_one (k : Nat) (hk : k ≤ 32) : shl .i64 1 (IntKind.u64.wrap (k : Int)) = ((2 ^ k : Nat) : Int) := by
  have hp := pow32 hk
  rw [wrap_u _ (by omega) (by omega)]
  have h := shl_i 1 k (by omega) (by rw [Nat.one_mul]; generalize 2 ^ k = y at *; omega)
  rw [Nat.one_mul] at h
  exact h
theorem and_i (a b : Nat) (ha : a < 9223372036854775808) (hb : b < 9223372036854775808) : Go.bits .and .i64 (a : Int) (b : Int) = ((a &&& b : Nat) : Int) :=
  (bits_nat .i64 63 (by decide) (fun n h0 h1 => by rw [IntKind.wrap_i64]; omega) a b ha hb).1
end Go.Proofs.YtpnkcjnemoompaaGreatDoor.Pure
end
section
namespace Go.Proofs.YtpnkcjnemoompaaGreatDoor.Fft
set_option linter.unusedVariables false
set_option linter.unusedSimpArgs false
abbrev F := Fin 18446744069414584321
def pw (x : F) : Nat → F
  | 0 => 1
  | n + 1 => pw x n * x
theorem pw_zero (x : F) : pw x 0 = 1 := rfl
theorem pw_succ (x : F) (n : Nat) : pw x (n + 1) = pw x n * x := rfl
theorem pw_one (x : F) : pw x 1 = x := by rw [pw_succ, pw_zero]; grobner
theorem pw_two (x : F) : pw x 2 = x * x := by rw [pw_succ, pw_one]
theorem pw_add (x : F) (n m : Nat) : pw x (n + m) = pw x n * pw x m := by
  induction m with
  | zero => rw [Nat.add_zero, pw_zero]; grobner
  | succ m ih => rw [← Nat.add_assoc, pw_succ, pw_succ, ih]; grobner
theorem pw_mul (x : F) (n m : Nat) : pw x (n * m) = pw (pw x n) m := by
  induction m with
  | zero => rfl
  | succ m ih => rw [Nat.mul_succ, pw_add, pw_succ, ih]
theorem pw_mul' (x : F) (n m : Nat) : pw x (n * m) = pw (pw x m) n := by rw [Nat.mul_comm, pw_mul]
theorem one_pw (n : Nat) : pw 1 n = 1 := by
  induction n with
  | zero => rfl
  | succ n ih => rw [pw_succ, ih]; grobner
theorem mul_pw (x y : F) (n : Nat) : pw (x * y) n = pw x n * pw y n := by
  induction n with
  | zero => rw [pw_zero, pw_zero, pw_zero]; grobner
  | succ n ih => rw [pw_succ, pw_succ, pw_succ, ih]; grobner
theorem pw_comm (x : F) (n m : Nat) : pw (pw x n) m = pw (pw x m) n := by rw [← pw_mul, ← pw_mul']
def sm : Nat → (Nat → F) → F
  | 0, _ => 0
  | n + 1, f => sm n f + f n
theorem sm_zero (f : Nat → F) : sm 0 f = 0 := rfl
theorem sm_succ (n : Nat) (f : Nat → F) : sm (n + 1) f = sm n f + f n := rfl
theorem sm_congr {n : Nat} {f g : Nat → F} (h : ∀ i, i < n → f i = g i) : sm n f = sm n g := by
  induction n with
  | zero => rfl
  | succ n ih => rw [sm_succ, sm_succ, ih (fun i hi => h i (by omega)), h n (by omega)]
theorem sm_none (n : Nat) : sm n (fun _ => 0) = 0 := by
  induction n with
  | zero => rfl
  | succ n ih => rw [sm_succ, ih]; grobner
theorem sm_add (n : Nat) (f g : Nat → F) : sm n (fun i => f i + g i) = sm n f + sm n g := by
  induction n with
  | zero => rw [sm_zero, sm_zero, sm_zero]; grobner
  | succ n ih => rw [sm_succ, sm_succ, sm_succ, ih]; grobner
theorem sm_swap (n m : Nat) (f : Nat → Nat → F) : sm n (fun i => sm m (fun j => f i j)) = sm m (fun j => sm n (fun i => f i j)) := by
  induction n with
  | zero => rw [sm_zero]; exact (sm_none m).symm
  | succ n ih =>
    rw [sm_succ, ih, ← sm_add]
    exact sm_congr fun j _ => rfl
theorem sm_plus (a b : Nat) (f : Nat → F) : sm (a + b) f = sm a f + sm b (fun i => f (a + i)) := by
  induction b with
  | zero => rw [Nat.add_zero, sm_zero]; grobner
  | succ b ih => rw [← Nat.add_assoc, sm_succ, sm_succ, ih]; grobner
theorem sm_rows (n m : Nat) (f : Nat → F) : sm (n * m) f = sm n (fun i => sm m (fun j => f (i * m + j))) := by
  induction n with
  | zero => rw [Nat.zero_mul]; rfl
  | succ n ih => rw [Nat.succ_mul, sm_plus, sm_succ, ih]
theorem sm_one (f : Nat → F) : sm 1 f = f 0 := by rw [sm_succ, sm_zero]; grobner
theorem sm_two (f : Nat → F) : sm 2 f = f 0 + f 1 := by rw [sm_succ, sm_one]
theorem sm_four (f : Nat → F) : sm 4 f = f 0 + f 1 + f 2 + f 3 := by rw [sm_succ, sm_succ, sm_two]
def dft (n : Nat) (w : F) (f : Nat → F) (j : Nat) : F := sm n fun i => f i * pw w (i * j)
theorem dft_congr {n : Nat} {w : F} {f g : Nat → F} (h : ∀ i, i < n → f i = g i) (j : Nat) : dft n w f j = dft n w g j := sm_congr fun i hi => by rw [h i hi]
theorem dft_one (w : F) (f : Nat → F) (j : Nat) : dft 1 w f j = f 0 := by
  unfold dft; rw [sm_one, Nat.zero_mul, pw_zero]; grobner
theorem pw_red {w : F} {n : Nat} (h : pw w n = 1) (a b : Nat) : pw w (a * n + b) = pw w b := by
  rw [pw_add, pw_mul', h, one_pw]; grobner
def crs (a b c d u : F) (r : Nat) : F :=
  if r = 0 then (a + c) + (b + d) else if r = 1 then (a - c) + u * (b - d) else if r = 2 then (a + c) - (b + d) else (a - c) - u * (b - d)
theorem crs_is (a b c d u : F) (hu : u * u = -1) (r : Nat) (hr : r < 4) : crs a b c d u r = a + b * pw u r + c * pw u (2 * r) + d * pw u (3 * r) := by
  have h2 : pw u 2 = -1 := by rw [pw_two, hu]
  have h3 : pw u 3 = -u := by rw [pw_succ, h2]; grobner
  have h4 : pw u 4 = 1 := by rw [pw_succ, h3]; grobner
  have h6 : pw u 6 = -1 := by rw [show 6 = 4 + 2 by rfl, pw_add, h4, h2]; grobner
  have h9 : pw u 9 = u := by rw [show 9 = 4 + (4 + 1) by rfl, pw_add, pw_add, h4, pw_one]; grobner
  rcases (by omega : r = 0 ∨ r = 1 ∨ r = 2 ∨ r = 3) with rfl | rfl | rfl | rfl
  · simp only [crs, if_true, Nat.mul_zero, pw_zero]; grobner
  · simp only [crs, pw_one, Nat.mul_one, h2, h3]
    rw [if_neg (by decide), if_pos trivial]; grobner
  · show crs a b c d u 2 = a + b * pw u 2 + c * pw u 4 + d * pw u 6
    rw [h2, h4, h6]
    show (a + c) - (b + d) = _
    grobner
  · show crs a b c d u 3 = a + b * pw u 3 + c * pw u 6 + d * pw u 9
    rw [h3, h6, h9]
    show (a - c) - u * (b - d) = _
    grobner
theorem quarter_step (n : Nat) (w : F) (hw : pw w (2 * n) = -1) (f : Nat → F) (m r : Nat) (hr : r < 4) :
    dft (4 * n) w f (4 * m + r) = dft n (pw w 4) (fun i => crs (f i) (f (i + n)) (f (i + 2 * n)) (f (i + 3 * n)) (pw w n) r * pw w (i * r)) m := by
  have hu : pw w n * pw w n = -1 := by rw [← pw_add, ← hw]; congr 1; omega
  have h4 : pw w (4 * n) = 1 := by rw [show 4 * n = 2 * n + 2 * n by omega, pw_add, hw]; grobner
  unfold dft
  rw [sm_rows, sm_swap]
  refine sm_congr fun i _ => ?_
  rw [sm_four]
  simp only []
  rw [crs_is _ _ _ _ _ hu r hr]
  have e : ∀ j, pw w ((j * n + i) * (4 * m + r)) = pw w (4 * (i * m)) * pw w (i * r) * pw (pw w n) (j * r) := by
    intro j
    rw [show (j * n + i) * (4 * m + r) = (j * m) * (4 * n) + (4 * (i * m) + (i * r + n * (j * r))) by
      simp only [Nat.add_mul, Nat.mul_add]
      have e1 : j * n * (4 * m) = j * m * (4 * n) := by simp only [Nat.mul_assoc, Nat.mul_left_comm, Nat.mul_comm]
      have e2 : j * n * r = n * (j * r) := by simp only [Nat.mul_assoc, Nat.mul_left_comm, Nat.mul_comm]
      have e3 : i * (4 * m) = 4 * (i * m) := by simp only [Nat.mul_left_comm]
      omega, pw_red h4, pw_add, pw_add, ← pw_mul]
    grobner
  have g0 := e 0
  have g1 := e 1
  have g2 := e 2
  have g3 := e 3
  rw [g0, g1, g2, g3, ← pw_mul w 4 (i * m), Nat.zero_mul, Nat.zero_mul, Nat.zero_add, pw_zero, Nat.one_mul, Nat.one_mul, Nat.add_comm n i, Nat.add_comm (2 * n) i, Nat.add_comm (3 * n) i]
  grobner
theorem half_step (w : F) (hw : w = -1) (f : Nat → F) (j : Nat) (hj : j < 2) : dft 2 w f j = if j = 0 then f 0 + f 1 else f 0 - f 1 := by
  unfold dft
  rw [sm_two]
  rcases (by omega : j = 0 ∨ j = 1) with rfl | rfl
  · rw [if_pos rfl, Nat.mul_zero, pw_zero]; grobner
  · rw [if_neg (by decide), Nat.mul_one, Nat.mul_one, pw_zero, pw_one, hw]; grobner
def Stk (Y : Nat → F) (W : F) (n s : Nat) (x : Nat → F) : Prop := ∀ q, q < s → ∀ m, m < n → Y (q + s * m) = dft n (pw W s) (fun p => x (q + s * p)) m
theorem Stk.first (n : Nat) (W : F) (x : Nat → F) : Stk (fun j => dft n W x j) W n 1 x := by
  intro q hq m _
  obtain rfl : q = 0 := by omega
  show dft n W x (0 + 1 * m) = _
  rw [Nat.zero_add, Nat.one_mul, pw_one]
  exact dft_congr (fun i _ => by rw [Nat.zero_add, Nat.one_mul]) m
theorem Stk.last {Y : Nat → F} {W : F} {s : Nat} {x : Nat → F} (h : Stk Y W 1 s x) (q : Nat) (hq : q < s) : Y q = x q := by
  have := h q hq 0 (by omega)
  rw [dft_one] at this
  simpa using this
theorem Stk.quarter {Y : Nat → F} {W : F} {n s : Nat} {x y : Nat → F} (h : Stk Y W (4 * n) s x) (hW : pw W (s * (2 * n)) = -1) 
    (hy : ∀ q, q < s → ∀ i, i < n → ∀ r, r < 4 → y (q + s * (4 * i + r)) = crs (x (q + s * i)) (x (q + s * (i + n))) (x (q + s * (i + 2 * n))) (x (q + s * (i + 3 * n))) (pw W (s * n)) r * pw W (s * (i * r))) : Stk Y W n (4 * s) y := by
  intro q hq m hm
  have hs : 0 < s := by omega
  have hq1 := Nat.mod_lt q hs
  have hq2 : q / s < 4 := (Nat.div_lt_iff_lt_mul hs).2 (by omega)
  have hqe := Nat.div_add_mod q s
  generalize q % s = a at *
  generalize q / s = r at *
  subst hqe
  rw [show s * r + a + 4 * s * m = a + s * (4 * m + r) by rw [Nat.mul_add]; simp only [Nat.mul_left_comm, Nat.mul_assoc]; omega, h a hq1 (4 * m + r) (by omega), quarter_step n _ (by rw [← pw_mul, hW]) _ m r hq2, ← pw_mul, Nat.mul_comm s 4]
  refine dft_congr (fun i hi => ?_) m
  rw [← pw_mul, ← pw_mul]
  rw [show s * r + a + 4 * s * i = a + s * (4 * i + r) by rw [Nat.mul_add]; simp only [Nat.mul_left_comm, Nat.mul_assoc]; omega, hy a hq1 i hi r hq2]
theorem Stk.half {Y : Nat → F} {W : F} {s : Nat} {x y : Nat → F} (h : Stk Y W 2 s x) (hW : pw W s = -1) (h0 : ∀ q, q < s → y q = x q + x (q + s)) (h1 : ∀ q, q < s → y (q + s) = x q - x (q + s)) : Stk Y W 1 (2 * s) y := by
  intro q hq m hm
  obtain rfl : m = 0 := by omega
  rw [dft_one]
  show Y (q + 2 * s * 0) = y (q + 2 * s * 0)
  rw [Nat.mul_zero, Nat.add_zero]
  by_cases hqs : q < s
  · have := h q hqs 0 (by omega)
    rw [half_step _ hW _ 0 (by omega), if_pos rfl] at this
    simp only [Nat.mul_zero, Nat.add_zero, Nat.mul_one] at this
    rw [this, h0 q hqs]
  · have := h (q - s) (by omega) 1 (by omega)
    rw [half_step _ hW _ 1 (by omega), if_neg (by decide)] at this
    simp only [Nat.mul_zero, Nat.add_zero, Nat.mul_one] at this
    have h1' := h1 (q - s) (by omega)
    rw [show q - s + s = q by omega] at this h1'
    rw [this, h1']
end Go.Proofs.YtpnkcjnemoompaaGreatDoor.Fft
end
section
namespace Go.Proofs.YtpnkcjnemoompaaGreatDoor.Fft
set_option linter.unusedVariables false
set_option linter.unusedSimpArgs false
def pwf : Nat → F → Nat → F
  | 0, _, _ => 1
  | f + 1, x, n => if n = 0 then 1 else if n % 2 = 1 then pwf f (x * x) (n / 2) * x else pwf f (x * x) (n / 2)
theorem pw_sq (x : F) (n : Nat) : pw (x * x) n = pw x (2 * n) := by rw [pw_mul, pw_two]
theorem pwf_is (f : Nat) : ∀ (x : F) (n : Nat), n < 2 ^ f → pwf f x n = pw x n := by
  induction f with
  | zero => intro x n h; obtain rfl : n = 0 := by omega
            rfl
  | succ f ih =>
    intro x n h
    unfold pwf
    by_cases h0 : n = 0
    · rw [if_pos h0, h0]; rfl
    · rw [if_neg h0]
      have hlt : n / 2 < 2 ^ f := by rw [Nat.pow_succ] at h; omega
      by_cases h1 : n % 2 = 1
      · rw [if_pos h1, ih _ _ hlt, pw_sq, ← pw_succ]; congr 1; omega
      · rw [if_neg h1, ih _ _ hlt, pw_sq]; congr 1; omega
def rt (k : Nat) : F := pw 7 (4294967295 * 2 ^ (32 - k))
theorem rt_one : rt 1 = -1 := by
  unfold rt
  rw [← pwf_is 64 7 _ (by decide)]
  decide +kernel
theorem rt_pow (k j : Nat) (hj : j ≤ k) (hk : k ≤ 32) : pw (rt k) (2 ^ j) = rt (k - j) := by
  unfold rt
  rw [← pw_mul, Nat.mul_assoc, ← Nat.pow_add]
  congr 3; omega
theorem rt_zero : rt 0 = 1 := by
  have h := rt_pow 1 1 (by omega) (by omega)
  rw [Nat.sub_self, rt_one] at h
  rw [← h, pw_two]; grobner
def rut (k : Nat) (d : Int) : F := if d = 0 then rt k else pw (rt k) (2 ^ k - 1)
theorem rt_full (k : Nat) (hk : k ≤ 32) : pw (rt k) (2 ^ k) = 1 := by rw [rt_pow k k (Nat.le_refl _) hk, Nat.sub_self, rt_zero]
theorem two_split (k j : Nat) (hj : j ≤ k) : 2 ^ k = 2 ^ (k - j) * 2 ^ j := by rw [← Nat.pow_add]; congr 1; omega
theorem rd_pow (k j : Nat) (d : Int) (hj : j ≤ k) (hk : k ≤ 32) : pw (rut k d) (2 ^ j) = rut (k - j) d := by
  unfold rut
  by_cases h : d = 0
  · rw [if_pos h, if_pos h, rt_pow k j hj hk]
  · rw [if_neg h, if_neg h, pw_comm, rt_pow k j hj hk]
    have hf := rt_full (k - j) (by omega)
    have e : 2 ^ k - 1 = (2 ^ j - 1) * 2 ^ (k - j) + (2 ^ (k - j) - 1) := by
      have h1 := Nat.two_pow_pos j
      have h2 := Nat.two_pow_pos (k - j)
      rw [two_split k j hj, Nat.mul_comm, Nat.sub_mul, Nat.one_mul]
      have h3 : 2 ^ (k - j) ≤ 2 ^ j * 2 ^ (k - j) := Nat.le_mul_of_pos_left _ h1
      omega
    rw [e, pw_red hf]
theorem rd_one (d : Int) : rut 1 d = -1 := by
  unfold rut
  split
  · exact rt_one
  · rw [show 2 ^ 1 - 1 = 1 by rfl, pw_one, rt_one]
theorem rd_half (k : Nat) (d : Int) (h0 : 0 < k) (hk : k ≤ 32) : pw (rut k d) (2 ^ (k - 1)) = -1 := by
  rw [rd_pow k (k - 1) d (by omega) hk, show k - (k - 1) = 1 by omega, rd_one]
theorem rd_back (k : Nat) (hk : k ≤ 32) (d : Int) (hd : d ≠ 0) : rut k d * rut k 0 = 1 := by
  unfold rut
  rw [if_neg hd, if_pos rfl, ← pw_succ, show 2 ^ k - 1 + 1 = 2 ^ k by have := Nat.two_pow_pos k; omega, rt_full k hk]
def hf : F := 9223372034707292161
theorem hf_two : hf * 2 = 1 := by decide +kernel
def shf (k : Nat) : F := pw hf k
theorem shf_is (k : Nat) : shf k * pw 2 k = 1 := by unfold shf; rw [← mul_pw, hf_two, one_pw]
end Go.Proofs.YtpnkcjnemoompaaGreatDoor.Fft
end
section
set_option linter.unusedVariables false
set_option linter.unusedSimpArgs false
namespace Go.Proofs.YtpnkcjnemoompaaGreatDoor.Fft
open Go.RowKit Go.Proofs.YtpnkcjnemoompaaGreatDoor Go.Proofs.YtpnkcjnemoompaaGreatDoor.Pure Go.Proofs.YtpnkcjnemoompaaGreatDoor.PPlan Go.Proofs.YtpnkcjnemoompaaGreatDoor.PFft Go.Proofs.YtpnkcjnemoompaaGreatDoor.Ext Go.Proofs.YtpnkcjnemoompaaGreatDoorW.PrintWords Go.Proofs.YtpnkcjnemoompaaGreatDoorW.PrintLast Go.Proofs.YtpnkcjnemoompaaGreatDoorW.PrintMore
def fo (z : Int) : F := ⟨z.toNat % 18446744069414584321, by omega⟩
def fv (x : F) : Int := ((x.val : Nat) : Int)
theorem fv_range (x : F) : 0 ≤ fv x ∧ fv x < 18446744069414584321 := by
  have := x.isLt
  unfold fv; omega
theorem fo_fv (x : F) : fo (fv x) = x := by
  apply Fin.ext
  show ((x.val : Nat) : Int).toNat % 18446744069414584321 = x.val
  rw [Int.toNat_natCast, Nat.mod_eq_of_lt x.isLt]
theorem fv_fo (z : Int) (h : 0 ≤ z) : fv (fo z) = z % 18446744069414584321 := by
  obtain ⟨n, rfl⟩ := Int.eq_ofNat_of_zero_le h
  show (((n : Int).toNat % 18446744069414584321 : Nat) : Int) = _
  rw [Int.toNat_natCast]; rfl
theorem fv_inj {x y : F} (h : fv x = fv y) : x = y := by rw [← fo_fv x, h, fo_fv]
theorem fv_mul (x y : F) : fv (x * y) = fv x * fv y % 18446744069414584321 := by
  show (((x * y).val : Nat) : Int) = _
  rw [Fin.val_mul]
  show ((x.val * y.val % 18446744069414584321 : Nat) : Int) = _
  rw [Int.natCast_emod, Int.natCast_mul]; rfl
theorem fv_add (x y : F) : fv (x + y) = (fv x + fv y) % 18446744069414584321 := by
  show (((x + y).val : Nat) : Int) = _
  rw [Fin.val_add]
  show (((x.val + y.val) % 18446744069414584321 : Nat) : Int) = _
  rw [Int.natCast_emod, Int.natCast_add]; rfl
theorem fo_mul (a b : Int) (ha : 0 ≤ a) (hb : 0 ≤ b) : fo (a * b) = fo a * fo b := by
  apply fv_inj
  rw [fv_mul, fv_fo _ (Int.mul_nonneg ha hb), fv_fo a ha, fv_fo b hb, ← Int.mul_emod]
theorem fo_add (a b : Int) (ha : 0 ≤ a) (hb : 0 ≤ b) : fo (a + b) = fo a + fo b := by
  apply fv_inj
  rw [fv_add, fv_fo _ (by omega), fv_fo a ha, fv_fo b hb, ← Int.add_emod]
theorem fo_one : fo 1 = 1 := rfl
theorem fv_zero : fv 0 = 0 := rfl
abbrev W64 (a : Int) : Prop := 0 ≤ a ∧ a < 18446744073709551616
theorem fv_w (x : F) : W64 (fv x) := by have := fv_range x; omega
theorem gOf (a : Int) (h : W64 a) : gold_Of.f a = some (fv (fo a)) := by
  rw [fv_fo a h.1]
  unfold gold_Of.f
  split
  · rw [IntKind.wrap_u64]; congr 1; omega
  · congr 1; omega
theorem and_low (x : Nat) (h : x < 18446744073709551616) : Go.bits .and .u64 (x : Int) 4294967295 = ((x % 4294967296 : Nat) : Int) := by
  have e := (bits_nat .u64 64 (by decide) (fun n h0 h1 => by
    rw [show (2 : Int) ^ 64 = 18446744073709551616 by decide] at h1
    rw [IntKind.wrap_u64]; omega) x 4294967295 (by rw [e64]; exact h) (by rw [e64]; decide)).1
  have e2 : x &&& 4294967295 = x % 4294967296 := by
    have := Nat.and_two_pow_sub_one_eq_mod x 32
    simpa using this
  rw [← e2]
  exact e
theorem gReduce (h l : Int) (hh : W64 h) (hl : W64 l) : gold_Reduce.f h l = some ((h * 18446744073709551616 + l) % 18446744069414584321) := by
  obtain ⟨x, rfl⟩ := Int.eq_ofNat_of_zero_le hh.1
  obtain ⟨h0, h1⟩ := hh
  obtain ⟨l0, l1⟩ := hl
  have key : ∀ (t m : Int), 0 ≤ t → t < 18446744073709551616 → 0 ≤ m → m < 18446744073709551616 - 4294967296 → (t + m) % 18446744069414584321 = ((x : Int) * 18446744073709551616 + l) % 18446744069414584321 →
      (if IntKind.u64.wrap (t + m) < m then (gold_Of.f (IntKind.u64.wrap (IntKind.u64.wrap (t + m) + 4294967295))).bind fun t105 => some t105 else (gold_Of.f (IntKind.u64.wrap (t + m))).bind fun t106 => some t106) = some (((x : Int) * 18446744073709551616 + l) % 18446744069414584321) := by
    intro t m t0 t1 m0 m1 he
    rw [← he]
    rw [IntKind.wrap_u64 (t + m)]
    split
    · rw [IntKind.wrap_u64, gOf _ (by omega), Option.bind_some, fv_fo _ (by omega)]
      congr 1; omega
    · rw [gOf _ (by omega), Option.bind_some, fv_fo _ (by omega)]
      congr 1; omega
  unfold gold_Reduce.f
  rw [and_low x (by omega)]
  have em : IntKind.u64.wrap (((x % 4294967296 : Nat) : Int) * 4294967295) = ((x % 4294967296 : Nat) : Int) * 4294967295 := by rw [IntKind.wrap_u64]; omega
  rw [em]
  by_cases c : l < (x : Int) / 4294967296
  · rw [if_pos c]
    have et : IntKind.u64.wrap (IntKind.u64.wrap (l - (x : Int) / 4294967296) - 4294967295) = l - (x : Int) / 4294967296 + 18446744069414584321 := by rw [IntKind.wrap_u64, IntKind.wrap_u64]; omega
    rw [et]
    exact key _ _ (by omega) (by omega) (by omega) (by omega) (by omega)
  · rw [if_neg c]
    have et : IntKind.u64.wrap (l - (x : Int) / 4294967296) = l - (x : Int) / 4294967296 := by rw [IntKind.wrap_u64]; omega
    rw [et]
    exact key _ _ (by omega) (by omega) (by omega) (by omega) (by omega)
theorem gMul (a b : Int) (ha : W64 a) (hb : W64 b) : gold_Mul.f a b = some (fv (fo a * fo b)) := by
  have hab : 0 ≤ a * b := Int.mul_nonneg ha.1 hb.1
  have hlt : a * b < 18446744073709551616 * 18446744073709551616 := by
    have h1 : a * b ≤ a * 18446744073709551616 := Int.mul_le_mul_of_nonneg_left (by omega) ha.1
    have h2 : a * 18446744073709551616 < 18446744073709551616 * 18446744073709551616 := Int.mul_lt_mul_of_pos_right ha.2 (by decide)
    omega
  unfold gold_Mul.f wide_Mul.f bits_Mul64.f
  rw [if_pos (by omega), Option.bind_some, Option.bind_some]
  simp only []
  rw [gReduce _ _ (by omega) (by omega), Option.bind_some, ← fo_mul a b ha.1 hb.1, fv_fo _ hab]
  congr 2
  have := Int.mul_ediv_add_emod (a * b) 18446744073709551616
  omega
theorem gNeg (a : Int) (ha : W64 a) : gold_Neg.f a = some (fv (- fo a)) := by
  unfold gold_Neg.f
  rw [gOf a ha, Option.bind_some]
  have hr := fv_range (fo a)
  have e : fv (- fo a) = if fv (fo a) = 0 then 0 else 18446744069414584321 - fv (fo a) := by
    have h1 : fv (-fo a + fo a) = 0 := by rw [show -fo a + fo a = (0 : F) by grobner]; rfl
    rw [fv_add] at h1
    have hr2 := fv_range (-fo a)
    split <;> omega
  rw [e]
  split
  · rfl
  · rw [IntKind.wrap_u64]; congr 1; omega
theorem gAdd (a b : Int) (ha : W64 a) (hb : W64 b) : gold_Add.f a b = some (fv (fo a + fo b)) := by
  unfold gold_Add.f
  have h1 := fv_range (fo a)
  have h2 := fv_range (fo b)
  rw [gOf a ha, Option.bind_some, gOf b hb, Option.bind_some]
  unfold wide_Add.f
  rw [if_pos (by omega), Option.bind_some]
  simp only []
  rw [gReduce _ _ (by omega) (by omega), Option.bind_some, fv_add]
  congr 1
  generalize fv (fo a) = x at *
  generalize fv (fo b) = y at *
  by_cases q : x + y < 18446744073709551616
  · rw [show (x + y) / 18446744073709551616 = 0 by omega, show (x + y) % 18446744073709551616 = x + y by omega]; omega
  · rw [show (x + y) / 18446744073709551616 = 1 by omega, show (x + y) % 18446744073709551616 = x + y - 18446744073709551616 by omega]; omega
theorem gSub (a b : Int) (ha : W64 a) (hb : W64 b) : gold_Sub.f a b = some (fv (fo a - fo b)) := by
  unfold gold_Sub.f
  rw [gNeg b hb, Option.bind_some, gAdd a _ ha (fv_w _), Option.bind_some, fo_fv]
  congr 2; grobner
theorem rOf (a : Int) (h : 0 ≤ a) : abacistref02_Of.f a = some (fv (fo a)) := by
  unfold abacistref02_Of.f
  rw [fv_fo a h, Int.tmod_eq_emod_of_nonneg h]
theorem rAdd (a b : Int) (ha : 0 ≤ a) (hb : 0 ≤ b) : abacistref02_Add.f a b = some (fv (fo a + fo b)) := by
  have h1 := fv_range (fo a)
  have h2 := fv_range (fo b)
  unfold abacistref02_Add.f
  rw [rOf a ha, Option.bind_some, rOf b hb, Option.bind_some, fv_add]
  have e : IntKind.u64.wrap (18446744069414584321 - fv (fo b)) = 18446744069414584321 - fv (fo b) := by rw [IntKind.wrap_u64]; omega
  rw [e]
  split
  · rw [IntKind.wrap_u64]; congr 1; omega
  · rw [IntKind.wrap_u64]; congr 1; omega
end Go.Proofs.YtpnkcjnemoompaaGreatDoor.Fft
end
section
set_option linter.unusedVariables false
set_option linter.unusedSimpArgs false
namespace Go.Proofs.YtpnkcjnemoompaaGreatDoor.Fft
open Go.RowKit Go.Proofs.YtpnkcjnemoompaaGreatDoor Go.Proofs.YtpnkcjnemoompaaGreatDoor.Pure Go.Proofs.YtpnkcjnemoompaaGreatDoor.PPlan Go.Proofs.YtpnkcjnemoompaaGreatDoor.PFft Go.Proofs.YtpnkcjnemoompaaGreatDoor.Ext Go.Proofs.YtpnkcjnemoompaaGreatDoorW.PrintWords Go.Proofs.YtpnkcjnemoompaaGreatDoorW.PrintLast Go.Proofs.YtpnkcjnemoompaaGreatDoorW.PrintMore
def nf (n : Nat) : F := fo (n : Int)
theorem nf_zero : nf 0 = 0 := rfl
theorem nf_even (n : Nat) : nf (2 * n) = nf n + nf n := by
  unfold nf
  rw [show ((2 * n : Nat) : Int) = (n : Int) + (n : Int) by omega, fo_add _ _ (by omega) (by omega)]
theorem nf_odd (n : Nat) : nf (2 * n + 1) = nf n + nf n + 1 := by
  unfold nf
  rw [show ((2 * n + 1 : Nat) : Int) = ((n : Int) + (n : Int)) + 1 by omega, fo_add _ _ (by omega) (by omega), fo_add _ _ (by omega) (by omega)]; rfl
theorem tdiv2 (b : Nat) (h : b < 18446744073709551616) : IntKind.u64.wrap (Int.tdiv (b : Int) 2) = ((b / 2 : Nat) : Int) := by rw [IntKind.wrap_u64, Int.tdiv_eq_ediv_of_nonneg (by omega)]; omega
theorem tmod2 (b : Nat) : Int.tmod (b : Int) 2 = ((b % 2 : Nat) : Int) := by rw [Int.tmod_eq_emod_of_nonneg (by omega)]; omega
theorem rMul_loop (n : Nat) : ∀ (b : Nat) (A S : F), b < 2 ^ n → b < 18446744073709551616 → Ev (fun k => abacistref02_Mul.l0 k (fv A) (b : Int) (fv S)) (fv (S + A * nf b)) := by
  induction n with
  | zero =>
    intro b A S h _
    obtain rfl : b = 0 := by omega
    refine Ev.step (f := fun _ => some (fv S)) (fun k => ?_) (by rw [nf_zero, show S + A * 0 = S by grobner]; exact Ev.now _)
    simp only [abacistref02_Mul.l0]
    rw [if_neg (by decide)]
  | succ n ih =>
    intro b A S h h64
    by_cases h0 : b = 0
    · subst h0
      refine Ev.step (f := fun _ => some (fv S)) (fun k => ?_) (by rw [nf_zero, show S + A * 0 = S by grobner]; exact Ev.now _)
      simp only [abacistref02_Mul.l0]
      rw [if_neg (by decide)]
    · have hlt : b / 2 < 2 ^ n := by rw [Nat.pow_succ] at h; omega
      have e1 := rAdd (fv A) (fv A) (fv_range A).1 (fv_range A).1
      have e2 := rAdd (fv S) (fv A) (fv_range S).1 (fv_range A).1
      rw [fo_fv] at e1 e2
      rw [fo_fv] at e2
      by_cases hm : b % 2 = 1
      · refine Ev.step (f := fun k => abacistref02_Mul.l0 k (fv (A + A)) ((b / 2 : Nat) : Int) (fv (S + A))) (fun k => ?_) ?_
        · simp only [abacistref02_Mul.l0]
          rw [if_pos (by omega), tmod2, if_pos (by omega), e2, Option.bind_some, e1, Option.bind_some, tdiv2 b h64]
        · have := ih (b / 2) (A + A) (S + A) hlt (by omega)
          rw [show S + A * nf b = S + A + (A + A) * nf (b / 2) by
            obtain ⟨m, rfl⟩ : ∃ m, b = 2 * m + 1 := ⟨b / 2, by omega⟩
            rw [nf_odd, show (2 * m + 1) / 2 = m by omega]; grobner]
          exact this
      · refine Ev.step (f := fun k => abacistref02_Mul.l0 k (fv (A + A)) ((b / 2 : Nat) : Int) (fv S)) (fun k => ?_) ?_
        · simp only [abacistref02_Mul.l0]
          rw [if_pos (by omega), tmod2, if_neg (by omega), e1, Option.bind_some, tdiv2 b h64]
        · have := ih (b / 2) (A + A) S hlt (by omega)
          rw [show S + A * nf b = S + (A + A) * nf (b / 2) by
            obtain ⟨m, rfl⟩ : ∃ m, b = 2 * m := ⟨b / 2, by omega⟩
            rw [nf_even, show 2 * m / 2 = m by omega]; grobner]
          exact this
theorem rMul (a b : Int) (ha : 0 ≤ a) (hb : W64 b) : Ev (fun k => abacistref02_Mul.f k a b) (fv (fo a * fo b)) := by
  obtain ⟨n, rfl⟩ := Int.eq_ofNat_of_zero_le hb.1
  unfold abacistref02_Mul.f
  refine Ev.bind (Ev_eq (rOf a ha)) ?_
  have := rMul_loop 64 n (fo a) 0 (by rw [e64]; omega) (by omega)
  rw [show (0 : F) + fo a * nf n = fo a * fo (n : Int) by unfold nf; grobner] at this
  exact this
theorem rMulF (A B : F) : Ev (fun k => abacistref02_Mul.f k (fv A) (fv B)) (fv (A * B)) := by
  have := rMul (fv A) (fv B) (fv_range A).1 (fv_w B)
  rw [fo_fv, fo_fv] at this
  exact this
theorem rAddF (A B : F) : abacistref02_Add.f (fv A) (fv B) = some (fv (A + B)) := by
  have := rAdd (fv A) (fv B) (fv_range A).1 (fv_range B).1
  rw [fo_fv, fo_fv] at this
  exact this
theorem gMulF (A B : F) : gold_Mul.f (fv A) (fv B) = some (fv (A * B)) := by
  have := gMul (fv A) (fv B) (fv_w A) (fv_w B)
  rw [fo_fv, fo_fv] at this
  exact this
theorem pw_half (A : F) (b : Nat) (S : F) : S * pw A b = if b % 2 = 1 then S * A * pw (A * A) (b / 2) else S * pw (A * A) (b / 2) := by
  split
  · rename_i h
    obtain ⟨m, rfl⟩ : ∃ m, b = 2 * m + 1 := ⟨b / 2, by omega⟩
    rw [show (2 * m + 1) / 2 = m by omega, pw_sq, pw_succ]; grobner
  · rename_i h
    obtain ⟨m, rfl⟩ : ∃ m, b = 2 * m := ⟨b / 2, by omega⟩
    rw [show 2 * m / 2 = m by omega, pw_sq]
theorem rPow_loop (n : Nat) : ∀ (b : Nat) (A S : F), b < 2 ^ n → b < 18446744073709551616 → Ev (fun k => abacistref02_Pow.l0 k (fv A) (b : Int) (fv S)) (fv (S * pw A b)) := by
  induction n with
  | zero =>
    intro b A S h _
    obtain rfl : b = 0 := by omega
    refine Ev.step (f := fun _ => some (fv S)) (fun k => ?_) (by rw [pw_zero, show S * 1 = S by grobner]; exact Ev.now _)
    simp only [abacistref02_Pow.l0]
    rw [if_neg (by decide)]
  | succ n ih =>
    intro b A S h h64
    by_cases h0 : b = 0
    · subst h0
      refine Ev.step (f := fun _ => some (fv S)) (fun k => ?_) (by rw [pw_zero, show S * 1 = S by grobner]; exact Ev.now _)
      simp only [abacistref02_Pow.l0]
      rw [if_neg (by decide)]
    · have hlt : b / 2 < 2 ^ n := by rw [Nat.pow_succ] at h; omega
      rw [pw_half]
      by_cases hm : b % 2 = 1
      · rw [if_pos hm]
        refine Ev.step (f := fun k => (abacistref02_Mul.f k (fv S) (fv A)).bind fun t => (abacistref02_Mul.f k (fv A) (fv A)).bind fun u => abacistref02_Pow.l0 k u ((b / 2 : Nat) : Int) t) (fun k => ?_) (Ev.bind (rMulF S A) (Ev.bind (rMulF A A) (ih (b / 2) (A * A) (S * A) hlt (by omega))))
        simp only [abacistref02_Pow.l0]
        rw [if_pos (by omega), tmod2, if_pos (by omega), tdiv2 b h64]
      · rw [if_neg hm]
        refine Ev.step (f := fun k => (abacistref02_Mul.f k (fv A) (fv A)).bind fun u => abacistref02_Pow.l0 k u ((b / 2 : Nat) : Int) (fv S)) (fun k => ?_) (Ev.bind (rMulF A A) (ih (b / 2) (A * A) S hlt (by omega)))
        simp only [abacistref02_Pow.l0]
        rw [if_pos (by omega), tmod2, if_neg (by omega), tdiv2 b h64]
theorem rPow (a b : Int) (ha : 0 ≤ a) (hb : W64 b) : Ev (fun k => abacistref02_Pow.f k a b) (fv (pw (fo a) b.toNat)) := by
  obtain ⟨n, rfl⟩ := Int.eq_ofNat_of_zero_le hb.1
  unfold abacistref02_Pow.f
  refine Ev.bind (Ev_eq (rOf a ha)) ?_
  have := rPow_loop 64 n (fo a) 1 (by rw [e64]; omega) (by omega)
  rw [show (1 : F) * pw (fo a) n = pw (fo a) n by grobner] at this
  exact this
theorem and_one (b : Nat) (h : b < 18446744073709551616) : Go.bits .and .u64 (b : Int) 1 = ((b % 2 : Nat) : Int) := by
  have e := (bits_nat .u64 64 (by decide) (fun n h0 h1 => by
    rw [show (2 : Int) ^ 64 = 18446744073709551616 by decide] at h1
    rw [IntKind.wrap_u64]; omega) b 1 (by rw [e64]; exact h) (by rw [e64]; decide)).1
  rw [← Nat.and_one_is_mod]
  exact e
theorem gPow_loop (n : Nat) : ∀ (b : Nat) (A S : F), b < 2 ^ n → b < 18446744073709551616 → Ev (fun k => gold_Pow.l0 k (b : Int) (fv S) (fv A)) (fv (S * pw A b)) := by
  induction n with
  | zero =>
    intro b A S h _
    obtain rfl : b = 0 := by omega
    refine Ev.step (f := fun _ => some (fv S)) (fun k => ?_) (by rw [pw_zero, show S * 1 = S by grobner]; exact Ev.now _)
    simp only [gold_Pow.l0]
    rw [if_neg (by decide)]
  | succ n ih =>
    intro b A S h h64
    by_cases h0 : b = 0
    · subst h0
      refine Ev.step (f := fun _ => some (fv S)) (fun k => ?_) (by rw [pw_zero, show S * 1 = S by grobner]; exact Ev.now _)
      simp only [gold_Pow.l0]
      rw [if_neg (by decide)]
    · have hlt : b / 2 < 2 ^ n := by rw [Nat.pow_succ] at h; omega
      have e2 : (b : Int) / 2 = ((b / 2 : Nat) : Int) := by omega
      rw [pw_half]
      by_cases hm : b % 2 = 1
      · rw [if_pos hm]
        refine Ev.step (f := fun k => gold_Pow.l0 k ((b / 2 : Nat) : Int) (fv (S * A)) (fv (A * A))) (fun k => ?_) (ih (b / 2) (A * A) (S * A) hlt (by omega))
        simp only [gold_Pow.l0]
        rw [if_pos (by omega), and_one b h64, if_pos (by omega), gMulF, Option.bind_some, gMulF, Option.bind_some, e2]
      · rw [if_neg hm]
        refine Ev.step (f := fun k => gold_Pow.l0 k ((b / 2 : Nat) : Int) (fv S) (fv (A * A))) (fun k => ?_) (ih (b / 2) (A * A) S hlt (by omega))
        simp only [gold_Pow.l0]
        rw [if_pos (by omega), and_one b h64, if_neg (by omega), gMulF, Option.bind_some, e2]
theorem gPow (a b : Int) (ha : W64 a) (hb : W64 b) : Ev (fun k => gold_Pow.f k a b) (fv (pw (fo a) b.toNat)) := by
  obtain ⟨n, rfl⟩ := Int.eq_ofNat_of_zero_le hb.1
  unfold gold_Pow.f
  refine Ev.bind (Ev_eq (gOf a ha)) ?_
  have := gPow_loop 64 n (fo a) 1 (by rw [e64]; omega) (by omega)
  rw [show (1 : F) * pw (fo a) n = pw (fo a) n by grobner] at this
  exact this
theorem half_pow (k : Nat) (hk : k ≤ 32) : 18446744069414584320 / 2 ^ k = 4294967295 * 2 ^ (32 - k) := by
  have e : (18446744069414584320 : Nat) = 4294967295 * 2 ^ (32 - k) * 2 ^ k := by
    rw [Nat.mul_assoc, ← Nat.pow_add, show 32 - k + k = 32 by omega]
  rw [e, Nat.mul_div_cancel _ (Nat.two_pow_pos k)]
theorem groot (k : Nat) (hk : k ≤ 32) : Ev (fun n => root_root.f n (k : Int)) (fv (rt k)) := by
  unfold root_root.f
  have ew : IntKind.u64.wrap (k : Int) = (k : Int) := by rw [IntKind.wrap_u64]; omega
  rw [ew]
  have es : shr .u64 18446744069414584320 (k : Int) = ((18446744069414584320 / 2 ^ k : Nat) : Int) := shr_u 18446744069414584320 k (by omega)
  rw [es, half_pow k hk]
  have hb : 4294967295 * 2 ^ (32 - k) ≤ 18446744069414584320 := by rw [← half_pow k hk]; exact Nat.div_le_self _ _
  refine Ev_if (by omega) (Ev.bind (gPow 7 _ (by decide) (by omega)) ?_)
  rw [Int.toNat_natCast]
  exact Ev.now _
theorem ggood (k : Nat) (hk : k ≤ 32) : root_good.f (k : Int) = some true := by
  unfold root_good.f
  rw [if_pos (by omega), decide_eq_true (by omega)]
theorem rt_inv (k : Nat) (hk : k ≤ 32) : pw (rt k) 18446744069414584319 = rut k 1 := by
  unfold rut
  rw [if_neg (by decide)]
  have e : (18446744069414584319 : Nat) = (4294967295 * 2 ^ (32 - k) - 1) * 2 ^ k + (2 ^ k - 1) := by
    have hp := Nat.two_pow_pos k
    have hq := Nat.two_pow_pos (32 - k)
    have e : (18446744069414584320 : Nat) = 4294967295 * 2 ^ (32 - k) * 2 ^ k := by
      rw [Nat.mul_assoc, ← Nat.pow_add, show 32 - k + k = 32 by omega]
    rw [Nat.sub_mul, Nat.one_mul, ← e]
    have : 2 ^ k ≤ 4294967295 * 2 ^ (32 - k) * 2 ^ k := Nat.le_mul_of_pos_left _ (by omega)
    omega
  rw [e, pw_red (rt_full k hk)]
theorem rt_ne (k : Nat) (hk : k ≤ 32) : fv (rt k) ≠ 0 := by
  intro h
  have h0 : rt k = 0 := fv_inj (by rw [h, fv_zero])
  have h1 := rd_back k hk 1 (by decide)
  unfold rut at h1
  rw [if_pos rfl, h0] at h1
  have : (0 : F) = 1 := by rw [← h1]; grobner
  exact absurd this (by decide)
theorem gInv (a : Int) (ha : W64 a) (h : fo a ≠ 0) : Ev (fun n => gold_Inv.f n a) (fv (pw (fo a) 18446744069414584319), 0) := by
  unfold gold_Inv.f
  refine Ev.bind (Ev_eq (gOf a ha)) (Ev_ifn (fun h0 => h (fv_inj (by rw [h0, fv_zero]))) (Ev.bind (gPow a 18446744069414584319 ha (by decide)) (Ev.now _)))
theorem gRoot (k : Nat) (hk : k ≤ 32) (d : Int) (hd : d = 0 ∨ d = 1) : Ev (fun n => twid_Root.f n (k : Int) d) (fv (rut k d), 0) := by
  unfold twid_Root.f
  refine Ev_ifn (by omega) ?_
  rw [decide_eq_false (by omega)]
  rcases hd with rfl | rfl
  · refine Ev.step (f := fun n => (root_Root.f n (k : Int)).bind fun b => some (b.1, b.2)) (fun n => ?_) ?_
    · simp only [twid_Root.j0]
      rw [if_neg (by decide), if_pos trivial]
    · refine Ev.bind (a := (fv (rt k), 0)) ?_ (by unfold rut; rw [if_pos rfl]; exact Ev.now _)
      unfold root_Root.f
      exact Ev.bind (Ev_eq (ggood k hk)) (Ev_if rfl (Ev.bind (groot k hk) (Ev.now _)))
  · refine Ev.step (f := fun n => (root_Back.f n (k : Int)).bind fun b => some (b.1, b.2)) (fun n => ?_) ?_
    · simp only [twid_Root.j0]
      rw [if_neg (by decide), if_neg (by decide), if_pos trivial]
    · refine Ev.bind (a := (fv (rut k 1), 0)) ?_ (Ev.now _)
      unfold root_Back.f
      refine Ev.bind (Ev_eq (ggood k hk)) (Ev_if rfl (Ev.bind (groot k hk) (Ev.bind (a := (fv (rut k 1), 0)) ?_ (Ev.now _))))
      have := gInv (fv (rt k)) (fv_w _) (by rw [fo_fv]; intro h; exact rt_ne k hk (by rw [h, fv_zero]))
      rw [fo_fv, rt_inv k hk] at this
      exact this
theorem r3Root_loop (k : Nat) (hk : k ≤ 32) (j : Nat) : ∀ i, i + j = k → Ev (fun n => abacistref03_Root.l0 n (k : Int) ((18446744069414584320 / 2 ^ i : Nat) : Int) (i : Int)) (fv (rt k)) := by
  induction j with
  | zero =>
    intro i h
    obtain rfl : i = k := by omega
    refine Ev.step (f := fun n => (abacistref02_Pow.f n 7 ((18446744069414584320 / 2 ^ i : Nat) : Int)).bind fun t => some t) (fun n => ?_) ?_
    · simp only [abacistref03_Root.l0]
      rw [if_neg (by omega)]
    · rw [half_pow i hk]
      have hb : 4294967295 * 2 ^ (32 - i) ≤ 18446744069414584320 := by rw [← half_pow i hk]; exact Nat.div_le_self _ _
      refine Ev.bind (rPow 7 _ (by decide) (by omega)) ?_
      rw [Int.toNat_natCast]
      exact Ev.now _
  | succ j ih =>
    intro i h
    refine Ev.step (f := fun n => abacistref03_Root.l0 n (k : Int) ((18446744069414584320 / 2 ^ (i + 1) : Nat) : Int) ((i + 1 : Nat) : Int)) (fun n => ?_) (ih (i + 1) (by omega))
    simp only [abacistref03_Root.l0]
    have hle : 18446744069414584320 / 2 ^ i ≤ 18446744069414584320 := Nat.div_le_self _ _
    rw [if_pos (by omega), tdiv2 _ (by omega), Nat.div_div_eq_div_mul, ← Nat.pow_succ, wrap_i _ (by omega) (by omega)]; rfl
theorem r3Root (k : Nat) (hk : k ≤ 32) : Ev (fun n => abacistref03_Root.f n (k : Int)) (fv (rt k)) := r3Root_loop k hk k 0 (by omega)
theorem r8Root_loop (k : Nat) (hk : k ≤ 32) (j : Nat) : ∀ i, i + j = k → Ev (fun n => abacistref08_Root.l0 n (k : Int) (fv (rt k)) ((2 ^ i : Nat) : Int) (i : Int)) (fv (rut k 1)) := by
  induction j with
  | zero =>
    intro i h
    obtain rfl : i = k := by omega
    have hp := pow32 hk
    have hp0 := Nat.two_pow_pos i
    have e1 : IntKind.u64.wrap (((2 ^ i : Nat) : Int) - 1) = ((2 ^ i - 1 : Nat) : Int) := by
      generalize 2 ^ i = y at *
      rw [IntKind.wrap_u64]; omega
    refine Ev.step (f := fun n => (abacistref02_Pow.f n (fv (rt i)) ((2 ^ i - 1 : Nat) : Int)).bind fun t => some t) (fun n => ?_) ?_
    · simp only [abacistref08_Root.l0]
      rw [if_neg (by omega), e1]
    · refine Ev.bind (rPow (fv (rt i)) _ (fv_range _).1 (by generalize 2 ^ i = y at *; omega)) ?_
      rw [Int.toNat_natCast, fo_fv]
      exact Ev.now _
  | succ j ih =>
    intro i h
    have hp := pow32 (k := i + 1) (by omega)
    refine Ev.step (f := fun n => abacistref08_Root.l0 n (k : Int) (fv (rt k)) ((2 ^ (i + 1) : Nat) : Int) ((i + 1 : Nat) : Int)) (fun n => ?_) (ih (i + 1) (by omega))
    simp only [abacistref08_Root.l0]
    have e1 : IntKind.u64.wrap (2 * ((2 ^ i : Nat) : Int)) = ((2 ^ (i + 1) : Nat) : Int) := by
      rw [Nat.pow_succ] at hp ⊢
      generalize 2 ^ i = y at *
      rw [IntKind.wrap_u64]; omega
    rw [if_pos (by omega), e1, wrap_i _ (by omega) (by omega)]; rfl
theorem r8Root (k : Nat) (hk : k ≤ 32) (d : Int) (hd : d = 0 ∨ d = 1) : Ev (fun n => abacistref08_Root.f n (k : Int) d) (fv (rut k d)) := by
  unfold abacistref08_Root.f
  refine Ev.bind (r3Root k hk) ?_
  rcases hd with rfl | rfl
  · exact Ev_if rfl (by unfold rut; rw [if_pos rfl]; exact Ev.now _)
  · exact Ev_ifn (by decide) (r8Root_loop k hk k 0 (by omega))
theorem two_full : pw 2 18446744069414584320 = 1 := by
  rw [← pwf_is 64 2 _ (by decide)]
  decide +kernel
theorem nf_two (k : Nat) : nf (2 ^ k) = pw 2 k := by
  induction k with
  | zero => rfl
  | succ k ih => rw [Nat.pow_succ, Nat.mul_comm, nf_even, ih, pw_succ]; grobner
theorem shf_inv (k : Nat) : pw (pw 2 k) 18446744069414584319 = shf k := by
  have h1 := shf_is k
  have h2 : pw (pw 2 k) 18446744069414584319 * pw 2 k = 1 := by rw [← pw_succ, pw_comm, two_full, one_pw]
  generalize pw (pw 2 k) 18446744069414584319 = a at *
  generalize pw 2 k = b at *
  generalize shf k = c at *
  grobner
theorem gShare (k : Nat) (hk : k ≤ 32) : Ev (fun n => twid_Share.f n (k : Int)) (fv (shf k), 0) := by
  unfold twid_Share.f
  have ew : IntKind.u64.wrap (k : Int) = (k : Int) := by rw [IntKind.wrap_u64]; omega
  rw [ew]
  have hp := pow32 hk
  have es : shl .u64 1 (k : Int) = ((2 ^ k : Nat) : Int) := by
    have := shl_u 1 k (by omega)
    rw [Nat.one_mul, Nat.mod_eq_of_lt (by omega)] at this
    exact this
  rw [es]
  refine Ev_ifn (by omega) (Ev_ifn (by omega) (Ev_if (by omega) (Ev.bind (a := (fv (shf k), 0)) ?_ (Ev.now _))))
  have hn : fo ((2 ^ k : Nat) : Int) = pw 2 k := nf_two k
  have hw : W64 ((2 ^ k : Nat) : Int) := by
    clear hn es
    generalize 2 ^ k = y at *
    omega
  have := gInv ((2 ^ k : Nat) : Int) hw (by
    rw [hn]
    intro h
    have h1 := shf_is k
    rw [h] at h1
    have : (0 : F) = 1 := by rw [← h1]; grobner
    exact absurd this (by decide))
  rw [hn, shf_inv] at this
  exact this
end Go.Proofs.YtpnkcjnemoompaaGreatDoor.Fft
end
section
set_option linter.unusedVariables false
set_option linter.unusedSimpArgs false
namespace Go.Proofs.YtpnkcjnemoompaaGreatDoor.Fft
open Go.RowKit Go.Proofs.YtpnkcjnemoompaaGreatDoor Go.Proofs.YtpnkcjnemoompaaGreatDoor.Pure Go.Proofs.YtpnkcjnemoompaaGreatDoor.PPlan Go.Proofs.YtpnkcjnemoompaaGreatDoor.PFft Go.Proofs.YtpnkcjnemoompaaGreatDoor.Ext Go.Proofs.YtpnkcjnemoompaaGreatDoorW.PrintWords Go.Proofs.YtpnkcjnemoompaaGreatDoorW.PrintLast Go.Proofs.YtpnkcjnemoompaaGreatDoorW.PrintMore
def tb (n : Nat) (f : Nat → F) : List Int := (List.range n).map fun i => fv (f i)
theorem tb_len (n : Nat) (f : Nat → F) : (tb n f).length = n := by simp [tb]
theorem tb_zero (f : Nat → F) : tb 0 f = [] := rfl
theorem tb_succ (n : Nat) (f : Nat → F) : tb (n + 1) f = tb n f ++ [fv (f n)] := by simp [tb, List.range_succ]
theorem tb_congr {n : Nat} {f g : Nat → F} (h : ∀ i, i < n → f i = g i) : tb n f = tb n g := by
  unfold tb
  refine List.map_congr_left fun i hi => ?_
  rw [h i (List.mem_range.1 hi)]
theorem tb_get {n : Nat} (f : Nat → F) {i : Nat} (h : i < n) : (tb n f).getD i 0 = fv (f i) := by
  simp [tb, List.getD, h]
theorem rdn (l : List Int) (i : Nat) : rd l (i : Int) = l.getD i 0 := by unfold rd; rw [Int.toNat_natCast]
def el (l : List Int) (i : Nat) : F := fo (l.getD i 0)
theorem el_tb {n : Nat} (f : Nat → F) {i : Nat} (h : i < n) : el (tb n f) i = f i := by unfold el; rw [tb_get f h, fo_fv]
def Ws (l : List Int) : Prop := ∀ i, W64 (l.getD i 0)
theorem tb_ws (n : Nat) (f : Nat → F) : Ws (tb n f) := by
  intro i
  by_cases h : i < n
  · rw [tb_get f h]; exact fv_w _
  · have : (tb n f)[i]? = none := List.getElem?_eq_none (by rw [tb_len]; omega)
    rw [List.getD_eq_getElem?_getD, this]; decide
theorem Ws.of {l : List Int} (h : ∀ x ∈ l, (Lit.int .u64 x).wf = true) : Ws l := by
  intro i
  by_cases hi : i < l.length
  · have e : l.getD i 0 = l[i] := by simp [List.getD, hi]
    rw [e]
    have := bounds_u64 (h _ (List.getElem_mem hi))
    exact ⟨this.1, by omega⟩
  · have : l[i]? = none := List.getElem?_eq_none (by omega)
    rw [List.getD_eq_getElem?_getD, this]; decide
theorem wsucc (i : Nat) (h : i < 4611686018427387904) : wrap64 ((i : Int) + 1) = ((i + 1 : Nat) : Int) := by rw [wrap_i _ (by omega) (by omega)]; rfl
theorem list_ext {a b : List Int} (hl : a.length = b.length) (h : ∀ i, i < a.length → a.getD i 0 = b.getD i 0) : a = b := by
  apply List.ext_getElem hl
  intro i h1 h2
  have := h i h1
  simpa [List.getD, h1, h2] using this
def fl (n i : Nat) (f : Nat → F) : List Int := tb i f ++ List.replicate (n - i) 0
theorem fl_zero (n : Nat) (f : Nat → F) : fl n 0 f = List.replicate n 0 := by simp [fl, tb_zero]
theorem fl_full (n : Nat) (f : Nat → F) : fl n n f = tb n f := by simp [fl]
theorem fl_len {n i : Nat} (f : Nat → F) (h : i ≤ n) : (fl n i f).length = n := by simp [fl, tb_len]; omega
theorem fl_set {n i : Nat} (f : Nat → F) (h : i < n) (x : Int) (hx : x = fv (f i)) : (fl n i f).set i x = fl n (i + 1) f := by
  unfold fl
  rw [List.set_append_right _ _ (by rw [tb_len]; omega), tb_len, Nat.sub_self, tb_succ, hx]
  obtain ⟨m, hm⟩ : ∃ m, n - i = m + 1 := ⟨n - i - 1, by omega⟩
  rw [hm, show n - (i + 1) = m by omega, List.replicate_succ, List.set_cons_zero]
  simp
theorem rDft_l1 (l : List Int) (hl : Ws l) (w : F) (out : List Int) (g : F) (j : Nat) (hlen : l.length ≤ 1048576) (ho : out.length ≤ 1048576) (r : List Int)
    (h : Ev (fun k => abacistref08_Dft.l0 k l (fv w) (out ++ [fv (sm l.length fun i => el l i * pw g i)]) (fv (g * w)) (wrap64 ((j : Int) + 1))) r) (m : Nat) : ∀ i, i + m = l.length → Ev (fun k => abacistref08_Dft.l1 k l (fv w) out (fv g) (j : Int) (fv (sm i fun i => el l i * pw g i)) (fv (pw g i)) (i : Int)) r := by
  induction m with
  | zero =>
    intro i hi
    obtain rfl : i = l.length := by omega
    refine Ev.step (f := fun k => (abacistref02_Mul.f k (fv g) (fv w)).bind fun t => abacistref08_Dft.l0 k l (fv w) (out ++ [fv (sm l.length fun i => el l i * pw g i)]) t (wrap64 ((j : Int) + 1))) (fun k => ?_) (Ev.bind (rMulF g w) h)
    simp only [abacistref08_Dft.l1]
    rw [if_neg (by omega), if_pos (by omega)]
  | succ m ih =>
    intro i hi
    have hm := rMul (l.getD i 0) (fv (pw g i)) (hl i).1 (fv_w _)
    rw [fo_fv] at hm
    refine Ev.step (f := fun k => (abacistref02_Mul.f k (rd l (i : Int)) (fv (pw g i))).bind fun t => (abacistref02_Add.f (fv (sm i fun i => el l i * pw g i)) t).bind fun u => (abacistref02_Mul.f k (fv (pw g i)) (fv g)).bind fun v => abacistref08_Dft.l1 k l (fv w) out (fv g) (j : Int) u v (wrap64 ((i : Int) + 1))) (fun k => ?_) ?_
    · simp only [abacistref08_Dft.l1]
      rw [if_pos (by omega), if_pos (by omega)]
    · rw [rdn]
      refine Ev.bind hm (Ev.bind (Ev_eq (rAddF _ _)) (Ev.bind (rMulF _ _) ?_))
      rw [wsucc i (by omega)]
      exact ih (i + 1) (by omega)
theorem rDft_l0 (l : List Int) (hl : Ws l) (w : F) (hlen : l.length ≤ 1048576) (m : Nat) : ∀ j, j + m = l.length → Ev (fun k => abacistref08_Dft.l0 k l (fv w) (tb j (dft l.length w (el l))) (fv (pw w j)) (j : Int)) (tb l.length (dft l.length w (el l))) := by
  induction m with
  | zero =>
    intro j hj
    obtain rfl : j = l.length := by omega
    refine Ev.step (f := fun _ => some _) (fun k => ?_) (Ev.now _)
    simp only [abacistref08_Dft.l0]
    rw [if_neg (by omega)]
  | succ m ih =>
    intro j hj
    refine Ev.step (f := fun k => abacistref08_Dft.l1 k l (fv w) (tb j (dft l.length w (el l))) (fv (pw w j)) (j : Int) 0 1 0) (fun k => ?_) ?_
    · simp only [abacistref08_Dft.l0]
      rw [if_pos (by omega)]
    · have h1 := rDft_l1 l hl w (tb j (dft l.length w (el l))) (pw w j) j hlen (by rw [tb_len]; omega) (tb l.length (dft l.length w (el l))) ?_ l.length 0 (by omega)
      · exact h1
      · rw [wsucc j (by omega)]
        have := ih (j + 1) (by omega)
        rw [tb_succ] at this
        have e : dft l.length w (el l) j = sm l.length fun i => el l i * pw (pw w j) i := by
          unfold dft
          exact sm_congr fun i _ => by rw [← pw_mul']
        rw [e] at this
        exact this
theorem rDft (l : List Int) (hl : Ws l) (K : Nat) (hK : K ≤ 32) (d : Int) (hd : d = 0 ∨ d = 1) (hlen : l.length ≤ 1048576) : Ev (fun k => abacistref08_Dft.f k l (K : Int) d) (tb l.length (dft l.length (rut K d) (el l))) := by
  unfold abacistref08_Dft.f
  refine Ev.bind (r8Root K hK d hd) ?_
  exact rDft_l0 l hl (rut K d) hlen l.length 0 (by omega)
def tr (K : Nat) (d : Int) (f : Nat → F) (j : Nat) : F := dft (2 ^ K) (rut K d) f j * (if d = 1 then shf K else 1)
theorem tr_congr {K : Nat} {d : Int} {f g : Nat → F} (h : ∀ i, i < 2 ^ K → f i = g i) (j : Nat) : tr K d f j = tr K d g j := by unfold tr; rw [dft_congr h]
theorem gPowers_l0 (w : F) (n : Nat) (hn : n ≤ 1048576) (m : Nat) : ∀ j, j + m = n → Ev (fun k => root_Powers.l0 k (fv w) (fl n j (pw w)) (fv (pw w j)) (n : Int) (j : Int)) (tb n (pw w), 0) := by
  induction m with
  | zero =>
    intro j hj
    obtain rfl : j = n := by omega
    rw [fl_full]
    refine Ev.step (f := fun _ => some _) (fun k => ?_) (Ev.now _)
    simp only [root_Powers.l0]
    rw [if_neg (by omega)]
  | succ m ih =>
    intro j hj
    refine Ev.step (f := fun k => root_Powers.l0 k (fv w) (fl n (j + 1) (pw w)) (fv (pw w (j + 1))) (n : Int) ((j + 1 : Nat) : Int)) (fun k => ?_) (ih (j + 1) (by omega))
    simp only [root_Powers.l0]
    rw [if_pos (by omega), if_pos (by omega), if_pos (by rw [fl_len _ (by omega)]; omega), gMulF, Option.bind_some, Int.toNat_natCast, fl_set _ (by omega) _ rfl, wsucc j (by omega), pw_succ]
theorem gPowers (w : F) (n : Nat) (hn : n ≤ 1048576) : Ev (fun k => root_Powers.f k (fv w) (n : Int)) (tb n (pw w), 0) := by
  unfold root_Powers.f
  refine Ev_ifn (by omega) ?_
  rw [decide_eq_false (by omega)]
  refine Ev.step (f := fun k => root_Powers.l0 k (fv w) (List.replicate n 0) 1 (n : Int) 0) (fun k => ?_) ?_
  · simp only [root_Powers.j0]
    rw [if_neg (by decide), if_pos (by omega), if_pos (by rw [Int.toNat_natCast]; omega), Option.bind_some, Int.toNat_natCast, List.length_replicate]
  · have := gPowers_l0 w n hn n 0 (by omega)
    rw [fl_zero] at this
    exact this
theorem pow20 {k : Nat} (hk : k ≤ 20) : 2 ^ k ≤ 1048576 := by
  have h := pow_mono hk
  have e : (2 : Nat) ^ 20 = 1048576 := by decide
  omega
theorem gTable (K : Nat) (hK : K ≤ 20) (d : Int) (hd : d = 0 ∨ d = 1) : Ev (fun k => twid_Table.f k (K : Int) d) (tb (max (2 ^ K / 2) 1) (pw (rut K d)), 0) := by
  unfold twid_Table.f
  refine Ev.bind (gRoot K (by omega) d hd) (Ev_if rfl (Ev_ifn (by omega) ?_))
  have hp := pow20 hK
  have ew : IntKind.u64.wrap (K : Int) = (K : Int) := by rw [IntKind.wrap_u64]; omega
  have es := shl_one K (by omega)
  rw [ew] at es ⊢
  rw [es]
  refine Ev_if (by omega) ?_
  have em : mx (((2 ^ K : Nat) : Int) / 2) 1 = ((max (2 ^ K / 2) 1 : Nat) : Int) := by
    clear es
    generalize 2 ^ K = y at *
    unfold mx
    omega
  rw [em]
  exact Ev.bind (gPowers (rut K d) _ (by generalize 2 ^ K = y at *; omega)) (Ev.now _)
theorem gWhole_l0 (K : Nat) (h0 : 0 < K) (hK : K ≤ 20) (d : Int) (m : Nat) : ∀ j, j + m = 2 ^ (K - 1) → Ev (fun k => kern4_whole.l0 k (tb (2 ^ (K - 1) + j) (pw (rut K d))) (tb (2 ^ (K - 1)) (pw (rut K d))) ((2 ^ (K - 1) : Nat) : Int) (j : Int)) (tb (2 ^ K) (pw (rut K d))) := by
  have hp := pow20 (show K - 1 ≤ 20 by omega)
  have e2 : 2 ^ K = 2 ^ (K - 1) + 2 ^ (K - 1) := by rw [← Nat.two_mul, ← Nat.pow_succ']; congr 1; omega
  have hh := rd_half K d h0 (by omega)
  induction m with
  | zero =>
    intro j hj
    obtain rfl : j = 2 ^ (K - 1) := by omega
    rw [← e2]
    refine Ev.step (f := fun _ => some _) (fun k => ?_) (Ev.now _)
    simp only [kern4_whole.l0]
    rw [if_neg (by omega)]
  | succ m ih =>
    intro j hj
    refine Ev.step (f := fun k => kern4_whole.l0 k (tb (2 ^ (K - 1) + (j + 1)) (pw (rut K d))) (tb (2 ^ (K - 1)) (pw (rut K d))) ((2 ^ (K - 1) : Nat) : Int) ((j + 1 : Nat) : Int)) (fun k => ?_) (ih (j + 1) (by omega))
    simp only [kern4_whole.l0]
    have e3 : - pw (rut K d) j = pw (rut K d) (2 ^ (K - 1) + j) := by rw [pw_add, hh]; grobner
    rw [if_pos (by generalize 2 ^ (K - 1) = y at *; omega), if_pos (by omega), tb_len, if_pos (by generalize 2 ^ (K - 1) = y at *; omega), rdn, tb_get _ (by omega), gNeg _ (fv_w _), Option.bind_some, fo_fv, if_pos (by rw [tb_len]; omega), wsucc j (by omega), e3, ← Nat.add_assoc, tb_succ]
theorem gWhole (K : Nat) (hK : K ≤ 20) (d : Int) (hd : d = 0 ∨ d = 1) : Ev (fun k => kern4_whole.f k (K : Int) d) (tb (2 ^ K) (pw (rut K d))) := by
  unfold kern4_whole.f
  have hp := pow20 hK
  refine Ev.bind (gTable K hK d hd) (Ev.bind (Ev_eq rfl) (Ev_if (by
    show ([] : List Int).length + (tb _ _).length < _
    rw [tb_len, List.length_nil]; omega) (Ev.bind (Ev_eq rfl) ?_)))
  show Ev (fun k => if (K : Int) > 0 then kern4_whole.l0 k ([] ++ tb (max (2 ^ K / 2) 1) (pw (rut K d))) (tb (max (2 ^ K / 2) 1) (pw (rut K d))) (((tb (max (2 ^ K / 2) 1) (pw (rut K d))).length : Nat) : Int) 0 else some ([] ++ tb (max (2 ^ K / 2) 1) (pw (rut K d)))) _
  rw [List.nil_append, tb_len]
  by_cases h0 : K = 0
  · subst h0
    refine Ev_ifn (by omega) ?_
    exact Ev.now _
  · refine Ev_if (by omega) ?_
    have em : max (2 ^ K / 2) 1 = 2 ^ (K - 1) := by
      have e2 : 2 ^ K = 2 * 2 ^ (K - 1) := by rw [← Nat.pow_succ']; congr 1; omega
      have hq := Nat.two_pow_pos (K - 1)
      rw [e2, Nat.mul_div_cancel_left _ (by decide)]; omega
    rw [em]
    exact gWhole_l0 K (by omega) hK d (2 ^ (K - 1)) 0 (by omega)
theorem gUnit (d : Int) (hd : d = 0 ∨ d = 1) : Ev (fun k => kern4_Unit.f k d) (fv (rut 2 d), 0) := by
  unfold kern4_Unit.f
  exact Ev.bind (gRoot 2 (by decide) d hd) (Ev.now _)
end Go.Proofs.YtpnkcjnemoompaaGreatDoor.Fft
end
