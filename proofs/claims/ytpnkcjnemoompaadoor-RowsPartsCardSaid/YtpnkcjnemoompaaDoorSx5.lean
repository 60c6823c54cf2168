import Derived.Test.YtpnkcjnemoompaaDoorSx4
import Derived.Test.YtpnkcjnemoompaaDoorProg
import Derived.Below
import Derived.Deep.Draws
import Derived.Deep.AppendLies
import Derived.Maps.AppendAt
import Derived.OwnWalk
import Derived.Laws.BytesArg
import Derived.Laws.MakeOwn
import Derived.Laws.OwnMore
import Derived.Deep.OwnRows
import Derived.Tactics
import Derived.Lib.ConvBytes
import Derived.Laws.Slices
import Derived.WalkKit
import Derived.KernelRfl
import Derived.RowKit3
import Derived.Deep.LoopGhost
import Derived.Deep.QuietTactic
import Derived.BigQuiet
import Derived.WideLaws
import Derived.Deep.DeepCutAuto
import Derived.Deep.CutBlock
import Derived.Deep.RegionHeld3
import Derived.Laws.Rows
import Derived.Lib.AppendStr
import Derived.ArgAppend
import Derived.Laws.IdiomCopy
import Derived.OrdersHeld
import Derived.Laws.BitsLemmas
import Derived.RowKit
import Derived.Shelf.Spec.TrailingZeros
import Derived.Lib.LaidTab
import Derived.Lib.Hide
import Derived.Shelf.Strings.Builder1
import Derived.Shelf.Strings.Builder2
import Derived.Shelf.Strings.OnBuilder
import Derived.Shelf.Strings.BuilderF
import Derived.Shelf.Strings.BuilderK
import Derived.Shelf.Strings.Builder2Cap
import Derived.Shelf.Strconv.Itoa0
import Derived.Shelf.Strconv.Itoa1
import Derived.Shelf.LaysM
import Derived.Shelf.Strconv.Itoa2
import Derived.Shelf.Strconv.Itoa3
import Derived.Shelf.Bits.Mul64
import Derived.Shelf.Strings.BuilderCap
import Derived.Ground.SlgnProg
import Derived.Shelf.SlicesE.Clone
import Derived.Ground.SlgfProg
import Derived.Shelf.SlicesE.IndexFunc
import Derived.Laws.StructEq
import Derived.Shelf.Spec.BitsCarry
import Derived.Laws.CopyOwn
import Derived.Laws.BitsAllLaws
import Derived.OpenShut
import Derived.StillTailTactics
import Derived.Outline
import Derived.RegionTactic
import Derived.ChangeAlike
import Derived.BigRegion
/-! Texts of this claim, joined: PTile, SixB, RowA, SameA, RowB, RowC. -/
section
namespace Go.Proofs.YtpnkcjnemoompaaDoor.PFft
open Go.RowKit Go.Proofs.YtpnkcjnemoompaaDoor.Ext Go.Proofs.YtpnkcjnemoompaaDoor.PPlan Go.Proofs.YtpnkcjnemoompaaDoorW.PrintWords Go.Proofs.YtpnkcjnemoompaaDoorW.PrintLast Go.Proofs.YtpnkcjnemoompaaDoorW.PrintMore
attribute [local go_sem] max2_int min2_int max_two min_two max_three min_three max_four min_four   -- for this text's walks alone
set_option linter.unusedVariables false
set_option linter.unusedSimpArgs false
set_option maxHeartbeats 8000000 in
set_option maxRecDepth 100000 in
theorem twid_Tile.calls (k : Nat) (A0 : Option Addr) (c0 : Nat) (l0 : List Int) (a1_0 : Int) (a1_1 : Int) (a1_2 : Int) (a1_3 : Int) (a2 : Int) (a3 : Int) (r1 : List Int) (r2 : Int) (w : World) (hr0 : Kd.C (Kd.int .u64) w A0 l0.length l0) (hc0 : l0.length ≤ c0) (h : twid_Tile.f k l0 a1_0 a1_1 a1_2 a1_3 a2 a3 = some (r1, r2)) (hT : TabOK w) :
    Calls Tryd.prog 88 #[.slice A0 l0.length c0, .agg #[.int .i64 a1_0, .int .i64 a1_1, .int .i64 a1_2, .int .i64 a1_3], .int .i64 a2, .int .i64 a3] w fun e w' => ∃ v0_ : Value, e = .returned (.tuple #[v0_, .int .i64 r2]) ∧ Kd.R (Kd.int .u64) 45 w' w.heap.size (fun _ => True) v0_ r1 ∧ Below w.heap.size w w' := by
  have hu116 := Tryd.underlying116
  have hu23 := Tryd.underlying23
  have HR0 := Aside0.mk hr0
  have HC0 := Aside0.mk hc0
  clear hr0 hc0
  have HB := Aside0.mk (Below.refl w.heap.size w)
  have H : ((twid_Root.f k a2 a3).bind fun bt121 => (if bt121.2 = 0 then ((shape_Good.f a1_0 a1_1).bind fun t123 => (if t123 = true then (twid_Tile.j0 k l0 bt121.1 ((l0.length : Int) != (wrap64 (a1_0 * a1_1))) a1_0 a1_1 a1_2 a1_3) else (twid_Tile.j0 k l0 bt121.1 true a1_0 a1_1 a1_2 a1_3))) else (some (([] : List Int), bt121.2)))) = some (r1, r2) := h
  clear h
  replace H := Option.bind_eq_some_iff.mp H
  obtain ⟨⟨t121, t122⟩, A50, H⟩ := H
  replace H : (if t122 = 0 then ((shape_Good.f a1_0 a1_1).bind fun t123 => (if t123 = true then (twid_Tile.j0 k l0 t121 ((l0.length : Int) != (wrap64 (a1_0 * a1_1))) a1_0 a1_1 a1_2 a1_3) else (twid_Tile.j0 k l0 t121 true a1_0 a1_1 a1_2 a1_3))) else (some (([] : List Int), t122))) = some (r1, r2) := H
  have A5 := Aside0.mk A50
  clear A50
  by_cases c6 : t122 = 0
  · rw [if_pos c6] at H
    have c6b0 : (t122 == 0) = true := beq_iff_eq.mpr c6
    have c6b1 : (t122 != 0) = false := bne_eq_false_iff_eq.mpr c6
    clear c6
    have HC7 := Aside0.mk H
    clear H
    go_enter Tryd.func88, Tryd.ntmps88
    go_upto_region 4 with (first | ((with_reducible refine gate_dst (N := 5) rfl ?_); (try (refine gate_guard (by rfl) ?_; dsimp only)); refine box_event ?hg (N := 5) ?hd (cs := #[.int .i64 a1_0, .int .i64 a1_1, .int .i64 a1_2, .int .i64 a1_3]) (t := 116) ?hr ?_; (case hd => rfl); (case hg => rfl); (case hr => first | (go_simp; done) | (go_simp; rfl)); intro gb120 hg w8 hbox hb; have n0_ := Aside0.mk (below_step (by repeat (first | (with_reducible first | exact HB.out | apply below_alloc | apply pw_below_drewN | apply below_drew1) | exact HB.out)) hb); have n1_ := Aside0.mk (hbox); have n2_ := Aside0.mk ((by rw [hg]; exact (below_size (by repeat (first | (with_reducible first | exact HB.out | apply below_alloc | apply pw_below_drewN | apply below_drew1) | exact HB.out))) : w.heap.size ≤ gb120)); have n3_ := Aside0.mk ((by rw [hg]; exact (below_size (by repeat (first | (with_reducible first | exact HB.out | apply below_alloc | apply pw_below_drewN | apply below_drew1) | exact HB.out))) : w.heap.size ≤ gb120)); clear HB; have HB := n0_; have BK120 := n1_; have GW120 := n2_; have GE120 := n3_; clear n0_ n1_ n2_ n3_; clear hb hbox hg) | ((with_reducible refine gate_callee (f := 119) rfl ?_); refine goesL_ (some 21) rfl rfl Tryd.func119 (by kernel_rfl) rfl #[.int .i64 a2, .int .i64 a3] rfl (by (try simp only [List.map_toArray, List.map_cons, List.map_nil]); first | done | rfl | (simp only [List.length_drop, List.length_take]; rfl)) ?_; (with_reducible refine (twid_Root.calls k a2 a3 t121 t122 _ A5.out).mono ?_); rintro e w9 ⟨rfl, hb⟩; refine ⟨_, rfl, ?_⟩; have n0_ := Aside0.mk (blk_below (g := gb120) (o := .cells #[.int .i64 a1_0, .int .i64 a1_1, .int .i64 a1_2, .int .i64 a1_3] 116 (0, 0)) (by (with_reducible repeat (first | refine blk_drewN ?_ _ | refine blk_drew ?_ | refine blk_alloc ?_ _)); exact BK120.out) hb); have n1_ := Aside0.mk (below_step (by repeat (first | (with_reducible first | exact HB.out | apply below_alloc | apply pw_below_drewN | apply below_drew1 | refine below_set ?_ GE120.out) | exact HB.out)) hb); clear BK120; clear HB; have BK120 := n0_; have HB := n1_; clear n0_ n1_; (try clear hb); (try clear hb2); (try clear hk); (try clear hi)))
    (try simp only [Act.put, List.setIfInBounds_toArray, List.set_cons_zero, List.set_cons_succ])
    go_cut [28] (fun v28 wc => ∃ (kq : Nat) (x28_6 : Bool), v28 = .bool x28_6 ∧ Aside0 (twid_Tile.j0 kq l0 t121 x28_6 a1_0 a1_1 a1_2 a1_3 = some (r1, r2)) ∧ Aside0 (kq ≤ k) ∧ Aside0 (wc.heap[gb120]? = some (.cells #[.int .i64 a1_0, .int .i64 a1_1, .int .i64 a1_2, .int .i64 a1_3] 116 (0, 0))) ∧ Aside0 (Below w.heap.size w wc))
    case first =>
      have H := HC7.out
      clear HC7
      replace H := Option.bind_eq_some_iff.mp H
      obtain ⟨t123, A100, H⟩ := H
      replace H : (if t123 = true then (twid_Tile.j0 k l0 t121 ((l0.length : Int) != (wrap64 (a1_0 * a1_1))) a1_0 a1_1 a1_2 a1_3) else (twid_Tile.j0 k l0 t121 true a1_0 a1_1 a1_2 a1_3)) = some (r1, r2) := H
      have A10 := Aside0.mk A100
      clear A100
      by_cases c11 : t123 = true
      · subst c11
        have H1 : (twid_Tile.j0 k l0 t121 ((l0.length : Int) != (wrap64 (a1_0 * a1_1))) a1_0 a1_1 a1_2 a1_3) = some (r1, r2) := by rw [if_pos rfl] at H; exact H
        clear H
        have H := H1
        clear H1
        have H' := Aside0.mk H
        clear H
        have hcz12_0 : w9.cell? ⟨gb120, 0, none⟩ = some (.int .i64 a1_0) := (blk_cell BK120.out 0).trans rfl
        have hcz12_1 : w9.cell? ⟨gb120, 1, none⟩ = some (.int .i64 a1_1) := (blk_cell BK120.out 1).trans rfl
        have hcz12_2 : w9.cell? ⟨gb120, 2, none⟩ = some (.int .i64 a1_2) := (blk_cell BK120.out 2).trans rfl
        have hcz12_3 : w9.cell? ⟨gb120, 3, none⟩ = some (.int .i64 a1_3) := (blk_cell BK120.out 3).trans rfl
        have hfz12_0 := blk_frozen BK120.out 0
        have hfz12_1 := blk_frozen BK120.out 1
        have hfz12_2 := blk_frozen BK120.out 2
        have hfz12_3 := blk_frozen BK120.out 3
        go_wp2_with (first | ((with_reducible refine gate_callee (f := 68) rfl ?_); refine goesL_ (some 31) rfl rfl Tryd.func68 (by kernel_rfl) rfl #[.agg #[.int .i64 a1_0, .int .i64 a1_1]] rfl (by (try simp only [List.map_toArray, List.map_cons, List.map_nil]); first | done | rfl | (simp only [List.length_drop, List.length_take]; rfl)) ?_; (with_reducible refine (shape_Good.calls a1_0 a1_1 true _ A10.out (TabOK.below hT (by repeat (first | (with_reducible first | exact HB.out | apply below_alloc | apply pw_below_drewN | apply below_drew1 | refine below_set ?_ GE120.out) | exact HB.out)))).mono ?_); rintro e w13 ⟨rfl, hb⟩; refine ⟨_, rfl, ?_⟩; have n0_ := Aside0.mk (blk_below (g := gb120) (o := .cells #[.int .i64 a1_0, .int .i64 a1_1, .int .i64 a1_2, .int .i64 a1_3] 116 (0, 0)) (by (with_reducible repeat (first | refine blk_drewN ?_ _ | refine blk_drew ?_ | refine blk_alloc ?_ _)); exact BK120.out) hb); have n1_ := Aside0.mk (below_step (by repeat (first | (with_reducible first | exact HB.out | apply below_alloc | apply pw_below_drewN | apply below_drew1 | refine below_set ?_ GE120.out) | exact HB.out)) hb); clear BK120; clear HB; have BK120 := n0_; have HB := n1_; clear n0_ n1_; (try clear hb); (try clear hb2); (try clear hk); (try clear hi); have hcz14_0 : w13.cell? ⟨gb120, 0, none⟩ = some (.int .i64 a1_0) := (blk_cell BK120.out 0).trans rfl; have hcz14_1 : w13.cell? ⟨gb120, 1, none⟩ = some (.int .i64 a1_1) := (blk_cell BK120.out 1).trans rfl; have hcz14_2 : w13.cell? ⟨gb120, 2, none⟩ = some (.int .i64 a1_2) := (blk_cell BK120.out 2).trans rfl; have hcz14_3 : w13.cell? ⟨gb120, 3, none⟩ = some (.int .i64 a1_3) := (blk_cell BK120.out 3).trans rfl; have hfz14_0 := blk_frozen BK120.out 0; have hfz14_1 := blk_frozen BK120.out 1; have hfz14_2 := blk_frozen BK120.out 2; have hfz14_3 := blk_frozen BK120.out 3))
        go_meet
        case rel => exact ⟨_, (((l0.length : Int) != (wrap64 (a1_0 * a1_1)))), (by first | rfl | (simp; done) | (simp [*]; done)), H', ⟨by first | omega | exact Nat.le_refl _⟩, ⟨by (with_reducible repeat (first | refine blk_drewN ?_ _ | refine blk_drew ?_ | refine blk_alloc ?_ _)); exact BK120.out⟩, ⟨by repeat (first | (with_reducible first | exact HB.out | apply below_alloc | apply pw_below_drewN | apply below_drew1 | refine below_set ?_ GE120.out) | exact HB.out)⟩⟩
      · replace c11 := Bool.eq_false_iff.mpr c11
        subst c11
        have H1 : (twid_Tile.j0 k l0 t121 true a1_0 a1_1 a1_2 a1_3) = some (r1, r2) := by rw [if_neg (show ¬ (false = true) by decide)] at H; exact H
        clear H
        have H := H1
        clear H1
        have H' := Aside0.mk H
        clear H
        have hcz15_0 : w9.cell? ⟨gb120, 0, none⟩ = some (.int .i64 a1_0) := (blk_cell BK120.out 0).trans rfl
        have hcz15_1 : w9.cell? ⟨gb120, 1, none⟩ = some (.int .i64 a1_1) := (blk_cell BK120.out 1).trans rfl
        have hcz15_2 : w9.cell? ⟨gb120, 2, none⟩ = some (.int .i64 a1_2) := (blk_cell BK120.out 2).trans rfl
        have hcz15_3 : w9.cell? ⟨gb120, 3, none⟩ = some (.int .i64 a1_3) := (blk_cell BK120.out 3).trans rfl
        have hfz15_0 := blk_frozen BK120.out 0
        have hfz15_1 := blk_frozen BK120.out 1
        have hfz15_2 := blk_frozen BK120.out 2
        have hfz15_3 := blk_frozen BK120.out 3
        go_wp2_with (first | ((with_reducible refine gate_callee (f := 68) rfl ?_); refine goesL_ (some 31) rfl rfl Tryd.func68 (by kernel_rfl) rfl #[.agg #[.int .i64 a1_0, .int .i64 a1_1]] rfl (by (try simp only [List.map_toArray, List.map_cons, List.map_nil]); first | done | rfl | (simp only [List.length_drop, List.length_take]; rfl)) ?_; (with_reducible refine (shape_Good.calls a1_0 a1_1 false _ A10.out (TabOK.below hT (by repeat (first | (with_reducible first | exact HB.out | apply below_alloc | apply pw_below_drewN | apply below_drew1 | refine below_set ?_ GE120.out) | exact HB.out)))).mono ?_); rintro e w16 ⟨rfl, hb⟩; refine ⟨_, rfl, ?_⟩; have n0_ := Aside0.mk (blk_below (g := gb120) (o := .cells #[.int .i64 a1_0, .int .i64 a1_1, .int .i64 a1_2, .int .i64 a1_3] 116 (0, 0)) (by (with_reducible repeat (first | refine blk_drewN ?_ _ | refine blk_drew ?_ | refine blk_alloc ?_ _)); exact BK120.out) hb); have n1_ := Aside0.mk (below_step (by repeat (first | (with_reducible first | exact HB.out | apply below_alloc | apply pw_below_drewN | apply below_drew1 | refine below_set ?_ GE120.out) | exact HB.out)) hb); clear BK120; clear HB; have BK120 := n0_; have HB := n1_; clear n0_ n1_; (try clear hb); (try clear hb2); (try clear hk); (try clear hi)))
        go_meet
        case rel => exact ⟨_, (true), (by first | rfl | (simp; done) | (simp [*]; done)), H', ⟨by first | omega | exact Nat.le_refl _⟩, ⟨by (with_reducible repeat (first | refine blk_drewN ?_ _ | refine blk_drew ?_ | refine blk_alloc ?_ _)); exact BK120.out⟩, ⟨by repeat (first | (with_reducible first | exact HB.out | apply below_alloc | apply pw_below_drewN | apply below_drew1 | refine below_set ?_ GE120.out) | exact HB.out)⟩⟩
    case rest =>
      clear HC7
      try clear c1
      try clear p2
      try clear c6
      try clear c6b0
      try clear c6b1
      try clear p6
      try clear c8
      try clear c11
      try clear hcz12_0
      try clear hcz12_1
      try clear hcz12_2
      try clear hcz12_3
      try clear hcz14_0
      try clear hcz14_1
      try clear hcz14_2
      try clear hcz14_3
      try clear hcz15_0
      try clear hcz15_1
      try clear hcz15_2
      try clear hcz15_3
      try clear hfz12_0
      try clear hfz12_1
      try clear hfz12_2
      try clear hfz12_3
      try clear hfz14_0
      try clear hfz14_1
      try clear hfz14_2
      try clear hfz14_3
      try clear hfz15_0
      try clear hfz15_1
      try clear hfz15_2
      try clear hfz15_3
      obtain ⟨kq, x28_6, rfl, HA, HJ6, BK120, HB⟩ := hcut
      cases kq with
      | zero => exact absurd HA.out (by simp [twid_Tile.j0])
      | succ kj6 =>
        have H := HA.out
        clear HA
        simp only [twid_Tile.j0] at H
        by_cases c17 : x28_6 = true
        · subst c17
          have H1 : (some (([] : List Int), 19)) = some (r1, r2) := by rw [if_pos rfl] at H; exact H
          clear H
          have H := H1
          clear H1
          simp only [Option.some.injEq, Prod.mk.injEq] at H
          obtain ⟨rfl, rfl⟩ := H
          go_wp2
          go_ret2
          exact ⟨_, by first | rfl | (simp [errW_none, errW_some] <;> rfl) | (simp [*, errW_none, errW_some] <;> rfl), by first | exact Kd.R_nil _ _ _ _ _ | exact Kd.N_nil _ _ _ _ _ | exact Kd.V_nil _ _ _ _ _ | exact Kd.Q_nil _ _ _ _ _ | exact Kd.S_nil _ _ _ _ _, by repeat (first | (with_reducible first | exact HB.out | apply below_alloc | apply pw_below_drewN | apply below_drew1 | refine below_set ?_ GE120.out) | exact HB.out)⟩
        · replace c17 := Bool.eq_false_iff.mpr c17
          subst c17
          have H1 : ((twid_reaches.f a1_0 a1_1 a1_2 a1_3).bind fun t124 => (if t124 = true then (if 0 ≤ (l0.length : Int) then (if ((l0.length : Int) : Int).toNat ≤ 35184372088832 then (twid_Tile.l0 kj6 l0 t121 (([] : List Int)) a1_0 0 a1_0 a1_1 a1_2 a1_3) else (none)) else (none)) else (some (([] : List Int), 2)))) = some (r1, r2) := by rw [if_neg (show ¬ (false = true) by decide)] at H; exact H
          clear H
          have H := H1
          clear H1
          replace H := Option.bind_eq_some_iff.mp H
          obtain ⟨t124, A180, H⟩ := H
          replace H : (if t124 = true then (if 0 ≤ (l0.length : Int) then (if ((l0.length : Int) : Int).toNat ≤ 35184372088832 then (twid_Tile.l0 kj6 l0 t121 (([] : List Int)) a1_0 0 a1_0 a1_1 a1_2 a1_3) else (none)) else (none)) else (some (([] : List Int), 2))) = some (r1, r2) := H
          have A18 := Aside0.mk A180
          clear A180
          by_cases c19 : t124 = true
          · subst c19
            have H1 : (if 0 ≤ (l0.length : Int) then (if ((l0.length : Int) : Int).toNat ≤ 35184372088832 then (twid_Tile.l0 kj6 l0 t121 (([] : List Int)) a1_0 0 a1_0 a1_1 a1_2 a1_3) else (none)) else (none)) = some (r1, r2) := by rw [if_pos rfl] at H; exact H
            clear H
            have H := H1
            clear H1
            by_cases c20 : 0 ≤ (l0.length : Int)
            · rw [if_pos c20] at H
              have c20b0 := eq_true c20
              have c20b1 : decide (0 ≤ (l0.length : Int)) = true := decide_eq_true c20
              clear c20
              by_cases c21 : ((l0.length : Int) : Int).toNat ≤ 35184372088832
              · rw [if_pos c21] at H
                have c21b0 := eq_true c21
                have c21b1 : decide (((l0.length : Int) : Int).toNat ≤ 35184372088832) = true := decide_eq_true c21
                clear c21
                obtain ⟨y125, hy125⟩ : ∃ y_ : List Int, y_ = (([] : List Int)) := ⟨_, rfl⟩
                replace H : (twid_Tile.l0 kj6 l0 t121 y125 a1_0 0 a1_0 a1_1 a1_2 a1_3) = some (r1, r2) := by first | (rw [hy125]; with_reducible exact H) | (have H2_ := (Option.bind_some _ _).symm.trans H; rw [hy125]; with_reducible exact H2_) | (have H2_ := (Option.bind_some _ _).symm.trans H; with_reducible exact H2_) | with_reducible exact H | (rw [hy125]; exact H) | exact H
                have Ny125 := Aside0.mk hy125
                clear hy125
                have H' := Aside0.mk H
                clear H
                have hcz22_0 : wc.cell? ⟨gb120, 0, none⟩ = some (.int .i64 a1_0) := (blk_cell BK120.out 0).trans rfl
                have hcz22_1 : wc.cell? ⟨gb120, 1, none⟩ = some (.int .i64 a1_1) := (blk_cell BK120.out 1).trans rfl
                have hcz22_2 : wc.cell? ⟨gb120, 2, none⟩ = some (.int .i64 a1_2) := (blk_cell BK120.out 2).trans rfl
                have hcz22_3 : wc.cell? ⟨gb120, 3, none⟩ = some (.int .i64 a1_3) := (blk_cell BK120.out 3).trans rfl
                have hfz22_0 := blk_frozen BK120.out 0
                have hfz22_1 := blk_frozen BK120.out 1
                have hfz22_2 := blk_frozen BK120.out 2
                have hfz22_3 := blk_frozen BK120.out 3
                go_wp2_with (first | ((with_reducible refine gate_callee (f := 120) rfl ?_); refine goesL_ (some 47) rfl rfl Tryd.func120 (by kernel_rfl) rfl #[.agg #[.int .i64 a1_0, .int .i64 a1_1, .int .i64 a1_2, .int .i64 a1_3]] rfl (by (try simp only [List.map_toArray, List.map_cons, List.map_nil]); first | done | rfl | (simp only [List.length_drop, List.length_take]; rfl)) ?_; (with_reducible refine (twid_reaches.calls a1_0 a1_1 a1_2 a1_3 true _ A18.out).mono ?_); rintro e w23 ⟨rfl, hb⟩; refine ⟨_, rfl, ?_⟩; have n0_ := Aside0.mk (blk_below (g := gb120) (o := .cells #[.int .i64 a1_0, .int .i64 a1_1, .int .i64 a1_2, .int .i64 a1_3] 116 (0, 0)) (by (with_reducible repeat (first | refine blk_drewN ?_ _ | refine blk_drew ?_ | refine blk_alloc ?_ _)); exact BK120.out) hb); have n1_ := Aside0.mk (below_step (by repeat (first | (with_reducible first | exact HB.out | apply below_alloc | apply pw_below_drewN | apply below_drew1 | refine below_set ?_ GE120.out) | exact HB.out)) hb); clear BK120; clear HB; have BK120 := n0_; have HB := n1_; clear n0_ n1_; (try clear hb); (try clear hb2); (try clear hk); (try clear hi)) | ((with_reducible refine gate_dst (N := 51) rfl ?_); (try (refine gate_guard (by rfl) ?_; dsimp only)); refine KdR_makecap (Kd.int .u64) _ 45 rfl (N := 51) rfl 24 _ _ rfl (l0.length : Int) rfl rfl Tryd.underlying24 (.int .u64 0) 8 info45 rfl (by decide) (by omega) 0 (ok := fun _ => True) (okp := fun _ => True) rfl (fun _ hk => hk) trivial (of_decide_eq_true (by first | (with_reducible assumption) | assumption)) (Nat.le_trans (Nat.mul_le_mul_right _ (of_decide_eq_true (by first | (with_reducible assumption) | assumption) : (l0.length : Int).toNat ≤ 35184372088832)) (by omega)) (Below.refl _ _) (Nat.le_refl _) ?_; intro v126 w24 ho25 hb hg_ hnew_; clear hg_ hnew_; (first | rw [← Ny125.out] at ho25 | (simp only [Int.reduceToNat] at ho25; rw [← Ny125.out] at ho25)); have n0_ := Aside0.mk (Kd.R_lower ho25 (below_size (by repeat (first | (with_reducible first | exact HB.out | apply below_alloc | apply pw_below_drewN | apply below_drew1 | refine below_set ?_ GE120.out) | exact HB.out)))); have n1_ := Aside0.mk (blk_below (g := gb120) (o := .cells #[.int .i64 a1_0, .int .i64 a1_1, .int .i64 a1_2, .int .i64 a1_3] 116 (0, 0)) (by (with_reducible repeat (first | refine blk_drewN ?_ _ | refine blk_drew ?_ | refine blk_alloc ?_ _)); exact BK120.out) hb); have n2_ := Aside0.mk (below_step (by repeat (first | (with_reducible first | exact HB.out | apply below_alloc | apply pw_below_drewN | apply below_drew1 | refine below_set ?_ GE120.out) | exact HB.out)) hb); clear BK120; clear HB; have HO127 := n0_; have BK120 := n1_; have HB := n2_; clear n0_ n1_ n2_; clear hb ho25; have hcz26_0 : w24.cell? ⟨gb120, 0, none⟩ = some (.int .i64 a1_0) := (blk_cell BK120.out 0).trans rfl; have hcz26_1 : w24.cell? ⟨gb120, 1, none⟩ = some (.int .i64 a1_1) := (blk_cell BK120.out 1).trans rfl; have hcz26_2 : w24.cell? ⟨gb120, 2, none⟩ = some (.int .i64 a1_2) := (blk_cell BK120.out 2).trans rfl; have hcz26_3 : w24.cell? ⟨gb120, 3, none⟩ = some (.int .i64 a1_3) := (blk_cell BK120.out 3).trans rfl; have hfz26_0 := blk_frozen BK120.out 0; have hfz26_1 := blk_frozen BK120.out 1; have hfz26_2 := blk_frozen BK120.out 2; have hfz26_3 := blk_frozen BK120.out 3))
                go_loopg [12, 55] kj6 (fun kq v12 v55 w' => ∃ (x12_2 : List Int) (x55_2 : Int), v55 = .int .i64 x55_2 ∧ Aside0 (twid_Tile.l0 kq l0 t121 x12_2 a1_0 x55_2 a1_0 a1_1 a1_2 a1_3 = some (r1, r2)) ∧ Aside0 (kq ≤ kj6) ∧ Aside0 (Kd.R (Kd.int .u64) 45 w' w.heap.size (fun _ => True) v12 x12_2) ∧ Aside0 (w'.heap[gb120]? = some (.cells #[.int .i64 a1_0, .int .i64 a1_1, .int .i64 a1_2, .int .i64 a1_3] 116 (0, 0))) ∧ Aside0 (Below w.heap.size w w'))
                case atStart => exact ⟨(y125), (0), (by first | rfl | (simp; done) | (simp [*]; done)), H', ⟨Nat.le_refl _⟩, ⟨by (with_reducible repeat (first | apply Kd.R_alloc | apply Kd.R_drewN | apply Kd.R_drew)); exact HO127.out⟩, ⟨by (with_reducible repeat (first | refine blk_drewN ?_ _ | refine blk_drew ?_ | refine blk_alloc ?_ _)); exact BK120.out⟩, ⟨by repeat (first | (with_reducible first | exact HB.out | apply below_alloc | apply pw_below_drewN | apply below_drew1 | refine below_set ?_ GE120.out) | exact HB.out)⟩⟩
                case round =>
                  clear H'
                  try clear c1
                  try clear c2
                  try clear p2
                  try clear c6
                  try clear c6b0
                  try clear c6b1
                  try clear p6
                  try clear c8
                  try clear c11
                  try clear c12
                  try clear c17
                  try clear c19
                  try clear c20
                  try clear c20b0
                  try clear c20b1
                  try clear c21
                  try clear c21b0
                  try clear c21b1
                  try clear hcz12_0
                  try clear hcz12_1
                  try clear hcz12_2
                  try clear hcz12_3
                  try clear hcz14_0
                  try clear hcz14_1
                  try clear hcz14_2
                  try clear hcz14_3
                  try clear hcz15_0
                  try clear hcz15_1
                  try clear hcz15_2
                  try clear hcz15_3
                  try clear hcz22_0
                  try clear hcz22_1
                  try clear hcz22_2
                  try clear hcz22_3
                  try clear hcz26_0
                  try clear hcz26_1
                  try clear hcz26_2
                  try clear hcz26_3
                  try clear hfz12_0
                  try clear hfz12_1
                  try clear hfz12_2
                  try clear hfz12_3
                  try clear hfz14_0
                  try clear hfz14_1
                  try clear hfz14_2
                  try clear hfz14_3
                  try clear hfz15_0
                  try clear hfz15_1
                  try clear hfz15_2
                  try clear hfz15_3
                  try clear hfz22_0
                  try clear hfz22_1
                  try clear hfz22_2
                  try clear hfz22_3
                  try clear hfz26_0
                  try clear hfz26_1
                  try clear hfz26_2
                  try clear hfz26_3
                  try clear p2
                  try clear p6
                  obtain ⟨x12_2, x55_2, rfl, HA, HK2, HO_12, BK120, HB⟩ := hrel
                  cases gk with
                  | zero => exact absurd HA.out (by simp [twid_Tile.l0])
                  | succ k2 =>
                    have H := HA.out
                    clear HA
                    simp only [twid_Tile.l0] at H
                    by_cases c27 : x55_2 < a1_0
                    · rw [if_pos c27] at H
                      have c27b0 : decide (x55_2 < a1_0) = true := decide_eq_true c27
                      clear c27
                      replace H := Option.bind_eq_some_iff.mp H
                      obtain ⟨t128, A280, H⟩ := H
                      replace H : ((gold_Pow.f k2 t128 (IntKind.u64.wrap (a1_3))).bind fun t129 => (if 0 ≤ (wrap64 (x55_2 * a1_1)) then (if (wrap64 (x55_2 * a1_1)) ≤ (wrap64 ((wrap64 (x55_2 + 1)) * a1_1)) then (if (wrap64 ((wrap64 (x55_2 + 1)) * a1_1)) ≤ (l0.length : Int) then (twid_Tile.l1 k2 l0 t121 x12_2 t128 t129 a1_0 x55_2 ((l0.take ((wrap64 ((wrap64 (x55_2 + 1)) * a1_1)) : Int).toNat).drop ((wrap64 (x55_2 * a1_1)) : Int).toNat) (((l0.take ((wrap64 ((wrap64 (x55_2 + 1)) * a1_1)) : Int).toNat).drop ((wrap64 (x55_2 * a1_1)) : Int).toNat).length : Int) 0 a1_0 a1_1 a1_2 a1_3) else (none)) else (none)) else (none))) = some (r1, r2) := H
                      have A28 := Aside0.mk A280
                      clear A280
                      replace H := Option.bind_eq_some_iff.mp H
                      obtain ⟨t129, A290, H⟩ := H
                      replace H : (if 0 ≤ (wrap64 (x55_2 * a1_1)) then (if (wrap64 (x55_2 * a1_1)) ≤ (wrap64 ((wrap64 (x55_2 + 1)) * a1_1)) then (if (wrap64 ((wrap64 (x55_2 + 1)) * a1_1)) ≤ (l0.length : Int) then (twid_Tile.l1 k2 l0 t121 x12_2 t128 t129 a1_0 x55_2 ((l0.take ((wrap64 ((wrap64 (x55_2 + 1)) * a1_1)) : Int).toNat).drop ((wrap64 (x55_2 * a1_1)) : Int).toNat) (((l0.take ((wrap64 ((wrap64 (x55_2 + 1)) * a1_1)) : Int).toNat).drop ((wrap64 (x55_2 * a1_1)) : Int).toNat).length : Int) 0 a1_0 a1_1 a1_2 a1_3) else (none)) else (none)) else (none)) = some (r1, r2) := H
                      have A29 := Aside0.mk A290
                      clear A290
                      obtain ⟨ji30, hji30⟩ : ∃ j_ : Int, (wrap64 (x55_2 * a1_1)) = j_ := ⟨_, rfl⟩
                      replace H : (if 0 ≤ (ji30) then (if (ji30) ≤ (wrap64 ((wrap64 (x55_2 + 1)) * a1_1)) then (if (wrap64 ((wrap64 (x55_2 + 1)) * a1_1)) ≤ (l0.length : Int) then (twid_Tile.l1 k2 l0 t121 x12_2 t128 t129 a1_0 x55_2 ((l0.take ((wrap64 ((wrap64 (x55_2 + 1)) * a1_1)) : Int).toNat).drop ((ji30) : Int).toNat) (((l0.take ((wrap64 ((wrap64 (x55_2 + 1)) * a1_1)) : Int).toNat).drop ((ji30) : Int).toNat).length : Int) 0 a1_0 a1_1 a1_2 a1_3) else (none)) else (none)) else (none)) = some (r1, r2) := by first | (rw [hji30] at H; exact H) | (simp only [hji30] at H ⊢; exact H)
                      (try rw [hji30] at A28)
                      (try rw [hji30] at A29)
                      have hji30w : (IntKind.i64.wrap (x55_2 * a1_1)) = ji30 := (i64_w _).trans hji30
                      by_cases c31 : 0 ≤ (ji30)
                      · rw [if_pos c31] at H
                        have c31b0 := eq_true c31
                        have c31b1 : decide (0 ≤ (ji30)) = true := decide_eq_true c31
                        clear c31
                        by_cases c32 : (ji30) ≤ (wrap64 ((wrap64 (x55_2 + 1)) * a1_1))
                        · rw [if_pos c32] at H
                          have c32b0 := eq_true c32
                          have c32b1 : decide ((ji30) ≤ (wrap64 ((wrap64 (x55_2 + 1)) * a1_1))) = true := decide_eq_true c32
                          by_cases c33 : (wrap64 ((wrap64 (x55_2 + 1)) * a1_1)) ≤ (l0.length : Int)
                          · rw [if_pos c33] at H
                            have c33b0 := eq_true c33
                            have c33b1 : decide ((wrap64 ((wrap64 (x55_2 + 1)) * a1_1)) ≤ (l0.length : Int)) = true := decide_eq_true c33
                            have hlnx : (((l0.take ((wrap64 ((wrap64 (x55_2 + 1)) * a1_1)) : Int).toNat).drop ((ji30) : Int).toNat).length : Int) = (((((wrap64 ((wrap64 (x55_2 + 1)) * a1_1)) : Int).toNat - ((ji30) : Int).toNat : Nat)) : Int) := by rw [List.length_drop, List.length_take, Nat.min_eq_left (Int.toNat_le.mpr c33)]
                            have H' := Aside0.mk H
                            clear H
                            have hcz34_0 : wr.cell? ⟨gb120, 0, none⟩ = some (.int .i64 a1_0) := (blk_cell BK120.out 0).trans rfl
                            have hcz34_1 : wr.cell? ⟨gb120, 1, none⟩ = some (.int .i64 a1_1) := (blk_cell BK120.out 1).trans rfl
                            have hcz34_2 : wr.cell? ⟨gb120, 2, none⟩ = some (.int .i64 a1_2) := (blk_cell BK120.out 2).trans rfl
                            have hcz34_3 : wr.cell? ⟨gb120, 3, none⟩ = some (.int .i64 a1_3) := (blk_cell BK120.out 3).trans rfl
                            have hfz34_0 := blk_frozen BK120.out 0
                            have hfz34_1 := blk_frozen BK120.out 1
                            have hfz34_2 := blk_frozen BK120.out 2
                            have hfz34_3 := blk_frozen BK120.out 3
                            go_wp2_with (first | ((with_reducible refine gate_callee (f := 121) rfl ?_); refine goesL_ (some 64) rfl rfl Tryd.func121 (by kernel_rfl) rfl #[.int .u64 t121, .int .u64 (IntKind.u64.wrap (wrap64 (a1_2 + x55_2)))] rfl (by (try simp only [List.map_toArray, List.map_cons, List.map_nil]); first | done | rfl | (simp only [List.length_drop, List.length_take]; rfl)) ?_; (with_reducible refine (gold_Pow.calls k2 t121 (IntKind.u64.wrap (wrap64 (a1_2 + x55_2))) t128 _ A28.out).mono ?_); rintro e w35 ⟨rfl, hb⟩; refine ⟨_, rfl, ?_⟩; have n0_ := Aside0.mk (Kd.R_below (by (with_reducible repeat (first | apply Kd.R_alloc | apply Kd.R_drewN | apply Kd.R_drew)); exact HO_12.out) hb); have n1_ := Aside0.mk (blk_below (g := gb120) (o := .cells #[.int .i64 a1_0, .int .i64 a1_1, .int .i64 a1_2, .int .i64 a1_3] 116 (0, 0)) (by (with_reducible repeat (first | refine blk_drewN ?_ _ | refine blk_drew ?_ | refine blk_alloc ?_ _)); exact BK120.out) hb); have n2_ := Aside0.mk (below_step (by repeat (first | (with_reducible first | exact HB.out | apply below_alloc | apply pw_below_drewN | apply below_drew1 | refine below_set ?_ GE120.out) | exact HB.out)) hb); clear HO_12; clear BK120; clear HB; have HO_12 := n0_; have BK120 := n1_; have HB := n2_; clear n0_ n1_ n2_; (try clear hb); (try clear hb2); (try clear hk); (try clear hi); have hcz36_0 : w35.cell? ⟨gb120, 0, none⟩ = some (.int .i64 a1_0) := (blk_cell BK120.out 0).trans rfl; have hcz36_1 : w35.cell? ⟨gb120, 1, none⟩ = some (.int .i64 a1_1) := (blk_cell BK120.out 1).trans rfl; have hcz36_2 : w35.cell? ⟨gb120, 2, none⟩ = some (.int .i64 a1_2) := (blk_cell BK120.out 2).trans rfl; have hcz36_3 : w35.cell? ⟨gb120, 3, none⟩ = some (.int .i64 a1_3) := (blk_cell BK120.out 3).trans rfl; have hfz36_0 := blk_frozen BK120.out 0; have hfz36_1 := blk_frozen BK120.out 1; have hfz36_2 := blk_frozen BK120.out 2; have hfz36_3 := blk_frozen BK120.out 3) | ((with_reducible refine gate_callee (f := 121) rfl ?_); refine goesL_ (some 69) rfl rfl Tryd.func121 (by kernel_rfl) rfl #[.int .u64 t128, .int .u64 (IntKind.u64.wrap (a1_3))] rfl (by (try simp only [List.map_toArray, List.map_cons, List.map_nil]); first | done | rfl | (simp only [List.length_drop, List.length_take]; rfl)) ?_; (with_reducible refine (gold_Pow.calls k2 t128 (IntKind.u64.wrap (a1_3)) t129 _ A29.out).mono ?_); rintro e w37 ⟨rfl, hb⟩; refine ⟨_, rfl, ?_⟩; have n0_ := Aside0.mk (Kd.R_below (by (with_reducible repeat (first | apply Kd.R_alloc | apply Kd.R_drewN | apply Kd.R_drew)); exact HO_12.out) hb); have n1_ := Aside0.mk (blk_below (g := gb120) (o := .cells #[.int .i64 a1_0, .int .i64 a1_1, .int .i64 a1_2, .int .i64 a1_3] 116 (0, 0)) (by (with_reducible repeat (first | refine blk_drewN ?_ _ | refine blk_drew ?_ | refine blk_alloc ?_ _)); exact BK120.out) hb); have n2_ := Aside0.mk (below_step (by repeat (first | (with_reducible first | exact HB.out | apply below_alloc | apply pw_below_drewN | apply below_drew1 | refine below_set ?_ GE120.out) | exact HB.out)) hb); clear HO_12; clear BK120; clear HB; have HO_12 := n0_; have BK120 := n1_; have HB := n2_; clear n0_ n1_ n2_; (try clear hb); (try clear hb2); (try clear hk); (try clear hi); have hcz38_0 : w37.cell? ⟨gb120, 0, none⟩ = some (.int .i64 a1_0) := (blk_cell BK120.out 0).trans rfl; have hcz38_1 : w37.cell? ⟨gb120, 1, none⟩ = some (.int .i64 a1_1) := (blk_cell BK120.out 1).trans rfl; have hcz38_2 : w37.cell? ⟨gb120, 2, none⟩ = some (.int .i64 a1_2) := (blk_cell BK120.out 2).trans rfl; have hcz38_3 : w37.cell? ⟨gb120, 3, none⟩ = some (.int .i64 a1_3) := (blk_cell BK120.out 3).trans rfl; have hfz38_0 := blk_frozen BK120.out 0; have hfz38_1 := blk_frozen BK120.out 1; have hfz38_2 := blk_frozen BK120.out 2; have hfz38_3 := blk_frozen BK120.out 3; obtain ⟨i039, hi039, _, hsz39, _⟩ := info_parts info45; obtain ⟨A39, hcut39, hA39, hC39⟩ := print_mid_of (P := Tryd.prog) (Value.int .u64) 0 24 45 .i64 .i64 Tryd.underlying24 hi039 hsz39 A0 c0 l0 (ji30) (wrap64 ((wrap64 (x55_2 + 1)) * a1_1)) (of_decide_eq_true (by first | (with_reducible assumption) | assumption)) (by first | omega | exact of_decide_eq_true (by first | (with_reducible assumption) | assumption)) (of_decide_eq_true (by first | (with_reducible assumption) | assumption)) HC0.out; have HR130 := Aside0.mk (Kd.C_of_reads (h1 := fun _ => rfl) (hA39 _ (Kd.reads_of_C HR0.out))); have HC130 := Aside0.mk hC39; clear hA39 hC39 hi039 hsz39))
                            go_loopg [12, 15, 84] k2 (fun kq v12 v15 v84 w' => ∃ (x12_3 : List Int) (x15_3 : Int) (x84_3 : Int), v15 = .int .u64 x15_3 ∧ v84 = .int .i64 x84_3 ∧ Aside0 (twid_Tile.l1 kq l0 t121 x12_3 t128 x15_3 a1_0 x55_2 ((l0.take ((wrap64 ((wrap64 (x55_2 + 1)) * a1_1)) : Int).toNat).drop ((ji30) : Int).toNat) (((l0.take ((wrap64 ((wrap64 (x55_2 + 1)) * a1_1)) : Int).toNat).drop ((ji30) : Int).toNat).length : Int) x84_3 a1_0 a1_1 a1_2 a1_3 = some (r1, r2)) ∧ Aside0 (kq ≤ k2) ∧ Aside0 (Kd.R (Kd.int .u64) 45 w' w.heap.size (fun _ => True) v12 x12_3) ∧ Aside0 (w'.heap[gb120]? = some (.cells #[.int .i64 a1_0, .int .i64 a1_1, .int .i64 a1_2, .int .i64 a1_3] 116 (0, 0))) ∧ Aside0 (Below w.heap.size w w'))
                            case atStart => exact ⟨(x12_2), (t129), (0), (by first | rfl | (simp; done) | (simp [*]; done)), (by first | rfl | (simp; done) | (simp [*]; done)), H', ⟨Nat.le_refl _⟩, ⟨by (with_reducible repeat (first | apply Kd.R_alloc | apply Kd.R_drewN | apply Kd.R_drew)); exact HO_12.out⟩, ⟨by (with_reducible repeat (first | refine blk_drewN ?_ _ | refine blk_drew ?_ | refine blk_alloc ?_ _)); exact BK120.out⟩, ⟨by repeat (first | (with_reducible first | exact HB.out | apply below_alloc | apply pw_below_drewN | apply below_drew1 | refine below_set ?_ GE120.out) | exact HB.out)⟩⟩
                            case round =>
                              clear H'
                              try clear c1
                              try clear c2
                              try clear p2
                              try clear c3
                              try clear c6
                              try clear c6b0
                              try clear c6b1
                              try clear p6
                              try clear c8
                              try clear c11
                              try clear c12
                              try clear c17
                              try clear c19
                              try clear c20
                              try clear c20b0
                              try clear c20b1
                              try clear c21
                              try clear c21b0
                              try clear c21b1
                              try clear c27
                              try clear c27b0
                              try clear c31
                              try clear c31b0
                              try clear c31b1
                              try clear c32
                              try clear c32b0
                              try clear c32b1
                              try clear c33
                              try clear c33b0
                              try clear c33b1
                              try clear hcz12_0
                              try clear hcz12_1
                              try clear hcz12_2
                              try clear hcz12_3
                              try clear hcz14_0
                              try clear hcz14_1
                              try clear hcz14_2
                              try clear hcz14_3
                              try clear hcz15_0
                              try clear hcz15_1
                              try clear hcz15_2
                              try clear hcz15_3
                              try clear hcz22_0
                              try clear hcz22_1
                              try clear hcz22_2
                              try clear hcz22_3
                              try clear hcz26_0
                              try clear hcz26_1
                              try clear hcz26_2
                              try clear hcz26_3
                              try clear hcz34_0
                              try clear hcz34_1
                              try clear hcz34_2
                              try clear hcz34_3
                              try clear hcz36_0
                              try clear hcz36_1
                              try clear hcz36_2
                              try clear hcz36_3
                              try clear hcz38_0
                              try clear hcz38_1
                              try clear hcz38_2
                              try clear hcz38_3
                              try clear hfz12_0
                              try clear hfz12_1
                              try clear hfz12_2
                              try clear hfz12_3
                              try clear hfz14_0
                              try clear hfz14_1
                              try clear hfz14_2
                              try clear hfz14_3
                              try clear hfz15_0
                              try clear hfz15_1
                              try clear hfz15_2
                              try clear hfz15_3
                              try clear hfz22_0
                              try clear hfz22_1
                              try clear hfz22_2
                              try clear hfz22_3
                              try clear hfz26_0
                              try clear hfz26_1
                              try clear hfz26_2
                              try clear hfz26_3
                              try clear hfz34_0
                              try clear hfz34_1
                              try clear hfz34_2
                              try clear hfz34_3
                              try clear hfz36_0
                              try clear hfz36_1
                              try clear hfz36_2
                              try clear hfz36_3
                              try clear hfz38_0
                              try clear hfz38_1
                              try clear hfz38_2
                              try clear hfz38_3
                              try clear p2
                              try clear p6
                              obtain ⟨x12_3, x15_3, x84_3, rfl, rfl, HA, HK3, HO_12, BK120, HB⟩ := hrel
                              cases gk with
                              | zero => exact absurd HA.out (by simp [twid_Tile.l1])
                              | succ k3 =>
                                have H := HA.out
                                clear HA
                                simp only [twid_Tile.l1] at H
                                by_cases c40 : x84_3 < (((l0.take ((wrap64 ((wrap64 (x55_2 + 1)) * a1_1)) : Int).toNat).drop ((ji30) : Int).toNat).length : Int)
                                · rw [if_pos c40] at H
                                  have c40b0 : decide (x84_3 < (((l0.take ((wrap64 ((wrap64 (x55_2 + 1)) * a1_1)) : Int).toNat).drop ((ji30) : Int).toNat).length : Int)) = true := decide_eq_true c40
                                  have c40x : decide (x84_3 < (((((wrap64 ((wrap64 (x55_2 + 1)) * a1_1)) : Int).toNat - ((ji30) : Int).toNat : Nat)) : Int)) = true := by rw [← hlnx]; exact c40b0
                                  clear c40
                                  by_cases c41 : 0 ≤ x84_3
                                  · rw [if_pos c41] at H
                                    have c41b0 : decide (0 ≤ x84_3) = true := decide_eq_true c41
                                    clear c41
                                    by_cases c42 : x84_3 < (((l0.take ((wrap64 ((wrap64 (x55_2 + 1)) * a1_1)) : Int).toNat).drop ((ji30) : Int).toNat).length : Int)
                                    · rw [if_pos c42] at H
                                      have c42b0 : decide (x84_3 < (((l0.take ((wrap64 ((wrap64 (x55_2 + 1)) * a1_1)) : Int).toNat).drop ((ji30) : Int).toNat).length : Int)) = true := decide_eq_true c42
                                      clear c42
                                      replace H := Option.bind_eq_some_iff.mp H
                                      obtain ⟨t132, A430, H⟩ := H
                                      replace H : (if x12_3.length < 17592186044416 then ((gold_Mul.f x15_3 t128).bind fun t136 => (twid_Tile.l1 k3 l0 t121 (x12_3 ++ [t132]) t128 t136 a1_0 x55_2 ((l0.take ((wrap64 ((wrap64 (x55_2 + 1)) * a1_1)) : Int).toNat).drop ((ji30) : Int).toNat) (((l0.take ((wrap64 ((wrap64 (x55_2 + 1)) * a1_1)) : Int).toNat).drop ((ji30) : Int).toNat).length : Int) (wrap64 (x84_3 + 1)) a1_0 a1_1 a1_2 a1_3)) else (none)) = some (r1, r2) := H
                                      have A43 := Aside0.mk A430
                                      clear A430
                                      by_cases c44 : x12_3.length < 17592186044416
                                      · rw [if_pos c44] at H
                                        have LMc44 := Aside0.mk c44
                                        clear c44
                                        obtain ⟨y133, hy133⟩ : ∃ y_ : List Int, y_ = (x12_3 ++ [t132]) := ⟨_, rfl⟩
                                        replace H : ((gold_Mul.f x15_3 t128).bind fun t136 => (twid_Tile.l1 k3 l0 t121 y133 t128 t136 a1_0 x55_2 ((l0.take ((wrap64 ((wrap64 (x55_2 + 1)) * a1_1)) : Int).toNat).drop ((ji30) : Int).toNat) (((l0.take ((wrap64 ((wrap64 (x55_2 + 1)) * a1_1)) : Int).toNat).drop ((ji30) : Int).toNat).length : Int) (wrap64 (x84_3 + 1)) a1_0 a1_1 a1_2 a1_3)) = some (r1, r2) := by first | (rw [hy133]; with_reducible exact H) | (have H2_ := (Option.bind_some _ _).symm.trans H; rw [hy133]; with_reducible exact H2_) | (have H2_ := (Option.bind_some _ _).symm.trans H; with_reducible exact H2_) | with_reducible exact H | (rw [hy133]; exact H) | exact H
                                        have Ny133 := Aside0.mk hy133
                                        clear hy133
                                        replace H := Option.bind_eq_some_iff.mp H
                                        obtain ⟨t136, A450, H⟩ := H
                                        replace H : (twid_Tile.l1 k3 l0 t121 y133 t128 t136 a1_0 x55_2 ((l0.take ((wrap64 ((wrap64 (x55_2 + 1)) * a1_1)) : Int).toNat).drop ((ji30) : Int).toNat) (((l0.take ((wrap64 ((wrap64 (x55_2 + 1)) * a1_1)) : Int).toNat).drop ((ji30) : Int).toNat).length : Int) (wrap64 (x84_3 + 1)) a1_0 a1_1 a1_2 a1_3) = some (r1, r2) := H
                                        have A45 := Aside0.mk A450
                                        clear A450
                                        have H' := Aside0.mk H
                                        clear H
                                        have p131 : 0 ≤ (x84_3 : Int) := of_decide_eq_true (by first | (with_reducible assumption) | assumption)
                                        have q131 : x84_3 < (((l0.take ((wrap64 ((wrap64 (x55_2 + 1)) * a1_1)) : Int).toNat).drop ((ji30) : Int).toNat).length : Int) := of_decide_eq_true (by first | (with_reducible assumption) | assumption)
                                        obtain ⟨ad131, e131, hx131_0⟩ := Kd.at_int HR130.out x84_3 p131 q131
                                        cases e131
                                        replace hx131_0 := (HB.out.cell (World.block_lt_of_cell? w _ hx131_0)).trans hx131_0
                                        replace p131 := eq_true p131
                                        replace q131 := eq_true q131
                                        have q131x : (x84_3 < (((((wrap64 ((wrap64 (x55_2 + 1)) * a1_1)) : Int).toNat - ((ji30) : Int).toNat : Nat)) : Int)) = True := by rw [← hlnx]; exact q131
                                        go_wp2_with (first | ((with_reducible refine gate_callee (f := 77) rfl ?_); refine goesL_ (some 91) rfl rfl Tryd.func77 (by kernel_rfl) rfl #[.int .u64 (rd ((l0.take ((wrap64 ((wrap64 (x55_2 + 1)) * a1_1)) : Int).toNat).drop ((ji30) : Int).toNat) x84_3), .int .u64 x15_3] rfl (by (try simp only [List.map_toArray, List.map_cons, List.map_nil]); first | done | (simp only [hji30]; rfl) | rfl | (simp only [List.length_drop, List.length_take]; rfl)) ?_; (with_reducible refine (gold_Mul.calls (rd ((l0.take ((wrap64 ((wrap64 (x55_2 + 1)) * a1_1)) : Int).toNat).drop ((ji30) : Int).toNat) x84_3) x15_3 t132 _ A43.out).mono ?_); rintro e w46 ⟨rfl, hb⟩; refine ⟨_, rfl, ?_⟩; have n0_ := Aside0.mk (Kd.R_below (by (with_reducible repeat (first | apply Kd.R_alloc | apply Kd.R_drewN | apply Kd.R_drew)); exact HO_12.out) hb); have n1_ := Aside0.mk (blk_below (g := gb120) (o := .cells #[.int .i64 a1_0, .int .i64 a1_1, .int .i64 a1_2, .int .i64 a1_3] 116 (0, 0)) (by (with_reducible repeat (first | refine blk_drewN ?_ _ | refine blk_drew ?_ | refine blk_alloc ?_ _)); exact BK120.out) hb); have n2_ := Aside0.mk (below_step (by repeat (first | (with_reducible first | exact HB.out | apply below_alloc | apply pw_below_drewN | apply below_drew1 | refine below_set ?_ GE120.out) | exact HB.out)) hb); clear HO_12; clear BK120; clear HB; have HO_12 := n0_; have BK120 := n1_; have HB := n2_; clear n0_ n1_ n2_; (try clear hb); (try clear hb2); (try clear hk); (try clear hi)) | ((with_reducible refine gate_builtin (b := .append) (xs := #[.tmp 88, .tmp 92]) rfl ?_); (try (refine gate_guard (by rfl) ?_; dsimp only)); at_builtin; refine Kd.R_append (Kd.int .u64) (w0 := w) w.heap.size rfl (.tmp 88) (.tmp 92) 24 45 (.int .u64 0) 8 rfl Tryd.underlying24 info45 rfl (by decide) (by omega) u12 x12_3 t132 [.int .u64 t132] (fun _ => True) (fun _ => False) rfl rfl ?aP (fun _ hk => hk.elim) ?aF ?aO ?aB ?aS ?aL ?_; (case aP => exact rfl); (case aB => exact (by repeat (first | (with_reducible first | exact HB.out | apply below_alloc | apply pw_below_drewN | apply below_drew1 | refine below_set ?_ GE120.out) | exact HB.out))); (case aF => exact (fun _ _ => trivial)); (case aO => exact (by (with_reducible repeat (first | apply Kd.R_alloc | apply Kd.R_drewN | apply Kd.R_drew)); exact HO_12.out)); (case aS => exact (below_size (by repeat (first | (with_reducible first | exact HB.out | apply below_alloc | apply pw_below_drewN | apply below_drew1 | refine below_set ?_ GE120.out) | exact HB.out)))); (case aL => have := LMc44.out; omega); intro v134 w47 ho hb hg hat; rw [← Ny133.out] at ho; have n0_ := Aside0.mk (blk_grown (g := gb120) (o := .cells #[.int .i64 a1_0, .int .i64 a1_1, .int .i64 a1_2, .int .i64 a1_3] 116 (0, 0)) (by (with_reducible repeat (first | refine blk_drewN ?_ _ | refine blk_drew ?_ | refine blk_alloc ?_ _)); exact BK120.out) hg (Kd.R_ne HO_12.out BK120.out (by decide))); have n1_ := Aside0.mk (hb); have n2_ := Aside0.mk (ho); clear BK120; clear HB; clear HO_12; have BK120 := n0_; have HB := n1_; have HO135 := n2_; clear n0_ n1_ n2_; clear ho hb hg hat) | ((with_reducible refine gate_callee (f := 77) rfl ?_); refine goesL_ (some 96) rfl rfl Tryd.func77 (by kernel_rfl) rfl #[.int .u64 x15_3, .int .u64 t128] rfl (by (try simp only [List.map_toArray, List.map_cons, List.map_nil]); first | done | rfl | (simp only [List.length_drop, List.length_take]; rfl)) ?_; (with_reducible refine (gold_Mul.calls x15_3 t128 t136 _ A45.out).mono ?_); rintro e w48 ⟨rfl, hb⟩; refine ⟨_, rfl, ?_⟩; have n0_ := Aside0.mk (Kd.R_below (by (with_reducible repeat (first | apply Kd.R_alloc | apply Kd.R_drewN | apply Kd.R_drew)); exact HO135.out) hb); have n1_ := Aside0.mk (blk_below (g := gb120) (o := .cells #[.int .i64 a1_0, .int .i64 a1_1, .int .i64 a1_2, .int .i64 a1_3] 116 (0, 0)) (by (with_reducible repeat (first | refine blk_drewN ?_ _ | refine blk_drew ?_ | refine blk_alloc ?_ _)); exact BK120.out) hb); have n2_ := Aside0.mk (below_step (by repeat (first | (with_reducible first | exact HB.out | apply below_alloc | apply pw_below_drewN | apply below_drew1 | refine below_set ?_ GE120.out) | exact HB.out)) hb); clear HO135; clear BK120; clear HB; have HO135 := n0_; have BK120 := n1_; have HB := n2_; clear n0_ n1_ n2_; (try clear hb); (try clear hb2); (try clear hk); (try clear hi)))
                                        go_roundg k3
                                        case measure => have := HJ6.out; have := HK2.out; have := HK3.out; omega
                                        case rel => exact ⟨(y133), (t136), (wrap64 (x84_3 + 1)), (by first | rfl | (simp; done) | (simp [*]; done)), (by first | rfl | (simp; done) | (simp [*]; done)), H', ⟨by have := HJ6.out; have := HK2.out; have := HK3.out; omega⟩, ⟨by (with_reducible repeat (first | apply Kd.R_alloc | apply Kd.R_drewN | apply Kd.R_drew)); exact HO135.out⟩, ⟨by (with_reducible repeat (first | refine blk_drewN ?_ _ | refine blk_drew ?_ | refine blk_alloc ?_ _)); exact BK120.out⟩, ⟨by repeat (first | (with_reducible first | exact HB.out | apply below_alloc | apply pw_below_drewN | apply below_drew1 | refine below_set ?_ GE120.out) | exact HB.out)⟩⟩
                                      · rw [if_neg c44] at H
                                        exact absurd H (by simp)
                                    · rw [if_neg c42] at H
                                      exact absurd H (by simp)
                                  · rw [if_neg c41] at H
                                    exact absurd H (by simp)
                                · rw [if_neg c40] at H
                                  have c40b0 : decide (x84_3 < (((l0.take ((wrap64 ((wrap64 (x55_2 + 1)) * a1_1)) : Int).toNat).drop ((ji30) : Int).toNat).length : Int)) = false := decide_eq_false c40
                                  have c40x : decide (x84_3 < (((((wrap64 ((wrap64 (x55_2 + 1)) * a1_1)) : Int).toNat - ((ji30) : Int).toNat : Nat)) : Int)) = false := by rw [← hlnx]; exact c40b0
                                  clear c40
                                  have H' := Aside0.mk H
                                  clear H
                                  go_wp2
                                  go_roundg k3
                                  case measure => have := HJ6.out; have := HK2.out; have := HK3.out; omega
                                  case rel => exact ⟨(x12_3), (wrap64 (x55_2 + 1)), (by first | rfl | (simp; done) | (simp [*]; done)), H', ⟨by have := HJ6.out; have := HK2.out; have := HK3.out; omega⟩, ⟨by (with_reducible repeat (first | apply Kd.R_alloc | apply Kd.R_drewN | apply Kd.R_drew)); exact HO_12.out⟩, ⟨by (with_reducible repeat (first | refine blk_drewN ?_ _ | refine blk_drew ?_ | refine blk_alloc ?_ _)); exact BK120.out⟩, ⟨by repeat (first | (with_reducible first | exact HB.out | apply below_alloc | apply pw_below_drewN | apply below_drew1 | refine below_set ?_ GE120.out) | exact HB.out)⟩⟩
                          · rw [if_neg c33] at H
                            exact absurd H (by simp)
                        · rw [if_neg c32] at H
                          exact absurd H (by simp)
                      · rw [if_neg c31] at H
                        exact absurd H (by simp)
                    · rw [if_neg c27] at H
                      have c27b0 : decide (x55_2 < a1_0) = false := decide_eq_false c27
                      clear c27
                      simp only [Option.some.injEq, Prod.mk.injEq] at H
                      obtain ⟨rfl, rfl⟩ := H
                      go_wp2
                      go_ret2
                      exact ⟨_, by first | rfl | (simp [errW_none, errW_some] <;> rfl) | (simp [*, errW_none, errW_some] <;> rfl), by (with_reducible repeat (first | apply Kd.R_alloc | apply Kd.R_drewN | apply Kd.R_drew)); exact HO_12.out, by repeat (first | (with_reducible first | exact HB.out | apply below_alloc | apply pw_below_drewN | apply below_drew1 | refine below_set ?_ GE120.out) | exact HB.out)⟩
              · rw [if_neg c21] at H
                exact absurd H (by simp)
            · rw [if_neg c20] at H
              exact absurd H (by simp)
          · replace c19 := Bool.eq_false_iff.mpr c19
            subst c19
            have H1 : (some (([] : List Int), 2)) = some (r1, r2) := by rw [if_neg (show ¬ (false = true) by decide)] at H; exact H
            clear H
            have H := H1
            clear H1
            simp only [Option.some.injEq, Prod.mk.injEq] at H
            obtain ⟨rfl, rfl⟩ := H
            have hcz49_0 : wc.cell? ⟨gb120, 0, none⟩ = some (.int .i64 a1_0) := (blk_cell BK120.out 0).trans rfl
            have hcz49_1 : wc.cell? ⟨gb120, 1, none⟩ = some (.int .i64 a1_1) := (blk_cell BK120.out 1).trans rfl
            have hcz49_2 : wc.cell? ⟨gb120, 2, none⟩ = some (.int .i64 a1_2) := (blk_cell BK120.out 2).trans rfl
            have hcz49_3 : wc.cell? ⟨gb120, 3, none⟩ = some (.int .i64 a1_3) := (blk_cell BK120.out 3).trans rfl
            have hfz49_0 := blk_frozen BK120.out 0
            have hfz49_1 := blk_frozen BK120.out 1
            have hfz49_2 := blk_frozen BK120.out 2
            have hfz49_3 := blk_frozen BK120.out 3
            go_wp2_with (first | ((with_reducible refine gate_callee (f := 120) rfl ?_); refine goesL_ (some 47) rfl rfl Tryd.func120 (by kernel_rfl) rfl #[.agg #[.int .i64 a1_0, .int .i64 a1_1, .int .i64 a1_2, .int .i64 a1_3]] rfl (by (try simp only [List.map_toArray, List.map_cons, List.map_nil]); first | done | rfl | (simp only [List.length_drop, List.length_take]; rfl)) ?_; (with_reducible refine (twid_reaches.calls a1_0 a1_1 a1_2 a1_3 false _ A18.out).mono ?_); rintro e w50 ⟨rfl, hb⟩; refine ⟨_, rfl, ?_⟩; have n0_ := Aside0.mk (blk_below (g := gb120) (o := .cells #[.int .i64 a1_0, .int .i64 a1_1, .int .i64 a1_2, .int .i64 a1_3] 116 (0, 0)) (by (with_reducible repeat (first | refine blk_drewN ?_ _ | refine blk_drew ?_ | refine blk_alloc ?_ _)); exact BK120.out) hb); have n1_ := Aside0.mk (below_step (by repeat (first | (with_reducible first | exact HB.out | apply below_alloc | apply pw_below_drewN | apply below_drew1 | refine below_set ?_ GE120.out) | exact HB.out)) hb); clear BK120; clear HB; have BK120 := n0_; have HB := n1_; clear n0_ n1_; (try clear hb); (try clear hb2); (try clear hk); (try clear hi)))
            go_ret2
            exact ⟨_, by first | rfl | (simp [errW_none, errW_some] <;> rfl) | (simp [*, errW_none, errW_some] <;> rfl), by first | exact Kd.R_nil _ _ _ _ _ | exact Kd.N_nil _ _ _ _ _ | exact Kd.V_nil _ _ _ _ _ | exact Kd.Q_nil _ _ _ _ _ | exact Kd.S_nil _ _ _ _ _, by repeat (first | (with_reducible first | exact HB.out | apply below_alloc | apply pw_below_drewN | apply below_drew1 | refine below_set ?_ GE120.out) | exact HB.out)⟩
  · rw [if_neg c6] at H
    have c6b0 : (t122 == 0) = false := beq_eq_false_iff_ne.mpr c6
    have c6b1 : (t122 != 0) = true := bne_iff_ne.mpr c6
    simp only [Option.some.injEq, Prod.mk.injEq] at H
    obtain ⟨rfl, rfl⟩ := H
    go_enter Tryd.func88, Tryd.ntmps88
    go_wp2_with (first | ((with_reducible refine gate_dst (N := 5) rfl ?_); (try (refine gate_guard (by rfl) ?_; dsimp only)); refine box_event ?hg (N := 5) ?hd (cs := #[.int .i64 a1_0, .int .i64 a1_1, .int .i64 a1_2, .int .i64 a1_3]) (t := 116) ?hr ?_; (case hd => rfl); (case hg => rfl); (case hr => first | (go_simp; done) | (go_simp; rfl)); intro gb120 hg w51 hbox hb; have n0_ := Aside0.mk (below_step (by repeat (first | (with_reducible first | exact HB.out | apply below_alloc | apply pw_below_drewN | apply below_drew1) | exact HB.out)) hb); have n1_ := Aside0.mk (hbox); have n2_ := Aside0.mk ((by rw [hg]; exact (below_size (by repeat (first | (with_reducible first | exact HB.out | apply below_alloc | apply pw_below_drewN | apply below_drew1) | exact HB.out))) : w.heap.size ≤ gb120)); have n3_ := Aside0.mk ((by rw [hg]; exact (below_size (by repeat (first | (with_reducible first | exact HB.out | apply below_alloc | apply pw_below_drewN | apply below_drew1) | exact HB.out))) : w.heap.size ≤ gb120)); clear HB; have HB := n0_; have BK120 := n1_; have GW120 := n2_; have GE120 := n3_; clear n0_ n1_ n2_ n3_; clear hb hbox hg) | ((with_reducible refine gate_callee (f := 119) rfl ?_); refine goesL_ (some 21) rfl rfl Tryd.func119 (by kernel_rfl) rfl #[.int .i64 a2, .int .i64 a3] rfl (by (try simp only [List.map_toArray, List.map_cons, List.map_nil]); first | done | rfl | (simp only [List.length_drop, List.length_take]; rfl)) ?_; (with_reducible refine (twid_Root.calls k a2 a3 t121 t122 _ A5.out).mono ?_); rintro e w52 ⟨rfl, hb⟩; refine ⟨_, rfl, ?_⟩; have n0_ := Aside0.mk (blk_below (g := gb120) (o := .cells #[.int .i64 a1_0, .int .i64 a1_1, .int .i64 a1_2, .int .i64 a1_3] 116 (0, 0)) (by (with_reducible repeat (first | refine blk_drewN ?_ _ | refine blk_drew ?_ | refine blk_alloc ?_ _)); exact BK120.out) hb); have n1_ := Aside0.mk (below_step (by repeat (first | (with_reducible first | exact HB.out | apply below_alloc | apply pw_below_drewN | apply below_drew1 | refine below_set ?_ GE120.out) | exact HB.out)) hb); clear BK120; clear HB; have BK120 := n0_; have HB := n1_; clear n0_ n1_; (try clear hb); (try clear hb2); (try clear hk); (try clear hi)))
    go_ret2
    exact ⟨_, by first | rfl | (simp [errW_none, errW_some] <;> rfl) | (simp [*, errW_none, errW_some] <;> rfl), by first | exact Kd.R_nil _ _ _ _ _ | exact Kd.N_nil _ _ _ _ _ | exact Kd.V_nil _ _ _ _ _ | exact Kd.Q_nil _ _ _ _ _ | exact Kd.S_nil _ _ _ _ _, by repeat (first | (with_reducible first | exact HB.out | apply below_alloc | apply pw_below_drewN | apply below_drew1 | refine below_set ?_ GE120.out) | exact HB.out)⟩
end Go.Proofs.YtpnkcjnemoompaaDoor.PFft
end
section
namespace Go.Proofs.YtpnkcjnemoompaaDoor.Kern
open Go.RowKit Go.Proofs.YtpnkcjnemoompaaDoor Go.Proofs.YtpnkcjnemoompaaDoor.Ext Go.Proofs.YtpnkcjnemoompaaDoor.PPlan Go.Proofs.YtpnkcjnemoompaaDoor.PFft Go.Proofs.YtpnkcjnemoompaaDoor.Pure Go.Proofs.YtpnkcjnemoompaaDoor.Obj Go.Proofs.YtpnkcjnemoompaaDoor.Fft Go.Proofs.YtpnkcjnemoompaaDoorW.PrintWords Go.Proofs.YtpnkcjnemoompaaDoorW.PrintLast Go.Proofs.YtpnkcjnemoompaaDoorW.PrintMore
set_option linter.unusedVariables false
set_option linter.unusedSimpArgs false
set_option maxRecDepth 100000
theorem six_no (A : Option Addr) (c : Nat) (l : List Int) (R C d r : Int) (w : World) (hl : In w A c l) (hr : r = ckw l R C d) (h0 : (r != 0) = true) (hT : TabOK w) :
    Calls Tryd.prog 45 #[.slice A l.length c, .agg #[.int .i64 R, .int .i64 C], .int .i64 d] w fun e w' => e = .returned (.int .i64 r) ∧ Below w.heap.size w w' := by
  obtain ⟨k, hk⟩ := (check_is l R C d).rounds
  rw [← hr] at hk
  have HK := Aside0.mk hk
  have HB := Aside0.mk (below_alloc (Below.refl w.heap.size w) (Obj.cells #[.int .i64 R, .int .i64 C] 23))
  have HL := Aside0.mk (hl.below HB.out)
  have HT := Aside0.mk (hT.below HB.out)
  clear hk hr hl hT
  go_enter Tryd.func45, Tryd.ntmps45
  go_wp2_with fail
  refine (rows_check.calls k A c l R C d r _ HL.out.r HL.out.c HK.out HT.out).mono ?_
  rintro e w1 ⟨rfl, hb⟩
  have HB1 := Aside0.mk (below_then HB.out HB.out.size hb)
  clear hb
  go_wp2
  go_ret
  exact ⟨rfl, HB1.out⟩
set_option maxHeartbeats 8000000 in
theorem six_yes (R C a b g c : Nat) (xs : List Int) (d : Int) (hd : d = 0 ∨ d = 1) (ha : R = 2 ^ a) (hb : C = 2 ^ b) (hab : a + b ≤ 20) (hl : R * C = xs.length) (hW : Ws xs) (w : World) (hM : Mr w g c xs) (hT : TabOK w) :
    Calls Tryd.prog 45 #[.slice (some ⟨g, 0, none⟩) xs.length c, .agg #[.int .i64 (R : Int), .int .i64 (C : Int)], .int .i64 d] w fun e w' => e = .returned (.int .i64 0) ∧ Mr w' g c (tb xs.length (tr (a + b) d (el xs))) ∧ Fr w w' [g] := by
  have hG : GoodS R C := ⟨a, b, by omega, ⟨by omega, by rw [ha]⟩, ⟨by omega, by rw [hb]⟩⟩
  have hL : xs.length ≤ 1048576 := by rw [← hl, ha, hb, ← Nat.pow_add]; exact pow20 hab
  have hR1 : R ≤ 1048576 := by rw [ha]; exact pow20 (by omega)
  have hC1 : C ≤ 1048576 := by rw [hb]; exact pow20 (by omega)
  have hp : 0 < xs.length := by rw [← hl, ha, hb, ← Nat.pow_add]; exact Nat.two_pow_pos _
  obtain ⟨k, hk⟩ := (check_is xs R C d).rounds
  have h0 : ckw xs R C d = 0 := by
    unfold ckw
    rw [if_pos ⟨hG, by rw [← Int.natCast_mul, hl]⟩, if_pos hd]
  rw [h0] at hk
  have hfit : root_Fits.f (xs.length : Int) = some (((a + b : Nat) : Int), true) := by
    rw [← hl, ha, hb, ← Nat.pow_add]
    exact fits_yes (a + b) (by omega)
  have hm1l : (vfold xs a d (fun i => i) (fun _ => C) R C).length = xs.length := vfold_len _ _ _ _ _ _ _
  have hm1w : Ws (vfold xs a d (fun i => i) (fun _ => C) R C) := vfold_ws hW _ _ _ _ _ _
  obtain ⟨kt, hkt⟩ := (gTile _ hm1w R C a b ha hb hab (by rw [hm1l, hl]) (by rw [hm1l]; exact hL) (a + b) (by omega) d hd).rounds
  have hlaw := six_law xs a b d R C ha hb hab hl
  obtain ⟨m1, hm1⟩ : ∃ z, z = vfold xs a d (fun i => i) (fun _ => C) R C := ⟨_, rfl⟩
  rw [← hm1] at hkt hlaw hm1l hm1w
  obtain ⟨m2, hm2⟩ : ∃ z, z = tb (R * C) (tw m1 (rut (a + b) d) C) := ⟨_, rfl⟩
  have hm2l : m2.length = xs.length := by rw [hm2, tb_len, hl]
  have hm2w : Ws m2 := by rw [hm2]; exact tb_ws _ _
  rw [← hm2] at hkt hlaw
  obtain ⟨m3, hm3⟩ : ∃ z, z = vfold m2 b d (fun i => i * C) (fun _ => 1) C R := ⟨_, rfl⟩
  have hm3l : m3.length = xs.length := by rw [hm3, vfold_len, hm2l]
  rw [← hm3] at hlaw
  obtain ⟨kp, hkp⟩ := (gTpose m3 R C hG hC1 (by rw [hm3l, hl]) (by rw [hm3l]; exact hL)).rounds
  rw [hlaw] at hkp
  obtain ⟨m4, hm4⟩ : ∃ z, z = tb xs.length (tr (a + b) d (el xs)) := ⟨_, rfl⟩
  have hm4l : m4.length = xs.length := by rw [hm4, tb_len]
  rw [← hm4] at hkp ⊢
  clear hlaw
  obtain ⟨q, hq⟩ : ∃ z : Nat, z = a + b := ⟨_, rfl⟩
  rw [← hq] at hkt hfit
  clear hq
  have HK := Aside0.mk hk
  have HKT := Aside0.mk hkt
  have HKP := Aside0.mk hkp
  have HFI := Aside0.mk hfit
  have HD := Aside0.mk hd
  have HB := Aside0.mk (below_alloc (Below.refl w.heap.size w) (Obj.cells #[.int .i64 (R : Int), .int .i64 (C : Int)] 23))
  have HS := Aside0.mk (Bk.new w 23 [.int .i64 (R : Int), .int .i64 (C : Int)])
  have HM := Aside0.mk (hM.below HB.out)
  have HT0 := Aside0.mk hT
  have HW := Aside0.mk hW
  have HA := Aside0.mk ha
  have HBb := Aside0.mk hb
  have HLn := Aside0.mk hl
  have HAB := Aside0.mk hab
  have HM1e := Aside0.mk hm1
  have HM2e := Aside0.mk hm2
  have HM3e := Aside0.mk hm3
  have HM2w := Aside0.mk hm2w
  have hgw : g < w.heap.size := hM.lt
  obtain ⟨bs, hbs⟩ : ∃ z, z = w.heap.size := ⟨_, rfl⟩
  have hbg : w.heap.size ≤ bs := by omega
  clear hk h0 hG hM hT hW hd ha hb hl hab hfit hkt hkp hm1 hm2 hm3 hm4 hm1w hm2w
  go_enter Tryd.func45, Tryd.ntmps45
  go_wp2_with fail
  with_reducible refine (rows_check.calls k (some ⟨g, 0, none⟩) c xs R C d 0 _ (In.of_mr HM.out (by omega)).r (In.of_mr HM.out (by omega)).c HK.out (HT0.out.below HB.out)).mono ?_
  rintro e w1 ⟨rfl, hb⟩
  rw [← hbs] at HS ⊢
  clear hbs
  have HB1 := Aside0.mk (below_then HB.out HB.out.size hb)
  have HM1 := Aside0.mk (HM.out.below hb)
  have HS1 := Aside0.mk (HS.out.below hb)
  have u0 := HS1.out.cell 0
  have u1 := HS1.out.cell 1
  clear hb HM HS HB
  go_wp2_with fail
  clear u0 u1
  with_reducible refine (root_Fits.calls _ (q : Int) true _ HFI.out (HT0.out.below HB1.out)).mono ?_
  rintro e w2 ⟨rfl, hd⟩
  have HB2 := Aside0.mk (below_then HB1.out HB1.out.size hd.below)
  have HM2 := Aside0.mk (HM1.out.below hd.below)
  have HS2 := Aside0.mk (HS1.out.below hd.below)
  have v0 := HS2.out.cell 0
  have v1 := HS2.out.cell 1
  clear hd HB1 HM1 HS1
  go_wp2_with (first | ((with_reducible refine gate_dst (N := 32) rfl ?_); refine Kd.R_lit (Kd.int .u64) _ 45 ?hg (N := 32) ?hd (xs := []) (inner := []) (ok := fun _ => True) (okp := fun _ => True) ?hr ?hp (fun _ hk => hk) trivial (Below.refl _ _) (Nat.le_refl _) (by simp) ?_; (case hd => rfl); (case hg => rfl); (case hr => first | (go_simp; done) | (go_simp; rfl)); (case hp => exact (Reps.none _ _)); intro v5 w5 ho hb hg_ hnew_; have HOx := Aside0.mk ho; have HBx := Aside0.mk hb; clear hg_ hnew_ ho hb) | ((with_reducible refine gate_builtin (b := .append) (xs := #[.tmp 32, .tmp 33]) rfl ?_); at_builtin; refine Kd.R_append_rows (Kd.int .u64) (w0 := w2) w2.heap.size rfl (.tmp 32) (.tmp 33) 24 45 (.int .u64 0) 8 rfl Tryd.underlying24 info45 rfl (by decide) (by omega) v5 [] (xs) _ _ _ (fun _ => True) (fun _ => False) rfl rfl ?aO ?aR (fun _ _ h => h) (fun _ h => h.elim) ?aF ?aB ?aS ?aL ?_; (case aR => exact (Kd.C_below (HM2.out.whole (by omega)) HBx.out)); (case aB => exact HBx.out); (case aF => exact (fun _ _ => trivial)); (case aO => exact HOx.out); (case aS => exact HBx.out.size); (case aL => (simp only [List.length_nil]; omega)); intro v6 w6 ho2 hb2 hg_ hat_; rw [List.nil_append] at ho2; clear hg_ hat_; clear HOx HBx; obtain ⟨gm, cm, hv, hgm, hmm⟩ := Mr.of_R ho2 hp; subst hv; have HGm := Aside0.mk (show w.heap.size ≤ gm by have := HB2.out.size; omega); have HNe := Aside0.mk (show g ≠ gm by have := HB2.out.size; omega); have HNb := Aside0.mk (show bs ≠ gm by have := HS2.out.lt; omega); have HMm := Aside0.mk hmm; have HB6 := Aside0.mk (below_then HB2.out HB2.out.size hb2); have HX6 := Aside0.mk (HM2.out.below hb2); have HS6 := Aside0.mk (HS2.out.below hb2); clear hmm hb2 ho2 hgm v0 v1 HB2 HM2 HS2; have v0 := HS6.out.cell 0; have v1 := HS6.out.cell 1))
  clear v0 v1
  with_reducible refine (cols_yes R C a b gm cm xs d HD.out HA.out HBb.out HAB.out HLn.out HW.out _ HMm.out (HT0.out.below HB6.out)).mono ?_
  rintro e w7 ⟨rfl, hm7, hf7⟩
  rw [← HM1e.out] at hm7
  have HB7 := Aside0.mk (HB6.out.trans (hf7.below (B := w.heap.size) HB6.out.size (by simpa using HGm.out)))
  have HM7 := Aside0.mk hm7
  have HX7 := Aside0.mk (HX6.out.fr hf7 (by simpa using HNe.out))
  have HS7 := Aside0.mk (HS6.out.fr hf7 (by simpa using HNb.out))
  have v0 := HS7.out.cell 0
  have v1 := HS7.out.cell 1
  clear hm7 hf7 HB6 HMm HX6 HS6
  go_wp2_with fail
  clear v0 v1
  have ht := twid_Tile.calls kt (some ⟨gm, 0, none⟩) cm m1 (R : Int) (C : Int) 0 0 (q : Int) d m2 0 _ (In.of_mr HM7.out (by omega)).r (In.of_mr HM7.out (by omega)).c HKT.out (HT0.out.below HB7.out)
  rw [hm1l] at ht
  with_reducible refine ht.mono ?_
  clear ht
  rintro e w8 ⟨v, rfl, hr8, hb8⟩
  obtain ⟨gt, ct, hv, hgt, hmt⟩ := Mr.of_R hr8 (by omega)
  subst hv
  rw [hm2l]
  have HB8 := Aside0.mk (below_then HB7.out HB7.out.size hb8)
  have HGt := Aside0.mk (show w.heap.size ≤ gt by have := HB7.out.size; omega)
  have HNt := Aside0.mk (show g ≠ gt by have := HB7.out.size; omega)
  have HMt := Aside0.mk hmt
  have HX8 := Aside0.mk (HX7.out.below hb8)
  have HS8 := Aside0.mk (HS7.out.below hb8)
  have HNs := Aside0.mk (show bs ≠ gt by have := HS7.out.lt; omega)
  have v0 := HS8.out.cell 0
  have v1 := HS8.out.cell 1
  clear hr8 hb8 hgt hmt HB7 HM7 HX7 HS7
  go_wp2_with fail
  clear v0 v1
  have ht := rows_yes R C a b gt ct m2 d HD.out HA.out HBb.out HAB.out (by rw [hm2l]; exact HLn.out) HM2w.out _ HMt.out (HT0.out.below HB8.out)
  rw [hm2l, ← HM3e.out] at ht
  with_reducible refine ht.mono ?_
  clear ht
  rintro e w9 ⟨rfl, hm9, hf9⟩
  have HB9 := Aside0.mk (HB8.out.trans (hf9.below (B := w.heap.size) HB8.out.size (by simpa using HGt.out)))
  have HM9 := Aside0.mk hm9
  have HX9 := Aside0.mk (HX8.out.fr hf9 (by simpa using HNt.out))
  have HS9 := Aside0.mk (HS8.out.fr hf9 (by simpa using HNs.out))
  have v0 := HS9.out.cell 0
  have v1 := HS9.out.cell 1
  clear hm9 hf9 HB8 HMt HX8 HS8
  go_wp2_with fail
  clear v0 v1
  have ht := shape_Transpose.calls kp (some ⟨gt, 0, none⟩) ct m3 (R : Int) (C : Int) m4 0 _ (In.of_mr HM9.out (by omega)).r (In.of_mr HM9.out (by omega)).c HKP.out (HT0.out.below HB9.out)
  rw [hm3l] at ht
  with_reducible refine ht.mono ?_
  clear ht
  rintro e w10 ⟨v, rfl, hr10, hb10⟩
  obtain ⟨gp, cp, hv, hgp, hmp⟩ := Mr.of_R hr10 (by omega)
  subst hv
  rw [hm4l]
  have HB10 := Aside0.mk (below_then HB9.out HB9.out.size hb10)
  have HMp := Aside0.mk hmp
  have HX10 := Aside0.mk (HX9.out.below hb10)
  clear hr10 hb10 hgp hmp HB9 HM9 HX9 HS9
  go_wp2_with ((with_reducible refine gate_builtin (b := .copy) (xs := #[.tmp 58, .tmp 59]) rfl ?_); refine copy_mr rfl (.tmp 58) (.tmp 59) 24 24 rfl Tryd.underlying24 size_u64 g c xs m4 ⟨gp, 0, none⟩ cp rfl (by rw [hm4l]; rfl) HX10.out hm4l ?hsrc ?_; (case hsrc => (intro j hj; rw [add_at, Nat.zero_add]; exact HMp.out.cell j (by omega))); intro w11 hm11 hf11; have HM11 := Aside0.mk hm11; have HF11 := Aside0.mk ((Fr.of_below HB10.out [g]).trans hf11); clear hm11 hf11)
  go_wp2
  go_ret
  exact ⟨rfl, HM11.out, HF11.out⟩
end Go.Proofs.YtpnkcjnemoompaaDoor.Kern
end
section
namespace Go.Proofs.YtpnkcjnemoompaaDoor.Kern
open Go.RowKit Go.Proofs.YtpnkcjnemoompaaDoor Go.Proofs.YtpnkcjnemoompaaDoor.Ext Go.Proofs.YtpnkcjnemoompaaDoor.PPlan Go.Proofs.YtpnkcjnemoompaaDoor.PFft Go.Proofs.YtpnkcjnemoompaaDoor.Pure Go.Proofs.YtpnkcjnemoompaaDoor.Obj Go.Proofs.YtpnkcjnemoompaaDoor.Fft Go.Proofs.YtpnkcjnemoompaaDoorW.PrintWords Go.Proofs.YtpnkcjnemoompaaDoorW.PrintLast Go.Proofs.YtpnkcjnemoompaaDoorW.PrintMore
set_option linter.unusedVariables false
set_option linter.unusedSimpArgs false
set_option maxRecDepth 100000
theorem one_tr : tb 4 (tr 2 0 (el [1, 0, 0, 0])) = [1, 1, 1, 1] := by
  have h : ∀ i, i < 4 → tr 2 0 (el [1, 0, 0, 0]) i = 1 := by
    intro i _
    unfold tr dft
    rw [if_neg (by decide), show (2 : Nat) ^ 2 = 4 from rfl, sm_four, show el [1, 0, 0, 0] 0 = 1 from fo_one, show el [1, 0, 0, 0] 1 = 0 from fo_zero, show el [1, 0, 0, 0] 2 = 0 from fo_zero, show el [1, 0, 0, 0] 3 = 0 from fo_zero, Nat.zero_mul, pw_zero]
    grobner
  rw [tb_congr h]
  show (List.range 4).map (fun _ => fv 1) = _
  rw [fv_one]
  rfl
theorem one_ws : Ws [1, 0, 0, 0] := Ws.of (by decide)
theorem rdl_get (ps : List (List Int)) (i : Nat) (h : i < ps.length) : rd_L1 ps (i : Int) = ps[i] := by
  unfold rd_L1
  rw [Int.toNat_natCast, List.getD_eq_getElem?_getD, List.getElem?_eq_getElem h]
  rfl
theorem flat_take (ps : List (List Int)) (i : Nat) (h : i < ps.length) : (ps.take (i + 1)).flatten = (ps.take i).flatten ++ ps[i] := by
  rw [List.take_succ_eq_append_getElem h, List.flatten_append]
  simp
theorem flat_len (ps : List (List Int)) (i : Nat) : (ps.take i).flatten.length ≤ ps.flatten.length := by
  have h := congrArg (fun z => (List.flatten z).length) (List.take_append_drop i ps)
  simp only [List.flatten_append, List.length_append] at h
  omega
theorem join_loop (ps : List (List Int)) (hB : ps.flatten.length < 17592186044416) (hn : ps.length ≤ 1048576) (m : Nat) : ∀ i, i + m = ps.length → Ev (fun k => rows_Join.l0 k (ps.take i).flatten ps (ps.length : Int) (i : Int)) ps.flatten := by
  induction m with
  | zero =>
    intro i hi
    obtain rfl : i = ps.length := by omega
    rw [List.take_length]
    refine Ev.step (f := fun _ => some _) (fun k => ?_) (Ev.now _)
    simp only [rows_Join.l0]
    rw [if_neg (by omega)]
  | succ m ih =>
    intro i hi
    have hl := flat_len ps (i + 1)
    refine Ev.step (f := fun k => rows_Join.l0 k (ps.take (i + 1)).flatten ps (ps.length : Int) ((i + 1 : Nat) : Int)) (fun k => ?_) (ih (i + 1) (by omega))
    rw [flat_take ps i (by omega)] at hl ⊢
    rw [List.length_append] at hl
    simp only [rows_Join.l0]
    rw [if_pos (by omega), if_pos (by omega), if_pos (by omega), rdl_get ps i (by omega), if_pos (by omega), wsucc i (by omega)]
theorem join_is (ps : List (List Int)) (hB : ps.flatten.length < 17592186044416) (hn : ps.length ≤ 1048576) : Ev (fun k => rows_Join.f k ps) ps.flatten := join_loop ps hB hn ps.length 0 (by omega)
theorem one_row {w : World} {q c : Nat} {A : Option Addr} {xs : List Int} (hb : Bk w q 24 [.slice A xs.length c]) (h : In w A c xs) : Kd.C (Kd.slice 45 (Kd.int .u64)) w (some ⟨q, 0, none⟩) [xs].length [xs] := by
  refine ⟨rfl, by rw [List.length_singleton]; omega, fun _ => ⟨⟨q, 0, none⟩, rfl, fun j p hj => ?_⟩⟩
  have h0 : j = 0 := by
    have := (List.getElem?_eq_some_iff.1 hj).1
    simp at this
    exact this
  subst h0
  obtain rfl : xs = p := by simpa using hj
  refine ⟨[.slice A xs.length c], rfl, ⟨A, c, rfl, h.c, h.r⟩, fun i u hu => ?_⟩
  have h1 : i = 0 := by
    have := (List.getElem?_eq_some_iff.1 hu).1
    simp at this
    exact this
  subst h1
  obtain rfl : Value.slice A xs.length c = u := by simpa using hu
  exact hb.cell 0
theorem awake_calls (w : World) (hT : TabOK w) :
    Calls Tryd.prog 34 #[] w fun e w' => e = .returned (.bool true) ∧ Below w.heap.size w w' := by
  have HT := Aside0.mk hT
  have HB := Aside0.mk (below_alloc (Below.refl w.heap.size w) (Obj.cells #[.int .u64 1, .int .u64 0, .int .u64 0, .int .u64 0] 45))
  have HR := Aside0.mk (Mr.of_rw (show Rw _ w.heap.size [1, 0, 0, 0] from Bk.new w 45 [.int .u64 1, .int .u64 0, .int .u64 0, .int .u64 0]))
  clear hT
  go_enter Tryd.func34, Tryd.ntmps34
  go_wp2_with fail
  have h6 := six_yes 2 2 1 1 w.heap.size 4 [1, 0, 0, 0] 0 (.inl rfl) rfl rfl (by decide) rfl one_ws _ HR.out (HT.out.below HB.out)
  rw [show ([1, 0, 0, 0] : List Int).length = 4 from rfl, one_tr, show ((2 : Nat) : Int) = 2 from rfl] at h6
  with_reducible refine h6.mono ?_
  clear h6
  rintro e w1 ⟨rfl, hm, hf⟩
  have HB1 := Aside0.mk (HB.out.trans (hf.below (B := w.heap.size) HB.out.size (by simp)))
  have HM1 := Aside0.mk hm
  clear hm hf HB HR
  have HB2 := Aside0.mk (below_alloc HB1.out (Obj.cells #[.slice (some ⟨w.heap.size, 0, none⟩) 4 4] 24))
  have HM2 := Aside0.mk (HM1.out.below (below_alloc (Below.refl w1.heap.size w1) (Obj.cells #[.slice (some ⟨w.heap.size, 0, none⟩) 4 4] 24)))
  have HQ := Aside0.mk (Bk.new w1 24 [.slice (some ⟨w.heap.size, 0, none⟩) 4 4])
  obtain ⟨k, hk⟩ := (join_is [[1, 1, 1, 1]] (by decide) (by decide)).rounds
  have HK := Aside0.mk hk
  have m0 := HM1.out.cell 0 (by decide)
  have m1 := HM1.out.cell 1 (by decide)
  have m2 := HM1.out.cell 2 (by decide)
  have m3 := HM1.out.cell 3 (by decide)
  clear hk
  go_wp2_with fail
  have hj := rows_Join.calls k (some ⟨w1.heap.size, 0, none⟩) 1 [[1, 1, 1, 1]] [1, 1, 1, 1] _ (one_row (c := 4) HQ.out (In.of_mr HM2.out (by decide))) (by decide) HK.out
  rw [show ([[1, 1, 1, 1]] : List (List Int)).length = 1 from rfl] at hj
  with_reducible refine hj.mono ?_
  clear hj
  rintro e w3 ⟨v, rfl, hr3, hb3⟩
  obtain ⟨gj, cj, hv, hgj, hmj⟩ := Mr.of_R hr3 (by decide)
  subst hv
  have HB3 := Aside0.mk (below_then HB2.out HB2.out.size hb3)
  have HM3 := Aside0.mk (HM2.out.below hb3)
  clear hr3 hb3 hgj hmj m0 m1 m2 m3
  have m0 := HM3.out.cell 0 (by decide)
  have m1 := HM3.out.cell 1 (by decide)
  have m2 := HM3.out.cell 2 (by decide)
  have m3 := HM3.out.cell 3 (by decide)
  rw [show ([1, 1, 1, 1] : List Int).length = 4 from rfl]
  go_wp2
  go_ret
  exact ⟨rfl, HB3.out⟩
end Go.Proofs.YtpnkcjnemoompaaDoor.Kern
end
section
set_option linter.unusedVariables false
set_option linter.unusedSimpArgs false
namespace Go.Proofs.YtpnkcjnemoompaaDoor.Pure
open Go.RowKit Go.Proofs.YtpnkcjnemoompaaDoor Go.Proofs.YtpnkcjnemoompaaDoor.PPlan Go.Proofs.YtpnkcjnemoompaaDoor.PFft Go.Proofs.YtpnkcjnemoompaaDoor.Ext Go.Proofs.YtpnkcjnemoompaaDoorW.PrintWords Go.Proofs.YtpnkcjnemoompaaDoorW.PrintLast Go.Proofs.YtpnkcjnemoompaaDoorW.PrintMore
theorem rd_nat (l : List Int) (i : Nat) : rd l (i : Int) = l.getD i 0 := by unfold rd; rw [Int.toNat_natCast]
theorem next_i (i n : Nat) (h : i < n) (hn : n ≤ 9223372036854775807) : wrap64 ((i : Int) + 1) = ((i + 1 : Nat) : Int) := by unfold wrap64; omega
theorem getD_lt (l : List Int) (i : Nat) (h : i < l.length) : l.getD i 0 = l[i] := by simp [List.getD, h]
theorem same_loop (a b : List Int) (hl : a.length = b.length) (hn : a.length ≤ 9223372036854775807) (d : Nat) : ∀ i : Nat, i + d = a.length → (∀ j, j < i → a.getD j 0 = b.getD j 0) →
    Ev (fun k => abacistref04_Same.l0 k a b (i : Int)) (decide (a = b)) := by
  induction d with
  | zero =>
    intro i hi hj
    refine Ev.step (f := fun _ => some true) (fun k => ?_) ?_
    · simp only [abacistref04_Same.l0]
      rw [if_neg (by omega)]
    · have e : a = b := List.ext_getElem hl fun j h1 h2 => by
        have := hj j (by omega)
        rw [getD_lt _ _ h1, getD_lt _ _ h2] at this
        exact this
      rw [decide_eq_true e]
      exact Ev.now _
  | succ d ih =>
    intro i hi hj
    have e1 := next_i i a.length (by omega) hn
    by_cases c : a.getD i 0 = b.getD i 0
    · refine Ev.step (f := fun k => abacistref04_Same.l0 k a b ((i + 1 : Nat) : Int)) (fun k => ?_) (ih (i + 1) (by omega) fun j hj2 => ?_)
      · simp only [abacistref04_Same.l0]
        rw [if_pos (by omega), if_pos (by omega), if_pos (by omega), rd_nat, rd_nat, if_pos c, e1]
      · by_cases c2 : j = i
        · subst c2; exact c
        · exact hj j (by omega)
    · refine Ev.step (f := fun _ => some false) (fun k => ?_) ?_
      · simp only [abacistref04_Same.l0]
        rw [if_pos (by omega), if_pos (by omega), if_pos (by omega), rd_nat, rd_nat, if_neg c]
      · rw [decide_eq_false (fun h => c (by rw [h]))]
        exact Ev.now _
theorem same_ (a b : List Int) (hn : a.length ≤ 9223372036854775807) : Ev (fun k => abacistref04_Same.f k a b) (decide (a = b)) := by
  unfold abacistref04_Same.f
  by_cases c : a.length = b.length
  · exact Ev_if (by omega) (same_loop a b c hn a.length 0 (by omega) fun j h => by omega)
  · refine Ev_ifn (by omega) ?_
    rw [decide_eq_false (fun h => c (by rw [h]))]
    exact Ev.now _
theorem same_yes (a b : List Int) (hn : a.length ≤ 9223372036854775807) (h : a = b) : Ev (fun k => abacistref04_Same.f k a b) true := by
  have := same_ a b hn
  rwa [decide_eq_true h] at this
end Go.Proofs.YtpnkcjnemoompaaDoor.Pure
end
section
namespace Go.Proofs.YtpnkcjnemoompaaDoor.Kern
open Go.RowKit Go.Proofs.YtpnkcjnemoompaaDoor Go.Proofs.YtpnkcjnemoompaaDoor.Ext Go.Proofs.YtpnkcjnemoompaaDoor.PPlan Go.Proofs.YtpnkcjnemoompaaDoor.PFft Go.Proofs.YtpnkcjnemoompaaDoor.Pure Go.Proofs.YtpnkcjnemoompaaDoor.Obj Go.Proofs.YtpnkcjnemoompaaDoor.Fft Go.Proofs.YtpnkcjnemoompaaDoorW.PrintWords Go.Proofs.YtpnkcjnemoompaaDoorW.PrintLast Go.Proofs.YtpnkcjnemoompaaDoorW.PrintMore
set_option linter.unusedVariables false
set_option linter.unusedSimpArgs false
set_option maxRecDepth 100000
theorem In.of {w : World} {a : Option Addr} {len cap : Nat} {z : List Int} (h : (a = none ∧ len = 0 ∧ cap = 0 ∧ z = []) ∨ ∃ x, a = some x ∧ len ≤ cap ∧ cap ≤ maxLen ∧ z.length = cap ∧ (∀ i, i < z.length → w.cell? (x.add i) = some (.int .u64 (z.getD i 0))) ∧ ∀ n ∈ z, (Lit.int .u64 n).wf = true) : ∃ l : List Int, len = l.length ∧ In w a cap l ∧ Ws l := by
  obtain ⟨l, rfl, hr, hm, hw, hc⟩ := ReadsInt.ofRowC h
  exact ⟨l, rfl, ⟨Kd.C_of_reads (d := (0 : Int)) (h1 := fun _ => rfl) hr, hc⟩, Ws.of hw⟩
theorem In.drawn {w w' : World} {A : Option Addr} {c : Nat} {l : List Int} (h : In w A c l) (hd : Drawn0 w w') : In w' A c l := h.below hd.below
theorem same_calls (A B : Option Addr) (c c' : Nat) (a b : List Int) (w : World) (ha : In w A c a) (hb : In w B c' b) (hn : a.length ≤ 1048576) (h : a = b) :
    Calls Tryd.prog 19 #[.slice A a.length c, .slice B b.length c'] w fun e w' => e = .returned (.bool true) ∧ Drawn0 w w' := by
  obtain ⟨k, hk⟩ := (same_yes a b (by omega) h).rounds
  exact abacistref04_Same.calls k A c a B c' b true w ha.r ha.c hb.r hb.c hk
theorem six_shape (A : Option Addr) (c : Nat) (l : List Int) (R C d : Int) (w : World) (hl : In w A c l) (hL : l.length ≤ 64) (hg : ¬ GoodS R C) (hT : TabOK w) :
    Calls Tryd.prog 8 #[.slice A l.length c, .agg #[.int .i64 R, .int .i64 C], .int .i64 d] w fun e w' => e = .returned (.bool true) ∧ Below w.heap.size w w' := by
  have HR := Aside0.mk (show (19 : Int) = ckw l R C d by unfold ckw; rw [if_neg (fun q => hg q.1)])
  obtain ⟨kg, hkg⟩ := (rgood_no R C hg).rounds
  have HG := Aside0.mk hkg
  clear hkg hg
  have HT0 := Aside0.mk hT
  have HB := Aside0.mk (below_alloc (Below.refl w.heap.size w) (Obj.cells #[.int .i64 R, .int .i64 C] 23))
  have HS := Aside0.mk (Bk.new w 23 [.int .i64 R, .int .i64 C])
  have HL0 := Aside0.mk hl
  have HL := Aside0.mk (hl.below HB.out)
  obtain ⟨bs, hbs⟩ : ∃ z, z = w.heap.size := ⟨_, rfl⟩
  have hbg : w.heap.size ≤ bs := by omega
  have d1 : decide ((64 : Int) < (l.length : Int)) = false := decide_eq_false (by omega)
  clear hT hl
  go_enter Tryd.func8, Tryd.ntmps8
  go_wp2_with fail
  with_reducible refine (awake_calls _ (HT0.out.below HB.out)).mono ?_
  rintro e w1 ⟨rfl, hb⟩
  rw [← hbs] at HS ⊢
  clear hbs
  have HB1 := Aside0.mk (below_then HB.out HB.out.size hb)
  have HL1 := Aside0.mk (HL.out.below hb)
  have HS1 := Aside0.mk (HS.out.below hb)
  have v0 := HS1.out.cell 0
  have v1 := HS1.out.cell 1
  clear hb HB HL HS
  go_wp2_with (first | ((with_reducible refine gate_dst (N := 14) rfl ?_); refine Kd.R_lit (Kd.int .u64) _ 45 ?hg (N := 14) ?hd (xs := []) (inner := []) (ok := fun _ => True) (okp := fun _ => True) ?hr ?hp (fun _ hk => hk) trivial (Below.refl _ _) (Nat.le_refl _) (by simp) ?_; (case hd => rfl); (case hg => rfl); (case hr => first | (go_simp; done) | (go_simp; rfl)); (case hp => exact (Reps.none _ _)); intro v5 w5 ho hb hg_ hnew_; have HOx := Aside0.mk ho; have HBx := Aside0.mk hb; clear hg_ hnew_ ho hb) | ((with_reducible refine gate_builtin (b := .append) (xs := #[.tmp 14, .tmp 15]) rfl ?_); at_builtin; refine Kd.R_append_rows (Kd.int .u64) (w0 := w1) w1.heap.size rfl (.tmp 14) (.tmp 15) 24 45 (.int .u64 0) 8 rfl Tryd.underlying24 info45 rfl (by decide) (by omega) v5 [] (l) _ _ _ (fun _ => True) (fun _ => False) rfl rfl ?aO ?aR (fun _ _ h => h) (fun _ h => h.elim) ?aF ?aB ?aS ?aL ?_; (case aR => exact (Kd.C_below (HL1.out.r) HBx.out)); (case aB => exact HBx.out); (case aF => exact (fun _ _ => trivial)); (case aO => exact HOx.out); (case aS => exact HBx.out.size); (case aL => (simp only [List.length_nil]; omega)); intro v6 w6 ho2 hb2 hg_ hat_; rw [List.nil_append] at ho2; clear hg_ hat_; clear HOx HBx; obtain ⟨Am, cm, hv, hlm, hcm⟩ := Kd.R_reads ho2; subst hv; have HMm := Aside0.mk (In.mk hcm hlm); clear hcm hlm; have HB6 := Aside0.mk (below_then HB1.out HB1.out.size hb2); have HL6 := Aside0.mk (HL1.out.below hb2); have HS6 := Aside0.mk (HS1.out.below hb2); clear hb2 ho2 v0 v1 HB1 HL1 HS1; have v0 := HS6.out.cell 0; have v1 := HS6.out.cell 1))
  clear v0 v1
  with_reducible refine (six_no Am cm l R C d 19 _ HMm.out HR.out rfl (HT0.out.below HB6.out)).mono ?_
  rintro e w7 ⟨rfl, hb⟩
  have HB7 := Aside0.mk (below_then HB6.out HB6.out.size hb)
  have HL7 := Aside0.mk (HL6.out.below hb)
  have HM7 := Aside0.mk (HMm.out.below hb)
  have HS7 := Aside0.mk (HS6.out.below hb)
  have v0 := HS7.out.cell 0
  have v1 := HS7.out.cell 1
  clear hb HB6 HL6 HMm HS6
  go_wp2_with fail
  clear v0 v1
  with_reducible refine (abacistref06_Good.calls kg R C false _ HG.out).mono ?_
  rintro e w8 ⟨rfl, hb⟩
  have HB8 := Aside0.mk (below_then HB7.out HB7.out.size hb)
  have HL8 := Aside0.mk (HL7.out.below hb)
  have HM8 := Aside0.mk (HM7.out.below hb)
  have HS8 := Aside0.mk (HS7.out.below hb)
  have v0 := HS8.out.cell 0
  have v1 := HS8.out.cell 1
  clear hb HB7 HL7 HM7 HS7
  go_wp2_with fail
  clear v0 v1
  with_reducible refine (same_calls Am A cm c l l _ HM8.out HL8.out (by omega) rfl).mono ?_
  rintro e w9 ⟨rfl, hd⟩
  have HB9 := Aside0.mk (below_then HB8.out HB8.out.size hd.below)
  clear hd HB8 HL8 HM8 HS8
  go_wp2
  go_ret
  exact ⟨rfl, HB9.out⟩
theorem six_size (A : Option Addr) (c : Nat) (l : List Int) (R C d : Int) (w : World) (hl : In w A c l) (hL : l.length ≤ 64) (hg : GoodS R C) (hs : R * C ≠ (l.length : Int)) (hT : TabOK w) :
    Calls Tryd.prog 8 #[.slice A l.length c, .agg #[.int .i64 R, .int .i64 C], .int .i64 d] w fun e w' => e = .returned (.bool true) ∧ Below w.heap.size w w' := by
  have HR := Aside0.mk (show (19 : Int) = ckw l R C d by unfold ckw; rw [if_neg (fun q => hs q.2)])
  obtain ⟨kg, hkg⟩ := (rgood_yes R C hg).rounds
  have HG := Aside0.mk hkg
  obtain ⟨a, b, hab, ha, hb⟩ := good_ints hg
  have hp2 := pow32 hab
  rw [Nat.pow_add] at hp2
  have e1 : wrap64 (R * C) = R * C := by rw [ha, hb, ← Int.natCast_mul]; exact wrap_i _ (by omega) (by omega)
  have HE := Aside0.mk e1
  have HNE := Aside0.mk hs
  clear hkg hg hab ha hb hp2 e1 hs a b
  have HT0 := Aside0.mk hT
  have HB := Aside0.mk (below_alloc (Below.refl w.heap.size w) (Obj.cells #[.int .i64 R, .int .i64 C] 23))
  have HS := Aside0.mk (Bk.new w 23 [.int .i64 R, .int .i64 C])
  have HL0 := Aside0.mk hl
  have HL := Aside0.mk (hl.below HB.out)
  obtain ⟨bs, hbs⟩ : ∃ z, z = w.heap.size := ⟨_, rfl⟩
  have hbg : w.heap.size ≤ bs := by omega
  have d1 : decide ((64 : Int) < (l.length : Int)) = false := decide_eq_false (by omega)
  clear hT hl
  go_enter Tryd.func8, Tryd.ntmps8
  go_wp2_with fail
  with_reducible refine (awake_calls _ (HT0.out.below HB.out)).mono ?_
  rintro e w1 ⟨rfl, hb⟩
  rw [← hbs] at HS ⊢
  clear hbs
  have HB1 := Aside0.mk (below_then HB.out HB.out.size hb)
  have HL1 := Aside0.mk (HL.out.below hb)
  have HS1 := Aside0.mk (HS.out.below hb)
  have v0 := HS1.out.cell 0
  have v1 := HS1.out.cell 1
  clear hb HB HL HS
  go_wp2_with (first | ((with_reducible refine gate_dst (N := 14) rfl ?_); refine Kd.R_lit (Kd.int .u64) _ 45 ?hg (N := 14) ?hd (xs := []) (inner := []) (ok := fun _ => True) (okp := fun _ => True) ?hr ?hp (fun _ hk => hk) trivial (Below.refl _ _) (Nat.le_refl _) (by simp) ?_; (case hd => rfl); (case hg => rfl); (case hr => first | (go_simp; done) | (go_simp; rfl)); (case hp => exact (Reps.none _ _)); intro v5 w5 ho hb hg_ hnew_; have HOx := Aside0.mk ho; have HBx := Aside0.mk hb; clear hg_ hnew_ ho hb) | ((with_reducible refine gate_builtin (b := .append) (xs := #[.tmp 14, .tmp 15]) rfl ?_); at_builtin; refine Kd.R_append_rows (Kd.int .u64) (w0 := w1) w1.heap.size rfl (.tmp 14) (.tmp 15) 24 45 (.int .u64 0) 8 rfl Tryd.underlying24 info45 rfl (by decide) (by omega) v5 [] (l) _ _ _ (fun _ => True) (fun _ => False) rfl rfl ?aO ?aR (fun _ _ h => h) (fun _ h => h.elim) ?aF ?aB ?aS ?aL ?_; (case aR => exact (Kd.C_below (HL1.out.r) HBx.out)); (case aB => exact HBx.out); (case aF => exact (fun _ _ => trivial)); (case aO => exact HOx.out); (case aS => exact HBx.out.size); (case aL => (simp only [List.length_nil]; omega)); intro v6 w6 ho2 hb2 hg_ hat_; rw [List.nil_append] at ho2; clear hg_ hat_; clear HOx HBx; obtain ⟨Am, cm, hv, hlm, hcm⟩ := Kd.R_reads ho2; subst hv; have HMm := Aside0.mk (In.mk hcm hlm); clear hcm hlm; have HB6 := Aside0.mk (below_then HB1.out HB1.out.size hb2); have HL6 := Aside0.mk (HL1.out.below hb2); have HS6 := Aside0.mk (HS1.out.below hb2); clear hb2 ho2 v0 v1 HB1 HL1 HS1; have v0 := HS6.out.cell 0; have v1 := HS6.out.cell 1))
  clear v0 v1
  with_reducible refine (six_no Am cm l R C d 19 _ HMm.out HR.out rfl (HT0.out.below HB6.out)).mono ?_
  rintro e w7 ⟨rfl, hb⟩
  have HB7 := Aside0.mk (below_then HB6.out HB6.out.size hb)
  have HL7 := Aside0.mk (HL6.out.below hb)
  have HM7 := Aside0.mk (HMm.out.below hb)
  have HS7 := Aside0.mk (HS6.out.below hb)
  have v0 := HS7.out.cell 0
  have v1 := HS7.out.cell 1
  clear hb HB6 HL6 HMm HS6
  go_wp2_with fail
  clear v0 v1
  with_reducible refine (abacistref06_Good.calls kg R C true _ HG.out).mono ?_
  rintro e w8 ⟨rfl, hb⟩
  have HB8 := Aside0.mk (below_then HB7.out HB7.out.size hb)
  have HL8 := Aside0.mk (HL7.out.below hb)
  have HM8 := Aside0.mk (HM7.out.below hb)
  have HS8 := Aside0.mk (HS7.out.below hb)
  have v0 := HS8.out.cell 0
  have v1 := HS8.out.cell 1
  clear hb HB7 HL7 HM7 HS7
  have e2 : (wrap64 (R * C) != (l.length : Int)) = true := by rw [HE.out, bne_iff_ne]; exact HNE.out
  go_wp2_with fail
  clear v0 v1
  with_reducible refine (same_calls Am A cm c l l _ HM8.out HL8.out (by omega) rfl).mono ?_
  rintro e w9 ⟨rfl, hd⟩
  have HB9 := Aside0.mk (below_then HB8.out HB8.out.size hd.below)
  clear hd HB8 HL8 HM8 HS8
  go_wp2
  go_ret
  exact ⟨rfl, HB9.out⟩
theorem six_kind (A : Option Addr) (c : Nat) (l : List Int) (R C d : Int) (w : World) (hl : In w A c l) (hL : l.length ≤ 64) (hg : GoodS R C) (hs : R * C = (l.length : Int)) (hd : ¬ (d = 0 ∨ d = 1)) (hT : TabOK w) :
    Calls Tryd.prog 8 #[.slice A l.length c, .agg #[.int .i64 R, .int .i64 C], .int .i64 d] w fun e w' => e = .returned (.bool true) ∧ Below w.heap.size w w' := by
  have HR := Aside0.mk (show (18 : Int) = ckw l R C d by unfold ckw; rw [if_pos ⟨hg, hs⟩, if_neg hd])
  obtain ⟨kg, hkg⟩ := (rgood_yes R C hg).rounds
  have HG := Aside0.mk hkg
  obtain ⟨a, b, hab, ha, hb⟩ := good_ints hg
  have hp2 := pow32 hab
  rw [Nat.pow_add] at hp2
  have e1 : wrap64 (R * C) = (l.length : Int) := by rw [← hs, ha, hb, ← Int.natCast_mul]; exact wrap_i _ (by omega) (by omega)
  have HE := Aside0.mk e1
  have k0 : (d != 0) = true := by rw [bne_iff_ne]; omega
  have k1 : (d != 1) = true := by rw [bne_iff_ne]; omega
  clear hkg hg hab ha hb hp2 e1 hs a b hd
  have HT0 := Aside0.mk hT
  have HB := Aside0.mk (below_alloc (Below.refl w.heap.size w) (Obj.cells #[.int .i64 R, .int .i64 C] 23))
  have HS := Aside0.mk (Bk.new w 23 [.int .i64 R, .int .i64 C])
  have HL0 := Aside0.mk hl
  have HL := Aside0.mk (hl.below HB.out)
  obtain ⟨bs, hbs⟩ : ∃ z, z = w.heap.size := ⟨_, rfl⟩
  have hbg : w.heap.size ≤ bs := by omega
  have d1 : decide ((64 : Int) < (l.length : Int)) = false := decide_eq_false (by omega)
  clear hT hl
  go_enter Tryd.func8, Tryd.ntmps8
  go_wp2_with fail
  with_reducible refine (awake_calls _ (HT0.out.below HB.out)).mono ?_
  rintro e w1 ⟨rfl, hb⟩
  rw [← hbs] at HS ⊢
  clear hbs
  have HB1 := Aside0.mk (below_then HB.out HB.out.size hb)
  have HL1 := Aside0.mk (HL.out.below hb)
  have HS1 := Aside0.mk (HS.out.below hb)
  have v0 := HS1.out.cell 0
  have v1 := HS1.out.cell 1
  clear hb HB HL HS
  go_wp2_with (first | ((with_reducible refine gate_dst (N := 14) rfl ?_); refine Kd.R_lit (Kd.int .u64) _ 45 ?hg (N := 14) ?hd (xs := []) (inner := []) (ok := fun _ => True) (okp := fun _ => True) ?hr ?hp (fun _ hk => hk) trivial (Below.refl _ _) (Nat.le_refl _) (by simp) ?_; (case hd => rfl); (case hg => rfl); (case hr => first | (go_simp; done) | (go_simp; rfl)); (case hp => exact (Reps.none _ _)); intro v5 w5 ho hb hg_ hnew_; have HOx := Aside0.mk ho; have HBx := Aside0.mk hb; clear hg_ hnew_ ho hb) | ((with_reducible refine gate_builtin (b := .append) (xs := #[.tmp 14, .tmp 15]) rfl ?_); at_builtin; refine Kd.R_append_rows (Kd.int .u64) (w0 := w1) w1.heap.size rfl (.tmp 14) (.tmp 15) 24 45 (.int .u64 0) 8 rfl Tryd.underlying24 info45 rfl (by decide) (by omega) v5 [] (l) _ _ _ (fun _ => True) (fun _ => False) rfl rfl ?aO ?aR (fun _ _ h => h) (fun _ h => h.elim) ?aF ?aB ?aS ?aL ?_; (case aR => exact (Kd.C_below (HL1.out.r) HBx.out)); (case aB => exact HBx.out); (case aF => exact (fun _ _ => trivial)); (case aO => exact HOx.out); (case aS => exact HBx.out.size); (case aL => (simp only [List.length_nil]; omega)); intro v6 w6 ho2 hb2 hg_ hat_; rw [List.nil_append] at ho2; clear hg_ hat_; clear HOx HBx; obtain ⟨Am, cm, hv, hlm, hcm⟩ := Kd.R_reads ho2; subst hv; have HMm := Aside0.mk (In.mk hcm hlm); clear hcm hlm; have HB6 := Aside0.mk (below_then HB1.out HB1.out.size hb2); have HL6 := Aside0.mk (HL1.out.below hb2); have HS6 := Aside0.mk (HS1.out.below hb2); clear hb2 ho2 v0 v1 HB1 HL1 HS1; have v0 := HS6.out.cell 0; have v1 := HS6.out.cell 1))
  clear v0 v1
  with_reducible refine (six_no Am cm l R C d 18 _ HMm.out HR.out rfl (HT0.out.below HB6.out)).mono ?_
  rintro e w7 ⟨rfl, hb⟩
  have HB7 := Aside0.mk (below_then HB6.out HB6.out.size hb)
  have HL7 := Aside0.mk (HL6.out.below hb)
  have HM7 := Aside0.mk (HMm.out.below hb)
  have HS7 := Aside0.mk (HS6.out.below hb)
  have v0 := HS7.out.cell 0
  have v1 := HS7.out.cell 1
  clear hb HB6 HL6 HMm HS6
  go_wp2_with fail
  clear v0 v1
  with_reducible refine (abacistref06_Good.calls kg R C true _ HG.out).mono ?_
  rintro e w8 ⟨rfl, hb⟩
  have HB8 := Aside0.mk (below_then HB7.out HB7.out.size hb)
  have HL8 := Aside0.mk (HL7.out.below hb)
  have HM8 := Aside0.mk (HM7.out.below hb)
  have HS8 := Aside0.mk (HS7.out.below hb)
  have v0 := HS8.out.cell 0
  have v1 := HS8.out.cell 1
  clear hb HB7 HL7 HM7 HS7
  have e2 : (wrap64 (R * C) != (l.length : Int)) = false := by rw [HE.out, bne_eq_false_iff_eq]
  go_wp2_with fail
  clear v0 v1
  with_reducible refine (same_calls Am A cm c l l _ HM8.out HL8.out (by omega) rfl).mono ?_
  rintro e w9 ⟨rfl, hd⟩
  have HB9 := Aside0.mk (below_then HB8.out HB8.out.size hd.below)
  clear hd HB8 HL8 HM8 HS8
  go_wp2
  go_ret
  exact ⟨rfl, HB9.out⟩
end Go.Proofs.YtpnkcjnemoompaaDoor.Kern
end
section
namespace Go.Proofs.YtpnkcjnemoompaaDoor.Kern
open Go.RowKit Go.Proofs.YtpnkcjnemoompaaDoor Go.Proofs.YtpnkcjnemoompaaDoor.Ext Go.Proofs.YtpnkcjnemoompaaDoor.PPlan Go.Proofs.YtpnkcjnemoompaaDoor.PFft Go.Proofs.YtpnkcjnemoompaaDoor.Pure Go.Proofs.YtpnkcjnemoompaaDoor.Obj Go.Proofs.YtpnkcjnemoompaaDoor.Fft Go.Proofs.YtpnkcjnemoompaaDoorW.PrintWords Go.Proofs.YtpnkcjnemoompaaDoorW.PrintLast Go.Proofs.YtpnkcjnemoompaaDoorW.PrintMore
set_option linter.unusedVariables false
set_option linter.unusedSimpArgs false
set_option maxRecDepth 100000
set_option maxHeartbeats 4000000 in
theorem six_good0 (A : Option Addr) (c : Nat) (l : List Int) (R C a b : Nat) (w : World) (hl : In w A c l) (hW : Ws l) (hL : l.length ≤ 64) (ha : R = 2 ^ a) (hb : C = 2 ^ b) (hab : a + b ≤ 20) (hRC : R * C = l.length) (hT : TabOK w) :
    Calls Tryd.prog 8 #[.slice A l.length c, .agg #[.int .i64 (R : Int), .int .i64 (C : Int)], .int .i64 0] w fun e w' => e = .returned (.bool true) ∧ Below w.heap.size w w' := by
  have hp : 0 < l.length := by rw [← hRC, ha, hb, ← Nat.pow_add]; exact Nat.two_pow_pos _
  have hlen : l.length = 2 ^ (a + b) := by rw [← hRC, ha, hb, Nat.pow_add]
  have hG : GoodS R C := ⟨a, b, by omega, ⟨by omega, by rw [ha]⟩, ⟨by omega, by rw [hb]⟩⟩
  obtain ⟨kg, hkg⟩ := (rgood_yes R C hG).rounds
  have HG := Aside0.mk hkg
  obtain ⟨kf, hkf⟩ := (rfits_yes (l.length : Int) (a + b) ⟨by omega, by rw [hlen]⟩).rounds
  obtain ⟨kt, hkt⟩ := (rTransform l hW (a + b) (by omega) 0 (.inl rfl) (by omega) hlen).rounds
  obtain ⟨q, hq⟩ : ∃ z : Nat, z = a + b := ⟨_, rfl⟩
  rw [← hq] at hkf hkt
  have HF := Aside0.mk hkf
  have HTR := Aside0.mk hkt
  have HA := Aside0.mk ha
  have HBb := Aside0.mk hb
  have HAB := Aside0.mk hab
  have HRC := Aside0.mk hRC
  have HW := Aside0.mk hW
  have HQ := Aside0.mk hq
  have HE := Aside0.mk (show wrap64 ((R : Int) * (C : Int)) = (l.length : Int) by rw [mulc R C (by omega), hRC])
  clear hkg hkf hkt hG hlen ha hb hab hRC hW hq
  have HT0 := Aside0.mk hT
  have HB := Aside0.mk (below_alloc (Below.refl w.heap.size w) (Obj.cells #[.int .i64 (R : Int), .int .i64 (C : Int)] 23))
  have HS := Aside0.mk (Bk.new w 23 [.int .i64 (R : Int), .int .i64 (C : Int)])
  have HL0 := Aside0.mk hl
  have HL := Aside0.mk (hl.below HB.out)
  obtain ⟨bs, hbs⟩ : ∃ z, z = w.heap.size := ⟨_, rfl⟩
  have hbg : w.heap.size ≤ bs := by omega
  have d1 : decide ((64 : Int) < (l.length : Int)) = false := decide_eq_false (by omega)
  clear hT hl
  go_enter Tryd.func8, Tryd.ntmps8
  go_wp2_with fail
  with_reducible refine (awake_calls _ (HT0.out.below HB.out)).mono ?_
  rintro e w1 ⟨rfl, hb⟩
  rw [← hbs] at HS ⊢
  clear hbs
  have HB1 := Aside0.mk (below_then HB.out HB.out.size hb)
  have HL1 := Aside0.mk (HL.out.below hb)
  have HS1 := Aside0.mk (HS.out.below hb)
  have v0 := HS1.out.cell 0
  have v1 := HS1.out.cell 1
  clear hb HB HL HS
  go_wp2_with (first | ((with_reducible refine gate_dst (N := 14) rfl ?_); refine Kd.R_lit (Kd.int .u64) _ 45 ?hg (N := 14) ?hd (xs := []) (inner := []) (ok := fun _ => True) (okp := fun _ => True) ?hr ?hp (fun _ hk => hk) trivial (Below.refl _ _) (Nat.le_refl _) (by simp) ?_; (case hd => rfl); (case hg => rfl); (case hr => first | (go_simp; done) | (go_simp; rfl)); (case hp => exact (Reps.none _ _)); intro v5 w5 ho hb hg_ hnew_; have HOx := Aside0.mk ho; have HBx := Aside0.mk hb; clear hg_ hnew_ ho hb) | ((with_reducible refine gate_builtin (b := .append) (xs := #[.tmp 14, .tmp 15]) rfl ?_); at_builtin; refine Kd.R_append_rows (Kd.int .u64) (w0 := w1) w1.heap.size rfl (.tmp 14) (.tmp 15) 24 45 (.int .u64 0) 8 rfl Tryd.underlying24 info45 rfl (by decide) (by omega) v5 [] (l) _ _ _ (fun _ => True) (fun _ => False) rfl rfl ?aO ?aR (fun _ _ h => h) (fun _ h => h.elim) ?aF ?aB ?aS ?aL ?_; (case aR => exact (Kd.C_below (HL1.out.r) HBx.out)); (case aB => exact HBx.out); (case aF => exact (fun _ _ => trivial)); (case aO => exact HOx.out); (case aS => exact HBx.out.size); (case aL => (simp only [List.length_nil]; omega)); intro v6 w6 ho2 hb2 hg_ hat_; rw [List.nil_append] at ho2; clear hg_ hat_; clear HOx HBx; obtain ⟨gm, cm, hv, hgm, hmm⟩ := Mr.of_R ho2 hp; subst hv; have HMm := Aside0.mk hmm; have HGm := Aside0.mk (show w.heap.size ≤ gm by have := HB1.out.size; omega); have HNb := Aside0.mk (show bs ≠ gm by have := HS1.out.lt; omega); clear hmm hgm; have HB6 := Aside0.mk (below_then HB1.out HB1.out.size hb2); have HL6 := Aside0.mk (HL1.out.below hb2); have HS6 := Aside0.mk (HS1.out.below hb2); clear hb2 ho2 v0 v1 HB1 HL1 HS1; have v0 := HS6.out.cell 0; have v1 := HS6.out.cell 1))
  clear v0 v1
  with_reducible refine (six_yes R C a b gm cm l 0 (.inl rfl) HA.out HBb.out HAB.out HRC.out HW.out _ HMm.out (HT0.out.below HB6.out)).mono ?_
  rintro e w7 ⟨rfl, hm, hf⟩
  rw [← HQ.out] at hm
  have HB7 := Aside0.mk (HB6.out.trans (hf.below (B := w.heap.size) HB6.out.size (by simpa using HGm.out)))
  have HL7 := Aside0.mk (HL0.out.below HB7.out)
  have HM7 := Aside0.mk hm
  have HS7 := Aside0.mk (HS6.out.fr hf (by simpa using HNb.out))
  have v0 := HS7.out.cell 0
  have v1 := HS7.out.cell 1
  clear hm hf HB6 HL6 HMm HS6
  go_wp2_with fail
  clear v0 v1
  with_reducible refine (abacistref06_Good.calls kg (R : Int) (C : Int) true _ HG.out).mono ?_
  rintro e w8 ⟨rfl, hb⟩
  have HB8 := Aside0.mk (below_then HB7.out HB7.out.size hb)
  have HL8 := Aside0.mk (HL7.out.below hb)
  have HM8 := Aside0.mk (HM7.out.below hb)
  have HS8 := Aside0.mk (HS7.out.below hb)
  have v0 := HS8.out.cell 0
  have v1 := HS8.out.cell 1
  have e2 : (wrap64 ((R : Int) * (C : Int)) != (l.length : Int)) = false := by rw [HE.out, bne_eq_false_iff_eq]
  clear hb HB7 HL7 HM7 HS7
  go_wp2_with fail
  clear v0 v1
  with_reducible refine (abacistref03_Fits.calls kf (l.length : Int) (q : Int) _ HF.out).mono ?_
  rintro e w9 ⟨rfl, hd⟩
  have HB9 := Aside0.mk (below_then HB8.out HB8.out.size hd.below)
  have HL9 := Aside0.mk (HL8.out.below hd.below)
  have HM9 := Aside0.mk (HM8.out.below hd.below)
  clear hd HB8 HL8 HM8 HS8
  go_wp2_with fail
  with_reducible refine (abacistref08_Transform.calls kt A c l (q : Int) 0 _ _ HL9.out.r HL9.out.c HTR.out).mono ?_
  rintro e w10 ⟨v, rfl, hr, hb⟩
  obtain ⟨Ar, cr, hv, hlr, hcr⟩ := Kd.R_reads hr
  subst hv
  have HB10 := Aside0.mk (below_then HB9.out HB9.out.size hb)
  have HR10 := Aside0.mk (In.mk hcr hlr)
  have HM10 := Aside0.mk (HM9.out.below hb)
  clear hr hb hcr hlr HB9 HL9 HM9
  go_wp2_with fail
  have hs := same_calls (some ⟨gm, 0, none⟩) Ar cm cr (tb l.length (tr q 0 (el l))) (tb l.length (tr q 0 (el l))) _ (In.of_mr HM10.out (by rw [tb_len]; omega)) HR10.out (by rw [tb_len]; omega) rfl
  rw [tb_len] at hs ⊢
  with_reducible refine hs.mono ?_
  clear hs
  rintro e w11 ⟨rfl, hd⟩
  have HB11 := Aside0.mk (below_then HB10.out HB10.out.size hd.below)
  clear hd HB10 HR10 HM10
  go_wp2
  go_ret
  exact ⟨rfl, HB11.out⟩
set_option maxHeartbeats 4000000 in
theorem six_good1 (A : Option Addr) (c : Nat) (l : List Int) (R C a b : Nat) (w : World) (hl : In w A c l) (hW : Ws l) (hL : l.length ≤ 64) (ha : R = 2 ^ a) (hb : C = 2 ^ b) (hab : a + b ≤ 20) (hRC : R * C = l.length) (hT : TabOK w) :
    Calls Tryd.prog 8 #[.slice A l.length c, .agg #[.int .i64 (R : Int), .int .i64 (C : Int)], .int .i64 1] w fun e w' => e = .returned (.bool true) ∧ Below w.heap.size w w' := by
  have hp : 0 < l.length := by rw [← hRC, ha, hb, ← Nat.pow_add]; exact Nat.two_pow_pos _
  have hlen : l.length = 2 ^ (a + b) := by rw [← hRC, ha, hb, Nat.pow_add]
  have hG : GoodS R C := ⟨a, b, by omega, ⟨by omega, by rw [ha]⟩, ⟨by omega, by rw [hb]⟩⟩
  obtain ⟨kg, hkg⟩ := (rgood_yes R C hG).rounds
  have HG := Aside0.mk hkg
  obtain ⟨kf, hkf⟩ := (rfits_yes (l.length : Int) (a + b) ⟨by omega, by rw [hlen]⟩).rounds
  obtain ⟨kt, hkt⟩ := (rTransform l hW (a + b) (by omega) 1 (.inr rfl) (by omega) hlen).rounds
  obtain ⟨q, hq⟩ : ∃ z : Nat, z = a + b := ⟨_, rfl⟩
  rw [← hq] at hkf hkt
  have HF := Aside0.mk hkf
  have HTR := Aside0.mk hkt
  have HA := Aside0.mk ha
  have HBb := Aside0.mk hb
  have HAB := Aside0.mk hab
  have HRC := Aside0.mk hRC
  have HW := Aside0.mk hW
  have HQ := Aside0.mk hq
  have HE := Aside0.mk (show wrap64 ((R : Int) * (C : Int)) = (l.length : Int) by rw [mulc R C (by omega), hRC])
  clear hkg hkf hkt hG hlen ha hb hab hRC hW hq
  have HT0 := Aside0.mk hT
  have HB := Aside0.mk (below_alloc (Below.refl w.heap.size w) (Obj.cells #[.int .i64 (R : Int), .int .i64 (C : Int)] 23))
  have HS := Aside0.mk (Bk.new w 23 [.int .i64 (R : Int), .int .i64 (C : Int)])
  have HL0 := Aside0.mk hl
  have HL := Aside0.mk (hl.below HB.out)
  obtain ⟨bs, hbs⟩ : ∃ z, z = w.heap.size := ⟨_, rfl⟩
  have hbg : w.heap.size ≤ bs := by omega
  have d1 : decide ((64 : Int) < (l.length : Int)) = false := decide_eq_false (by omega)
  clear hT hl
  go_enter Tryd.func8, Tryd.ntmps8
  go_wp2_with fail
  with_reducible refine (awake_calls _ (HT0.out.below HB.out)).mono ?_
  rintro e w1 ⟨rfl, hb⟩
  rw [← hbs] at HS ⊢
  clear hbs
  have HB1 := Aside0.mk (below_then HB.out HB.out.size hb)
  have HL1 := Aside0.mk (HL.out.below hb)
  have HS1 := Aside0.mk (HS.out.below hb)
  have v0 := HS1.out.cell 0
  have v1 := HS1.out.cell 1
  clear hb HB HL HS
  go_wp2_with (first | ((with_reducible refine gate_dst (N := 14) rfl ?_); refine Kd.R_lit (Kd.int .u64) _ 45 ?hg (N := 14) ?hd (xs := []) (inner := []) (ok := fun _ => True) (okp := fun _ => True) ?hr ?hp (fun _ hk => hk) trivial (Below.refl _ _) (Nat.le_refl _) (by simp) ?_; (case hd => rfl); (case hg => rfl); (case hr => first | (go_simp; done) | (go_simp; rfl)); (case hp => exact (Reps.none _ _)); intro v5 w5 ho hb hg_ hnew_; have HOx := Aside0.mk ho; have HBx := Aside0.mk hb; clear hg_ hnew_ ho hb) | ((with_reducible refine gate_builtin (b := .append) (xs := #[.tmp 14, .tmp 15]) rfl ?_); at_builtin; refine Kd.R_append_rows (Kd.int .u64) (w0 := w1) w1.heap.size rfl (.tmp 14) (.tmp 15) 24 45 (.int .u64 0) 8 rfl Tryd.underlying24 info45 rfl (by decide) (by omega) v5 [] (l) _ _ _ (fun _ => True) (fun _ => False) rfl rfl ?aO ?aR (fun _ _ h => h) (fun _ h => h.elim) ?aF ?aB ?aS ?aL ?_; (case aR => exact (Kd.C_below (HL1.out.r) HBx.out)); (case aB => exact HBx.out); (case aF => exact (fun _ _ => trivial)); (case aO => exact HOx.out); (case aS => exact HBx.out.size); (case aL => (simp only [List.length_nil]; omega)); intro v6 w6 ho2 hb2 hg_ hat_; rw [List.nil_append] at ho2; clear hg_ hat_; clear HOx HBx; obtain ⟨gm, cm, hv, hgm, hmm⟩ := Mr.of_R ho2 hp; subst hv; have HMm := Aside0.mk hmm; have HGm := Aside0.mk (show w.heap.size ≤ gm by have := HB1.out.size; omega); have HNb := Aside0.mk (show bs ≠ gm by have := HS1.out.lt; omega); clear hmm hgm; have HB6 := Aside0.mk (below_then HB1.out HB1.out.size hb2); have HL6 := Aside0.mk (HL1.out.below hb2); have HS6 := Aside0.mk (HS1.out.below hb2); clear hb2 ho2 v0 v1 HB1 HL1 HS1; have v0 := HS6.out.cell 0; have v1 := HS6.out.cell 1))
  clear v0 v1
  with_reducible refine (six_yes R C a b gm cm l 1 (.inr rfl) HA.out HBb.out HAB.out HRC.out HW.out _ HMm.out (HT0.out.below HB6.out)).mono ?_
  rintro e w7 ⟨rfl, hm, hf⟩
  rw [← HQ.out] at hm
  have HB7 := Aside0.mk (HB6.out.trans (hf.below (B := w.heap.size) HB6.out.size (by simpa using HGm.out)))
  have HL7 := Aside0.mk (HL0.out.below HB7.out)
  have HM7 := Aside0.mk hm
  have HS7 := Aside0.mk (HS6.out.fr hf (by simpa using HNb.out))
  have v0 := HS7.out.cell 0
  have v1 := HS7.out.cell 1
  clear hm hf HB6 HL6 HMm HS6
  go_wp2_with fail
  clear v0 v1
  with_reducible refine (abacistref06_Good.calls kg (R : Int) (C : Int) true _ HG.out).mono ?_
  rintro e w8 ⟨rfl, hb⟩
  have HB8 := Aside0.mk (below_then HB7.out HB7.out.size hb)
  have HL8 := Aside0.mk (HL7.out.below hb)
  have HM8 := Aside0.mk (HM7.out.below hb)
  have HS8 := Aside0.mk (HS7.out.below hb)
  have v0 := HS8.out.cell 0
  have v1 := HS8.out.cell 1
  have e2 : (wrap64 ((R : Int) * (C : Int)) != (l.length : Int)) = false := by rw [HE.out, bne_eq_false_iff_eq]
  clear hb HB7 HL7 HM7 HS7
  go_wp2_with fail
  clear v0 v1
  with_reducible refine (abacistref03_Fits.calls kf (l.length : Int) (q : Int) _ HF.out).mono ?_
  rintro e w9 ⟨rfl, hd⟩
  have HB9 := Aside0.mk (below_then HB8.out HB8.out.size hd.below)
  have HL9 := Aside0.mk (HL8.out.below hd.below)
  have HM9 := Aside0.mk (HM8.out.below hd.below)
  clear hd HB8 HL8 HM8 HS8
  go_wp2_with fail
  with_reducible refine (abacistref08_Transform.calls kt A c l (q : Int) 1 _ _ HL9.out.r HL9.out.c HTR.out).mono ?_
  rintro e w10 ⟨v, rfl, hr, hb⟩
  obtain ⟨Ar, cr, hv, hlr, hcr⟩ := Kd.R_reads hr
  subst hv
  have HB10 := Aside0.mk (below_then HB9.out HB9.out.size hb)
  have HR10 := Aside0.mk (In.mk hcr hlr)
  have HM10 := Aside0.mk (HM9.out.below hb)
  clear hr hb hcr hlr HB9 HL9 HM9
  go_wp2_with fail
  have hs := same_calls (some ⟨gm, 0, none⟩) Ar cm cr (tb l.length (tr q 1 (el l))) (tb l.length (tr q 1 (el l))) _ (In.of_mr HM10.out (by rw [tb_len]; omega)) HR10.out (by rw [tb_len]; omega) rfl
  rw [tb_len] at hs ⊢
  with_reducible refine hs.mono ?_
  clear hs
  rintro e w11 ⟨rfl, hd⟩
  have HB11 := Aside0.mk (below_then HB10.out HB10.out.size hd.below)
  clear hd HB10 HR10 HM10
  go_wp2
  go_ret
  exact ⟨rfl, HB11.out⟩
theorem six_long (A : Option Addr) (c : Nat) (l : List Int) (R C d : Int) (w : World) (hL : 64 < l.length) (hT : TabOK w) :
    Calls Tryd.prog 8 #[.slice A l.length c, .agg #[.int .i64 R, .int .i64 C], .int .i64 d] w fun e w' => e = .returned (.bool true) ∧ Below w.heap.size w w' := by
  have HT0 := Aside0.mk hT
  have HB := Aside0.mk (below_alloc (Below.refl w.heap.size w) (Obj.cells #[.int .i64 R, .int .i64 C] 23))
  have d1 : decide ((64 : Int) < (l.length : Int)) = true := decide_eq_true (by omega)
  clear hT
  go_enter Tryd.func8, Tryd.ntmps8
  go_wp2_with fail
  with_reducible refine (awake_calls _ (HT0.out.below HB.out)).mono ?_
  rintro e w1 ⟨rfl, hb⟩
  have HB1 := Aside0.mk (below_then HB.out HB.out.size hb)
  clear hb HB
  go_wp2
  go_ret
  exact ⟨rfl, HB1.out⟩
theorem RowsSixRow (a0 : Option Addr) (len0 cap0 : Nat) (z0 : List Int) (a1_0 a1_1 a2 : Int) (w : World)
    (w0 : (a0 = none ∧ len0 = 0 ∧ cap0 = 0 ∧ z0 = []) ∨ ∃ x, a0 = some x ∧ len0 ≤ cap0 ∧ cap0 ≤ maxLen ∧ z0.length = cap0 ∧ (∀ i, i < z0.length → w.cell? (x.add i) = some (.int .u64 (z0.getD i 0))) ∧ ∀ n ∈ z0, (Lit.int .u64 n).wf = true) (hT : TabOK w) :
    Calls Tryd.prog 8 #[.slice a0 len0 cap0, .agg #[.int .i64 a1_0, .int .i64 a1_1], .int .i64 a2] w fun e w' => e = .returned (.bool true) ∧ Below w.heap.size w w' := by
  obtain ⟨l, rfl, hl, hW⟩ := In.of w0
  by_cases h1 : 64 < l.length
  · exact six_long a0 cap0 l a1_0 a1_1 a2 w h1 hT
  by_cases hg : GoodS a1_0 a1_1
  · by_cases hs : a1_0 * a1_1 = (l.length : Int)
    · by_cases hd : a2 = 0 ∨ a2 = 1
      · obtain ⟨a, b, hab, rfl, rfl⟩ := good_ints hg
        have hRC : 2 ^ a * 2 ^ b = l.length := by exact_mod_cast hs
        have hab2 : a + b ≤ 20 := by
          rcases Nat.lt_or_ge 20 (a + b) with h | h
          · have := pow_mono (show 21 ≤ a + b by omega)
            rw [← Nat.pow_add] at hRC
            have e : (2 : Nat) ^ 21 = 2097152 := by decide
            omega
          · exact h
        rcases hd with rfl | rfl
        · exact six_good0 a0 cap0 l (2 ^ a) (2 ^ b) a b w hl hW (by omega) rfl rfl hab2 hRC hT
        · exact six_good1 a0 cap0 l (2 ^ a) (2 ^ b) a b w hl hW (by omega) rfl rfl hab2 hRC hT
      · exact six_kind a0 cap0 l a1_0 a1_1 a2 w hl (by omega) hg hs hd hT
    · exact six_size a0 cap0 l a1_0 a1_1 a2 w hl (by omega) hg hs hT
  · exact six_shape a0 cap0 l a1_0 a1_1 a2 w hl (by omega) hg hT
end Go.Proofs.YtpnkcjnemoompaaDoor.Kern
end
