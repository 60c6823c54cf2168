import Derived.Test.YtpnkcjnemoompaaDoorRa0
import Derived.Test.YtpnkcjnemoompaaDoorProg
import Derived.Below
import Derived.Deep.Draws
import Derived.Deep.AppendLies
import Derived.Maps.AppendAt
import Derived.OwnWalk
import Derived.Laws.BytesArg
import Derived.Laws.MakeOwn
import Derived.Laws.OwnMore
import Derived.Deep.OwnRows
import Derived.Tactics
import Derived.Lib.ConvBytes
import Derived.Laws.Slices
import Derived.WalkKit
import Derived.KernelRfl
import Derived.RowKit3
import Derived.Deep.LoopGhost
import Derived.Deep.QuietTactic
import Derived.BigQuiet
import Derived.WideLaws
import Derived.Deep.DeepCutAuto
import Derived.Deep.CutBlock
import Derived.Deep.RegionHeld3
import Derived.Laws.Rows
import Derived.Lib.AppendStr
import Derived.ArgAppend
import Derived.Laws.IdiomCopy
import Derived.OrdersHeld
import Derived.Laws.BitsLemmas
import Derived.RowKit
import Derived.Shelf.Spec.TrailingZeros
import Derived.Lib.LaidTab
import Derived.Lib.Hide
import Derived.Shelf.Strings.Builder1
import Derived.Shelf.Strings.Builder2
import Derived.Shelf.Strings.OnBuilder
import Derived.Shelf.Strings.BuilderF
import Derived.Shelf.Strings.BuilderK
import Derived.Shelf.Strings.Builder2Cap
import Derived.Shelf.Strconv.Itoa0
import Derived.Shelf.Strconv.Itoa1
import Derived.Shelf.LaysM
import Derived.Shelf.Strconv.Itoa2
import Derived.Shelf.Strconv.Itoa3
import Derived.Shelf.Bits.Mul64
import Derived.Shelf.Strings.BuilderCap
import Derived.Ground.SlgnProg
import Derived.Shelf.SlicesE.Clone
import Derived.Ground.SlgfProg
import Derived.Shelf.SlicesE.IndexFunc
import Derived.Laws.StructEq
import Derived.Shelf.Spec.BitsCarry
import Derived.Laws.CopyOwn
import Derived.Laws.BitsAllLaws
import Derived.OpenShut
import Derived.StillTailTactics
import Derived.Outline
import Derived.RegionTactic
import Derived.ChangeAlike
import Derived.BigRegion
/-! Texts of this claim, joined: PFftx5, PFftx6, KernK, FldG, RowE, RowF. -/
section
namespace Go.Proofs.YtpnkcjnemoompaaDoor.PFft
open Go.RowKit Go.Proofs.YtpnkcjnemoompaaDoor.Ext Go.Proofs.YtpnkcjnemoompaaDoor.PPlan Go.Proofs.YtpnkcjnemoompaaDoorW.PrintWords Go.Proofs.YtpnkcjnemoompaaDoorW.PrintLast Go.Proofs.YtpnkcjnemoompaaDoorW.PrintMore
attribute [local go_sem] max2_int min2_int max_two min_two max_three min_three max_four min_four   -- for this text's walks alone
set_option linter.unusedVariables false
set_option linter.unusedSimpArgs false
def abacistref11_Gather.l0 : Nat → List Int → List Int → Int → Int → Int → Int → Option (List Int)
  | 0, _, _, _, _, _, _ => none
  | k + 1, x0, x5, x6, x204000, x204001, x204002 => if x6 < x204002 then (if 0 ≤ (wrap64 (x204000 + (wrap64 (x6 * x204001)))) then (if (wrap64 (x204000 + (wrap64 (x6 * x204001)))) < (x0.length : Int) then (if x5.length < 17592186044416 then (abacistref11_Gather.l0 k x0 (x5 ++ [rd x0 (wrap64 (x204000 + (wrap64 (x6 * x204001))))]) (wrap64 (x6 + 1)) x204000 x204001 x204002) else (none)) else (none)) else (none)) else (some x5)
def abacistref11_Gather.f (k : Nat) (l0 : List Int) (a1_0 : Int) (a1_1 : Int) (a1_2 : Int) : Option (List Int) := abacistref11_Gather.l0 k l0 ([] : List Int) 0 a1_0 a1_1 a1_2
set_option maxHeartbeats 8000000 in
set_option maxRecDepth 100000 in
theorem abacistref11_Gather.calls (k : Nat) (A0 : Option Addr) (c0 : Nat) (l0 : List Int) (a1_0 : Int) (a1_1 : Int) (a1_2 : Int) (r : List Int) (w : World) (hr0 : Kd.C (Kd.int .u64) w A0 l0.length l0) (hc0 : l0.length ≤ c0) (h : abacistref11_Gather.f k l0 a1_0 a1_1 a1_2 = some r) :
    Calls Tryd.prog 39 #[.slice A0 l0.length c0, .agg #[.int .i64 a1_0, .int .i64 a1_1, .int .i64 a1_2]] w fun e w' => ∃ v0_ : Value, e = .returned (v0_) ∧ Kd.R (Kd.int .u64) 45 w' w.heap.size (fun _ => True) v0_ r ∧ Below w.heap.size w w' := by
  have hu58 := Tryd.underlying58
  have HR0 := Aside0.mk hr0
  have HC0 := Aside0.mk hc0
  clear hr0 hc0
  have HB := Aside0.mk (Below.refl w.heap.size w)
  have H : (abacistref11_Gather.l0 k l0 ([] : List Int) 0 a1_0 a1_1 a1_2) = some r := h
  clear h
  have H' := Aside0.mk H
  clear H
  go_enter Tryd.func39, Tryd.ntmps39
  go_wp2_with (first | ((with_reducible refine gate_dst (N := 3) rfl ?_); refine box_event ?hg (N := 3) ?hd (cs := #[.int .i64 a1_0, .int .i64 a1_1, .int .i64 a1_2]) (t := 58) ?hr ?_; (case hd => rfl); (case hg => rfl); (case hr => first | (go_simp; done) | (go_simp; rfl)); intro gb203 hg w3 hbox hb; have n0_ := Aside0.mk (below_step (by repeat (first | (with_reducible first | exact HB.out | apply below_alloc | apply pw_below_drewN | apply below_drew1) | exact HB.out)) hb); have n1_ := Aside0.mk (hbox); have n2_ := Aside0.mk ((by rw [hg]; exact (below_size (by repeat (first | (with_reducible first | exact HB.out | apply below_alloc | apply pw_below_drewN | apply below_drew1) | exact HB.out))) : w.heap.size ≤ gb203)); have n3_ := Aside0.mk ((by rw [hg]; exact (below_size (by repeat (first | (with_reducible first | exact HB.out | apply below_alloc | apply pw_below_drewN | apply below_drew1) | exact HB.out))) : w.heap.size ≤ gb203)); clear HB; have HB := n0_; have BK203 := n1_; have GW203 := n2_; have GE203 := n3_; clear n0_ n1_ n2_ n3_; clear hb hbox hg))
  go_loopg [5, 6] k (fun kq v5 v6 w' => ∃ (x5_1 : List Int) (x6_1 : Int), v6 = .int .i64 x6_1 ∧ Aside0 (abacistref11_Gather.l0 kq l0 x5_1 x6_1 a1_0 a1_1 a1_2 = some r) ∧ Aside0 (kq ≤ k) ∧ Aside0 (Kd.R (Kd.int .u64) 45 w' w.heap.size (fun _ => True) v5 x5_1) ∧ Aside0 (w'.heap[gb203]? = some (.cells #[.int .i64 a1_0, .int .i64 a1_1, .int .i64 a1_2] 58 (0, 0))) ∧ Aside0 (Below w.heap.size w w'))
  case atStart => exact ⟨(([] : List Int)), (0), (by first | rfl | (simp; done) | (simp [*]; done)), H', ⟨Nat.le_refl _⟩, ⟨by first | exact Kd.R_nil _ _ _ _ _ | exact Kd.N_nil _ _ _ _ _ | exact Kd.V_nil _ _ _ _ _ | exact Kd.Q_nil _ _ _ _ _ | exact Kd.S_nil _ _ _ _ _⟩, ⟨by (with_reducible repeat (first | refine blk_drewN ?_ _ | refine blk_drew ?_ | refine blk_alloc ?_ _)); exact BK203.out⟩, ⟨by repeat (first | (with_reducible first | exact HB.out | apply below_alloc | apply pw_below_drewN | apply below_drew1 | refine below_set ?_ GE203.out) | exact HB.out)⟩⟩
  case round =>
    clear H'
    try clear p2
    try clear c3
    obtain ⟨x5_1, x6_1, rfl, HA, HK1, HO_5, BK203, HB⟩ := hrel
    cases gk with
    | zero => exact absurd HA.out (by simp [abacistref11_Gather.l0])
    | succ k1 =>
      have H := HA.out
      clear HA
      simp only [abacistref11_Gather.l0] at H
      by_cases c4 : x6_1 < a1_2
      · rw [if_pos c4] at H
        have c4b0 : decide (x6_1 < a1_2) = true := decide_eq_true c4
        clear c4
        obtain ⟨ji5, hji5⟩ : ∃ j_ : Int, (wrap64 (a1_0 + (wrap64 (x6_1 * a1_1)))) = j_ := ⟨_, rfl⟩
        replace H : (if 0 ≤ (ji5) then (if (ji5) < (l0.length : Int) then (if x5_1.length < 17592186044416 then (abacistref11_Gather.l0 k1 l0 (x5_1 ++ [rd l0 (ji5)]) (wrap64 (x6_1 + 1)) a1_0 a1_1 a1_2) else (none)) else (none)) else (none)) = some r := by first | (rw [hji5] at H; exact H) | (simp only [hji5] at H ⊢; exact H)
        have hji5w : (IntKind.i64.wrap (a1_0 + (wrap64 (x6_1 * a1_1)))) = ji5 := (i64_w _).trans hji5
        by_cases c6 : 0 ≤ (ji5)
        · rw [if_pos c6] at H
          have c6b0 : decide (0 ≤ (ji5)) = true := decide_eq_true c6
          clear c6
          by_cases c7 : (ji5) < (l0.length : Int)
          · rw [if_pos c7] at H
            have c7b0 : decide ((ji5) < (l0.length : Int)) = true := decide_eq_true c7
            clear c7
            by_cases c8 : x5_1.length < 17592186044416
            · rw [if_pos c8] at H
              have LMc8 := Aside0.mk c8
              clear c8
              obtain ⟨y205, hy205⟩ : ∃ y_ : List Int, y_ = (x5_1 ++ [rd l0 (ji5)]) := ⟨_, rfl⟩
              replace H : (abacistref11_Gather.l0 k1 l0 y205 (wrap64 (x6_1 + 1)) a1_0 a1_1 a1_2) = some r := by first | (rw [hy205]; with_reducible exact H) | (have H2_ := (Option.bind_some _ _).symm.trans H; rw [hy205]; with_reducible exact H2_) | (have H2_ := (Option.bind_some _ _).symm.trans H; with_reducible exact H2_) | with_reducible exact H | (rw [hy205]; exact H) | exact H
              have Ny205 := Aside0.mk hy205
              clear hy205
              have H' := Aside0.mk H
              clear H
              have hcz9_0 : wr.cell? ⟨gb203, 0, none⟩ = some (.int .i64 a1_0) := (blk_cell BK203.out 0).trans rfl
              have hcz9_1 : wr.cell? ⟨gb203, 1, none⟩ = some (.int .i64 a1_1) := (blk_cell BK203.out 1).trans rfl
              have hcz9_2 : wr.cell? ⟨gb203, 2, none⟩ = some (.int .i64 a1_2) := (blk_cell BK203.out 2).trans rfl
              have hfz9_0 := blk_frozen BK203.out 0
              have hfz9_1 := blk_frozen BK203.out 1
              have hfz9_2 := blk_frozen BK203.out 2
              have p204 : 0 ≤ ((ji5) : Int) := of_decide_eq_true (by first | (with_reducible assumption) | assumption)
              have q204 : (ji5) < (l0.length : Int) := of_decide_eq_true (by first | (with_reducible assumption) | assumption)
              obtain ⟨ad204, e204, hx204_0⟩ := Kd.at_int HR0.out (ji5) p204 q204
              cases e204
              replace hx204_0 := (HB.out.cell (World.block_lt_of_cell? w _ hx204_0)).trans hx204_0
              replace p204 := eq_true p204
              replace q204 := eq_true q204
              go_wp2_with (first | ((with_reducible refine gate_builtin (b := .append) (xs := #[.tmp 13, .tmp 24]) rfl ?_); at_builtin; refine Kd.R_append (Kd.int .u64) (w0 := w) w.heap.size rfl (.tmp 13) (.tmp 24) 24 45 (.int .u64 0) 8 rfl Tryd.underlying24 info45 rfl (by decide) (by omega) u5 x5_1 (rd l0 (ji5)) [.int .u64 (rd l0 (ji5))] (fun _ => True) (fun _ => False) rfl rfl ?aP (fun _ hk => hk.elim) ?aF ?aO ?aB ?aS ?aL ?_; (case aP => exact rfl); (case aB => exact (by repeat (first | (with_reducible first | exact HB.out | apply below_alloc | apply pw_below_drewN | apply below_drew1 | refine below_set ?_ GE203.out) | exact HB.out))); (case aF => exact (fun _ _ => trivial)); (case aO => exact (by (with_reducible repeat (first | apply Kd.R_alloc | apply Kd.R_drewN | apply Kd.R_drew)); exact HO_5.out)); (case aS => exact (below_size (by repeat (first | (with_reducible first | exact HB.out | apply below_alloc | apply pw_below_drewN | apply below_drew1 | refine below_set ?_ GE203.out) | exact HB.out)))); (case aL => have := LMc8.out; omega); intro v206 w10 ho hb hg hat; rw [← Ny205.out] at ho; have n0_ := Aside0.mk (blk_grown (g := gb203) (o := .cells #[.int .i64 a1_0, .int .i64 a1_1, .int .i64 a1_2] 58 (0, 0)) (by (with_reducible repeat (first | refine blk_drewN ?_ _ | refine blk_drew ?_ | refine blk_alloc ?_ _)); exact BK203.out) hg (Kd.R_ne HO_5.out BK203.out (by decide))); have n1_ := Aside0.mk (hb); have n2_ := Aside0.mk (ho); clear BK203; clear HB; clear HO_5; have BK203 := n0_; have HB := n1_; have HO207 := n2_; clear n0_ n1_ n2_; clear ho hb hg hat))
              go_roundg k1
              case measure => have := HK1.out; omega
              case rel => exact ⟨(y205), (wrap64 (x6_1 + 1)), (by first | rfl | (simp; done) | (simp [*]; done)), H', ⟨by have := HK1.out; omega⟩, ⟨by (with_reducible repeat (first | apply Kd.R_alloc | apply Kd.R_drewN | apply Kd.R_drew)); exact HO207.out⟩, ⟨by (with_reducible repeat (first | refine blk_drewN ?_ _ | refine blk_drew ?_ | refine blk_alloc ?_ _)); exact BK203.out⟩, ⟨by repeat (first | (with_reducible first | exact HB.out | apply below_alloc | apply pw_below_drewN | apply below_drew1 | refine below_set ?_ GE203.out) | exact HB.out)⟩⟩
            · rw [if_neg c8] at H
              exact absurd H (by simp)
          · rw [if_neg c7] at H
            exact absurd H (by simp)
        · rw [if_neg c6] at H
          exact absurd H (by simp)
      · rw [if_neg c4] at H
        have c4b0 : decide (x6_1 < a1_2) = false := decide_eq_false c4
        clear c4
        obtain rfl := Option.some.inj H
        have hcz11_0 : wr.cell? ⟨gb203, 0, none⟩ = some (.int .i64 a1_0) := (blk_cell BK203.out 0).trans rfl
        have hcz11_1 : wr.cell? ⟨gb203, 1, none⟩ = some (.int .i64 a1_1) := (blk_cell BK203.out 1).trans rfl
        have hcz11_2 : wr.cell? ⟨gb203, 2, none⟩ = some (.int .i64 a1_2) := (blk_cell BK203.out 2).trans rfl
        have hfz11_0 := blk_frozen BK203.out 0
        have hfz11_1 := blk_frozen BK203.out 1
        have hfz11_2 := blk_frozen BK203.out 2
        go_wp2
        go_ret
        exact ⟨_, by first | rfl | (simp [errW_none, errW_some] <;> rfl) | (simp [*, errW_none, errW_some] <;> rfl), by (with_reducible repeat (first | apply Kd.R_alloc | apply Kd.R_drewN | apply Kd.R_drew)); exact HO_5.out, by repeat (first | (with_reducible first | exact HB.out | apply below_alloc | apply pw_below_drewN | apply below_drew1 | refine below_set ?_ GE203.out) | exact HB.out)⟩
def abacistref11_Scatter.l0 : Nat → List Int → List Int → Int → Int → Int → Int → Option (List Int)
  | 0, _, _, _, _, _, _ => none
  | k + 1, x2, x7, x8, x209000, x209001, x209002 => if x8 < x209002 then (if 0 ≤ x8 then (if x8 < (x2.length : Int) then (if 0 ≤ (wrap64 (x209000 + (wrap64 (x8 * x209001)))) then (if (wrap64 (x209000 + (wrap64 (x8 * x209001)))) < (x7.length : Int) then (abacistref11_Scatter.l0 k x2 (x7.set ((wrap64 (x209000 + (wrap64 (x8 * x209001)))) : Int).toNat (rd x2 x8)) (wrap64 (x8 + 1)) x209000 x209001 x209002) else (none)) else (none)) else (none)) else (none)) else (some x7)
def abacistref11_Scatter.f (k : Nat) (l0 : List Int) (a1_0 : Int) (a1_1 : Int) (a1_2 : Int) (l2 : List Int) : Option (List Int) := (some (([] : List Int) : List Int)).bind fun y209 => (if y209.length + l0.length < 17592186044416 then (abacistref11_Scatter.l0 k l2 (y209 ++ l0) 0 a1_0 a1_1 a1_2) else (none))
def abacistref11_Scatter.T5 : Bool × List (List Nat × List Nat) := (true, [([], []), ([], []), ([1], [1]), ([], []), ([], []), ([4], [4]), ([3, 5], [3, 5]), ([2, 6], [2, 6]), ([], []), ([], []), ([8, 9], [8, 9]), ([10], [10]), ([0, 7, 0, 1, 2, 3, 4, 5, 6, 7, 8, 9, 10, 11], [0, 7]), ([12, 11, 0, 1, 2, 3, 4, 5, 6, 7, 8, 9, 10, 11], [11, 12])])
def abacistref11_Scatter.B5 : List Nat := [0, 0, 2, 0, 0, 16, 56, 126, 0, 0, 768, 1792, 4095, 8191]
theorem abacistref11_Scatter.tab5 : rtab .any (opsOf Tryd.f40 5) = abacistref11_Scatter.T5 := by kernel_rfl
theorem abacistref11_Scatter.bits5 : waitsOk abacistref11_Scatter.T5.2 abacistref11_Scatter.B5 = true := by kernel_rfl
set_option maxHeartbeats 8000000 in
set_option maxRecDepth 100000 in
theorem abacistref11_Scatter.calls (k : Nat) (A0 : Option Addr) (c0 : Nat) (l0 : List Int) (a1_0 : Int) (a1_1 : Int) (a1_2 : Int) (A2 : Option Addr) (c2 : Nat) (l2 : List Int) (r : List Int) (w : World) (hr0 : Kd.C (Kd.int .u64) w A0 l0.length l0) (hc0 : l0.length ≤ c0) (hr2 : Kd.C (Kd.int .u64) w A2 l2.length l2) (hc2 : l2.length ≤ c2) (h : abacistref11_Scatter.f k l0 a1_0 a1_1 a1_2 l2 = some r) :
    Calls Tryd.prog 40 #[.slice A0 l0.length c0, .agg #[.int .i64 a1_0, .int .i64 a1_1, .int .i64 a1_2], .slice A2 l2.length c2] w fun e w' => ∃ v0_ : Value, e = .returned (v0_) ∧ Kd.R (Kd.int .u64) 45 w' w.heap.size (fun _ => True) v0_ r ∧ Below w.heap.size w w' := by
  have hu58 := Tryd.underlying58
  have HR0 := Aside0.mk hr0
  have HC0 := Aside0.mk hc0
  clear hr0 hc0
  have HR2 := Aside0.mk hr2
  have HC2 := Aside0.mk hc2
  clear hr2 hc2
  have HB := Aside0.mk (Below.refl w.heap.size w)
  have H : ((some (([] : List Int) : List Int)).bind fun y209 => (if y209.length + l0.length < 17592186044416 then (abacistref11_Scatter.l0 k l2 (y209 ++ l0) 0 a1_0 a1_1 a1_2) else (none))) = some r := h
  clear h
  obtain ⟨y209, hy209⟩ : ∃ y_ : List Int, y_ = (([] : List Int)) := ⟨_, rfl⟩
  replace H : (if y209.length + l0.length < 17592186044416 then (abacistref11_Scatter.l0 k l2 (y209 ++ l0) 0 a1_0 a1_1 a1_2) else (none)) = some r := by first | (rw [hy209]; with_reducible exact H) | (have H2_ := (Option.bind_some _ _).symm.trans H; rw [hy209]; with_reducible exact H2_) | (have H2_ := (Option.bind_some _ _).symm.trans H; with_reducible exact H2_) | with_reducible exact H | (rw [hy209]; exact H) | exact H
  have Ny209 := Aside0.mk hy209
  clear hy209
  by_cases c4 : y209.length + l0.length < 17592186044416
  · rw [if_pos c4] at H
    have LMc4 := Aside0.mk c4
    clear c4
    obtain ⟨y212, hy212⟩ : ∃ y_ : List Int, y_ = (y209 ++ l0) := ⟨_, rfl⟩
    replace H : (abacistref11_Scatter.l0 k l2 y212 0 a1_0 a1_1 a1_2) = some r := by first | (rw [hy212]; with_reducible exact H) | (have H2_ := (Option.bind_some _ _).symm.trans H; rw [hy212]; with_reducible exact H2_) | (have H2_ := (Option.bind_some _ _).symm.trans H; with_reducible exact H2_) | with_reducible exact H | (rw [hy212]; exact H) | exact H
    have Ny212 := Aside0.mk hy212
    clear hy212
    have H' := Aside0.mk H
    clear H
    go_enter Tryd.func40, Tryd.ntmps40
    go_wp2_with (first | ((with_reducible refine gate_dst (N := 4) rfl ?_); refine box_event ?hg (N := 4) ?hd (cs := #[.int .i64 a1_0, .int .i64 a1_1, .int .i64 a1_2]) (t := 58) ?hr ?_; (case hd => rfl); (case hg => rfl); (case hr => first | (go_simp; done) | (go_simp; rfl)); intro gb208 hg w5 hbox hb; have n0_ := Aside0.mk (below_step (by repeat (first | (with_reducible first | exact HB.out | apply below_alloc | apply pw_below_drewN | apply below_drew1) | exact HB.out)) hb); have n1_ := Aside0.mk (hbox); have n2_ := Aside0.mk ((by rw [hg]; exact (below_size (by repeat (first | (with_reducible first | exact HB.out | apply below_alloc | apply pw_below_drewN | apply below_drew1) | exact HB.out))) : w.heap.size ≤ gb208)); have n3_ := Aside0.mk ((by rw [hg]; exact (below_size (by repeat (first | (with_reducible first | exact HB.out | apply below_alloc | apply pw_below_drewN | apply below_drew1) | exact HB.out))) : w.heap.size ≤ gb208)); clear HB; have HB := n0_; have BK208 := n1_; have GW208 := n2_; have GE208 := n3_; clear n0_ n1_ n2_ n3_; clear hb hbox hg) | ((with_reducible refine gate_dst (N := 9) rfl ?_); refine Kd.R_lit (Kd.int .u64) _ 45 ?hg (N := 9) ?hd (xs := ([] : List Int)) (inner := []) (ok := fun _ => True) (okp := fun _ => True) ?hr ?hp (fun _ hk => hk) trivial (Below.refl _ _) (Nat.le_refl _) (by simp) ?_; (case hd => rfl); (case hg => rfl); (case hr => first | (go_simp; done) | (go_simp; rfl)); (case hp => exact (Reps.none _ _)); intro v210 w6 ho7 hb hg_ hnew_; clear hg_ hnew_; (first | rw [← Ny209.out] at ho7 | (simp only [Int.reduceToNat] at ho7; rw [← Ny209.out] at ho7)); have n0_ := Aside0.mk (Kd.R_lower ho7 (below_size (by repeat (first | (with_reducible first | exact HB.out | apply below_alloc | apply pw_below_drewN | apply below_drew1 | refine below_set ?_ GE208.out) | exact HB.out)))); have n1_ := Aside0.mk (blk_below (g := gb208) (o := .cells #[.int .i64 a1_0, .int .i64 a1_1, .int .i64 a1_2] 58 (0, 0)) (by (with_reducible repeat (first | refine blk_drewN ?_ _ | refine blk_drew ?_ | refine blk_alloc ?_ _)); exact BK208.out) hb); have n2_ := Aside0.mk (below_step (by repeat (first | (with_reducible first | exact HB.out | apply below_alloc | apply pw_below_drewN | apply below_drew1 | refine below_set ?_ GE208.out) | exact HB.out)) hb); clear BK208; clear HB; have HO211 := n0_; have BK208 := n1_; have HB := n2_; clear n0_ n1_ n2_; clear hb ho7) | ((with_reducible refine gate_builtin (b := .append) (xs := #[.tmp 9, .tmp 10]) rfl ?_); at_builtin; refine Kd.R_append_rows (Kd.int .u64) (w0 := w) w.heap.size rfl (.tmp 9) (.tmp 10) 24 45 (.int .u64 0) 8 rfl Tryd.underlying24 info45 rfl (by decide) (by omega) v210 y209 l0 _ _ _ (fun _ => True) (fun _ => False) rfl rfl ?aO ?aR (fun _ _ h => h) (fun _ h => h.elim) ?aF ?aB ?aS ?aL ?_; (case aR => repeat (first | exact (Kd.C_below HR0.out HB.out) | (with_reducible refine Kd.C_alloc ?_ _) | (with_reducible refine Kd.C_drewN ?_ _) | (with_reducible refine Kd.C_drew ?_))); (case aB => exact (by repeat (first | (with_reducible first | exact HB.out | apply below_alloc | apply pw_below_drewN | apply below_drew1 | refine below_set ?_ GE208.out) | exact HB.out))); (case aF => exact (fun _ _ => trivial)); (case aO => exact (by (with_reducible repeat (first | apply Kd.R_alloc | apply Kd.R_drewN | apply Kd.R_drew)); exact HO211.out)); (case aS => exact (below_size (by repeat (first | (with_reducible first | exact HB.out | apply below_alloc | apply pw_below_drewN | apply below_drew1 | refine below_set ?_ GE208.out) | exact HB.out)))); (case aL => have := LMc4.out; omega); intro v213 w8 ho hb hg hat; rw [← Ny212.out] at ho; have n0_ := Aside0.mk (blk_grown (g := gb208) (o := .cells #[.int .i64 a1_0, .int .i64 a1_1, .int .i64 a1_2] 58 (0, 0)) (by (with_reducible repeat (first | refine blk_drewN ?_ _ | refine blk_drew ?_ | refine blk_alloc ?_ _)); exact BK208.out) hg (Kd.R_ne HO211.out BK208.out (by decide))); have n1_ := Aside0.mk (hb); have n2_ := Aside0.mk (ho); clear BK208; clear HB; clear HO211; have BK208 := n0_; have HB := n1_; have HO214 := n2_; clear n0_ n1_ n2_; clear ho hb hg hat))
    go_loopg [8] k (fun kq v8 w' => ∃ (x7_1 : List Int) (x8_1 : Int), v8 = .int .i64 x8_1 ∧ Aside0 (abacistref11_Scatter.l0 kq l2 x7_1 x8_1 a1_0 a1_1 a1_2 = some r) ∧ Aside0 (kq ≤ k) ∧ Aside0 (Kd.R (Kd.int .u64) 45 w' w.heap.size (fun _ => True) v213 x7_1) ∧ Aside0 (w'.heap[gb208]? = some (.cells #[.int .i64 a1_0, .int .i64 a1_1, .int .i64 a1_2] 58 (0, 0))) ∧ Aside0 (Below w.heap.size w w'))
    case atStart => exact ⟨(y212), (0), (by first | rfl | (simp; done) | (simp [*]; done)), H', ⟨Nat.le_refl _⟩, ⟨by (with_reducible repeat (first | apply Kd.R_alloc | apply Kd.R_drewN | apply Kd.R_drew)); exact HO214.out⟩, ⟨by (with_reducible repeat (first | refine blk_drewN ?_ _ | refine blk_drew ?_ | refine blk_alloc ?_ _)); exact BK208.out⟩, ⟨by repeat (first | (with_reducible first | exact HB.out | apply below_alloc | apply pw_below_drewN | apply below_drew1 | refine below_set ?_ GE208.out) | exact HB.out)⟩⟩
    case round =>
      clear H'
      try clear c2
      try clear p2
      try clear c4
      obtain ⟨x7_1, x8_1, rfl, HA, HK1, HO_7, BK208, HB⟩ := hrel
      cases gk with
      | zero => exact absurd HA.out (by simp [abacistref11_Scatter.l0])
      | succ k1 =>
        have H := HA.out
        clear HA
        simp only [abacistref11_Scatter.l0] at H
        by_cases c9 : x8_1 < a1_2
        · rw [if_pos c9] at H
          have c9b0 : decide (x8_1 < a1_2) = true := decide_eq_true c9
          clear c9
          by_cases c10 : 0 ≤ x8_1
          · rw [if_pos c10] at H
            have c10b0 : decide (0 ≤ x8_1) = true := decide_eq_true c10
            clear c10
            by_cases c11 : x8_1 < (l2.length : Int)
            · rw [if_pos c11] at H
              have c11b0 : decide (x8_1 < (l2.length : Int)) = true := decide_eq_true c11
              clear c11
              obtain ⟨ji12, hji12⟩ : ∃ j_ : Int, (wrap64 (a1_0 + (wrap64 (x8_1 * a1_1)))) = j_ := ⟨_, rfl⟩
              replace H : (if 0 ≤ (ji12) then (if (ji12) < (x7_1.length : Int) then (abacistref11_Scatter.l0 k1 l2 (x7_1.set ((ji12) : Int).toNat (rd l2 x8_1)) (wrap64 (x8_1 + 1)) a1_0 a1_1 a1_2) else (none)) else (none)) = some r := by first | (rw [hji12] at H; exact H) | (simp only [hji12] at H ⊢; exact H)
              have hji12w : (IntKind.i64.wrap (a1_0 + (wrap64 (x8_1 * a1_1)))) = ji12 := (i64_w _).trans hji12
              by_cases c13 : 0 ≤ (ji12)
              · rw [if_pos c13] at H
                have c13b0 : decide (0 ≤ (ji12)) = true := decide_eq_true c13
                clear c13
                by_cases c14 : (ji12) < (x7_1.length : Int)
                · rw [if_pos c14] at H
                  have c14b0 : decide ((ji12) < (x7_1.length : Int)) = true := decide_eq_true c14
                  clear c14
                  obtain ⟨y216, hy216⟩ : ∃ y_ : List Int, y_ = (x7_1.set ((ji12) : Int).toNat (rd l2 x8_1)) := ⟨_, rfl⟩
                  replace H : (abacistref11_Scatter.l0 k1 l2 y216 (wrap64 (x8_1 + 1)) a1_0 a1_1 a1_2) = some r := by first | (rw [hy216]; with_reducible exact H) | (have H2_ := (Option.bind_some _ _).symm.trans H; rw [hy216]; with_reducible exact H2_) | (have H2_ := (Option.bind_some _ _).symm.trans H; with_reducible exact H2_) | with_reducible exact H | (rw [hy216]; exact H) | exact H
                  have Ny216 := Aside0.mk hy216
                  clear hy216
                  have H' := Aside0.mk H
                  clear H
                  have hcz16_0 : wr.cell? ⟨gb208, 0, none⟩ = some (.int .i64 a1_0) := (blk_cell BK208.out 0).trans rfl
                  have hcz16_1 : wr.cell? ⟨gb208, 1, none⟩ = some (.int .i64 a1_1) := (blk_cell BK208.out 1).trans rfl
                  have hcz16_2 : wr.cell? ⟨gb208, 2, none⟩ = some (.int .i64 a1_2) := (blk_cell BK208.out 2).trans rfl
                  have hfz16_0 := blk_frozen BK208.out 0
                  have hfz16_1 := blk_frozen BK208.out 1
                  have hfz16_2 := blk_frozen BK208.out 2
                  try go_wp2
                  have n0_ := Aside0.mk (Kd.R_drew HO_7.out)
                  have n1_ := Aside0.mk (blk_drew BK208.out)
                  have n2_ := Aside0.mk (below_drew1 HB.out)
                  clear HO_7
                  clear BK208
                  clear HB
                  have HO_7 := n0_
                  have BK208 := n1_
                  have HB := n2_
                  clear n0_ n1_ n2_
                  have p215 : 0 ≤ (x8_1 : Int) := of_decide_eq_true (by first | (with_reducible assumption) | assumption)
                  have q215 : x8_1 < (l2.length : Int) := of_decide_eq_true (by first | (with_reducible assumption) | assumption)
                  obtain ⟨ad215, e215, hx215_0⟩ := Kd.at_int HR2.out x8_1 p215 q215
                  have hw215_0 := hx215_0
                  cases e215
                  replace hx215_0 := (HB.out.cell (World.block_lt_of_cell? w _ hx215_0)).trans hx215_0
                  replace p215 := eq_true p215
                  replace q215 := eq_true q215
                  have p15 : 0 ≤ ((ji12) : Int) := of_decide_eq_true (by first | (with_reducible assumption) | assumption)
                  have q15 : ((ji12) : Int) < ((x7_1.length : Int) : Int) := of_decide_eq_true (by first | (with_reducible assumption) | assumption)
                  obtain ⟨go15, co15, eo15, gb15, gl15, cl15, HG15⟩ := Kd.R_form HO_7.out (by omega)
                  (first | cases eo15 | (injection eo15 with ea_ en_ ec_; (first | subst ea_ | (injection ea_ with ea_; subst ea_)); subst ec_; clear en_))
                  have GB15 := Aside0.mk gb15
                  have GG15 := Aside0.mk HG15
                  clear gb15 gl15 HG15
                  obtain ⟨hx15_0, hf15_0⟩ := Kd.R_celln 0 HO_7.out ((ji12) : Int) p15 q15
                  replace p15 := eq_true p15
                  replace q15 := eq_true q15
                  have HP18 := Kd.R_putn HO_7.out ((ji12) : Int) (rd l2 x8_1)
                  rw [← Ny216.out] at HP18
                  have HQ18 := Aside0.mk HP18
                  clear HP18
                  refine start_ (n := 14) (S := fun w' => w'.cell? ⟨gb208, 0, none⟩ = some (.int .i64 a1_0) ∧ w'.cell? ⟨gb208, 1, none⟩ = some (.int .i64 a1_1) ∧ w'.cell? ⟨gb208, 2, none⟩ = some (.int .i64 a1_2) ∧ w'.cell? (ad215.add (x8_1).toNat) = some (.int .u64 (rd l2 x8_1))) (ds := [13]) #[false, false, false, false, false, false, false, false, false, false, false, false, false, false] (by kernel_rfl) rfl rfl ⟨(blk_cell BK208.out 0).trans rfl, (blk_cell BK208.out 1).trans rfl, (blk_cell BK208.out 2).trans rfl, ((HB.out.cell (World.block_lt_of_cell? w _ hw215_0)).trans hw215_0)⟩ (fun hHeld => ?_); refine with_tabW abacistref11_Scatter.tab5 abacistref11_Scatter.bits5 (fun HT_ HW_ => ?_)
                  generalize wr.drew = w17 at HO_7 BK208 HB GG15 HQ18 hf15_0 hx15_0 hx215_0 hHeld ⊢
                  refine pure_ (i := 0) (N := some 18) (v := ?_) (a' := ?_) #[true, false, false, false, false, false, false, false, false, false, false, false, false, false] rfl rfl (any_of HT_.out (by kernel_rfl)) (fun _ _ _ h => h) (Or.inl ⟨by rfl, ?_⟩) ?_ ?_
                  rotate_left
                  · intro w'
                    go_simp
                    with_reducible rfl
                  rotate_left
                  · simp only [Act.put, List.setIfInBounds_toArray, List.set_cons_zero, List.set_cons_succ, i64_w, i32_w]
                    rfl
                  refine pure_ (i := 1) (N := some 19) (v := ?_) (a' := ?_) #[true, true, false, false, false, false, false, false, false, false, false, false, false, false] rfl rfl (any_of HT_.out (by kernel_rfl)) (fun _ _ _ h => h) (Or.inl ⟨by rfl, ?_⟩) ?_ ?_
                  rotate_left
                  · intro w'
                    go_simp
                    with_reducible rfl
                  rotate_left
                  · simp only [Act.put, List.setIfInBounds_toArray, List.set_cons_zero, List.set_cons_succ, i64_w, i32_w]
                    rfl
                  refine pure_ (i := 3) (N := some 21) (v := ?_) (a' := ?_) #[true, true, false, true, false, false, false, false, false, false, false, false, false, false] rfl rfl (any_of HT_.out (by kernel_rfl)) (fun _ _ _ h => h) (Or.inl ⟨by rfl, ?_⟩) ?_ ?_
                  rotate_left
                  · intro w'
                    go_simp
                    with_reducible rfl
                  rotate_left
                  · simp only [Act.put, List.setIfInBounds_toArray, List.set_cons_zero, List.set_cons_succ, i64_w, i32_w]
                    rfl
                  refine pure_ (i := 4) (N := some 22) (v := ?_) (a' := ?_) #[true, true, false, true, true, false, false, false, false, false, false, false, false, false] rfl rfl (any_of HT_.out (by kernel_rfl)) (fun _ _ _ h => h) (Or.inl ⟨by rfl, ?_⟩) ?_ ?_
                  rotate_left
                  · intro w'
                    go_simp
                    with_reducible rfl
                  rotate_left
                  · simp only [Act.put, List.setIfInBounds_toArray, List.set_cons_zero, List.set_cons_succ, i64_w, i32_w]
                    rfl
                  refine pure_ (i := 8) (N := some 26) (v := ?_) (a' := ?_) #[true, true, false, true, true, false, false, false, true, false, false, false, false, false] rfl rfl (any_of HT_.out (by kernel_rfl)) (fun _ _ _ h => h) (Or.inl ⟨by rfl, ?_⟩) ?_ ?_
                  rotate_left
                  · intro w'
                    go_simp
                    with_reducible rfl
                  rotate_left
                  · simp only [Act.put, List.setIfInBounds_toArray, List.set_cons_zero, List.set_cons_succ, i64_w, i32_w]
                    rfl
                  refine pure_ (i := 9) (N := some 27) (v := ?_) (a' := ?_) #[true, true, false, true, true, false, false, false, true, true, false, false, false, false] rfl rfl (any_of HT_.out (by kernel_rfl)) (fun _ _ _ h => h) (Or.inl ⟨by rfl, ?_⟩) ?_ ?_
                  rotate_left
                  · intro w'
                    go_simp
                    with_reducible rfl
                  rotate_left
                  · simp only [Act.put, List.setIfInBounds_toArray, List.set_cons_zero, List.set_cons_succ, i64_w, i32_w]
                    rfl
                  refine pure_ (i := 10) (N := some 28) (v := ?_) (a' := ?_) #[true, true, false, true, true, false, false, false, true, true, true, false, false, false] rfl rfl (any_of HT_.out (by kernel_rfl)) (fun _ _ _ h => h) (Or.inl ⟨by rfl, ?_⟩) ?_ ?_
                  rotate_left
                  · intro w'
                    go_simp
                    with_reducible rfl
                  rotate_left
                  · simp only [Act.put, List.setIfInBounds_toArray, List.set_cons_zero, List.set_cons_succ, i64_w, i32_w]
                    rfl
                  refine take_ (i := 2) (N := some 20) (v := ?_) (a' := ?_) #[true, true, true, true, true, false, false, false, true, true, true, false, false, false] rfl rfl (take_ofW HT_.out HW_.out (by kernel_rfl)) (fun _ _ _ h => h) (Or.inl ⟨by rfl, ?_⟩) hHeld ?_ ?_
                  rotate_left
                  · rintro w' ⟨s0, s1, s2, s3⟩
                    go_simp
                    with_reducible rfl
                  rotate_left
                  · simp only [Act.put, List.setIfInBounds_toArray, List.set_cons_zero, List.set_cons_succ, i64_w, i32_w]
                    rfl
                  refine take_ (i := 5) (N := some 23) (v := ?_) (a' := ?_) #[true, true, true, true, true, true, false, false, true, true, true, false, false, false] rfl rfl (take_ofW HT_.out HW_.out (by kernel_rfl)) (fun _ _ _ h => h) (Or.inl ⟨by rfl, ?_⟩) hHeld ?_ ?_
                  rotate_left
                  · rintro w' ⟨s0, s1, s2, s3⟩
                    go_simp
                    with_reducible rfl
                  rotate_left
                  · simp only [Act.put, List.setIfInBounds_toArray, List.set_cons_zero, List.set_cons_succ, i64_w, i32_w]
                    rfl
                  refine pure_ (i := 6) (N := some 24) (v := ?_) (a' := ?_) #[true, true, true, true, true, true, true, false, true, true, true, false, false, false] rfl rfl (any_of HT_.out (by kernel_rfl)) (fun _ _ _ h => h) (Or.inl ⟨by rfl, ?_⟩) ?_ ?_
                  rotate_left
                  · intro w'
                    go_simp
                    with_reducible rfl
                  rotate_left
                  · simp only [Act.put, List.setIfInBounds_toArray, List.set_cons_zero, List.set_cons_succ, i64_w, i32_w]
                    rfl
                  refine pure_ (i := 7) (N := some 25) (v := ?_) (a' := ?_) #[true, true, true, true, true, true, true, true, true, true, true, false, false, false] rfl rfl (any_of HT_.out (by kernel_rfl)) (fun _ _ _ h => h) (Or.inl ⟨by rfl, ?_⟩) ?_ ?_
                  rotate_left
                  · intro w'
                    go_simp
                    with_reducible rfl
                  rotate_left
                  · simp only [Act.put, List.setIfInBounds_toArray, List.set_cons_zero, List.set_cons_succ, i64_w, i32_w]
                    rfl
                  refine take_ (i := 11) (N := some 29) (v := ?_) (a' := ?_) #[true, true, true, true, true, true, true, true, true, true, true, true, false, false] rfl rfl (take_ofW HT_.out HW_.out (by kernel_rfl)) (fun _ _ _ h => h) (Or.inl ⟨by rfl, ?_⟩) hHeld ?_ ?_
                  rotate_left
                  · rintro w' ⟨s0, s1, s2, s3⟩
                    go_simp
                    with_reducible rfl
                  rotate_left
                  · simp only [Act.put, List.setIfInBounds_toArray, List.set_cons_zero, List.set_cons_succ, i64_w, i32_w]
                    rfl
                  refine pure_ (i := 12) (N := some 30) (v := ?_) (a' := ?_) #[true, true, true, true, true, true, true, true, true, true, true, true, true, false] rfl rfl (any_of HT_.out (by kernel_rfl)) (fun _ _ _ h => h) (Or.inl ⟨by rfl, ?_⟩) ?_ ?_
                  rotate_left
                  · intro w'
                    go_simp
                    with_reducible rfl
                  rotate_left
                  · simp only [Act.put, List.setIfInBounds_toArray, List.set_cons_zero, List.set_cons_succ, i64_w, i32_w]
                    rfl
                  refine last_ (i := 13) (N := none) #[true, true, true, true, true, true, true, true, true, true, true, true, true, true] rfl rfl (one_of HT_.out (by kernel_rfl)) (by decide) (fun K hK => ?_)
                  refine skip_ (w1 := ?_) (by rfl) rfl ?_ ?_
                  rotate_left
                  · go_simp
                    rfl
                  refine hK.out _ _ ?_
                  clear hK K
                  refine done_ (done_of HT_.out (by kernel_rfl)) ?_
                  try go_wp2
                  go_roundg k1
                  case measure => have := HK1.out; omega
                  case rel => exact ⟨(y216), (wrap64 (x8_1 + 1)), (by first | rfl | (simp; done) | (simp [*]; done)), H', ⟨by have := HK1.out; omega⟩, ⟨by (with_reducible repeat (first | apply Kd.R_alloc | apply Kd.R_drewN | apply Kd.R_drew)); exact HQ18.out⟩, ⟨by (with_reducible repeat (first | refine blk_drewN ?_ _ | refine blk_drew ?_ | refine blk_alloc ?_ _)); refine blk_far ?_ (by have h_ := Kd.R_ne HO_7.out BK208.out (by decide); intro e_; exact h_ (by rw [e_]; rfl)) _; (with_reducible repeat (first | refine blk_drewN ?_ _ | refine blk_drew ?_ | refine blk_alloc ?_ _)); exact BK208.out⟩, ⟨by repeat (first | (with_reducible first | exact HB.out | apply below_alloc | apply pw_below_drewN | apply below_drew1 | refine below_set ?_ GB15.out | refine below_set ?_ GE208.out) | exact HB.out)⟩⟩
                · rw [if_neg c14] at H
                  exact absurd H (by simp)
              · rw [if_neg c13] at H
                exact absurd H (by simp)
            · rw [if_neg c11] at H
              exact absurd H (by simp)
          · rw [if_neg c10] at H
            exact absurd H (by simp)
        · rw [if_neg c9] at H
          have c9b0 : decide (x8_1 < a1_2) = false := decide_eq_false c9
          clear c9
          obtain rfl := Option.some.inj H
          have hcz19_0 : wr.cell? ⟨gb208, 0, none⟩ = some (.int .i64 a1_0) := (blk_cell BK208.out 0).trans rfl
          have hcz19_1 : wr.cell? ⟨gb208, 1, none⟩ = some (.int .i64 a1_1) := (blk_cell BK208.out 1).trans rfl
          have hcz19_2 : wr.cell? ⟨gb208, 2, none⟩ = some (.int .i64 a1_2) := (blk_cell BK208.out 2).trans rfl
          have hfz19_0 := blk_frozen BK208.out 0
          have hfz19_1 := blk_frozen BK208.out 1
          have hfz19_2 := blk_frozen BK208.out 2
          go_wp2
          go_ret
          exact ⟨_, by first | rfl | (simp [errW_none, errW_some] <;> rfl) | (simp [*, errW_none, errW_some] <;> rfl), by (with_reducible repeat (first | apply Kd.R_alloc | apply Kd.R_drewN | apply Kd.R_drew)); exact HO_7.out, by repeat (first | (with_reducible first | exact HB.out | apply below_alloc | apply pw_below_drewN | apply below_drew1 | refine below_set ?_ GE208.out) | exact HB.out)⟩
  · rw [if_neg c4] at H
    exact absurd H (by simp)
end Go.Proofs.YtpnkcjnemoompaaDoor.PFft
end
section
namespace Go.Proofs.YtpnkcjnemoompaaDoor.PFft
open Go.RowKit Go.Proofs.YtpnkcjnemoompaaDoor.Ext Go.Proofs.YtpnkcjnemoompaaDoor.PPlan Go.Proofs.YtpnkcjnemoompaaDoorW.PrintWords Go.Proofs.YtpnkcjnemoompaaDoorW.PrintLast Go.Proofs.YtpnkcjnemoompaaDoorW.PrintMore
attribute [local go_sem] max2_int min2_int max_two min_two max_three min_three max_four min_four   -- for this text's walks alone
set_option linter.unusedVariables false
set_option linter.unusedSimpArgs false
def abacistref11_log.l0 : Nat → Int → Int → Option (Int)
  | 0, _, _ => none
  | k + 1, x0, x3 => if x0 > 1 then (abacistref11_log.l0 k (wrap64 (Int.tdiv x0 2)) (wrap64 (x3 + 1))) else (some x3)
def abacistref11_log.f (k : Nat) (a0 : Int) : Option (Int) := abacistref11_log.l0 k a0 0
set_option maxHeartbeats 8000000 in
set_option maxRecDepth 100000 in
theorem abacistref11_log.calls (k : Nat) (a0 : Int) (r : Int) (w : World) (h : abacistref11_log.f k a0 = some r) :
    Calls Tryd.prog 105 #[.int .i64 a0] w fun e w' => e = .returned (.int .i64 r) ∧ Drawn0 w w' := by
  have H : (abacistref11_log.l0 k a0 0) = some r := h
  clear h
  have H' := Aside0.mk H
  clear H
  go_enter Tryd.func105, Tryd.ntmps105
  go_wp2
  go_loopg [0, 3] k (fun kq v0 v3 w' => ∃ (x0_1 : Int) (x3_1 : Int), v0 = .int .i64 x0_1 ∧ v3 = .int .i64 x3_1 ∧ Aside0 (abacistref11_log.l0 kq x0_1 x3_1 = some r) ∧ Aside0 (kq ≤ k) ∧ Drawn0 w w')
  case atStart => exact ⟨(a0), (0), (by first | rfl | (simp; done) | (simp [*]; done)), (by first | rfl | (simp; done) | (simp [*]; done)), H', ⟨Nat.le_refl _⟩, by repeat (first | exact Drawn0.refl _ | apply Drawn0.step)⟩
  case round =>
    clear H'
    try clear c1
    obtain ⟨x0_1, x3_1, rfl, rfl, HA, HK1, ⟨m1, rfl⟩⟩ := hrel
    cases gk with
    | zero => exact absurd HA.out (by simp [abacistref11_log.l0])
    | succ k1 =>
      have H := HA.out
      clear HA
      simp only [abacistref11_log.l0] at H
      by_cases c2 : x0_1 > 1
      · rw [if_pos c2] at H
        have c2b0 : decide (1 < x0_1) = true := decide_eq_true c2
        clear c2
        have H' := Aside0.mk H
        clear H
        go_wp2
        go_roundg k1
        case measure => have := HK1.out; omega
        case rel => exact ⟨(wrap64 (Int.tdiv x0_1 2)), (wrap64 (x3_1 + 1)), (by first | rfl | (simp; done) | (simp [*]; done)), (by first | rfl | (simp; done) | (simp [*]; done)), H', ⟨by have := HK1.out; omega⟩, by repeat (first | exact Drawn0.refl _ | apply Drawn0.step)⟩
      · rw [if_neg c2] at H
        have c2b0 : decide (1 < x0_1) = false := decide_eq_false c2
        clear c2
        obtain rfl := Option.some.inj H
        go_wp2
        go_ret
        exact ⟨by first | rfl | (simp; done) | (simp [*]; done), by repeat (first | exact Drawn0.refl _ | apply Drawn0.step)⟩
def abacistref11_Run.f (k : Nat) (l0 : List Int) (a1_0 : Int) (a1_1 : Int) (a1_2 : Int) (a2 : Int) : Option (List Int) := (abacistref11_Gather.f k l0 a1_0 a1_1 a1_2).bind fun t242 => ((abacistref11_log.f k a1_2).bind fun t245 => ((abacistref08_Transform.f k t242 t245 a2).bind fun t246 => ((abacistref11_Scatter.f k l0 a1_0 a1_1 a1_2 t246).bind fun t249 => (some t249))))
def abacistref11_Run.T1 : Bool × List (List Nat × List Nat) := (true, [([], []), ([], []), ([], []), ([], []), ([2, 3], [2, 3]), ([], []), ([5], [5]), ([6, 4], [6]), ([], []), ([4, 7, 8, 7], [4, 7, 8]), ([0, 1, 9, 9], [0, 1, 9]), ([10, 10, 0, 1, 2, 3, 4, 5, 6, 7, 8, 9, 10], [10])])
def abacistref11_Run.B1 : List Nat := [0, 0, 0, 0, 12, 0, 32, 124, 0, 508, 1023, 2047]
theorem abacistref11_Run.tab1 : rtab .any (opsOf Tryd.f62 1) = abacistref11_Run.T1 := by kernel_rfl
theorem abacistref11_Run.bits1 : waitsOk abacistref11_Run.T1.2 abacistref11_Run.B1 = true := by kernel_rfl
set_option maxHeartbeats 8000000 in
set_option maxRecDepth 100000 in
theorem abacistref11_Run.calls (k : Nat) (A0 : Option Addr) (c0 : Nat) (l0 : List Int) (a1_0 : Int) (a1_1 : Int) (a1_2 : Int) (a2 : Int) (r : List Int) (w : World) (hr0 : Kd.C (Kd.int .u64) w A0 l0.length l0) (hc0 : l0.length ≤ c0) (h : abacistref11_Run.f k l0 a1_0 a1_1 a1_2 a2 = some r) :
    Calls Tryd.prog 62 #[.slice A0 l0.length c0, .agg #[.int .i64 a1_0, .int .i64 a1_1, .int .i64 a1_2], .int .i64 a2] w fun e w' => ∃ v0_ : Value, e = .returned (v0_) ∧ Kd.R (Kd.int .u64) 45 w' w.heap.size (fun _ => True) v0_ r ∧ Below w.heap.size w w' := by
  have hu58 := Tryd.underlying58
  have HR0 := Aside0.mk hr0
  have HC0 := Aside0.mk hc0
  clear hr0 hc0
  have HB := Aside0.mk (Below.refl w.heap.size w)
  have H : ((abacistref11_Gather.f k l0 a1_0 a1_1 a1_2).bind fun t242 => ((abacistref11_log.f k a1_2).bind fun t245 => ((abacistref08_Transform.f k t242 t245 a2).bind fun t246 => ((abacistref11_Scatter.f k l0 a1_0 a1_1 a1_2 t246).bind fun t249 => (some t249))))) = some r := h
  clear h
  replace H := Option.bind_eq_some_iff.mp H
  obtain ⟨t242, A40, H⟩ := H
  replace H : ((abacistref11_log.f k a1_2).bind fun t245 => ((abacistref08_Transform.f k t242 t245 a2).bind fun t246 => ((abacistref11_Scatter.f k l0 a1_0 a1_1 a1_2 t246).bind fun t249 => (some t249)))) = some r := H
  have A4 := Aside0.mk A40
  clear A40
  replace H := Option.bind_eq_some_iff.mp H
  obtain ⟨t245, A50, H⟩ := H
  replace H : ((abacistref08_Transform.f k t242 t245 a2).bind fun t246 => ((abacistref11_Scatter.f k l0 a1_0 a1_1 a1_2 t246).bind fun t249 => (some t249))) = some r := H
  have A5 := Aside0.mk A50
  clear A50
  replace H := Option.bind_eq_some_iff.mp H
  obtain ⟨t246, A60, H⟩ := H
  replace H : ((abacistref11_Scatter.f k l0 a1_0 a1_1 a1_2 t246).bind fun t249 => (some t249)) = some r := H
  have A6 := Aside0.mk A60
  clear A60
  replace H := Option.bind_eq_some_iff.mp H
  obtain ⟨t249, A70, H⟩ := H
  replace H : (some t249) = some r := H
  have A7 := Aside0.mk A70
  clear A70
  obtain rfl := Option.some.inj H
  go_enter Tryd.func62, Tryd.ntmps62
  try go_wp2_with (first | ((with_reducible refine gate_dst (N := 4) rfl ?_); refine box_event ?hg (N := 4) ?hd (cs := #[.int .i64 a1_0, .int .i64 a1_1, .int .i64 a1_2]) (t := 58) ?hr ?_; (case hd => rfl); (case hg => rfl); (case hr => first | (go_simp; done) | (go_simp; rfl)); intro gb241 hg w8 hbox hb; have n0_ := Aside0.mk (below_step (by repeat (first | (with_reducible first | exact HB.out | apply below_alloc | apply pw_below_drewN | apply below_drew1) | exact HB.out)) hb); have n1_ := Aside0.mk (hbox); have n2_ := Aside0.mk ((by rw [hg]; exact (below_size (by repeat (first | (with_reducible first | exact HB.out | apply below_alloc | apply pw_below_drewN | apply below_drew1) | exact HB.out))) : w.heap.size ≤ gb241)); have n3_ := Aside0.mk ((by rw [hg]; exact (below_size (by repeat (first | (with_reducible first | exact HB.out | apply below_alloc | apply pw_below_drewN | apply below_drew1) | exact HB.out))) : w.heap.size ≤ gb241)); clear HB; have HB := n0_; have BK241 := n1_; have GW241 := n2_; have GE241 := n3_; clear n0_ n1_ n2_ n3_; clear hb hbox hg))
  have n0_ := Aside0.mk (blk_drew BK241.out)
  have n1_ := Aside0.mk (below_drew1 HB.out)
  clear BK241
  clear HB
  have BK241 := n0_
  have HB := n1_
  clear n0_ n1_
  refine start_ (n := 12) (S := fun w' => w'.cell? ⟨gb241, 0, none⟩ = some (.int .i64 a1_0) ∧ w'.cell? ⟨gb241, 1, none⟩ = some (.int .i64 a1_1) ∧ w'.cell? ⟨gb241, 2, none⟩ = some (.int .i64 a1_2)) (ds := []) #[false, false, false, false, false, false, false, false, false, false, false, false] (by kernel_rfl) rfl rfl ⟨(blk_cell BK241.out 0).trans rfl, (blk_cell BK241.out 1).trans rfl, (blk_cell BK241.out 2).trans rfl⟩ (fun hHeld => ?_); refine with_tabW abacistref11_Run.tab1 abacistref11_Run.bits1 (fun HT_ HW_ => ?_)
  generalize w8.drew = w9 at BK241 HB hHeld ⊢
  refine pure_ (i := 0) (N := some 7) (v := ?_) (a' := ?_) #[true, false, false, false, false, false, false, false, false, false, false, false] rfl rfl (any_of HT_.out (by kernel_rfl)) (fun _ _ _ h => h) (Or.inl ⟨by rfl, ?_⟩) ?_ ?_
  rotate_left
  · intro w'
    go_simp
    with_reducible rfl
  rotate_left
  · simp only [Act.put, List.setIfInBounds_toArray, List.set_cons_zero, List.set_cons_succ, i64_w, i32_w]
    rfl
  refine pure_ (i := 2) (N := some 9) (v := ?_) (a' := ?_) #[true, false, true, false, false, false, false, false, false, false, false, false] rfl rfl (any_of HT_.out (by kernel_rfl)) (fun _ _ _ h => h) (Or.inl ⟨by rfl, ?_⟩) ?_ ?_
  rotate_left
  · intro w'
    go_simp
    with_reducible rfl
  rotate_left
  · simp only [Act.put, List.setIfInBounds_toArray, List.set_cons_zero, List.set_cons_succ, i64_w, i32_w]
    rfl
  refine pure_ (i := 5) (N := some 12) (v := ?_) (a' := ?_) #[true, false, true, false, false, true, false, false, false, false, false, false] rfl rfl (any_of HT_.out (by kernel_rfl)) (fun _ _ _ h => h) (Or.inl ⟨by rfl, ?_⟩) ?_ ?_
  rotate_left
  · intro w'
    go_simp
    with_reducible rfl
  rotate_left
  · simp only [Act.put, List.setIfInBounds_toArray, List.set_cons_zero, List.set_cons_succ, i64_w, i32_w]
    rfl
  refine pure_ (i := 8) (N := some 15) (v := ?_) (a' := ?_) #[true, false, true, false, false, true, false, false, true, false, false, false] rfl rfl (any_of HT_.out (by kernel_rfl)) (fun _ _ _ h => h) (Or.inl ⟨by rfl, ?_⟩) ?_ ?_
  rotate_left
  · intro w'
    go_simp
    with_reducible rfl
  rotate_left
  · simp only [Act.put, List.setIfInBounds_toArray, List.set_cons_zero, List.set_cons_succ, i64_w, i32_w]
    rfl
  refine take_ (i := 1) (N := some 8) (v := ?_) (a' := ?_) #[true, true, true, false, false, true, false, false, true, false, false, false] rfl rfl (take_ofW HT_.out HW_.out (by kernel_rfl)) (fun _ _ _ h => h) (Or.inl ⟨by rfl, ?_⟩) hHeld ?_ ?_
  rotate_left
  · rintro w' ⟨s0, s1, s2⟩
    go_simp
    with_reducible rfl
  rotate_left
  · simp only [Act.put, List.setIfInBounds_toArray, List.set_cons_zero, List.set_cons_succ, i64_w, i32_w]
    rfl
  refine take_ (i := 3) (N := some 10) (v := ?_) (a' := ?_) #[true, true, true, true, false, true, false, false, true, false, false, false] rfl rfl (take_ofW HT_.out HW_.out (by kernel_rfl)) (fun _ _ _ h => h) (Or.inl ⟨by rfl, ?_⟩) hHeld ?_ ?_
  rotate_left
  · rintro w' ⟨s0, s1, s2⟩
    go_simp
    with_reducible rfl
  rotate_left
  · simp only [Act.put, List.setIfInBounds_toArray, List.set_cons_zero, List.set_cons_succ, i64_w, i32_w]
    rfl
  refine take_ (i := 6) (N := some 13) (v := ?_) (a' := ?_) #[true, true, true, true, false, true, true, false, true, false, false, false] rfl rfl (take_ofW HT_.out HW_.out (by kernel_rfl)) (fun _ _ _ h => h) (Or.inl ⟨by rfl, ?_⟩) hHeld ?_ ?_
  rotate_left
  · rintro w' ⟨s0, s1, s2⟩
    go_simp
    with_reducible rfl
  rotate_left
  · simp only [Act.put, List.setIfInBounds_toArray, List.set_cons_zero, List.set_cons_succ, i64_w, i32_w]
    rfl
  refine one_ (i := 4) (N := some 11) #[true, true, true, true, true, true, true, false, true, false, false, false] rfl rfl (one_of HT_.out (by kernel_rfl)) (by decide) (fun K hK => ?_)
  refine goes_ Tryd.func39 (by kernel_rfl) rfl #[.slice A0 l0.length c0, .agg #[.int .i64 a1_0, .int .i64 a1_1, .int .i64 a1_2]] (by rfl) rfl rfl (by (try simp only [List.map_toArray, List.map_cons, List.map_nil]); first | done | rfl | (simp only [List.length_drop, List.length_take]; rfl)) ?_
  with_reducible refine (abacistref11_Gather.calls k _ _ l0 a1_0 a1_1 a1_2 t242 _ ?side1 ?side2 A4.out).mono ?_
  (case side1 => repeat (first | exact (Kd.C_below HR0.out HB.out) | (with_reducible refine Kd.C_alloc ?_ _) | (with_reducible refine Kd.C_drewN ?_ _) | (with_reducible refine Kd.C_drew ?_)))
  (case side2 => exact HC0.out)
  rintro e w10 ⟨v243, rfl, ho0, hb⟩
  refine ⟨_, rfl, ?_⟩
  have n0_ := Aside0.mk (Kd.R_lower ho0 (below_size (by repeat (first | (with_reducible first | exact HB.out | apply below_alloc | apply pw_below_drewN | apply below_drew1 | refine below_set ?_ GE241.out) | exact HB.out))))
  have n1_ := Aside0.mk (blk_below (g := gb241) (o := .cells #[.int .i64 a1_0, .int .i64 a1_1, .int .i64 a1_2] 58 (0, 0)) (by (with_reducible repeat (first | refine blk_drewN ?_ _ | refine blk_drew ?_ | refine blk_alloc ?_ _)); exact BK241.out) hb)
  have n2_ := Aside0.mk (below_step (by repeat (first | (with_reducible first | exact HB.out | apply below_alloc | apply pw_below_drewN | apply below_drew1 | refine below_set ?_ GE241.out) | exact HB.out)) hb)
  clear BK241
  clear HB
  have HO244 := n0_
  have BK241 := n1_
  have HB := n2_
  clear n0_ n1_ n2_
  (try clear hb)
  (try clear hb2)
  (try clear hk)
  (try clear hi)
  (try clear ho0)
  refine hK.out _ _ ⟨(blk_cell BK241.out 0).trans rfl, (blk_cell BK241.out 1).trans rfl, (blk_cell BK241.out 2).trans rfl⟩ (fun hHeld => ?_)
  clear hK K
  refine norm_ (a' := ?_) ?_ ?_
  rotate_left
  · show Act.put _ (some 11) _ = _
    simp only [Act.put, List.setIfInBounds_toArray, List.set_cons_zero, List.set_cons_succ, i64_w, i32_w]
    rfl
  refine one_ (i := 7) (N := some 14) #[true, true, true, true, true, true, true, true, true, false, false, false] rfl rfl (one_of HT_.out (by kernel_rfl)) (by decide) (fun K hK => ?_)
  refine goes_ Tryd.func105 (by kernel_rfl) rfl #[.int .i64 a1_2] (by rfl) rfl rfl (by (try simp only [List.map_toArray, List.map_cons, List.map_nil]); first | done | rfl | (simp only [List.length_drop, List.length_take]; rfl)) ?_
  with_reducible refine (abacistref11_log.calls k a1_2 t245 _ A5.out).mono ?_
  rintro e w' ⟨rfl, ⟨nd, rfl⟩⟩
  refine ⟨_, rfl, ?_⟩
  obtain ⟨Ao11, co11, eo11⟩ := Kd.R_slice HO244.out
  (first | subst eo11 | (injection eo11 with f1_ f2_ f3_; have f4_ := f1_.symm; have f5_ := f3_.symm; clear f1_ f2_ f3_; subst f4_; subst f5_))
  refine hK.out _ _ ⟨(blk_cell BK241.out 0).trans rfl, (blk_cell BK241.out 1).trans rfl, (blk_cell BK241.out 2).trans rfl⟩ (fun hHeld => ?_)
  clear hK K
  refine norm_ (a' := ?_) ?_ ?_
  rotate_left
  · show Act.put _ (some 14) _ = _
    simp only [Act.put, List.setIfInBounds_toArray, List.set_cons_zero, List.set_cons_succ, i64_w, i32_w]
    rfl
  refine one_ (i := 9) (N := some 16) #[true, true, true, true, true, true, true, true, true, true, false, false] rfl rfl (one_of HT_.out (by kernel_rfl)) (by decide) (fun K hK => ?_)
  refine goes_ Tryd.func46 (by kernel_rfl) rfl #[.slice Ao11 t242.length co11, .int .i64 t245, .int .i64 a2] (by rfl) rfl rfl (by (try simp only [List.map_toArray, List.map_cons, List.map_nil]); first | done | rfl | (simp only [List.length_drop, List.length_take]; rfl)) ?_
  with_reducible refine (abacistref08_Transform.calls k _ _ t242 t245 a2 t246 _ ?side1 ?side2 A6.out).mono ?_
  (case side1 => repeat (first | exact (Kd.R_reads' HO244.out).2.2 | (with_reducible refine Kd.C_alloc ?_ _) | (with_reducible refine Kd.C_drewN ?_ _) | (with_reducible refine Kd.C_drew ?_)))
  (case side2 => exact (Kd.R_reads' HO244.out).2.1)
  rintro e w12 ⟨v247, rfl, ho0, hb⟩
  refine ⟨_, rfl, ?_⟩
  have n0_ := Aside0.mk (Kd.R_elder' (by (with_reducible repeat (first | apply Kd.R_alloc | apply Kd.R_drewN | apply Kd.R_drew)); exact HO244.out) (Kd.R_base ho0) hb)
  have n1_ := Aside0.mk (Kd.R_lower (Kd.R_new' ho0 (Kd.R_lt (by (with_reducible repeat (first | apply Kd.R_alloc | apply Kd.R_drewN | apply Kd.R_drew)); exact HO244.out))) (below_size (by repeat (first | (with_reducible first | exact HB.out | apply below_alloc | apply pw_below_drewN | apply below_drew1 | refine below_set ?_ GE241.out) | exact HB.out))))
  have n2_ := Aside0.mk (blk_below (g := gb241) (o := .cells #[.int .i64 a1_0, .int .i64 a1_1, .int .i64 a1_2] 58 (0, 0)) (by (with_reducible repeat (first | refine blk_drewN ?_ _ | refine blk_drew ?_ | refine blk_alloc ?_ _)); exact BK241.out) hb)
  have n3_ := Aside0.mk (below_step (by repeat (first | (with_reducible first | exact HB.out | apply below_alloc | apply pw_below_drewN | apply below_drew1 | refine below_set ?_ GE241.out) | exact HB.out)) hb)
  clear HO244
  clear BK241
  clear HB
  have HO244 := n0_
  have HO248 := n1_
  have BK241 := n2_
  have HB := n3_
  clear n0_ n1_ n2_ n3_
  (try clear hb)
  (try clear hb2)
  (try clear hk)
  (try clear hi)
  (try clear ho0)
  obtain ⟨Ao13, co13, eo13⟩ := Kd.R_slice HO248.out
  (first | subst eo13 | (injection eo13 with f1_ f2_ f3_; have f4_ := f1_.symm; have f5_ := f3_.symm; clear f1_ f2_ f3_; subst f4_; subst f5_))
  refine hK.out _ _ ⟨(blk_cell BK241.out 0).trans rfl, (blk_cell BK241.out 1).trans rfl, (blk_cell BK241.out 2).trans rfl⟩ (fun hHeld => ?_)
  clear hK K
  refine norm_ (a' := ?_) ?_ ?_
  rotate_left
  · show Act.put _ (some 16) _ = _
    simp only [Act.put, List.setIfInBounds_toArray, List.set_cons_zero, List.set_cons_succ, i64_w, i32_w]
    rfl
  refine one_ (i := 10) (N := some 17) #[true, true, true, true, true, true, true, true, true, true, true, false] rfl rfl (one_of HT_.out (by kernel_rfl)) (by decide) (fun K hK => ?_)
  refine goes_ Tryd.func40 (by kernel_rfl) rfl #[.slice A0 l0.length c0, .agg #[.int .i64 a1_0, .int .i64 a1_1, .int .i64 a1_2], .slice Ao13 t246.length co13] (by rfl) rfl rfl (by (try simp only [List.map_toArray, List.map_cons, List.map_nil]); first | done | rfl | (simp only [List.length_drop, List.length_take]; rfl)) ?_
  with_reducible refine (abacistref11_Scatter.calls k _ _ l0 a1_0 a1_1 a1_2 _ _ t246 t249 _ ?side1 ?side2 ?side3 ?side4 A7.out).mono ?_
  (case side1 => repeat (first | exact (Kd.C_below HR0.out HB.out) | (with_reducible refine Kd.C_alloc ?_ _) | (with_reducible refine Kd.C_drewN ?_ _) | (with_reducible refine Kd.C_drew ?_)))
  (case side2 => exact HC0.out)
  (case side3 => repeat (first | exact (Kd.R_reads' HO248.out).2.2 | (with_reducible refine Kd.C_alloc ?_ _) | (with_reducible refine Kd.C_drewN ?_ _) | (with_reducible refine Kd.C_drew ?_)))
  (case side4 => exact (Kd.R_reads' HO248.out).2.1)
  rintro e w14 ⟨v250, rfl, ho0, hb⟩
  refine ⟨_, rfl, ?_⟩
  have n0_ := Aside0.mk (Kd.R_elder' (by (with_reducible repeat (first | apply Kd.R_alloc | apply Kd.R_drewN | apply Kd.R_drew)); exact HO244.out) (Kd.R_base ho0) hb)
  have n1_ := Aside0.mk (Kd.R_elder' (by (with_reducible repeat (first | apply Kd.R_alloc | apply Kd.R_drewN | apply Kd.R_drew)); exact HO248.out) (Kd.R_base ho0) hb)
  have n2_ := Aside0.mk (Kd.R_lower (Kd.R_new' (Kd.R_new' ho0 (Kd.R_lt (by (with_reducible repeat (first | apply Kd.R_alloc | apply Kd.R_drewN | apply Kd.R_drew)); exact HO244.out))) (Kd.R_lt (by (with_reducible repeat (first | apply Kd.R_alloc | apply Kd.R_drewN | apply Kd.R_drew)); exact HO248.out))) (below_size (by repeat (first | (with_reducible first | exact HB.out | apply below_alloc | apply pw_below_drewN | apply below_drew1 | refine below_set ?_ GE241.out) | exact HB.out))))
  have n3_ := Aside0.mk (blk_below (g := gb241) (o := .cells #[.int .i64 a1_0, .int .i64 a1_1, .int .i64 a1_2] 58 (0, 0)) (by (with_reducible repeat (first | refine blk_drewN ?_ _ | refine blk_drew ?_ | refine blk_alloc ?_ _)); exact BK241.out) hb)
  have n4_ := Aside0.mk (below_step (by repeat (first | (with_reducible first | exact HB.out | apply below_alloc | apply pw_below_drewN | apply below_drew1 | refine below_set ?_ GE241.out) | exact HB.out)) hb)
  clear HO244
  clear HO248
  clear BK241
  clear HB
  have HO244 := n0_
  have HO248 := n1_
  have HO251 := n2_
  have BK241 := n3_
  have HB := n4_
  clear n0_ n1_ n2_ n3_ n4_
  (try clear hb)
  (try clear hb2)
  (try clear hk)
  (try clear hi)
  (try clear ho0)
  refine hK.out _ _ ⟨(blk_cell BK241.out 0).trans rfl, (blk_cell BK241.out 1).trans rfl, (blk_cell BK241.out 2).trans rfl⟩ (fun hHeld => ?_)
  clear hK K
  refine norm_ (a' := ?_) ?_ ?_
  rotate_left
  · show Act.put _ (some 17) _ = _
    simp only [Act.put, List.setIfInBounds_toArray, List.set_cons_zero, List.set_cons_succ, i64_w, i32_w]
    rfl
  refine pure_ (i := 11) (N := some 6) (v := ?_) (a' := ?_) #[true, true, true, true, true, true, true, true, true, true, true, true] rfl rfl (any_of HT_.out (by kernel_rfl)) (fun _ _ _ h => h) (Or.inl ⟨by rfl, ?_⟩) ?_ ?_
  rotate_left
  · intro w'
    go_simp
    with_reducible rfl
  rotate_left
  · simp only [Act.put, List.setIfInBounds_toArray, List.set_cons_zero, List.set_cons_succ, i64_w, i32_w]
    rfl
  refine done_ (done_of HT_.out (by kernel_rfl)) ?_
  try go_wp2
  go_ret
  exact ⟨_, by first | rfl | (simp [errW_none, errW_some] <;> rfl) | (simp [*, errW_none, errW_some] <;> rfl), by (with_reducible repeat (first | apply Kd.R_alloc | apply Kd.R_drewN | apply Kd.R_drew)); exact Kd.R_mono HO251.out (fun _ hk => trivial), by repeat (first | (with_reducible first | exact HB.out | apply below_alloc | apply pw_below_drewN | apply below_drew1 | refine below_set ?_ GE241.out) | exact HB.out)⟩
end Go.Proofs.YtpnkcjnemoompaaDoor.PFft
end
section
namespace Go.Proofs.YtpnkcjnemoompaaDoor.Kern
open Go.RowKit Go.Proofs.YtpnkcjnemoompaaDoor Go.Proofs.YtpnkcjnemoompaaDoor.Ext Go.Proofs.YtpnkcjnemoompaaDoor.PPlan Go.Proofs.YtpnkcjnemoompaaDoor.PFft Go.Proofs.YtpnkcjnemoompaaDoor.Pure Go.Proofs.YtpnkcjnemoompaaDoor.Obj Go.Proofs.YtpnkcjnemoompaaDoor.Fft Go.Proofs.YtpnkcjnemoompaaDoorW.PrintWords Go.Proofs.YtpnkcjnemoompaaDoorW.PrintLast Go.Proofs.YtpnkcjnemoompaaDoorW.PrintMore
set_option linter.unusedVariables false
set_option linter.unusedSimpArgs false
set_option maxRecDepth 100000
theorem rows_no (A : Option Addr) (c : Nat) (l : List Int) (R C d r : Int) (w : World) (hl : In w A c l) (hr : r = ckw l R C d) (h0 : (r != 0) = true) (hT : TabOK w) :
    Calls Tryd.prog 41 #[.slice A l.length c, .agg #[.int .i64 R, .int .i64 C], .int .i64 d] w fun e w' => e = .returned (.int .i64 r) ∧ Below w.heap.size w w' := by
  obtain ⟨k, hk⟩ := (check_is l R C d).rounds
  rw [← hr] at hk
  have HK := Aside0.mk hk
  have HB := Aside0.mk (below_alloc (Below.refl w.heap.size w) (Obj.cells #[.int .i64 R, .int .i64 C] 23))
  have HL := Aside0.mk (hl.below HB.out)
  have HT := Aside0.mk (hT.below HB.out)
  clear hk hr hl hT
  go_enter Tryd.func41, Tryd.ntmps41
  go_wp2_with fail
  refine (rows_check.calls k A c l R C d r _ HL.out.r HL.out.c HK.out HT.out).mono ?_
  rintro e w1 ⟨rfl, hb⟩
  have HB1 := Aside0.mk (below_then HB.out HB.out.size hb)
  clear hb
  go_wp2
  go_ret
  exact ⟨rfl, HB1.out⟩
theorem cols_no (A : Option Addr) (c : Nat) (l : List Int) (R C d r : Int) (w : World) (hl : In w A c l) (hr : r = ckw l R C d) (h0 : (r != 0) = true) (hT : TabOK w) :
    Calls Tryd.prog 42 #[.slice A l.length c, .agg #[.int .i64 R, .int .i64 C], .int .i64 d] w fun e w' => e = .returned (.int .i64 r) ∧ Below w.heap.size w w' := by
  obtain ⟨k, hk⟩ := (check_is l R C d).rounds
  rw [← hr] at hk
  have HK := Aside0.mk hk
  have HB := Aside0.mk (below_alloc (Below.refl w.heap.size w) (Obj.cells #[.int .i64 R, .int .i64 C] 23))
  have HL := Aside0.mk (hl.below HB.out)
  have HT := Aside0.mk (hT.below HB.out)
  clear hk hr hl hT
  go_enter Tryd.func42, Tryd.ntmps42
  go_wp2_with fail
  refine (rows_check.calls k A c l R C d r _ HL.out.r HL.out.c HK.out HT.out).mono ?_
  rintro e w1 ⟨rfl, hb⟩
  have HB1 := Aside0.mk (below_then HB.out HB.out.size hb)
  clear hb
  go_wp2
  go_ret
  exact ⟨rfl, HB1.out⟩
end Go.Proofs.YtpnkcjnemoompaaDoor.Kern
end
section
set_option linter.unusedVariables false
set_option linter.unusedSimpArgs false
namespace Go.Proofs.YtpnkcjnemoompaaDoor.Fft
open Go.RowKit Go.Proofs.YtpnkcjnemoompaaDoor Go.Proofs.YtpnkcjnemoompaaDoor.Pure Go.Proofs.YtpnkcjnemoompaaDoor.PPlan Go.Proofs.YtpnkcjnemoompaaDoor.PFft Go.Proofs.YtpnkcjnemoompaaDoor.Ext Go.Proofs.YtpnkcjnemoompaaDoorW.PrintWords Go.Proofs.YtpnkcjnemoompaaDoorW.PrintLast Go.Proofs.YtpnkcjnemoompaaDoorW.PrintMore
theorem view_at {o s i L : Nat} (h : o + i * s < L) (hL : L ≤ 1048576) : wrap64 ((o : Int) + wrap64 ((i : Int) * (s : Int))) = ((o + i * s : Nat) : Int) := by
  rw [mulc i s (by omega), wrap_i _ (by omega) (by omega)]; rfl
theorem rGather_loop (l : List Int) (o s n : Nat) (h : Vn o s n l.length) (hL : l.length ≤ 1048576) (m : Nat) : ∀ i, i + m = n → Ev (fun k => abacistref11_Gather.l0 k l (gat l o s i) (i : Int) (o : Int) (s : Int) (n : Int)) (gat l o s n) := by
  induction m with
  | zero =>
    intro i hi
    obtain rfl : i = n := by omega
    refine Ev.step (f := fun _ => some _) (fun k => ?_) (Ev.now _)
    simp only [abacistref11_Gather.l0]
    rw [if_neg (by omega)]
  | succ m ih =>
    intro i hi
    have hp := h.lt i (by omega)
    have hn := h.hn
    refine Ev.step (f := fun k => abacistref11_Gather.l0 k l (gat l o s (i + 1)) ((i + 1 : Nat) : Int) (o : Int) (s : Int) (n : Int)) (fun k => ?_) (ih (i + 1) (by omega))
    simp only [abacistref11_Gather.l0]
    rw [view_at hp hL, if_pos (by omega), if_pos (by omega), if_pos (by omega), if_pos (by rw [gat_len]; omega), rdn, wsucc i (by omega), gat_succ]
theorem rGather (l : List Int) (o s n : Nat) (h : Vn o s n l.length) (hL : l.length ≤ 1048576) : Ev (fun k => abacistref11_Gather.f k l (o : Int) (s : Int) (n : Int)) (gat l o s n) := rGather_loop l o s n h hL n 0 (by omega)
theorem rScatter_loop (l ws : List Int) (o s n : Nat) (h : Vn o s n l.length) (hL : l.length ≤ 1048576) (hw : ws.length = n) (m : Nat) : ∀ i, i + m = n → Ev (fun k => abacistref11_Scatter.l0 k ws (sct l o s ws i) (i : Int) (o : Int) (s : Int) (n : Int)) (sct l o s ws n) := by
  induction m with
  | zero =>
    intro i hi
    obtain rfl : i = n := by omega
    refine Ev.step (f := fun _ => some _) (fun k => ?_) (Ev.now _)
    simp only [abacistref11_Scatter.l0]
    rw [if_neg (by omega)]
  | succ m ih =>
    intro i hi
    have hp := h.lt i (by omega)
    have hn := h.hn
    refine Ev.step (f := fun k => abacistref11_Scatter.l0 k ws (sct l o s ws (i + 1)) ((i + 1 : Nat) : Int) (o : Int) (s : Int) (n : Int)) (fun k => ?_) (ih (i + 1) (by omega))
    simp only [abacistref11_Scatter.l0]
    rw [view_at hp hL, if_pos (by omega), if_pos (by omega), if_pos (by omega), if_pos (by omega), if_pos (by rw [sct_len]; omega), rdn, Int.toNat_natCast, wsucc i (by omega)]
    rfl
theorem rScatter (l ws : List Int) (o s n : Nat) (h : Vn o s n l.length) (hL : l.length ≤ 1048576) (hw : ws.length = n) : Ev (fun k => abacistref11_Scatter.f k l (o : Int) (s : Int) (n : Int) ws) (sct l o s ws n) := by
  unfold abacistref11_Scatter.f
  refine Ev.bind (a := []) (Ev.now _) (Ev_if (by simp only [List.length_nil]; omega) ?_)
  rw [List.nil_append]
  exact rScatter_loop l ws o s n h hL hw n 0 (by omega)
theorem rLog_loop (x : Nat) : ∀ j : Nat, x + j ≤ 62 → Ev (fun k => abacistref11_log.l0 k ((2 ^ x : Nat) : Int) (j : Int)) ((x + j : Nat) : Int) := by
  induction x with
  | zero =>
    intro j hj
    rw [Nat.zero_add]
    refine Ev.step (f := fun _ => some _) (fun k => ?_) (Ev.now _)
    simp only [abacistref11_log.l0]
    rw [if_neg (by decide)]
  | succ x ih =>
    intro j hj
    have := ih (j + 1) (by omega)
    rw [show x + (j + 1) = x + 1 + j by omega] at this
    refine Ev.step (fun k => ?_) this
    have h1 := Nat.two_pow_pos x
    have h2 : (2 : Nat) ^ x ≤ 2 ^ 62 := Nat.pow_le_pow_right (by decide) (by omega)
    have h3 : (2 : Nat) ^ 62 = 4611686018427387904 := by decide
    rw [h3] at h2
    clear h3
    simp only [abacistref11_log.l0]
    rw [Nat.pow_succ]
    generalize 2 ^ x = y at *
    rw [if_pos (by omega), Int.tdiv_eq_ediv_of_nonneg (by omega), wsucc j (by omega), wrap_i _ (by omega) (by omega), show (((y * 2 : Nat) : Int)) / 2 = (y : Int) by omega]
theorem rLog (x : Nat) (hx : x ≤ 20) : Ev (fun k => abacistref11_log.f k ((2 ^ x : Nat) : Int)) (x : Int) := by
  have := rLog_loop x 0 (by omega)
  exact this
theorem rRun (l : List Int) (hl : Ws l) (o s n x : Nat) (h : Vn o s n l.length) (hL : l.length ≤ 1048576) (hx : x ≤ 20) (hn : n = 2 ^ x) (d : Int) (hd : d = 0 ∨ d = 1) :
    Ev (fun k => abacistref11_Run.f k l (o : Int) (s : Int) (n : Int) d) (sct l o s (tb n (tr x d (el (gat l o s n)))) n) := by
  have ht := rTransform (gat l o s n) (gat_ws hl o s n) x (by omega) d hd (by rw [gat_len]; have := h.hn; omega) (by rw [gat_len]; exact hn)
  rw [gat_len] at ht
  have hg := rLog x hx
  rw [← hn] at hg
  unfold abacistref11_Run.f
  exact Ev.bind (rGather l o s n h hL) (Ev.bind hg (Ev.bind ht (Ev.bind (rScatter l _ o s n h hL (tb_len _ _)) (Ev.now _))))
end Go.Proofs.YtpnkcjnemoompaaDoor.Fft
end
section
namespace Go.Proofs.YtpnkcjnemoompaaDoor.Kern
open Go.RowKit Go.Proofs.YtpnkcjnemoompaaDoor Go.Proofs.YtpnkcjnemoompaaDoor.Ext Go.Proofs.YtpnkcjnemoompaaDoor.PPlan Go.Proofs.YtpnkcjnemoompaaDoor.PFft Go.Proofs.YtpnkcjnemoompaaDoor.Pure Go.Proofs.YtpnkcjnemoompaaDoor.Obj Go.Proofs.YtpnkcjnemoompaaDoor.Fft Go.Proofs.YtpnkcjnemoompaaDoorW.PrintWords Go.Proofs.YtpnkcjnemoompaaDoorW.PrintLast Go.Proofs.YtpnkcjnemoompaaDoorW.PrintMore
set_option linter.unusedVariables false
set_option linter.unusedSimpArgs false
set_option maxRecDepth 100000
set_option maxHeartbeats 4000000 in
theorem rrows (R C x : Nat) (A : Option Addr) (c : Nat) (l : List Int) (d : Int) (hd : d = 0 ∨ d = 1) (hx : x ≤ 20) (hn : C = 2 ^ x) (hR : R ≤ 1048576) (hC : C ≤ 1048576) (hC0 : 1 ≤ C) (hl : R * C = l.length) (hL : l.length ≤ 1048576) (hW : Ws l) (w : World) (hI : In w A c l) :
    Calls Tryd.prog 43 #[.slice A l.length c, .agg #[.int .i64 (R : Int), .int .i64 (C : Int)], .int .i64 d] w fun e w' => ∃ A' c', e = .returned (.slice A' l.length c') ∧ In w' A' c' (vfold l x d (fun i => i * C) (fun _ => 1) C R) ∧ Below w.heap.size w w' := by
  have hvn : ∀ i, i < R → Vn (i * C) (1) C l.length := by
    intro i hi
    refine ⟨hC, Nat.le_refl _, fun j hj => ?_⟩
    have : (i + 1) * C ≤ R * C := Nat.mul_le_mul_right _ hi
    rw [Nat.add_mul, Nat.one_mul] at this
    omega
  have HV := Aside0.mk hvn
  have HW := Aside0.mk hW
  have HD := Aside0.mk hd
  have HN := Aside0.mk hn
  have HB0 := Aside0.mk (below_alloc (Below.refl w.heap.size w) (Obj.cells #[.int .i64 (R : Int), .int .i64 (C : Int)] 23))
  have HS0 := Aside0.mk (Bk.new w 23 [.int .i64 (R : Int), .int .i64 (C : Int)])
  have HI0 := Aside0.mk (show In _ A c (vfold l x d (fun i => i * C) (fun _ => 1) C 0) from hI.below HB0.out)
  have HRC := Aside0.mk (show R * C ≤ 1048576 by omega)
  obtain ⟨bs, hbs⟩ : ∃ z, z = w.heap.size := ⟨_, rfl⟩
  have hbg : w.heap.size ≤ bs := by omega
  clear hvn hW hd hn hI hl
  go_enter Tryd.func43, Tryd.ntmps43
  go_wp2
  rw [← hbs] at HS0 ⊢
  clear hbs
  go_loopw [0, 7] (fun v0 v7 wr => ∃ (i : Nat) (Ai : Option Addr) (ci : Nat), v0 = .slice Ai l.length ci ∧ v7 = .int .i64 i ∧ i ≤ R ∧ Aside0 (In wr Ai ci (vfold l x d (fun i => i * C) (fun _ => 1) C i)) ∧ Aside0 (Below w.heap.size w wr) ∧ Aside0 (Bk wr bs 23 [.int .i64 (R : Int), .int .i64 (C : Int)])) (fun _ v7 _ => R - (intOf v7).toNat)
  case atStart => exact ⟨0, A, c, rfl, rfl, Nat.zero_le _, HI0, HB0, HS0⟩
  case round =>
    clear HI0 HB0 HS0
    obtain ⟨i, Ai, ci, rfl, rfl, hi, HI, HB, HS⟩ := hrel
    have u0 := HS.out.cell 0
    have u1 := HS.out.cell 1
    by_cases h1 : i < R
    · have hia : (i : Int) < (R : Int) := by omega
      obtain ⟨V, hV⟩ : ∃ z, z = vfold l x d (fun i => i * C) (fun _ => 1) C i := ⟨_, rfl⟩
      have hVl : V.length = l.length := by rw [hV]; exact vfold_len _ _ _ _ _ _ _
      obtain ⟨p, hp⟩ : ∃ z, z = i * C := ⟨_, rfl⟩
      have hvn := HV.out i h1
      rw [← hp, ← hVl] at hvn
      obtain ⟨k, hk⟩ := (rRun V (by rw [hV]; exact vfold_ws HW.out _ _ _ _ _ _) p (1) C x hvn (by omega) hx HN.out d HD.out).rounds
      rw [show sct V p (1) (tb C (tr x d (el (gat V p (1) C)))) C = vrun V x d p (1) C from rfl] at hk
      have HK := Aside0.mk hk
      rw [← hV] at HI
      have HVe := Aside0.mk hV
      have HPe := Aside0.mk hp
      clear hk hvn hV
      have m1 : wrap64 ((i : Int) * (C : Int)) = (p : Int) := by rw [hp]; exact mulc i C (by have := HRC.out; have : i * C ≤ R * C := Nat.mul_le_mul_right _ (by omega); omega)
      clear hp
      go_wp2_with fail
      have hr := abacistref11_Run.calls k Ai ci V (p : Int) (1 : Int) (C : Int) d _ _ HI.out.r HI.out.c HK.out
      rw [hVl] at hr
      with_reducible refine hr.mono ?_
      clear hr
      rintro e w2 ⟨v, rfl, hr2, hb⟩
      obtain ⟨A2, c2, hv, hl2, hc2⟩ := Kd.R_reads hr2
      subst hv
      have HI2 := Aside0.mk (In.mk hc2 hl2)
      rw [vrun_len, hVl]
      have HB2 := Aside0.mk (below_then HB.out HB.out.size hb)
      have HS2 := Aside0.mk (HS.out.below hb)
      rw [HPe.out, HVe.out] at HI2
      clear hr2 hb hc2 hl2 HI HB HS u0 u1
      go_wp2
      go_roundw
      case rel => exact ⟨i + 1, A2, c2, rfl, by go_num, by omega, HI2, HB2, HS2⟩
      case measure => simp [intOf]; omega
    · obtain rfl : i = R := by omega
      have hia : decide ((i : Int) < (i : Int)) = false := decide_eq_false (by omega)
      go_wp2
      go_ret
      exact ⟨_, _, rfl, HI.out, HB.out⟩
set_option maxHeartbeats 4000000 in
theorem rcols (R C x : Nat) (A : Option Addr) (c : Nat) (l : List Int) (d : Int) (hd : d = 0 ∨ d = 1) (hx : x ≤ 20) (hn : R = 2 ^ x) (hR : R ≤ 1048576) (hC : C ≤ 1048576) (hC0 : 1 ≤ C) (hl : R * C = l.length) (hL : l.length ≤ 1048576) (hW : Ws l) (w : World) (hI : In w A c l) :
    Calls Tryd.prog 44 #[.slice A l.length c, .agg #[.int .i64 (R : Int), .int .i64 (C : Int)], .int .i64 d] w fun e w' => ∃ A' c', e = .returned (.slice A' l.length c') ∧ In w' A' c' (vfold l x d (fun i => i) (fun _ => C) R C) ∧ Below w.heap.size w w' := by
  have hvn : ∀ i, i < C → Vn (i) (C) R l.length := by
    intro i hi
    refine ⟨hR, hC0, fun j hj => ?_⟩
    have : (j + 1) * C ≤ R * C := Nat.mul_le_mul_right _ hj
    rw [Nat.add_mul, Nat.one_mul] at this
    omega
  have HV := Aside0.mk hvn
  have HW := Aside0.mk hW
  have HD := Aside0.mk hd
  have HN := Aside0.mk hn
  have HB0 := Aside0.mk (below_alloc (Below.refl w.heap.size w) (Obj.cells #[.int .i64 (R : Int), .int .i64 (C : Int)] 23))
  have HS0 := Aside0.mk (Bk.new w 23 [.int .i64 (R : Int), .int .i64 (C : Int)])
  have HI0 := Aside0.mk (show In _ A c (vfold l x d (fun i => i) (fun _ => C) R 0) from hI.below HB0.out)
  have HRC := Aside0.mk (show R * C ≤ 1048576 by omega)
  obtain ⟨bs, hbs⟩ : ∃ z, z = w.heap.size := ⟨_, rfl⟩
  have hbg : w.heap.size ≤ bs := by omega
  clear hvn hW hd hn hI hl
  go_enter Tryd.func44, Tryd.ntmps44
  go_wp2
  rw [← hbs] at HS0 ⊢
  clear hbs
  go_loopw [0, 7] (fun v0 v7 wr => ∃ (i : Nat) (Ai : Option Addr) (ci : Nat), v0 = .slice Ai l.length ci ∧ v7 = .int .i64 i ∧ i ≤ C ∧ Aside0 (In wr Ai ci (vfold l x d (fun i => i) (fun _ => C) R i)) ∧ Aside0 (Below w.heap.size w wr) ∧ Aside0 (Bk wr bs 23 [.int .i64 (R : Int), .int .i64 (C : Int)])) (fun _ v7 _ => C - (intOf v7).toNat)
  case atStart => exact ⟨0, A, c, rfl, rfl, Nat.zero_le _, HI0, HB0, HS0⟩
  case round =>
    clear HI0 HB0 HS0
    obtain ⟨i, Ai, ci, rfl, rfl, hi, HI, HB, HS⟩ := hrel
    have u0 := HS.out.cell 0
    have u1 := HS.out.cell 1
    by_cases h1 : i < C
    · have hia : (i : Int) < (C : Int) := by omega
      obtain ⟨V, hV⟩ : ∃ z, z = vfold l x d (fun i => i) (fun _ => C) R i := ⟨_, rfl⟩
      have hVl : V.length = l.length := by rw [hV]; exact vfold_len _ _ _ _ _ _ _
      obtain ⟨p, hp⟩ : ∃ z, z = i := ⟨_, rfl⟩
      have hvn := HV.out i h1
      rw [← hp, ← hVl] at hvn
      obtain ⟨k, hk⟩ := (rRun V (by rw [hV]; exact vfold_ws HW.out _ _ _ _ _ _) p (C) R x hvn (by omega) hx HN.out d HD.out).rounds
      rw [show sct V p (C) (tb R (tr x d (el (gat V p (C) R)))) R = vrun V x d p (C) R from rfl] at hk
      have HK := Aside0.mk hk
      rw [← hV] at HI
      have HVe := Aside0.mk hV
      have HPe := Aside0.mk hp
      clear hk hvn hV
      clear hp
      go_wp2_with fail
      have hr := abacistref11_Run.calls k Ai ci V (p : Int) (C : Int) (R : Int) d _ _ HI.out.r HI.out.c HK.out
      rw [hVl, show ((p : Nat) : Int) = (i : Int) by rw [HPe.out]] at hr
      with_reducible refine hr.mono ?_
      clear hr
      rintro e w2 ⟨v, rfl, hr2, hb⟩
      obtain ⟨A2, c2, hv, hl2, hc2⟩ := Kd.R_reads hr2
      subst hv
      have HI2 := Aside0.mk (In.mk hc2 hl2)
      rw [vrun_len, hVl]
      have HB2 := Aside0.mk (below_then HB.out HB.out.size hb)
      have HS2 := Aside0.mk (HS.out.below hb)
      rw [HPe.out, HVe.out] at HI2
      clear hr2 hb hc2 hl2 HI HB HS u0 u1
      go_wp2
      go_roundw
      case rel => exact ⟨i + 1, A2, c2, rfl, by go_num, by omega, HI2, HB2, HS2⟩
      case measure => simp [intOf]; omega
    · obtain rfl : i = C := by omega
      have hia : decide ((i : Int) < (i : Int)) = false := decide_eq_false (by omega)
      go_wp2
      go_ret
      exact ⟨_, _, rfl, HI.out, HB.out⟩
end Go.Proofs.YtpnkcjnemoompaaDoor.Kern
end
section
namespace Go.Proofs.YtpnkcjnemoompaaDoor.Kern
open Go.RowKit Go.Proofs.YtpnkcjnemoompaaDoor Go.Proofs.YtpnkcjnemoompaaDoor.Ext Go.Proofs.YtpnkcjnemoompaaDoor.PPlan Go.Proofs.YtpnkcjnemoompaaDoor.PFft Go.Proofs.YtpnkcjnemoompaaDoor.Pure Go.Proofs.YtpnkcjnemoompaaDoor.Obj Go.Proofs.YtpnkcjnemoompaaDoor.Fft Go.Proofs.YtpnkcjnemoompaaDoorW.PrintWords Go.Proofs.YtpnkcjnemoompaaDoorW.PrintLast Go.Proofs.YtpnkcjnemoompaaDoorW.PrintMore
set_option linter.unusedVariables false
set_option linter.unusedSimpArgs false
set_option maxRecDepth 100000
theorem Mr.drew {w : World} {g c : Nat} {xs : List Int} (h : Mr w g c xs) : Mr w.drew g c xs := h.below (below_drew1 (Below.refl _ _))
structure Al (w w' : World) (bs : Nat) (A : Option Addr) (c : Nat) (A1 : Option Addr) (c1 : Nat) (A2 : Option Addr) (c2 : Nat) (l : List Int) (R C : Int) : Prop where
  be : Below w.heap.size w w'
  hl : In w' A c l
  h1 : In w' A1 c1 l
  h2 : In w' A2 c2 l
  sh : Bk w' bs 23 [.int .i64 R, .int .i64 C]
theorem Al.below {w w1 w2 : World} {bs : Nat} {A : Option Addr} {c : Nat} {A1 : Option Addr} {c1 : Nat} {A2 : Option Addr} {c2 : Nat} {l : List Int} {R C : Int} (h : Al w w1 bs A c A1 c1 A2 c2 l R C) (hb : Below w1.heap.size w1 w2) : Al w w2 bs A c A1 c1 A2 c2 l R C :=
  ⟨below_then h.be h.be.size hb, h.hl.below hb, h.h1.below hb, h.h2.below hb, h.sh.below hb⟩
theorem Al.drew {w w1 : World} {bs : Nat} {A : Option Addr} {c : Nat} {A1 : Option Addr} {c1 : Nat} {A2 : Option Addr} {c2 : Nat} {l : List Int} {R C : Int} (h : Al w w1 bs A c A1 c1 A2 c2 l R C) : Al w w1.drew bs A c A1 c1 A2 c2 l R C := h.below (below_drew1 (Below.refl _ _))
set_option maxHeartbeats 4000000 in
theorem all_shape (A : Option Addr) (c : Nat) (l : List Int) (R C d : Int) (w : World) (hl : In w A c l) (hL : l.length ≤ 64) (hg : ¬ GoodS R C) (hT : TabOK w) :
    Calls Tryd.prog 7 #[.slice A l.length c, .agg #[.int .i64 R, .int .i64 C], .int .i64 d] w fun e w' => e = .returned (.bool true) ∧ Below w.heap.size w w' := by
  have HR := Aside0.mk (show (19 : Int) = ckw l R C d by unfold ckw; rw [if_neg (fun q => hg q.1)])
  obtain ⟨kg, hkg⟩ := (rgood_no R C hg).rounds
  have HG := Aside0.mk hkg
  clear hkg hg
  have HT0 := Aside0.mk hT
  have HB := Aside0.mk (below_alloc (Below.refl w.heap.size w) (Obj.cells #[.int .i64 R, .int .i64 C] 23))
  have HS := Aside0.mk (Bk.new w 23 [.int .i64 R, .int .i64 C])
  have HL0 := Aside0.mk hl
  have HL := Aside0.mk (hl.below HB.out)
  obtain ⟨bs, hbs⟩ : ∃ z, z = w.heap.size := ⟨_, rfl⟩
  have hbg : w.heap.size ≤ bs := by omega
  have d1 : decide ((64 : Int) < (l.length : Int)) = false := decide_eq_false (by omega)
  clear hT hl
  go_enter Tryd.func7, Tryd.ntmps7
  go_wp2_with fail
  with_reducible refine (awake_calls _ (HT0.out.below HB.out)).mono ?_
  rintro e w1 ⟨rfl, hb⟩
  rw [← hbs] at HS ⊢
  clear hbs
  have HB1 := Aside0.mk (below_then HB.out HB.out.size hb)
  have HL1 := Aside0.mk (HL.out.below hb)
  have HS1 := Aside0.mk (HS.out.below hb)
  have v0 := HS1.out.cell 0
  have v1 := HS1.out.cell 1
  clear hb HB HL HS
  go_wp2_with (first | ((with_reducible refine gate_dst (N := 17) rfl ?_); refine Kd.R_lit (Kd.int .u64) _ 45 ?hg (N := 17) ?hd (xs := []) (inner := []) (ok := fun _ => True) (okp := fun _ => True) ?hr ?hp (fun _ hk => hk) trivial (Below.refl _ _) (Nat.le_refl _) (by simp) ?_; (case hd => rfl); (case hg => rfl); (case hr => first | (go_simp; done) | (go_simp; rfl)); (case hp => exact (Reps.none _ _)); intro v5 w5 ho hb hg_ hnew_; have HOx := Aside0.mk ho; have HBx := Aside0.mk hb; clear hg_ hnew_ ho hb) | ((with_reducible refine gate_builtin (b := .append) (xs := #[.tmp 17, .tmp 18]) rfl ?_); at_builtin; refine Kd.R_append_rows (Kd.int .u64) (w0 := w1) w1.heap.size rfl (.tmp 17) (.tmp 18) 24 45 (.int .u64 0) 8 rfl Tryd.underlying24 info45 rfl (by decide) (by omega) v5 [] (l) _ _ _ (fun _ => True) (fun _ => False) rfl rfl ?aO ?aR (fun _ _ h => h) (fun _ h => h.elim) ?aF ?aB ?aS ?aL ?_; (case aR => exact (Kd.C_below (HL1.out.r) HBx.out)); (case aB => exact HBx.out); (case aF => exact (fun _ _ => trivial)); (case aO => exact HOx.out); (case aS => exact HBx.out.size); (case aL => (simp only [List.length_nil]; omega)); intro v6 w6 ho2 hb2 hg_ hat_; rw [List.nil_append] at ho2; clear hg_ hat_; clear HOx HBx; obtain ⟨Am, cm, hv, hlm, hcm⟩ := Kd.R_reads ho2; subst hv; have HMm := Aside0.mk (In.mk hcm hlm); clear hcm hlm; have HB6 := Aside0.mk (below_then HB1.out HB1.out.size hb2); have HL6 := Aside0.mk (HL1.out.below hb2); have HS6 := Aside0.mk (HS1.out.below hb2); clear hb2 ho2 v0 v1 HB1 HL1 HS1) | ((with_reducible refine gate_dst (N := 20) rfl ?_); refine Kd.R_lit (Kd.int .u64) _ 45 ?hg (N := 20) ?hd (xs := []) (inner := []) (ok := fun _ => True) (okp := fun _ => True) ?hr ?hp (fun _ hk => hk) trivial (Below.refl _ _) (Nat.le_refl _) (by simp) ?_; (case hd => rfl); (case hg => rfl); (case hr => first | (go_simp; done) | (go_simp; rfl)); (case hp => exact (Reps.none _ _)); intro v7 w7 ho hb hg_ hnew_; have HOx := Aside0.mk ho; have HBx := Aside0.mk hb; clear hg_ hnew_ ho hb) | ((with_reducible refine gate_builtin (b := .append) (xs := #[.tmp 20, .tmp 21]) rfl ?_); at_builtin; refine Kd.R_append_rows (Kd.int .u64) (w0 := w6) w6.heap.size rfl (.tmp 20) (.tmp 21) 24 45 (.int .u64 0) 8 rfl Tryd.underlying24 info45 rfl (by decide) (by omega) v7 [] (l) _ _ _ (fun _ => True) (fun _ => False) rfl rfl ?aO ?aR (fun _ _ h => h) (fun _ h => h.elim) ?aF ?aB ?aS ?aL ?_; (case aR => exact (Kd.C_below (HL6.out.r) HBx.out)); (case aB => exact HBx.out); (case aF => exact (fun _ _ => trivial)); (case aO => exact HOx.out); (case aS => exact HBx.out.size); (case aL => (simp only [List.length_nil]; omega)); intro v8 w8 ho2 hb2 hg_ hat_; rw [List.nil_append] at ho2; clear hg_ hat_; clear HOx HBx; obtain ⟨An, cn, hv, hln, hcn⟩ := Kd.R_reads ho2; subst hv; have HNn := Aside0.mk (In.mk hcn hln); clear hcn hln; have HA8 := Aside0.mk (show Al w w8 bs A c Am cm An cn l R C from ⟨below_then HB6.out HB6.out.size hb2, HL6.out.below hb2, HMm.out.below hb2, HNn.out, HS6.out.below hb2⟩); clear hb2 ho2 HB6 HL6 HS6 HMm HNn))
  refine start_ (n := 10) (S := fun w' => w'.cell? ⟨bs, 0, none⟩ = some (.int .i64 R) ∧ w'.cell? ⟨bs, 1, none⟩ = some (.int .i64 C) ∧ Aside0 (Al w w' bs A c Am cm An cn l R C)) (ds := []) #[false, false, false, false, false, false, false, false, false, false] (by kernel_rfl) rfl rfl ⟨HA8.out.drew.sh.cell 0, HA8.out.drew.sh.cell 1, ⟨HA8.out.drew⟩⟩ (fun hHeld => ?_)
  refine pure_ (i := 0) (N := some 23) (v := ?_) (a' := ?_) #[true, false, false, false, false, false, false, false, false, false] rfl rfl (by kernel_rfl) (fun _ _ _ h => h) (Or.inl ⟨by rfl, ?_⟩) ?_ ?_
  rotate_left
  · intro w'
    go_simp
    with_reducible rfl
  rotate_left
  · simp only [Act.put, List.setIfInBounds_toArray, List.set_cons_zero, List.set_cons_succ, i64_w, i32_w]
    rfl
  refine pure_ (i := 2) (N := some 25) (v := ?_) (a' := ?_) #[true, false, true, false, false, false, false, false, false, false] rfl rfl (by kernel_rfl) (fun _ _ _ h => h) (Or.inl ⟨by rfl, ?_⟩) ?_ ?_
  rotate_left
  · intro w'
    go_simp
    with_reducible rfl
  rotate_left
  · simp only [Act.put, List.setIfInBounds_toArray, List.set_cons_zero, List.set_cons_succ, i64_w, i32_w]
    rfl
  refine pure_ (i := 4) (N := some 27) (v := ?_) (a' := ?_) #[true, false, true, false, true, false, false, false, false, false] rfl rfl (by kernel_rfl) (fun _ _ _ h => h) (Or.inl ⟨by rfl, ?_⟩) ?_ ?_
  rotate_left
  · intro w'
    go_simp
    with_reducible rfl
  rotate_left
  · simp only [Act.put, List.setIfInBounds_toArray, List.set_cons_zero, List.set_cons_succ, i64_w, i32_w]
    rfl
  refine pure_ (i := 6) (N := some 29) (v := ?_) (a' := ?_) #[true, false, true, false, true, false, true, false, false, false] rfl rfl (by kernel_rfl) (fun _ _ _ h => h) (Or.inl ⟨by rfl, ?_⟩) ?_ ?_
  rotate_left
  · intro w'
    go_simp
    with_reducible rfl
  rotate_left
  · simp only [Act.put, List.setIfInBounds_toArray, List.set_cons_zero, List.set_cons_succ, i64_w, i32_w]
    rfl
  refine take_ (i := 1) (N := some 24) (v := ?_) (a' := ?_) #[true, true, true, false, true, false, true, false, false, false] rfl rfl (by kernel_rfl) (fun _ _ _ h => h) (Or.inl ⟨by rfl, ?_⟩) hHeld ?_ ?_
  rotate_left
  · rintro w' ⟨s0, s1, s2⟩
    go_simp
    with_reducible rfl
  rotate_left
  · simp only [Act.put, List.setIfInBounds_toArray, List.set_cons_zero, List.set_cons_succ, i64_w, i32_w]
    rfl
  refine take_ (i := 5) (N := some 28) (v := ?_) (a' := ?_) #[true, true, true, false, true, true, true, false, false, false] rfl rfl (by kernel_rfl) (fun _ _ _ h => h) (Or.inl ⟨by rfl, ?_⟩) hHeld ?_ ?_
  rotate_left
  · rintro w' ⟨s0, s1, s2⟩
    go_simp
    with_reducible rfl
  rotate_left
  · simp only [Act.put, List.setIfInBounds_toArray, List.set_cons_zero, List.set_cons_succ, i64_w, i32_w]
    rfl
  refine one_ (i := 3) (N := some 26) #[true, true, true, true, true, true, true, false, false, false] rfl rfl (by kernel_rfl) (by decide) (fun K hK => ?_)
  refine goes_ Tryd.func41 (by kernel_rfl) rfl #[.slice Am l.length cm, .agg #[.int .i64 R, .int .i64 C], .int .i64 d] (by rfl) rfl rfl (by simp only [List.map_toArray, List.map_cons, List.map_nil]; rfl) ?_
  with_reducible refine (rows_no Am cm l R C d 19 _ hHeld.2.2.out.h1 HR.out rfl (HT0.out.below hHeld.2.2.out.be)).mono ?_
  rintro e w9 ⟨rfl, hb⟩
  refine ⟨_, rfl, ?_⟩
  have nS := hHeld.2.2.out.below hb
  clear hHeld hb
  refine hK.out _ _ ⟨nS.sh.cell 0, nS.sh.cell 1, ⟨nS⟩⟩ (fun hHeld => ?_)
  clear hK K
  refine norm_ (a' := ?_) ?_ ?_
  rotate_left
  · show Act.put _ (some 26) _ = _
    simp only [Act.put, List.setIfInBounds_toArray, List.set_cons_zero, List.set_cons_succ, i64_w, i32_w]
    rfl
  refine one_ (i := 7) (N := some 30) #[true, true, true, true, true, true, true, true, false, false] rfl rfl (by kernel_rfl) (by decide) (fun K hK => ?_)
  refine goes_ Tryd.func42 (by kernel_rfl) rfl #[.slice An l.length cn, .agg #[.int .i64 R, .int .i64 C], .int .i64 d] (by rfl) rfl rfl (by simp only [List.map_toArray, List.map_cons, List.map_nil]; rfl) ?_
  with_reducible refine (cols_no An cn l R C d 19 _ hHeld.2.2.out.h2 HR.out rfl (HT0.out.below hHeld.2.2.out.be)).mono ?_
  rintro e w10 ⟨rfl, hb⟩
  refine ⟨_, rfl, ?_⟩
  have nS := hHeld.2.2.out.below hb
  have HA10 := Aside0.mk nS
  clear hHeld hb
  refine hK.out _ _ ⟨nS.sh.cell 0, nS.sh.cell 1, ⟨nS⟩⟩ (fun hHeld => ?_)
  clear hK K
  refine norm_ (a' := ?_) ?_ ?_
  rotate_left
  · show Act.put _ (some 30) _ = _
    simp only [Act.put, List.setIfInBounds_toArray, List.set_cons_zero, List.set_cons_succ, i64_w, i32_w]
    rfl
  refine pure_ (i := 8) (N := some 9) (v := ?_) (a' := ?_) #[true, true, true, true, true, true, true, true, true, false] rfl rfl (by kernel_rfl) (fun _ _ _ h => h) (Or.inl ⟨by rfl, ?_⟩) ?_ ?_
  rotate_left
  · intro w'
    go_simp
    with_reducible rfl
  rotate_left
  · simp only [Act.put, List.setIfInBounds_toArray, List.set_cons_zero, List.set_cons_succ, i64_w, i32_w]
    rfl
  refine pure_ (i := 9) (N := some 10) (v := ?_) (a' := ?_) #[true, true, true, true, true, true, true, true, true, true] rfl rfl (by kernel_rfl) (fun _ _ _ h => h) (Or.inl ⟨by rfl, ?_⟩) ?_ ?_
  rotate_left
  · intro w'
    go_simp
    with_reducible rfl
  rotate_left
  · simp only [Act.put, List.setIfInBounds_toArray, List.set_cons_zero, List.set_cons_succ, i64_w, i32_w]
    rfl
  refine done_ (by kernel_rfl) ?_
  clear hHeld HA8
  have v0 := HA10.out.sh.cell 0
  have v1 := HA10.out.sh.cell 1
  go_wp2_with fail
  clear v0 v1
  with_reducible refine (abacistref06_Good.calls kg R C false _ HG.out).mono ?_
  rintro e w11 ⟨rfl, hb⟩
  have HA11 := Aside0.mk (HA10.out.below hb)
  have v0 := HA11.out.sh.cell 0
  have v1 := HA11.out.sh.cell 1
  clear hb HA10
  go_wp2_with fail
  clear v0 v1
  with_reducible refine (same_calls Am A cm c l l _ HA11.out.h1 HA11.out.hl (by omega) rfl).mono ?_
  rintro e w12 ⟨rfl, hd⟩
  have HA12 := Aside0.mk (HA11.out.below hd.below)
  clear hd HA11
  go_wp2_with fail
  with_reducible refine (same_calls An A cn c l l _ HA12.out.h2 HA12.out.hl (by omega) rfl).mono ?_
  rintro e w13 ⟨rfl, hd⟩
  have HA13 := Aside0.mk (HA12.out.below hd.below)
  clear hd HA12
  go_wp2
  go_ret
  exact ⟨rfl, HA13.out.be⟩
set_option maxHeartbeats 4000000 in
theorem all_size (A : Option Addr) (c : Nat) (l : List Int) (R C d : Int) (w : World) (hl : In w A c l) (hL : l.length ≤ 64) (hg : GoodS R C) (hs : R * C ≠ (l.length : Int)) (hT : TabOK w) :
    Calls Tryd.prog 7 #[.slice A l.length c, .agg #[.int .i64 R, .int .i64 C], .int .i64 d] w fun e w' => e = .returned (.bool true) ∧ Below w.heap.size w w' := by
  have HR := Aside0.mk (show (19 : Int) = ckw l R C d by unfold ckw; rw [if_neg (fun q => hs q.2)])
  obtain ⟨kg, hkg⟩ := (rgood_yes R C hg).rounds
  have HG := Aside0.mk hkg
  obtain ⟨a, b, hab, ha, hb⟩ := good_ints hg
  have hp2 := pow32 hab
  rw [Nat.pow_add] at hp2
  have e1 : wrap64 (R * C) = R * C := by rw [ha, hb, ← Int.natCast_mul]; exact wrap_i _ (by omega) (by omega)
  have HE := Aside0.mk e1
  have HNE := Aside0.mk hs
  clear hkg hg hab ha hb hp2 e1 hs a b
  have HT0 := Aside0.mk hT
  have HB := Aside0.mk (below_alloc (Below.refl w.heap.size w) (Obj.cells #[.int .i64 R, .int .i64 C] 23))
  have HS := Aside0.mk (Bk.new w 23 [.int .i64 R, .int .i64 C])
  have HL0 := Aside0.mk hl
  have HL := Aside0.mk (hl.below HB.out)
  obtain ⟨bs, hbs⟩ : ∃ z, z = w.heap.size := ⟨_, rfl⟩
  have hbg : w.heap.size ≤ bs := by omega
  have d1 : decide ((64 : Int) < (l.length : Int)) = false := decide_eq_false (by omega)
  clear hT hl
  go_enter Tryd.func7, Tryd.ntmps7
  go_wp2_with fail
  with_reducible refine (awake_calls _ (HT0.out.below HB.out)).mono ?_
  rintro e w1 ⟨rfl, hb⟩
  rw [← hbs] at HS ⊢
  clear hbs
  have HB1 := Aside0.mk (below_then HB.out HB.out.size hb)
  have HL1 := Aside0.mk (HL.out.below hb)
  have HS1 := Aside0.mk (HS.out.below hb)
  have v0 := HS1.out.cell 0
  have v1 := HS1.out.cell 1
  clear hb HB HL HS
  go_wp2_with (first | ((with_reducible refine gate_dst (N := 17) rfl ?_); refine Kd.R_lit (Kd.int .u64) _ 45 ?hg (N := 17) ?hd (xs := []) (inner := []) (ok := fun _ => True) (okp := fun _ => True) ?hr ?hp (fun _ hk => hk) trivial (Below.refl _ _) (Nat.le_refl _) (by simp) ?_; (case hd => rfl); (case hg => rfl); (case hr => first | (go_simp; done) | (go_simp; rfl)); (case hp => exact (Reps.none _ _)); intro v5 w5 ho hb hg_ hnew_; have HOx := Aside0.mk ho; have HBx := Aside0.mk hb; clear hg_ hnew_ ho hb) | ((with_reducible refine gate_builtin (b := .append) (xs := #[.tmp 17, .tmp 18]) rfl ?_); at_builtin; refine Kd.R_append_rows (Kd.int .u64) (w0 := w1) w1.heap.size rfl (.tmp 17) (.tmp 18) 24 45 (.int .u64 0) 8 rfl Tryd.underlying24 info45 rfl (by decide) (by omega) v5 [] (l) _ _ _ (fun _ => True) (fun _ => False) rfl rfl ?aO ?aR (fun _ _ h => h) (fun _ h => h.elim) ?aF ?aB ?aS ?aL ?_; (case aR => exact (Kd.C_below (HL1.out.r) HBx.out)); (case aB => exact HBx.out); (case aF => exact (fun _ _ => trivial)); (case aO => exact HOx.out); (case aS => exact HBx.out.size); (case aL => (simp only [List.length_nil]; omega)); intro v6 w6 ho2 hb2 hg_ hat_; rw [List.nil_append] at ho2; clear hg_ hat_; clear HOx HBx; obtain ⟨Am, cm, hv, hlm, hcm⟩ := Kd.R_reads ho2; subst hv; have HMm := Aside0.mk (In.mk hcm hlm); clear hcm hlm; have HB6 := Aside0.mk (below_then HB1.out HB1.out.size hb2); have HL6 := Aside0.mk (HL1.out.below hb2); have HS6 := Aside0.mk (HS1.out.below hb2); clear hb2 ho2 v0 v1 HB1 HL1 HS1) | ((with_reducible refine gate_dst (N := 20) rfl ?_); refine Kd.R_lit (Kd.int .u64) _ 45 ?hg (N := 20) ?hd (xs := []) (inner := []) (ok := fun _ => True) (okp := fun _ => True) ?hr ?hp (fun _ hk => hk) trivial (Below.refl _ _) (Nat.le_refl _) (by simp) ?_; (case hd => rfl); (case hg => rfl); (case hr => first | (go_simp; done) | (go_simp; rfl)); (case hp => exact (Reps.none _ _)); intro v7 w7 ho hb hg_ hnew_; have HOx := Aside0.mk ho; have HBx := Aside0.mk hb; clear hg_ hnew_ ho hb) | ((with_reducible refine gate_builtin (b := .append) (xs := #[.tmp 20, .tmp 21]) rfl ?_); at_builtin; refine Kd.R_append_rows (Kd.int .u64) (w0 := w6) w6.heap.size rfl (.tmp 20) (.tmp 21) 24 45 (.int .u64 0) 8 rfl Tryd.underlying24 info45 rfl (by decide) (by omega) v7 [] (l) _ _ _ (fun _ => True) (fun _ => False) rfl rfl ?aO ?aR (fun _ _ h => h) (fun _ h => h.elim) ?aF ?aB ?aS ?aL ?_; (case aR => exact (Kd.C_below (HL6.out.r) HBx.out)); (case aB => exact HBx.out); (case aF => exact (fun _ _ => trivial)); (case aO => exact HOx.out); (case aS => exact HBx.out.size); (case aL => (simp only [List.length_nil]; omega)); intro v8 w8 ho2 hb2 hg_ hat_; rw [List.nil_append] at ho2; clear hg_ hat_; clear HOx HBx; obtain ⟨An, cn, hv, hln, hcn⟩ := Kd.R_reads ho2; subst hv; have HNn := Aside0.mk (In.mk hcn hln); clear hcn hln; have HA8 := Aside0.mk (show Al w w8 bs A c Am cm An cn l R C from ⟨below_then HB6.out HB6.out.size hb2, HL6.out.below hb2, HMm.out.below hb2, HNn.out, HS6.out.below hb2⟩); clear hb2 ho2 HB6 HL6 HS6 HMm HNn))
  refine start_ (n := 10) (S := fun w' => w'.cell? ⟨bs, 0, none⟩ = some (.int .i64 R) ∧ w'.cell? ⟨bs, 1, none⟩ = some (.int .i64 C) ∧ Aside0 (Al w w' bs A c Am cm An cn l R C)) (ds := []) #[false, false, false, false, false, false, false, false, false, false] (by kernel_rfl) rfl rfl ⟨HA8.out.drew.sh.cell 0, HA8.out.drew.sh.cell 1, ⟨HA8.out.drew⟩⟩ (fun hHeld => ?_)
  refine pure_ (i := 0) (N := some 23) (v := ?_) (a' := ?_) #[true, false, false, false, false, false, false, false, false, false] rfl rfl (by kernel_rfl) (fun _ _ _ h => h) (Or.inl ⟨by rfl, ?_⟩) ?_ ?_
  rotate_left
  · intro w'
    go_simp
    with_reducible rfl
  rotate_left
  · simp only [Act.put, List.setIfInBounds_toArray, List.set_cons_zero, List.set_cons_succ, i64_w, i32_w]
    rfl
  refine pure_ (i := 2) (N := some 25) (v := ?_) (a' := ?_) #[true, false, true, false, false, false, false, false, false, false] rfl rfl (by kernel_rfl) (fun _ _ _ h => h) (Or.inl ⟨by rfl, ?_⟩) ?_ ?_
  rotate_left
  · intro w'
    go_simp
    with_reducible rfl
  rotate_left
  · simp only [Act.put, List.setIfInBounds_toArray, List.set_cons_zero, List.set_cons_succ, i64_w, i32_w]
    rfl
  refine pure_ (i := 4) (N := some 27) (v := ?_) (a' := ?_) #[true, false, true, false, true, false, false, false, false, false] rfl rfl (by kernel_rfl) (fun _ _ _ h => h) (Or.inl ⟨by rfl, ?_⟩) ?_ ?_
  rotate_left
  · intro w'
    go_simp
    with_reducible rfl
  rotate_left
  · simp only [Act.put, List.setIfInBounds_toArray, List.set_cons_zero, List.set_cons_succ, i64_w, i32_w]
    rfl
  refine pure_ (i := 6) (N := some 29) (v := ?_) (a' := ?_) #[true, false, true, false, true, false, true, false, false, false] rfl rfl (by kernel_rfl) (fun _ _ _ h => h) (Or.inl ⟨by rfl, ?_⟩) ?_ ?_
  rotate_left
  · intro w'
    go_simp
    with_reducible rfl
  rotate_left
  · simp only [Act.put, List.setIfInBounds_toArray, List.set_cons_zero, List.set_cons_succ, i64_w, i32_w]
    rfl
  refine take_ (i := 1) (N := some 24) (v := ?_) (a' := ?_) #[true, true, true, false, true, false, true, false, false, false] rfl rfl (by kernel_rfl) (fun _ _ _ h => h) (Or.inl ⟨by rfl, ?_⟩) hHeld ?_ ?_
  rotate_left
  · rintro w' ⟨s0, s1, s2⟩
    go_simp
    with_reducible rfl
  rotate_left
  · simp only [Act.put, List.setIfInBounds_toArray, List.set_cons_zero, List.set_cons_succ, i64_w, i32_w]
    rfl
  refine take_ (i := 5) (N := some 28) (v := ?_) (a' := ?_) #[true, true, true, false, true, true, true, false, false, false] rfl rfl (by kernel_rfl) (fun _ _ _ h => h) (Or.inl ⟨by rfl, ?_⟩) hHeld ?_ ?_
  rotate_left
  · rintro w' ⟨s0, s1, s2⟩
    go_simp
    with_reducible rfl
  rotate_left
  · simp only [Act.put, List.setIfInBounds_toArray, List.set_cons_zero, List.set_cons_succ, i64_w, i32_w]
    rfl
  refine one_ (i := 3) (N := some 26) #[true, true, true, true, true, true, true, false, false, false] rfl rfl (by kernel_rfl) (by decide) (fun K hK => ?_)
  refine goes_ Tryd.func41 (by kernel_rfl) rfl #[.slice Am l.length cm, .agg #[.int .i64 R, .int .i64 C], .int .i64 d] (by rfl) rfl rfl (by simp only [List.map_toArray, List.map_cons, List.map_nil]; rfl) ?_
  with_reducible refine (rows_no Am cm l R C d 19 _ hHeld.2.2.out.h1 HR.out rfl (HT0.out.below hHeld.2.2.out.be)).mono ?_
  rintro e w9 ⟨rfl, hb⟩
  refine ⟨_, rfl, ?_⟩
  have nS := hHeld.2.2.out.below hb
  clear hHeld hb
  refine hK.out _ _ ⟨nS.sh.cell 0, nS.sh.cell 1, ⟨nS⟩⟩ (fun hHeld => ?_)
  clear hK K
  refine norm_ (a' := ?_) ?_ ?_
  rotate_left
  · show Act.put _ (some 26) _ = _
    simp only [Act.put, List.setIfInBounds_toArray, List.set_cons_zero, List.set_cons_succ, i64_w, i32_w]
    rfl
  refine one_ (i := 7) (N := some 30) #[true, true, true, true, true, true, true, true, false, false] rfl rfl (by kernel_rfl) (by decide) (fun K hK => ?_)
  refine goes_ Tryd.func42 (by kernel_rfl) rfl #[.slice An l.length cn, .agg #[.int .i64 R, .int .i64 C], .int .i64 d] (by rfl) rfl rfl (by simp only [List.map_toArray, List.map_cons, List.map_nil]; rfl) ?_
  with_reducible refine (cols_no An cn l R C d 19 _ hHeld.2.2.out.h2 HR.out rfl (HT0.out.below hHeld.2.2.out.be)).mono ?_
  rintro e w10 ⟨rfl, hb⟩
  refine ⟨_, rfl, ?_⟩
  have nS := hHeld.2.2.out.below hb
  have HA10 := Aside0.mk nS
  clear hHeld hb
  refine hK.out _ _ ⟨nS.sh.cell 0, nS.sh.cell 1, ⟨nS⟩⟩ (fun hHeld => ?_)
  clear hK K
  refine norm_ (a' := ?_) ?_ ?_
  rotate_left
  · show Act.put _ (some 30) _ = _
    simp only [Act.put, List.setIfInBounds_toArray, List.set_cons_zero, List.set_cons_succ, i64_w, i32_w]
    rfl
  refine pure_ (i := 8) (N := some 9) (v := ?_) (a' := ?_) #[true, true, true, true, true, true, true, true, true, false] rfl rfl (by kernel_rfl) (fun _ _ _ h => h) (Or.inl ⟨by rfl, ?_⟩) ?_ ?_
  rotate_left
  · intro w'
    go_simp
    with_reducible rfl
  rotate_left
  · simp only [Act.put, List.setIfInBounds_toArray, List.set_cons_zero, List.set_cons_succ, i64_w, i32_w]
    rfl
  refine pure_ (i := 9) (N := some 10) (v := ?_) (a' := ?_) #[true, true, true, true, true, true, true, true, true, true] rfl rfl (by kernel_rfl) (fun _ _ _ h => h) (Or.inl ⟨by rfl, ?_⟩) ?_ ?_
  rotate_left
  · intro w'
    go_simp
    with_reducible rfl
  rotate_left
  · simp only [Act.put, List.setIfInBounds_toArray, List.set_cons_zero, List.set_cons_succ, i64_w, i32_w]
    rfl
  refine done_ (by kernel_rfl) ?_
  clear hHeld HA8
  have v0 := HA10.out.sh.cell 0
  have v1 := HA10.out.sh.cell 1
  go_wp2_with fail
  clear v0 v1
  with_reducible refine (abacistref06_Good.calls kg R C true _ HG.out).mono ?_
  rintro e w11 ⟨rfl, hb⟩
  have HA11 := Aside0.mk (HA10.out.below hb)
  have v0 := HA11.out.sh.cell 0
  have v1 := HA11.out.sh.cell 1
  clear hb HA10
  have e2 : (wrap64 (R * C) != (l.length : Int)) = true := by rw [HE.out, bne_iff_ne]; exact HNE.out
  go_wp2_with fail
  clear v0 v1
  with_reducible refine (same_calls Am A cm c l l _ HA11.out.h1 HA11.out.hl (by omega) rfl).mono ?_
  rintro e w12 ⟨rfl, hd⟩
  have HA12 := Aside0.mk (HA11.out.below hd.below)
  clear hd HA11
  go_wp2_with fail
  with_reducible refine (same_calls An A cn c l l _ HA12.out.h2 HA12.out.hl (by omega) rfl).mono ?_
  rintro e w13 ⟨rfl, hd⟩
  have HA13 := Aside0.mk (HA12.out.below hd.below)
  clear hd HA12
  go_wp2
  go_ret
  exact ⟨rfl, HA13.out.be⟩
set_option maxHeartbeats 4000000 in
theorem all_kind (A : Option Addr) (c : Nat) (l : List Int) (R C d : Int) (w : World) (hl : In w A c l) (hL : l.length ≤ 64) (hg : GoodS R C) (hs : R * C = (l.length : Int)) (hd : ¬ (d = 0 ∨ d = 1)) (hT : TabOK w) :
    Calls Tryd.prog 7 #[.slice A l.length c, .agg #[.int .i64 R, .int .i64 C], .int .i64 d] w fun e w' => e = .returned (.bool true) ∧ Below w.heap.size w w' := by
  have HR := Aside0.mk (show (18 : Int) = ckw l R C d by unfold ckw; rw [if_pos ⟨hg, hs⟩, if_neg hd])
  obtain ⟨kg, hkg⟩ := (rgood_yes R C hg).rounds
  have HG := Aside0.mk hkg
  obtain ⟨a, b, hab, ha, hb⟩ := good_ints hg
  have hp2 := pow32 hab
  rw [Nat.pow_add] at hp2
  have e1 : wrap64 (R * C) = (l.length : Int) := by rw [← hs, ha, hb, ← Int.natCast_mul]; exact wrap_i _ (by omega) (by omega)
  have HE := Aside0.mk e1
  have k0 : (d != 0) = true := by rw [bne_iff_ne]; omega
  have k1 : (d != 1) = true := by rw [bne_iff_ne]; omega
  clear hkg hg hab ha hb hp2 e1 hs a b hd
  have HT0 := Aside0.mk hT
  have HB := Aside0.mk (below_alloc (Below.refl w.heap.size w) (Obj.cells #[.int .i64 R, .int .i64 C] 23))
  have HS := Aside0.mk (Bk.new w 23 [.int .i64 R, .int .i64 C])
  have HL0 := Aside0.mk hl
  have HL := Aside0.mk (hl.below HB.out)
  obtain ⟨bs, hbs⟩ : ∃ z, z = w.heap.size := ⟨_, rfl⟩
  have hbg : w.heap.size ≤ bs := by omega
  have d1 : decide ((64 : Int) < (l.length : Int)) = false := decide_eq_false (by omega)
  clear hT hl
  go_enter Tryd.func7, Tryd.ntmps7
  go_wp2_with fail
  with_reducible refine (awake_calls _ (HT0.out.below HB.out)).mono ?_
  rintro e w1 ⟨rfl, hb⟩
  rw [← hbs] at HS ⊢
  clear hbs
  have HB1 := Aside0.mk (below_then HB.out HB.out.size hb)
  have HL1 := Aside0.mk (HL.out.below hb)
  have HS1 := Aside0.mk (HS.out.below hb)
  have v0 := HS1.out.cell 0
  have v1 := HS1.out.cell 1
  clear hb HB HL HS
  go_wp2_with (first | ((with_reducible refine gate_dst (N := 17) rfl ?_); refine Kd.R_lit (Kd.int .u64) _ 45 ?hg (N := 17) ?hd (xs := []) (inner := []) (ok := fun _ => True) (okp := fun _ => True) ?hr ?hp (fun _ hk => hk) trivial (Below.refl _ _) (Nat.le_refl _) (by simp) ?_; (case hd => rfl); (case hg => rfl); (case hr => first | (go_simp; done) | (go_simp; rfl)); (case hp => exact (Reps.none _ _)); intro v5 w5 ho hb hg_ hnew_; have HOx := Aside0.mk ho; have HBx := Aside0.mk hb; clear hg_ hnew_ ho hb) | ((with_reducible refine gate_builtin (b := .append) (xs := #[.tmp 17, .tmp 18]) rfl ?_); at_builtin; refine Kd.R_append_rows (Kd.int .u64) (w0 := w1) w1.heap.size rfl (.tmp 17) (.tmp 18) 24 45 (.int .u64 0) 8 rfl Tryd.underlying24 info45 rfl (by decide) (by omega) v5 [] (l) _ _ _ (fun _ => True) (fun _ => False) rfl rfl ?aO ?aR (fun _ _ h => h) (fun _ h => h.elim) ?aF ?aB ?aS ?aL ?_; (case aR => exact (Kd.C_below (HL1.out.r) HBx.out)); (case aB => exact HBx.out); (case aF => exact (fun _ _ => trivial)); (case aO => exact HOx.out); (case aS => exact HBx.out.size); (case aL => (simp only [List.length_nil]; omega)); intro v6 w6 ho2 hb2 hg_ hat_; rw [List.nil_append] at ho2; clear hg_ hat_; clear HOx HBx; obtain ⟨Am, cm, hv, hlm, hcm⟩ := Kd.R_reads ho2; subst hv; have HMm := Aside0.mk (In.mk hcm hlm); clear hcm hlm; have HB6 := Aside0.mk (below_then HB1.out HB1.out.size hb2); have HL6 := Aside0.mk (HL1.out.below hb2); have HS6 := Aside0.mk (HS1.out.below hb2); clear hb2 ho2 v0 v1 HB1 HL1 HS1) | ((with_reducible refine gate_dst (N := 20) rfl ?_); refine Kd.R_lit (Kd.int .u64) _ 45 ?hg (N := 20) ?hd (xs := []) (inner := []) (ok := fun _ => True) (okp := fun _ => True) ?hr ?hp (fun _ hk => hk) trivial (Below.refl _ _) (Nat.le_refl _) (by simp) ?_; (case hd => rfl); (case hg => rfl); (case hr => first | (go_simp; done) | (go_simp; rfl)); (case hp => exact (Reps.none _ _)); intro v7 w7 ho hb hg_ hnew_; have HOx := Aside0.mk ho; have HBx := Aside0.mk hb; clear hg_ hnew_ ho hb) | ((with_reducible refine gate_builtin (b := .append) (xs := #[.tmp 20, .tmp 21]) rfl ?_); at_builtin; refine Kd.R_append_rows (Kd.int .u64) (w0 := w6) w6.heap.size rfl (.tmp 20) (.tmp 21) 24 45 (.int .u64 0) 8 rfl Tryd.underlying24 info45 rfl (by decide) (by omega) v7 [] (l) _ _ _ (fun _ => True) (fun _ => False) rfl rfl ?aO ?aR (fun _ _ h => h) (fun _ h => h.elim) ?aF ?aB ?aS ?aL ?_; (case aR => exact (Kd.C_below (HL6.out.r) HBx.out)); (case aB => exact HBx.out); (case aF => exact (fun _ _ => trivial)); (case aO => exact HOx.out); (case aS => exact HBx.out.size); (case aL => (simp only [List.length_nil]; omega)); intro v8 w8 ho2 hb2 hg_ hat_; rw [List.nil_append] at ho2; clear hg_ hat_; clear HOx HBx; obtain ⟨An, cn, hv, hln, hcn⟩ := Kd.R_reads ho2; subst hv; have HNn := Aside0.mk (In.mk hcn hln); clear hcn hln; have HA8 := Aside0.mk (show Al w w8 bs A c Am cm An cn l R C from ⟨below_then HB6.out HB6.out.size hb2, HL6.out.below hb2, HMm.out.below hb2, HNn.out, HS6.out.below hb2⟩); clear hb2 ho2 HB6 HL6 HS6 HMm HNn))
  refine start_ (n := 10) (S := fun w' => w'.cell? ⟨bs, 0, none⟩ = some (.int .i64 R) ∧ w'.cell? ⟨bs, 1, none⟩ = some (.int .i64 C) ∧ Aside0 (Al w w' bs A c Am cm An cn l R C)) (ds := []) #[false, false, false, false, false, false, false, false, false, false] (by kernel_rfl) rfl rfl ⟨HA8.out.drew.sh.cell 0, HA8.out.drew.sh.cell 1, ⟨HA8.out.drew⟩⟩ (fun hHeld => ?_)
  refine pure_ (i := 0) (N := some 23) (v := ?_) (a' := ?_) #[true, false, false, false, false, false, false, false, false, false] rfl rfl (by kernel_rfl) (fun _ _ _ h => h) (Or.inl ⟨by rfl, ?_⟩) ?_ ?_
  rotate_left
  · intro w'
    go_simp
    with_reducible rfl
  rotate_left
  · simp only [Act.put, List.setIfInBounds_toArray, List.set_cons_zero, List.set_cons_succ, i64_w, i32_w]
    rfl
  refine pure_ (i := 2) (N := some 25) (v := ?_) (a' := ?_) #[true, false, true, false, false, false, false, false, false, false] rfl rfl (by kernel_rfl) (fun _ _ _ h => h) (Or.inl ⟨by rfl, ?_⟩) ?_ ?_
  rotate_left
  · intro w'
    go_simp
    with_reducible rfl
  rotate_left
  · simp only [Act.put, List.setIfInBounds_toArray, List.set_cons_zero, List.set_cons_succ, i64_w, i32_w]
    rfl
  refine pure_ (i := 4) (N := some 27) (v := ?_) (a' := ?_) #[true, false, true, false, true, false, false, false, false, false] rfl rfl (by kernel_rfl) (fun _ _ _ h => h) (Or.inl ⟨by rfl, ?_⟩) ?_ ?_
  rotate_left
  · intro w'
    go_simp
    with_reducible rfl
  rotate_left
  · simp only [Act.put, List.setIfInBounds_toArray, List.set_cons_zero, List.set_cons_succ, i64_w, i32_w]
    rfl
  refine pure_ (i := 6) (N := some 29) (v := ?_) (a' := ?_) #[true, false, true, false, true, false, true, false, false, false] rfl rfl (by kernel_rfl) (fun _ _ _ h => h) (Or.inl ⟨by rfl, ?_⟩) ?_ ?_
  rotate_left
  · intro w'
    go_simp
    with_reducible rfl
  rotate_left
  · simp only [Act.put, List.setIfInBounds_toArray, List.set_cons_zero, List.set_cons_succ, i64_w, i32_w]
    rfl
  refine take_ (i := 1) (N := some 24) (v := ?_) (a' := ?_) #[true, true, true, false, true, false, true, false, false, false] rfl rfl (by kernel_rfl) (fun _ _ _ h => h) (Or.inl ⟨by rfl, ?_⟩) hHeld ?_ ?_
  rotate_left
  · rintro w' ⟨s0, s1, s2⟩
    go_simp
    with_reducible rfl
  rotate_left
  · simp only [Act.put, List.setIfInBounds_toArray, List.set_cons_zero, List.set_cons_succ, i64_w, i32_w]
    rfl
  refine take_ (i := 5) (N := some 28) (v := ?_) (a' := ?_) #[true, true, true, false, true, true, true, false, false, false] rfl rfl (by kernel_rfl) (fun _ _ _ h => h) (Or.inl ⟨by rfl, ?_⟩) hHeld ?_ ?_
  rotate_left
  · rintro w' ⟨s0, s1, s2⟩
    go_simp
    with_reducible rfl
  rotate_left
  · simp only [Act.put, List.setIfInBounds_toArray, List.set_cons_zero, List.set_cons_succ, i64_w, i32_w]
    rfl
  refine one_ (i := 3) (N := some 26) #[true, true, true, true, true, true, true, false, false, false] rfl rfl (by kernel_rfl) (by decide) (fun K hK => ?_)
  refine goes_ Tryd.func41 (by kernel_rfl) rfl #[.slice Am l.length cm, .agg #[.int .i64 R, .int .i64 C], .int .i64 d] (by rfl) rfl rfl (by simp only [List.map_toArray, List.map_cons, List.map_nil]; rfl) ?_
  with_reducible refine (rows_no Am cm l R C d 18 _ hHeld.2.2.out.h1 HR.out rfl (HT0.out.below hHeld.2.2.out.be)).mono ?_
  rintro e w9 ⟨rfl, hb⟩
  refine ⟨_, rfl, ?_⟩
  have nS := hHeld.2.2.out.below hb
  clear hHeld hb
  refine hK.out _ _ ⟨nS.sh.cell 0, nS.sh.cell 1, ⟨nS⟩⟩ (fun hHeld => ?_)
  clear hK K
  refine norm_ (a' := ?_) ?_ ?_
  rotate_left
  · show Act.put _ (some 26) _ = _
    simp only [Act.put, List.setIfInBounds_toArray, List.set_cons_zero, List.set_cons_succ, i64_w, i32_w]
    rfl
  refine one_ (i := 7) (N := some 30) #[true, true, true, true, true, true, true, true, false, false] rfl rfl (by kernel_rfl) (by decide) (fun K hK => ?_)
  refine goes_ Tryd.func42 (by kernel_rfl) rfl #[.slice An l.length cn, .agg #[.int .i64 R, .int .i64 C], .int .i64 d] (by rfl) rfl rfl (by simp only [List.map_toArray, List.map_cons, List.map_nil]; rfl) ?_
  with_reducible refine (cols_no An cn l R C d 18 _ hHeld.2.2.out.h2 HR.out rfl (HT0.out.below hHeld.2.2.out.be)).mono ?_
  rintro e w10 ⟨rfl, hb⟩
  refine ⟨_, rfl, ?_⟩
  have nS := hHeld.2.2.out.below hb
  have HA10 := Aside0.mk nS
  clear hHeld hb
  refine hK.out _ _ ⟨nS.sh.cell 0, nS.sh.cell 1, ⟨nS⟩⟩ (fun hHeld => ?_)
  clear hK K
  refine norm_ (a' := ?_) ?_ ?_
  rotate_left
  · show Act.put _ (some 30) _ = _
    simp only [Act.put, List.setIfInBounds_toArray, List.set_cons_zero, List.set_cons_succ, i64_w, i32_w]
    rfl
  refine pure_ (i := 8) (N := some 9) (v := ?_) (a' := ?_) #[true, true, true, true, true, true, true, true, true, false] rfl rfl (by kernel_rfl) (fun _ _ _ h => h) (Or.inl ⟨by rfl, ?_⟩) ?_ ?_
  rotate_left
  · intro w'
    go_simp
    with_reducible rfl
  rotate_left
  · simp only [Act.put, List.setIfInBounds_toArray, List.set_cons_zero, List.set_cons_succ, i64_w, i32_w]
    rfl
  refine pure_ (i := 9) (N := some 10) (v := ?_) (a' := ?_) #[true, true, true, true, true, true, true, true, true, true] rfl rfl (by kernel_rfl) (fun _ _ _ h => h) (Or.inl ⟨by rfl, ?_⟩) ?_ ?_
  rotate_left
  · intro w'
    go_simp
    with_reducible rfl
  rotate_left
  · simp only [Act.put, List.setIfInBounds_toArray, List.set_cons_zero, List.set_cons_succ, i64_w, i32_w]
    rfl
  refine done_ (by kernel_rfl) ?_
  clear hHeld HA8
  have v0 := HA10.out.sh.cell 0
  have v1 := HA10.out.sh.cell 1
  go_wp2_with fail
  clear v0 v1
  with_reducible refine (abacistref06_Good.calls kg R C true _ HG.out).mono ?_
  rintro e w11 ⟨rfl, hb⟩
  have HA11 := Aside0.mk (HA10.out.below hb)
  have v0 := HA11.out.sh.cell 0
  have v1 := HA11.out.sh.cell 1
  clear hb HA10
  have e2 : (wrap64 (R * C) != (l.length : Int)) = false := by rw [HE.out, bne_eq_false_iff_eq]
  go_wp2_with fail
  clear v0 v1
  with_reducible refine (same_calls Am A cm c l l _ HA11.out.h1 HA11.out.hl (by omega) rfl).mono ?_
  rintro e w12 ⟨rfl, hd⟩
  have HA12 := Aside0.mk (HA11.out.below hd.below)
  clear hd HA11
  go_wp2_with fail
  with_reducible refine (same_calls An A cn c l l _ HA12.out.h2 HA12.out.hl (by omega) rfl).mono ?_
  rintro e w13 ⟨rfl, hd⟩
  have HA13 := Aside0.mk (HA12.out.below hd.below)
  clear hd HA12
  go_wp2
  go_ret
  exact ⟨rfl, HA13.out.be⟩
set_option maxHeartbeats 8000000 in
theorem all_y0 (A : Option Addr) (c : Nat) (l : List Int) (R C a b : Nat) (w : World) (hl : In w A c l) (hW : Ws l) (hL : l.length ≤ 64) (ha : R = 2 ^ a) (hb : C = 2 ^ b) (hab : a + b ≤ 20) (hRC : R * C = l.length) (hT : TabOK w) :
    Calls Tryd.prog 7 #[.slice A l.length c, .agg #[.int .i64 (R : Int), .int .i64 (C : Int)], .int .i64 0] w fun e w' => e = .returned (.bool true) ∧ Below w.heap.size w w' := by
  have hG : GoodS R C := ⟨a, b, by omega, ⟨by omega, by rw [ha]⟩, ⟨by omega, by rw [hb]⟩⟩
  obtain ⟨kg, hkg⟩ := (rgood_yes R C hG).rounds
  have HG := Aside0.mk hkg
  have hp : 0 < l.length := by rw [← hRC, ha, hb, ← Nat.pow_add]; exact Nat.two_pow_pos _
  have hR1 : R ≤ 1048576 := by rw [ha]; exact pow20 (by omega)
  have hC1 : C ≤ 1048576 := by rw [hb]; exact pow20 (by omega)
  have hC0 : 1 ≤ C := by rw [hb]; exact Nat.two_pow_pos _
  have HA := Aside0.mk ha
  have HBb := Aside0.mk hb
  have HAB := Aside0.mk hab
  have HRC := Aside0.mk hRC
  have HW := Aside0.mk hW
  have HX := Aside0.mk (show R ≤ 1048576 ∧ C ≤ 1048576 ∧ 1 ≤ C from ⟨hR1, hC1, hC0⟩)
  have HE := Aside0.mk (show wrap64 ((R : Int) * (C : Int)) = (l.length : Int) by rw [mulc R C (by omega), hRC])
  obtain ⟨xr, hxr⟩ : ∃ z, z = vfold l b 0 (fun i => i * C) (fun _ => 1) C R := ⟨_, rfl⟩
  obtain ⟨xc, hxc⟩ : ∃ z, z = vfold l a 0 (fun i => i) (fun _ => C) R C := ⟨_, rfl⟩
  have hxrl : xr.length = l.length := by rw [hxr, vfold_len]
  have hxcl : xc.length = l.length := by rw [hxc, vfold_len]
  have HXR := Aside0.mk hxr
  have HXC := Aside0.mk hxc
  clear hkg hG ha hb hab hRC hW hR1 hC1 hC0 hxr hxc
  have HT0 := Aside0.mk hT
  have HB := Aside0.mk (below_alloc (Below.refl w.heap.size w) (Obj.cells #[.int .i64 (R : Int), .int .i64 (C : Int)] 23))
  have HS := Aside0.mk (Bk.new w 23 [.int .i64 (R : Int), .int .i64 (C : Int)])
  have HL0 := Aside0.mk hl
  have HL := Aside0.mk (hl.below HB.out)
  obtain ⟨bs, hbs⟩ : ∃ z, z = w.heap.size := ⟨_, rfl⟩
  have hbg : w.heap.size ≤ bs := by omega
  have d1 : decide ((64 : Int) < (l.length : Int)) = false := decide_eq_false (by omega)
  clear hT hl
  go_enter Tryd.func7, Tryd.ntmps7
  go_wp2_with fail
  with_reducible refine (awake_calls _ (HT0.out.below HB.out)).mono ?_
  rintro e w1 ⟨rfl, hb⟩
  rw [← hbs] at HS ⊢
  clear hbs
  have HB1 := Aside0.mk (below_then HB.out HB.out.size hb)
  have HL1 := Aside0.mk (HL.out.below hb)
  have HS1 := Aside0.mk (HS.out.below hb)
  have v0 := HS1.out.cell 0
  have v1 := HS1.out.cell 1
  clear hb HB HL HS
  go_wp2_with (first | ((with_reducible refine gate_dst (N := 17) rfl ?_); refine Kd.R_lit (Kd.int .u64) _ 45 ?hg (N := 17) ?hd (xs := []) (inner := []) (ok := fun _ => True) (okp := fun _ => True) ?hr ?hp (fun _ hk => hk) trivial (Below.refl _ _) (Nat.le_refl _) (by simp) ?_; (case hd => rfl); (case hg => rfl); (case hr => first | (go_simp; done) | (go_simp; rfl)); (case hp => exact (Reps.none _ _)); intro v5 w5 ho hb hg_ hnew_; have HOx := Aside0.mk ho; have HBx := Aside0.mk hb; clear hg_ hnew_ ho hb) | ((with_reducible refine gate_builtin (b := .append) (xs := #[.tmp 17, .tmp 18]) rfl ?_); at_builtin; refine Kd.R_append_rows (Kd.int .u64) (w0 := w1) w1.heap.size rfl (.tmp 17) (.tmp 18) 24 45 (.int .u64 0) 8 rfl Tryd.underlying24 info45 rfl (by decide) (by omega) v5 [] (l) _ _ _ (fun _ => True) (fun _ => False) rfl rfl ?aO ?aR (fun _ _ h => h) (fun _ h => h.elim) ?aF ?aB ?aS ?aL ?_; (case aR => exact (Kd.C_below (HL1.out.r) HBx.out)); (case aB => exact HBx.out); (case aF => exact (fun _ _ => trivial)); (case aO => exact HOx.out); (case aS => exact HBx.out.size); (case aL => (simp only [List.length_nil]; omega)); intro v6 w6 ho2 hb2 hg_ hat_; rw [List.nil_append] at ho2; clear hg_ hat_; clear HOx HBx; obtain ⟨gm, cm, hv, hgm, hmm⟩ := Mr.of_R ho2 hp; subst hv; have HMm := Aside0.mk hmm; have HGm := Aside0.mk (show w.heap.size ≤ gm by have := HB1.out.size; omega); have HNb := Aside0.mk (show bs ≠ gm by have := HS1.out.lt; omega); clear hmm hgm; have HB6 := Aside0.mk (below_then HB1.out HB1.out.size hb2); have HL6 := Aside0.mk (HL1.out.below hb2); have HS6 := Aside0.mk (HS1.out.below hb2); clear hb2 ho2 v0 v1 HB1 HL1 HS1) | ((with_reducible refine gate_dst (N := 20) rfl ?_); refine Kd.R_lit (Kd.int .u64) _ 45 ?hg (N := 20) ?hd (xs := []) (inner := []) (ok := fun _ => True) (okp := fun _ => True) ?hr ?hp (fun _ hk => hk) trivial (Below.refl _ _) (Nat.le_refl _) (by simp) ?_; (case hd => rfl); (case hg => rfl); (case hr => first | (go_simp; done) | (go_simp; rfl)); (case hp => exact (Reps.none _ _)); intro v7 w7 ho hb hg_ hnew_; have HOx := Aside0.mk ho; have HBx := Aside0.mk hb; clear hg_ hnew_ ho hb) | ((with_reducible refine gate_builtin (b := .append) (xs := #[.tmp 20, .tmp 21]) rfl ?_); at_builtin; refine Kd.R_append_rows (Kd.int .u64) (w0 := w6) w6.heap.size rfl (.tmp 20) (.tmp 21) 24 45 (.int .u64 0) 8 rfl Tryd.underlying24 info45 rfl (by decide) (by omega) v7 [] (l) _ _ _ (fun _ => True) (fun _ => False) rfl rfl ?aO ?aR (fun _ _ h => h) (fun _ h => h.elim) ?aF ?aB ?aS ?aL ?_; (case aR => exact (Kd.C_below (HL6.out.r) HBx.out)); (case aB => exact HBx.out); (case aF => exact (fun _ _ => trivial)); (case aO => exact HOx.out); (case aS => exact HBx.out.size); (case aL => (simp only [List.length_nil]; omega)); intro v8 w8 ho2 hb2 hg_ hat_; rw [List.nil_append] at ho2; clear hg_ hat_; clear HOx HBx; obtain ⟨gn, cn, hv, hgn, hnn⟩ := Mr.of_R ho2 hp; subst hv; have HNn := Aside0.mk hnn; have HGn := Aside0.mk (show w.heap.size ≤ gn by have := HB6.out.size; omega); have HNc := Aside0.mk (show bs ≠ gn by have := HS6.out.lt; omega); have HNe := Aside0.mk (show gn ≠ gm by have := HMm.out.lt; omega); clear hnn hgn; have HB8 := Aside0.mk (below_then HB6.out HB6.out.size hb2); have HM8 := Aside0.mk (HMm.out.below hb2); have HS8 := Aside0.mk (HS6.out.below hb2); clear hb2 ho2 HB6 HL6 HS6 HMm))
  refine start_ (n := 10) (S := fun w' => w'.cell? ⟨bs, 0, none⟩ = some (.int .i64 (R : Int)) ∧ w'.cell? ⟨bs, 1, none⟩ = some (.int .i64 (C : Int)) ∧ Aside0 (Below w.heap.size w w' ∧ Bk w' bs 23 [.int .i64 (R : Int), .int .i64 (C : Int)])) (ds := []) #[false, false, false, false, false, false, false, false, false, false] (by kernel_rfl) rfl rfl ⟨HS8.out.drew.cell 0, HS8.out.drew.cell 1, ⟨below_drew1 HB8.out, HS8.out.drew⟩⟩ (fun hHeld => ?_)
  refine pure_ (i := 0) (N := some 23) (v := ?_) (a' := ?_) #[true, false, false, false, false, false, false, false, false, false] rfl rfl (by kernel_rfl) (fun _ _ _ h => h) (Or.inl ⟨by rfl, ?_⟩) ?_ ?_
  rotate_left
  · intro w'
    go_simp
    with_reducible rfl
  rotate_left
  · simp only [Act.put, List.setIfInBounds_toArray, List.set_cons_zero, List.set_cons_succ, i64_w, i32_w]
    rfl
  refine pure_ (i := 2) (N := some 25) (v := ?_) (a' := ?_) #[true, false, true, false, false, false, false, false, false, false] rfl rfl (by kernel_rfl) (fun _ _ _ h => h) (Or.inl ⟨by rfl, ?_⟩) ?_ ?_
  rotate_left
  · intro w'
    go_simp
    with_reducible rfl
  rotate_left
  · simp only [Act.put, List.setIfInBounds_toArray, List.set_cons_zero, List.set_cons_succ, i64_w, i32_w]
    rfl
  refine pure_ (i := 4) (N := some 27) (v := ?_) (a' := ?_) #[true, false, true, false, true, false, false, false, false, false] rfl rfl (by kernel_rfl) (fun _ _ _ h => h) (Or.inl ⟨by rfl, ?_⟩) ?_ ?_
  rotate_left
  · intro w'
    go_simp
    with_reducible rfl
  rotate_left
  · simp only [Act.put, List.setIfInBounds_toArray, List.set_cons_zero, List.set_cons_succ, i64_w, i32_w]
    rfl
  refine pure_ (i := 6) (N := some 29) (v := ?_) (a' := ?_) #[true, false, true, false, true, false, true, false, false, false] rfl rfl (by kernel_rfl) (fun _ _ _ h => h) (Or.inl ⟨by rfl, ?_⟩) ?_ ?_
  rotate_left
  · intro w'
    go_simp
    with_reducible rfl
  rotate_left
  · simp only [Act.put, List.setIfInBounds_toArray, List.set_cons_zero, List.set_cons_succ, i64_w, i32_w]
    rfl
  refine take_ (i := 1) (N := some 24) (v := ?_) (a' := ?_) #[true, true, true, false, true, false, true, false, false, false] rfl rfl (by kernel_rfl) (fun _ _ _ h => h) (Or.inl ⟨by rfl, ?_⟩) hHeld ?_ ?_
  rotate_left
  · rintro w' ⟨s0, s1, s2⟩
    go_simp
    with_reducible rfl
  rotate_left
  · simp only [Act.put, List.setIfInBounds_toArray, List.set_cons_zero, List.set_cons_succ, i64_w, i32_w]
    rfl
  refine take_ (i := 5) (N := some 28) (v := ?_) (a' := ?_) #[true, true, true, false, true, true, true, false, false, false] rfl rfl (by kernel_rfl) (fun _ _ _ h => h) (Or.inl ⟨by rfl, ?_⟩) hHeld ?_ ?_
  rotate_left
  · rintro w' ⟨s0, s1, s2⟩
    go_simp
    with_reducible rfl
  rotate_left
  · simp only [Act.put, List.setIfInBounds_toArray, List.set_cons_zero, List.set_cons_succ, i64_w, i32_w]
    rfl
  refine one_ (i := 3) (N := some 26) #[true, true, true, true, true, true, true, false, false, false] rfl rfl (by kernel_rfl) (by decide) (fun K hK => ?_)
  refine goes_ Tryd.func41 (by kernel_rfl) rfl #[.slice (some ⟨gm, 0, none⟩) l.length cm, .agg #[.int .i64 (R : Int), .int .i64 (C : Int)], .int .i64 0] (by rfl) rfl rfl (by simp only [List.map_toArray, List.map_cons, List.map_nil]; rfl) ?_
  with_reducible refine (rows_yes R C a b gm cm l 0 (.inl rfl) HA.out HBb.out HAB.out HRC.out HW.out _ HM8.out.drew (HT0.out.below (below_drew1 HB8.out))).mono ?_
  rintro e w9 ⟨rfl, hm, hf⟩
  refine ⟨_, rfl, ?_⟩
  rw [← HXR.out] at hm
  have HM9 := Aside0.mk hm
  have HN9 := Aside0.mk (HNn.out.drew.fr hf (by simpa using HNe.out))
  have HB9 := Aside0.mk ((below_drew1 HB8.out).trans (hf.below (B := w.heap.size) (below_drew1 HB8.out).size (by simpa using HGm.out)))
  have HS9 := Aside0.mk (hHeld.2.2.out.2.fr hf (by simpa using HNb.out))
  clear hHeld hm hf
  refine hK.out _ _ ⟨HS9.out.cell 0, HS9.out.cell 1, ⟨HB9.out, HS9.out⟩⟩ (fun hHeld => ?_)
  clear hK K
  refine norm_ (a' := ?_) ?_ ?_
  rotate_left
  · show Act.put _ (some 26) _ = _
    simp only [Act.put, List.setIfInBounds_toArray, List.set_cons_zero, List.set_cons_succ, i64_w, i32_w]
    rfl
  refine one_ (i := 7) (N := some 30) #[true, true, true, true, true, true, true, true, false, false] rfl rfl (by kernel_rfl) (by decide) (fun K hK => ?_)
  refine goes_ Tryd.func42 (by kernel_rfl) rfl #[.slice (some ⟨gn, 0, none⟩) l.length cn, .agg #[.int .i64 (R : Int), .int .i64 (C : Int)], .int .i64 0] (by rfl) rfl rfl (by simp only [List.map_toArray, List.map_cons, List.map_nil]; rfl) ?_
  with_reducible refine (cols_yes R C a b gn cn l 0 (.inl rfl) HA.out HBb.out HAB.out HRC.out HW.out _ HN9.out (HT0.out.below HB9.out)).mono ?_
  rintro e w10 ⟨rfl, hm, hf⟩
  refine ⟨_, rfl, ?_⟩
  rw [← HXC.out] at hm
  have HN10 := Aside0.mk hm
  have HM10 := Aside0.mk (HM9.out.fr hf (by simpa using (Ne.symm HNe.out)))
  have HB10 := Aside0.mk (HB9.out.trans (hf.below (B := w.heap.size) HB9.out.size (by simpa using HGn.out)))
  have HS10 := Aside0.mk (HS9.out.fr hf (by simpa using HNc.out))
  clear hHeld hm hf
  refine hK.out _ _ ⟨HS10.out.cell 0, HS10.out.cell 1, ⟨HB10.out, HS10.out⟩⟩ (fun hHeld => ?_)
  clear hK K
  refine norm_ (a' := ?_) ?_ ?_
  rotate_left
  · show Act.put _ (some 30) _ = _
    simp only [Act.put, List.setIfInBounds_toArray, List.set_cons_zero, List.set_cons_succ, i64_w, i32_w]
    rfl
  refine pure_ (i := 8) (N := some 9) (v := ?_) (a' := ?_) #[true, true, true, true, true, true, true, true, true, false] rfl rfl (by kernel_rfl) (fun _ _ _ h => h) (Or.inl ⟨by rfl, ?_⟩) ?_ ?_
  rotate_left
  · intro w'
    go_simp
    with_reducible rfl
  rotate_left
  · simp only [Act.put, List.setIfInBounds_toArray, List.set_cons_zero, List.set_cons_succ, i64_w, i32_w]
    rfl
  refine pure_ (i := 9) (N := some 10) (v := ?_) (a' := ?_) #[true, true, true, true, true, true, true, true, true, true] rfl rfl (by kernel_rfl) (fun _ _ _ h => h) (Or.inl ⟨by rfl, ?_⟩) ?_ ?_
  rotate_left
  · intro w'
    go_simp
    with_reducible rfl
  rotate_left
  · simp only [Act.put, List.setIfInBounds_toArray, List.set_cons_zero, List.set_cons_succ, i64_w, i32_w]
    rfl
  refine done_ (by kernel_rfl) ?_
  clear hHeld HM8 HNn HB8 HS8 HM9 HN9 HB9 HS9
  have v0 := HS10.out.cell 0
  have v1 := HS10.out.cell 1
  go_wp2_with fail
  clear v0 v1
  with_reducible refine (abacistref06_Good.calls kg (R : Int) (C : Int) true _ HG.out).mono ?_
  rintro e w11 ⟨rfl, hb⟩
  have HB11 := Aside0.mk (below_then HB10.out HB10.out.size hb)
  have HM11 := Aside0.mk (HM10.out.below hb)
  have HN11 := Aside0.mk (HN10.out.below hb)
  have HS11 := Aside0.mk (HS10.out.below hb)
  have v0 := HS11.out.cell 0
  have v1 := HS11.out.cell 1
  clear hb HB10 HM10 HN10 HS10
  have e2 : (wrap64 ((R : Int) * (C : Int)) != (l.length : Int)) = false := by rw [HE.out, bne_eq_false_iff_eq]
  go_wp2_with fail
  clear v0 v1
  with_reducible refine (rrows R C b A c l 0 (.inl rfl) (by have := HAB.out; omega) HBb.out HX.out.1 HX.out.2.1 HX.out.2.2 HRC.out (by omega) HW.out _ (HL0.out.below HB11.out)).mono ?_
  rintro e w12 ⟨Ar, cr, rfl, hr, hb2⟩
  have hb := hb2
  clear hb2
  rw [← HXR.out] at hr
  have HR12 := Aside0.mk hr
  clear hr
  have HB12 := Aside0.mk (below_then HB11.out HB11.out.size hb)
  have HM12 := Aside0.mk (HM11.out.below hb)
  have HN12 := Aside0.mk (HN11.out.below hb)
  have HS12 := Aside0.mk (HS11.out.below hb)
  have v0 := HS12.out.cell 0
  have v1 := HS12.out.cell 1
  clear hb HB11 HM11 HN11 HS11
  go_wp2_with fail
  clear v0 v1
  have hs := same_calls (some ⟨gm, 0, none⟩) Ar cm cr xr xr _ (In.of_mr HM12.out (by omega)) HR12.out (by omega) rfl
  rw [hxrl] at hs
  with_reducible refine hs.mono ?_
  clear hs
  rintro e w13 ⟨rfl, hd⟩
  have HB13 := Aside0.mk (below_then HB12.out HB12.out.size hd.below)
  have HM13 := Aside0.mk (HM12.out.below hd.below)
  have HN13 := Aside0.mk (HN12.out.below hd.below)
  have HS13 := Aside0.mk (HS12.out.below hd.below)
  have v0 := HS13.out.cell 0
  have v1 := HS13.out.cell 1
  clear hd HB12 HM12 HN12 HS12
  clear HR12
  go_wp2_with fail
  clear v0 v1
  with_reducible refine (rcols R C a A c l 0 (.inl rfl) (by have := HAB.out; omega) HA.out HX.out.1 HX.out.2.1 HX.out.2.2 HRC.out (by omega) HW.out _ (HL0.out.below HB13.out)).mono ?_
  rintro e w14 ⟨Ar, cr, rfl, hr, hb2⟩
  have hb := hb2
  clear hb2
  rw [← HXC.out] at hr
  have HR14 := Aside0.mk hr
  clear hr
  have HB14 := Aside0.mk (below_then HB13.out HB13.out.size hb)
  have HM14 := Aside0.mk (HM13.out.below hb)
  have HN14 := Aside0.mk (HN13.out.below hb)
  have HS14 := Aside0.mk (HS13.out.below hb)
  have v0 := HS14.out.cell 0
  have v1 := HS14.out.cell 1
  clear hb HB13 HM13 HN13 HS13
  go_wp2_with fail
  clear v0 v1
  have hs := same_calls (some ⟨gn, 0, none⟩) Ar cn cr xc xc _ (In.of_mr HN14.out (by omega)) HR14.out (by omega) rfl
  rw [hxcl] at hs
  with_reducible refine hs.mono ?_
  clear hs
  rintro e w15 ⟨rfl, hd⟩
  have HB15 := Aside0.mk (below_then HB14.out HB14.out.size hd.below)
  clear hd HB14 HR14 HN14 HM14
  go_wp2
  go_ret
  exact ⟨rfl, HB15.out⟩
set_option maxHeartbeats 8000000 in
theorem all_y1 (A : Option Addr) (c : Nat) (l : List Int) (R C a b : Nat) (w : World) (hl : In w A c l) (hW : Ws l) (hL : l.length ≤ 64) (ha : R = 2 ^ a) (hb : C = 2 ^ b) (hab : a + b ≤ 20) (hRC : R * C = l.length) (hT : TabOK w) :
    Calls Tryd.prog 7 #[.slice A l.length c, .agg #[.int .i64 (R : Int), .int .i64 (C : Int)], .int .i64 1] w fun e w' => e = .returned (.bool true) ∧ Below w.heap.size w w' := by
  have hG : GoodS R C := ⟨a, b, by omega, ⟨by omega, by rw [ha]⟩, ⟨by omega, by rw [hb]⟩⟩
  obtain ⟨kg, hkg⟩ := (rgood_yes R C hG).rounds
  have HG := Aside0.mk hkg
  have hp : 0 < l.length := by rw [← hRC, ha, hb, ← Nat.pow_add]; exact Nat.two_pow_pos _
  have hR1 : R ≤ 1048576 := by rw [ha]; exact pow20 (by omega)
  have hC1 : C ≤ 1048576 := by rw [hb]; exact pow20 (by omega)
  have hC0 : 1 ≤ C := by rw [hb]; exact Nat.two_pow_pos _
  have HA := Aside0.mk ha
  have HBb := Aside0.mk hb
  have HAB := Aside0.mk hab
  have HRC := Aside0.mk hRC
  have HW := Aside0.mk hW
  have HX := Aside0.mk (show R ≤ 1048576 ∧ C ≤ 1048576 ∧ 1 ≤ C from ⟨hR1, hC1, hC0⟩)
  have HE := Aside0.mk (show wrap64 ((R : Int) * (C : Int)) = (l.length : Int) by rw [mulc R C (by omega), hRC])
  obtain ⟨xr, hxr⟩ : ∃ z, z = vfold l b 1 (fun i => i * C) (fun _ => 1) C R := ⟨_, rfl⟩
  obtain ⟨xc, hxc⟩ : ∃ z, z = vfold l a 1 (fun i => i) (fun _ => C) R C := ⟨_, rfl⟩
  have hxrl : xr.length = l.length := by rw [hxr, vfold_len]
  have hxcl : xc.length = l.length := by rw [hxc, vfold_len]
  have HXR := Aside0.mk hxr
  have HXC := Aside0.mk hxc
  clear hkg hG ha hb hab hRC hW hR1 hC1 hC0 hxr hxc
  have HT0 := Aside0.mk hT
  have HB := Aside0.mk (below_alloc (Below.refl w.heap.size w) (Obj.cells #[.int .i64 (R : Int), .int .i64 (C : Int)] 23))
  have HS := Aside0.mk (Bk.new w 23 [.int .i64 (R : Int), .int .i64 (C : Int)])
  have HL0 := Aside0.mk hl
  have HL := Aside0.mk (hl.below HB.out)
  obtain ⟨bs, hbs⟩ : ∃ z, z = w.heap.size := ⟨_, rfl⟩
  have hbg : w.heap.size ≤ bs := by omega
  have d1 : decide ((64 : Int) < (l.length : Int)) = false := decide_eq_false (by omega)
  clear hT hl
  go_enter Tryd.func7, Tryd.ntmps7
  go_wp2_with fail
  with_reducible refine (awake_calls _ (HT0.out.below HB.out)).mono ?_
  rintro e w1 ⟨rfl, hb⟩
  rw [← hbs] at HS ⊢
  clear hbs
  have HB1 := Aside0.mk (below_then HB.out HB.out.size hb)
  have HL1 := Aside0.mk (HL.out.below hb)
  have HS1 := Aside0.mk (HS.out.below hb)
  have v0 := HS1.out.cell 0
  have v1 := HS1.out.cell 1
  clear hb HB HL HS
  go_wp2_with (first | ((with_reducible refine gate_dst (N := 17) rfl ?_); refine Kd.R_lit (Kd.int .u64) _ 45 ?hg (N := 17) ?hd (xs := []) (inner := []) (ok := fun _ => True) (okp := fun _ => True) ?hr ?hp (fun _ hk => hk) trivial (Below.refl _ _) (Nat.le_refl _) (by simp) ?_; (case hd => rfl); (case hg => rfl); (case hr => first | (go_simp; done) | (go_simp; rfl)); (case hp => exact (Reps.none _ _)); intro v5 w5 ho hb hg_ hnew_; have HOx := Aside0.mk ho; have HBx := Aside0.mk hb; clear hg_ hnew_ ho hb) | ((with_reducible refine gate_builtin (b := .append) (xs := #[.tmp 17, .tmp 18]) rfl ?_); at_builtin; refine Kd.R_append_rows (Kd.int .u64) (w0 := w1) w1.heap.size rfl (.tmp 17) (.tmp 18) 24 45 (.int .u64 0) 8 rfl Tryd.underlying24 info45 rfl (by decide) (by omega) v5 [] (l) _ _ _ (fun _ => True) (fun _ => False) rfl rfl ?aO ?aR (fun _ _ h => h) (fun _ h => h.elim) ?aF ?aB ?aS ?aL ?_; (case aR => exact (Kd.C_below (HL1.out.r) HBx.out)); (case aB => exact HBx.out); (case aF => exact (fun _ _ => trivial)); (case aO => exact HOx.out); (case aS => exact HBx.out.size); (case aL => (simp only [List.length_nil]; omega)); intro v6 w6 ho2 hb2 hg_ hat_; rw [List.nil_append] at ho2; clear hg_ hat_; clear HOx HBx; obtain ⟨gm, cm, hv, hgm, hmm⟩ := Mr.of_R ho2 hp; subst hv; have HMm := Aside0.mk hmm; have HGm := Aside0.mk (show w.heap.size ≤ gm by have := HB1.out.size; omega); have HNb := Aside0.mk (show bs ≠ gm by have := HS1.out.lt; omega); clear hmm hgm; have HB6 := Aside0.mk (below_then HB1.out HB1.out.size hb2); have HL6 := Aside0.mk (HL1.out.below hb2); have HS6 := Aside0.mk (HS1.out.below hb2); clear hb2 ho2 v0 v1 HB1 HL1 HS1) | ((with_reducible refine gate_dst (N := 20) rfl ?_); refine Kd.R_lit (Kd.int .u64) _ 45 ?hg (N := 20) ?hd (xs := []) (inner := []) (ok := fun _ => True) (okp := fun _ => True) ?hr ?hp (fun _ hk => hk) trivial (Below.refl _ _) (Nat.le_refl _) (by simp) ?_; (case hd => rfl); (case hg => rfl); (case hr => first | (go_simp; done) | (go_simp; rfl)); (case hp => exact (Reps.none _ _)); intro v7 w7 ho hb hg_ hnew_; have HOx := Aside0.mk ho; have HBx := Aside0.mk hb; clear hg_ hnew_ ho hb) | ((with_reducible refine gate_builtin (b := .append) (xs := #[.tmp 20, .tmp 21]) rfl ?_); at_builtin; refine Kd.R_append_rows (Kd.int .u64) (w0 := w6) w6.heap.size rfl (.tmp 20) (.tmp 21) 24 45 (.int .u64 0) 8 rfl Tryd.underlying24 info45 rfl (by decide) (by omega) v7 [] (l) _ _ _ (fun _ => True) (fun _ => False) rfl rfl ?aO ?aR (fun _ _ h => h) (fun _ h => h.elim) ?aF ?aB ?aS ?aL ?_; (case aR => exact (Kd.C_below (HL6.out.r) HBx.out)); (case aB => exact HBx.out); (case aF => exact (fun _ _ => trivial)); (case aO => exact HOx.out); (case aS => exact HBx.out.size); (case aL => (simp only [List.length_nil]; omega)); intro v8 w8 ho2 hb2 hg_ hat_; rw [List.nil_append] at ho2; clear hg_ hat_; clear HOx HBx; obtain ⟨gn, cn, hv, hgn, hnn⟩ := Mr.of_R ho2 hp; subst hv; have HNn := Aside0.mk hnn; have HGn := Aside0.mk (show w.heap.size ≤ gn by have := HB6.out.size; omega); have HNc := Aside0.mk (show bs ≠ gn by have := HS6.out.lt; omega); have HNe := Aside0.mk (show gn ≠ gm by have := HMm.out.lt; omega); clear hnn hgn; have HB8 := Aside0.mk (below_then HB6.out HB6.out.size hb2); have HM8 := Aside0.mk (HMm.out.below hb2); have HS8 := Aside0.mk (HS6.out.below hb2); clear hb2 ho2 HB6 HL6 HS6 HMm))
  refine start_ (n := 10) (S := fun w' => w'.cell? ⟨bs, 0, none⟩ = some (.int .i64 (R : Int)) ∧ w'.cell? ⟨bs, 1, none⟩ = some (.int .i64 (C : Int)) ∧ Aside0 (Below w.heap.size w w' ∧ Bk w' bs 23 [.int .i64 (R : Int), .int .i64 (C : Int)])) (ds := []) #[false, false, false, false, false, false, false, false, false, false] (by kernel_rfl) rfl rfl ⟨HS8.out.drew.cell 0, HS8.out.drew.cell 1, ⟨below_drew1 HB8.out, HS8.out.drew⟩⟩ (fun hHeld => ?_)
  refine pure_ (i := 0) (N := some 23) (v := ?_) (a' := ?_) #[true, false, false, false, false, false, false, false, false, false] rfl rfl (by kernel_rfl) (fun _ _ _ h => h) (Or.inl ⟨by rfl, ?_⟩) ?_ ?_
  rotate_left
  · intro w'
    go_simp
    with_reducible rfl
  rotate_left
  · simp only [Act.put, List.setIfInBounds_toArray, List.set_cons_zero, List.set_cons_succ, i64_w, i32_w]
    rfl
  refine pure_ (i := 2) (N := some 25) (v := ?_) (a' := ?_) #[true, false, true, false, false, false, false, false, false, false] rfl rfl (by kernel_rfl) (fun _ _ _ h => h) (Or.inl ⟨by rfl, ?_⟩) ?_ ?_
  rotate_left
  · intro w'
    go_simp
    with_reducible rfl
  rotate_left
  · simp only [Act.put, List.setIfInBounds_toArray, List.set_cons_zero, List.set_cons_succ, i64_w, i32_w]
    rfl
  refine pure_ (i := 4) (N := some 27) (v := ?_) (a' := ?_) #[true, false, true, false, true, false, false, false, false, false] rfl rfl (by kernel_rfl) (fun _ _ _ h => h) (Or.inl ⟨by rfl, ?_⟩) ?_ ?_
  rotate_left
  · intro w'
    go_simp
    with_reducible rfl
  rotate_left
  · simp only [Act.put, List.setIfInBounds_toArray, List.set_cons_zero, List.set_cons_succ, i64_w, i32_w]
    rfl
  refine pure_ (i := 6) (N := some 29) (v := ?_) (a' := ?_) #[true, false, true, false, true, false, true, false, false, false] rfl rfl (by kernel_rfl) (fun _ _ _ h => h) (Or.inl ⟨by rfl, ?_⟩) ?_ ?_
  rotate_left
  · intro w'
    go_simp
    with_reducible rfl
  rotate_left
  · simp only [Act.put, List.setIfInBounds_toArray, List.set_cons_zero, List.set_cons_succ, i64_w, i32_w]
    rfl
  refine take_ (i := 1) (N := some 24) (v := ?_) (a' := ?_) #[true, true, true, false, true, false, true, false, false, false] rfl rfl (by kernel_rfl) (fun _ _ _ h => h) (Or.inl ⟨by rfl, ?_⟩) hHeld ?_ ?_
  rotate_left
  · rintro w' ⟨s0, s1, s2⟩
    go_simp
    with_reducible rfl
  rotate_left
  · simp only [Act.put, List.setIfInBounds_toArray, List.set_cons_zero, List.set_cons_succ, i64_w, i32_w]
    rfl
  refine take_ (i := 5) (N := some 28) (v := ?_) (a' := ?_) #[true, true, true, false, true, true, true, false, false, false] rfl rfl (by kernel_rfl) (fun _ _ _ h => h) (Or.inl ⟨by rfl, ?_⟩) hHeld ?_ ?_
  rotate_left
  · rintro w' ⟨s0, s1, s2⟩
    go_simp
    with_reducible rfl
  rotate_left
  · simp only [Act.put, List.setIfInBounds_toArray, List.set_cons_zero, List.set_cons_succ, i64_w, i32_w]
    rfl
  refine one_ (i := 3) (N := some 26) #[true, true, true, true, true, true, true, false, false, false] rfl rfl (by kernel_rfl) (by decide) (fun K hK => ?_)
  refine goes_ Tryd.func41 (by kernel_rfl) rfl #[.slice (some ⟨gm, 0, none⟩) l.length cm, .agg #[.int .i64 (R : Int), .int .i64 (C : Int)], .int .i64 1] (by rfl) rfl rfl (by simp only [List.map_toArray, List.map_cons, List.map_nil]; rfl) ?_
  with_reducible refine (rows_yes R C a b gm cm l 1 (.inr rfl) HA.out HBb.out HAB.out HRC.out HW.out _ HM8.out.drew (HT0.out.below (below_drew1 HB8.out))).mono ?_
  rintro e w9 ⟨rfl, hm, hf⟩
  refine ⟨_, rfl, ?_⟩
  rw [← HXR.out] at hm
  have HM9 := Aside0.mk hm
  have HN9 := Aside0.mk (HNn.out.drew.fr hf (by simpa using HNe.out))
  have HB9 := Aside0.mk ((below_drew1 HB8.out).trans (hf.below (B := w.heap.size) (below_drew1 HB8.out).size (by simpa using HGm.out)))
  have HS9 := Aside0.mk (hHeld.2.2.out.2.fr hf (by simpa using HNb.out))
  clear hHeld hm hf
  refine hK.out _ _ ⟨HS9.out.cell 0, HS9.out.cell 1, ⟨HB9.out, HS9.out⟩⟩ (fun hHeld => ?_)
  clear hK K
  refine norm_ (a' := ?_) ?_ ?_
  rotate_left
  · show Act.put _ (some 26) _ = _
    simp only [Act.put, List.setIfInBounds_toArray, List.set_cons_zero, List.set_cons_succ, i64_w, i32_w]
    rfl
  refine one_ (i := 7) (N := some 30) #[true, true, true, true, true, true, true, true, false, false] rfl rfl (by kernel_rfl) (by decide) (fun K hK => ?_)
  refine goes_ Tryd.func42 (by kernel_rfl) rfl #[.slice (some ⟨gn, 0, none⟩) l.length cn, .agg #[.int .i64 (R : Int), .int .i64 (C : Int)], .int .i64 1] (by rfl) rfl rfl (by simp only [List.map_toArray, List.map_cons, List.map_nil]; rfl) ?_
  with_reducible refine (cols_yes R C a b gn cn l 1 (.inr rfl) HA.out HBb.out HAB.out HRC.out HW.out _ HN9.out (HT0.out.below HB9.out)).mono ?_
  rintro e w10 ⟨rfl, hm, hf⟩
  refine ⟨_, rfl, ?_⟩
  rw [← HXC.out] at hm
  have HN10 := Aside0.mk hm
  have HM10 := Aside0.mk (HM9.out.fr hf (by simpa using (Ne.symm HNe.out)))
  have HB10 := Aside0.mk (HB9.out.trans (hf.below (B := w.heap.size) HB9.out.size (by simpa using HGn.out)))
  have HS10 := Aside0.mk (HS9.out.fr hf (by simpa using HNc.out))
  clear hHeld hm hf
  refine hK.out _ _ ⟨HS10.out.cell 0, HS10.out.cell 1, ⟨HB10.out, HS10.out⟩⟩ (fun hHeld => ?_)
  clear hK K
  refine norm_ (a' := ?_) ?_ ?_
  rotate_left
  · show Act.put _ (some 30) _ = _
    simp only [Act.put, List.setIfInBounds_toArray, List.set_cons_zero, List.set_cons_succ, i64_w, i32_w]
    rfl
  refine pure_ (i := 8) (N := some 9) (v := ?_) (a' := ?_) #[true, true, true, true, true, true, true, true, true, false] rfl rfl (by kernel_rfl) (fun _ _ _ h => h) (Or.inl ⟨by rfl, ?_⟩) ?_ ?_
  rotate_left
  · intro w'
    go_simp
    with_reducible rfl
  rotate_left
  · simp only [Act.put, List.setIfInBounds_toArray, List.set_cons_zero, List.set_cons_succ, i64_w, i32_w]
    rfl
  refine pure_ (i := 9) (N := some 10) (v := ?_) (a' := ?_) #[true, true, true, true, true, true, true, true, true, true] rfl rfl (by kernel_rfl) (fun _ _ _ h => h) (Or.inl ⟨by rfl, ?_⟩) ?_ ?_
  rotate_left
  · intro w'
    go_simp
    with_reducible rfl
  rotate_left
  · simp only [Act.put, List.setIfInBounds_toArray, List.set_cons_zero, List.set_cons_succ, i64_w, i32_w]
    rfl
  refine done_ (by kernel_rfl) ?_
  clear hHeld HM8 HNn HB8 HS8 HM9 HN9 HB9 HS9
  have v0 := HS10.out.cell 0
  have v1 := HS10.out.cell 1
  go_wp2_with fail
  clear v0 v1
  with_reducible refine (abacistref06_Good.calls kg (R : Int) (C : Int) true _ HG.out).mono ?_
  rintro e w11 ⟨rfl, hb⟩
  have HB11 := Aside0.mk (below_then HB10.out HB10.out.size hb)
  have HM11 := Aside0.mk (HM10.out.below hb)
  have HN11 := Aside0.mk (HN10.out.below hb)
  have HS11 := Aside0.mk (HS10.out.below hb)
  have v0 := HS11.out.cell 0
  have v1 := HS11.out.cell 1
  clear hb HB10 HM10 HN10 HS10
  have e2 : (wrap64 ((R : Int) * (C : Int)) != (l.length : Int)) = false := by rw [HE.out, bne_eq_false_iff_eq]
  go_wp2_with fail
  clear v0 v1
  with_reducible refine (rrows R C b A c l 1 (.inr rfl) (by have := HAB.out; omega) HBb.out HX.out.1 HX.out.2.1 HX.out.2.2 HRC.out (by omega) HW.out _ (HL0.out.below HB11.out)).mono ?_
  rintro e w12 ⟨Ar, cr, rfl, hr, hb2⟩
  have hb := hb2
  clear hb2
  rw [← HXR.out] at hr
  have HR12 := Aside0.mk hr
  clear hr
  have HB12 := Aside0.mk (below_then HB11.out HB11.out.size hb)
  have HM12 := Aside0.mk (HM11.out.below hb)
  have HN12 := Aside0.mk (HN11.out.below hb)
  have HS12 := Aside0.mk (HS11.out.below hb)
  have v0 := HS12.out.cell 0
  have v1 := HS12.out.cell 1
  clear hb HB11 HM11 HN11 HS11
  go_wp2_with fail
  clear v0 v1
  have hs := same_calls (some ⟨gm, 0, none⟩) Ar cm cr xr xr _ (In.of_mr HM12.out (by omega)) HR12.out (by omega) rfl
  rw [hxrl] at hs
  with_reducible refine hs.mono ?_
  clear hs
  rintro e w13 ⟨rfl, hd⟩
  have HB13 := Aside0.mk (below_then HB12.out HB12.out.size hd.below)
  have HM13 := Aside0.mk (HM12.out.below hd.below)
  have HN13 := Aside0.mk (HN12.out.below hd.below)
  have HS13 := Aside0.mk (HS12.out.below hd.below)
  have v0 := HS13.out.cell 0
  have v1 := HS13.out.cell 1
  clear hd HB12 HM12 HN12 HS12
  clear HR12
  go_wp2_with fail
  clear v0 v1
  with_reducible refine (rcols R C a A c l 1 (.inr rfl) (by have := HAB.out; omega) HA.out HX.out.1 HX.out.2.1 HX.out.2.2 HRC.out (by omega) HW.out _ (HL0.out.below HB13.out)).mono ?_
  rintro e w14 ⟨Ar, cr, rfl, hr, hb2⟩
  have hb := hb2
  clear hb2
  rw [← HXC.out] at hr
  have HR14 := Aside0.mk hr
  clear hr
  have HB14 := Aside0.mk (below_then HB13.out HB13.out.size hb)
  have HM14 := Aside0.mk (HM13.out.below hb)
  have HN14 := Aside0.mk (HN13.out.below hb)
  have HS14 := Aside0.mk (HS13.out.below hb)
  have v0 := HS14.out.cell 0
  have v1 := HS14.out.cell 1
  clear hb HB13 HM13 HN13 HS13
  go_wp2_with fail
  clear v0 v1
  have hs := same_calls (some ⟨gn, 0, none⟩) Ar cn cr xc xc _ (In.of_mr HN14.out (by omega)) HR14.out (by omega) rfl
  rw [hxcl] at hs
  with_reducible refine hs.mono ?_
  clear hs
  rintro e w15 ⟨rfl, hd⟩
  have HB15 := Aside0.mk (below_then HB14.out HB14.out.size hd.below)
  clear hd HB14 HR14 HN14 HM14
  go_wp2
  go_ret
  exact ⟨rfl, HB15.out⟩
theorem all_long (A : Option Addr) (c : Nat) (l : List Int) (R C d : Int) (w : World) (hL : 64 < l.length) (hT : TabOK w) :
    Calls Tryd.prog 7 #[.slice A l.length c, .agg #[.int .i64 R, .int .i64 C], .int .i64 d] w fun e w' => e = .returned (.bool true) ∧ Below w.heap.size w w' := by
  have HT0 := Aside0.mk hT
  have HB := Aside0.mk (below_alloc (Below.refl w.heap.size w) (Obj.cells #[.int .i64 R, .int .i64 C] 23))
  have d1 : decide ((64 : Int) < (l.length : Int)) = true := decide_eq_true (by omega)
  clear hT
  go_enter Tryd.func7, Tryd.ntmps7
  go_wp2_with fail
  with_reducible refine (awake_calls _ (HT0.out.below HB.out)).mono ?_
  rintro e w1 ⟨rfl, hb⟩
  have HB1 := Aside0.mk (below_then HB.out HB.out.size hb)
  clear hb HB
  go_wp2
  go_ret
  exact ⟨rfl, HB1.out⟩
theorem RowsAllRow (a0 : Option Addr) (len0 cap0 : Nat) (z0 : List Int) (a1_0 a1_1 a2 : Int) (w : World)
    (w0 : (a0 = none ∧ len0 = 0 ∧ cap0 = 0 ∧ z0 = []) ∨ ∃ x, a0 = some x ∧ len0 ≤ cap0 ∧ cap0 ≤ maxLen ∧ z0.length = cap0 ∧ (∀ i, i < z0.length → w.cell? (x.add i) = some (.int .u64 (z0.getD i 0))) ∧ ∀ n ∈ z0, (Lit.int .u64 n).wf = true) (hT : TabOK w) :
    Calls Tryd.prog 7 #[.slice a0 len0 cap0, .agg #[.int .i64 a1_0, .int .i64 a1_1], .int .i64 a2] w fun e w' => e = .returned (.bool true) ∧ Below w.heap.size w w' := by
  obtain ⟨l, rfl, hl, hW⟩ := In.of w0
  by_cases h1 : 64 < l.length
  · exact all_long a0 cap0 l a1_0 a1_1 a2 w h1 hT
  by_cases hg : GoodS a1_0 a1_1
  · by_cases hs : a1_0 * a1_1 = (l.length : Int)
    · by_cases hd : a2 = 0 ∨ a2 = 1
      · obtain ⟨a, b, hab, rfl, rfl⟩ := good_ints hg
        have hRC : 2 ^ a * 2 ^ b = l.length := by exact_mod_cast hs
        have hab2 : a + b ≤ 20 := by
          rcases Nat.lt_or_ge 20 (a + b) with h | h
          · have := pow_mono (show 21 ≤ a + b by omega)
            rw [← Nat.pow_add] at hRC
            have e : (2 : Nat) ^ 21 = 2097152 := by decide
            omega
          · exact h
        rcases hd with rfl | rfl
        · exact all_y0 a0 cap0 l (2 ^ a) (2 ^ b) a b w hl hW (by omega) rfl rfl hab2 hRC hT
        · exact all_y1 a0 cap0 l (2 ^ a) (2 ^ b) a b w hl hW (by omega) rfl rfl hab2 hRC hT
      · exact all_kind a0 cap0 l a1_0 a1_1 a2 w hl (by omega) hg hs hd hT
    · exact all_size a0 cap0 l a1_0 a1_1 a2 w hl (by omega) hg hs hT
  · exact all_shape a0 cap0 l a1_0 a1_1 a2 w hl (by omega) hg hT
end Go.Proofs.YtpnkcjnemoompaaDoor.Kern
end
