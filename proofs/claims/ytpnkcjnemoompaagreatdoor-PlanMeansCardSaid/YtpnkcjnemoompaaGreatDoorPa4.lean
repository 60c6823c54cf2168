import Derived.Test.YtpnkcjnemoompaaGreatDoorPa3
import Derived.Test.YtpnkcjnemoompaaGreatDoorProg
import Derived.Below
import Derived.Deep.Draws
import Derived.Deep.AppendLies
import Derived.Maps.AppendAt
import Derived.OwnWalk
import Derived.Laws.BytesArg
import Derived.Laws.MakeOwn
import Derived.Laws.OwnMore
import Derived.Deep.OwnRows
import Derived.Tactics
import Derived.Lib.ConvBytes
import Derived.Laws.Slices
import Derived.WalkKit
import Derived.KernelRfl
import Derived.RowKit3
import Derived.Deep.LoopGhost
import Derived.Deep.QuietTactic
import Derived.BigQuiet
import Derived.WideLaws
import Derived.Deep.DeepCutAuto
import Derived.Deep.CutBlock
import Derived.Deep.RegionHeld3
import Derived.Laws.Rows
import Derived.Lib.AppendStr
import Derived.ArgAppend
import Derived.Laws.IdiomCopy
import Derived.OrdersHeld
import Derived.Laws.BitsLemmas
import Derived.RowKit
import Derived.Shelf.Spec.TrailingZeros
import Derived.Lib.LaidTab
import Derived.Lib.Hide
import Derived.Shelf.Strings.Builder1
import Derived.Shelf.Strings.Builder2
import Derived.Shelf.Strings.OnBuilder
import Derived.Shelf.Strings.BuilderF
import Derived.Shelf.Strings.BuilderK
import Derived.Shelf.Strings.Builder2Cap
import Derived.Shelf.Strconv.Itoa0
import Derived.Shelf.Strconv.Itoa1
import Derived.Shelf.LaysM
import Derived.Shelf.Strconv.Itoa2
import Derived.Shelf.Strconv.Itoa3
import Derived.Shelf.Bits.Mul64
import Derived.Shelf.Strings.BuilderCap
import Derived.Ground.SlgnProg
import Derived.Shelf.SlicesE.Clone
import Derived.Laws.StructEq
import Derived.Shelf.Spec.BitsCarry
import Derived.Laws.CopyOwn
import Derived.Laws.BitsAllLaws
import Derived.OpenShut
import Derived.StillTailTactics
import Derived.Outline
/-! Texts of this claim, joined: PFftx6, PFftx7, KernA, KernB. -/
section
namespace Go.Proofs.YtpnkcjnemoompaaGreatDoor.PFft
open Go.RowKit Go.Proofs.YtpnkcjnemoompaaGreatDoor.Ext Go.Proofs.YtpnkcjnemoompaaGreatDoor.PPlan Go.Proofs.YtpnkcjnemoompaaGreatDoorW.PrintWords Go.Proofs.YtpnkcjnemoompaaGreatDoorW.PrintLast Go.Proofs.YtpnkcjnemoompaaGreatDoorW.PrintMore
attribute [local go_sem] max2_int min2_int max_two min_two max_three min_three max_four min_four   -- for this text's walks alone
set_option linter.unusedVariables false
set_option linter.unusedSimpArgs false
mutual
def abacistref24_Rows.l0 : Nat → List Int → List Int → Int → Int → Int → Int → Int → Int → Int → Option (List Int)
  | 0, _, _, _, _, _, _, _, _, _ => none
  | k + 1, x0, x5, x6, x7, x246000, x246001, x246002, x246003, x246004 => if x7 < x246000 then (if 0 ≤ (wrap64 (x7 * x246001)) then (if (wrap64 (x7 * x246001)) ≤ (wrap64 ((wrap64 (x7 + 1)) * x246001)) then (if (wrap64 ((wrap64 (x7 + 1)) * x246001)) ≤ (x0.length : Int) then ((abacistref08_Dft.f k ((x0.take ((wrap64 ((wrap64 (x7 + 1)) * x246001)) : Int).toNat).drop ((wrap64 (x7 * x246001)) : Int).toNat) x6 x246002).bind fun t248 => (abacistref24_Rows.l1 k x0 x5 x6 x7 t248 0 x246000 x246001 x246002 x246003 x246004)) else (none)) else (none)) else (none)) else (some x5)
def abacistref24_Rows.l1 : Nat → List Int → List Int → Int → Int → List Int → Int → Int → Int → Int → Int → Int → Option (List Int)
  | 0, _, _, _, _, _, _, _, _, _, _, _ => none
  | k + 1, x0, x5, x6, x7, x8, x9, x246000, x246001, x246002, x246003, x246004 => if x9 < (x8.length : Int) then (if 0 ≤ x9 then ((abacistref02_Mul.f k (rd x8 x9) x246004).bind fun t252 => (if x246003 ≥ 0 then ((abacistref08_Root.f k x246003 x246002).bind fun t253 => ((abacistref02_Pow.f k t253 (IntKind.u64.wrap (wrap64 (x7 * x9)))).bind fun t254 => ((abacistref02_Mul.f k t252 t254).bind fun t255 => (if x5.length < 17592186044416 then (abacistref24_Rows.l1 k x0 (x5 ++ [t255]) x6 x7 x8 (wrap64 (x9 + 1)) x246000 x246001 x246002 x246003 x246004) else (none))))) else (if x5.length < 17592186044416 then (abacistref24_Rows.l1 k x0 (x5 ++ [t252]) x6 x7 x8 (wrap64 (x9 + 1)) x246000 x246001 x246002 x246003 x246004) else (none)))) else (none)) else (abacistref24_Rows.l0 k x0 x5 x6 (wrap64 (x7 + 1)) x246000 x246001 x246002 x246003 x246004)
end
def abacistref24_Rows.f (k : Nat) (l0 : List Int) (a1_0 : Int) (a1_1 : Int) (a1_2 : Int) (a1_3 : Int) (a1_4 : Int) : Option (List Int) := (abacistref03_Fits.f k a1_1).bind fun t246 => (abacistref24_Rows.l0 k l0 ([] : List Int) t246 0 a1_0 a1_1 a1_2 a1_3 a1_4)
def abacistref24_Rows.T6 : Bool × List (List Nat × List Nat) := (true, [([], []), ([], []), ([], []), ([2], [2]), ([3], [3]), ([1, 4], [1, 4]), ([], []), ([6], [6]), ([], []), ([8], [8]), ([9], [9]), ([7, 10], [7, 10]), ([0, 5, 11], [0, 5, 11]), ([], []), ([], []), ([14], [14]), ([12, 13, 15], [12, 13, 15]), ([16, 16, 0, 1, 2, 3, 4, 5, 6, 7, 8, 9, 10, 11, 12, 13, 14, 15, 16], [16])])
def abacistref24_Rows.B6 : List Nat := [0, 0, 0, 4, 12, 30, 0, 64, 0, 256, 768, 1984, 4095, 0, 0, 16384, 65535, 131071]
theorem abacistref24_Rows.tab6 : rtab .any (opsOf Tryz.f30 6) = abacistref24_Rows.T6 := by kernel_rfl
theorem abacistref24_Rows.bits6 : waitsOk abacistref24_Rows.T6.2 abacistref24_Rows.B6 = true := by kernel_rfl
def abacistref24_Rows.T10 : Bool × List (List Nat × List Nat) := (true, [([], []), ([], []), ([0, 1], [0, 1]), ([2], [2]), ([], []), ([4], [4]), ([3, 5], [3, 5]), ([6, 6, 0, 1, 2, 3, 4, 5, 6], [6])])
def abacistref24_Rows.B10 : List Nat := [0, 0, 3, 7, 0, 16, 63, 127]
theorem abacistref24_Rows.tab10 : rtab .any (opsOf Tryz.f30 10) = abacistref24_Rows.T10 := by kernel_rfl
theorem abacistref24_Rows.bits10 : waitsOk abacistref24_Rows.T10.2 abacistref24_Rows.B10 = true := by kernel_rfl
set_option maxHeartbeats 8000000 in
set_option maxRecDepth 100000 in
theorem abacistref24_Rows.calls (k : Nat) (A0 : Option Addr) (c0 : Nat) (l0 : List Int) (a1_0 : Int) (a1_1 : Int) (a1_2 : Int) (a1_3 : Int) (a1_4 : Int) (r : List Int) (w : World) (hr0 : Kd.C (Kd.int .u64) w A0 l0.length l0) (hc0 : l0.length ≤ c0) (h : abacistref24_Rows.f k l0 a1_0 a1_1 a1_2 a1_3 a1_4 = some r) :
    Calls Tryz.prog 30 #[.slice A0 l0.length c0, .agg #[.int .i64 a1_0, .int .i64 a1_1, .int .i64 a1_2, .int .i64 a1_3, .int .u64 a1_4]] w fun e w' => ∃ v0_ : Value, e = .returned (v0_) ∧ Kd.R (Kd.int .u64) 33 w' w.heap.size (fun _ => True) v0_ r ∧ Below w.heap.size w w' := by
  have hu35 := Tryz.underlying35
  have HR0 := Aside0.mk hr0
  have HC0 := Aside0.mk hc0
  clear hr0 hc0
  have HB := Aside0.mk (Below.refl w.heap.size w)
  have H : ((abacistref03_Fits.f k a1_1).bind fun t246 => (abacistref24_Rows.l0 k l0 ([] : List Int) t246 0 a1_0 a1_1 a1_2 a1_3 a1_4)) = some r := h
  clear h
  replace H := Option.bind_eq_some_iff.mp H
  obtain ⟨t246, A30, H⟩ := H
  replace H : (abacistref24_Rows.l0 k l0 ([] : List Int) t246 0 a1_0 a1_1 a1_2 a1_3 a1_4) = some r := H
  have A3 := Aside0.mk A30
  clear A30
  have H' := Aside0.mk H
  clear H
  go_enter Tryz.func30, Tryz.ntmps30
  go_wp2_with (first | ((with_reducible refine gate_dst (N := 3) rfl ?_); refine box_event ?hg (N := 3) ?hd (cs := #[.int .i64 a1_0, .int .i64 a1_1, .int .i64 a1_2, .int .i64 a1_3, .int .u64 a1_4]) (t := 35) ?hr ?_; (case hd => rfl); (case hg => rfl); (case hr => first | (go_simp; done) | (go_simp; rfl)); intro gb245 hg w4 hbox hb; have n0_ := Aside0.mk (below_step (by repeat (first | (with_reducible first | exact HB.out | apply below_alloc | apply pw_below_drewN | apply below_drew1) | exact HB.out)) hb); have n1_ := Aside0.mk (hbox); have n2_ := Aside0.mk ((by rw [hg]; exact (below_size (by repeat (first | (with_reducible first | exact HB.out | apply below_alloc | apply pw_below_drewN | apply below_drew1) | exact HB.out))) : w.heap.size ≤ gb245)); have n3_ := Aside0.mk ((by rw [hg]; exact (below_size (by repeat (first | (with_reducible first | exact HB.out | apply below_alloc | apply pw_below_drewN | apply below_drew1) | exact HB.out))) : w.heap.size ≤ gb245)); clear HB; have HB := n0_; have BK245 := n1_; have GW245 := n2_; have GE245 := n3_; clear n0_ n1_ n2_ n3_; clear hb hbox hg; have hcz5_0 : w4.cell? ⟨gb245, 0, none⟩ = some (.int .i64 a1_0) := (blk_cell BK245.out 0).trans rfl; have hcz5_1 : w4.cell? ⟨gb245, 1, none⟩ = some (.int .i64 a1_1) := (blk_cell BK245.out 1).trans rfl; have hcz5_2 : w4.cell? ⟨gb245, 2, none⟩ = some (.int .i64 a1_2) := (blk_cell BK245.out 2).trans rfl; have hcz5_3 : w4.cell? ⟨gb245, 3, none⟩ = some (.int .i64 a1_3) := (blk_cell BK245.out 3).trans rfl; have hcz5_4 : w4.cell? ⟨gb245, 4, none⟩ = some (.int .u64 a1_4) := (blk_cell BK245.out 4).trans rfl; have hfz5_0 := blk_frozen BK245.out 0; have hfz5_1 := blk_frozen BK245.out 1; have hfz5_2 := blk_frozen BK245.out 2; have hfz5_3 := blk_frozen BK245.out 3; have hfz5_4 := blk_frozen BK245.out 4) | ((with_reducible refine gate_callee (f := 6) rfl ?_); refine goesL_ (some 14) rfl rfl Tryz.func6 (by kernel_rfl) rfl #[.int .i64 a1_1] rfl (by (try simp only [List.map_toArray, List.map_cons, List.map_nil]); first | done | rfl | (simp only [List.length_drop, List.length_take]; rfl)) ?_; (with_reducible refine (abacistref03_Fits.calls k a1_1 t246 _ A3.out).mono ?_); rintro e w' ⟨rfl, ⟨nd, rfl⟩⟩; refine ⟨_, rfl, ?_⟩))
  go_loopg [5, 7] k (fun kq v5 v7 w' => ∃ (x5_1 : List Int) (x7_1 : Int), v7 = .int .i64 x7_1 ∧ Aside0 (abacistref24_Rows.l0 kq l0 x5_1 t246 x7_1 a1_0 a1_1 a1_2 a1_3 a1_4 = some r) ∧ Aside0 (kq ≤ k) ∧ Aside0 (Kd.R (Kd.int .u64) 33 w' w.heap.size (fun _ => True) v5 x5_1) ∧ Aside0 (w'.heap[gb245]? = some (.cells #[.int .i64 a1_0, .int .i64 a1_1, .int .i64 a1_2, .int .i64 a1_3, .int .u64 a1_4] 35 (0, 0))) ∧ Aside0 (Below w.heap.size w w'))
  case atStart => exact ⟨(([] : List Int)), (0), (by first | rfl | (simp; done) | (simp [*]; done)), H', ⟨Nat.le_refl _⟩, ⟨by first | exact Kd.R_nil _ _ _ _ _ | exact Kd.N_nil _ _ _ _ _ | exact Kd.V_nil _ _ _ _ _ | exact Kd.Q_nil _ _ _ _ _ | exact Kd.S_nil _ _ _ _ _⟩, ⟨by (with_reducible repeat (first | refine blk_drewN ?_ _ | refine blk_drew ?_ | refine blk_alloc ?_ _)); exact BK245.out⟩, ⟨by repeat (first | (with_reducible first | exact HB.out | apply below_alloc | apply pw_below_drewN | apply below_drew1 | refine below_set ?_ GE245.out) | exact HB.out)⟩⟩
  case round =>
    clear H'
    try clear p2
    try clear c3
    try clear hcz5_0
    try clear hcz5_1
    try clear hcz5_2
    try clear hcz5_3
    try clear hcz5_4
    try clear hfz5_0
    try clear hfz5_1
    try clear hfz5_2
    try clear hfz5_3
    try clear hfz5_4
    obtain ⟨x5_1, x7_1, rfl, HA, HK1, HO_5, BK245, HB⟩ := hrel
    cases gk with
    | zero => exact absurd HA.out (by simp [abacistref24_Rows.l0])
    | succ k1 =>
      have H := HA.out
      clear HA
      simp only [abacistref24_Rows.l0] at H
      by_cases c6 : x7_1 < a1_0
      · rw [if_pos c6] at H
        have c6b0 : decide (x7_1 < a1_0) = true := decide_eq_true c6
        clear c6
        obtain ⟨ji7, hji7⟩ : ∃ j_ : Int, (wrap64 (x7_1 * a1_1)) = j_ := ⟨_, rfl⟩
        replace H : (if 0 ≤ (ji7) then (if (ji7) ≤ (wrap64 ((wrap64 (x7_1 + 1)) * a1_1)) then (if (wrap64 ((wrap64 (x7_1 + 1)) * a1_1)) ≤ (l0.length : Int) then ((abacistref08_Dft.f k1 ((l0.take ((wrap64 ((wrap64 (x7_1 + 1)) * a1_1)) : Int).toNat).drop ((ji7) : Int).toNat) t246 a1_2).bind fun t248 => (abacistref24_Rows.l1 k1 l0 x5_1 t246 x7_1 t248 0 a1_0 a1_1 a1_2 a1_3 a1_4)) else (none)) else (none)) else (none)) = some r := by first | (rw [hji7] at H; exact H) | (simp only [hji7] at H ⊢; exact H)
        have hji7w : (IntKind.i64.wrap (x7_1 * a1_1)) = ji7 := (i64_w _).trans hji7
        by_cases c8 : 0 ≤ (ji7)
        · rw [if_pos c8] at H
          have c8b0 := eq_true c8
          have c8b1 : decide (0 ≤ (ji7)) = true := decide_eq_true c8
          clear c8
          by_cases c9 : (ji7) ≤ (wrap64 ((wrap64 (x7_1 + 1)) * a1_1))
          · rw [if_pos c9] at H
            have c9b0 := eq_true c9
            have c9b1 : decide ((ji7) ≤ (wrap64 ((wrap64 (x7_1 + 1)) * a1_1))) = true := decide_eq_true c9
            by_cases c10 : (wrap64 ((wrap64 (x7_1 + 1)) * a1_1)) ≤ (l0.length : Int)
            · rw [if_pos c10] at H
              have c10b0 := eq_true c10
              have c10b1 : decide ((wrap64 ((wrap64 (x7_1 + 1)) * a1_1)) ≤ (l0.length : Int)) = true := decide_eq_true c10
              replace H := Option.bind_eq_some_iff.mp H
              obtain ⟨t248, A110, H⟩ := H
              replace H : (abacistref24_Rows.l1 k1 l0 x5_1 t246 x7_1 t248 0 a1_0 a1_1 a1_2 a1_3 a1_4) = some r := H
              have A11 := Aside0.mk A110
              clear A110
              have H' := Aside0.mk H
              clear H
              have hcz12_0 : wr.cell? ⟨gb245, 0, none⟩ = some (.int .i64 a1_0) := (blk_cell BK245.out 0).trans rfl
              have hcz12_1 : wr.cell? ⟨gb245, 1, none⟩ = some (.int .i64 a1_1) := (blk_cell BK245.out 1).trans rfl
              have hcz12_2 : wr.cell? ⟨gb245, 2, none⟩ = some (.int .i64 a1_2) := (blk_cell BK245.out 2).trans rfl
              have hcz12_3 : wr.cell? ⟨gb245, 3, none⟩ = some (.int .i64 a1_3) := (blk_cell BK245.out 3).trans rfl
              have hcz12_4 : wr.cell? ⟨gb245, 4, none⟩ = some (.int .u64 a1_4) := (blk_cell BK245.out 4).trans rfl
              have hfz12_0 := blk_frozen BK245.out 0
              have hfz12_1 := blk_frozen BK245.out 1
              have hfz12_2 := blk_frozen BK245.out 2
              have hfz12_3 := blk_frozen BK245.out 3
              have hfz12_4 := blk_frozen BK245.out 4
              try go_wp2
              have n0_ := Aside0.mk (Kd.R_drew HO_5.out)
              have n1_ := Aside0.mk (blk_drew BK245.out)
              have n2_ := Aside0.mk (below_drew1 HB.out)
              clear HO_5
              clear BK245
              clear HB
              have HO_5 := n0_
              have BK245 := n1_
              have HB := n2_
              clear n0_ n1_ n2_
              obtain ⟨i014, hi014, _, hsz14, _⟩ := info_parts info33
              obtain ⟨A14, hcut14, hA14, hC14⟩ := print_mid_of (P := Tryz.prog) (Value.int .u64) 0 22 33 .i64 .i64 Tryz.underlying22 hi014 hsz14 A0 c0 l0 (ji7) (wrap64 ((wrap64 (x7_1 + 1)) * a1_1)) (of_decide_eq_true (by first | (with_reducible assumption) | assumption)) (by first | omega | exact of_decide_eq_true (by first | (with_reducible assumption) | assumption)) (of_decide_eq_true (by first | (with_reducible assumption) | assumption)) HC0.out
              have HR247 := Aside0.mk (Kd.C_of_reads (h1 := fun _ => rfl) (hA14 _ (Kd.reads_of_C HR0.out)))
              have HC247 := Aside0.mk hC14
              clear hA14 hC14 hi014 hsz14
              refine start_ (n := 18) (S := fun w' => w'.cell? ⟨gb245, 0, none⟩ = some (.int .i64 a1_0) ∧ w'.cell? ⟨gb245, 1, none⟩ = some (.int .i64 a1_1) ∧ w'.cell? ⟨gb245, 2, none⟩ = some (.int .i64 a1_2) ∧ w'.cell? ⟨gb245, 3, none⟩ = some (.int .i64 a1_3) ∧ w'.cell? ⟨gb245, 4, none⟩ = some (.int .u64 a1_4)) (ds := []) #[false, false, false, false, false, false, false, false, false, false, false, false, false, false, false, false, false, false] (by kernel_rfl) rfl rfl ⟨(blk_cell BK245.out 0).trans rfl, (blk_cell BK245.out 1).trans rfl, (blk_cell BK245.out 2).trans rfl, (blk_cell BK245.out 3).trans rfl, (blk_cell BK245.out 4).trans rfl⟩ (fun hHeld => ?_); refine with_tabW abacistref24_Rows.tab6 abacistref24_Rows.bits6 (fun HT_ HW_ => ?_)
              generalize wr.drew = w13 at HO_5 BK245 HB HR247 hHeld ⊢
              refine pure_ (i := 0) (N := some 22) (v := ?_) (a' := ?_) #[true, false, false, false, false, false, false, false, false, false, false, false, false, false, false, false, false, false] rfl rfl (any_of HT_.out (by kernel_rfl)) (fun _ _ _ h => h) (Or.inl ⟨by rfl, ?_⟩) ?_ ?_
              rotate_left
              · intro w'
                go_simp
                with_reducible rfl
              rotate_left
              · simp only [Act.put, List.setIfInBounds_toArray, List.set_cons_zero, List.set_cons_succ, i64_w, i32_w]
                rfl
              refine pure_ (i := 1) (N := some 23) (v := ?_) (a' := ?_) #[true, true, false, false, false, false, false, false, false, false, false, false, false, false, false, false, false, false] rfl rfl (any_of HT_.out (by kernel_rfl)) (fun _ _ _ h => h) (Or.inl ⟨by rfl, ?_⟩) ?_ ?_
              rotate_left
              · intro w'
                go_simp
                with_reducible rfl
              rotate_left
              · simp only [Act.put, List.setIfInBounds_toArray, List.set_cons_zero, List.set_cons_succ, i64_w, i32_w]
                rfl
              refine pure_ (i := 2) (N := some 24) (v := ?_) (a' := ?_) #[true, true, true, false, false, false, false, false, false, false, false, false, false, false, false, false, false, false] rfl rfl (any_of HT_.out (by kernel_rfl)) (fun _ _ _ h => h) (Or.inl ⟨by rfl, ?_⟩) ?_ ?_
              rotate_left
              · intro w'
                go_simp
                with_reducible rfl
              rotate_left
              · simp only [Act.put, List.setIfInBounds_toArray, List.set_cons_zero, List.set_cons_succ, i64_w, i32_w]
                rfl
              refine pure_ (i := 3) (N := some 25) (v := ?_) (a' := ?_) #[true, true, true, true, false, false, false, false, false, false, false, false, false, false, false, false, false, false] rfl rfl (any_of HT_.out (by kernel_rfl)) (fun _ _ _ h => h) (Or.inl ⟨by rfl, ?_⟩) ?_ ?_
              rotate_left
              · intro w'
                go_simp
                with_reducible rfl
              rotate_left
              · simp only [Act.put, List.setIfInBounds_toArray, List.set_cons_zero, List.set_cons_succ, i64_w, i32_w]
                rfl
              refine pure_ (i := 6) (N := some 28) (v := ?_) (a' := ?_) #[true, true, true, true, false, false, true, false, false, false, false, false, false, false, false, false, false, false] rfl rfl (any_of HT_.out (by kernel_rfl)) (fun _ _ _ h => h) (Or.inl ⟨by rfl, ?_⟩) ?_ ?_
              rotate_left
              · intro w'
                go_simp
                with_reducible rfl
              rotate_left
              · simp only [Act.put, List.setIfInBounds_toArray, List.set_cons_zero, List.set_cons_succ, i64_w, i32_w]
                rfl
              refine pure_ (i := 7) (N := some 29) (v := ?_) (a' := ?_) #[true, true, true, true, false, false, true, true, false, false, false, false, false, false, false, false, false, false] rfl rfl (any_of HT_.out (by kernel_rfl)) (fun _ _ _ h => h) (Or.inl ⟨by rfl, ?_⟩) ?_ ?_
              rotate_left
              · intro w'
                go_simp
                with_reducible rfl
              rotate_left
              · simp only [Act.put, List.setIfInBounds_toArray, List.set_cons_zero, List.set_cons_succ, i64_w, i32_w]
                rfl
              refine pure_ (i := 8) (N := some 30) (v := ?_) (a' := ?_) #[true, true, true, true, false, false, true, true, true, false, false, false, false, false, false, false, false, false] rfl rfl (any_of HT_.out (by kernel_rfl)) (fun _ _ _ h => h) (Or.inl ⟨by rfl, ?_⟩) ?_ ?_
              rotate_left
              · intro w'
                go_simp
                with_reducible rfl
              rotate_left
              · simp only [Act.put, List.setIfInBounds_toArray, List.set_cons_zero, List.set_cons_succ, i64_w, i32_w]
                rfl
              refine pure_ (i := 9) (N := some 31) (v := ?_) (a' := ?_) #[true, true, true, true, false, false, true, true, true, true, false, false, false, false, false, false, false, false] rfl rfl (any_of HT_.out (by kernel_rfl)) (fun _ _ _ h => h) (Or.inl ⟨by rfl, ?_⟩) ?_ ?_
              rotate_left
              · intro w'
                go_simp
                with_reducible rfl
              rotate_left
              · simp only [Act.put, List.setIfInBounds_toArray, List.set_cons_zero, List.set_cons_succ, i64_w, i32_w]
                rfl
              refine pure_ (i := 13) (N := some 35) (v := ?_) (a' := ?_) #[true, true, true, true, false, false, true, true, true, true, false, false, false, true, false, false, false, false] rfl rfl (any_of HT_.out (by kernel_rfl)) (fun _ _ _ h => h) (Or.inl ⟨by rfl, ?_⟩) ?_ ?_
              rotate_left
              · intro w'
                go_simp
                with_reducible rfl
              rotate_left
              · simp only [Act.put, List.setIfInBounds_toArray, List.set_cons_zero, List.set_cons_succ, i64_w, i32_w]
                rfl
              refine pure_ (i := 14) (N := some 36) (v := ?_) (a' := ?_) #[true, true, true, true, false, false, true, true, true, true, false, false, false, true, true, false, false, false] rfl rfl (any_of HT_.out (by kernel_rfl)) (fun _ _ _ h => h) (Or.inl ⟨by rfl, ?_⟩) ?_ ?_
              rotate_left
              · intro w'
                go_simp
                with_reducible rfl
              rotate_left
              · simp only [Act.put, List.setIfInBounds_toArray, List.set_cons_zero, List.set_cons_succ, i64_w, i32_w]
                rfl
              refine take_ (i := 4) (N := some 26) (v := ?_) (a' := ?_) #[true, true, true, true, true, false, true, true, true, true, false, false, false, true, true, false, false, false] rfl rfl (take_ofW HT_.out HW_.out (by kernel_rfl)) (fun _ _ _ h => h) (Or.inl ⟨by rfl, ?_⟩) hHeld ?_ ?_
              rotate_left
              · rintro w' ⟨s0, s1, s2, s3, s4⟩
                go_simp
                with_reducible rfl
              rotate_left
              · simp only [Act.put, List.setIfInBounds_toArray, List.set_cons_zero, List.set_cons_succ, i64_w, i32_w]
                rfl
              refine pure_ (i := 5) (N := some 27) (v := ?_) (a' := ?_) #[true, true, true, true, true, true, true, true, true, true, false, false, false, true, true, false, false, false] rfl rfl (any_of HT_.out (by kernel_rfl)) (fun _ _ _ h => h) (Or.inl ⟨by rfl, ?_⟩) ?_ ?_
              rotate_left
              · intro w'
                go_simp
                with_reducible rfl
              rotate_left
              · simp only [Act.put, List.setIfInBounds_toArray, List.set_cons_zero, List.set_cons_succ, i64_w, i32_w]
                rfl
              refine take_ (i := 10) (N := some 32) (v := ?_) (a' := ?_) #[true, true, true, true, true, true, true, true, true, true, true, false, false, true, true, false, false, false] rfl rfl (take_ofW HT_.out HW_.out (by kernel_rfl)) (fun _ _ _ h => h) (Or.inl ⟨by rfl, ?_⟩) hHeld ?_ ?_
              rotate_left
              · rintro w' ⟨s0, s1, s2, s3, s4⟩
                go_simp
                with_reducible rfl
              rotate_left
              · simp only [Act.put, List.setIfInBounds_toArray, List.set_cons_zero, List.set_cons_succ, i64_w, i32_w]
                rfl
              refine pure_ (i := 11) (N := some 33) (v := ?_) (a' := ?_) #[true, true, true, true, true, true, true, true, true, true, true, true, false, true, true, false, false, false] rfl rfl (any_of HT_.out (by kernel_rfl)) (fun _ _ _ h => h) (Or.inl ⟨by rfl, ?_⟩) ?_ ?_
              rotate_left
              · intro w'
                go_simp
                with_reducible rfl
              rotate_left
              · simp only [Act.put, List.setIfInBounds_toArray, List.set_cons_zero, List.set_cons_succ, i64_w, i32_w]
                rfl
              refine pure_ (i := 12) (N := some 34) (v := ?_) (a' := ?_) #[true, true, true, true, true, true, true, true, true, true, true, true, true, true, true, false, false, false] rfl rfl (any_of HT_.out (by kernel_rfl)) (fun _ _ _ h => h) (Or.inl ⟨by rfl, ?_⟩) ?_ ?_
              rotate_left
              · intro w'
                go_simp
                with_reducible rfl
              rotate_left
              · simp only [Act.put, List.setIfInBounds_toArray, List.set_cons_zero, List.set_cons_succ, i64_w, i32_w]
                rfl
              refine take_ (i := 15) (N := some 37) (v := ?_) (a' := ?_) #[true, true, true, true, true, true, true, true, true, true, true, true, true, true, true, true, false, false] rfl rfl (take_ofW HT_.out HW_.out (by kernel_rfl)) (fun _ _ _ h => h) (Or.inl ⟨by rfl, ?_⟩) hHeld ?_ ?_
              rotate_left
              · rintro w' ⟨s0, s1, s2, s3, s4⟩
                go_simp
                with_reducible rfl
              rotate_left
              · simp only [Act.put, List.setIfInBounds_toArray, List.set_cons_zero, List.set_cons_succ, i64_w, i32_w]
                rfl
              refine one_ (i := 16) (N := some 38) #[true, true, true, true, true, true, true, true, true, true, true, true, true, true, true, true, true, false] rfl rfl (one_of HT_.out (by kernel_rfl)) (by decide) (fun K hK => ?_)
              refine goes_ Tryz.func25 (by kernel_rfl) rfl #[.slice A14 ((l0.take ((wrap64 ((wrap64 (x7_1 + 1)) * a1_1)) : Int).toNat).drop ((ji7) : Int).toNat).length (c0 - (ji7).toNat), .int .i64 t246, .int .i64 a1_2] (by rfl) rfl rfl (by (try simp only [List.map_toArray, List.map_cons, List.map_nil]); first | done | (rw [show ((l0.take ((wrap64 ((wrap64 (x7_1 + 1)) * a1_1)) : Int).toNat).drop ((ji7) : Int).toNat).length = ((wrap64 ((wrap64 (x7_1 + 1)) * a1_1)).toNat - (ji7).toNat) from (by rw [List.length_drop, List.length_take]; have h_ : ((wrap64 ((wrap64 (x7_1 + 1)) * a1_1)) : Int) ≤ (l0.length : Int) := of_decide_eq_true (by first | (with_reducible assumption) | assumption); omega)] <;> rfl) | (simp only [hji7]; rfl) | rfl | (simp only [List.length_drop, List.length_take]; rfl)) ?_
              with_reducible refine (abacistref08_Dft.calls k1 _ _ ((l0.take ((wrap64 ((wrap64 (x7_1 + 1)) * a1_1)) : Int).toNat).drop ((ji7) : Int).toNat) t246 a1_2 t248 _ ?side1 ?side2 A11.out).mono ?_
              (case side1 => repeat (first | exact (Kd.C_below HR247.out HB.out) | (with_reducible refine Kd.C_alloc ?_ _) | (with_reducible refine Kd.C_drewN ?_ _) | (with_reducible refine Kd.C_drew ?_)))
              (case side2 => exact HC247.out)
              rintro e w15 ⟨v249, rfl, ho0, hb⟩
              refine ⟨_, rfl, ?_⟩
              have n0_ := Aside0.mk (Kd.R_elder' (by (with_reducible repeat (first | apply Kd.R_alloc | apply Kd.R_drewN | apply Kd.R_drew)); exact HO_5.out) (Kd.R_base ho0) hb)
              have n1_ := Aside0.mk (Kd.R_lower (Kd.R_new' ho0 (Kd.R_lt (by (with_reducible repeat (first | apply Kd.R_alloc | apply Kd.R_drewN | apply Kd.R_drew)); exact HO_5.out))) (below_size (by repeat (first | (with_reducible first | exact HB.out | apply below_alloc | apply pw_below_drewN | apply below_drew1 | refine below_set ?_ GE245.out) | exact HB.out))))
              have n2_ := Aside0.mk (blk_below (g := gb245) (o := .cells #[.int .i64 a1_0, .int .i64 a1_1, .int .i64 a1_2, .int .i64 a1_3, .int .u64 a1_4] 35 (0, 0)) (by (with_reducible repeat (first | refine blk_drewN ?_ _ | refine blk_drew ?_ | refine blk_alloc ?_ _)); exact BK245.out) hb)
              have n3_ := Aside0.mk (below_step (by repeat (first | (with_reducible first | exact HB.out | apply below_alloc | apply pw_below_drewN | apply below_drew1 | refine below_set ?_ GE245.out) | exact HB.out)) hb)
              clear HO_5
              clear BK245
              clear HB
              have HO_5 := n0_
              have HO250 := n1_
              have BK245 := n2_
              have HB := n3_
              clear n0_ n1_ n2_ n3_
              (try clear hb)
              (try clear hb2)
              (try clear hk)
              (try clear hi)
              (try clear ho0)
              refine hK.out _ _ ⟨(blk_cell BK245.out 0).trans rfl, (blk_cell BK245.out 1).trans rfl, (blk_cell BK245.out 2).trans rfl, (blk_cell BK245.out 3).trans rfl, (blk_cell BK245.out 4).trans rfl⟩ (fun hHeld => ?_)
              clear hK K
              refine norm_ (a' := ?_) ?_ ?_
              rotate_left
              · show Act.put _ (some 38) _ = _
                simp only [Act.put, List.setIfInBounds_toArray, List.set_cons_zero, List.set_cons_succ, i64_w, i32_w]
                rfl
              refine pure_ (i := 17) (N := some 8) (v := ?_) (a' := ?_) #[true, true, true, true, true, true, true, true, true, true, true, true, true, true, true, true, true, true] rfl rfl (any_of HT_.out (by kernel_rfl)) (fun _ _ _ h => h) (Or.inl ⟨by rfl, ?_⟩) ?_ ?_
              rotate_left
              · intro w'
                go_simp
                with_reducible rfl
              rotate_left
              · simp only [Act.put, List.setIfInBounds_toArray, List.set_cons_zero, List.set_cons_succ, i64_w, i32_w]
                rfl
              refine done_ (done_of HT_.out (by kernel_rfl)) ?_
              try go_wp2
              go_loopg [5, 9] k1 (fun kq v5 v9 w' => ∃ (x5_2 : List Int) (x9_2 : Int), v9 = .int .i64 x9_2 ∧ Aside0 (abacistref24_Rows.l1 kq l0 x5_2 t246 x7_1 t248 x9_2 a1_0 a1_1 a1_2 a1_3 a1_4 = some r) ∧ Aside0 (kq ≤ k1) ∧ Aside0 (Kd.R (Kd.int .u64) 33 w' w.heap.size (fun k_ => some k_ ≠ (v249 : Value).ownBlock) v5 x5_2) ∧ Aside0 (Kd.R (Kd.int .u64) 33 w' w.heap.size (fun k_ => some k_ ≠ (v5 : Value).ownBlock) v249 t248) ∧ Aside0 (w'.heap[gb245]? = some (.cells #[.int .i64 a1_0, .int .i64 a1_1, .int .i64 a1_2, .int .i64 a1_3, .int .u64 a1_4] 35 (0, 0))) ∧ Aside0 (Below w.heap.size w w'))
              case atStart => exact ⟨(x5_1), (0), (by first | rfl | (simp; done) | (simp [*]; done)), H', ⟨Nat.le_refl _⟩, ⟨by (with_reducible repeat (first | apply Kd.R_alloc | apply Kd.R_drewN | apply Kd.R_drew)); exact Kd.R_mono HO_5.out (fun _ hk => hk.2)⟩, ⟨by (with_reducible repeat (first | apply Kd.R_alloc | apply Kd.R_drewN | apply Kd.R_drew)); exact Kd.R_mono HO250.out (fun _ hk => hk.2)⟩, ⟨by (with_reducible repeat (first | refine blk_drewN ?_ _ | refine blk_drew ?_ | refine blk_alloc ?_ _)); exact BK245.out⟩, ⟨by repeat (first | (with_reducible first | exact HB.out | apply below_alloc | apply pw_below_drewN | apply below_drew1 | refine below_set ?_ GE245.out) | exact HB.out)⟩⟩
              case round =>
                clear H'
                try clear c1
                try clear c2
                try clear p2
                try clear c3
                try clear c6
                try clear c6b0
                try clear p6
                try clear c8
                try clear c8b0
                try clear c8b1
                try clear c9
                try clear c9b0
                try clear c9b1
                try clear c10
                try clear c10b0
                try clear c10b1
                try clear hcz12_0
                try clear hcz12_1
                try clear hcz12_2
                try clear hcz12_3
                try clear hcz12_4
                try clear hcz5_0
                try clear hcz5_1
                try clear hcz5_2
                try clear hcz5_3
                try clear hcz5_4
                try clear hfz12_0
                try clear hfz12_1
                try clear hfz12_2
                try clear hfz12_3
                try clear hfz12_4
                try clear hfz5_0
                try clear hfz5_1
                try clear hfz5_2
                try clear hfz5_3
                try clear hfz5_4
                try clear p2
                obtain ⟨x5_2, x9_2, rfl, HA, HK2, HO_5, HO_8, BK245, HB⟩ := hrel
                cases gk with
                | zero => exact absurd HA.out (by simp [abacistref24_Rows.l1])
                | succ k2 =>
                  have H := HA.out
                  clear HA
                  simp only [abacistref24_Rows.l1] at H
                  by_cases c16 : x9_2 < (t248.length : Int)
                  · rw [if_pos c16] at H
                    have c16b0 : decide (x9_2 < (t248.length : Int)) = true := decide_eq_true c16
                    clear c16
                    by_cases c17 : 0 ≤ x9_2
                    · rw [if_pos c17] at H
                      have c17b0 : decide (0 ≤ x9_2) = true := decide_eq_true c17
                      clear c17
                      replace H := Option.bind_eq_some_iff.mp H
                      obtain ⟨t252, A180, H⟩ := H
                      replace H : (if a1_3 ≥ 0 then ((abacistref08_Root.f k2 a1_3 a1_2).bind fun t253 => ((abacistref02_Pow.f k2 t253 (IntKind.u64.wrap (wrap64 (x7_1 * x9_2)))).bind fun t254 => ((abacistref02_Mul.f k2 t252 t254).bind fun t255 => (if x5_2.length < 17592186044416 then (abacistref24_Rows.l1 k2 l0 (x5_2 ++ [t255]) t246 x7_1 t248 (wrap64 (x9_2 + 1)) a1_0 a1_1 a1_2 a1_3 a1_4) else (none))))) else (if x5_2.length < 17592186044416 then (abacistref24_Rows.l1 k2 l0 (x5_2 ++ [t252]) t246 x7_1 t248 (wrap64 (x9_2 + 1)) a1_0 a1_1 a1_2 a1_3 a1_4) else (none))) = some r := H
                      have A18 := Aside0.mk A180
                      clear A180
                      by_cases c19 : a1_3 ≥ 0
                      · rw [if_pos c19] at H
                        have c19b0 : decide (0 ≤ a1_3) = true := decide_eq_true c19
                        clear c19
                        replace H := Option.bind_eq_some_iff.mp H
                        obtain ⟨t253, A200, H⟩ := H
                        replace H : ((abacistref02_Pow.f k2 t253 (IntKind.u64.wrap (wrap64 (x7_1 * x9_2)))).bind fun t254 => ((abacistref02_Mul.f k2 t252 t254).bind fun t255 => (if x5_2.length < 17592186044416 then (abacistref24_Rows.l1 k2 l0 (x5_2 ++ [t255]) t246 x7_1 t248 (wrap64 (x9_2 + 1)) a1_0 a1_1 a1_2 a1_3 a1_4) else (none)))) = some r := H
                        have A20 := Aside0.mk A200
                        clear A200
                        replace H := Option.bind_eq_some_iff.mp H
                        obtain ⟨t254, A210, H⟩ := H
                        replace H : ((abacistref02_Mul.f k2 t252 t254).bind fun t255 => (if x5_2.length < 17592186044416 then (abacistref24_Rows.l1 k2 l0 (x5_2 ++ [t255]) t246 x7_1 t248 (wrap64 (x9_2 + 1)) a1_0 a1_1 a1_2 a1_3 a1_4) else (none))) = some r := H
                        have A21 := Aside0.mk A210
                        clear A210
                        replace H := Option.bind_eq_some_iff.mp H
                        obtain ⟨t255, A220, H⟩ := H
                        replace H : (if x5_2.length < 17592186044416 then (abacistref24_Rows.l1 k2 l0 (x5_2 ++ [t255]) t246 x7_1 t248 (wrap64 (x9_2 + 1)) a1_0 a1_1 a1_2 a1_3 a1_4) else (none)) = some r := H
                        have A22 := Aside0.mk A220
                        clear A220
                        by_cases c23 : x5_2.length < 17592186044416
                        · rw [if_pos c23] at H
                          have LMc23 := Aside0.mk c23
                          clear c23
                          obtain ⟨y256, hy256⟩ : ∃ y_ : List Int, y_ = (x5_2 ++ [t255]) := ⟨_, rfl⟩
                          replace H : (abacistref24_Rows.l1 k2 l0 y256 t246 x7_1 t248 (wrap64 (x9_2 + 1)) a1_0 a1_1 a1_2 a1_3 a1_4) = some r := by first | (rw [hy256]; with_reducible exact H) | (have H2_ := (Option.bind_some _ _).symm.trans H; rw [hy256]; with_reducible exact H2_) | (have H2_ := (Option.bind_some _ _).symm.trans H; with_reducible exact H2_) | with_reducible exact H | (rw [hy256]; exact H) | exact H
                          have Ny256 := Aside0.mk hy256
                          clear hy256
                          have H' := Aside0.mk H
                          clear H
                          obtain ⟨Ao24, co24, eo24⟩ := Kd.R_slice HO_8.out
                          subst eo24
                          try go_wp2
                          have n0_ := Aside0.mk (Kd.R_drew HO_5.out)
                          have n1_ := Aside0.mk (Kd.R_drew HO_8.out)
                          have n2_ := Aside0.mk (blk_drew BK245.out)
                          have n3_ := Aside0.mk (below_drew1 HB.out)
                          clear HO_5
                          clear HO_8
                          clear BK245
                          clear HB
                          have HO_5 := n0_
                          have HO_8 := n1_
                          have BK245 := n2_
                          have HB := n3_
                          clear n0_ n1_ n2_ n3_
                          have p251 : 0 ≤ (x9_2 : Int) := of_decide_eq_true (by first | (with_reducible assumption) | assumption)
                          have q251 : x9_2 < (t248.length : Int) := of_decide_eq_true (by first | (with_reducible assumption) | assumption)
                          obtain ⟨ad251, e251, hx251_0⟩ := Kd.at_int (Kd.R_reads' HO_8.out).2.2 x9_2 p251 q251
                          cases e251
                          replace p251 := eq_true p251
                          replace q251 := eq_true q251
                          refine start_ (n := 8) (S := fun w' => w'.cell? ⟨gb245, 0, none⟩ = some (.int .i64 a1_0) ∧ w'.cell? ⟨gb245, 1, none⟩ = some (.int .i64 a1_1) ∧ w'.cell? ⟨gb245, 2, none⟩ = some (.int .i64 a1_2) ∧ w'.cell? ⟨gb245, 3, none⟩ = some (.int .i64 a1_3) ∧ w'.cell? ⟨gb245, 4, none⟩ = some (.int .u64 a1_4) ∧ w'.cell? (ad251.add (x9_2).toNat) = some (.int .u64 (rd t248 x9_2))) (ds := []) #[false, false, false, false, false, false, false, false] (by kernel_rfl) rfl rfl ⟨(blk_cell BK245.out 0).trans rfl, (blk_cell BK245.out 1).trans rfl, (blk_cell BK245.out 2).trans rfl, (blk_cell BK245.out 3).trans rfl, (blk_cell BK245.out 4).trans rfl, hx251_0⟩ (fun hHeld => ?_); refine with_tabW abacistref24_Rows.tab10 abacistref24_Rows.bits10 (fun HT_ HW_ => ?_)
                          generalize wr.drew = w25 at HO_5 HO_8 BK245 HB hx251_0 hHeld ⊢
                          refine pure_ (i := 0) (N := some 45) (v := ?_) (a' := ?_) #[true, false, false, false, false, false, false, false] rfl rfl (any_of HT_.out (by kernel_rfl)) (fun _ _ _ h => h) (Or.inl ⟨by rfl, ?_⟩) ?_ ?_
                          rotate_left
                          · intro w'
                            go_simp
                            with_reducible rfl
                          rotate_left
                          · simp only [Act.put, List.setIfInBounds_toArray, List.set_cons_zero, List.set_cons_succ, i64_w, i32_w]
                            rfl
                          refine pure_ (i := 1) (N := some 46) (v := ?_) (a' := ?_) #[true, true, false, false, false, false, false, false] rfl rfl (any_of HT_.out (by kernel_rfl)) (fun _ _ _ h => h) (Or.inl ⟨by rfl, ?_⟩) ?_ ?_
                          rotate_left
                          · intro w'
                            go_simp
                            with_reducible rfl
                          rotate_left
                          · simp only [Act.put, List.setIfInBounds_toArray, List.set_cons_zero, List.set_cons_succ, i64_w, i32_w]
                            rfl
                          refine pure_ (i := 2) (N := some 47) (v := ?_) (a' := ?_) #[true, true, true, false, false, false, false, false] rfl rfl (any_of HT_.out (by kernel_rfl)) (fun _ _ _ h => h) (Or.inl ⟨by rfl, ?_⟩) ?_ ?_
                          rotate_left
                          · intro w'
                            go_simp
                            with_reducible rfl
                          rotate_left
                          · simp only [Act.put, List.setIfInBounds_toArray, List.set_cons_zero, List.set_cons_succ, i64_w, i32_w]
                            rfl
                          refine pure_ (i := 4) (N := some 49) (v := ?_) (a' := ?_) #[true, true, true, false, true, false, false, false] rfl rfl (any_of HT_.out (by kernel_rfl)) (fun _ _ _ h => h) (Or.inl ⟨by rfl, ?_⟩) ?_ ?_
                          rotate_left
                          · intro w'
                            go_simp
                            with_reducible rfl
                          rotate_left
                          · simp only [Act.put, List.setIfInBounds_toArray, List.set_cons_zero, List.set_cons_succ, i64_w, i32_w]
                            rfl
                          refine take_ (i := 3) (N := some 48) (v := ?_) (a' := ?_) #[true, true, true, true, true, false, false, false] rfl rfl (take_ofW HT_.out HW_.out (by kernel_rfl)) (fun _ _ _ h => h) (Or.inl ⟨by rfl, ?_⟩) hHeld ?_ ?_
                          rotate_left
                          · rintro w' ⟨s0, s1, s2, s3, s4, s5⟩
                            go_simp
                            with_reducible rfl
                          rotate_left
                          · simp only [Act.put, List.setIfInBounds_toArray, List.set_cons_zero, List.set_cons_succ, i64_w, i32_w]
                            rfl
                          refine take_ (i := 5) (N := some 50) (v := ?_) (a' := ?_) #[true, true, true, true, true, true, false, false] rfl rfl (take_ofW HT_.out HW_.out (by kernel_rfl)) (fun _ _ _ h => h) (Or.inl ⟨by rfl, ?_⟩) hHeld ?_ ?_
                          rotate_left
                          · rintro w' ⟨s0, s1, s2, s3, s4, s5⟩
                            go_simp
                            with_reducible rfl
                          rotate_left
                          · simp only [Act.put, List.setIfInBounds_toArray, List.set_cons_zero, List.set_cons_succ, i64_w, i32_w]
                            rfl
                          refine one_ (i := 6) (N := some 51) #[true, true, true, true, true, true, true, false] rfl rfl (one_of HT_.out (by kernel_rfl)) (by decide) (fun K hK => ?_)
                          refine goes_ Tryz.func47 (by kernel_rfl) rfl #[.int .u64 (rd t248 x9_2), .int .u64 a1_4] (by rfl) rfl rfl (by (try simp only [List.map_toArray, List.map_cons, List.map_nil]); first | done | rfl | (simp only [List.length_drop, List.length_take]; rfl)) ?_
                          with_reducible refine (abacistref02_Mul.calls k2 (rd t248 x9_2) a1_4 t252 _ A18.out).mono ?_
                          rintro e w' ⟨rfl, ⟨nd, rfl⟩⟩
                          refine ⟨_, rfl, ?_⟩
                          refine hK.out _ _ ⟨(blk_cell BK245.out 0).trans rfl, (blk_cell BK245.out 1).trans rfl, (blk_cell BK245.out 2).trans rfl, (blk_cell BK245.out 3).trans rfl, (blk_cell BK245.out 4).trans rfl, hHeld.2.2.2.2.2⟩ (fun hHeld => ?_)
                          clear hK K
                          refine norm_ (a' := ?_) ?_ ?_
                          rotate_left
                          · show Act.put _ (some 51) _ = _
                            simp only [Act.put, List.setIfInBounds_toArray, List.set_cons_zero, List.set_cons_succ, i64_w, i32_w]
                            rfl
                          refine pure_ (i := 7) (N := some 10) (v := ?_) (a' := ?_) #[true, true, true, true, true, true, true, true] rfl rfl (any_of HT_.out (by kernel_rfl)) (fun _ _ _ h => h) (Or.inl ⟨by rfl, ?_⟩) ?_ ?_
                          rotate_left
                          · intro w'
                            go_simp
                            with_reducible rfl
                          rotate_left
                          · simp only [Act.put, List.setIfInBounds_toArray, List.set_cons_zero, List.set_cons_succ, i64_w, i32_w]
                            rfl
                          refine done_ (done_of HT_.out (by kernel_rfl)) ?_
                          have hcz26_0 : w25.cell? ⟨gb245, 0, none⟩ = some (.int .i64 a1_0) := (blk_cell BK245.out 0).trans rfl
                          have hcz26_1 : w25.cell? ⟨gb245, 1, none⟩ = some (.int .i64 a1_1) := (blk_cell BK245.out 1).trans rfl
                          have hcz26_2 : w25.cell? ⟨gb245, 2, none⟩ = some (.int .i64 a1_2) := (blk_cell BK245.out 2).trans rfl
                          have hcz26_3 : w25.cell? ⟨gb245, 3, none⟩ = some (.int .i64 a1_3) := (blk_cell BK245.out 3).trans rfl
                          have hcz26_4 : w25.cell? ⟨gb245, 4, none⟩ = some (.int .u64 a1_4) := (blk_cell BK245.out 4).trans rfl
                          have hfz26_0 := blk_frozen BK245.out 0
                          have hfz26_1 := blk_frozen BK245.out 1
                          have hfz26_2 := blk_frozen BK245.out 2
                          have hfz26_3 := blk_frozen BK245.out 3
                          have hfz26_4 := blk_frozen BK245.out 4
                          try go_wp2_with (first | ((with_reducible refine gate_callee (f := 45) rfl ?_); refine goesL_ (some 60) rfl rfl Tryz.func45 (by kernel_rfl) rfl #[.int .i64 a1_3, .int .i64 a1_2] rfl (by (try simp only [List.map_toArray, List.map_cons, List.map_nil]); first | done | rfl | (simp only [List.length_drop, List.length_take]; rfl)) ?_; (with_reducible refine (abacistref08_Root.calls k2 a1_3 a1_2 t253 _ A20.out).mono ?_); rintro e w' ⟨rfl, ⟨nd, rfl⟩⟩; refine ⟨_, rfl, ?_⟩) | ((with_reducible refine gate_callee (f := 48) rfl ?_); refine goesL_ (some 65) rfl rfl Tryz.func48 (by kernel_rfl) rfl #[.int .u64 t253, .int .u64 (IntKind.u64.wrap (wrap64 (x7_1 * x9_2)))] rfl (by (try simp only [List.map_toArray, List.map_cons, List.map_nil]); first | done | rfl | (simp only [List.length_drop, List.length_take]; rfl)) ?_; (with_reducible refine (abacistref02_Pow.calls k2 t253 (IntKind.u64.wrap (wrap64 (x7_1 * x9_2))) t254 _ A21.out).mono ?_); rintro e w' ⟨rfl, ⟨nd, rfl⟩⟩; refine ⟨_, rfl, ?_⟩) | ((with_reducible refine gate_callee (f := 47) rfl ?_); refine goesL_ (some 66) rfl rfl Tryz.func47 (by kernel_rfl) rfl #[.int .u64 t252, .int .u64 t254] rfl (by (try simp only [List.map_toArray, List.map_cons, List.map_nil]); first | done | rfl | (simp only [List.length_drop, List.length_take]; rfl)) ?_; (with_reducible refine (abacistref02_Mul.calls k2 t252 t254 t255 _ A22.out).mono ?_); rintro e w' ⟨rfl, ⟨nd, rfl⟩⟩; refine ⟨_, rfl, ?_⟩) | ((with_reducible refine gate_builtin (b := .append) (xs := #[.tmp 67, .tmp 69]) rfl ?_); at_builtin; refine Kd.R_append (Kd.int .u64) (w0 := w) w.heap.size rfl (.tmp 67) (.tmp 69) 22 33 (.int .u64 0) 8 rfl Tryz.underlying22 info33 rfl (by decide) (by omega) u5 x5_2 t255 [.int .u64 t255] (fun k_ => some k_ ≠ (.slice (some ad251) t248.length co24 : Value).ownBlock) (fun _ => False) rfl rfl ?aP (fun _ hk => hk.elim) ?aF ?aO ?aB ?aS ?aL ?_; (case aP => exact rfl); (case aB => exact (by repeat (first | (with_reducible first | exact HB.out | apply below_alloc | apply pw_below_drewN | apply below_drew1 | refine below_set ?_ GE245.out) | exact HB.out))); (case aF => exact (fun k_ hk => Kd.fresh' (Kd.R_lt (by (with_reducible repeat (first | apply Kd.R_alloc | apply Kd.R_drewN | apply Kd.R_drew)); exact HO_8.out)) k_ hk)); (case aO => exact (by (with_reducible repeat (first | apply Kd.R_alloc | apply Kd.R_drewN | apply Kd.R_drew)); exact HO_5.out)); (case aS => exact (below_size (by repeat (first | (with_reducible first | exact HB.out | apply below_alloc | apply pw_below_drewN | apply below_drew1 | refine below_set ?_ GE245.out) | exact HB.out)))); (case aL => have := LMc23.out; omega); intro v257 w27 ho hb hg hat; rw [← Ny256.out] at ho; have n0_ := Aside0.mk (Kd.R_after (ok := (fun _ => True)) (by (with_reducible repeat (first | apply Kd.R_alloc | apply Kd.R_drewN | apply Kd.R_drew)); exact Kd.R_mono HO_8.out (fun _ hk => ⟨trivial, hk⟩)) hg hat); have n1_ := Aside0.mk (blk_grown (g := gb245) (o := .cells #[.int .i64 a1_0, .int .i64 a1_1, .int .i64 a1_2, .int .i64 a1_3, .int .u64 a1_4] 35 (0, 0)) (by (with_reducible repeat (first | refine blk_drewN ?_ _ | refine blk_drew ?_ | refine blk_alloc ?_ _)); exact BK245.out) hg (Kd.R_ne HO_5.out BK245.out (by decide))); have n2_ := Aside0.mk (hb); have n3_ := Aside0.mk (ho); clear HO_8; clear BK245; clear HB; clear HO_5; have HO_8 := n0_; have BK245 := n1_; have HB := n2_; have HO258 := n3_; clear n0_ n1_ n2_ n3_; clear ho hb hg hat))
                          go_roundg k2
                          case measure => have := HK1.out; have := HK2.out; omega
                          case rel => exact ⟨(y256), (wrap64 (x9_2 + 1)), (by first | rfl | (simp; done) | (simp [*]; done)), H', ⟨by have := HK1.out; have := HK2.out; omega⟩, ⟨by (with_reducible repeat (first | apply Kd.R_alloc | apply Kd.R_drewN | apply Kd.R_drew)); exact HO258.out⟩, ⟨by (with_reducible repeat (first | apply Kd.R_alloc | apply Kd.R_drewN | apply Kd.R_drew)); exact Kd.R_mono HO_8.out (fun _ hk => hk.2)⟩, ⟨by (with_reducible repeat (first | refine blk_drewN ?_ _ | refine blk_drew ?_ | refine blk_alloc ?_ _)); exact BK245.out⟩, ⟨by repeat (first | (with_reducible first | exact HB.out | apply below_alloc | apply pw_below_drewN | apply below_drew1 | refine below_set ?_ GE245.out) | exact HB.out)⟩⟩
                        · rw [if_neg c23] at H
                          exact absurd H (by simp)
                      · rw [if_neg c19] at H
                        have c19b0 : decide (0 ≤ a1_3) = false := decide_eq_false c19
                        clear c19
                        by_cases c28 : x5_2.length < 17592186044416
                        · rw [if_pos c28] at H
                          have LMc28 := Aside0.mk c28
                          clear c28
                          obtain ⟨y259, hy259⟩ : ∃ y_ : List Int, y_ = (x5_2 ++ [t252]) := ⟨_, rfl⟩
                          replace H : (abacistref24_Rows.l1 k2 l0 y259 t246 x7_1 t248 (wrap64 (x9_2 + 1)) a1_0 a1_1 a1_2 a1_3 a1_4) = some r := by first | (rw [hy259]; with_reducible exact H) | (have H2_ := (Option.bind_some _ _).symm.trans H; rw [hy259]; with_reducible exact H2_) | (have H2_ := (Option.bind_some _ _).symm.trans H; with_reducible exact H2_) | with_reducible exact H | (rw [hy259]; exact H) | exact H
                          have Ny259 := Aside0.mk hy259
                          clear hy259
                          have H' := Aside0.mk H
                          clear H
                          obtain ⟨Ao29, co29, eo29⟩ := Kd.R_slice HO_8.out
                          subst eo29
                          try go_wp2
                          have n0_ := Aside0.mk (Kd.R_drew HO_5.out)
                          have n1_ := Aside0.mk (Kd.R_drew HO_8.out)
                          have n2_ := Aside0.mk (blk_drew BK245.out)
                          have n3_ := Aside0.mk (below_drew1 HB.out)
                          clear HO_5
                          clear HO_8
                          clear BK245
                          clear HB
                          have HO_5 := n0_
                          have HO_8 := n1_
                          have BK245 := n2_
                          have HB := n3_
                          clear n0_ n1_ n2_ n3_
                          have p251 : 0 ≤ (x9_2 : Int) := of_decide_eq_true (by first | (with_reducible assumption) | assumption)
                          have q251 : x9_2 < (t248.length : Int) := of_decide_eq_true (by first | (with_reducible assumption) | assumption)
                          obtain ⟨ad251, e251, hx251_0⟩ := Kd.at_int (Kd.R_reads' HO_8.out).2.2 x9_2 p251 q251
                          cases e251
                          replace p251 := eq_true p251
                          replace q251 := eq_true q251
                          refine start_ (n := 8) (S := fun w' => w'.cell? ⟨gb245, 0, none⟩ = some (.int .i64 a1_0) ∧ w'.cell? ⟨gb245, 1, none⟩ = some (.int .i64 a1_1) ∧ w'.cell? ⟨gb245, 2, none⟩ = some (.int .i64 a1_2) ∧ w'.cell? ⟨gb245, 3, none⟩ = some (.int .i64 a1_3) ∧ w'.cell? ⟨gb245, 4, none⟩ = some (.int .u64 a1_4) ∧ w'.cell? (ad251.add (x9_2).toNat) = some (.int .u64 (rd t248 x9_2))) (ds := []) #[false, false, false, false, false, false, false, false] (by kernel_rfl) rfl rfl ⟨(blk_cell BK245.out 0).trans rfl, (blk_cell BK245.out 1).trans rfl, (blk_cell BK245.out 2).trans rfl, (blk_cell BK245.out 3).trans rfl, (blk_cell BK245.out 4).trans rfl, hx251_0⟩ (fun hHeld => ?_); refine with_tabW abacistref24_Rows.tab10 abacistref24_Rows.bits10 (fun HT_ HW_ => ?_)
                          generalize wr.drew = w30 at HO_5 HO_8 BK245 HB hx251_0 hHeld ⊢
                          refine pure_ (i := 0) (N := some 45) (v := ?_) (a' := ?_) #[true, false, false, false, false, false, false, false] rfl rfl (any_of HT_.out (by kernel_rfl)) (fun _ _ _ h => h) (Or.inl ⟨by rfl, ?_⟩) ?_ ?_
                          rotate_left
                          · intro w'
                            go_simp
                            with_reducible rfl
                          rotate_left
                          · simp only [Act.put, List.setIfInBounds_toArray, List.set_cons_zero, List.set_cons_succ, i64_w, i32_w]
                            rfl
                          refine pure_ (i := 1) (N := some 46) (v := ?_) (a' := ?_) #[true, true, false, false, false, false, false, false] rfl rfl (any_of HT_.out (by kernel_rfl)) (fun _ _ _ h => h) (Or.inl ⟨by rfl, ?_⟩) ?_ ?_
                          rotate_left
                          · intro w'
                            go_simp
                            with_reducible rfl
                          rotate_left
                          · simp only [Act.put, List.setIfInBounds_toArray, List.set_cons_zero, List.set_cons_succ, i64_w, i32_w]
                            rfl
                          refine pure_ (i := 2) (N := some 47) (v := ?_) (a' := ?_) #[true, true, true, false, false, false, false, false] rfl rfl (any_of HT_.out (by kernel_rfl)) (fun _ _ _ h => h) (Or.inl ⟨by rfl, ?_⟩) ?_ ?_
                          rotate_left
                          · intro w'
                            go_simp
                            with_reducible rfl
                          rotate_left
                          · simp only [Act.put, List.setIfInBounds_toArray, List.set_cons_zero, List.set_cons_succ, i64_w, i32_w]
                            rfl
                          refine pure_ (i := 4) (N := some 49) (v := ?_) (a' := ?_) #[true, true, true, false, true, false, false, false] rfl rfl (any_of HT_.out (by kernel_rfl)) (fun _ _ _ h => h) (Or.inl ⟨by rfl, ?_⟩) ?_ ?_
                          rotate_left
                          · intro w'
                            go_simp
                            with_reducible rfl
                          rotate_left
                          · simp only [Act.put, List.setIfInBounds_toArray, List.set_cons_zero, List.set_cons_succ, i64_w, i32_w]
                            rfl
                          refine take_ (i := 3) (N := some 48) (v := ?_) (a' := ?_) #[true, true, true, true, true, false, false, false] rfl rfl (take_ofW HT_.out HW_.out (by kernel_rfl)) (fun _ _ _ h => h) (Or.inl ⟨by rfl, ?_⟩) hHeld ?_ ?_
                          rotate_left
                          · rintro w' ⟨s0, s1, s2, s3, s4, s5⟩
                            go_simp
                            with_reducible rfl
                          rotate_left
                          · simp only [Act.put, List.setIfInBounds_toArray, List.set_cons_zero, List.set_cons_succ, i64_w, i32_w]
                            rfl
                          refine take_ (i := 5) (N := some 50) (v := ?_) (a' := ?_) #[true, true, true, true, true, true, false, false] rfl rfl (take_ofW HT_.out HW_.out (by kernel_rfl)) (fun _ _ _ h => h) (Or.inl ⟨by rfl, ?_⟩) hHeld ?_ ?_
                          rotate_left
                          · rintro w' ⟨s0, s1, s2, s3, s4, s5⟩
                            go_simp
                            with_reducible rfl
                          rotate_left
                          · simp only [Act.put, List.setIfInBounds_toArray, List.set_cons_zero, List.set_cons_succ, i64_w, i32_w]
                            rfl
                          refine one_ (i := 6) (N := some 51) #[true, true, true, true, true, true, true, false] rfl rfl (one_of HT_.out (by kernel_rfl)) (by decide) (fun K hK => ?_)
                          refine goes_ Tryz.func47 (by kernel_rfl) rfl #[.int .u64 (rd t248 x9_2), .int .u64 a1_4] (by rfl) rfl rfl (by (try simp only [List.map_toArray, List.map_cons, List.map_nil]); first | done | rfl | (simp only [List.length_drop, List.length_take]; rfl)) ?_
                          with_reducible refine (abacistref02_Mul.calls k2 (rd t248 x9_2) a1_4 t252 _ A18.out).mono ?_
                          rintro e w' ⟨rfl, ⟨nd, rfl⟩⟩
                          refine ⟨_, rfl, ?_⟩
                          refine hK.out _ _ ⟨(blk_cell BK245.out 0).trans rfl, (blk_cell BK245.out 1).trans rfl, (blk_cell BK245.out 2).trans rfl, (blk_cell BK245.out 3).trans rfl, (blk_cell BK245.out 4).trans rfl, hHeld.2.2.2.2.2⟩ (fun hHeld => ?_)
                          clear hK K
                          refine norm_ (a' := ?_) ?_ ?_
                          rotate_left
                          · show Act.put _ (some 51) _ = _
                            simp only [Act.put, List.setIfInBounds_toArray, List.set_cons_zero, List.set_cons_succ, i64_w, i32_w]
                            rfl
                          refine pure_ (i := 7) (N := some 10) (v := ?_) (a' := ?_) #[true, true, true, true, true, true, true, true] rfl rfl (any_of HT_.out (by kernel_rfl)) (fun _ _ _ h => h) (Or.inl ⟨by rfl, ?_⟩) ?_ ?_
                          rotate_left
                          · intro w'
                            go_simp
                            with_reducible rfl
                          rotate_left
                          · simp only [Act.put, List.setIfInBounds_toArray, List.set_cons_zero, List.set_cons_succ, i64_w, i32_w]
                            rfl
                          refine done_ (done_of HT_.out (by kernel_rfl)) ?_
                          have hcz31_0 : w30.cell? ⟨gb245, 0, none⟩ = some (.int .i64 a1_0) := (blk_cell BK245.out 0).trans rfl
                          have hcz31_1 : w30.cell? ⟨gb245, 1, none⟩ = some (.int .i64 a1_1) := (blk_cell BK245.out 1).trans rfl
                          have hcz31_2 : w30.cell? ⟨gb245, 2, none⟩ = some (.int .i64 a1_2) := (blk_cell BK245.out 2).trans rfl
                          have hcz31_3 : w30.cell? ⟨gb245, 3, none⟩ = some (.int .i64 a1_3) := (blk_cell BK245.out 3).trans rfl
                          have hcz31_4 : w30.cell? ⟨gb245, 4, none⟩ = some (.int .u64 a1_4) := (blk_cell BK245.out 4).trans rfl
                          have hfz31_0 := blk_frozen BK245.out 0
                          have hfz31_1 := blk_frozen BK245.out 1
                          have hfz31_2 := blk_frozen BK245.out 2
                          have hfz31_3 := blk_frozen BK245.out 3
                          have hfz31_4 := blk_frozen BK245.out 4
                          try go_wp2_with (first | ((with_reducible refine gate_builtin (b := .append) (xs := #[.tmp 67, .tmp 69]) rfl ?_); at_builtin; refine Kd.R_append (Kd.int .u64) (w0 := w) w.heap.size rfl (.tmp 67) (.tmp 69) 22 33 (.int .u64 0) 8 rfl Tryz.underlying22 info33 rfl (by decide) (by omega) u5 x5_2 t252 [.int .u64 t252] (fun k_ => some k_ ≠ (.slice (some ad251) t248.length co29 : Value).ownBlock) (fun _ => False) rfl rfl ?aP (fun _ hk => hk.elim) ?aF ?aO ?aB ?aS ?aL ?_; (case aP => exact rfl); (case aB => exact (by repeat (first | (with_reducible first | exact HB.out | apply below_alloc | apply pw_below_drewN | apply below_drew1 | refine below_set ?_ GE245.out) | exact HB.out))); (case aF => exact (fun k_ hk => Kd.fresh' (Kd.R_lt (by (with_reducible repeat (first | apply Kd.R_alloc | apply Kd.R_drewN | apply Kd.R_drew)); exact HO_8.out)) k_ hk)); (case aO => exact (by (with_reducible repeat (first | apply Kd.R_alloc | apply Kd.R_drewN | apply Kd.R_drew)); exact HO_5.out)); (case aS => exact (below_size (by repeat (first | (with_reducible first | exact HB.out | apply below_alloc | apply pw_below_drewN | apply below_drew1 | refine below_set ?_ GE245.out) | exact HB.out)))); (case aL => have := LMc28.out; omega); intro v260 w32 ho hb hg hat; rw [← Ny259.out] at ho; have n0_ := Aside0.mk (Kd.R_after (ok := (fun _ => True)) (by (with_reducible repeat (first | apply Kd.R_alloc | apply Kd.R_drewN | apply Kd.R_drew)); exact Kd.R_mono HO_8.out (fun _ hk => ⟨trivial, hk⟩)) hg hat); have n1_ := Aside0.mk (blk_grown (g := gb245) (o := .cells #[.int .i64 a1_0, .int .i64 a1_1, .int .i64 a1_2, .int .i64 a1_3, .int .u64 a1_4] 35 (0, 0)) (by (with_reducible repeat (first | refine blk_drewN ?_ _ | refine blk_drew ?_ | refine blk_alloc ?_ _)); exact BK245.out) hg (Kd.R_ne HO_5.out BK245.out (by decide))); have n2_ := Aside0.mk (hb); have n3_ := Aside0.mk (ho); clear HO_8; clear BK245; clear HB; clear HO_5; have HO_8 := n0_; have BK245 := n1_; have HB := n2_; have HO261 := n3_; clear n0_ n1_ n2_ n3_; clear ho hb hg hat))
                          go_roundg k2
                          case measure => have := HK1.out; have := HK2.out; omega
                          case rel => exact ⟨(y259), (wrap64 (x9_2 + 1)), (by first | rfl | (simp; done) | (simp [*]; done)), H', ⟨by have := HK1.out; have := HK2.out; omega⟩, ⟨by (with_reducible repeat (first | apply Kd.R_alloc | apply Kd.R_drewN | apply Kd.R_drew)); exact HO261.out⟩, ⟨by (with_reducible repeat (first | apply Kd.R_alloc | apply Kd.R_drewN | apply Kd.R_drew)); exact Kd.R_mono HO_8.out (fun _ hk => hk.2)⟩, ⟨by (with_reducible repeat (first | refine blk_drewN ?_ _ | refine blk_drew ?_ | refine blk_alloc ?_ _)); exact BK245.out⟩, ⟨by repeat (first | (with_reducible first | exact HB.out | apply below_alloc | apply pw_below_drewN | apply below_drew1 | refine below_set ?_ GE245.out) | exact HB.out)⟩⟩
                        · rw [if_neg c28] at H
                          exact absurd H (by simp)
                    · rw [if_neg c17] at H
                      exact absurd H (by simp)
                  · rw [if_neg c16] at H
                    have c16b0 : decide (x9_2 < (t248.length : Int)) = false := decide_eq_false c16
                    clear c16
                    have H' := Aside0.mk H
                    clear H
                    obtain ⟨Ao33, co33, eo33⟩ := Kd.R_slice HO_8.out
                    subst eo33
                    go_wp2
                    go_roundg k2
                    case measure => have := HK1.out; have := HK2.out; omega
                    case rel => exact ⟨(x5_2), (wrap64 (x7_1 + 1)), (by first | rfl | (simp; done) | (simp [*]; done)), H', ⟨by have := HK1.out; have := HK2.out; omega⟩, ⟨by (with_reducible repeat (first | apply Kd.R_alloc | apply Kd.R_drewN | apply Kd.R_drew)); exact Kd.R_mono HO_5.out (fun _ hk => trivial)⟩, ⟨by (with_reducible repeat (first | refine blk_drewN ?_ _ | refine blk_drew ?_ | refine blk_alloc ?_ _)); exact BK245.out⟩, ⟨by repeat (first | (with_reducible first | exact HB.out | apply below_alloc | apply pw_below_drewN | apply below_drew1 | refine below_set ?_ GE245.out) | exact HB.out)⟩⟩
            · rw [if_neg c10] at H
              exact absurd H (by simp)
          · rw [if_neg c9] at H
            exact absurd H (by simp)
        · rw [if_neg c8] at H
          exact absurd H (by simp)
      · rw [if_neg c6] at H
        have c6b0 : decide (x7_1 < a1_0) = false := decide_eq_false c6
        clear c6
        obtain rfl := Option.some.inj H
        have hcz34_0 : wr.cell? ⟨gb245, 0, none⟩ = some (.int .i64 a1_0) := (blk_cell BK245.out 0).trans rfl
        have hcz34_1 : wr.cell? ⟨gb245, 1, none⟩ = some (.int .i64 a1_1) := (blk_cell BK245.out 1).trans rfl
        have hcz34_2 : wr.cell? ⟨gb245, 2, none⟩ = some (.int .i64 a1_2) := (blk_cell BK245.out 2).trans rfl
        have hcz34_3 : wr.cell? ⟨gb245, 3, none⟩ = some (.int .i64 a1_3) := (blk_cell BK245.out 3).trans rfl
        have hcz34_4 : wr.cell? ⟨gb245, 4, none⟩ = some (.int .u64 a1_4) := (blk_cell BK245.out 4).trans rfl
        have hfz34_0 := blk_frozen BK245.out 0
        have hfz34_1 := blk_frozen BK245.out 1
        have hfz34_2 := blk_frozen BK245.out 2
        have hfz34_3 := blk_frozen BK245.out 3
        have hfz34_4 := blk_frozen BK245.out 4
        go_wp2
        go_ret
        exact ⟨_, by first | rfl | (simp [errW_none, errW_some] <;> rfl) | (simp [*, errW_none, errW_some] <;> rfl), by (with_reducible repeat (first | apply Kd.R_alloc | apply Kd.R_drewN | apply Kd.R_drew)); exact HO_5.out, by repeat (first | (with_reducible first | exact HB.out | apply below_alloc | apply pw_below_drewN | apply below_drew1 | refine below_set ?_ GE245.out) | exact HB.out)⟩
end Go.Proofs.YtpnkcjnemoompaaGreatDoor.PFft
end
section
namespace Go.Proofs.YtpnkcjnemoompaaGreatDoor.PFft
open Go.RowKit Go.Proofs.YtpnkcjnemoompaaGreatDoor.Ext Go.Proofs.YtpnkcjnemoompaaGreatDoor.PPlan Go.Proofs.YtpnkcjnemoompaaGreatDoorW.PrintWords Go.Proofs.YtpnkcjnemoompaaGreatDoorW.PrintLast Go.Proofs.YtpnkcjnemoompaaGreatDoorW.PrintMore
attribute [local go_sem] max2_int min2_int max_two min_two max_three min_three max_four min_four   -- for this text's walks alone
set_option linter.unusedVariables false
set_option linter.unusedSimpArgs false
mutual
def abacistref24_Apply.j0 : Nat → List Int → Bool → Int → Int → Int → Int → Int → Int → Int → Int → Option (List Int × Int)
  | 0, _, _, _, _, _, _, _, _, _, _ => none
  | k + 1, x0, x24, x263000, x263001, x263002, x263003, x263004, x263005, x263006, x263007 => if x24 = true then (some (([] : List Int), 19)) else (if x263005 = 1 then ((abacistref06_Transpose.f k x0 x263000 x263001).bind fun t264 => (some (t264, 0))) else (if x263005 = 2 then (if x263002 < 0 then (abacistref24_Apply.j1 k x0 true x263000 x263001 x263002 x263003 x263004 x263005 x263006 x263007) else (abacistref24_Apply.j1 k x0 (decide (x263002 > 1)) x263000 x263001 x263002 x263003 x263004 x263005 x263006 x263007)) else (abacistref24_Apply.j1 k x0 true x263000 x263001 x263002 x263003 x263004 x263005 x263006 x263007)))
def abacistref24_Apply.j1 : Nat → List Int → Bool → Int → Int → Int → Int → Int → Int → Int → Int → Option (List Int × Int)
  | 0, _, _, _, _, _, _, _, _, _, _ => none
  | k + 1, x0, x47, x263000, x263001, x263002, x263003, x263004, x263005, x263006, x263007 => if x47 = true then (some (([] : List Int), 18)) else (if x263003 < (-1) then (some (([] : List Int), 2)) else (if x263003 > 32 then (some (([] : List Int), 2)) else ((abacistref24_Rows.f k x0 x263000 x263001 x263002 x263003 x263004).bind fun t267 => (some (t267, 0)))))
end
def abacistref24_Apply.f (k : Nat) (l0 : List Int) (a1_0 : Int) (a1_1 : Int) (a1_2 : Int) (a1_3 : Int) (a1_4 : Int) (a1_5 : Int) (a1_6 : Int) (a1_7 : Int) : Option (List Int × Int) := (abacistref06_Good.f k a1_0 a1_1).bind fun t263 => (if t263 = true then (abacistref24_Apply.j0 k l0 ((wrap64 (a1_0 * a1_1)) != (l0.length : Int)) a1_0 a1_1 a1_2 a1_3 a1_4 a1_5 a1_6 a1_7) else (abacistref24_Apply.j0 k l0 true a1_0 a1_1 a1_2 a1_3 a1_4 a1_5 a1_6 a1_7))
set_option maxHeartbeats 8000000 in
set_option maxRecDepth 100000 in
theorem abacistref24_Apply.calls (k : Nat) (A0 : Option Addr) (c0 : Nat) (l0 : List Int) (a1_0 : Int) (a1_1 : Int) (a1_2 : Int) (a1_3 : Int) (a1_4 : Int) (a1_5 : Int) (a1_6 : Int) (a1_7 : Int) (r1 : List Int) (r2 : Int) (w : World) (hr0 : Kd.C (Kd.int .u64) w A0 l0.length l0) (hc0 : l0.length ≤ c0) (h : abacistref24_Apply.f k l0 a1_0 a1_1 a1_2 a1_3 a1_4 a1_5 a1_6 a1_7 = some (r1, r2)) :
    Calls Tryz.prog 12 #[.slice A0 l0.length c0, .agg #[.int .i64 a1_0, .int .i64 a1_1, .int .i64 a1_2, .int .i64 a1_3, .int .u64 a1_4, .int .i64 a1_5, .int .i64 a1_6, .int .i64 a1_7]] w fun e w' => ∃ v0_ : Value, e = .returned (.tuple #[v0_, .int .i64 r2]) ∧ Kd.R (Kd.int .u64) 33 w' w.heap.size (fun _ => True) v0_ r1 ∧ Below w.heap.size w w' := by
  have hu37 := Tryz.underlying37
  have hu32 := Tryz.underlying32
  have hu35 := Tryz.underlying35
  have HR0 := Aside0.mk hr0
  have HC0 := Aside0.mk hc0
  clear hr0 hc0
  have HB := Aside0.mk (Below.refl w.heap.size w)
  have H : ((abacistref06_Good.f k a1_0 a1_1).bind fun t263 => (if t263 = true then (abacistref24_Apply.j0 k l0 ((wrap64 (a1_0 * a1_1)) != (l0.length : Int)) a1_0 a1_1 a1_2 a1_3 a1_4 a1_5 a1_6 a1_7) else (abacistref24_Apply.j0 k l0 true a1_0 a1_1 a1_2 a1_3 a1_4 a1_5 a1_6 a1_7))) = some (r1, r2) := h
  clear h
  have HC3 := Aside0.mk H
  clear H
  go_enter Tryz.func12, Tryz.ntmps12
  go_upto_region 1 with (first | ((with_reducible refine gate_dst (N := 3) rfl ?_); (try (refine gate_guard (by rfl) ?_; dsimp only)); refine box_event ?hg (N := 3) ?hd (cs := #[.int .i64 a1_0, .int .i64 a1_1, .int .i64 a1_2, .int .i64 a1_3, .int .u64 a1_4, .int .i64 a1_5, .int .i64 a1_6, .int .i64 a1_7]) (t := 37) ?hr ?_; (case hd => rfl); (case hg => rfl); (case hr => first | (go_simp; done) | (go_simp; rfl)); intro gb262 hg w4 hbox hb; have n0_ := Aside0.mk (below_step (by repeat (first | (with_reducible first | exact HB.out | apply below_alloc | apply pw_below_drewN | apply below_drew1) | exact HB.out)) hb); have n1_ := Aside0.mk (hbox); have n2_ := Aside0.mk ((by rw [hg]; exact (below_size (by repeat (first | (with_reducible first | exact HB.out | apply below_alloc | apply pw_below_drewN | apply below_drew1) | exact HB.out))) : w.heap.size ≤ gb262)); have n3_ := Aside0.mk ((by rw [hg]; exact (below_size (by repeat (first | (with_reducible first | exact HB.out | apply below_alloc | apply pw_below_drewN | apply below_drew1) | exact HB.out))) : w.heap.size ≤ gb262)); clear HB; have HB := n0_; have BK262 := n1_; have GW262 := n2_; have GE262 := n3_; clear n0_ n1_ n2_ n3_; clear hb hbox hg))
  (try simp only [Act.put, List.setIfInBounds_toArray, List.set_cons_zero, List.set_cons_succ])
  go_cut [24] (fun v24 wc => ∃ (kq : Nat) (x24_2 : Bool), v24 = .bool x24_2 ∧ Aside0 (abacistref24_Apply.j0 kq l0 x24_2 a1_0 a1_1 a1_2 a1_3 a1_4 a1_5 a1_6 a1_7 = some (r1, r2)) ∧ Aside0 (kq ≤ k) ∧ Aside0 (wc.heap[gb262]? = some (.cells #[.int .i64 a1_0, .int .i64 a1_1, .int .i64 a1_2, .int .i64 a1_3, .int .u64 a1_4, .int .i64 a1_5, .int .i64 a1_6, .int .i64 a1_7] 37 (0, 0))) ∧ Aside0 (Below w.heap.size w wc))
  case first =>
    have H := HC3.out
    clear HC3
    replace H := Option.bind_eq_some_iff.mp H
    obtain ⟨t263, A50, H⟩ := H
    replace H : (if t263 = true then (abacistref24_Apply.j0 k l0 ((wrap64 (a1_0 * a1_1)) != (l0.length : Int)) a1_0 a1_1 a1_2 a1_3 a1_4 a1_5 a1_6 a1_7) else (abacistref24_Apply.j0 k l0 true a1_0 a1_1 a1_2 a1_3 a1_4 a1_5 a1_6 a1_7)) = some (r1, r2) := H
    have A5 := Aside0.mk A50
    clear A50
    by_cases c6 : t263 = true
    · subst c6
      have H1 : (abacistref24_Apply.j0 k l0 ((wrap64 (a1_0 * a1_1)) != (l0.length : Int)) a1_0 a1_1 a1_2 a1_3 a1_4 a1_5 a1_6 a1_7) = some (r1, r2) := by rw [if_pos rfl] at H; exact H
      clear H
      have H := H1
      clear H1
      have H' := Aside0.mk H
      clear H
      have hcz7_0 : w4.cell? ⟨gb262, 0, none⟩ = some (.int .i64 a1_0) := (blk_cell BK262.out 0).trans rfl
      have hcz7_1 : w4.cell? ⟨gb262, 1, none⟩ = some (.int .i64 a1_1) := (blk_cell BK262.out 1).trans rfl
      have hcz7_2 : w4.cell? ⟨gb262, 2, none⟩ = some (.int .i64 a1_2) := (blk_cell BK262.out 2).trans rfl
      have hcz7_3 : w4.cell? ⟨gb262, 3, none⟩ = some (.int .i64 a1_3) := (blk_cell BK262.out 3).trans rfl
      have hcz7_4 : w4.cell? ⟨gb262, 4, none⟩ = some (.int .u64 a1_4) := (blk_cell BK262.out 4).trans rfl
      have hcz7_5 : w4.cell? ⟨gb262, 5, none⟩ = some (.int .i64 a1_5) := (blk_cell BK262.out 5).trans rfl
      have hcz7_6 : w4.cell? ⟨gb262, 6, none⟩ = some (.int .i64 a1_6) := (blk_cell BK262.out 6).trans rfl
      have hcz7_7 : w4.cell? ⟨gb262, 7, none⟩ = some (.int .i64 a1_7) := (blk_cell BK262.out 7).trans rfl
      have hfz7_0 := blk_frozen BK262.out 0
      have hfz7_1 := blk_frozen BK262.out 1
      have hfz7_2 := blk_frozen BK262.out 2
      have hfz7_3 := blk_frozen BK262.out 3
      have hfz7_4 := blk_frozen BK262.out 4
      have hfz7_5 := blk_frozen BK262.out 5
      have hfz7_6 := blk_frozen BK262.out 6
      have hfz7_7 := blk_frozen BK262.out 7
      go_wp2_with (first | ((with_reducible refine gate_callee (f := 28) rfl ?_); refine goesL_ (some 9) rfl rfl Tryz.func28 (by kernel_rfl) rfl #[.agg #[.int .i64 a1_0, .int .i64 a1_1]] rfl (by (try simp only [List.map_toArray, List.map_cons, List.map_nil]); first | done | rfl | (simp only [List.length_drop, List.length_take]; rfl)) ?_; (with_reducible refine (abacistref06_Good.calls k a1_0 a1_1 true _ A5.out).mono ?_); rintro e w8 ⟨rfl, hb⟩; refine ⟨_, rfl, ?_⟩; have n0_ := Aside0.mk (blk_below (g := gb262) (o := .cells #[.int .i64 a1_0, .int .i64 a1_1, .int .i64 a1_2, .int .i64 a1_3, .int .u64 a1_4, .int .i64 a1_5, .int .i64 a1_6, .int .i64 a1_7] 37 (0, 0)) (by (with_reducible repeat (first | refine blk_drewN ?_ _ | refine blk_drew ?_ | refine blk_alloc ?_ _)); exact BK262.out) hb); have n1_ := Aside0.mk (below_step (by repeat (first | (with_reducible first | exact HB.out | apply below_alloc | apply pw_below_drewN | apply below_drew1 | refine below_set ?_ GE262.out) | exact HB.out)) hb); clear BK262; clear HB; have BK262 := n0_; have HB := n1_; clear n0_ n1_; (try clear hb); (try clear hb2); (try clear hk); (try clear hi); have hcz9_0 : w8.cell? ⟨gb262, 0, none⟩ = some (.int .i64 a1_0) := (blk_cell BK262.out 0).trans rfl; have hcz9_1 : w8.cell? ⟨gb262, 1, none⟩ = some (.int .i64 a1_1) := (blk_cell BK262.out 1).trans rfl; have hcz9_2 : w8.cell? ⟨gb262, 2, none⟩ = some (.int .i64 a1_2) := (blk_cell BK262.out 2).trans rfl; have hcz9_3 : w8.cell? ⟨gb262, 3, none⟩ = some (.int .i64 a1_3) := (blk_cell BK262.out 3).trans rfl; have hcz9_4 : w8.cell? ⟨gb262, 4, none⟩ = some (.int .u64 a1_4) := (blk_cell BK262.out 4).trans rfl; have hcz9_5 : w8.cell? ⟨gb262, 5, none⟩ = some (.int .i64 a1_5) := (blk_cell BK262.out 5).trans rfl; have hcz9_6 : w8.cell? ⟨gb262, 6, none⟩ = some (.int .i64 a1_6) := (blk_cell BK262.out 6).trans rfl; have hcz9_7 : w8.cell? ⟨gb262, 7, none⟩ = some (.int .i64 a1_7) := (blk_cell BK262.out 7).trans rfl; have hfz9_0 := blk_frozen BK262.out 0; have hfz9_1 := blk_frozen BK262.out 1; have hfz9_2 := blk_frozen BK262.out 2; have hfz9_3 := blk_frozen BK262.out 3; have hfz9_4 := blk_frozen BK262.out 4; have hfz9_5 := blk_frozen BK262.out 5; have hfz9_6 := blk_frozen BK262.out 6; have hfz9_7 := blk_frozen BK262.out 7))
      go_meet
      case rel => exact ⟨_, (((wrap64 (a1_0 * a1_1)) != (l0.length : Int))), (by first | rfl | (simp; done) | (simp [*]; done)), H', ⟨by first | omega | exact Nat.le_refl _⟩, ⟨by (with_reducible repeat (first | refine blk_drewN ?_ _ | refine blk_drew ?_ | refine blk_alloc ?_ _)); exact BK262.out⟩, ⟨by repeat (first | (with_reducible first | exact HB.out | apply below_alloc | apply pw_below_drewN | apply below_drew1 | refine below_set ?_ GE262.out) | exact HB.out)⟩⟩
    · replace c6 := Bool.eq_false_iff.mpr c6
      subst c6
      have H1 : (abacistref24_Apply.j0 k l0 true a1_0 a1_1 a1_2 a1_3 a1_4 a1_5 a1_6 a1_7) = some (r1, r2) := by rw [if_neg (show ¬ (false = true) by decide)] at H; exact H
      clear H
      have H := H1
      clear H1
      have H' := Aside0.mk H
      clear H
      have hcz10_0 : w4.cell? ⟨gb262, 0, none⟩ = some (.int .i64 a1_0) := (blk_cell BK262.out 0).trans rfl
      have hcz10_1 : w4.cell? ⟨gb262, 1, none⟩ = some (.int .i64 a1_1) := (blk_cell BK262.out 1).trans rfl
      have hcz10_2 : w4.cell? ⟨gb262, 2, none⟩ = some (.int .i64 a1_2) := (blk_cell BK262.out 2).trans rfl
      have hcz10_3 : w4.cell? ⟨gb262, 3, none⟩ = some (.int .i64 a1_3) := (blk_cell BK262.out 3).trans rfl
      have hcz10_4 : w4.cell? ⟨gb262, 4, none⟩ = some (.int .u64 a1_4) := (blk_cell BK262.out 4).trans rfl
      have hcz10_5 : w4.cell? ⟨gb262, 5, none⟩ = some (.int .i64 a1_5) := (blk_cell BK262.out 5).trans rfl
      have hcz10_6 : w4.cell? ⟨gb262, 6, none⟩ = some (.int .i64 a1_6) := (blk_cell BK262.out 6).trans rfl
      have hcz10_7 : w4.cell? ⟨gb262, 7, none⟩ = some (.int .i64 a1_7) := (blk_cell BK262.out 7).trans rfl
      have hfz10_0 := blk_frozen BK262.out 0
      have hfz10_1 := blk_frozen BK262.out 1
      have hfz10_2 := blk_frozen BK262.out 2
      have hfz10_3 := blk_frozen BK262.out 3
      have hfz10_4 := blk_frozen BK262.out 4
      have hfz10_5 := blk_frozen BK262.out 5
      have hfz10_6 := blk_frozen BK262.out 6
      have hfz10_7 := blk_frozen BK262.out 7
      go_wp2_with (first | ((with_reducible refine gate_callee (f := 28) rfl ?_); refine goesL_ (some 9) rfl rfl Tryz.func28 (by kernel_rfl) rfl #[.agg #[.int .i64 a1_0, .int .i64 a1_1]] rfl (by (try simp only [List.map_toArray, List.map_cons, List.map_nil]); first | done | rfl | (simp only [List.length_drop, List.length_take]; rfl)) ?_; (with_reducible refine (abacistref06_Good.calls k a1_0 a1_1 false _ A5.out).mono ?_); rintro e w11 ⟨rfl, hb⟩; refine ⟨_, rfl, ?_⟩; have n0_ := Aside0.mk (blk_below (g := gb262) (o := .cells #[.int .i64 a1_0, .int .i64 a1_1, .int .i64 a1_2, .int .i64 a1_3, .int .u64 a1_4, .int .i64 a1_5, .int .i64 a1_6, .int .i64 a1_7] 37 (0, 0)) (by (with_reducible repeat (first | refine blk_drewN ?_ _ | refine blk_drew ?_ | refine blk_alloc ?_ _)); exact BK262.out) hb); have n1_ := Aside0.mk (below_step (by repeat (first | (with_reducible first | exact HB.out | apply below_alloc | apply pw_below_drewN | apply below_drew1 | refine below_set ?_ GE262.out) | exact HB.out)) hb); clear BK262; clear HB; have BK262 := n0_; have HB := n1_; clear n0_ n1_; (try clear hb); (try clear hb2); (try clear hk); (try clear hi)))
      go_meet
      case rel => exact ⟨_, (true), (by first | rfl | (simp; done) | (simp [*]; done)), H', ⟨by first | omega | exact Nat.le_refl _⟩, ⟨by (with_reducible repeat (first | refine blk_drewN ?_ _ | refine blk_drew ?_ | refine blk_alloc ?_ _)); exact BK262.out⟩, ⟨by repeat (first | (with_reducible first | exact HB.out | apply below_alloc | apply pw_below_drewN | apply below_drew1 | refine below_set ?_ GE262.out) | exact HB.out)⟩⟩
  case rest =>
    clear HC3
    try clear c1
    try clear c2
    try clear p2
    try clear c6
    try clear p6
    try clear hcz10_0
    try clear hcz10_1
    try clear hcz10_2
    try clear hcz10_3
    try clear hcz10_4
    try clear hcz10_5
    try clear hcz10_6
    try clear hcz10_7
    try clear hcz7_0
    try clear hcz7_1
    try clear hcz7_2
    try clear hcz7_3
    try clear hcz7_4
    try clear hcz7_5
    try clear hcz7_6
    try clear hcz7_7
    try clear hcz9_0
    try clear hcz9_1
    try clear hcz9_2
    try clear hcz9_3
    try clear hcz9_4
    try clear hcz9_5
    try clear hcz9_6
    try clear hcz9_7
    try clear hfz10_0
    try clear hfz10_1
    try clear hfz10_2
    try clear hfz10_3
    try clear hfz10_4
    try clear hfz10_5
    try clear hfz10_6
    try clear hfz10_7
    try clear hfz7_0
    try clear hfz7_1
    try clear hfz7_2
    try clear hfz7_3
    try clear hfz7_4
    try clear hfz7_5
    try clear hfz7_6
    try clear hfz7_7
    try clear hfz9_0
    try clear hfz9_1
    try clear hfz9_2
    try clear hfz9_3
    try clear hfz9_4
    try clear hfz9_5
    try clear hfz9_6
    try clear hfz9_7
    obtain ⟨kq, x24_2, rfl, HA, HJ2, BK262, HB⟩ := hcut
    cases kq with
    | zero => exact absurd HA.out (by simp [abacistref24_Apply.j0])
    | succ kj2 =>
      have H := HA.out
      clear HA
      simp only [abacistref24_Apply.j0] at H
      by_cases c12 : x24_2 = true
      · subst c12
        have H1 : (some (([] : List Int), 19)) = some (r1, r2) := by rw [if_pos rfl] at H; exact H
        clear H
        have H := H1
        clear H1
        simp only [Option.some.injEq, Prod.mk.injEq] at H
        obtain ⟨rfl, rfl⟩ := H
        go_wp2
        go_ret2
        exact ⟨_, by first | rfl | (simp [errW_none, errW_some] <;> rfl) | (simp [*, errW_none, errW_some] <;> rfl), by first | exact Kd.R_nil _ _ _ _ _ | exact Kd.N_nil _ _ _ _ _ | exact Kd.V_nil _ _ _ _ _ | exact Kd.Q_nil _ _ _ _ _ | exact Kd.S_nil _ _ _ _ _, by repeat (first | (with_reducible first | exact HB.out | apply below_alloc | apply pw_below_drewN | apply below_drew1 | refine below_set ?_ GE262.out) | exact HB.out)⟩
      · replace c12 := Bool.eq_false_iff.mpr c12
        subst c12
        have H1 : (if a1_5 = 1 then ((abacistref06_Transpose.f kj2 l0 a1_0 a1_1).bind fun t264 => (some (t264, 0))) else (if a1_5 = 2 then (if a1_2 < 0 then (abacistref24_Apply.j1 kj2 l0 true a1_0 a1_1 a1_2 a1_3 a1_4 a1_5 a1_6 a1_7) else (abacistref24_Apply.j1 kj2 l0 (decide (a1_2 > 1)) a1_0 a1_1 a1_2 a1_3 a1_4 a1_5 a1_6 a1_7)) else (abacistref24_Apply.j1 kj2 l0 true a1_0 a1_1 a1_2 a1_3 a1_4 a1_5 a1_6 a1_7))) = some (r1, r2) := by rw [if_neg (show ¬ (false = true) by decide)] at H; exact H
        clear H
        have H := H1
        clear H1
        by_cases c13 : a1_5 = 1
        · rw [if_pos c13] at H
          have c13b0 : (a1_5 == 1) = true := beq_iff_eq.mpr c13
          have c13b1 : (a1_5 != 1) = false := bne_eq_false_iff_eq.mpr c13
          clear c13
          replace H := Option.bind_eq_some_iff.mp H
          obtain ⟨t264, A140, H⟩ := H
          replace H : (some (t264, 0)) = some (r1, r2) := H
          have A14 := Aside0.mk A140
          clear A140
          simp only [Option.some.injEq, Prod.mk.injEq] at H
          obtain ⟨rfl, rfl⟩ := H
          have hcz15_0 : wc.cell? ⟨gb262, 0, none⟩ = some (.int .i64 a1_0) := (blk_cell BK262.out 0).trans rfl
          have hcz15_1 : wc.cell? ⟨gb262, 1, none⟩ = some (.int .i64 a1_1) := (blk_cell BK262.out 1).trans rfl
          have hcz15_2 : wc.cell? ⟨gb262, 2, none⟩ = some (.int .i64 a1_2) := (blk_cell BK262.out 2).trans rfl
          have hcz15_3 : wc.cell? ⟨gb262, 3, none⟩ = some (.int .i64 a1_3) := (blk_cell BK262.out 3).trans rfl
          have hcz15_4 : wc.cell? ⟨gb262, 4, none⟩ = some (.int .u64 a1_4) := (blk_cell BK262.out 4).trans rfl
          have hcz15_5 : wc.cell? ⟨gb262, 5, none⟩ = some (.int .i64 a1_5) := (blk_cell BK262.out 5).trans rfl
          have hcz15_6 : wc.cell? ⟨gb262, 6, none⟩ = some (.int .i64 a1_6) := (blk_cell BK262.out 6).trans rfl
          have hcz15_7 : wc.cell? ⟨gb262, 7, none⟩ = some (.int .i64 a1_7) := (blk_cell BK262.out 7).trans rfl
          have hfz15_0 := blk_frozen BK262.out 0
          have hfz15_1 := blk_frozen BK262.out 1
          have hfz15_2 := blk_frozen BK262.out 2
          have hfz15_3 := blk_frozen BK262.out 3
          have hfz15_4 := blk_frozen BK262.out 4
          have hfz15_5 := blk_frozen BK262.out 5
          have hfz15_6 := blk_frozen BK262.out 6
          have hfz15_7 := blk_frozen BK262.out 7
          go_wp2_with (first | ((with_reducible refine gate_callee (f := 29) rfl ?_); refine goesL_ (some 32) rfl rfl Tryz.func29 (by kernel_rfl) rfl #[.slice A0 l0.length c0, .agg #[.int .i64 a1_0, .int .i64 a1_1]] rfl (by (try simp only [List.map_toArray, List.map_cons, List.map_nil]); first | done | rfl | (simp only [List.length_drop, List.length_take]; rfl)) ?_; (with_reducible refine (abacistref06_Transpose.calls kj2 _ _ l0 a1_0 a1_1 t264 _ ?side1 ?side2 A14.out).mono ?_); (case side1 => repeat (first | exact (Kd.C_below HR0.out HB.out) | (with_reducible refine Kd.C_alloc ?_ _) | (with_reducible refine Kd.C_drewN ?_ _) | (with_reducible refine Kd.C_drew ?_))); (case side2 => exact HC0.out); rintro e w16 ⟨v265, rfl, ho0, hb⟩; refine ⟨_, rfl, ?_⟩; have n0_ := Aside0.mk (Kd.R_lower ho0 (below_size (by repeat (first | (with_reducible first | exact HB.out | apply below_alloc | apply pw_below_drewN | apply below_drew1 | refine below_set ?_ GE262.out) | exact HB.out)))); have n1_ := Aside0.mk (blk_below (g := gb262) (o := .cells #[.int .i64 a1_0, .int .i64 a1_1, .int .i64 a1_2, .int .i64 a1_3, .int .u64 a1_4, .int .i64 a1_5, .int .i64 a1_6, .int .i64 a1_7] 37 (0, 0)) (by (with_reducible repeat (first | refine blk_drewN ?_ _ | refine blk_drew ?_ | refine blk_alloc ?_ _)); exact BK262.out) hb); have n2_ := Aside0.mk (below_step (by repeat (first | (with_reducible first | exact HB.out | apply below_alloc | apply pw_below_drewN | apply below_drew1 | refine below_set ?_ GE262.out) | exact HB.out)) hb); clear BK262; clear HB; have HO266 := n0_; have BK262 := n1_; have HB := n2_; clear n0_ n1_ n2_; (try clear hb); (try clear hb2); (try clear hk); (try clear hi); (try clear ho0)))
          go_ret2
          exact ⟨_, by first | rfl | (simp [errW_none, errW_some] <;> rfl) | (simp [*, errW_none, errW_some] <;> rfl), by (with_reducible repeat (first | apply Kd.R_alloc | apply Kd.R_drewN | apply Kd.R_drew)); exact HO266.out, by repeat (first | (with_reducible first | exact HB.out | apply below_alloc | apply pw_below_drewN | apply below_drew1 | refine below_set ?_ GE262.out) | exact HB.out)⟩
        · rw [if_neg c13] at H
          have c13b0 : (a1_5 == 1) = false := beq_eq_false_iff_ne.mpr c13
          have c13b1 : (a1_5 != 1) = true := bne_iff_ne.mpr c13
          have HC17 := Aside0.mk H
          clear H
          have hcz18_0 : wc.cell? ⟨gb262, 0, none⟩ = some (.int .i64 a1_0) := (blk_cell BK262.out 0).trans rfl
          have hcz18_1 : wc.cell? ⟨gb262, 1, none⟩ = some (.int .i64 a1_1) := (blk_cell BK262.out 1).trans rfl
          have hcz18_2 : wc.cell? ⟨gb262, 2, none⟩ = some (.int .i64 a1_2) := (blk_cell BK262.out 2).trans rfl
          have hcz18_3 : wc.cell? ⟨gb262, 3, none⟩ = some (.int .i64 a1_3) := (blk_cell BK262.out 3).trans rfl
          have hcz18_4 : wc.cell? ⟨gb262, 4, none⟩ = some (.int .u64 a1_4) := (blk_cell BK262.out 4).trans rfl
          have hcz18_5 : wc.cell? ⟨gb262, 5, none⟩ = some (.int .i64 a1_5) := (blk_cell BK262.out 5).trans rfl
          have hcz18_6 : wc.cell? ⟨gb262, 6, none⟩ = some (.int .i64 a1_6) := (blk_cell BK262.out 6).trans rfl
          have hcz18_7 : wc.cell? ⟨gb262, 7, none⟩ = some (.int .i64 a1_7) := (blk_cell BK262.out 7).trans rfl
          have hfz18_0 := blk_frozen BK262.out 0
          have hfz18_1 := blk_frozen BK262.out 1
          have hfz18_2 := blk_frozen BK262.out 2
          have hfz18_3 := blk_frozen BK262.out 3
          have hfz18_4 := blk_frozen BK262.out 4
          have hfz18_5 := blk_frozen BK262.out 5
          have hfz18_6 := blk_frozen BK262.out 6
          have hfz18_7 := blk_frozen BK262.out 7
          go_upto_region 5 with (fail)
          go_cut [47] (fun v47 wc => ∃ (kq : Nat) (x47_16 : Bool), v47 = .bool x47_16 ∧ Aside0 (abacistref24_Apply.j1 kq l0 x47_16 a1_0 a1_1 a1_2 a1_3 a1_4 a1_5 a1_6 a1_7 = some (r1, r2)) ∧ Aside0 (kq ≤ kj2) ∧ Aside0 (wc.heap[gb262]? = some (.cells #[.int .i64 a1_0, .int .i64 a1_1, .int .i64 a1_2, .int .i64 a1_3, .int .u64 a1_4, .int .i64 a1_5, .int .i64 a1_6, .int .i64 a1_7] 37 (0, 0))) ∧ Aside0 (Below w.heap.size w wc))
          case first =>
            have H := HC17.out
            clear HC17
            by_cases c19 : a1_5 = 2
            · rw [if_pos c19] at H
              have c19b0 : (a1_5 == 2) = true := beq_iff_eq.mpr c19
              have c19b1 : (a1_5 != 2) = false := bne_eq_false_iff_eq.mpr c19
              clear c19
              (first | rw [c19b0] | (simp only [i64_w, i32_w]; rw [c19b0]) | skip)
              by_cases c20 : a1_2 < 0
              · rw [if_pos c20] at H
                have c20b0 : decide (a1_2 < 0) = true := decide_eq_true c20
                clear c20
                have H' := Aside0.mk H
                clear H
                have hcz21_0 : wc.cell? ⟨gb262, 0, none⟩ = some (.int .i64 a1_0) := (blk_cell BK262.out 0).trans rfl
                have hcz21_1 : wc.cell? ⟨gb262, 1, none⟩ = some (.int .i64 a1_1) := (blk_cell BK262.out 1).trans rfl
                have hcz21_2 : wc.cell? ⟨gb262, 2, none⟩ = some (.int .i64 a1_2) := (blk_cell BK262.out 2).trans rfl
                have hcz21_3 : wc.cell? ⟨gb262, 3, none⟩ = some (.int .i64 a1_3) := (blk_cell BK262.out 3).trans rfl
                have hcz21_4 : wc.cell? ⟨gb262, 4, none⟩ = some (.int .u64 a1_4) := (blk_cell BK262.out 4).trans rfl
                have hcz21_5 : wc.cell? ⟨gb262, 5, none⟩ = some (.int .i64 a1_5) := (blk_cell BK262.out 5).trans rfl
                have hcz21_6 : wc.cell? ⟨gb262, 6, none⟩ = some (.int .i64 a1_6) := (blk_cell BK262.out 6).trans rfl
                have hcz21_7 : wc.cell? ⟨gb262, 7, none⟩ = some (.int .i64 a1_7) := (blk_cell BK262.out 7).trans rfl
                have hfz21_0 := blk_frozen BK262.out 0
                have hfz21_1 := blk_frozen BK262.out 1
                have hfz21_2 := blk_frozen BK262.out 2
                have hfz21_3 := blk_frozen BK262.out 3
                have hfz21_4 := blk_frozen BK262.out 4
                have hfz21_5 := blk_frozen BK262.out 5
                have hfz21_6 := blk_frozen BK262.out 6
                have hfz21_7 := blk_frozen BK262.out 7
                go_wp2
                go_meet
                case rel => exact ⟨_, (true), (by first | rfl | (simp; done) | (simp [*]; done)), H', ⟨by have := HJ2.out; first | omega | exact Nat.le_refl _⟩, ⟨by (with_reducible repeat (first | refine blk_drewN ?_ _ | refine blk_drew ?_ | refine blk_alloc ?_ _)); exact BK262.out⟩, ⟨by repeat (first | (with_reducible first | exact HB.out | apply below_alloc | apply pw_below_drewN | apply below_drew1 | refine below_set ?_ GE262.out) | exact HB.out)⟩⟩
              · rw [if_neg c20] at H
                have c20b0 : decide (a1_2 < 0) = false := decide_eq_false c20
                clear c20
                have H' := Aside0.mk H
                clear H
                have hcz22_0 : wc.cell? ⟨gb262, 0, none⟩ = some (.int .i64 a1_0) := (blk_cell BK262.out 0).trans rfl
                have hcz22_1 : wc.cell? ⟨gb262, 1, none⟩ = some (.int .i64 a1_1) := (blk_cell BK262.out 1).trans rfl
                have hcz22_2 : wc.cell? ⟨gb262, 2, none⟩ = some (.int .i64 a1_2) := (blk_cell BK262.out 2).trans rfl
                have hcz22_3 : wc.cell? ⟨gb262, 3, none⟩ = some (.int .i64 a1_3) := (blk_cell BK262.out 3).trans rfl
                have hcz22_4 : wc.cell? ⟨gb262, 4, none⟩ = some (.int .u64 a1_4) := (blk_cell BK262.out 4).trans rfl
                have hcz22_5 : wc.cell? ⟨gb262, 5, none⟩ = some (.int .i64 a1_5) := (blk_cell BK262.out 5).trans rfl
                have hcz22_6 : wc.cell? ⟨gb262, 6, none⟩ = some (.int .i64 a1_6) := (blk_cell BK262.out 6).trans rfl
                have hcz22_7 : wc.cell? ⟨gb262, 7, none⟩ = some (.int .i64 a1_7) := (blk_cell BK262.out 7).trans rfl
                have hfz22_0 := blk_frozen BK262.out 0
                have hfz22_1 := blk_frozen BK262.out 1
                have hfz22_2 := blk_frozen BK262.out 2
                have hfz22_3 := blk_frozen BK262.out 3
                have hfz22_4 := blk_frozen BK262.out 4
                have hfz22_5 := blk_frozen BK262.out 5
                have hfz22_6 := blk_frozen BK262.out 6
                have hfz22_7 := blk_frozen BK262.out 7
                go_wp2
                go_meet
                case rel => exact ⟨_, (decide (a1_2 > 1)), (by first | rfl | (simp; done) | (simp [*]; done)), H', ⟨by have := HJ2.out; first | omega | exact Nat.le_refl _⟩, ⟨by (with_reducible repeat (first | refine blk_drewN ?_ _ | refine blk_drew ?_ | refine blk_alloc ?_ _)); exact BK262.out⟩, ⟨by repeat (first | (with_reducible first | exact HB.out | apply below_alloc | apply pw_below_drewN | apply below_drew1 | refine below_set ?_ GE262.out) | exact HB.out)⟩⟩
            · rw [if_neg c19] at H
              have c19b0 : (a1_5 == 2) = false := beq_eq_false_iff_ne.mpr c19
              have c19b1 : (a1_5 != 2) = true := bne_iff_ne.mpr c19
              (first | rw [c19b0] | (simp only [i64_w, i32_w]; rw [c19b0]) | skip)
              have H' := Aside0.mk H
              clear H
              have hcz23_0 : wc.cell? ⟨gb262, 0, none⟩ = some (.int .i64 a1_0) := (blk_cell BK262.out 0).trans rfl
              have hcz23_1 : wc.cell? ⟨gb262, 1, none⟩ = some (.int .i64 a1_1) := (blk_cell BK262.out 1).trans rfl
              have hcz23_2 : wc.cell? ⟨gb262, 2, none⟩ = some (.int .i64 a1_2) := (blk_cell BK262.out 2).trans rfl
              have hcz23_3 : wc.cell? ⟨gb262, 3, none⟩ = some (.int .i64 a1_3) := (blk_cell BK262.out 3).trans rfl
              have hcz23_4 : wc.cell? ⟨gb262, 4, none⟩ = some (.int .u64 a1_4) := (blk_cell BK262.out 4).trans rfl
              have hcz23_5 : wc.cell? ⟨gb262, 5, none⟩ = some (.int .i64 a1_5) := (blk_cell BK262.out 5).trans rfl
              have hcz23_6 : wc.cell? ⟨gb262, 6, none⟩ = some (.int .i64 a1_6) := (blk_cell BK262.out 6).trans rfl
              have hcz23_7 : wc.cell? ⟨gb262, 7, none⟩ = some (.int .i64 a1_7) := (blk_cell BK262.out 7).trans rfl
              have hfz23_0 := blk_frozen BK262.out 0
              have hfz23_1 := blk_frozen BK262.out 1
              have hfz23_2 := blk_frozen BK262.out 2
              have hfz23_3 := blk_frozen BK262.out 3
              have hfz23_4 := blk_frozen BK262.out 4
              have hfz23_5 := blk_frozen BK262.out 5
              have hfz23_6 := blk_frozen BK262.out 6
              have hfz23_7 := blk_frozen BK262.out 7
              go_wp2
              go_meet
              case rel => exact ⟨_, (true), (by first | rfl | (simp; done) | (simp [*]; done)), H', ⟨by have := HJ2.out; first | omega | exact Nat.le_refl _⟩, ⟨by (with_reducible repeat (first | refine blk_drewN ?_ _ | refine blk_drew ?_ | refine blk_alloc ?_ _)); exact BK262.out⟩, ⟨by repeat (first | (with_reducible first | exact HB.out | apply below_alloc | apply pw_below_drewN | apply below_drew1 | refine below_set ?_ GE262.out) | exact HB.out)⟩⟩
          case rest =>
            clear HC17
            try clear c1
            try clear c2
            try clear p2
            try clear c6
            try clear p6
            try clear c12
            try clear c13
            try clear c13b0
            try clear c13b1
            try clear c19
            try clear c19b0
            try clear c19b1
            try clear c20
            try clear c20b0
            try clear hcz10_0
            try clear hcz10_1
            try clear hcz10_2
            try clear hcz10_3
            try clear hcz10_4
            try clear hcz10_5
            try clear hcz10_6
            try clear hcz10_7
            try clear hcz15_0
            try clear hcz15_1
            try clear hcz15_2
            try clear hcz15_3
            try clear hcz15_4
            try clear hcz15_5
            try clear hcz15_6
            try clear hcz15_7
            try clear hcz18_0
            try clear hcz18_1
            try clear hcz18_2
            try clear hcz18_3
            try clear hcz18_4
            try clear hcz18_5
            try clear hcz18_6
            try clear hcz18_7
            try clear hcz21_0
            try clear hcz21_1
            try clear hcz21_2
            try clear hcz21_3
            try clear hcz21_4
            try clear hcz21_5
            try clear hcz21_6
            try clear hcz21_7
            try clear hcz22_0
            try clear hcz22_1
            try clear hcz22_2
            try clear hcz22_3
            try clear hcz22_4
            try clear hcz22_5
            try clear hcz22_6
            try clear hcz22_7
            try clear hcz23_0
            try clear hcz23_1
            try clear hcz23_2
            try clear hcz23_3
            try clear hcz23_4
            try clear hcz23_5
            try clear hcz23_6
            try clear hcz23_7
            try clear hcz7_0
            try clear hcz7_1
            try clear hcz7_2
            try clear hcz7_3
            try clear hcz7_4
            try clear hcz7_5
            try clear hcz7_6
            try clear hcz7_7
            try clear hcz9_0
            try clear hcz9_1
            try clear hcz9_2
            try clear hcz9_3
            try clear hcz9_4
            try clear hcz9_5
            try clear hcz9_6
            try clear hcz9_7
            try clear hfz10_0
            try clear hfz10_1
            try clear hfz10_2
            try clear hfz10_3
            try clear hfz10_4
            try clear hfz10_5
            try clear hfz10_6
            try clear hfz10_7
            try clear hfz15_0
            try clear hfz15_1
            try clear hfz15_2
            try clear hfz15_3
            try clear hfz15_4
            try clear hfz15_5
            try clear hfz15_6
            try clear hfz15_7
            try clear hfz18_0
            try clear hfz18_1
            try clear hfz18_2
            try clear hfz18_3
            try clear hfz18_4
            try clear hfz18_5
            try clear hfz18_6
            try clear hfz18_7
            try clear hfz21_0
            try clear hfz21_1
            try clear hfz21_2
            try clear hfz21_3
            try clear hfz21_4
            try clear hfz21_5
            try clear hfz21_6
            try clear hfz21_7
            try clear hfz22_0
            try clear hfz22_1
            try clear hfz22_2
            try clear hfz22_3
            try clear hfz22_4
            try clear hfz22_5
            try clear hfz22_6
            try clear hfz22_7
            try clear hfz23_0
            try clear hfz23_1
            try clear hfz23_2
            try clear hfz23_3
            try clear hfz23_4
            try clear hfz23_5
            try clear hfz23_6
            try clear hfz23_7
            try clear hfz7_0
            try clear hfz7_1
            try clear hfz7_2
            try clear hfz7_3
            try clear hfz7_4
            try clear hfz7_5
            try clear hfz7_6
            try clear hfz7_7
            try clear hfz9_0
            try clear hfz9_1
            try clear hfz9_2
            try clear hfz9_3
            try clear hfz9_4
            try clear hfz9_5
            try clear hfz9_6
            try clear hfz9_7
            try clear p2
            try clear p6
            obtain ⟨kq, x47_16, rfl, HA, HJ16, BK262, HB⟩ := hcut
            cases kq with
            | zero => exact absurd HA.out (by simp [abacistref24_Apply.j1])
            | succ kj16 =>
              have H := HA.out
              clear HA
              simp only [abacistref24_Apply.j1] at H
              by_cases c24 : x47_16 = true
              · subst c24
                have H1 : (some (([] : List Int), 18)) = some (r1, r2) := by rw [if_pos rfl] at H; exact H
                clear H
                have H := H1
                clear H1
                simp only [Option.some.injEq, Prod.mk.injEq] at H
                obtain ⟨rfl, rfl⟩ := H
                go_wp2
                go_ret2
                exact ⟨_, by first | rfl | (simp [errW_none, errW_some] <;> rfl) | (simp [*, errW_none, errW_some] <;> rfl), by first | exact Kd.R_nil _ _ _ _ _ | exact Kd.N_nil _ _ _ _ _ | exact Kd.V_nil _ _ _ _ _ | exact Kd.Q_nil _ _ _ _ _ | exact Kd.S_nil _ _ _ _ _, by repeat (first | (with_reducible first | exact HB.out | apply below_alloc | apply pw_below_drewN | apply below_drew1 | refine below_set ?_ GE262.out) | exact HB.out)⟩
              · replace c24 := Bool.eq_false_iff.mpr c24
                subst c24
                have H1 : (if a1_3 < (-1) then (some (([] : List Int), 2)) else (if a1_3 > 32 then (some (([] : List Int), 2)) else ((abacistref24_Rows.f kj16 l0 a1_0 a1_1 a1_2 a1_3 a1_4).bind fun t267 => (some (t267, 0))))) = some (r1, r2) := by rw [if_neg (show ¬ (false = true) by decide)] at H; exact H
                clear H
                have H := H1
                clear H1
                by_cases c25 : a1_3 < (-1)
                · rw [if_pos c25] at H
                  have c25b0 : decide (a1_3 < (-1)) = true := decide_eq_true c25
                  clear c25
                  simp only [Option.some.injEq, Prod.mk.injEq] at H
                  obtain ⟨rfl, rfl⟩ := H
                  have hcz26_0 : wc.cell? ⟨gb262, 0, none⟩ = some (.int .i64 a1_0) := (blk_cell BK262.out 0).trans rfl
                  have hcz26_1 : wc.cell? ⟨gb262, 1, none⟩ = some (.int .i64 a1_1) := (blk_cell BK262.out 1).trans rfl
                  have hcz26_2 : wc.cell? ⟨gb262, 2, none⟩ = some (.int .i64 a1_2) := (blk_cell BK262.out 2).trans rfl
                  have hcz26_3 : wc.cell? ⟨gb262, 3, none⟩ = some (.int .i64 a1_3) := (blk_cell BK262.out 3).trans rfl
                  have hcz26_4 : wc.cell? ⟨gb262, 4, none⟩ = some (.int .u64 a1_4) := (blk_cell BK262.out 4).trans rfl
                  have hcz26_5 : wc.cell? ⟨gb262, 5, none⟩ = some (.int .i64 a1_5) := (blk_cell BK262.out 5).trans rfl
                  have hcz26_6 : wc.cell? ⟨gb262, 6, none⟩ = some (.int .i64 a1_6) := (blk_cell BK262.out 6).trans rfl
                  have hcz26_7 : wc.cell? ⟨gb262, 7, none⟩ = some (.int .i64 a1_7) := (blk_cell BK262.out 7).trans rfl
                  have hfz26_0 := blk_frozen BK262.out 0
                  have hfz26_1 := blk_frozen BK262.out 1
                  have hfz26_2 := blk_frozen BK262.out 2
                  have hfz26_3 := blk_frozen BK262.out 3
                  have hfz26_4 := blk_frozen BK262.out 4
                  have hfz26_5 := blk_frozen BK262.out 5
                  have hfz26_6 := blk_frozen BK262.out 6
                  have hfz26_7 := blk_frozen BK262.out 7
                  go_wp2
                  go_ret2
                  exact ⟨_, by first | rfl | (simp [errW_none, errW_some] <;> rfl) | (simp [*, errW_none, errW_some] <;> rfl), by first | exact Kd.R_nil _ _ _ _ _ | exact Kd.N_nil _ _ _ _ _ | exact Kd.V_nil _ _ _ _ _ | exact Kd.Q_nil _ _ _ _ _ | exact Kd.S_nil _ _ _ _ _, by repeat (first | (with_reducible first | exact HB.out | apply below_alloc | apply pw_below_drewN | apply below_drew1 | refine below_set ?_ GE262.out) | exact HB.out)⟩
                · rw [if_neg c25] at H
                  have c25b0 : decide (a1_3 < (-1)) = false := decide_eq_false c25
                  clear c25
                  by_cases c27 : a1_3 > 32
                  · rw [if_pos c27] at H
                    have c27b0 : decide (32 < a1_3) = true := decide_eq_true c27
                    clear c27
                    simp only [Option.some.injEq, Prod.mk.injEq] at H
                    obtain ⟨rfl, rfl⟩ := H
                    have hcz28_0 : wc.cell? ⟨gb262, 0, none⟩ = some (.int .i64 a1_0) := (blk_cell BK262.out 0).trans rfl
                    have hcz28_1 : wc.cell? ⟨gb262, 1, none⟩ = some (.int .i64 a1_1) := (blk_cell BK262.out 1).trans rfl
                    have hcz28_2 : wc.cell? ⟨gb262, 2, none⟩ = some (.int .i64 a1_2) := (blk_cell BK262.out 2).trans rfl
                    have hcz28_3 : wc.cell? ⟨gb262, 3, none⟩ = some (.int .i64 a1_3) := (blk_cell BK262.out 3).trans rfl
                    have hcz28_4 : wc.cell? ⟨gb262, 4, none⟩ = some (.int .u64 a1_4) := (blk_cell BK262.out 4).trans rfl
                    have hcz28_5 : wc.cell? ⟨gb262, 5, none⟩ = some (.int .i64 a1_5) := (blk_cell BK262.out 5).trans rfl
                    have hcz28_6 : wc.cell? ⟨gb262, 6, none⟩ = some (.int .i64 a1_6) := (blk_cell BK262.out 6).trans rfl
                    have hcz28_7 : wc.cell? ⟨gb262, 7, none⟩ = some (.int .i64 a1_7) := (blk_cell BK262.out 7).trans rfl
                    have hfz28_0 := blk_frozen BK262.out 0
                    have hfz28_1 := blk_frozen BK262.out 1
                    have hfz28_2 := blk_frozen BK262.out 2
                    have hfz28_3 := blk_frozen BK262.out 3
                    have hfz28_4 := blk_frozen BK262.out 4
                    have hfz28_5 := blk_frozen BK262.out 5
                    have hfz28_6 := blk_frozen BK262.out 6
                    have hfz28_7 := blk_frozen BK262.out 7
                    go_wp2
                    go_ret2
                    exact ⟨_, by first | rfl | (simp [errW_none, errW_some] <;> rfl) | (simp [*, errW_none, errW_some] <;> rfl), by first | exact Kd.R_nil _ _ _ _ _ | exact Kd.N_nil _ _ _ _ _ | exact Kd.V_nil _ _ _ _ _ | exact Kd.Q_nil _ _ _ _ _ | exact Kd.S_nil _ _ _ _ _, by repeat (first | (with_reducible first | exact HB.out | apply below_alloc | apply pw_below_drewN | apply below_drew1 | refine below_set ?_ GE262.out) | exact HB.out)⟩
                  · rw [if_neg c27] at H
                    have c27b0 : decide (32 < a1_3) = false := decide_eq_false c27
                    clear c27
                    replace H := Option.bind_eq_some_iff.mp H
                    obtain ⟨t267, A290, H⟩ := H
                    replace H : (some (t267, 0)) = some (r1, r2) := H
                    have A29 := Aside0.mk A290
                    clear A290
                    simp only [Option.some.injEq, Prod.mk.injEq] at H
                    obtain ⟨rfl, rfl⟩ := H
                    have hcz30_0 : wc.cell? ⟨gb262, 0, none⟩ = some (.int .i64 a1_0) := (blk_cell BK262.out 0).trans rfl
                    have hcz30_1 : wc.cell? ⟨gb262, 1, none⟩ = some (.int .i64 a1_1) := (blk_cell BK262.out 1).trans rfl
                    have hcz30_2 : wc.cell? ⟨gb262, 2, none⟩ = some (.int .i64 a1_2) := (blk_cell BK262.out 2).trans rfl
                    have hcz30_3 : wc.cell? ⟨gb262, 3, none⟩ = some (.int .i64 a1_3) := (blk_cell BK262.out 3).trans rfl
                    have hcz30_4 : wc.cell? ⟨gb262, 4, none⟩ = some (.int .u64 a1_4) := (blk_cell BK262.out 4).trans rfl
                    have hcz30_5 : wc.cell? ⟨gb262, 5, none⟩ = some (.int .i64 a1_5) := (blk_cell BK262.out 5).trans rfl
                    have hcz30_6 : wc.cell? ⟨gb262, 6, none⟩ = some (.int .i64 a1_6) := (blk_cell BK262.out 6).trans rfl
                    have hcz30_7 : wc.cell? ⟨gb262, 7, none⟩ = some (.int .i64 a1_7) := (blk_cell BK262.out 7).trans rfl
                    have hfz30_0 := blk_frozen BK262.out 0
                    have hfz30_1 := blk_frozen BK262.out 1
                    have hfz30_2 := blk_frozen BK262.out 2
                    have hfz30_3 := blk_frozen BK262.out 3
                    have hfz30_4 := blk_frozen BK262.out 4
                    have hfz30_5 := blk_frozen BK262.out 5
                    have hfz30_6 := blk_frozen BK262.out 6
                    have hfz30_7 := blk_frozen BK262.out 7
                    go_wp2_with (first | ((with_reducible refine gate_callee (f := 30) rfl ?_); refine goesL_ (some 61) rfl rfl Tryz.func30 (by kernel_rfl) rfl #[.slice A0 l0.length c0, .agg #[.int .i64 a1_0, .int .i64 a1_1, .int .i64 a1_2, .int .i64 a1_3, .int .u64 a1_4]] rfl (by (try simp only [List.map_toArray, List.map_cons, List.map_nil]); first | done | rfl | (simp only [List.length_drop, List.length_take]; rfl)) ?_; (with_reducible refine (abacistref24_Rows.calls kj16 _ _ l0 a1_0 a1_1 a1_2 a1_3 a1_4 t267 _ ?side1 ?side2 A29.out).mono ?_); (case side1 => repeat (first | exact (Kd.C_below HR0.out HB.out) | (with_reducible refine Kd.C_alloc ?_ _) | (with_reducible refine Kd.C_drewN ?_ _) | (with_reducible refine Kd.C_drew ?_))); (case side2 => exact HC0.out); rintro e w31 ⟨v268, rfl, ho0, hb⟩; refine ⟨_, rfl, ?_⟩; have n0_ := Aside0.mk (Kd.R_lower ho0 (below_size (by repeat (first | (with_reducible first | exact HB.out | apply below_alloc | apply pw_below_drewN | apply below_drew1 | refine below_set ?_ GE262.out) | exact HB.out)))); have n1_ := Aside0.mk (blk_below (g := gb262) (o := .cells #[.int .i64 a1_0, .int .i64 a1_1, .int .i64 a1_2, .int .i64 a1_3, .int .u64 a1_4, .int .i64 a1_5, .int .i64 a1_6, .int .i64 a1_7] 37 (0, 0)) (by (with_reducible repeat (first | refine blk_drewN ?_ _ | refine blk_drew ?_ | refine blk_alloc ?_ _)); exact BK262.out) hb); have n2_ := Aside0.mk (below_step (by repeat (first | (with_reducible first | exact HB.out | apply below_alloc | apply pw_below_drewN | apply below_drew1 | refine below_set ?_ GE262.out) | exact HB.out)) hb); clear BK262; clear HB; have HO269 := n0_; have BK262 := n1_; have HB := n2_; clear n0_ n1_ n2_; (try clear hb); (try clear hb2); (try clear hk); (try clear hi); (try clear ho0)))
                    go_ret2
                    exact ⟨_, by first | rfl | (simp [errW_none, errW_some] <;> rfl) | (simp [*, errW_none, errW_some] <;> rfl), by (with_reducible repeat (first | apply Kd.R_alloc | apply Kd.R_drewN | apply Kd.R_drew)); exact HO269.out, by repeat (first | (with_reducible first | exact HB.out | apply below_alloc | apply pw_below_drewN | apply below_drew1 | refine below_set ?_ GE262.out) | exact HB.out)⟩
end Go.Proofs.YtpnkcjnemoompaaGreatDoor.PFft
end
section
namespace Go.Proofs.YtpnkcjnemoompaaGreatDoor.Kern
open Go.RowKit Go.Proofs.YtpnkcjnemoompaaGreatDoor Go.Proofs.YtpnkcjnemoompaaGreatDoor.Ext Go.Proofs.YtpnkcjnemoompaaGreatDoor.PPlan Go.Proofs.YtpnkcjnemoompaaGreatDoor.PFft Go.Proofs.YtpnkcjnemoompaaGreatDoor.Pure Go.Proofs.YtpnkcjnemoompaaGreatDoor.Obj Go.Proofs.YtpnkcjnemoompaaGreatDoor.Fft Go.Proofs.YtpnkcjnemoompaaGreatDoorW.PrintWords Go.Proofs.YtpnkcjnemoompaaGreatDoorW.PrintLast Go.Proofs.YtpnkcjnemoompaaGreatDoorW.PrintMore
set_option linter.unusedVariables false
set_option linter.unusedSimpArgs false
set_option maxRecDepth 100000
def Mr (w : World) (g c : Nat) (xs : List Int) : Prop := ∃ cs : List Value, Bk w g 33 cs ∧ cs.length = c ∧ xs.length ≤ c ∧ cs.take xs.length = nums .u64 xs
section
variable {w w' : World} {g c : Nat} {xs : List Int}
theorem Mr.len (h : Mr w g c xs) : xs.length ≤ c := by obtain ⟨cs, _, _, h, _⟩ := h; exact h
theorem Mr.lt (h : Mr w g c xs) : g < w.heap.size := by obtain ⟨cs, h, _⟩ := h; exact h.lt
theorem Mr.fr {S : List Nat} (h : Mr w g c xs) (hf : Fr w w' S) (hg : g ∉ S) : Mr w' g c xs := by
  obtain ⟨cs, h1, h2⟩ := h
  exact ⟨cs, h1.fr hf hg, h2⟩
theorem Mr.below (h : Mr w g c xs) (hb : Below w.heap.size w w') : Mr w' g c xs := by
  obtain ⟨cs, h1, h2⟩ := h
  exact ⟨cs, h1.below hb, h2⟩
theorem Mr.of_rw (h : Rw w g xs) : Mr w g xs.length xs := ⟨nums .u64 xs, h, nums_length .u64 xs, Nat.le_refl _, by rw [← nums_length .u64 xs, List.take_length]⟩
theorem Mr.ne {t : Nat} {cs : List Value} {b : Nat} (h : Mr w g c xs) (hb : Bk w b t cs) (ht : t ≠ 33) : b ≠ g := by
  obtain ⟨cs', h1, _⟩ := h
  exact hb.ne h1 ht
theorem nums_at (xs : List Int) (i : Nat) (hi : i < xs.length) : (nums .u64 xs)[i]? = some (.int .u64 (xs.getD i 0)) := by simp [nums, hi]
theorem Mr.cell (h : Mr w g c xs) (i : Nat) (hi : i < xs.length) : w.cell? ⟨g, i, none⟩ = some (.int .u64 (xs.getD i 0)) := by
  obtain ⟨cs, h1, h2, h3, h4⟩ := h
  rw [h1.cell, ← nums_at xs i hi, ← h4, List.getElem?_take, if_pos hi]
theorem Mr.frozen (h : Mr w g c xs) (i : Nat) : w.frozen? ⟨g, i, none⟩ = false := by
  obtain ⟨cs, h1, _⟩ := h
  exact h1.frozen i
theorem Mr.put (h : Mr w g c xs) (i : Nat) (x : Int) : Mr (w.setCell ⟨g, i, none⟩ (.int .u64 x)) g c (xs.set i x) := by
  obtain ⟨cs, h1, h2, h3, h4⟩ := h
  refine ⟨cs.set i (.int .u64 x), h1.put i _, by rw [List.length_set]; exact h2, by rw [List.length_set]; exact h3, ?_⟩
  rw [List.length_set, List.take_set, h4]
  simp [nums, List.map_set]
theorem Mr.far (h : Mr w g c xs) (b i : Nat) (u : Value) (hne : g ≠ b) : Mr (w.setCell ⟨b, i, none⟩ u) g c xs := by
  obtain ⟨cs, h1, h2⟩ := h
  exact ⟨cs, h1.far i u hne, h2⟩
theorem Mr.part (h : Mr w g c xs) (off n : Nat) (hn : off + n ≤ xs.length) (hm : n ≤ 9223372036854775807) : Kd.C (Kd.int .u64) w (some ⟨g, off, none⟩) n ((xs.drop off).take n) := by
  refine ⟨by rw [List.length_take, List.length_drop]; omega, hm, fun _ => ⟨_, rfl, fun j p hj => ⟨[.int .u64 p], rfl, rfl, fun i u hu => ?_⟩⟩⟩
  have hjn : j < n := by
    have := (List.getElem?_eq_some_iff.1 hj).1
    rw [List.length_take, List.length_drop] at this; omega
  have hp : xs[off + j]? = some p := by
    rw [List.getElem?_take, if_pos hjn, List.getElem?_drop] at hj
    exact hj
  rcases i with _ | i
  · simp only [List.getElem?_cons_zero, Option.some.injEq] at hu
    subst hu
    have hsz : (Kd.int .u64).sz = 1 := rfl
    rw [hsz, add_at]
    simp only [Nat.mul_one, Nat.add_zero]
    rw [h.cell _ (by omega)]
    simp [List.getD, hp]
  · simp at hu
theorem Mr.whole (h : Mr w g c xs) (hm : xs.length ≤ 9223372036854775807) : Kd.C (Kd.int .u64) w (some ⟨g, 0, none⟩) xs.length xs := by
  have := h.part 0 xs.length (by omega) hm
  simpa using this
theorem Mr.of_R {base : Nat} {ok : Nat → Prop} {v : Value} (hR : Kd.R (Kd.int .u64) 33 w base ok v xs) (h0 : 0 < xs.length) : ∃ g c, v = .slice (some ⟨g, 0, none⟩) xs.length c ∧ base ≤ g ∧ Mr w g c xs := by
  obtain ⟨_, inner, ⟨hl, hv⟩, hr⟩ := hR
  rcases hv with ⟨_, h⟩ | ⟨g, cap, cur, rfl, hg, hh, hc, hm, hcs, ht⟩
  · omega
  · refine ⟨g, cap, rfl, hg, cur.toList, by simpa [Bk] using hh, by have hsz : (Kd.int IntKind.u64).sz = 1 := rfl
                                                                    rw [hsz, Nat.mul_one] at hcs; simpa using hcs, hc, ?_⟩
    have hsz : (Kd.int IntKind.u64).sz = 1 := rfl
    rw [hsz, Nat.mul_one] at ht
    rw [ht]
    apply List.ext_getElem?
    intro j
    have hil : inner.length = xs.length := by rw [hsz, Nat.mul_one] at hl; exact hl
    by_cases hj : j < xs.length
    · have hx := hr.2 j (xs[j]) (by simp [hj])
      rw [hsz, Nat.mul_one] at hx
      have hin : inner[j]? = some (.int .u64 (xs[j])) := by
        have := congrArg (·[0]?) (show (inner.drop j).take 1 = [Value.int .u64 (xs[j])] from hx)
        simpa [List.getElem?_take, List.getElem?_drop] using this
      rw [hin]
      simp [nums, hj]
    · rw [List.getElem?_eq_none (by omega), List.getElem?_eq_none (by rw [nums_length]; omega)]
end
theorem copy_mr {P : Program} {w : World} {ops : Array Oper} {rest : List Oper} {o : Oper} {a : Act} {Q : Exit → Act → World → Prop} (hgd : o.guard = none) (d s : Operand) (dT sT : TypeId)
    (ho : o.op = .call { callee := .builtin .copy, args := #[d, s], argTypes := #[dT, sT] }) (hu : P.underlying dT = some (.slice 33)) (hsz : (P.info? 33).map (·.size) = some 1)
    (g c : Nat) (xs ys : List Int) (ad : Addr) (sCap : Nat) (hd : a.eval d = .slice (some ⟨g, 0, none⟩) xs.length c) (hs : a.eval s = .slice (some ad) ys.length sCap)
    (hg : Mr w g c xs) (hn : ys.length = xs.length) (hsrc : ∀ j, j < ys.length → w.cell? (ad.add j) = some (.int .u64 (ys.getD j 0)))
    (h : ∀ w', Mr w' g c ys → Fr w w' [g] → wpList P ops Q rest (a.put o.dst (goInt ys.length)) w') : wpList P ops Q (o :: rest) a w := by
  obtain ⟨cs, h1, h2, h3, h4⟩ := hg
  refine wpList_copy_own hgd d s dT sT ho 33 hu hsz g 0 xs.length c ad ys.length sCap hd hs cs.toArray 33 h1 (nums .u64 ys) (by rw [nums_length, hn]; exact (Nat.min_self _).symm) ?_ (by rw [nums_length]; simp; omega) ?_ ?_
  · intro j v hj
    have hjl : j < ys.length := by
      have := (List.getElem?_eq_some_iff.1 hj).1
      rwa [nums_length] at this
    rw [hsrc j hjl]
    simp [nums, hjl] at hj
    simp [hjl, hj]
  · intro v hv
    obtain ⟨x, _, rfl⟩ := List.mem_map.1 hv
    rfl
  · rw [nums_length]
    refine h _ ?_ ?_
    · have h5 := setRow_heap w g cs.toArray (cs.toArray.toList.take 0 ++ (nums .u64 ys ++ cs.toArray.toList.drop (0 + ys.length))).toArray 33 (0, 0) h1
      refine ⟨nums .u64 ys ++ cs.drop ys.length, ?_, by simp [nums_length]; omega, by omega, by rw [List.take_append_of_le_length (by rw [nums_length]; omega), ← nums_length .u64 ys, List.take_length]⟩
      unfold Bk
      rw [h5]
      simp
    · have hb := below_setRow (B := 0) (Below.refl 0 w) (Nat.zero_le g) (cs.toArray.toList.take 0 ++ (nums .u64 ys ++ cs.toArray.toList.drop (0 + ys.length))).toArray
      exact ⟨hb.os, hb.tape, hb.output, hb.size, fun k _ hk => setRow_other w g k _ (fun e => hk (by rw [e]; simp))⟩
theorem size_u64 : (Tryz.prog.info? 33).map (·.size) = some 1 := by kernel_rfl
theorem info_u64 : (Tryz.prog.info? 33).map (fun i => (i.zero, i.size, i.bytes)) = some (some (.int .u64 0), 1, 8) := by kernel_rfl
theorem wrapn {x : Int} {a : Nat} (h : x = (a : Int)) (ha : a ≤ 9223372036854775807) : wrap64 x = (a : Int) := by
  rw [h]
  exact wrap_i _ (by omega) (by omega)
set_option maxHeartbeats 1000000 in
theorem at_calls (j : Int) (jn i q s m n N a1 a2 a3 t : Nat) (P gs cs bp bq bs bi bn : Nat) (v : Int) (w : World) (ej : j = (jn : Int)) (en : n = 4 * m) (e1 : jn * m = a1) (e2 : i + a1 = a2) (e3 : s * a2 = a3) (e4 : q + a3 = t) (ht : t < N) (hN : N ≤ 1048576) (b2 : a2 ≤ 1048576) (bn2 : n ≤ 1048576)
    (cp : w.cell? ⟨bp, 0, none⟩ = some (.pointer (some ⟨P, 0, none⟩))) (cs_ : w.cell? ⟨P, 2, none⟩ = some (.slice (some ⟨gs, 0, none⟩) N cs)) (cq : w.cell? ⟨bq, 0, none⟩ = some (.int .i64 (q : Int))) (cS : w.cell? ⟨bs, 0, none⟩ = some (.int .i64 (s : Int))) (ci : w.cell? ⟨bi, 0, none⟩ = some (.int .i64 (i : Int))) (cn : w.cell? ⟨bn, 0, none⟩ = some (.int .i64 (n : Int)))
    (cv : w.cell? ⟨gs, t, none⟩ = some (.int .u64 v)) :
    Calls Tryz.prog 110 #[.int .i64 j, .pointer (some ⟨bp, 0, none⟩), .pointer (some ⟨bq, 0, none⟩), .pointer (some ⟨bs, 0, none⟩), .pointer (some ⟨bi, 0, none⟩), .pointer (some ⟨bn, 0, none⟩)] w fun e w' => e = .returned (.int .u64 v) ∧ ∃ k, w' = w.drewN k := by
  subst ej
  have t0 : (0 : Int) ≤ (t : Int) := by omega
  have t1 : (t : Int) < (N : Int) := by omega
  obtain ⟨k1, k2, k3, k4, k5⟩ : wrap64 ((n : Int) / 4) = (m : Int) ∧ wrap64 ((jn : Int) * (m : Int)) = (a1 : Int) ∧ wrap64 ((i : Int) + (a1 : Int)) = (a2 : Int) ∧ wrap64 ((s : Int) * (a2 : Int)) = (a3 : Int) ∧ wrap64 ((q : Int) + (a3 : Int)) = (t : Int) :=
    ⟨wrapn (by omega) (by omega), wrapn (by rw [← Int.natCast_mul, e1]) (by omega), wrapn (by omega) (by omega), wrapn (by rw [← Int.natCast_mul, e3]) (by omega), wrapn (by omega) (by omega)⟩
  clear e1 e2 e3 e4 ht hN b2 bn2 en
  go_enter Tryz.func110, Tryz.ntmps110
  go_wp2_with fail
  refine start_ (n := 17) (S := fun w' => w'.cell? ⟨bp, 0, none⟩ = some (.pointer (some ⟨P, 0, none⟩)) ∧ w'.cell? ⟨P, 2, none⟩ = some (.slice (some ⟨gs, 0, none⟩) N cs) ∧ w'.cell? ⟨bq, 0, none⟩ = some (.int .i64 (q : Int)) ∧ w'.cell? ⟨bs, 0, none⟩ = some (.int .i64 (s : Int)) ∧ w'.cell? ⟨bi, 0, none⟩ = some (.int .i64 (i : Int)) ∧ w'.cell? ⟨bn, 0, none⟩ = some (.int .i64 (n : Int)) ∧ w'.cell? ⟨gs, t, none⟩ = some (.int .u64 v)) (ds := []) #[false, false, false, false, false, false, false, false, false, false, false, false, false, false, false, false, false] (by kernel_rfl) rfl rfl ⟨cp, cs_, cq, cS, ci, cn, cv⟩ (fun hHeld => ?_)
  refine pure_ (i := 7) (N := some 15) (v := ?_) (a' := ?_) #[false, false, false, false, false, false, false, true, false, false, false, false, false, false, false, false, false] rfl rfl (by kernel_rfl) (fun _ _ _ h => h) (Or.inl ⟨by rfl, ?_⟩) ?_ ?_
  rotate_left
  · intro w'
    go_simp
    with_reducible rfl
  rotate_left
  · simp only [Act.put, List.setIfInBounds_toArray, List.set_cons_zero, List.set_cons_succ, i64_w, i32_w]
    rfl
  refine take_ (i := 0) (N := some 8) (v := ?_) (a' := ?_) #[true, false, false, false, false, false, false, true, false, false, false, false, false, false, false, false, false] rfl rfl (by kernel_rfl) (fun _ _ _ h => h) (Or.inl ⟨by rfl, ?_⟩) hHeld ?_ ?_
  rotate_left
  · rintro w' ⟨s0, s1, s2, s3, s4, s5, s6⟩
    go_simp
    with_reducible rfl
  rotate_left
  · simp only [Act.put, List.setIfInBounds_toArray, List.set_cons_zero, List.set_cons_succ, i64_w, i32_w]
    rfl
  refine pure_ (i := 1) (N := some 9) (v := ?_) (a' := ?_) #[true, true, false, false, false, false, false, true, false, false, false, false, false, false, false, false, false] rfl rfl (by kernel_rfl) (fun _ _ _ h => h) (Or.inl ⟨by rfl, ?_⟩) ?_ ?_
  rotate_left
  · intro w'
    go_simp
    with_reducible rfl
  rotate_left
  · simp only [Act.put, List.setIfInBounds_toArray, List.set_cons_zero, List.set_cons_succ, i64_w, i32_w]
    rfl
  refine pure_ (i := 2) (N := some 10) (v := ?_) (a' := ?_) #[true, true, true, false, false, false, false, true, false, false, false, false, false, false, false, false, false] rfl rfl (by kernel_rfl) (fun _ _ _ h => h) (Or.inl ⟨by rfl, ?_⟩) ?_ ?_
  rotate_left
  · intro w'
    go_simp
    with_reducible rfl
  rotate_left
  · simp only [Act.put, List.setIfInBounds_toArray, List.set_cons_zero, List.set_cons_succ, i64_w, i32_w]
    rfl
  refine take_ (i := 3) (N := some 11) (v := ?_) (a' := ?_) #[true, true, true, true, false, false, false, true, false, false, false, false, false, false, false, false, false] rfl rfl (by kernel_rfl) (fun _ _ _ h => h) (Or.inl ⟨by rfl, ?_⟩) hHeld ?_ ?_
  rotate_left
  · rintro w' ⟨s0, s1, s2, s3, s4, s5, s6⟩
    go_simp
    with_reducible rfl
  rotate_left
  · simp only [Act.put, List.setIfInBounds_toArray, List.set_cons_zero, List.set_cons_succ, i64_w, i32_w]
    rfl
  refine take_ (i := 4) (N := some 12) (v := ?_) (a' := ?_) #[true, true, true, true, true, false, false, true, false, false, false, false, false, false, false, false, false] rfl rfl (by kernel_rfl) (fun _ _ _ h => h) (Or.inl ⟨by rfl, ?_⟩) hHeld ?_ ?_
  rotate_left
  · rintro w' ⟨s0, s1, s2, s3, s4, s5, s6⟩
    go_simp
    with_reducible rfl
  rotate_left
  · simp only [Act.put, List.setIfInBounds_toArray, List.set_cons_zero, List.set_cons_succ, i64_w, i32_w]
    rfl
  refine take_ (i := 5) (N := some 13) (v := ?_) (a' := ?_) #[true, true, true, true, true, true, false, true, false, false, false, false, false, false, false, false, false] rfl rfl (by kernel_rfl) (fun _ _ _ h => h) (Or.inl ⟨by rfl, ?_⟩) hHeld ?_ ?_
  rotate_left
  · rintro w' ⟨s0, s1, s2, s3, s4, s5, s6⟩
    go_simp
    with_reducible rfl
  rotate_left
  · simp only [Act.put, List.setIfInBounds_toArray, List.set_cons_zero, List.set_cons_succ, i64_w, i32_w]
    rfl
  refine take_ (i := 6) (N := some 14) (v := ?_) (a' := ?_) #[true, true, true, true, true, true, true, true, false, false, false, false, false, false, false, false, false] rfl rfl (by kernel_rfl) (fun _ _ _ h => h) (Or.inl ⟨by rfl, ?_⟩) hHeld ?_ ?_
  rotate_left
  · rintro w' ⟨s0, s1, s2, s3, s4, s5, s6⟩
    go_simp
    with_reducible rfl
  rotate_left
  · simp only [Act.put, List.setIfInBounds_toArray, List.set_cons_zero, List.set_cons_succ, i64_w, i32_w]
    rfl
  refine take_ (i := 8) (N := some 16) (v := ?_) (a' := ?_) #[true, true, true, true, true, true, true, true, true, false, false, false, false, false, false, false, false] rfl rfl (by kernel_rfl) (fun _ _ _ h => h) (Or.inl ⟨by rfl, ?_⟩) hHeld ?_ ?_
  rotate_left
  · rintro w' ⟨s0, s1, s2, s3, s4, s5, s6⟩
    go_simp
    with_reducible rfl
  rotate_left
  · simp only [Act.put, List.setIfInBounds_toArray, List.set_cons_zero, List.set_cons_succ, i64_w, i32_w]
    rfl
  refine pure_ (i := 9) (N := some 17) (v := ?_) (a' := ?_) #[true, true, true, true, true, true, true, true, true, true, false, false, false, false, false, false, false] rfl rfl (by kernel_rfl) (fun _ _ _ h => h) (Or.inl ⟨by rfl, ?_⟩) ?_ ?_
  rotate_left
  · intro w'
    go_simp
    with_reducible rfl
  rotate_left
  · simp only [Act.put, List.setIfInBounds_toArray, List.set_cons_zero, List.set_cons_succ, i64_w, i32_w]
    rfl
  refine pure_ (i := 10) (N := some 18) (v := ?_) (a' := ?_) #[true, true, true, true, true, true, true, true, true, true, true, false, false, false, false, false, false] rfl rfl (by kernel_rfl) (fun _ _ _ h => h) (Or.inl ⟨by rfl, ?_⟩) ?_ ?_
  rotate_left
  · intro w'
    go_simp
    with_reducible rfl
  rotate_left
  · simp only [Act.put, List.setIfInBounds_toArray, List.set_cons_zero, List.set_cons_succ, i64_w, i32_w]
    rfl
  refine pure_ (i := 11) (N := some 19) (v := ?_) (a' := ?_) #[true, true, true, true, true, true, true, true, true, true, true, true, false, false, false, false, false] rfl rfl (by kernel_rfl) (fun _ _ _ h => h) (Or.inl ⟨by rfl, ?_⟩) ?_ ?_
  rotate_left
  · intro w'
    go_simp
    with_reducible rfl
  rotate_left
  · simp only [Act.put, List.setIfInBounds_toArray, List.set_cons_zero, List.set_cons_succ, i64_w, i32_w]
    rfl
  refine pure_ (i := 12) (N := some 20) (v := ?_) (a' := ?_) #[true, true, true, true, true, true, true, true, true, true, true, true, true, false, false, false, false] rfl rfl (by kernel_rfl) (fun _ _ _ h => h) (Or.inl ⟨by rfl, ?_⟩) ?_ ?_
  rotate_left
  · intro w'
    go_simp
    with_reducible rfl
  rotate_left
  · simp only [Act.put, List.setIfInBounds_toArray, List.set_cons_zero, List.set_cons_succ, i64_w, i32_w]
    rfl
  refine pure_ (i := 13) (N := some 21) (v := ?_) (a' := ?_) #[true, true, true, true, true, true, true, true, true, true, true, true, true, true, false, false, false] rfl rfl (by kernel_rfl) (fun _ _ _ h => h) (Or.inl ⟨by rfl, ?_⟩) ?_ ?_
  rotate_left
  · intro w'
    go_simp
    with_reducible rfl
  rotate_left
  · simp only [Act.put, List.setIfInBounds_toArray, List.set_cons_zero, List.set_cons_succ, i64_w, i32_w]
    rfl
  refine pure_ (i := 14) (N := some 22) (v := ?_) (a' := ?_) #[true, true, true, true, true, true, true, true, true, true, true, true, true, true, true, false, false] rfl rfl (by kernel_rfl) (fun _ _ _ h => h) (Or.inl ⟨by rfl, ?_⟩) ?_ ?_
  rotate_left
  · intro w'
    go_simp
    with_reducible rfl
  rotate_left
  · simp only [Act.put, List.setIfInBounds_toArray, List.set_cons_zero, List.set_cons_succ, i64_w, i32_w]
    rfl
  refine take_ (i := 15) (N := some 23) (v := ?_) (a' := ?_) #[true, true, true, true, true, true, true, true, true, true, true, true, true, true, true, true, false] rfl rfl (by kernel_rfl) (fun _ _ _ h => h) (Or.inl ⟨by rfl, ?_⟩) hHeld ?_ ?_
  rotate_left
  · rintro w' ⟨s0, s1, s2, s3, s4, s5, s6⟩
    go_simp
    with_reducible rfl
  rotate_left
  · simp only [Act.put, List.setIfInBounds_toArray, List.set_cons_zero, List.set_cons_succ, i64_w, i32_w]
    rfl
  refine pure_ (i := 16) (N := some 7) (v := ?_) (a' := ?_) #[true, true, true, true, true, true, true, true, true, true, true, true, true, true, true, true, true] rfl rfl (by kernel_rfl) (fun _ _ _ h => h) (Or.inl ⟨by rfl, ?_⟩) ?_ ?_
  rotate_left
  · intro w'
    go_simp
    with_reducible rfl
  rotate_left
  · simp only [Act.put, List.setIfInBounds_toArray, List.set_cons_zero, List.set_cons_succ, i64_w, i32_w]
    rfl
  refine done_ (by kernel_rfl) ?_
  go_wp2
  go_ret
  exact ⟨rfl, 1, rfl⟩
end Go.Proofs.YtpnkcjnemoompaaGreatDoor.Kern
end
section
namespace Go.Proofs.YtpnkcjnemoompaaGreatDoor.Kern
open Go.RowKit Go.Proofs.YtpnkcjnemoompaaGreatDoor Go.Proofs.YtpnkcjnemoompaaGreatDoor.Ext Go.Proofs.YtpnkcjnemoompaaGreatDoor.PPlan Go.Proofs.YtpnkcjnemoompaaGreatDoor.PFft Go.Proofs.YtpnkcjnemoompaaGreatDoor.Pure Go.Proofs.YtpnkcjnemoompaaGreatDoor.Obj Go.Proofs.YtpnkcjnemoompaaGreatDoor.Fft Go.Proofs.YtpnkcjnemoompaaGreatDoorW.PrintWords Go.Proofs.YtpnkcjnemoompaaGreatDoorW.PrintLast Go.Proofs.YtpnkcjnemoompaaGreatDoorW.PrintMore
set_option linter.unusedVariables false
set_option linter.unusedSimpArgs false
set_option maxRecDepth 100000
structure In (w : World) (A : Option Addr) (c : Nat) (l : List Int) : Prop where
  r : Kd.C (Kd.int .u64) w A l.length l
  c : l.length ≤ c
theorem In.below {w W : World} {A : Option Addr} {c : Nat} {l : List Int} (h : In w A c l) (hb : Below w.heap.size w W) : In W A c l := ⟨Kd.C_below h.r hb, h.c⟩
theorem In.of_mr {w : World} {g c : Nat} {l : List Int} (h : Mr w g c l) (hm : l.length ≤ 9223372036854775807) : In w (some ⟨g, 0, none⟩) c l := ⟨h.whole hm, h.len⟩
set_option maxHeartbeats 2000000 in
theorem scale_calls (A : Option Addr) (c : Nat) (l : List Int) (a : Int) (w : World) (hl : In w A c l) (hw : Ws l) (ha : W64 a) (hlen : l.length ≤ 1048576) :
    Calls Tryz.prog 44 #[.slice A l.length c, .int .u64 a] w fun e w' => ∃ g, e = .returned (.slice (some ⟨g, 0, none⟩) l.length l.length) ∧ Rw w' g (tb l.length fun i => el l i * fo a) ∧ Below w.heap.size w w' ∧ w.heap.size ≤ g := by
  have HL := Aside0.mk hl
  have HW := Aside0.mk hw
  have HA := Aside0.mk ha
  clear hl hw ha
  go_enter Tryz.func44, Tryz.ntmps44
  go_wp2_with ((with_reducible refine gate_dst (N := 10) rfl ?_); refine make_row rfl 22 (.tmp 9) (.tmp 9) rfl l.length rfl rfl Tryz.underlying22 info_u64 (by omega) ?_; intro w1 hrow hb hsz; have HR := Aside0.mk (show Rw w1 w.heap.size (fl l.length 0 fun i => el l i * fo a) by rw [fl_zero]; exact hrow); have HB := Aside0.mk hb; have HZ := Aside0.mk hsz; clear hrow hb hsz)
  go_loopw [13] (fun v13 wr => ∃ i : Nat, v13 = .int .i64 i ∧ i ≤ l.length ∧ Aside0 (Rw wr w.heap.size (fl l.length i fun i => el l i * fo a)) ∧ Aside0 (Below w.heap.size w wr)) (fun v13 _ => l.length - (intOf v13).toNat)
  case atStart => exact ⟨0, rfl, Nat.zero_le _, HR, HB⟩
  case round =>
    clear HR HB
    obtain ⟨i, rfl, hi, HR, HB⟩ := hrel
    by_cases h1 : i < l.length
    · obtain ⟨ad, q, hx⟩ := Kd.at_int (HL.out.below HB.out).r (i : Int) (by omega) (by omega)
      cases q
      simp only [Int.toNat_natCast] at hx
      rw [rdn] at hx
      have HM := Aside0.mk (gMul (l.getD i 0) a (HW.out i) HA.out)
      have hia : (i : Int) < (l.length : Int) := by omega
      have HF := Aside0.mk (fl_set (fun i => el l i * fo a) h1 (fv (fo (l.getD i 0) * fo a)) rfl)
      generalize fv (fo (l.getD i 0) * fo a) = y at *
      generalize l.getD i 0 = x at *
      go_wp2_with fail
      with_reducible refine (gold_Mul.calls x a y _ HM.out).mono ?_
      rintro e w2 ⟨rfl, hb⟩
      have HB2 := Aside0.mk (below_then HB.out HB.out.size hb)
      have HR2 := Aside0.mk (HR.out.below hb)
      clear hb hx
      have u1 := HR2.out.cell i (by rw [fl_len _ (by omega)]; exact h1)
      have u2 := Bk.frozen HR2.out i
      go_wp2
      go_roundw
      case rel => exact ⟨i + 1, by go_num, by omega, ⟨by rw [← HF.out]; exact HR2.out.put i y⟩, ⟨HB2.out.setCell (p := ⟨w.heap.size, i, none⟩) (Nat.le_refl _) _⟩⟩
      case measure => simp [intOf]; omega
    · obtain rfl : i = l.length := by omega
      have hia : decide ((l.length : Int) < (l.length : Int)) = false := decide_eq_false (by omega)
      go_wp2
      go_ret
      have hr := HR.out
      rw [fl_full] at hr
      exact ⟨_, rfl, hr, HB.out, Nat.le_refl _⟩
theorem cross_calls (a b c d u : F) (w : World) :
    Calls Tryz.prog 111 #[.int .u64 (fv a), .int .u64 (fv b), .int .u64 (fv c), .int .u64 (fv d), .int .u64 (fv u)] w fun e w' => e = .returned (.agg #[.int .u64 (fv (crs a b c d u 0)), .int .u64 (fv (crs a b c d u 1)), .int .u64 (fv (crs a b c d u 2)), .int .u64 (fv (crs a b c d u 3))]) ∧ Below w.heap.size w w' := by
  have gA : ∀ x y : F, gold_Add.f (fv x) (fv y) = some (fv (x + y)) := fun x y => by have := gAdd (fv x) (fv y) (fv_w _) (fv_w _); rw [fo_fv, fo_fv] at this; exact this
  have gS : ∀ x y : F, gold_Sub.f (fv x) (fv y) = some (fv (x - y)) := fun x y => by have := gSub (fv x) (fv y) (fv_w _) (fv_w _); rw [fo_fv, fo_fv] at this; exact this
  have GA := Aside0.mk gA
  have GS := Aside0.mk gS
  have HB0 := Aside0.mk (below_alloc (Below.refl w.heap.size w) (Obj.cells #[.int .u64 0, .int .u64 0, .int .u64 0, .int .u64 0] 154))
  have HK0 := Aside0.mk (Bk.new w 154 [.int .u64 0, .int .u64 0, .int .u64 0, .int .u64 0])
  clear gA gS
  go_enter Tryz.func111, Tryz.ntmps111
  go_wp2_with fail
  with_reducible refine (gold_Add.calls _ _ _ _ (GA.out a c)).mono ?_
  rintro e w1 ⟨rfl, hb⟩
  have HB1 := Aside0.mk (below_then HB0.out HB0.out.size hb)
  have HK1 := Aside0.mk (HK0.out.below hb)
  clear hb HB0 HK0
  go_wp2_with fail
  with_reducible refine (gold_Sub.calls _ _ _ _ (GS.out a c)).mono ?_
  rintro e w2 ⟨rfl, hb⟩
  have HB2 := Aside0.mk (below_then HB1.out HB1.out.size hb)
  have HK2 := Aside0.mk (HK1.out.below hb)
  clear hb HB1 HK1
  go_wp2_with fail
  with_reducible refine (gold_Add.calls _ _ _ _ (GA.out b d)).mono ?_
  rintro e w3 ⟨rfl, hb⟩
  have HB3 := Aside0.mk (below_then HB2.out HB2.out.size hb)
  have HK3 := Aside0.mk (HK2.out.below hb)
  clear hb HB2 HK2
  go_wp2_with fail
  with_reducible refine (gold_Sub.calls _ _ _ _ (GS.out b d)).mono ?_
  rintro e w4 ⟨rfl, hb⟩
  have HB4 := Aside0.mk (below_then HB3.out HB3.out.size hb)
  have HK4 := Aside0.mk (HK3.out.below hb)
  clear hb HB3 HK3
  go_wp2_with fail
  with_reducible refine (gold_Mul.calls _ _ _ _ (gMulF u (b - d))).mono ?_
  rintro e w5 ⟨rfl, hb⟩
  have HB5 := Aside0.mk (below_then HB4.out HB4.out.size hb)
  have HK5 := Aside0.mk (HK4.out.below hb)
  clear hb HB4 HK4
  go_wp2_with fail
  with_reducible refine (gold_Add.calls _ _ _ _ (GA.out (a + c) (b + d))).mono ?_
  rintro e w6 ⟨rfl, hb⟩
  have HB6 := Aside0.mk (below_then HB5.out HB5.out.size hb)
  have HK6 := Aside0.mk (HK5.out.below hb)
  clear hb HB5 HK5
  go_wp2_with fail
  with_reducible refine (gold_Add.calls _ _ _ _ (GA.out (a - c) (u * (b - d)))).mono ?_
  rintro e w7 ⟨rfl, hb⟩
  have HB7 := Aside0.mk (below_then HB6.out HB6.out.size hb)
  have HK7 := Aside0.mk (HK6.out.below hb)
  clear hb HB6 HK6
  go_wp2_with fail
  with_reducible refine (gold_Sub.calls _ _ _ _ (GS.out (a + c) (b + d))).mono ?_
  rintro e w8 ⟨rfl, hb⟩
  have HB8 := Aside0.mk (below_then HB7.out HB7.out.size hb)
  have HK8 := Aside0.mk (HK7.out.below hb)
  clear hb HB7 HK7
  go_wp2_with fail
  with_reducible refine (gold_Sub.calls _ _ _ _ (GS.out (a - c) (u * (b - d)))).mono ?_
  rintro e w9 ⟨rfl, hb⟩
  have HB9 := Aside0.mk (below_then HB8.out HB8.out.size hb)
  have HK9 := Aside0.mk (HK8.out.below hb)
  clear hb HB8 HK8
  have z0 := HK9.out.cell 0
  have z1 := HK9.out.cell 1
  have z2 := HK9.out.cell 2
  have z3 := HK9.out.cell 3
  have f0 := HK9.out.frozen 0
  have f1 := HK9.out.frozen 1
  have f2 := HK9.out.frozen 2
  have f3 := HK9.out.frozen 3
  go_wp2
  refine bodyPost_ret (results_cell_row rfl _ _ w.heap.size 154 #[.int .u64 (fv (a + c + (b + d))), .int .u64 (fv (a - c + u * (b - d))), .int .u64 (fv (a + c - (b + d))), .int .u64 (fv (a - c - u * (b - d)))] (0, 0) _ rfl ((((HK9.out.put 0 _).put 1 _).put 2 _).put 3 _) Tryz.underlying154 rfl (by kernel_rfl)) rfl ⟨rfl, ?_⟩
  have hs : w.heap.size ≤ w.heap.size := Nat.le_refl _
  exact below_set (below_set (below_set (below_set HB9.out hs) hs) hs) hs
end Go.Proofs.YtpnkcjnemoompaaGreatDoor.Kern
end
