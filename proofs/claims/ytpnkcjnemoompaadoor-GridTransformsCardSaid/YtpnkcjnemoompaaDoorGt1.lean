import Derived.Test.YtpnkcjnemoompaaDoorGt0
import Derived.Shelf.Strings.Builder1
import Derived.Shelf.Strings.Builder2
import Derived.Shelf.Strings.OnBuilder
import Derived.Shelf.Strings.BuilderF
import Derived.Shelf.Strings.BuilderK
import Derived.Shelf.Strings.Builder2Cap
import Derived.Shelf.Strconv.Itoa0
import Derived.Shelf.Strconv.Itoa1
import Derived.Shelf.LaysM
import Derived.Shelf.Strconv.Itoa2
import Derived.Shelf.Strconv.Itoa3
import Derived.Shelf.Bits.Mul64
import Derived.Shelf.Strings.BuilderCap
import Derived.Ground.SlgnProg
import Derived.Shelf.SlicesE.Clone
import Derived.Ground.SlgfProg
import Derived.Shelf.SlicesE.IndexFunc
import Derived.Test.YtpnkcjnemoompaaDoorProg
import Derived.Below
import Derived.Deep.Draws
import Derived.Deep.AppendLies
import Derived.Maps.AppendAt
import Derived.OwnWalk
import Derived.Laws.BytesArg
import Derived.Laws.MakeOwn
import Derived.Laws.OwnMore
import Derived.Deep.OwnRows
import Derived.Tactics
import Derived.Lib.ConvBytes
import Derived.Laws.Slices
import Derived.WalkKit
import Derived.KernelRfl
import Derived.RowKit3
import Derived.Deep.LoopGhost
import Derived.Deep.QuietTactic
import Derived.BigQuiet
import Derived.WideLaws
import Derived.Deep.DeepCutAuto
import Derived.Deep.CutBlock
import Derived.Deep.RegionHeld3
import Derived.Laws.Rows
import Derived.Lib.AppendStr
import Derived.ArgAppend
import Derived.Laws.IdiomCopy
import Derived.OrdersHeld
import Derived.Laws.BitsLemmas
import Derived.RowKit
import Derived.Shelf.Spec.TrailingZeros
import Derived.Lib.LaidTab
import Derived.Lib.Hide
import Derived.Laws.StructEq
import Derived.Shelf.Spec.BitsCarry
import Derived.Laws.BitsAllLaws
import Derived.OpenShut
import Derived.Laws.CopyOwn
import Derived.StillTailTactics
import Derived.Outline
import Derived.RegionTactic
import Derived.ChangeAlike
import Derived.BigRegion
/-! Texts of this claim, joined: Shelf, PPlanx0, PFftx2, PFftx6, FftA, FftB, FldC, PFftx7, KernK, GrdA, FftC, GrdB, GrdC, GrdD, GrdF, GrdH, PTr32, GrdI, GrdJ, GrdK, GrdL. -/
section
namespace Go.Proofs.YtpnkcjnemoompaaDoor
open Go.Shelf
def Lay.laysSlE041_f71_ren : Go.Shelf.Ren := ⟨fun | 41 => 71 | n => n, fun | 22 => 24 | 23 => 45 | 4 => 4 | n => n, fun | n => n⟩
theorem Lay.laysSlE041_f71 : Go.Proofs.SlLaysE0.n41 Tryd.prog Lay.laysSlE041_f71_ren := {
  mixed := by kernel_rfl
  f41 := ⟨Tryd.f71.name, by decide, Tryd.func71.trans (congrArg some (by kernel_rfl))⟩
  t4 := Tryd.underlying4
  a4 := Tryd.isAgg4
  z4 := Tryd.sizeOf4
  v4 := Tryd.zeroValue4
  t22 := Tryd.underlying24
  a22 := Tryd.isAgg24
  z22 := Tryd.sizeOf24
  v22 := Tryd.zeroValue24 }
open Go.RowKit Go.Lib in
theorem Lay.slices_Clone (i0 : TypeInfo) (z : Value) (size bytes : Nat) (hi : Tryd.prog.info? 45 = some i0) (hz0 : i0.zero = some z) (hz1 : i0.size = size) (hz2 : i0.bytes = bytes) (hzs : z.cells.size = size) (hsz : 0 < size) (z23 : ∀ w, (Go.sizeOf 45).run Tryd.prog w = .ok size w) (b off n c : Nat) (news : List Value) (w : World) (hl : news.length = n * size) (hn : n ≤ maxLen) (hbig : n * bytes ≤ 140737488355328) (hc : ∀ j u, news[j]? = some u → w.cell? ⟨b, off + j, none⟩ = some u) (h1 : ∀ u ∈ news, u.oneCell' = true) :
    Calls Tryd.prog 71 #[.slice (some ⟨b, off, none⟩) n c] w fun e w' => ∃ v', e = .returned v' ∧ w'.ownsRow w.heap.size 45 size v' n news ∧ v' ≠ .slice none 0 0 ∧ Below w.heap.size w w' := AnyE.slices_Clone Lay.laysSlE041_f71 i0 z size bytes hi hz0 hz1 hz2 hzs hsz z23 b off n c news w hl hn hbig hc h1
end Go.Proofs.YtpnkcjnemoompaaDoor
end
section
namespace Go.Proofs.YtpnkcjnemoompaaDoor.PPlan
open Go.RowKit Go.Proofs.YtpnkcjnemoompaaDoor.Ext Go.Proofs.YtpnkcjnemoompaaDoorW.PrintWords Go.Proofs.YtpnkcjnemoompaaDoorW.PrintLast Go.Proofs.YtpnkcjnemoompaaDoorW.PrintMore
attribute [local go_sem] max2_int min2_int max_two min_two max_three min_three max_four min_four   -- for this text's walks alone
set_option linter.unusedVariables false
set_option linter.unusedSimpArgs false
def z23 : S23 := ⟨(0 : Int), (0 : Int)⟩
end Go.Proofs.YtpnkcjnemoompaaDoor.PPlan
end
section
namespace Go.Proofs.YtpnkcjnemoompaaDoor.PFft
open Go.RowKit Go.Proofs.YtpnkcjnemoompaaDoor.Ext Go.Proofs.YtpnkcjnemoompaaDoor.PPlan Go.Proofs.YtpnkcjnemoompaaDoorW.PrintWords Go.Proofs.YtpnkcjnemoompaaDoorW.PrintLast Go.Proofs.YtpnkcjnemoompaaDoorW.PrintMore
attribute [local go_sem] max2_int min2_int max_two min_two max_three min_three max_four min_four   -- for this text's walks alone
set_option linter.unusedVariables false
set_option linter.unusedSimpArgs false
def twid_Scale.l0 : Nat → Int → List Int → List Int → Int → Int → Option (List Int)
  | 0, _, _, _, _, _ => none
  | k + 1, x1, x5, x11, x12, x13 => if x13 < x12 then (if 0 ≤ x13 then (if x13 < (x11.length : Int) then ((gold_Mul.f (rd x11 x13) x1).bind fun t141 => (if x13 < (x5.length : Int) then (twid_Scale.l0 k x1 (x5.set (x13 : Int).toNat t141) x11 x12 (wrap64 (x13 + 1))) else (none))) else (none)) else (none)) else (some x5)
def twid_Scale.f (k : Nat) (l0 : List Int) (a1 : Int) : Option (List Int) := if 0 ≤ (l0.length : Int) then (if ((l0.length : Int) : Int).toNat ≤ 35184372088832 then (twid_Scale.l0 k a1 (List.replicate ((l0.length : Int) : Int).toNat 0) l0 (l0.length : Int) 0) else (none)) else (none)
set_option maxHeartbeats 8000000 in
set_option maxRecDepth 100000 in
theorem twid_Scale.calls (k : Nat) (A0 : Option Addr) (c0 : Nat) (l0 : List Int) (a1 : Int) (r : List Int) (w : World) (hr0 : Kd.C (Kd.int .u64) w A0 l0.length l0) (hc0 : l0.length ≤ c0) (h : twid_Scale.f k l0 a1 = some r) :
    Calls Tryd.prog 70 #[.slice A0 l0.length c0, .int .u64 a1] w fun e w' => ∃ v0_ : Value, e = .returned (v0_) ∧ Kd.R (Kd.int .u64) 45 w' w.heap.size (fun _ => True) v0_ r ∧ Below w.heap.size w w' := by
  have HR0 := Aside0.mk hr0
  have HC0 := Aside0.mk hc0
  clear hr0 hc0
  have HB := Aside0.mk (Below.refl w.heap.size w)
  have H : (if 0 ≤ (l0.length : Int) then (if ((l0.length : Int) : Int).toNat ≤ 35184372088832 then (twid_Scale.l0 k a1 (List.replicate ((l0.length : Int) : Int).toNat 0) l0 (l0.length : Int) 0) else (none)) else (none)) = some r := h
  clear h
  by_cases c3 : 0 ≤ (l0.length : Int)
  · rw [if_pos c3] at H
    have c3b0 := eq_true c3
    have c3b1 : decide (0 ≤ (l0.length : Int)) = true := decide_eq_true c3
    clear c3
    by_cases c4 : ((l0.length : Int) : Int).toNat ≤ 35184372088832
    · rw [if_pos c4] at H
      have c4b0 := eq_true c4
      have c4b1 : decide (((l0.length : Int) : Int).toNat ≤ 35184372088832) = true := decide_eq_true c4
      clear c4
      obtain ⟨y137, hy137⟩ : ∃ y_ : List Int, y_ = (List.replicate ((l0.length : Int) : Int).toNat 0) := ⟨_, rfl⟩
      replace H : (twid_Scale.l0 k a1 y137 l0 (l0.length : Int) 0) = some r := by first | (rw [hy137]; with_reducible exact H) | (have H2_ := (Option.bind_some _ _).symm.trans H; rw [hy137]; with_reducible exact H2_) | (have H2_ := (Option.bind_some _ _).symm.trans H; with_reducible exact H2_) | with_reducible exact H | (rw [hy137]; exact H) | exact H
      have Ny137 := Aside0.mk hy137
      clear hy137
      have H' := Aside0.mk H
      clear H
      go_enter Tryd.func70, Tryd.ntmps70
      go_wp2_with (first | ((with_reducible refine gate_dst (N := 10) rfl ?_); refine Kd.R_make (Kd.int .u64) _ 45 rfl (N := 10) rfl 24 _ _ rfl (l0.length : Int) rfl rfl Tryd.underlying24 (.int .u64 0) 8 info45 rfl (by decide) (by omega) 0 (ok := fun _ => True) (okp := fun _ => True) rfl (fun _ hk => hk) trivial (of_decide_eq_true (by first | (with_reducible assumption) | assumption)) (Nat.le_trans (Nat.mul_le_mul_right _ (of_decide_eq_true (by first | (with_reducible assumption) | assumption) : (l0.length : Int).toNat ≤ 35184372088832)) (by omega)) (Below.refl _ _) (Nat.le_refl _) ?_; intro v138 w5 ho6 hb hg_ hnew_; clear hg_ hnew_; (first | rw [← Ny137.out] at ho6 | (simp only [Int.reduceToNat] at ho6; rw [← Ny137.out] at ho6)); have n0_ := Aside0.mk (Kd.R_lower ho6 (below_size (by repeat (first | (with_reducible first | exact HB.out | apply below_alloc | apply pw_below_drewN | apply below_drew1) | exact HB.out)))); have n1_ := Aside0.mk (below_step (by repeat (first | (with_reducible first | exact HB.out | apply below_alloc | apply pw_below_drewN | apply below_drew1) | exact HB.out)) hb); clear HB; have HO139 := n0_; have HB := n1_; clear n0_ n1_; clear hb ho6))
      go_loopg [13] k (fun kq v13 w' => ∃ (x5_1 : List Int) (x13_1 : Int), v13 = .int .i64 x13_1 ∧ Aside0 (twid_Scale.l0 kq a1 x5_1 l0 (l0.length : Int) x13_1 = some r) ∧ Aside0 (kq ≤ k) ∧ Aside0 (Kd.R (Kd.int .u64) 45 w' w.heap.size (fun _ => True) v138 x5_1) ∧ Aside0 (Below w.heap.size w w'))
      case atStart => exact ⟨(y137), (0), (by first | rfl | (simp; done) | (simp [*]; done)), H', ⟨Nat.le_refl _⟩, ⟨by (with_reducible repeat (first | apply Kd.R_alloc | apply Kd.R_drewN | apply Kd.R_drew)); exact HO139.out⟩, ⟨by repeat (first | (with_reducible first | exact HB.out | apply below_alloc | apply pw_below_drewN | apply below_drew1) | exact HB.out)⟩⟩
      case round =>
        clear H'
        try clear p2
        try clear c3
        try clear c3b0
        try clear c3b1
        try clear c4
        try clear c4b0
        try clear c4b1
        obtain ⟨x5_1, x13_1, rfl, HA, HK1, HO_5, HB⟩ := hrel
        cases gk with
        | zero => exact absurd HA.out (by simp [twid_Scale.l0])
        | succ k1 =>
          have H := HA.out
          clear HA
          simp only [twid_Scale.l0] at H
          by_cases c7 : x13_1 < (l0.length : Int)
          · rw [if_pos c7] at H
            have c7b0 : decide (x13_1 < (l0.length : Int)) = true := decide_eq_true c7
            clear c7
            by_cases c8 : 0 ≤ x13_1
            · rw [if_pos c8] at H
              have c8b0 : decide (0 ≤ x13_1) = true := decide_eq_true c8
              clear c8
              by_cases c9 : x13_1 < (l0.length : Int)
              · rw [if_pos c9] at H
                have c9b0 : decide (x13_1 < (l0.length : Int)) = true := decide_eq_true c9
                clear c9
                replace H := Option.bind_eq_some_iff.mp H
                obtain ⟨t141, A100, H⟩ := H
                replace H : (if x13_1 < (x5_1.length : Int) then (twid_Scale.l0 k1 a1 (x5_1.set (x13_1 : Int).toNat t141) l0 (l0.length : Int) (wrap64 (x13_1 + 1))) else (none)) = some r := H
                have A10 := Aside0.mk A100
                clear A100
                by_cases c11 : x13_1 < (x5_1.length : Int)
                · rw [if_pos c11] at H
                  have c11b0 : decide (x13_1 < (x5_1.length : Int)) = true := decide_eq_true c11
                  clear c11
                  obtain ⟨y142, hy142⟩ : ∃ y_ : List Int, y_ = (x5_1.set (x13_1 : Int).toNat t141) := ⟨_, rfl⟩
                  replace H : (twid_Scale.l0 k1 a1 y142 l0 (l0.length : Int) (wrap64 (x13_1 + 1))) = some r := by first | (rw [hy142]; with_reducible exact H) | (have H2_ := (Option.bind_some _ _).symm.trans H; rw [hy142]; with_reducible exact H2_) | (have H2_ := (Option.bind_some _ _).symm.trans H; with_reducible exact H2_) | with_reducible exact H | (rw [hy142]; exact H) | exact H
                  have Ny142 := Aside0.mk hy142
                  clear hy142
                  have H' := Aside0.mk H
                  clear H
                  have p140 : 0 ≤ (x13_1 : Int) := of_decide_eq_true (by first | (with_reducible assumption) | assumption)
                  have q140 : x13_1 < (l0.length : Int) := of_decide_eq_true (by first | (with_reducible assumption) | assumption)
                  obtain ⟨ad140, e140, hx140_0⟩ := Kd.at_int HR0.out x13_1 p140 q140
                  cases e140
                  replace hx140_0 := (HB.out.cell (World.block_lt_of_cell? w _ hx140_0)).trans hx140_0
                  replace p140 := eq_true p140
                  replace q140 := eq_true q140
                  go_wp2_with (first | ((with_reducible refine gate_callee (f := 77) rfl ?_); refine goesL_ (some 22) rfl rfl Tryd.func77 (by kernel_rfl) rfl #[.int .u64 (rd l0 x13_1), .int .u64 a1] rfl (by (try simp only [List.map_toArray, List.map_cons, List.map_nil]); first | done | rfl | (simp only [List.length_drop, List.length_take]; rfl)) ?_; (with_reducible refine (gold_Mul.calls (rd l0 x13_1) a1 t141 _ A10.out).mono ?_); rintro e w13 ⟨rfl, hb⟩; refine ⟨_, rfl, ?_⟩; have n0_ := Aside0.mk (Kd.R_below (by (with_reducible repeat (first | apply Kd.R_alloc | apply Kd.R_drewN | apply Kd.R_drew)); exact HO_5.out) hb); have n1_ := Aside0.mk (below_step (by repeat (first | (with_reducible first | exact HB.out | apply below_alloc | apply pw_below_drewN | apply below_drew1) | exact HB.out)) hb); clear HO_5; clear HB; have HO_5 := n0_; have HB := n1_; clear n0_ n1_; (try clear hb); (try clear hb2); (try clear hk); (try clear hi); have p12 : 0 ≤ (x13_1 : Int) := of_decide_eq_true (by first | (with_reducible assumption) | assumption); have q12 : (x13_1 : Int) < ((x5_1.length : Int) : Int) := of_decide_eq_true (by first | (with_reducible assumption) | assumption); obtain ⟨go12, co12, eo12, gb12, gl12, cl12, HG12⟩ := Kd.R_form HO_5.out (by omega); (first | cases eo12 | (injection eo12 with ea_ en_ ec_; (first | subst ea_ | (injection ea_ with ea_; subst ea_)); subst ec_; clear en_)); have GB12 := Aside0.mk gb12; have GG12 := Aside0.mk HG12; clear gb12 gl12 HG12; obtain ⟨hx12_0, hf12_0⟩ := Kd.R_celln 0 HO_5.out (x13_1 : Int) p12 q12; replace p12 := eq_true p12; replace q12 := eq_true q12; obtain ⟨hy14_, hz14_⟩ := Kd.R_celln 0 HO_5.out (x13_1 : Int) (of_decide_eq_true (by first | (with_reducible assumption) | assumption)) (of_decide_eq_true (by first | (with_reducible assumption) | assumption)); have HP14 := Kd.R_putg HO_5.out (x13_1 : Int) t141) | ((with_reducible refine gate_store (t := 45) (p := 23) rfl ?_); refine store_event (t := 45) (p := 23) (v := ?vo_w15) (w1 := (w13.setCell ⟨go12, (x13_1 : Int).toNat, none⟩ (.int .u64 t141))) ?hg ?ho ?hn ?hr ?_; (case ho => rfl); (case hg => rfl); (case hn => rfl); (case hr => first | (go_simp; done) | (go_simp; rfl)); intro w15 hw; have hg : w13.grownBy w15 (some go12) := (by rw [hw]; exact HP14.2); have hp_ : Kd.R (Kd.int .u64) 45 w15 w.heap.size (fun _ => True) (.slice (some ⟨go12, 0, none⟩) x5_1.length co12) y142 := (by rw [hw, Ny142.out]; exact HP14.1); clear HP14; have n0_ := Aside0.mk (hp_); have n1_ := Aside0.mk ((by rw [hw]; exact below_set (HB.out) GB12.out : Below w.heap.size w w15)); clear HO_5; clear HB; have HO_5 := n0_; have HB := n1_; clear n0_ n1_; clear hg hw hp_))
                  go_roundg k1
                  case measure => have := HK1.out; omega
                  case rel => exact ⟨(y142), (wrap64 (x13_1 + 1)), (by first | rfl | (simp; done) | (simp [*]; done)), H', ⟨by have := HK1.out; omega⟩, ⟨by (with_reducible repeat (first | apply Kd.R_alloc | apply Kd.R_drewN | apply Kd.R_drew)); exact HO_5.out⟩, ⟨by repeat (first | (with_reducible first | exact HB.out | apply below_alloc | apply pw_below_drewN | apply below_drew1) | exact HB.out)⟩⟩
                · rw [if_neg c11] at H
                  exact absurd H (by simp)
              · rw [if_neg c9] at H
                exact absurd H (by simp)
            · rw [if_neg c8] at H
              exact absurd H (by simp)
          · rw [if_neg c7] at H
            have c7b0 : decide (x13_1 < (l0.length : Int)) = false := decide_eq_false c7
            clear c7
            obtain rfl := Option.some.inj H
            go_wp2
            go_ret
            exact ⟨_, by first | rfl | (simp [errW_none, errW_some] <;> rfl) | (simp [*, errW_none, errW_some] <;> rfl), by (with_reducible repeat (first | apply Kd.R_alloc | apply Kd.R_drewN | apply Kd.R_drew)); exact HO_5.out, by repeat (first | (with_reducible first | exact HB.out | apply below_alloc | apply pw_below_drewN | apply below_drew1) | exact HB.out)⟩
    · rw [if_neg c4] at H
      exact absurd H (by simp)
  · rw [if_neg c3] at H
    exact absurd H (by simp)
end Go.Proofs.YtpnkcjnemoompaaDoor.PFft
end
section
namespace Go.Proofs.YtpnkcjnemoompaaDoor.PFft
open Go.RowKit Go.Proofs.YtpnkcjnemoompaaDoor.Ext Go.Proofs.YtpnkcjnemoompaaDoor.PPlan Go.Proofs.YtpnkcjnemoompaaDoorW.PrintWords Go.Proofs.YtpnkcjnemoompaaDoorW.PrintLast Go.Proofs.YtpnkcjnemoompaaDoorW.PrintMore
attribute [local go_sem] max2_int min2_int max_two min_two max_three min_three max_four min_four   -- for this text's walks alone
set_option linter.unusedVariables false
set_option linter.unusedSimpArgs false
def abacistref08_Canon.f (k : Nat) (l0 : List Int) : Option (List Int) := (abacistref08_Scale.f k l0 1).bind fun t252 => (some t252)
set_option maxHeartbeats 8000000 in
set_option maxRecDepth 100000 in
theorem abacistref08_Canon.calls (k : Nat) (A0 : Option Addr) (c0 : Nat) (l0 : List Int) (r : List Int) (w : World) (hr0 : Kd.C (Kd.int .u64) w A0 l0.length l0) (hc0 : l0.length ≤ c0) (h : abacistref08_Canon.f k l0 = some r) :
    Calls Tryd.prog 21 #[.slice A0 l0.length c0] w fun e w' => ∃ v0_ : Value, e = .returned (v0_) ∧ Kd.R (Kd.int .u64) 45 w' w.heap.size (fun _ => True) v0_ r ∧ Below w.heap.size w w' := by
  have HR0 := Aside0.mk hr0
  have HC0 := Aside0.mk hc0
  clear hr0 hc0
  have HB := Aside0.mk (Below.refl w.heap.size w)
  have H : ((abacistref08_Scale.f k l0 1).bind fun t252 => (some t252)) = some r := h
  clear h
  replace H := Option.bind_eq_some_iff.mp H
  obtain ⟨t252, A20, H⟩ := H
  replace H : (some t252) = some r := H
  have A2 := Aside0.mk A20
  clear A20
  obtain rfl := Option.some.inj H
  go_enter Tryd.func21, Tryd.ntmps21
  go_wp2_with (first | ((with_reducible refine gate_callee (f := 54) rfl ?_); refine goesL_ (some 4) rfl rfl Tryd.func54 (by kernel_rfl) rfl #[.slice A0 l0.length c0, .int .u64 1] rfl (by (try simp only [List.map_toArray, List.map_cons, List.map_nil]); first | done | rfl | (simp only [List.length_drop, List.length_take]; rfl)) ?_; (with_reducible refine (abacistref08_Scale.calls k _ _ l0 1 t252 _ ?side1 ?side2 A2.out).mono ?_); (case side1 => repeat (first | exact HR0.out | (with_reducible refine Kd.C_alloc ?_ _) | (with_reducible refine Kd.C_drewN ?_ _) | (with_reducible refine Kd.C_drew ?_))); (case side2 => exact HC0.out); rintro e w3 ⟨v253, rfl, ho0, hb⟩; refine ⟨_, rfl, ?_⟩; have n0_ := Aside0.mk (Kd.R_lower ho0 (below_size (by repeat (first | (with_reducible first | exact HB.out | apply below_alloc | apply pw_below_drewN | apply below_drew1) | exact HB.out)))); have n1_ := Aside0.mk (below_step (by repeat (first | (with_reducible first | exact HB.out | apply below_alloc | apply pw_below_drewN | apply below_drew1) | exact HB.out)) hb); clear HB; have HO254 := n0_; have HB := n1_; clear n0_ n1_; (try clear hb); (try clear hb2); (try clear hk); (try clear hi); (try clear ho0)))
  go_ret
  exact ⟨_, by first | rfl | (simp [errW_none, errW_some] <;> rfl) | (simp [*, errW_none, errW_some] <;> rfl), by (with_reducible repeat (first | apply Kd.R_alloc | apply Kd.R_drewN | apply Kd.R_drew)); exact HO254.out, by repeat (first | (with_reducible first | exact HB.out | apply below_alloc | apply pw_below_drewN | apply below_drew1) | exact HB.out)⟩
end Go.Proofs.YtpnkcjnemoompaaDoor.PFft
end
section
namespace Go.Proofs.YtpnkcjnemoompaaDoor.Fft
set_option linter.unusedVariables false
set_option linter.unusedSimpArgs false
theorem sm_mull (n : Nat) (f : Nat → F) (c : F) : sm n (fun i => c * f i) = c * sm n f := by
  induction n with
  | zero => rw [sm_zero, sm_zero]; grobner
  | succ n ih => rw [sm_succ, sm_succ, ih]; grobner
theorem sm_pick (n k : Nat) (hk : k < n) (f : Nat → F) (h : ∀ i, i < n → i ≠ k → f i = 0) : sm n f = f k := by
  induction n with
  | zero => omega
  | succ n ih =>
    rw [sm_succ]
    by_cases e : k = n
    · subst e
      rw [sm_congr (g := fun _ => 0) (fun i hi => h i (by omega) (by omega)), sm_none]; grobner
    · rw [ih (by omega) (fun i hi hne => h i (by omega) hne), h n (by omega) (fun e2 => e e2.symm)]; grobner
end Go.Proofs.YtpnkcjnemoompaaDoor.Fft
end
section
namespace Go.Proofs.YtpnkcjnemoompaaDoor.Fft
set_option linter.unusedVariables false
set_option linter.unusedSimpArgs false
theorem sum_pows (k : Nat) : ∀ (w : F), (0 < k → pw w (2 ^ (k - 1)) = -1) → ∀ j, sm (2 ^ k) (fun i => pw w (i * j)) = if j % 2 ^ k = 0 then pw 2 k else 0 := by
  induction k with
  | zero =>
    intro w _ j
    rw [Nat.pow_zero, sm_one, Nat.zero_mul, pw_zero, if_pos (Nat.mod_one j), pw_zero]
  | succ k ih =>
    intro w hw j
    have hw' := hw (by omega)
    rw [Nat.add_sub_cancel] at hw'
    have e : ∀ i, pw w ((2 ^ k + i) * j) = pw w (i * j) * pw w (2 ^ k * j) := by
      intro i; rw [Nat.add_mul, Nat.add_comm, pw_add]
    rw [Nat.pow_succ, Nat.mul_comm, Nat.two_mul, sm_plus, sm_congr (f := fun i => pw w ((2 ^ k + i) * j)) (fun i _ => e i), sm_mulr, pw_mul, hw']
    rcases Nat.mod_two_eq_zero_or_one j with hj | hj
    · obtain ⟨m, rfl⟩ : ∃ m, j = 2 * m := ⟨j / 2, by omega⟩
      have e1 : pw (-1) (2 * m) = 1 := by rw [pw_mul, pw_two, show (-1 : F) * -1 = 1 by grobner, one_pw]
      have e2 := ih (pw w 2) (fun hk => by rw [← pw_mul, ← hw']; congr 1; rw [← Nat.pow_succ']; congr 1; omega) m
      rw [sm_congr (g := fun i => pw (pw w 2) (i * m)) (fun i _ => by rw [← pw_mul]; congr 1; simp only [Nat.mul_left_comm]), e2, e1]
      have e3 : 2 * m % (2 ^ k + 2 ^ k) = 2 * (m % 2 ^ k) := by rw [← Nat.two_mul, Nat.mul_mod_mul_left]
      by_cases hm : m % 2 ^ k = 0
      · rw [if_pos hm, if_pos (by omega), pw_succ]; grobner
      · rw [if_neg hm, if_neg (by omega)]; grobner
    · have e1 : pw (-1) j = -1 := by
        obtain ⟨m, rfl⟩ : ∃ m, j = 2 * m + 1 := ⟨j / 2, by omega⟩
        rw [pw_succ, pw_mul, pw_two, show (-1 : F) * -1 = 1 by grobner, one_pw]; grobner
      rw [e1, if_neg ?_]
      · grobner
      · rw [← Nat.two_mul]
        intro h
        have := Nat.mod_mul_right_mod j 2 (2 ^ k)
        omega
theorem dft_back (k : Nat) (w v : F) (hv : v * w = 1) (hw : 0 < k → pw w (2 ^ (k - 1)) = -1) (hfull : pw w (2 ^ k) = 1) (f : Nat → F) (j : Nat) (hj : j < 2 ^ k) : dft (2 ^ k) v (dft (2 ^ k) w f) j = f j * pw 2 k := by
  have hvp : ∀ n, pw v n = pw w (n * (2 ^ k - 1)) := by
    intro n
    have hp := Nat.two_pow_pos k
    have h1 : pw v n * pw w n = 1 := by rw [← mul_pw, hv, one_pw]
    have h2 : pw w (n * (2 ^ k - 1)) * pw w n = 1 := by
      rw [← pw_add, show n * (2 ^ k - 1) + n = n * 2 ^ k by rw [Nat.mul_sub, Nat.mul_one]; have : n ≤ n * 2 ^ k := Nat.le_mul_of_pos_right _ hp; omega, pw_mul', hfull, one_pw]
    generalize pw v n = a at *
    generalize pw w n = b at *
    generalize pw w (n * (2 ^ k - 1)) = c at *
    grobner
  have hp := Nat.two_pow_pos k
  unfold dft
  rw [sm_congr (g := fun i => sm (2 ^ k) (fun m => f m * pw w (i * (m + j * (2 ^ k - 1))))) (fun i _ => by
    rw [← sm_mulr]
    refine sm_congr fun m _ => ?_
    rw [hvp, Nat.mul_add, pw_add, show i * j * (2 ^ k - 1) = i * (j * (2 ^ k - 1)) by rw [Nat.mul_assoc], Nat.mul_comm m i]
    grobner), sm_swap, sm_congr (g := fun m => f m * (if (m + j * (2 ^ k - 1)) % 2 ^ k = 0 then pw 2 k else 0)) (fun m _ => by rw [sm_mull, sum_pows k w hw])]
  have hz : ∀ m, m < 2 ^ k → ((m + j * (2 ^ k - 1)) % 2 ^ k = 0 ↔ m = j) := by
    intro m hm
    have e : m + j * (2 ^ k - 1) + j = m + j * 2 ^ k := by rw [Nat.mul_sub, Nat.mul_one]; have : j ≤ j * 2 ^ k := Nat.le_mul_of_pos_right _ hp; omega
    have e2 : (m + j * (2 ^ k - 1) + j) % 2 ^ k = m := by rw [e, Nat.add_mul_mod_self_right, Nat.mod_eq_of_lt hm]
    rw [Nat.add_mod, Nat.mod_eq_of_lt hj] at e2
    constructor
    · intro h
      rw [h, Nat.zero_add, Nat.mod_eq_of_lt hj] at e2
      omega
    · intro h
      have hlt := Nat.mod_lt (m + j * (2 ^ k - 1)) hp
      generalize (m + j * (2 ^ k - 1)) % 2 ^ k = x at *
      by_cases hx : x + j < 2 ^ k
      · rw [Nat.mod_eq_of_lt hx] at e2; omega
      · rw [Nat.mod_eq_sub_mod (by omega), Nat.mod_eq_of_lt (by omega)] at e2; omega
  rw [sm_pick (2 ^ k) j hj _ (fun m hm hne => by rw [if_neg (fun h => hne ((hz m hm).1 h))]; grobner), if_pos ((hz j hj).2 rfl)]
end Go.Proofs.YtpnkcjnemoompaaDoor.Fft
end
section
set_option linter.unusedVariables false
set_option linter.unusedSimpArgs false
namespace Go.Proofs.YtpnkcjnemoompaaDoor.Fft
open Go.RowKit Go.Proofs.YtpnkcjnemoompaaDoor Go.Proofs.YtpnkcjnemoompaaDoor.Pure Go.Proofs.YtpnkcjnemoompaaDoor.PPlan Go.Proofs.YtpnkcjnemoompaaDoor.PFft Go.Proofs.YtpnkcjnemoompaaDoor.Ext Go.Proofs.YtpnkcjnemoompaaDoorW.PrintWords Go.Proofs.YtpnkcjnemoompaaDoorW.PrintLast Go.Proofs.YtpnkcjnemoompaaDoorW.PrintMore
theorem rCanon (l : List Int) (hl : Ws l) (hlen : l.length ≤ 1048576) : Ev (fun k => abacistref08_Canon.f k l) (tb l.length (el l)) := by
  unfold abacistref08_Canon.f
  have := rScale l hl 1 (by decide) hlen
  rw [tb_congr (g := el l) (fun i _ => by rw [fo_one]; grobner)] at this
  exact Ev.bind this (Ev.now _)
theorem gScale_l0 (l : List Int) (hl : Ws l) (a : Int) (ha : W64 a) (hlen : l.length ≤ 1048576) (m : Nat) : ∀ j, j + m = l.length → Ev (fun k => twid_Scale.l0 k a (fl l.length j fun i => el l i * fo a) l (l.length : Int) (j : Int)) (tb l.length fun i => el l i * fo a) := by
  induction m with
  | zero =>
    intro j hj
    obtain rfl : j = l.length := by omega
    rw [fl_full]
    refine Ev.step (f := fun _ => some _) (fun k => ?_) (Ev.now _)
    simp only [twid_Scale.l0]
    rw [if_neg (by omega)]
  | succ m ih =>
    intro j hj
    refine Ev.step (f := fun k => twid_Scale.l0 k a (fl l.length (j + 1) fun i => el l i * fo a) l (l.length : Int) ((j + 1 : Nat) : Int)) (fun k => ?_) (ih (j + 1) (by omega))
    simp only [twid_Scale.l0]
    rw [if_pos (by omega), if_pos (by omega), if_pos (by omega), rdn, gMul _ _ (hl j) ha, Option.bind_some, if_pos (by rw [fl_len _ (by omega)]; omega), Int.toNat_natCast, fl_set (fun i => el l i * fo a) (show j < l.length by omega) (fv (fo (l.getD j 0) * fo a)) rfl, wsucc j (by omega)]
theorem gScale (l : List Int) (hl : Ws l) (a : Int) (ha : W64 a) (hlen : l.length ≤ 1048576) : Ev (fun k => twid_Scale.f k l a) (tb l.length fun i => el l i * fo a) := by
  unfold twid_Scale.f
  refine Ev_if (by omega) (Ev_if (by rw [Int.toNat_natCast]; omega) ?_)
  rw [Int.toNat_natCast, ← fl_zero l.length (fun i => el l i * fo a)]
  exact gScale_l0 l hl a ha hlen l.length 0 (by omega)
end Go.Proofs.YtpnkcjnemoompaaDoor.Fft
end
section
namespace Go.Proofs.YtpnkcjnemoompaaDoor.PFft
open Go.RowKit Go.Proofs.YtpnkcjnemoompaaDoor.Ext Go.Proofs.YtpnkcjnemoompaaDoor.PPlan Go.Proofs.YtpnkcjnemoompaaDoorW.PrintWords Go.Proofs.YtpnkcjnemoompaaDoorW.PrintLast Go.Proofs.YtpnkcjnemoompaaDoorW.PrintMore
attribute [local go_sem] max2_int min2_int max_two min_two max_three min_three max_four min_four   -- for this text's walks alone
set_option linter.unusedVariables false
set_option linter.unusedSimpArgs false
mutual
def abacistref32_Transform.l0 : Nat → List Int → Int → Int → Int → List Int → Int → Int → Int → Option (List Int)
  | 0, _, _, _, _, _, _, _, _ => none
  | k + 1, x0, x2, x7, x8, x9, x10, x270000, x270001 => if x10 < (x0.length : Int) then (abacistref32_Transform.l1 k x0 x2 x7 x8 x9 x10 0 0 x270000 x270001) else (if x2 = 1 then ((abacistref03_Fits.f k (x0.length : Int)).bind fun t283 => ((abacistref08_Share.f k t283).bind fun t284 => ((abacistref08_Scale.f k x9 t284).bind fun t285 => (some t285)))) else (some x9))
def abacistref32_Transform.l1 : Nat → List Int → Int → Int → Int → List Int → Int → Int → Int → Int → Int → Option (List Int)
  | 0, _, _, _, _, _, _, _, _, _, _ => none
  | k + 1, x0, x2, x7, x8, x9, x10, x11, x12, x270000, x270001 => if x12 < (x0.length : Int) then (if x270001 = 0 then (none) else ((abacistref02_Pow.f k x7 (IntKind.u64.wrap (wrap64 ((wrap64 (Int.tdiv x10 x270001)) * (wrap64 (Int.tdiv x12 x270001)))))).bind fun t277 => ((abacistref02_Pow.f k x8 (IntKind.u64.wrap (wrap64 ((Int.tmod x10 x270001) * (Int.tmod x12 x270001))))).bind fun t278 => ((abacistref02_Mul.f k t277 t278).bind fun t279 => (if 0 ≤ x12 then ((abacistref02_Mul.f k (rd x0 x12) t279).bind fun t281 => ((abacistref02_Add.f x11 t281).bind fun t282 => (abacistref32_Transform.l1 k x0 x2 x7 x8 x9 x10 t282 (wrap64 (x12 + 1)) x270000 x270001))) else (none)))))) else (if x9.length < 17592186044416 then (abacistref32_Transform.l0 k x0 x2 x7 x8 (x9 ++ [x11]) (wrap64 (x10 + 1)) x270000 x270001) else (none))
end
def abacistref32_Transform.f (k : Nat) (l0 : List Int) (a1_0 : Int) (a1_1 : Int) (a2 : Int) : Option (List Int) := (abacistref03_Fits.f k a1_0).bind fun t270 => ((abacistref08_Root.f k t270 a2).bind fun t271 => ((abacistref03_Fits.f k a1_1).bind fun t272 => ((abacistref08_Root.f k t272 a2).bind fun t273 => (abacistref32_Transform.l0 k l0 a2 t271 t273 ([] : List Int) 0 a1_0 a1_1))))
end Go.Proofs.YtpnkcjnemoompaaDoor.PFft
end
section
namespace Go.Proofs.YtpnkcjnemoompaaDoor.Kern
open Go.RowKit Go.Proofs.YtpnkcjnemoompaaDoor Go.Proofs.YtpnkcjnemoompaaDoor.Ext Go.Proofs.YtpnkcjnemoompaaDoor.PPlan Go.Proofs.YtpnkcjnemoompaaDoor.PFft Go.Proofs.YtpnkcjnemoompaaDoor.Pure Go.Proofs.YtpnkcjnemoompaaDoor.Obj Go.Proofs.YtpnkcjnemoompaaDoor.Fft Go.Proofs.YtpnkcjnemoompaaDoorW.PrintWords Go.Proofs.YtpnkcjnemoompaaDoorW.PrintLast Go.Proofs.YtpnkcjnemoompaaDoorW.PrintMore
set_option linter.unusedVariables false
set_option linter.unusedSimpArgs false
set_option maxRecDepth 100000
theorem rows_no (A : Option Addr) (c : Nat) (l : List Int) (R C d r : Int) (w : World) (hl : In w A c l) (hr : r = ckw l R C d) (h0 : (r != 0) = true) (hT : TabOK w) :
    Calls Tryd.prog 41 #[.slice A l.length c, .agg #[.int .i64 R, .int .i64 C], .int .i64 d] w fun e w' => e = .returned (.int .i64 r) ∧ Below w.heap.size w w' := by
  obtain ⟨k, hk⟩ := (check_is l R C d).rounds
  rw [← hr] at hk
  have HK := Aside0.mk hk
  have HB := Aside0.mk (below_alloc (Below.refl w.heap.size w) (Obj.cells #[.int .i64 R, .int .i64 C] 23))
  have HL := Aside0.mk (hl.below HB.out)
  have HT := Aside0.mk (hT.below HB.out)
  clear hk hr hl hT
  go_enter Tryd.func41, Tryd.ntmps41
  go_wp2_with fail
  refine (rows_check.calls k A c l R C d r _ HL.out.r HL.out.c HK.out HT.out).mono ?_
  rintro e w1 ⟨rfl, hb⟩
  have HB1 := Aside0.mk (below_then HB.out HB.out.size hb)
  clear hb
  go_wp2
  go_ret
  exact ⟨rfl, HB1.out⟩
end Go.Proofs.YtpnkcjnemoompaaDoor.Kern
end
section
namespace Go.Proofs.YtpnkcjnemoompaaDoor.Grid
open Go.RowKit Go.Proofs.YtpnkcjnemoompaaDoor Go.Proofs.YtpnkcjnemoompaaDoor.Ext Go.Proofs.YtpnkcjnemoompaaDoor.PPlan Go.Proofs.YtpnkcjnemoompaaDoor.PFft Go.Proofs.YtpnkcjnemoompaaDoor.Pure Go.Proofs.YtpnkcjnemoompaaDoor.Obj Go.Proofs.YtpnkcjnemoompaaDoor.Fft Go.Proofs.YtpnkcjnemoompaaDoor.Kern Go.Proofs.YtpnkcjnemoompaaDoorW.PrintWords Go.Proofs.YtpnkcjnemoompaaDoorW.PrintLast Go.Proofs.YtpnkcjnemoompaaDoorW.PrintMore
set_option linter.unusedVariables false
set_option linter.unusedSimpArgs false
set_option maxRecDepth 100000
theorem Mr.drw {w : World} {g c : Nat} {xs : List Int} (h : Mr w g c xs) : Mr w.drew g c xs := Mr.below h (below_drew1 (Below.refl _ _))
structure Gd (w : World) (p g c : Nat) (R C : Int) (xs : List Int) : Prop where
  obj : Bk w p 35 [.int .i64 R, .int .i64 C, .slice (some ⟨g, 0, none⟩) xs.length c]
  row : Mr w g c xs
theorem Gd.fr {w w' : World} {S : List Nat} {p g c : Nat} {R C : Int} {xs : List Int} (h : Gd w p g c R C xs) (hf : Fr w w' S) (h1 : p ∉ S) (h2 : g ∉ S) : Gd w' p g c R C xs := ⟨h.obj.fr hf h1, h.row.fr hf h2⟩
theorem Gd.below {w w' : World} {p g c : Nat} {R C : Int} {xs : List Int} (h : Gd w p g c R C xs) (hb : Below w.heap.size w w') : Gd w' p g c R C xs := ⟨h.obj.below hb, h.row.below hb⟩
theorem Gd.drew {w : World} {p g c : Nat} {R C : Int} {xs : List Int} (h : Gd w p g c R C xs) : Gd w.drew p g c R C xs := h.below (below_drew1 (Below.refl _ _))
theorem Gd.lp {w : World} {p g c : Nat} {R C : Int} {xs : List Int} (h : Gd w p g c R C xs) : p < w.heap.size := h.obj.lt
theorem Gd.ne {w : World} {p g c : Nat} {R C : Int} {xs : List Int} (h : Gd w p g c R C xs) : p ≠ g := h.row.ne h.obj (by decide)
theorem Gd.c0 {w : World} {p g c : Nat} {R C : Int} {xs : List Int} (h : Gd w p g c R C xs) : w.cell? ⟨p, 0, none⟩ = some (.int .i64 R) := h.obj.cell 0
theorem Gd.c1 {w : World} {p g c : Nat} {R C : Int} {xs : List Int} (h : Gd w p g c R C xs) : w.cell? ⟨p, 1, none⟩ = some (.int .i64 C) := h.obj.cell 1
theorem Gd.c2 {w : World} {p g c : Nat} {R C : Int} {xs : List Int} (h : Gd w p g c R C xs) : w.cell? ⟨p, 2, none⟩ = some (.slice (some ⟨g, 0, none⟩) xs.length c) := h.obj.cell 2
structure Apart (p g q h : Nat) : Prop where
  pq : p ≠ q
  gh : g ≠ h
  ph : p ≠ h
  gq : g ≠ q
def can (l : List Int) : List Int := tb l.length fun i => el l i * fo 1
theorem can_is (l : List Int) : can l = tb l.length (el l) := tb_congr fun i _ => by rw [fo_one]; grobner
theorem can_len (l : List Int) : (can l).length = l.length := tb_len _ _
theorem can_ws (l : List Int) : Ws (can l) := tb_ws _ _
set_option maxHeartbeats 4000000 in
theorem gnew_no (A : Option Addr) (c : Nat) (l : List Int) (R C : Int) (w : World) (hL : l.length ≤ 1048576) (h : ¬ (GoodS R C ∧ R * C = (l.length : Int))) (hT : TabOK w) :
    Calls Tryd.prog 16 #[.agg #[.int .i64 R, .int .i64 C], .slice A l.length c] w fun e w' => e = .returned (.tuple #[.pointer none, .int .i64 19]) ∧ Below w.heap.size w w' := by
  have HT0 := Aside0.mk hT
  have HB0 := Aside0.mk (below_alloc (Below.refl w.heap.size w) (Obj.cells #[.int .i64 R, .int .i64 C] 23))
  have HS0 := Aside0.mk (Bk.new w 23 [.int .i64 R, .int .i64 C])
  obtain ⟨bs, hbs⟩ : ∃ z, z = w.heap.size := ⟨_, rfl⟩
  by_cases hg : GoodS R C
  · have HG := Aside0.mk (good_yes R C hg)
    have HZ := Aside0.mk (size_is R C hg)
    have d1 : ((l.length : Int) != R * C) = true := by
      rw [bne_iff_ne]
      exact fun e => h ⟨hg, e.symm⟩
    clear hT h hg
    go_enter Tryd.func16, Tryd.ntmps16
    go_wp2_with fail
    with_reducible refine (shape_Good.calls R C true _ HG.out (HT0.out.below HB0.out)).mono ?_
    rintro e w1 ⟨rfl, hb⟩
    rw [← hbs] at HS0 ⊢
    clear hbs
    have HB1 := Aside0.mk (below_then HB0.out HB0.out.size hb)
    have HS1 := Aside0.mk (HS0.out.below hb)
    have v0 := HS1.out.cell 0
    have v1 := HS1.out.cell 1
    clear hb HB0 HS0
    go_wp2_with fail
    clear v0 v1
    with_reducible refine (shape_Size.calls R C (R * C) _ HZ.out (HT0.out.below HB1.out)).mono ?_
    rintro e w2 ⟨rfl, hb⟩
    have HB2 := Aside0.mk (below_then HB1.out HB1.out.size hb)
    clear hb HB1 HS1
    go_wp2
    go_ret2
    exact ⟨rfl, HB2.out⟩
  · have HG := Aside0.mk (good_no R C hg)
    clear hT h hg
    go_enter Tryd.func16, Tryd.ntmps16
    go_wp2_with fail
    with_reducible refine (shape_Good.calls R C false _ HG.out (HT0.out.below HB0.out)).mono ?_
    rintro e w1 ⟨rfl, hb⟩
    have HB1 := Aside0.mk (below_then HB0.out HB0.out.size hb)
    clear hb HB0 HS0
    go_wp2
    go_ret2
    exact ⟨rfl, HB1.out⟩
set_option maxHeartbeats 4000000 in
theorem gnew_yes (A : Option Addr) (c : Nat) (l : List Int) (R C : Int) (w : World) (hl : In w A c l) (hW : Ws l) (hL : l.length ≤ 1048576) (hp : 0 < l.length) (hg : GoodS R C) (hs : R * C = (l.length : Int)) (hT : TabOK w) :
    Calls Tryd.prog 16 #[.agg #[.int .i64 R, .int .i64 C], .slice A l.length c] w fun e w' => ∃ p g cg, e = .returned (.tuple #[.pointer (some ⟨p, 0, none⟩), .int .i64 0]) ∧ Gd w' p g cg R C (can l) ∧ Below w.heap.size w w' ∧ w.heap.size ≤ p ∧ w.heap.size ≤ g := by
  have HT0 := Aside0.mk hT
  have HB0 := Aside0.mk (below_alloc (Below.refl w.heap.size w) (Obj.cells #[.int .i64 R, .int .i64 C] 23))
  have HS0 := Aside0.mk (Bk.new w 23 [.int .i64 R, .int .i64 C])
  have HLw := Aside0.mk hl
  have HG := Aside0.mk (good_yes R C hg)
  have hz := size_is R C hg
  rw [hs] at hz
  have HZ := Aside0.mk hz
  obtain ⟨k, hk⟩ := (gScale l hW 1 ⟨by decide, by decide⟩ hL).rounds
  have HK := Aside0.mk (show twid_Scale.f k l 1 = some (can l) from hk)
  have d1 : ((l.length : Int) != (l.length : Int)) = false := by simp
  have d2 : decide ((1048576 : Int) < (l.length : Int)) = false := decide_eq_false (by omega)
  have hcl := can_len l
  obtain ⟨bs, hbs⟩ : ∃ z, z = w.heap.size := ⟨_, rfl⟩
  have hbg : w.heap.size ≤ bs := by omega
  clear hT hl hW hg hs hz hk
  go_enter Tryd.func16, Tryd.ntmps16
  go_wp2_with fail
  with_reducible refine (shape_Good.calls R C true _ HG.out (HT0.out.below HB0.out)).mono ?_
  rintro e w1 ⟨rfl, hb⟩
  rw [← hbs] at HS0 ⊢
  clear hbs
  have HB1 := Aside0.mk (below_then HB0.out HB0.out.size hb)
  have HS1 := Aside0.mk (HS0.out.below hb)
  have v0 := HS1.out.cell 0
  have v1 := HS1.out.cell 1
  clear hb HB0 HS0
  go_wp2_with fail
  clear v0 v1
  with_reducible refine (shape_Size.calls R C (l.length : Int) _ HZ.out (HT0.out.below HB1.out)).mono ?_
  rintro e w2 ⟨rfl, hb⟩
  have HB2 := Aside0.mk (below_then HB1.out HB1.out.size hb)
  have HS2 := Aside0.mk (HS1.out.below hb)
  clear hb HB1 HS1
  go_wp2_with fail
  refine start_ (n := 8) (S := fun w' => w'.cell? ⟨bs, 0, none⟩ = some (.int .i64 R) ∧ w'.cell? ⟨bs, 1, none⟩ = some (.int .i64 C) ∧ Aside0 (Below w.heap.size w w' ∧ Bk w' bs 23 [.int .i64 R, .int .i64 C])) (ds := []) #[false, false, false, false, false, false, false, false] (by kernel_rfl) rfl rfl ⟨HS2.out.drew.cell 0, HS2.out.drew.cell 1, ⟨below_drew1 HB2.out, HS2.out.drew⟩⟩ (fun hHeld => ?_)
  refine pure_ (i := 2) (N := some 23) (v := ?_) (a' := ?_) #[false, false, true, false, false, false, false, false] rfl rfl (by kernel_rfl) (fun _ _ _ h => h) (Or.inl ⟨by rfl, ?_⟩) ?_ ?_
  rotate_left
  · intro w'
    go_simp
    with_reducible rfl
  rotate_left
  · simp only [Act.put, List.setIfInBounds_toArray, List.set_cons_zero, List.set_cons_succ, i64_w, i32_w]
    rfl
  refine take_ (i := 0) (N := some 21) (v := ?_) (a' := ?_) #[true, false, true, false, false, false, false, false] rfl rfl (by kernel_rfl) (fun _ _ _ h => h) (Or.inl ⟨by rfl, ?_⟩) hHeld ?_ ?_
  rotate_left
  · rintro w' ⟨s0, s1, s2⟩
    go_simp
    with_reducible rfl
  rotate_left
  · simp only [Act.put, List.setIfInBounds_toArray, List.set_cons_zero, List.set_cons_succ, i64_w, i32_w]
    rfl
  refine pure_ (i := 1) (N := some 22) (v := ?_) (a' := ?_) #[true, true, true, false, false, false, false, false] rfl rfl (by kernel_rfl) (fun _ _ _ h => h) (Or.inl ⟨by rfl, ?_⟩) ?_ ?_
  rotate_left
  · intro w'
    go_simp
    with_reducible rfl
  rotate_left
  · simp only [Act.put, List.setIfInBounds_toArray, List.set_cons_zero, List.set_cons_succ, i64_w, i32_w]
    rfl
  refine one_ (i := 3) (N := some 24) #[true, true, true, true, false, false, false, false] rfl rfl (by kernel_rfl) (by decide) (fun K hK => ?_)
  refine goes_ Tryd.func70 (by kernel_rfl) rfl #[.slice A l.length c, .int .u64 1] (by rfl) rfl rfl (by simp only [List.map_toArray, List.map_cons, List.map_nil]; rfl) ?_
  with_reducible refine (twid_Scale.calls k A c l 1 (can l) _ (HLw.out.below hHeld.2.2.out.1).r (HLw.out.below hHeld.2.2.out.1).c HK.out).mono ?_
  rintro e w3 ⟨v, rfl, hR, hb⟩
  refine ⟨_, rfl, ?_⟩
  obtain ⟨g, cg, hv, hge, hm⟩ := Mr.of_R hR (by rw [hcl]; exact hp)
  subst hv
  have HM3 := Aside0.mk hm
  have HB3 := Aside0.mk (below_then hHeld.2.2.out.1 hHeld.2.2.out.1.size hb)
  have HS3 := Aside0.mk (hHeld.2.2.out.2.below hb)
  have HGe := Aside0.mk (show w.heap.size ≤ g by have := hHeld.2.2.out.1.size; omega)
  clear hHeld hR hb hge hm
  refine hK.out _ _ ⟨HS3.out.cell 0, HS3.out.cell 1, ⟨HB3.out, HS3.out⟩⟩ (fun hHeld => ?_)
  clear hK K
  refine norm_ (a' := ?_) ?_ ?_
  rotate_left
  · show Act.put _ (some 24) _ = _
    simp only [Act.put, List.setIfInBounds_toArray, List.set_cons_zero, List.set_cons_succ, i64_w, i32_w]
    rfl
  refine pure_ (i := 4) (N := some 25) (v := ?_) (a' := ?_) #[true, true, true, true, true, false, false, false] rfl rfl (by kernel_rfl) (fun _ _ _ h => h) (Or.inl ⟨by rfl, ?_⟩) ?_ ?_
  rotate_left
  · intro w'
    go_simp
    with_reducible rfl
  rotate_left
  · simp only [Act.put, List.setIfInBounds_toArray, List.set_cons_zero, List.set_cons_succ, i64_w, i32_w]
    rfl
  refine one_ (i := 5) (N := some 26) #[true, true, true, true, true, true, false, false] rfl rfl (by kernel_rfl) (by decide) (fun K hK => ?_)
  refine value_ (w1 := ?_) (v := ?_) (by rfl) rfl ?_ ?_
  rotate_left 2
  · go_simp
    constructor
    · rfl
    · rfl
  have HG4 : Aside0 (Gd (w3.alloc (Obj.cells #[.int .i64 R, .int .i64 C, .slice (some ⟨g, 0, none⟩) l.length cg] 35)) w3.heap.size g cg R C (can l)) := ⟨by rw [hcl]; exact Bk.new w3 35 [.int .i64 R, .int .i64 C, .slice (some ⟨g, 0, none⟩) l.length cg], HM3.out.below (below_alloc (Below.refl _ _) _)⟩
  have HB4 := Aside0.mk (below_alloc HB3.out (Obj.cells #[.int .i64 R, .int .i64 C, .slice (some ⟨g, 0, none⟩) l.length cg] 35))
  have HS4 := Aside0.mk (HS3.out.below (below_alloc (Below.refl _ _) (Obj.cells #[.int .i64 R, .int .i64 C, .slice (some ⟨g, 0, none⟩) l.length cg] 35)))
  clear hHeld
  refine hK.out _ _ ⟨HS4.out.cell 0, HS4.out.cell 1, ⟨HB4.out, HS4.out⟩⟩ (fun hHeld => ?_)
  clear hK K
  refine norm_ (a' := ?_) ?_ ?_
  rotate_left
  · show Act.put _ (some 26) _ = _
    simp only [Act.put, List.setIfInBounds_toArray, List.set_cons_zero, List.set_cons_succ, i64_w, i32_w]
    rfl
  refine pure_ (i := 6) (N := some 4) (v := ?_) (a' := ?_) #[true, true, true, true, true, true, true, false] rfl rfl (by kernel_rfl) (fun _ _ _ h => h) (Or.inl ⟨by rfl, ?_⟩) ?_ ?_
  rotate_left
  · intro w'
    go_simp
    with_reducible rfl
  rotate_left
  · simp only [Act.put, List.setIfInBounds_toArray, List.set_cons_zero, List.set_cons_succ, i64_w, i32_w]
    rfl
  refine pure_ (i := 7) (N := some 5) (v := ?_) (a' := ?_) #[true, true, true, true, true, true, true, true] rfl rfl (by kernel_rfl) (fun _ _ _ h => h) (Or.inl ⟨by rfl, ?_⟩) ?_ ?_
  rotate_left
  · intro w'
    go_simp
    with_reducible rfl
  rotate_left
  · simp only [Act.put, List.setIfInBounds_toArray, List.set_cons_zero, List.set_cons_succ, i64_w, i32_w]
    rfl
  refine done_ (by kernel_rfl) ?_
  clear hHeld
  go_wp2
  go_ret2
  exact ⟨_, _, _, rfl, HG4.out, HB4.out, HB3.out.size, HGe.out⟩
theorem gshape (p g c : Nat) (R C : Int) (xs : List Int) (w : World) (h : Gd w p g c R C xs) :
    Calls Tryd.prog 18 #[.pointer (some ⟨p, 0, none⟩)] w fun e w' => e = .returned (.agg #[.int .i64 R, .int .i64 C]) ∧ Below w.heap.size w w' := by
  have c0 := h.c0
  have c1 := h.c1
  have hlt := h.lp
  clear h
  go_enter Tryd.func18, Tryd.ntmps18
  go_wp2
  refine bodyPost_ret (v := .agg #[.int .i64 R, .int .i64 C]) (by simp [results, Tryd.results18, go_sem]) rfl ⟨rfl, ?_⟩
  exact below_alloc (Below.refl _ _) _
theorem clone_calls (g c : Nat) (xs : List Int) (w : World) (h : Mr w g c xs) (hp : 0 < xs.length) (hL : xs.length ≤ 1048576) :
    Calls Tryd.prog 71 #[.slice (some ⟨g, 0, none⟩) xs.length c] w fun e w' => ∃ h d, e = .returned (.slice (some ⟨h, 0, none⟩) xs.length d) ∧ Mr w' h d xs ∧ Below w.heap.size w w' ∧ w.heap.size ≤ h := by
  obtain ⟨i0, hi, hzz⟩ := Option.map_eq_some_iff.1 info_u64
  simp only [Prod.mk.injEq] at hzz
  obtain ⟨hz0, hz1, hz2⟩ := hzz
  have hc := Lay.slices_Clone i0 (.int .u64 0) 1 8 hi hz0 hz1 hz2 rfl (by decide) (fun _ => rfl) g 0 xs.length c (nums .u64 xs) w (by rw [nums_length, Nat.mul_one]) (by simp [maxLen]; omega) (by omega) (fun j u hj => by
    have hjl : j < xs.length := by
      have := (List.getElem?_eq_some_iff.1 hj).1
      rwa [nums_length] at this
    rw [Nat.zero_add, h.cell j hjl]
    rw [nums_at xs j hjl] at hj
    exact hj) (fun u hu => by
    obtain ⟨x, _, rfl⟩ := List.mem_map.1 hu
    rfl)
  refine hc.mono ?_
  rintro e w1 ⟨v, rfl, ho, hn, hb⟩
  obtain ⟨g1, c1, hv, hg1, hm⟩ := Mr.of_R (Kd.R_of_own (enc := Value.int .u64) (h1 := fun _ => rfl) (ok := fun _ => True) (xs := xs) ho (fun _ _ => trivial)) hp
  subst hv
  exact ⟨g1, c1, rfl, hm, hb, hg1⟩
theorem gwords (p g c : Nat) (R C : Int) (xs : List Int) (w : World) (h : Gd w p g c R C xs) (hp : 0 < xs.length) (hL : xs.length ≤ 1048576) :
    Calls Tryd.prog 20 #[.pointer (some ⟨p, 0, none⟩)] w fun e w' => ∃ h d, e = .returned (.slice (some ⟨h, 0, none⟩) xs.length d) ∧ Mr w' h d xs ∧ Below w.heap.size w w' ∧ w.heap.size ≤ h := by
  have c2 := h.c2
  have HX := Aside0.mk h.row
  clear h
  go_enter Tryd.func20, Tryd.ntmps20
  go_wp2_with fail
  with_reducible refine (clone_calls g c xs _ HX.out hp hL).mono ?_
  rintro e w1 ⟨g1, c1, rfl, hm, hb, hg⟩
  have HM1 := Aside0.mk hm
  have HB1 := Aside0.mk hb
  clear hm hb c2
  go_wp2
  go_ret
  exact ⟨_, _, rfl, HM1.out, HB1.out, hg⟩
end Go.Proofs.YtpnkcjnemoompaaDoor.Grid
end
section
namespace Go.Proofs.YtpnkcjnemoompaaDoor.Fft
set_option linter.unusedVariables false
set_option linter.unusedSimpArgs false
def tq (K : Nat) (d : Int) (f : Nat → F) (j : Nat) : F := dft (2 ^ K) (rut K d) f j * (if d = 1 then shf K else 1)
theorem tq_congr {K : Nat} {d : Int} {f g : Nat → F} (h : ∀ i, i < 2 ^ K → f i = g i) (j : Nat) : tq K d f j = tq K d g j := by unfold tq; rw [dft_congr h]
theorem tq_back (K : Nat) (hK : K ≤ 32) (d : Int) (hd : d = 0 ∨ d = 1) (f : Nat → F) (j : Nat) (hj : j < 2 ^ K) : tq K (1 - d) (tq K d f) j = f j := by
  have hs := shf_is K
  unfold tq
  rcases hd with rfl | rfl
  · rw [show (1 : Int) - 0 = 1 from rfl, if_pos rfl]
    rw [dft_congr (g := dft (2 ^ K) (rut K 0) f) (fun i _ => by rw [if_neg (by decide)]; grobner)]
    rw [dft_back K (rut K 0) (rut K 1) (rd_back K hK 1 (by decide)) (fun h => rd_half K 0 h hK) (rd_full K 0 hK) f j hj]
    grobner
  · have e0 : (if (0 : Int) = 1 then shf K else 1) = 1 := if_neg (by decide)
    have e1 : (if (1 : Int) = 1 then shf K else (1 : F)) = shf K := if_pos rfl
    rw [show (1 : Int) - 1 = 0 from rfl, e0, e1]
    have e : ∀ i, dft (2 ^ K) (rut K 1) f i * shf K = dft (2 ^ K) (rut K 1) (fun t => f t * shf K) i := by
      intro i
      unfold dft
      rw [← sm_mulr]
      exact sm_congr fun t _ => by grobner
    rw [dft_congr (fun i _ => e i)]
    rw [dft_back K (rut K 1) (rut K 0) (by have := rd_back K hK 1 (by decide); grobner) (fun h => rd_half K 1 h hK) (rd_full K 1 hK) _ j hj]
    grobner
theorem tq_swap (a b : Nat) (d e : Int) (G : Nat → Nat → F) (i j : Nat) : tq b d (fun c => tq a e (fun r => G r c) i) j = tq a e (fun r => tq b d (fun c => G r c) j) i := by
  unfold tq dft
  have l : ∀ c, (sm (2 ^ a) fun r => G r c * pw (rut a e) (r * i)) * (if e = 1 then shf a else 1) * pw (rut b d) (c * j) = sm (2 ^ a) fun r => G r c * pw (rut a e) (r * i) * ((if e = 1 then shf a else 1) * pw (rut b d) (c * j)) := by
    intro c; rw [sm_mulr]; grobner
  have r : ∀ r, (sm (2 ^ b) fun c => G r c * pw (rut b d) (c * j)) * (if d = 1 then shf b else 1) * pw (rut a e) (r * i) = sm (2 ^ b) fun c => G r c * pw (rut b d) (c * j) * ((if d = 1 then shf b else 1) * pw (rut a e) (r * i)) := by
    intro r; rw [sm_mulr]; grobner
  rw [sm_congr (fun c _ => l c), sm_congr (fun r' _ => r r'), sm_swap, ← sm_mulr, ← sm_mulr]
  refine sm_congr fun r _ => ?_
  rw [← sm_mulr, ← sm_mulr]
  refine sm_congr fun c _ => ?_
  grobner
def t2 (a b : Nat) (d : Int) (f : Nat → F) (t : Nat) : F := tq a d (fun r => tq b d (fun c => f (r * 2 ^ b + c)) (t % 2 ^ b)) (t / 2 ^ b)
theorem dm (b r c : Nat) (h : c < 2 ^ b) : (r * 2 ^ b + c) / 2 ^ b = r ∧ (r * 2 ^ b + c) % 2 ^ b = c := by
  have h0 : 0 < 2 ^ b := Nat.two_pow_pos b
  rw [Nat.mul_comm]
  exact ⟨by rw [Nat.mul_add_div h0, Nat.div_eq_of_lt h, Nat.add_zero], by rw [Nat.mul_add_mod, Nat.mod_eq_of_lt h]⟩
theorem plc (a b r c : Nat) (hr : r < 2 ^ a) (hc : c < 2 ^ b) : r * 2 ^ b + c < 2 ^ (a + b) := by
  rw [Nat.pow_add]
  have : (r + 1) * 2 ^ b ≤ 2 ^ a * 2 ^ b := Nat.mul_le_mul_right _ hr
  rw [Nat.add_mul, Nat.one_mul] at this
  omega
theorem parts (a b t : Nat) (h : t < 2 ^ (a + b)) : t / 2 ^ b < 2 ^ a ∧ t % 2 ^ b < 2 ^ b ∧ t / 2 ^ b * 2 ^ b + t % 2 ^ b = t := by
  have h0 : 0 < 2 ^ b := Nat.two_pow_pos b
  refine ⟨?_, Nat.mod_lt _ h0, by rw [Nat.mul_comm]; exact Nat.div_add_mod t _⟩
  rw [Nat.pow_add] at h
  exact (Nat.div_lt_iff_lt_mul h0).2 h
theorem t2_congr {a b : Nat} {d : Int} {f g : Nat → F} (h : ∀ i, i < 2 ^ (a + b) → f i = g i) (t : Nat) : t2 a b d f t = t2 a b d g t := by
  unfold t2
  exact tq_congr (fun r hr => tq_congr (fun c hc => h _ (plc a b r c hr hc)) _) _
theorem t2_back (a b : Nat) (hab : a + b ≤ 32) (d : Int) (hd : d = 0 ∨ d = 1) (f : Nat → F) (t : Nat) (ht : t < 2 ^ (a + b)) : t2 a b (1 - d) (t2 a b d f) t = f t := by
  obtain ⟨h1, h2, h3⟩ := parts a b t ht
  conv => rhs; rw [← h3]
  unfold t2
  rw [tq_congr (g := fun r => tq a d (fun r' => f (r' * 2 ^ b + t % 2 ^ b)) r)]
  · exact tq_back a (by omega) d hd (fun r' => f (r' * 2 ^ b + t % 2 ^ b)) _ h1
  · intro r hr
    rw [tq_congr (g := fun c => tq a d (fun r' => tq b d (fun c' => f (r' * 2 ^ b + c')) c) r)]
    · rw [tq_swap a b (1 - d) d (fun r' c => tq b d (fun c' => f (r' * 2 ^ b + c')) c) r (t % 2 ^ b)]
      exact tq_congr (fun r' _ => tq_back b (by omega) d hd (fun c' => f (r' * 2 ^ b + c')) _ h2) _
    · intro c hc
      obtain ⟨e1, e2⟩ := dm b r c hc
      rw [e1, e2]
theorem t2_sum (a b : Nat) (d : Int) (f : Nat → F) (t : Nat) :
    t2 a b d f t = sm (2 ^ (a + b)) (fun s => f s * (pw (rut a d) (t / 2 ^ b * (s / 2 ^ b)) * pw (rut b d) (t % 2 ^ b * (s % 2 ^ b)))) * (if d = 1 then shf (a + b) else 1) := by
  rw [Nat.pow_add, sm_rows, ← sm_mulr]
  unfold t2 tq dft
  rw [← sm_mulr]
  refine sm_congr fun r _ => ?_
  have e : (if d = 1 then shf (a + b) else 1) = (if d = 1 then shf b else 1) * (if d = 1 then shf a else (1 : F)) := by
    by_cases h : d = 1
    · simp only [if_pos h]; rw [shf_add]; grobner
    · simp only [if_neg h]; grobner
  rw [e]
  simp only []
  rw [← sm_mulr, ← sm_mulr, ← sm_mulr, ← sm_mulr]
  refine sm_congr fun c hc => ?_
  obtain ⟨e1, e2⟩ := dm b r c hc
  rw [e1, e2, Nat.mul_comm (t / 2 ^ b) r, Nat.mul_comm (t % 2 ^ b) c]
  grobner
end Go.Proofs.YtpnkcjnemoompaaDoor.Fft
end
section
namespace Go.Proofs.YtpnkcjnemoompaaDoor.Grid
open Go.RowKit Go.Proofs.YtpnkcjnemoompaaDoor Go.Proofs.YtpnkcjnemoompaaDoor.Ext Go.Proofs.YtpnkcjnemoompaaDoor.PPlan Go.Proofs.YtpnkcjnemoompaaDoor.PFft Go.Proofs.YtpnkcjnemoompaaDoor.Pure Go.Proofs.YtpnkcjnemoompaaDoor.Obj Go.Proofs.YtpnkcjnemoompaaDoor.Fft Go.Proofs.YtpnkcjnemoompaaDoor.Kern Go.Proofs.YtpnkcjnemoompaaDoorW.PrintWords Go.Proofs.YtpnkcjnemoompaaDoorW.PrintLast Go.Proofs.YtpnkcjnemoompaaDoorW.PrintMore
set_option linter.unusedVariables false
set_option linter.unusedSimpArgs false
set_option maxRecDepth 100000
theorem two_ways (xs : List Int) (R C a b : Nat) (d : Int) (ha : R = 2 ^ a) (hb : C = 2 ^ b) (hl : R * C = xs.length) :
    vfold (vfold xs b d (fun i => i * C) (fun _ => 1) C R) a d (fun i => i) (fun _ => C) R C = tb xs.length (t2 a b d (el xs)) := by
  have hN : 2 ^ (a + b) = xs.length := by rw [Nat.pow_add, ← ha, ← hb, hl]
  refine list_ext (by rw [vfold_len, vfold_len, tb_len]) fun t ht => ?_
  rw [vfold_len, vfold_len] at ht
  obtain ⟨h1, h2, h3⟩ := parts a b t (by rw [hN]; exact ht)
  rw [← ha, ← hb] at h1
  rw [← hb] at h2 h3
  rw [tb_get _ ht]
  have hl2 : R * C = (vfold xs b d (fun i => i * C) (fun _ => 1) C R).length := by rw [vfold_len, hl]
  conv => lhs; rw [← h3]
  rw [cols_get _ a d R C ha hl2 C (Nat.le_refl _) (t / C) (t % C) h1 h2, if_pos h2]
  refine congrArg fv ?_
  unfold t2
  rw [← hb]
  refine tr_congr (fun r hr => ?_) _
  rw [← ha] at hr
  unfold el
  rw [rows_at xs b d R C hb hl r (t % C) hr h2, fo_fv]
  rfl
theorem tab_fr {w w' : World} {S : List Nat} (h : TabOK w) (hf : Fr w w' S) (h1 : 1 ∉ S) : TabOK w' := ⟨fun j hj => by
  have hc := h.out j hj
  have hlt : 1 < w.heap.size := World.block_lt_of_cell? w _ hc
  rw [World.cell?_of_block (w := w) (a := ⟨1, j, none⟩) (hf.block 1 hlt h1)]
  exact hc⟩
theorem tab_ne {w : World} {g c : Nat} {xs : List Int} (h : TabOK w) (hM : Mr w g c xs) (h0 : 0 < xs.length) : 1 ≠ g := by
  intro e
  have h1 := h.out 0 (by decide)
  have h2 := hM.cell 0 h0
  rw [← e, h1] at h2
  simp at h2
theorem tab_fr1 {w w' : World} {g c : Nat} {xs : List Int} (h : TabOK w) (hM : Mr w g c xs) (h0 : 0 < xs.length) (hf : Fr w w' [g]) : TabOK w' := tab_fr h hf (by simpa using tab_ne h hM h0)
set_option maxHeartbeats 8000000 in
theorem gtrans_yes (R C a b p g c : Nat) (xs : List Int) (d : Int) (hd : d = 0 ∨ d = 1) (ha : R = 2 ^ a) (hb : C = 2 ^ b) (hab : a + b ≤ 20) (hl : R * C = xs.length) (hW : Ws xs) (w : World) (hG : Gd w p g c (R : Int) (C : Int) xs) (hT : TabOK w) :
    Calls Tryd.prog 22 #[.pointer (some ⟨p, 0, none⟩), .int .i64 d] w fun e w' => e = .returned (.int .i64 0) ∧ Gd w' p g c (R : Int) (C : Int) (tb xs.length (t2 a b d (el xs))) ∧ Fr w w' [g] := by
  have hlaw := two_ways xs R C a b d ha hb hl
  have hl2 : (vfold xs b d (fun i => i * C) (fun _ => 1) C R).length = xs.length := vfold_len _ _ _ _ _ _ _
  have hw2 : Ws (vfold xs b d (fun i => i * C) (fun _ => 1) C R) := vfold_ws hW _ _ _ _ _ _
  obtain ⟨m, hm⟩ : ∃ z, z = vfold xs b d (fun i => i * C) (fun _ => 1) C R := ⟨_, rfl⟩
  rw [← hm] at hlaw hl2 hw2
  obtain ⟨z, hz⟩ : ∃ z, z = tb xs.length (t2 a b d (el xs)) := ⟨_, rfl⟩
  have hzl : z.length = xs.length := by rw [hz, tb_len]
  rw [← hz] at hlaw ⊢
  have HLaw := Aside0.mk hlaw
  have HM := Aside0.mk hm
  have HW2 := Aside0.mk hw2
  have HD := Aside0.mk hd
  have HA := Aside0.mk ha
  have HBb := Aside0.mk hb
  have HAB := Aside0.mk hab
  have HL := Aside0.mk hl
  have HL2 := Aside0.mk (show R * C = m.length by rw [hl2, hl])
  have HW := Aside0.mk hW
  have HG0 := Aside0.mk hG
  have HT0 := Aside0.mk hT
  have HNe := Aside0.mk hG.ne
  have hp0 : 0 < xs.length := by rw [← hl, ha, hb, ← Nat.pow_add]; exact Nat.two_pow_pos _
  clear hlaw hm hw2 hd ha hb hab hl hW hT hz
  clear hG
  go_enter Tryd.func22, Tryd.ntmps22
  go_wp2_with fail
  refine start_ (n := 12) (S := fun w' => w'.cell? ⟨p, 0, none⟩ = some (.int .i64 (R : Int)) ∧ w'.cell? ⟨p, 1, none⟩ = some (.int .i64 (C : Int)) ∧ w'.cell? ⟨p, 2, none⟩ = some (.slice (some ⟨g, 0, none⟩) xs.length c) ∧ Aside0 (TabOK w')) (ds := []) #[false, false, false, false, false, false, false, false, false, false, false, false] (by kernel_rfl) rfl rfl ⟨HG0.out.drew.c0, HG0.out.drew.c1, HG0.out.drew.c2, ⟨HT0.out.below (below_drew1 (Below.refl _ _))⟩⟩ (fun hHeld => ?_)
  refine pure_ (i := 0) (N := some 6) (v := ?_) (a' := ?_) #[true, false, false, false, false, false, false, false, false, false, false, false] rfl rfl (by kernel_rfl) (fun _ _ _ h => h) (Or.inl ⟨by rfl, ?_⟩) ?_ ?_
  rotate_left
  · intro w'
    go_simp
    with_reducible rfl
  rotate_left
  · simp only [Act.put, List.setIfInBounds_toArray, List.set_cons_zero, List.set_cons_succ, i64_w, i32_w]
    rfl
  refine pure_ (i := 1) (N := some 7) (v := ?_) (a' := ?_) #[true, true, false, false, false, false, false, false, false, false, false, false] rfl rfl (by kernel_rfl) (fun _ _ _ h => h) (Or.inl ⟨by rfl, ?_⟩) ?_ ?_
  rotate_left
  · intro w'
    go_simp
    with_reducible rfl
  rotate_left
  · simp only [Act.put, List.setIfInBounds_toArray, List.set_cons_zero, List.set_cons_succ, i64_w, i32_w]
    rfl
  refine pure_ (i := 2) (N := some 8) (v := ?_) (a' := ?_) #[true, true, true, false, false, false, false, false, false, false, false, false] rfl rfl (by kernel_rfl) (fun _ _ _ h => h) (Or.inl ⟨by rfl, ?_⟩) ?_ ?_
  rotate_left
  · intro w'
    go_simp
    with_reducible rfl
  rotate_left
  · simp only [Act.put, List.setIfInBounds_toArray, List.set_cons_zero, List.set_cons_succ, i64_w, i32_w]
    rfl
  refine pure_ (i := 4) (N := some 10) (v := ?_) (a' := ?_) #[true, true, true, false, true, false, false, false, false, false, false, false] rfl rfl (by kernel_rfl) (fun _ _ _ h => h) (Or.inl ⟨by rfl, ?_⟩) ?_ ?_
  rotate_left
  · intro w'
    go_simp
    with_reducible rfl
  rotate_left
  · simp only [Act.put, List.setIfInBounds_toArray, List.set_cons_zero, List.set_cons_succ, i64_w, i32_w]
    rfl
  refine pure_ (i := 5) (N := some 11) (v := ?_) (a' := ?_) #[true, true, true, false, true, true, false, false, false, false, false, false] rfl rfl (by kernel_rfl) (fun _ _ _ h => h) (Or.inl ⟨by rfl, ?_⟩) ?_ ?_
  rotate_left
  · intro w'
    go_simp
    with_reducible rfl
  rotate_left
  · simp only [Act.put, List.setIfInBounds_toArray, List.set_cons_zero, List.set_cons_succ, i64_w, i32_w]
    rfl
  refine pure_ (i := 6) (N := some 12) (v := ?_) (a' := ?_) #[true, true, true, false, true, true, true, false, false, false, false, false] rfl rfl (by kernel_rfl) (fun _ _ _ h => h) (Or.inl ⟨by rfl, ?_⟩) ?_ ?_
  rotate_left
  · intro w'
    go_simp
    with_reducible rfl
  rotate_left
  · simp only [Act.put, List.setIfInBounds_toArray, List.set_cons_zero, List.set_cons_succ, i64_w, i32_w]
    rfl
  refine pure_ (i := 7) (N := some 13) (v := ?_) (a' := ?_) #[true, true, true, false, true, true, true, true, false, false, false, false] rfl rfl (by kernel_rfl) (fun _ _ _ h => h) (Or.inl ⟨by rfl, ?_⟩) ?_ ?_
  rotate_left
  · intro w'
    go_simp
    with_reducible rfl
  rotate_left
  · simp only [Act.put, List.setIfInBounds_toArray, List.set_cons_zero, List.set_cons_succ, i64_w, i32_w]
    rfl
  refine pure_ (i := 9) (N := some 15) (v := ?_) (a' := ?_) #[true, true, true, false, true, true, true, true, false, true, false, false] rfl rfl (by kernel_rfl) (fun _ _ _ h => h) (Or.inl ⟨by rfl, ?_⟩) ?_ ?_
  rotate_left
  · intro w'
    go_simp
    with_reducible rfl
  rotate_left
  · simp only [Act.put, List.setIfInBounds_toArray, List.set_cons_zero, List.set_cons_succ, i64_w, i32_w]
    rfl
  refine take_ (i := 3) (N := some 9) (v := ?_) (a' := ?_) #[true, true, true, true, true, true, true, true, false, true, false, false] rfl rfl (by kernel_rfl) (fun _ _ _ h => h) (Or.inl ⟨by rfl, ?_⟩) hHeld ?_ ?_
  rotate_left
  · rintro w' ⟨s0, s1, s2, s3⟩
    go_simp
    with_reducible rfl
  rotate_left
  · simp only [Act.put, List.setIfInBounds_toArray, List.set_cons_zero, List.set_cons_succ, i64_w, i32_w]
    rfl
  refine take_ (i := 8) (N := some 14) (v := ?_) (a' := ?_) #[true, true, true, true, true, true, true, true, true, true, false, false] rfl rfl (by kernel_rfl) (fun _ _ _ h => h) (Or.inl ⟨by rfl, ?_⟩) hHeld ?_ ?_
  rotate_left
  · rintro w' ⟨s0, s1, s2, s3⟩
    go_simp
    with_reducible rfl
  rotate_left
  · simp only [Act.put, List.setIfInBounds_toArray, List.set_cons_zero, List.set_cons_succ, i64_w, i32_w]
    rfl
  refine one_ (i := 10) (N := some 16) #[true, true, true, true, true, true, true, true, true, true, true, false] rfl rfl (by kernel_rfl) (by decide) (fun K hK => ?_)
  refine goes_ Tryd.func41 (by kernel_rfl) rfl #[.slice (some ⟨g, 0, none⟩) xs.length c, .agg #[.int .i64 (R : Int), .int .i64 (C : Int)], .int .i64 d] (by rfl) rfl rfl (by simp only [List.map_toArray, List.map_cons, List.map_nil]; rfl) ?_
  with_reducible refine (rows_yes R C a b g c xs d HD.out HA.out HBb.out HAB.out HL.out HW.out _ (Mr.drw HG0.out.row) hHeld.2.2.2.out).mono ?_
  rintro e w2 ⟨rfl, hm2, hf2⟩
  refine ⟨_, rfl, ?_⟩
  rw [← HM.out] at hm2
  have HO2 := Aside0.mk (HG0.out.obj.drew.fr hf2 (by simpa using HNe.out))
  have HM2 := Aside0.mk hm2
  have HF2 := Aside0.mk ((Fr.refl w [g]).drew.trans hf2)
  have HT2 := Aside0.mk (tab_fr1 hHeld.2.2.2.out (Mr.drw HG0.out.row) hp0 hf2)
  clear hHeld hm2 hf2
  refine hK.out _ _ ⟨HO2.out.cell 0, HO2.out.cell 1, HO2.out.cell 2, HT2⟩ (fun hHeld => ?_)
  clear hK K
  refine norm_ (a' := ?_) ?_ ?_
  rotate_left
  · show Act.put _ (some 16) _ = _
    simp only [Act.put, List.setIfInBounds_toArray, List.set_cons_zero, List.set_cons_succ, i64_w, i32_w]
    rfl
  refine pure_ (i := 11) (N := some 5) (v := ?_) (a' := ?_) #[true, true, true, true, true, true, true, true, true, true, true, true] rfl rfl (by kernel_rfl) (fun _ _ _ h => h) (Or.inl ⟨by rfl, ?_⟩) ?_ ?_
  rotate_left
  · intro w'
    go_simp
    with_reducible rfl
  rotate_left
  · simp only [Act.put, List.setIfInBounds_toArray, List.set_cons_zero, List.set_cons_succ, i64_w, i32_w]
    rfl
  refine done_ (by kernel_rfl) ?_
  clear hHeld
  go_wp2_with fail
  refine start_ (n := 12) (S := fun w' => w'.cell? ⟨p, 0, none⟩ = some (.int .i64 (R : Int)) ∧ w'.cell? ⟨p, 1, none⟩ = some (.int .i64 (C : Int)) ∧ w'.cell? ⟨p, 2, none⟩ = some (.slice (some ⟨g, 0, none⟩) xs.length c) ∧ Aside0 (TabOK w')) (ds := []) #[false, false, false, false, false, false, false, false, false, false, false, false] (by kernel_rfl) rfl rfl ⟨HO2.out.drew.cell 0, HO2.out.drew.cell 1, HO2.out.drew.cell 2, ⟨HT2.out.below (below_drew1 (Below.refl _ _))⟩⟩ (fun hHeld => ?_)
  refine pure_ (i := 0) (N := some 19) (v := ?_) (a' := ?_) #[true, false, false, false, false, false, false, false, false, false, false, false] rfl rfl (by kernel_rfl) (fun _ _ _ h => h) (Or.inl ⟨by rfl, ?_⟩) ?_ ?_
  rotate_left
  · intro w'
    go_simp
    with_reducible rfl
  rotate_left
  · simp only [Act.put, List.setIfInBounds_toArray, List.set_cons_zero, List.set_cons_succ, i64_w, i32_w]
    rfl
  refine pure_ (i := 1) (N := some 20) (v := ?_) (a' := ?_) #[true, true, false, false, false, false, false, false, false, false, false, false] rfl rfl (by kernel_rfl) (fun _ _ _ h => h) (Or.inl ⟨by rfl, ?_⟩) ?_ ?_
  rotate_left
  · intro w'
    go_simp
    with_reducible rfl
  rotate_left
  · simp only [Act.put, List.setIfInBounds_toArray, List.set_cons_zero, List.set_cons_succ, i64_w, i32_w]
    rfl
  refine pure_ (i := 2) (N := some 21) (v := ?_) (a' := ?_) #[true, true, true, false, false, false, false, false, false, false, false, false] rfl rfl (by kernel_rfl) (fun _ _ _ h => h) (Or.inl ⟨by rfl, ?_⟩) ?_ ?_
  rotate_left
  · intro w'
    go_simp
    with_reducible rfl
  rotate_left
  · simp only [Act.put, List.setIfInBounds_toArray, List.set_cons_zero, List.set_cons_succ, i64_w, i32_w]
    rfl
  refine pure_ (i := 4) (N := some 23) (v := ?_) (a' := ?_) #[true, true, true, false, true, false, false, false, false, false, false, false] rfl rfl (by kernel_rfl) (fun _ _ _ h => h) (Or.inl ⟨by rfl, ?_⟩) ?_ ?_
  rotate_left
  · intro w'
    go_simp
    with_reducible rfl
  rotate_left
  · simp only [Act.put, List.setIfInBounds_toArray, List.set_cons_zero, List.set_cons_succ, i64_w, i32_w]
    rfl
  refine pure_ (i := 5) (N := some 24) (v := ?_) (a' := ?_) #[true, true, true, false, true, true, false, false, false, false, false, false] rfl rfl (by kernel_rfl) (fun _ _ _ h => h) (Or.inl ⟨by rfl, ?_⟩) ?_ ?_
  rotate_left
  · intro w'
    go_simp
    with_reducible rfl
  rotate_left
  · simp only [Act.put, List.setIfInBounds_toArray, List.set_cons_zero, List.set_cons_succ, i64_w, i32_w]
    rfl
  refine pure_ (i := 6) (N := some 25) (v := ?_) (a' := ?_) #[true, true, true, false, true, true, true, false, false, false, false, false] rfl rfl (by kernel_rfl) (fun _ _ _ h => h) (Or.inl ⟨by rfl, ?_⟩) ?_ ?_
  rotate_left
  · intro w'
    go_simp
    with_reducible rfl
  rotate_left
  · simp only [Act.put, List.setIfInBounds_toArray, List.set_cons_zero, List.set_cons_succ, i64_w, i32_w]
    rfl
  refine pure_ (i := 7) (N := some 26) (v := ?_) (a' := ?_) #[true, true, true, false, true, true, true, true, false, false, false, false] rfl rfl (by kernel_rfl) (fun _ _ _ h => h) (Or.inl ⟨by rfl, ?_⟩) ?_ ?_
  rotate_left
  · intro w'
    go_simp
    with_reducible rfl
  rotate_left
  · simp only [Act.put, List.setIfInBounds_toArray, List.set_cons_zero, List.set_cons_succ, i64_w, i32_w]
    rfl
  refine pure_ (i := 9) (N := some 28) (v := ?_) (a' := ?_) #[true, true, true, false, true, true, true, true, false, true, false, false] rfl rfl (by kernel_rfl) (fun _ _ _ h => h) (Or.inl ⟨by rfl, ?_⟩) ?_ ?_
  rotate_left
  · intro w'
    go_simp
    with_reducible rfl
  rotate_left
  · simp only [Act.put, List.setIfInBounds_toArray, List.set_cons_zero, List.set_cons_succ, i64_w, i32_w]
    rfl
  refine take_ (i := 3) (N := some 22) (v := ?_) (a' := ?_) #[true, true, true, true, true, true, true, true, false, true, false, false] rfl rfl (by kernel_rfl) (fun _ _ _ h => h) (Or.inl ⟨by rfl, ?_⟩) hHeld ?_ ?_
  rotate_left
  · rintro w' ⟨s0, s1, s2, s3⟩
    go_simp
    with_reducible rfl
  rotate_left
  · simp only [Act.put, List.setIfInBounds_toArray, List.set_cons_zero, List.set_cons_succ, i64_w, i32_w]
    rfl
  refine take_ (i := 8) (N := some 27) (v := ?_) (a' := ?_) #[true, true, true, true, true, true, true, true, true, true, false, false] rfl rfl (by kernel_rfl) (fun _ _ _ h => h) (Or.inl ⟨by rfl, ?_⟩) hHeld ?_ ?_
  rotate_left
  · rintro w' ⟨s0, s1, s2, s3⟩
    go_simp
    with_reducible rfl
  rotate_left
  · simp only [Act.put, List.setIfInBounds_toArray, List.set_cons_zero, List.set_cons_succ, i64_w, i32_w]
    rfl
  refine one_ (i := 10) (N := some 29) #[true, true, true, true, true, true, true, true, true, true, true, false] rfl rfl (by kernel_rfl) (by decide) (fun K hK => ?_)
  have hc := cols_yes R C a b g c m d HD.out HA.out HBb.out HAB.out HL2.out HW2.out _ (Mr.drw HM2.out) hHeld.2.2.2.out
  rw [hl2] at hc
  refine goes_ Tryd.func42 (by kernel_rfl) rfl #[.slice (some ⟨g, 0, none⟩) xs.length c, .agg #[.int .i64 (R : Int), .int .i64 (C : Int)], .int .i64 d] (by rfl) rfl rfl (by simp only [List.map_toArray, List.map_cons, List.map_nil]; rfl) ?_
  with_reducible refine (hc).mono ?_
  rintro e w3 ⟨rfl, hm3, hf3⟩
  refine ⟨_, rfl, ?_⟩
  clear hc
  rw [HLaw.out] at hm3
  have HO3 := Aside0.mk (HO2.out.drew.fr hf3 (by simpa using HNe.out))
  have HM3 := Aside0.mk hm3
  have HF3 := Aside0.mk (HF2.out.drew.trans hf3)
  have HT3 := Aside0.mk (tab_fr1 hHeld.2.2.2.out (Mr.drw HM2.out) (by rw [hl2]; exact hp0) hf3)
  clear hHeld hm3 hf3
  refine hK.out _ _ ⟨HO3.out.cell 0, HO3.out.cell 1, HO3.out.cell 2, HT3⟩ (fun hHeld => ?_)
  clear hK K
  refine norm_ (a' := ?_) ?_ ?_
  rotate_left
  · show Act.put _ (some 29) _ = _
    simp only [Act.put, List.setIfInBounds_toArray, List.set_cons_zero, List.set_cons_succ, i64_w, i32_w]
    rfl
  refine pure_ (i := 11) (N := some 5) (v := ?_) (a' := ?_) #[true, true, true, true, true, true, true, true, true, true, true, true] rfl rfl (by kernel_rfl) (fun _ _ _ h => h) (Or.inl ⟨by rfl, ?_⟩) ?_ ?_
  rotate_left
  · intro w'
    go_simp
    with_reducible rfl
  rotate_left
  · simp only [Act.put, List.setIfInBounds_toArray, List.set_cons_zero, List.set_cons_succ, i64_w, i32_w]
    rfl
  refine done_ (by kernel_rfl) ?_
  clear hHeld
  go_wp2
  go_ret
  exact ⟨rfl, ⟨by rw [hzl]; exact HO3.out, HM3.out⟩, HF3.out⟩
end Go.Proofs.YtpnkcjnemoompaaDoor.Grid
end
section
namespace Go.Proofs.YtpnkcjnemoompaaDoor.Grid
open Go.RowKit Go.Proofs.YtpnkcjnemoompaaDoor Go.Proofs.YtpnkcjnemoompaaDoor.Ext Go.Proofs.YtpnkcjnemoompaaDoor.PPlan Go.Proofs.YtpnkcjnemoompaaDoor.PFft Go.Proofs.YtpnkcjnemoompaaDoor.Pure Go.Proofs.YtpnkcjnemoompaaDoor.Obj Go.Proofs.YtpnkcjnemoompaaDoor.Fft Go.Proofs.YtpnkcjnemoompaaDoor.Kern Go.Proofs.YtpnkcjnemoompaaDoorW.PrintWords Go.Proofs.YtpnkcjnemoompaaDoorW.PrintLast Go.Proofs.YtpnkcjnemoompaaDoorW.PrintMore
set_option linter.unusedVariables false
set_option linter.unusedSimpArgs false
set_option maxRecDepth 100000
theorem eqA23 (d : Nat) (w : World) (x0 y0 x1 y1 : Int) :
    (Op.equalIn (d + 2) 23 (.agg #[.int .i64 x0, .int .i64 x1]) (.agg #[.int .i64 y0, .int .i64 y1])).run Tryd.prog w = .ok (x0 == y0 && (x1 == y1)) w := by
  refine eqA_of Tryd.underlying23 (by kernel_rfl) ?_
  refine eqf_cons (by rfl) (by go_simp; rfl) (by go_simp; rfl) (by go_simp) ?_
  exact eqf_last (by rfl) (by go_simp; rfl) (by go_simp; rfl) (by go_simp)
attribute [local go_sem high] eqA23
set_option maxHeartbeats 4000000 in
theorem gtrans_kind (p g c : Nat) (R C : Int) (xs : List Int) (d : Int) (hg : GoodS R C) (hs : R * C = (xs.length : Int)) (hL : xs.length ≤ 1048576) (hd : ¬ (d = 0 ∨ d = 1)) (w : World) (hG : Gd w p g c R C xs) (hT : TabOK w) :
    Calls Tryd.prog 22 #[.pointer (some ⟨p, 0, none⟩), .int .i64 d] w fun e w' => e = .returned (.int .i64 18) ∧ Below w.heap.size w w' := by
  have HR := Aside0.mk (show (18 : Int) = ckw xs R C d by unfold ckw; rw [if_pos ⟨hg, hs⟩, if_neg hd])
  have HG0 := Aside0.mk hG
  have HT0 := Aside0.mk hT
  clear hg hs hd hG hT
  go_enter Tryd.func22, Tryd.ntmps22
  go_wp2_with fail
  refine start_ (n := 12) (S := fun w' => w'.cell? ⟨p, 0, none⟩ = some (.int .i64 R) ∧ w'.cell? ⟨p, 1, none⟩ = some (.int .i64 C) ∧ w'.cell? ⟨p, 2, none⟩ = some (.slice (some ⟨g, 0, none⟩) xs.length c) ∧ Aside0 (Gd w' p g c R C xs ∧ Below w.heap.size w w')) (ds := []) #[false, false, false, false, false, false, false, false, false, false, false, false] (by kernel_rfl) rfl rfl ⟨HG0.out.drew.c0, HG0.out.drew.c1, HG0.out.drew.c2, ⟨HG0.out.drew, below_drew1 (Below.refl _ _)⟩⟩ (fun hHeld => ?_)
  refine pure_ (i := 0) (N := some 6) (v := ?_) (a' := ?_) #[true, false, false, false, false, false, false, false, false, false, false, false] rfl rfl (by kernel_rfl) (fun _ _ _ h => h) (Or.inl ⟨by rfl, ?_⟩) ?_ ?_
  rotate_left
  · intro w'
    go_simp
    with_reducible rfl
  rotate_left
  · simp only [Act.put, List.setIfInBounds_toArray, List.set_cons_zero, List.set_cons_succ, i64_w, i32_w]
    rfl
  refine pure_ (i := 1) (N := some 7) (v := ?_) (a' := ?_) #[true, true, false, false, false, false, false, false, false, false, false, false] rfl rfl (by kernel_rfl) (fun _ _ _ h => h) (Or.inl ⟨by rfl, ?_⟩) ?_ ?_
  rotate_left
  · intro w'
    go_simp
    with_reducible rfl
  rotate_left
  · simp only [Act.put, List.setIfInBounds_toArray, List.set_cons_zero, List.set_cons_succ, i64_w, i32_w]
    rfl
  refine pure_ (i := 2) (N := some 8) (v := ?_) (a' := ?_) #[true, true, true, false, false, false, false, false, false, false, false, false] rfl rfl (by kernel_rfl) (fun _ _ _ h => h) (Or.inl ⟨by rfl, ?_⟩) ?_ ?_
  rotate_left
  · intro w'
    go_simp
    with_reducible rfl
  rotate_left
  · simp only [Act.put, List.setIfInBounds_toArray, List.set_cons_zero, List.set_cons_succ, i64_w, i32_w]
    rfl
  refine pure_ (i := 4) (N := some 10) (v := ?_) (a' := ?_) #[true, true, true, false, true, false, false, false, false, false, false, false] rfl rfl (by kernel_rfl) (fun _ _ _ h => h) (Or.inl ⟨by rfl, ?_⟩) ?_ ?_
  rotate_left
  · intro w'
    go_simp
    with_reducible rfl
  rotate_left
  · simp only [Act.put, List.setIfInBounds_toArray, List.set_cons_zero, List.set_cons_succ, i64_w, i32_w]
    rfl
  refine pure_ (i := 5) (N := some 11) (v := ?_) (a' := ?_) #[true, true, true, false, true, true, false, false, false, false, false, false] rfl rfl (by kernel_rfl) (fun _ _ _ h => h) (Or.inl ⟨by rfl, ?_⟩) ?_ ?_
  rotate_left
  · intro w'
    go_simp
    with_reducible rfl
  rotate_left
  · simp only [Act.put, List.setIfInBounds_toArray, List.set_cons_zero, List.set_cons_succ, i64_w, i32_w]
    rfl
  refine pure_ (i := 6) (N := some 12) (v := ?_) (a' := ?_) #[true, true, true, false, true, true, true, false, false, false, false, false] rfl rfl (by kernel_rfl) (fun _ _ _ h => h) (Or.inl ⟨by rfl, ?_⟩) ?_ ?_
  rotate_left
  · intro w'
    go_simp
    with_reducible rfl
  rotate_left
  · simp only [Act.put, List.setIfInBounds_toArray, List.set_cons_zero, List.set_cons_succ, i64_w, i32_w]
    rfl
  refine pure_ (i := 7) (N := some 13) (v := ?_) (a' := ?_) #[true, true, true, false, true, true, true, true, false, false, false, false] rfl rfl (by kernel_rfl) (fun _ _ _ h => h) (Or.inl ⟨by rfl, ?_⟩) ?_ ?_
  rotate_left
  · intro w'
    go_simp
    with_reducible rfl
  rotate_left
  · simp only [Act.put, List.setIfInBounds_toArray, List.set_cons_zero, List.set_cons_succ, i64_w, i32_w]
    rfl
  refine pure_ (i := 9) (N := some 15) (v := ?_) (a' := ?_) #[true, true, true, false, true, true, true, true, false, true, false, false] rfl rfl (by kernel_rfl) (fun _ _ _ h => h) (Or.inl ⟨by rfl, ?_⟩) ?_ ?_
  rotate_left
  · intro w'
    go_simp
    with_reducible rfl
  rotate_left
  · simp only [Act.put, List.setIfInBounds_toArray, List.set_cons_zero, List.set_cons_succ, i64_w, i32_w]
    rfl
  refine take_ (i := 3) (N := some 9) (v := ?_) (a' := ?_) #[true, true, true, true, true, true, true, true, false, true, false, false] rfl rfl (by kernel_rfl) (fun _ _ _ h => h) (Or.inl ⟨by rfl, ?_⟩) hHeld ?_ ?_
  rotate_left
  · rintro w' ⟨s0, s1, s2, s3⟩
    go_simp
    with_reducible rfl
  rotate_left
  · simp only [Act.put, List.setIfInBounds_toArray, List.set_cons_zero, List.set_cons_succ, i64_w, i32_w]
    rfl
  refine take_ (i := 8) (N := some 14) (v := ?_) (a' := ?_) #[true, true, true, true, true, true, true, true, true, true, false, false] rfl rfl (by kernel_rfl) (fun _ _ _ h => h) (Or.inl ⟨by rfl, ?_⟩) hHeld ?_ ?_
  rotate_left
  · rintro w' ⟨s0, s1, s2, s3⟩
    go_simp
    with_reducible rfl
  rotate_left
  · simp only [Act.put, List.setIfInBounds_toArray, List.set_cons_zero, List.set_cons_succ, i64_w, i32_w]
    rfl
  refine one_ (i := 10) (N := some 16) #[true, true, true, true, true, true, true, true, true, true, true, false] rfl rfl (by kernel_rfl) (by decide) (fun K hK => ?_)
  refine goes_ Tryd.func41 (by kernel_rfl) rfl #[.slice (some ⟨g, 0, none⟩) xs.length c, .agg #[.int .i64 R, .int .i64 C], .int .i64 d] (by rfl) rfl rfl (by simp only [List.map_toArray, List.map_cons, List.map_nil]; rfl) ?_
  with_reducible refine (rows_no (some ⟨g, 0, none⟩) c xs R C d 18 _ (In.of_mr hHeld.2.2.2.out.1.row (by omega)) HR.out rfl (HT0.out.below hHeld.2.2.2.out.2)).mono ?_
  rintro e w2 ⟨rfl, hb⟩
  refine ⟨_, rfl, ?_⟩
  have HG2 := Aside0.mk (hHeld.2.2.2.out.1.below hb)
  have HB2 := Aside0.mk (below_then hHeld.2.2.2.out.2 hHeld.2.2.2.out.2.size hb)
  clear hHeld hb
  refine hK.out _ _ ⟨HG2.out.c0, HG2.out.c1, HG2.out.c2, ⟨HG2.out, HB2.out⟩⟩ (fun hHeld => ?_)
  clear hK K
  refine norm_ (a' := ?_) ?_ ?_
  rotate_left
  · show Act.put _ (some 16) _ = _
    simp only [Act.put, List.setIfInBounds_toArray, List.set_cons_zero, List.set_cons_succ, i64_w, i32_w]
    rfl
  refine pure_ (i := 11) (N := some 5) (v := ?_) (a' := ?_) #[true, true, true, true, true, true, true, true, true, true, true, true] rfl rfl (by kernel_rfl) (fun _ _ _ h => h) (Or.inl ⟨by rfl, ?_⟩) ?_ ?_
  rotate_left
  · intro w'
    go_simp
    with_reducible rfl
  rotate_left
  · simp only [Act.put, List.setIfInBounds_toArray, List.set_cons_zero, List.set_cons_succ, i64_w, i32_w]
    rfl
  refine done_ (by kernel_rfl) ?_
  clear hHeld
  go_wp2
  go_ret
  exact ⟨rfl, HB2.out⟩
end Go.Proofs.YtpnkcjnemoompaaDoor.Grid
end
section
namespace Go.Proofs.YtpnkcjnemoompaaDoor.Grid
open Go.RowKit Go.Proofs.YtpnkcjnemoompaaDoor Go.Proofs.YtpnkcjnemoompaaDoor.Ext Go.Proofs.YtpnkcjnemoompaaDoor.PPlan Go.Proofs.YtpnkcjnemoompaaDoor.PFft Go.Proofs.YtpnkcjnemoompaaDoor.Pure Go.Proofs.YtpnkcjnemoompaaDoor.Obj Go.Proofs.YtpnkcjnemoompaaDoor.Fft Go.Proofs.YtpnkcjnemoompaaDoor.Kern Go.Proofs.YtpnkcjnemoompaaDoorW.PrintWords Go.Proofs.YtpnkcjnemoompaaDoorW.PrintLast Go.Proofs.YtpnkcjnemoompaaDoorW.PrintMore
set_option linter.unusedVariables false
set_option linter.unusedSimpArgs false
set_option maxRecDepth 100000
def upto (xs : List Int) (f : Nat → Int) : Nat → List Int
  | 0 => xs
  | i + 1 => (upto xs f i).set i (f i)
structure Tm (w0 w : World) (p g c q h d : Nat) (R C : Int) (n : Nat) (xs ys : List Int) : Prop where
  obj : Bk w p 35 [.int .i64 R, .int .i64 C, .slice (some ⟨g, 0, none⟩) n c]
  row : Mr w g c xs
  ob2 : Bk w q 35 [.int .i64 R, .int .i64 C, .slice (some ⟨h, 0, none⟩) n d]
  ro2 : Mr w h d ys
  fr : Fr w0 w [g]
theorem Tm.below {w0 w w' : World} {p g c q h d : Nat} {R C : Int} {n : Nat} {xs ys : List Int} (k : Tm w0 w p g c q h d R C n xs ys) (hb : Below w.heap.size w w') : Tm w0 w' p g c q h d R C n xs ys :=
  ⟨k.obj.below hb, k.row.below hb, k.ob2.below hb, k.ro2.below hb, k.fr.trans (Fr.of_below hb [g])⟩
theorem Tm.drew {w0 w : World} {p g c q h d : Nat} {R C : Int} {n : Nat} {xs ys : List Int} (k : Tm w0 w p g c q h d R C n xs ys) : Tm w0 w.drew p g c q h d R C n xs ys := k.below (below_drew1 (Below.refl _ _))
theorem Tm.put {w0 w : World} {p g c q h d : Nat} {R C : Int} {n : Nat} {xs ys : List Int} (k : Tm w0 w p g c q h d R C n xs ys) (hgh : g ≠ h) (i : Nat) (x : Int) : Tm w0 (w.setCell ⟨g, i, none⟩ (.int .u64 x)) p g c q h d R C n (xs.set i x) ys :=
  ⟨k.obj.far i _ (k.row.ne k.obj (by decide)), k.row.put i x, k.ob2.far i _ (k.row.ne k.ob2 (by decide)), k.ro2.far g i _ (Ne.symm hgh), k.fr.set g i _ (.inl (by simp))⟩
end Go.Proofs.YtpnkcjnemoompaaDoor.Grid
end
section
namespace Go.Proofs.YtpnkcjnemoompaaDoor.Grid
open Go.RowKit Go.Proofs.YtpnkcjnemoompaaDoor Go.Proofs.YtpnkcjnemoompaaDoor.Ext Go.Proofs.YtpnkcjnemoompaaDoor.PPlan Go.Proofs.YtpnkcjnemoompaaDoor.PFft Go.Proofs.YtpnkcjnemoompaaDoor.Pure Go.Proofs.YtpnkcjnemoompaaDoor.Obj Go.Proofs.YtpnkcjnemoompaaDoor.Fft Go.Proofs.YtpnkcjnemoompaaDoor.Kern Go.Proofs.YtpnkcjnemoompaaDoorW.PrintWords Go.Proofs.YtpnkcjnemoompaaDoorW.PrintLast Go.Proofs.YtpnkcjnemoompaaDoorW.PrintMore
set_option linter.unusedVariables false
set_option linter.unusedSimpArgs false
set_option maxRecDepth 100000
def plc (bs xs : List Int) (T : Nat → Nat) : Nat → List Int
  | 0 => bs
  | i + 1 => (plc bs xs T i).set (T i) (xs.getD i 0)
end Go.Proofs.YtpnkcjnemoompaaDoor.Grid
end
section
namespace Go.Proofs.YtpnkcjnemoompaaDoor.Grid
open Go.RowKit Go.Proofs.YtpnkcjnemoompaaDoor Go.Proofs.YtpnkcjnemoompaaDoor.Ext Go.Proofs.YtpnkcjnemoompaaDoor.PPlan Go.Proofs.YtpnkcjnemoompaaDoor.PFft Go.Proofs.YtpnkcjnemoompaaDoor.Pure Go.Proofs.YtpnkcjnemoompaaDoor.Obj Go.Proofs.YtpnkcjnemoompaaDoor.Fft Go.Proofs.YtpnkcjnemoompaaDoor.Kern Go.Proofs.YtpnkcjnemoompaaDoorW.PrintWords Go.Proofs.YtpnkcjnemoompaaDoorW.PrintLast Go.Proofs.YtpnkcjnemoompaaDoorW.PrintMore
set_option linter.unusedVariables false
set_option linter.unusedSimpArgs false
set_option maxRecDepth 100000
structure Mq (w0 w : World) (p g cg b0 b1 b2 : Nat) (R C u v : Int) (xs : List Int) : Prop where
  gd : Gd w p g cg R C xs
  e0 : Bk w b0 26 [.pointer (some ⟨p, 0, none⟩)]
  e1 : Bk w b1 3 [.int .i64 u]
  e2 : Bk w b2 3 [.int .i64 v]
  be : Below w0.heap.size w0 w
  h1 : w0.heap.size ≤ b1
  h2 : w0.heap.size ≤ b2
theorem Mq.below {w0 w w' : World} {p g cg b0 b1 b2 : Nat} {R C u v : Int} {xs : List Int} (k : Mq w0 w p g cg b0 b1 b2 R C u v xs) (hb : Below w.heap.size w w') : Mq w0 w' p g cg b0 b1 b2 R C u v xs :=
  ⟨k.gd.below hb, k.e0.below hb, k.e1.below hb, k.e2.below hb, below_then k.be k.be.size hb, k.h1, k.h2⟩
theorem Mq.drew {w0 w : World} {p g cg b0 b1 b2 : Nat} {R C u v : Int} {xs : List Int} (k : Mq w0 w p g cg b0 b1 b2 R C u v xs) : Mq w0 w.drew p g cg b0 b1 b2 R C u v xs := k.below (below_drew1 (Below.refl _ _))
end Go.Proofs.YtpnkcjnemoompaaDoor.Grid
end
section
namespace Go.Proofs.YtpnkcjnemoompaaDoor.PFft
open Go.RowKit Go.Proofs.YtpnkcjnemoompaaDoor.Ext Go.Proofs.YtpnkcjnemoompaaDoor.PPlan Go.Proofs.YtpnkcjnemoompaaDoorW.PrintWords Go.Proofs.YtpnkcjnemoompaaDoorW.PrintLast Go.Proofs.YtpnkcjnemoompaaDoorW.PrintMore
attribute [local go_sem] max2_int min2_int max_two min_two max_three min_three max_four min_four   -- for this text's walks alone
set_option linter.unusedVariables false
set_option linter.unusedSimpArgs false
set_option maxHeartbeats 8000000 in
set_option maxRecDepth 100000 in
theorem abacistref32_Transform.calls (k : Nat) (A0 : Option Addr) (c0 : Nat) (l0 : List Int) (a1_0 : Int) (a1_1 : Int) (a2 : Int) (r : List Int) (w : World) (hr0 : Kd.C (Kd.int .u64) w A0 l0.length l0) (hc0 : l0.length ≤ c0) (h : abacistref32_Transform.f k l0 a1_0 a1_1 a2 = some r) :
    Calls Tryd.prog 23 #[.slice A0 l0.length c0, .agg #[.int .i64 a1_0, .int .i64 a1_1], .int .i64 a2] w fun e w' => ∃ v0_ : Value, e = .returned (v0_) ∧ Kd.R (Kd.int .u64) 45 w' w.heap.size (fun _ => True) v0_ r ∧ Below w.heap.size w w' := by
  have hu23 := Tryd.underlying23
  have HR0 := Aside0.mk hr0
  have HC0 := Aside0.mk hc0
  clear hr0 hc0
  have HB := Aside0.mk (Below.refl w.heap.size w)
  have H : ((abacistref03_Fits.f k a1_0).bind fun t270 => ((abacistref08_Root.f k t270 a2).bind fun t271 => ((abacistref03_Fits.f k a1_1).bind fun t272 => ((abacistref08_Root.f k t272 a2).bind fun t273 => (abacistref32_Transform.l0 k l0 a2 t271 t273 ([] : List Int) 0 a1_0 a1_1))))) = some r := h
  clear h
  replace H := Option.bind_eq_some_iff.mp H
  obtain ⟨t270, A40, H⟩ := H
  replace H : ((abacistref08_Root.f k t270 a2).bind fun t271 => ((abacistref03_Fits.f k a1_1).bind fun t272 => ((abacistref08_Root.f k t272 a2).bind fun t273 => (abacistref32_Transform.l0 k l0 a2 t271 t273 ([] : List Int) 0 a1_0 a1_1)))) = some r := H
  have A4 := Aside0.mk A40
  clear A40
  replace H := Option.bind_eq_some_iff.mp H
  obtain ⟨t271, A50, H⟩ := H
  replace H : ((abacistref03_Fits.f k a1_1).bind fun t272 => ((abacistref08_Root.f k t272 a2).bind fun t273 => (abacistref32_Transform.l0 k l0 a2 t271 t273 ([] : List Int) 0 a1_0 a1_1))) = some r := H
  have A5 := Aside0.mk A50
  clear A50
  replace H := Option.bind_eq_some_iff.mp H
  obtain ⟨t272, A60, H⟩ := H
  replace H : ((abacistref08_Root.f k t272 a2).bind fun t273 => (abacistref32_Transform.l0 k l0 a2 t271 t273 ([] : List Int) 0 a1_0 a1_1)) = some r := H
  have A6 := Aside0.mk A60
  clear A60
  replace H := Option.bind_eq_some_iff.mp H
  obtain ⟨t273, A70, H⟩ := H
  replace H : (abacistref32_Transform.l0 k l0 a2 t271 t273 ([] : List Int) 0 a1_0 a1_1) = some r := H
  have A7 := Aside0.mk A70
  clear A70
  have H' := Aside0.mk H
  clear H
  go_enter Tryd.func23, Tryd.ntmps23
  go_wp2_with (first | ((with_reducible refine gate_dst (N := 4) rfl ?_); refine box_event ?hg (N := 4) ?hd (cs := #[.int .i64 a1_0, .int .i64 a1_1]) (t := 23) ?hr ?_; (case hd => rfl); (case hg => rfl); (case hr => first | (go_simp; done) | (go_simp; rfl)); intro gb269 hg w8 hbox hb; have n0_ := Aside0.mk (below_step (by repeat (first | (with_reducible first | exact HB.out | apply below_alloc | apply pw_below_drewN | apply below_drew1) | exact HB.out)) hb); have n1_ := Aside0.mk (hbox); have n2_ := Aside0.mk ((by rw [hg]; exact (below_size (by repeat (first | (with_reducible first | exact HB.out | apply below_alloc | apply pw_below_drewN | apply below_drew1) | exact HB.out))) : w.heap.size ≤ gb269)); have n3_ := Aside0.mk ((by rw [hg]; exact (below_size (by repeat (first | (with_reducible first | exact HB.out | apply below_alloc | apply pw_below_drewN | apply below_drew1) | exact HB.out))) : w.heap.size ≤ gb269)); clear HB; have HB := n0_; have BK269 := n1_; have GW269 := n2_; have GE269 := n3_; clear n0_ n1_ n2_ n3_; clear hb hbox hg; have hcz9_0 : w8.cell? ⟨gb269, 0, none⟩ = some (.int .i64 a1_0) := (blk_cell BK269.out 0).trans rfl; have hcz9_1 : w8.cell? ⟨gb269, 1, none⟩ = some (.int .i64 a1_1) := (blk_cell BK269.out 1).trans rfl; have hfz9_0 := blk_frozen BK269.out 0; have hfz9_1 := blk_frozen BK269.out 1) | (go_at_call 47; (with_reducible refine (abacistref03_Fits.calls k a1_0 t270 _ A4.out).mono ?_); rintro e w' ⟨rfl, ⟨nd, rfl⟩⟩; (try first | exact ⟨rfl, _, World.drewN_drewN _ _ _⟩ | exact ⟨rfl, _, Eq.trans (World.drewN_drewN _ _ _) (congrArg (World.drewN _) (Nat.add_assoc _ _ _))⟩)) | (go_at_call 72; (with_reducible refine (abacistref08_Root.calls k t270 a2 t271 _ A5.out).mono ?_); rintro e w' ⟨rfl, ⟨nd, rfl⟩⟩; (try first | exact ⟨rfl, _, World.drewN_drewN _ _ _⟩ | exact ⟨rfl, _, Eq.trans (World.drewN_drewN _ _ _) (congrArg (World.drewN _) (Nat.add_assoc _ _ _))⟩)) | (go_at_call 47; (with_reducible refine (abacistref03_Fits.calls k a1_1 t272 _ A6.out).mono ?_); rintro e w' ⟨rfl, ⟨nd, rfl⟩⟩; (try first | exact ⟨rfl, _, World.drewN_drewN _ _ _⟩ | exact ⟨rfl, _, Eq.trans (World.drewN_drewN _ _ _) (congrArg (World.drewN _) (Nat.add_assoc _ _ _))⟩)) | (go_at_call 72; (with_reducible refine (abacistref08_Root.calls k t272 a2 t273 _ A7.out).mono ?_); rintro e w' ⟨rfl, ⟨nd, rfl⟩⟩; (try first | exact ⟨rfl, _, World.drewN_drewN _ _ _⟩ | exact ⟨rfl, _, Eq.trans (World.drewN_drewN _ _ _) (congrArg (World.drewN _) (Nat.add_assoc _ _ _))⟩)))
  repeat (go_quiet (first | ((with_reducible refine gate_dst (N := 4) rfl ?_); refine box_event ?hg (N := 4) ?hd (cs := #[.int .i64 a1_0, .int .i64 a1_1]) (t := 23) ?hr ?_; (case hd => rfl); (case hg => rfl); (case hr => first | (go_simp; done) | (go_simp; rfl)); intro gb269 hg w8 hbox hb; have n0_ := Aside0.mk (below_step (by repeat (first | (with_reducible first | exact HB.out | apply below_alloc | apply pw_below_drewN | apply below_drew1) | exact HB.out)) hb); have n1_ := Aside0.mk (hbox); have n2_ := Aside0.mk ((by rw [hg]; exact (below_size (by repeat (first | (with_reducible first | exact HB.out | apply below_alloc | apply pw_below_drewN | apply below_drew1) | exact HB.out))) : w.heap.size ≤ gb269)); have n3_ := Aside0.mk ((by rw [hg]; exact (below_size (by repeat (first | (with_reducible first | exact HB.out | apply below_alloc | apply pw_below_drewN | apply below_drew1) | exact HB.out))) : w.heap.size ≤ gb269)); clear HB; have HB := n0_; have BK269 := n1_; have GW269 := n2_; have GE269 := n3_; clear n0_ n1_ n2_ n3_; clear hb hbox hg; have hcz9_0 : w8.cell? ⟨gb269, 0, none⟩ = some (.int .i64 a1_0) := (blk_cell BK269.out 0).trans rfl; have hcz9_1 : w8.cell? ⟨gb269, 1, none⟩ = some (.int .i64 a1_1) := (blk_cell BK269.out 1).trans rfl; have hfz9_0 := blk_frozen BK269.out 0; have hfz9_1 := blk_frozen BK269.out 1) | (go_at_call 47; (with_reducible refine (abacistref03_Fits.calls k a1_0 t270 _ A4.out).mono ?_); rintro e w' ⟨rfl, ⟨nd, rfl⟩⟩; (try first | exact ⟨rfl, _, World.drewN_drewN _ _ _⟩ | exact ⟨rfl, _, Eq.trans (World.drewN_drewN _ _ _) (congrArg (World.drewN _) (Nat.add_assoc _ _ _))⟩)) | (go_at_call 72; (with_reducible refine (abacistref08_Root.calls k t270 a2 t271 _ A5.out).mono ?_); rintro e w' ⟨rfl, ⟨nd, rfl⟩⟩; (try first | exact ⟨rfl, _, World.drewN_drewN _ _ _⟩ | exact ⟨rfl, _, Eq.trans (World.drewN_drewN _ _ _) (congrArg (World.drewN _) (Nat.add_assoc _ _ _))⟩)) | (go_at_call 47; (with_reducible refine (abacistref03_Fits.calls k a1_1 t272 _ A6.out).mono ?_); rintro e w' ⟨rfl, ⟨nd, rfl⟩⟩; (try first | exact ⟨rfl, _, World.drewN_drewN _ _ _⟩ | exact ⟨rfl, _, Eq.trans (World.drewN_drewN _ _ _) (congrArg (World.drewN _) (Nat.add_assoc _ _ _))⟩)) | (go_at_call 72; (with_reducible refine (abacistref08_Root.calls k t272 a2 t273 _ A7.out).mono ?_); rintro e w' ⟨rfl, ⟨nd, rfl⟩⟩; (try first | exact ⟨rfl, _, World.drewN_drewN _ _ _⟩ | exact ⟨rfl, _, Eq.trans (World.drewN_drewN _ _ _) (congrArg (World.drewN _) (Nat.add_assoc _ _ _))⟩))); try go_wp2_with (first | ((with_reducible refine gate_dst (N := 4) rfl ?_); refine box_event ?hg (N := 4) ?hd (cs := #[.int .i64 a1_0, .int .i64 a1_1]) (t := 23) ?hr ?_; (case hd => rfl); (case hg => rfl); (case hr => first | (go_simp; done) | (go_simp; rfl)); intro gb269 hg w8 hbox hb; have n0_ := Aside0.mk (below_step (by repeat (first | (with_reducible first | exact HB.out | apply below_alloc | apply pw_below_drewN | apply below_drew1) | exact HB.out)) hb); have n1_ := Aside0.mk (hbox); have n2_ := Aside0.mk ((by rw [hg]; exact (below_size (by repeat (first | (with_reducible first | exact HB.out | apply below_alloc | apply pw_below_drewN | apply below_drew1) | exact HB.out))) : w.heap.size ≤ gb269)); have n3_ := Aside0.mk ((by rw [hg]; exact (below_size (by repeat (first | (with_reducible first | exact HB.out | apply below_alloc | apply pw_below_drewN | apply below_drew1) | exact HB.out))) : w.heap.size ≤ gb269)); clear HB; have HB := n0_; have BK269 := n1_; have GW269 := n2_; have GE269 := n3_; clear n0_ n1_ n2_ n3_; clear hb hbox hg; have hcz9_0 : w8.cell? ⟨gb269, 0, none⟩ = some (.int .i64 a1_0) := (blk_cell BK269.out 0).trans rfl; have hcz9_1 : w8.cell? ⟨gb269, 1, none⟩ = some (.int .i64 a1_1) := (blk_cell BK269.out 1).trans rfl; have hfz9_0 := blk_frozen BK269.out 0; have hfz9_1 := blk_frozen BK269.out 1) | (go_at_call 47; (with_reducible refine (abacistref03_Fits.calls k a1_0 t270 _ A4.out).mono ?_); rintro e w' ⟨rfl, ⟨nd, rfl⟩⟩; (try first | exact ⟨rfl, _, World.drewN_drewN _ _ _⟩ | exact ⟨rfl, _, Eq.trans (World.drewN_drewN _ _ _) (congrArg (World.drewN _) (Nat.add_assoc _ _ _))⟩)) | (go_at_call 72; (with_reducible refine (abacistref08_Root.calls k t270 a2 t271 _ A5.out).mono ?_); rintro e w' ⟨rfl, ⟨nd, rfl⟩⟩; (try first | exact ⟨rfl, _, World.drewN_drewN _ _ _⟩ | exact ⟨rfl, _, Eq.trans (World.drewN_drewN _ _ _) (congrArg (World.drewN _) (Nat.add_assoc _ _ _))⟩)) | (go_at_call 47; (with_reducible refine (abacistref03_Fits.calls k a1_1 t272 _ A6.out).mono ?_); rintro e w' ⟨rfl, ⟨nd, rfl⟩⟩; (try first | exact ⟨rfl, _, World.drewN_drewN _ _ _⟩ | exact ⟨rfl, _, Eq.trans (World.drewN_drewN _ _ _) (congrArg (World.drewN _) (Nat.add_assoc _ _ _))⟩)) | (go_at_call 72; (with_reducible refine (abacistref08_Root.calls k t272 a2 t273 _ A7.out).mono ?_); rintro e w' ⟨rfl, ⟨nd, rfl⟩⟩; (try first | exact ⟨rfl, _, World.drewN_drewN _ _ _⟩ | exact ⟨rfl, _, Eq.trans (World.drewN_drewN _ _ _) (congrArg (World.drewN _) (Nat.add_assoc _ _ _))⟩))))
  go_loopg [9, 10] k (fun kq v9 v10 w' => ∃ (x9_1 : List Int) (x10_1 : Int), v10 = .int .i64 x10_1 ∧ Aside0 (abacistref32_Transform.l0 kq l0 a2 t271 t273 x9_1 x10_1 a1_0 a1_1 = some r) ∧ Aside0 (kq ≤ k) ∧ Aside0 (Kd.R (Kd.int .u64) 45 w' w.heap.size (fun _ => True) v9 x9_1) ∧ Aside0 (w'.heap[gb269]? = some (.cells #[.int .i64 a1_0, .int .i64 a1_1] 23 (0, 0))) ∧ Aside0 (Below w.heap.size w w'))
  case atStart => exact ⟨(([] : List Int)), (0), (by first | rfl | (simp; done) | (simp [*]; done)), H', ⟨Nat.le_refl _⟩, ⟨by first | exact Kd.R_nil _ _ _ _ _ | exact Kd.N_nil _ _ _ _ _ | exact Kd.V_nil _ _ _ _ _ | exact Kd.Q_nil _ _ _ _ _ | exact Kd.S_nil _ _ _ _ _⟩, ⟨by (with_reducible repeat (first | refine blk_drewN ?_ _ | refine blk_drew ?_ | refine blk_alloc ?_ _)); exact BK269.out⟩, ⟨by repeat (first | (with_reducible first | exact HB.out | apply below_alloc | apply pw_below_drewN | apply below_drew1 | refine below_set ?_ GE269.out) | exact HB.out)⟩⟩
  case round =>
    clear H'
    try clear c2
    try clear p2
    try clear hcz9_0
    try clear hcz9_1
    try clear hfz9_0
    try clear hfz9_1
    obtain ⟨x9_1, x10_1, rfl, HA, HK1, HO_9, BK269, HB⟩ := hrel
    cases gk with
    | zero => exact absurd HA.out (by simp [abacistref32_Transform.l0])
    | succ k1 =>
      have H := HA.out
      clear HA
      simp only [abacistref32_Transform.l0] at H
      by_cases c10 : x10_1 < (l0.length : Int)
      · rw [if_pos c10] at H
        have c10b0 : decide (x10_1 < (l0.length : Int)) = true := decide_eq_true c10
        clear c10
        have H' := Aside0.mk H
        clear H
        go_wp2
        repeat (go_quiet (fail); try go_wp2)
        go_loopg [11, 12] k1 (fun kq v11 v12 w' => ∃ (x11_2 : Int) (x12_2 : Int), v11 = .int .u64 x11_2 ∧ v12 = .int .i64 x12_2 ∧ Aside0 (abacistref32_Transform.l1 kq l0 a2 t271 t273 x9_1 x10_1 x11_2 x12_2 a1_0 a1_1 = some r) ∧ Aside0 (kq ≤ k1) ∧ Aside0 (Kd.R (Kd.int .u64) 45 w' w.heap.size (fun _ => True) u9 x9_1) ∧ Aside0 (w'.heap[gb269]? = some (.cells #[.int .i64 a1_0, .int .i64 a1_1] 23 (0, 0))) ∧ Aside0 (Below w.heap.size w w'))
        case atStart => exact ⟨(0), (0), (by first | rfl | (simp; done) | (simp [*]; done)), (by first | rfl | (simp; done) | (simp [*]; done)), H', ⟨Nat.le_refl _⟩, ⟨by (with_reducible repeat (first | apply Kd.R_alloc | apply Kd.R_drewN | apply Kd.R_drew)); exact HO_9.out⟩, ⟨by (with_reducible repeat (first | refine blk_drewN ?_ _ | refine blk_drew ?_ | refine blk_alloc ?_ _)); exact BK269.out⟩, ⟨by repeat (first | (with_reducible first | exact HB.out | apply below_alloc | apply pw_below_drewN | apply below_drew1 | refine below_set ?_ GE269.out) | exact HB.out)⟩⟩
        case round =>
          clear H'
          try clear c1
          try clear c2
          try clear p2
          try clear c10
          try clear c10b0
          try clear hcz9_0
          try clear hcz9_1
          try clear hfz9_0
          try clear hfz9_1
          try clear p2
          obtain ⟨x11_2, x12_2, rfl, rfl, HA, HK2, HO_9, BK269, HB⟩ := hrel
          cases gk with
          | zero => exact absurd HA.out (by simp [abacistref32_Transform.l1])
          | succ k2 =>
            have H := HA.out
            clear HA
            simp only [abacistref32_Transform.l1] at H
            by_cases c11 : x12_2 < (l0.length : Int)
            · rw [if_pos c11] at H
              have c11b0 : decide (x12_2 < (l0.length : Int)) = true := decide_eq_true c11
              clear c11
              by_cases c12 : a1_1 = 0
              · rw [if_pos c12] at H
                exact absurd H (by simp)
              · rw [if_neg c12] at H
                have c12b0 : (a1_1 == 0) = false := beq_eq_false_iff_ne.mpr c12
                have c12b1 : (a1_1 != 0) = true := bne_iff_ne.mpr c12
                replace H := Option.bind_eq_some_iff.mp H
                obtain ⟨t277, A130, H⟩ := H
                replace H : ((abacistref02_Pow.f k2 t273 (IntKind.u64.wrap (wrap64 ((Int.tmod x10_1 a1_1) * (Int.tmod x12_2 a1_1))))).bind fun t278 => ((abacistref02_Mul.f k2 t277 t278).bind fun t279 => (if 0 ≤ x12_2 then ((abacistref02_Mul.f k2 (rd l0 x12_2) t279).bind fun t281 => ((abacistref02_Add.f x11_2 t281).bind fun t282 => (abacistref32_Transform.l1 k2 l0 a2 t271 t273 x9_1 x10_1 t282 (wrap64 (x12_2 + 1)) a1_0 a1_1))) else (none)))) = some r := H
                have A13 := Aside0.mk A130
                clear A130
                replace H := Option.bind_eq_some_iff.mp H
                obtain ⟨t278, A140, H⟩ := H
                replace H : ((abacistref02_Mul.f k2 t277 t278).bind fun t279 => (if 0 ≤ x12_2 then ((abacistref02_Mul.f k2 (rd l0 x12_2) t279).bind fun t281 => ((abacistref02_Add.f x11_2 t281).bind fun t282 => (abacistref32_Transform.l1 k2 l0 a2 t271 t273 x9_1 x10_1 t282 (wrap64 (x12_2 + 1)) a1_0 a1_1))) else (none))) = some r := H
                have A14 := Aside0.mk A140
                clear A140
                replace H := Option.bind_eq_some_iff.mp H
                obtain ⟨t279, A150, H⟩ := H
                replace H : (if 0 ≤ x12_2 then ((abacistref02_Mul.f k2 (rd l0 x12_2) t279).bind fun t281 => ((abacistref02_Add.f x11_2 t281).bind fun t282 => (abacistref32_Transform.l1 k2 l0 a2 t271 t273 x9_1 x10_1 t282 (wrap64 (x12_2 + 1)) a1_0 a1_1))) else (none)) = some r := H
                have A15 := Aside0.mk A150
                clear A150
                by_cases c16 : 0 ≤ x12_2
                · rw [if_pos c16] at H
                  have c16b0 : decide (0 ≤ x12_2) = true := decide_eq_true c16
                  clear c16
                  replace H := Option.bind_eq_some_iff.mp H
                  obtain ⟨t281, A170, H⟩ := H
                  replace H : ((abacistref02_Add.f x11_2 t281).bind fun t282 => (abacistref32_Transform.l1 k2 l0 a2 t271 t273 x9_1 x10_1 t282 (wrap64 (x12_2 + 1)) a1_0 a1_1)) = some r := H
                  have A17 := Aside0.mk A170
                  clear A170
                  replace H := Option.bind_eq_some_iff.mp H
                  obtain ⟨t282, A180, H⟩ := H
                  replace H : (abacistref32_Transform.l1 k2 l0 a2 t271 t273 x9_1 x10_1 t282 (wrap64 (x12_2 + 1)) a1_0 a1_1) = some r := H
                  have A18 := Aside0.mk A180
                  clear A180
                  have H' := Aside0.mk H
                  clear H
                  have hcz19_0 : wr.cell? ⟨gb269, 0, none⟩ = some (.int .i64 a1_0) := (blk_cell BK269.out 0).trans rfl
                  have hcz19_1 : wr.cell? ⟨gb269, 1, none⟩ = some (.int .i64 a1_1) := (blk_cell BK269.out 1).trans rfl
                  have hfz19_0 := blk_frozen BK269.out 0
                  have hfz19_1 := blk_frozen BK269.out 1
                  go_wp2_with (first | (go_at_call 73; (with_reducible refine (abacistref02_Pow.calls k2 t271 (IntKind.u64.wrap (wrap64 ((wrap64 (Int.tdiv x10_1 a1_1)) * (wrap64 (Int.tdiv x12_2 a1_1))))) t277 _ A13.out).mono ?_); rintro e w' ⟨rfl, ⟨nd, rfl⟩⟩; (try first | exact ⟨rfl, _, World.drewN_drewN _ _ _⟩ | exact ⟨rfl, _, Eq.trans (World.drewN_drewN _ _ _) (congrArg (World.drewN _) (Nat.add_assoc _ _ _))⟩)) | (go_at_call 73; (with_reducible refine (abacistref02_Pow.calls k2 t273 (IntKind.u64.wrap (wrap64 ((Int.tmod x10_1 a1_1) * (Int.tmod x12_2 a1_1)))) t278 _ A14.out).mono ?_); rintro e w' ⟨rfl, ⟨nd, rfl⟩⟩; (try first | exact ⟨rfl, _, World.drewN_drewN _ _ _⟩ | exact ⟨rfl, _, Eq.trans (World.drewN_drewN _ _ _) (congrArg (World.drewN _) (Nat.add_assoc _ _ _))⟩)) | (go_at_call 28; (with_reducible refine (abacistref02_Mul.calls k2 t277 t278 t279 _ A15.out).mono ?_); rintro e w' ⟨rfl, ⟨nd, rfl⟩⟩; (try first | exact ⟨rfl, _, World.drewN_drewN _ _ _⟩ | exact ⟨rfl, _, Eq.trans (World.drewN_drewN _ _ _) (congrArg (World.drewN _) (Nat.add_assoc _ _ _))⟩); have p280 : 0 ≤ (x12_2 : Int) := of_decide_eq_true (by first | (with_reducible assumption) | assumption); have q280 : x12_2 < (l0.length : Int) := of_decide_eq_true (by first | (with_reducible assumption) | assumption); obtain ⟨ad280, e280, hx280_0⟩ := Kd.at_int HR0.out x12_2 p280 q280; cases e280; replace hx280_0 := (HB.out.cell (World.block_lt_of_cell? w _ hx280_0)).trans hx280_0; replace p280 := eq_true p280; replace q280 := eq_true q280) | (go_at_call 28; (with_reducible refine (abacistref02_Mul.calls k2 (rd l0 x12_2) t279 t281 _ A17.out).mono ?_); rintro e w' ⟨rfl, ⟨nd, rfl⟩⟩; (try first | exact ⟨rfl, _, World.drewN_drewN _ _ _⟩ | exact ⟨rfl, _, Eq.trans (World.drewN_drewN _ _ _) (congrArg (World.drewN _) (Nat.add_assoc _ _ _))⟩)) | (go_at_call 66; (with_reducible refine (abacistref02_Add.calls x11_2 t281 t282 _ A18.out).mono ?_); rintro e w' ⟨rfl, ⟨nd, rfl⟩⟩; (try first | exact ⟨rfl, _, World.drewN_drewN _ _ _⟩ | exact ⟨rfl, _, Eq.trans (World.drewN_drewN _ _ _) (congrArg (World.drewN _) (Nat.add_assoc _ _ _))⟩)))
                  have W13 := Aside0.mk (show abacistref02_Pow.f k2 t271 (IntKind.u64.wrap (IntKind.i64.wrap ((IntKind.i64.wrap (Int.tdiv x10_1 a1_1)) * (IntKind.i64.wrap (Int.tdiv x12_2 a1_1))))) = some t277 from by simp only [i64_w]; exact A13.out)
                  have W14 := Aside0.mk (show abacistref02_Pow.f k2 t273 (IntKind.u64.wrap (IntKind.i64.wrap ((Int.tmod x10_1 a1_1) * (Int.tmod x12_2 a1_1)))) = some t278 from by simp only [i64_w]; exact A14.out)
                  repeat (go_quiet (first | (go_at_call 73; (with_reducible refine (abacistref02_Pow.calls k2 t271 (IntKind.u64.wrap (IntKind.i64.wrap ((IntKind.i64.wrap (Int.tdiv x10_1 a1_1)) * (IntKind.i64.wrap (Int.tdiv x12_2 a1_1))))) t277 _ W13.out).mono ?_); rintro e w' ⟨rfl, ⟨nd, rfl⟩⟩; (try first | exact ⟨rfl, _, World.drewN_drewN _ _ _⟩ | exact ⟨rfl, _, Eq.trans (World.drewN_drewN _ _ _) (congrArg (World.drewN _) (Nat.add_assoc _ _ _))⟩)) | (go_at_call 73; (with_reducible refine (abacistref02_Pow.calls k2 t273 (IntKind.u64.wrap (IntKind.i64.wrap ((Int.tmod x10_1 a1_1) * (Int.tmod x12_2 a1_1)))) t278 _ W14.out).mono ?_); rintro e w' ⟨rfl, ⟨nd, rfl⟩⟩; (try first | exact ⟨rfl, _, World.drewN_drewN _ _ _⟩ | exact ⟨rfl, _, Eq.trans (World.drewN_drewN _ _ _) (congrArg (World.drewN _) (Nat.add_assoc _ _ _))⟩)) | (go_at_call 28; (with_reducible refine (abacistref02_Mul.calls k2 t277 t278 t279 _ A15.out).mono ?_); rintro e w' ⟨rfl, ⟨nd, rfl⟩⟩; (try first | exact ⟨rfl, _, World.drewN_drewN _ _ _⟩ | exact ⟨rfl, _, Eq.trans (World.drewN_drewN _ _ _) (congrArg (World.drewN _) (Nat.add_assoc _ _ _))⟩); have p280 : 0 ≤ (x12_2 : Int) := of_decide_eq_true (by first | (with_reducible assumption) | assumption); have q280 : x12_2 < (l0.length : Int) := of_decide_eq_true (by first | (with_reducible assumption) | assumption); obtain ⟨ad280, e280, hx280_0⟩ := Kd.at_int HR0.out x12_2 p280 q280; cases e280; replace hx280_0 := (HB.out.cell (World.block_lt_of_cell? w _ hx280_0)).trans hx280_0; replace p280 := eq_true p280; replace q280 := eq_true q280) | (go_at_call 28; (with_reducible refine (abacistref02_Mul.calls k2 (rd l0 x12_2) t279 t281 _ A17.out).mono ?_); rintro e w' ⟨rfl, ⟨nd, rfl⟩⟩; (try first | exact ⟨rfl, _, World.drewN_drewN _ _ _⟩ | exact ⟨rfl, _, Eq.trans (World.drewN_drewN _ _ _) (congrArg (World.drewN _) (Nat.add_assoc _ _ _))⟩)) | (go_at_call 66; (with_reducible refine (abacistref02_Add.calls x11_2 t281 t282 _ A18.out).mono ?_); rintro e w' ⟨rfl, ⟨nd, rfl⟩⟩; (try first | exact ⟨rfl, _, World.drewN_drewN _ _ _⟩ | exact ⟨rfl, _, Eq.trans (World.drewN_drewN _ _ _) (congrArg (World.drewN _) (Nat.add_assoc _ _ _))⟩))); try go_wp2_with (first | (go_at_call 73; (with_reducible refine (abacistref02_Pow.calls k2 t271 (IntKind.u64.wrap (IntKind.i64.wrap ((IntKind.i64.wrap (Int.tdiv x10_1 a1_1)) * (IntKind.i64.wrap (Int.tdiv x12_2 a1_1))))) t277 _ W13.out).mono ?_); rintro e w' ⟨rfl, ⟨nd, rfl⟩⟩; (try first | exact ⟨rfl, _, World.drewN_drewN _ _ _⟩ | exact ⟨rfl, _, Eq.trans (World.drewN_drewN _ _ _) (congrArg (World.drewN _) (Nat.add_assoc _ _ _))⟩)) | (go_at_call 73; (with_reducible refine (abacistref02_Pow.calls k2 t273 (IntKind.u64.wrap (IntKind.i64.wrap ((Int.tmod x10_1 a1_1) * (Int.tmod x12_2 a1_1)))) t278 _ W14.out).mono ?_); rintro e w' ⟨rfl, ⟨nd, rfl⟩⟩; (try first | exact ⟨rfl, _, World.drewN_drewN _ _ _⟩ | exact ⟨rfl, _, Eq.trans (World.drewN_drewN _ _ _) (congrArg (World.drewN _) (Nat.add_assoc _ _ _))⟩)) | (go_at_call 28; (with_reducible refine (abacistref02_Mul.calls k2 t277 t278 t279 _ A15.out).mono ?_); rintro e w' ⟨rfl, ⟨nd, rfl⟩⟩; (try first | exact ⟨rfl, _, World.drewN_drewN _ _ _⟩ | exact ⟨rfl, _, Eq.trans (World.drewN_drewN _ _ _) (congrArg (World.drewN _) (Nat.add_assoc _ _ _))⟩); have p280 : 0 ≤ (x12_2 : Int) := of_decide_eq_true (by first | (with_reducible assumption) | assumption); have q280 : x12_2 < (l0.length : Int) := of_decide_eq_true (by first | (with_reducible assumption) | assumption); obtain ⟨ad280, e280, hx280_0⟩ := Kd.at_int HR0.out x12_2 p280 q280; cases e280; replace hx280_0 := (HB.out.cell (World.block_lt_of_cell? w _ hx280_0)).trans hx280_0; replace p280 := eq_true p280; replace q280 := eq_true q280) | (go_at_call 28; (with_reducible refine (abacistref02_Mul.calls k2 (rd l0 x12_2) t279 t281 _ A17.out).mono ?_); rintro e w' ⟨rfl, ⟨nd, rfl⟩⟩; (try first | exact ⟨rfl, _, World.drewN_drewN _ _ _⟩ | exact ⟨rfl, _, Eq.trans (World.drewN_drewN _ _ _) (congrArg (World.drewN _) (Nat.add_assoc _ _ _))⟩)) | (go_at_call 66; (with_reducible refine (abacistref02_Add.calls x11_2 t281 t282 _ A18.out).mono ?_); rintro e w' ⟨rfl, ⟨nd, rfl⟩⟩; (try first | exact ⟨rfl, _, World.drewN_drewN _ _ _⟩ | exact ⟨rfl, _, Eq.trans (World.drewN_drewN _ _ _) (congrArg (World.drewN _) (Nat.add_assoc _ _ _))⟩))))
                  go_roundg k2
                  case measure => have := HK1.out; have := HK2.out; omega
                  case rel => exact ⟨(t282), (wrap64 (x12_2 + 1)), (by first | rfl | (simp; done) | (simp [*]; done)), (by first | rfl | (simp; done) | (simp [*]; done)), H', ⟨by have := HK1.out; have := HK2.out; omega⟩, ⟨by (with_reducible repeat (first | apply Kd.R_alloc | apply Kd.R_drewN | apply Kd.R_drew)); exact HO_9.out⟩, ⟨by (with_reducible repeat (first | refine blk_drewN ?_ _ | refine blk_drew ?_ | refine blk_alloc ?_ _)); exact BK269.out⟩, ⟨by repeat (first | (with_reducible first | exact HB.out | apply below_alloc | apply pw_below_drewN | apply below_drew1 | refine below_set ?_ GE269.out) | exact HB.out)⟩⟩
                · rw [if_neg c16] at H
                  exact absurd H (by simp)
            · rw [if_neg c11] at H
              have c11b0 : decide (x12_2 < (l0.length : Int)) = false := decide_eq_false c11
              clear c11
              by_cases c20 : x9_1.length < 17592186044416
              · rw [if_pos c20] at H
                have LMc20 := Aside0.mk c20
                clear c20
                obtain ⟨y274, hy274⟩ : ∃ y_ : List Int, y_ = (x9_1 ++ [x11_2]) := ⟨_, rfl⟩
                replace H : (abacistref32_Transform.l0 k2 l0 a2 t271 t273 y274 (wrap64 (x10_1 + 1)) a1_0 a1_1) = some r := by first | (rw [hy274]; with_reducible exact H) | (have H2_ := (Option.bind_some _ _).symm.trans H; rw [hy274]; with_reducible exact H2_) | (have H2_ := (Option.bind_some _ _).symm.trans H; with_reducible exact H2_) | with_reducible exact H | (rw [hy274]; exact H) | exact H
                have Ny274 := Aside0.mk hy274
                clear hy274
                have H' := Aside0.mk H
                clear H
                go_wp2_with (first | ((with_reducible refine gate_builtin (b := .append) (xs := #[.tmp 69, .tmp 71]) rfl ?_); at_builtin; refine Kd.R_append (Kd.int .u64) (w0 := w) w.heap.size rfl (.tmp 69) (.tmp 71) 24 45 (.int .u64 0) 8 rfl Tryd.underlying24 info45 rfl (by decide) (by omega) u9 x9_1 x11_2 [.int .u64 x11_2] (fun _ => True) (fun _ => False) rfl rfl ?aP (fun _ hk => hk.elim) ?aF ?aO ?aB ?aS ?aL ?_; (case aP => exact rfl); (case aB => exact (by repeat (first | (with_reducible first | exact HB.out | apply below_alloc | apply pw_below_drewN | apply below_drew1 | refine below_set ?_ GE269.out) | exact HB.out))); (case aF => exact (fun _ _ => trivial)); (case aO => exact (by (with_reducible repeat (first | apply Kd.R_alloc | apply Kd.R_drewN | apply Kd.R_drew)); exact HO_9.out)); (case aS => exact (below_size (by repeat (first | (with_reducible first | exact HB.out | apply below_alloc | apply pw_below_drewN | apply below_drew1 | refine below_set ?_ GE269.out) | exact HB.out)))); (case aL => have := LMc20.out; omega); intro v275 w21 ho hb hg hat; rw [← Ny274.out] at ho; have n0_ := Aside0.mk (blk_grown (g := gb269) (o := .cells #[.int .i64 a1_0, .int .i64 a1_1] 23 (0, 0)) (by (with_reducible repeat (first | refine blk_drewN ?_ _ | refine blk_drew ?_ | refine blk_alloc ?_ _)); exact BK269.out) hg (Kd.R_ne HO_9.out BK269.out (by decide))); have n1_ := Aside0.mk (hb); have n2_ := Aside0.mk (ho); clear BK269; clear HB; clear HO_9; have BK269 := n0_; have HB := n1_; have HO276 := n2_; clear n0_ n1_ n2_; clear ho hb hg hat))
                repeat (go_quiet (first | ((with_reducible refine gate_builtin (b := .append) (xs := #[.tmp 69, .tmp 71]) rfl ?_); at_builtin; refine Kd.R_append (Kd.int .u64) (w0 := w) w.heap.size rfl (.tmp 69) (.tmp 71) 24 45 (.int .u64 0) 8 rfl Tryd.underlying24 info45 rfl (by decide) (by omega) u9 x9_1 x11_2 [.int .u64 x11_2] (fun _ => True) (fun _ => False) rfl rfl ?aP (fun _ hk => hk.elim) ?aF ?aO ?aB ?aS ?aL ?_; (case aP => exact rfl); (case aB => exact (by repeat (first | (with_reducible first | exact HB.out | apply below_alloc | apply pw_below_drewN | apply below_drew1 | refine below_set ?_ GE269.out) | exact HB.out))); (case aF => exact (fun _ _ => trivial)); (case aO => exact (by (with_reducible repeat (first | apply Kd.R_alloc | apply Kd.R_drewN | apply Kd.R_drew)); exact HO_9.out)); (case aS => exact (below_size (by repeat (first | (with_reducible first | exact HB.out | apply below_alloc | apply pw_below_drewN | apply below_drew1 | refine below_set ?_ GE269.out) | exact HB.out)))); (case aL => have := LMc20.out; omega); intro v275 w21 ho hb hg hat; rw [← Ny274.out] at ho; have n0_ := Aside0.mk (blk_grown (g := gb269) (o := .cells #[.int .i64 a1_0, .int .i64 a1_1] 23 (0, 0)) (by (with_reducible repeat (first | refine blk_drewN ?_ _ | refine blk_drew ?_ | refine blk_alloc ?_ _)); exact BK269.out) hg (Kd.R_ne HO_9.out BK269.out (by decide))); have n1_ := Aside0.mk (hb); have n2_ := Aside0.mk (ho); clear BK269; clear HB; clear HO_9; have BK269 := n0_; have HB := n1_; have HO276 := n2_; clear n0_ n1_ n2_; clear ho hb hg hat)); try go_wp2_with (first | ((with_reducible refine gate_builtin (b := .append) (xs := #[.tmp 69, .tmp 71]) rfl ?_); at_builtin; refine Kd.R_append (Kd.int .u64) (w0 := w) w.heap.size rfl (.tmp 69) (.tmp 71) 24 45 (.int .u64 0) 8 rfl Tryd.underlying24 info45 rfl (by decide) (by omega) u9 x9_1 x11_2 [.int .u64 x11_2] (fun _ => True) (fun _ => False) rfl rfl ?aP (fun _ hk => hk.elim) ?aF ?aO ?aB ?aS ?aL ?_; (case aP => exact rfl); (case aB => exact (by repeat (first | (with_reducible first | exact HB.out | apply below_alloc | apply pw_below_drewN | apply below_drew1 | refine below_set ?_ GE269.out) | exact HB.out))); (case aF => exact (fun _ _ => trivial)); (case aO => exact (by (with_reducible repeat (first | apply Kd.R_alloc | apply Kd.R_drewN | apply Kd.R_drew)); exact HO_9.out)); (case aS => exact (below_size (by repeat (first | (with_reducible first | exact HB.out | apply below_alloc | apply pw_below_drewN | apply below_drew1 | refine below_set ?_ GE269.out) | exact HB.out)))); (case aL => have := LMc20.out; omega); intro v275 w21 ho hb hg hat; rw [← Ny274.out] at ho; have n0_ := Aside0.mk (blk_grown (g := gb269) (o := .cells #[.int .i64 a1_0, .int .i64 a1_1] 23 (0, 0)) (by (with_reducible repeat (first | refine blk_drewN ?_ _ | refine blk_drew ?_ | refine blk_alloc ?_ _)); exact BK269.out) hg (Kd.R_ne HO_9.out BK269.out (by decide))); have n1_ := Aside0.mk (hb); have n2_ := Aside0.mk (ho); clear BK269; clear HB; clear HO_9; have BK269 := n0_; have HB := n1_; have HO276 := n2_; clear n0_ n1_ n2_; clear ho hb hg hat)))
                go_roundg k2
                case measure => have := HK1.out; have := HK2.out; omega
                case rel => exact ⟨(y274), (wrap64 (x10_1 + 1)), (by first | rfl | (simp; done) | (simp [*]; done)), H', ⟨by have := HK1.out; have := HK2.out; omega⟩, ⟨by (with_reducible repeat (first | apply Kd.R_alloc | apply Kd.R_drewN | apply Kd.R_drew)); exact HO276.out⟩, ⟨by (with_reducible repeat (first | refine blk_drewN ?_ _ | refine blk_drew ?_ | refine blk_alloc ?_ _)); exact BK269.out⟩, ⟨by repeat (first | (with_reducible first | exact HB.out | apply below_alloc | apply pw_below_drewN | apply below_drew1 | refine below_set ?_ GE269.out) | exact HB.out)⟩⟩
              · rw [if_neg c20] at H
                exact absurd H (by simp)
      · rw [if_neg c10] at H
        have c10b0 : decide (x10_1 < (l0.length : Int)) = false := decide_eq_false c10
        clear c10
        by_cases c22 : a2 = 1
        · rw [if_pos c22] at H
          have c22b0 : (a2 == 1) = true := beq_iff_eq.mpr c22
          have c22b1 : (a2 != 1) = false := bne_eq_false_iff_eq.mpr c22
          clear c22
          replace H := Option.bind_eq_some_iff.mp H
          obtain ⟨t283, A230, H⟩ := H
          replace H : ((abacistref08_Share.f k1 t283).bind fun t284 => ((abacistref08_Scale.f k1 x9_1 t284).bind fun t285 => (some t285))) = some r := H
          have A23 := Aside0.mk A230
          clear A230
          replace H := Option.bind_eq_some_iff.mp H
          obtain ⟨t284, A240, H⟩ := H
          replace H : ((abacistref08_Scale.f k1 x9_1 t284).bind fun t285 => (some t285)) = some r := H
          have A24 := Aside0.mk A240
          clear A240
          replace H := Option.bind_eq_some_iff.mp H
          obtain ⟨t285, A250, H⟩ := H
          replace H : (some t285) = some r := H
          have A25 := Aside0.mk A250
          clear A250
          obtain rfl := Option.some.inj H
          go_wp2_with (first | (go_at_call 47; (with_reducible refine (abacistref03_Fits.calls k1 (l0.length : Int) t283 _ A23.out).mono ?_); rintro e w' ⟨rfl, ⟨nd, rfl⟩⟩; (try first | exact ⟨rfl, _, World.drewN_drewN _ _ _⟩ | exact ⟨rfl, _, Eq.trans (World.drewN_drewN _ _ _) (congrArg (World.drewN _) (Nat.add_assoc _ _ _))⟩)) | (go_at_call 74; (with_reducible refine (abacistref08_Share.calls k1 t283 t284 _ A24.out).mono ?_); rintro e w' ⟨rfl, ⟨nd, rfl⟩⟩; (try first | exact ⟨rfl, _, World.drewN_drewN _ _ _⟩ | exact ⟨rfl, _, Eq.trans (World.drewN_drewN _ _ _) (congrArg (World.drewN _) (Nat.add_assoc _ _ _))⟩); obtain ⟨Ao26, co26, eo26⟩ := Kd.R_slice HO_9.out; subst eo26) | (go_at_call 54; (with_reducible refine (abacistref08_Scale.calls k1 _ _ x9_1 t284 t285 _ ?side1 ?side2 A25.out).mono ?_); (case side1 => repeat (first | exact (Kd.R_reads' HO_9.out).2.2 | (with_reducible refine Kd.C_alloc ?_ _) | (with_reducible refine Kd.C_drewN ?_ _) | (with_reducible refine Kd.C_drew ?_))); (case side2 => exact (Kd.R_reads' HO_9.out).2.1); rintro e w27 ⟨v286, rfl, ho0, hb⟩; have n0_ := Aside0.mk (Kd.R_elder' (by (with_reducible repeat (first | apply Kd.R_alloc | apply Kd.R_drewN | apply Kd.R_drew)); exact HO_9.out) (Kd.R_base ho0) hb); have n1_ := Aside0.mk (Kd.R_lower (Kd.R_new' ho0 (Kd.R_lt (by (with_reducible repeat (first | apply Kd.R_alloc | apply Kd.R_drewN | apply Kd.R_drew)); exact HO_9.out))) (below_size (by repeat (first | (with_reducible first | exact HB.out | apply below_alloc | apply pw_below_drewN | apply below_drew1 | refine below_set ?_ GE269.out) | exact HB.out)))); have n2_ := Aside0.mk (blk_below (g := gb269) (o := .cells #[.int .i64 a1_0, .int .i64 a1_1] 23 (0, 0)) (by (with_reducible repeat (first | refine blk_drewN ?_ _ | refine blk_drew ?_ | refine blk_alloc ?_ _)); exact BK269.out) hb); have n3_ := Aside0.mk (below_step (by repeat (first | (with_reducible first | exact HB.out | apply below_alloc | apply pw_below_drewN | apply below_drew1 | refine below_set ?_ GE269.out) | exact HB.out)) hb); clear HO_9; clear BK269; clear HB; have HO_9 := n0_; have HO287 := n1_; have BK269 := n2_; have HB := n3_; clear n0_ n1_ n2_ n3_; (try clear hb); (try clear hb2); (try clear hk); (try clear hi); (try clear ho0)))
          repeat (go_quiet (first | (go_at_call 47; (with_reducible refine (abacistref03_Fits.calls k1 (l0.length : Int) t283 _ A23.out).mono ?_); rintro e w' ⟨rfl, ⟨nd, rfl⟩⟩; (try first | exact ⟨rfl, _, World.drewN_drewN _ _ _⟩ | exact ⟨rfl, _, Eq.trans (World.drewN_drewN _ _ _) (congrArg (World.drewN _) (Nat.add_assoc _ _ _))⟩)) | (go_at_call 74; (with_reducible refine (abacistref08_Share.calls k1 t283 t284 _ A24.out).mono ?_); rintro e w' ⟨rfl, ⟨nd, rfl⟩⟩; (try first | exact ⟨rfl, _, World.drewN_drewN _ _ _⟩ | exact ⟨rfl, _, Eq.trans (World.drewN_drewN _ _ _) (congrArg (World.drewN _) (Nat.add_assoc _ _ _))⟩); obtain ⟨Ao26, co26, eo26⟩ := Kd.R_slice HO_9.out; subst eo26) | (go_at_call 54; (with_reducible refine (abacistref08_Scale.calls k1 _ _ x9_1 t284 t285 _ ?side1 ?side2 A25.out).mono ?_); (case side1 => repeat (first | exact (Kd.R_reads' HO_9.out).2.2 | (with_reducible refine Kd.C_alloc ?_ _) | (with_reducible refine Kd.C_drewN ?_ _) | (with_reducible refine Kd.C_drew ?_))); (case side2 => exact (Kd.R_reads' HO_9.out).2.1); rintro e w27 ⟨v286, rfl, ho0, hb⟩; have n0_ := Aside0.mk (Kd.R_elder' (by (with_reducible repeat (first | apply Kd.R_alloc | apply Kd.R_drewN | apply Kd.R_drew)); exact HO_9.out) (Kd.R_base ho0) hb); have n1_ := Aside0.mk (Kd.R_lower (Kd.R_new' ho0 (Kd.R_lt (by (with_reducible repeat (first | apply Kd.R_alloc | apply Kd.R_drewN | apply Kd.R_drew)); exact HO_9.out))) (below_size (by repeat (first | (with_reducible first | exact HB.out | apply below_alloc | apply pw_below_drewN | apply below_drew1 | refine below_set ?_ GE269.out) | exact HB.out)))); have n2_ := Aside0.mk (blk_below (g := gb269) (o := .cells #[.int .i64 a1_0, .int .i64 a1_1] 23 (0, 0)) (by (with_reducible repeat (first | refine blk_drewN ?_ _ | refine blk_drew ?_ | refine blk_alloc ?_ _)); exact BK269.out) hb); have n3_ := Aside0.mk (below_step (by repeat (first | (with_reducible first | exact HB.out | apply below_alloc | apply pw_below_drewN | apply below_drew1 | refine below_set ?_ GE269.out) | exact HB.out)) hb); clear HO_9; clear BK269; clear HB; have HO_9 := n0_; have HO287 := n1_; have BK269 := n2_; have HB := n3_; clear n0_ n1_ n2_ n3_; (try clear hb); (try clear hb2); (try clear hk); (try clear hi); (try clear ho0))); try go_wp2_with (first | (go_at_call 47; (with_reducible refine (abacistref03_Fits.calls k1 (l0.length : Int) t283 _ A23.out).mono ?_); rintro e w' ⟨rfl, ⟨nd, rfl⟩⟩; (try first | exact ⟨rfl, _, World.drewN_drewN _ _ _⟩ | exact ⟨rfl, _, Eq.trans (World.drewN_drewN _ _ _) (congrArg (World.drewN _) (Nat.add_assoc _ _ _))⟩)) | (go_at_call 74; (with_reducible refine (abacistref08_Share.calls k1 t283 t284 _ A24.out).mono ?_); rintro e w' ⟨rfl, ⟨nd, rfl⟩⟩; (try first | exact ⟨rfl, _, World.drewN_drewN _ _ _⟩ | exact ⟨rfl, _, Eq.trans (World.drewN_drewN _ _ _) (congrArg (World.drewN _) (Nat.add_assoc _ _ _))⟩); obtain ⟨Ao26, co26, eo26⟩ := Kd.R_slice HO_9.out; subst eo26) | (go_at_call 54; (with_reducible refine (abacistref08_Scale.calls k1 _ _ x9_1 t284 t285 _ ?side1 ?side2 A25.out).mono ?_); (case side1 => repeat (first | exact (Kd.R_reads' HO_9.out).2.2 | (with_reducible refine Kd.C_alloc ?_ _) | (with_reducible refine Kd.C_drewN ?_ _) | (with_reducible refine Kd.C_drew ?_))); (case side2 => exact (Kd.R_reads' HO_9.out).2.1); rintro e w27 ⟨v286, rfl, ho0, hb⟩; have n0_ := Aside0.mk (Kd.R_elder' (by (with_reducible repeat (first | apply Kd.R_alloc | apply Kd.R_drewN | apply Kd.R_drew)); exact HO_9.out) (Kd.R_base ho0) hb); have n1_ := Aside0.mk (Kd.R_lower (Kd.R_new' ho0 (Kd.R_lt (by (with_reducible repeat (first | apply Kd.R_alloc | apply Kd.R_drewN | apply Kd.R_drew)); exact HO_9.out))) (below_size (by repeat (first | (with_reducible first | exact HB.out | apply below_alloc | apply pw_below_drewN | apply below_drew1 | refine below_set ?_ GE269.out) | exact HB.out)))); have n2_ := Aside0.mk (blk_below (g := gb269) (o := .cells #[.int .i64 a1_0, .int .i64 a1_1] 23 (0, 0)) (by (with_reducible repeat (first | refine blk_drewN ?_ _ | refine blk_drew ?_ | refine blk_alloc ?_ _)); exact BK269.out) hb); have n3_ := Aside0.mk (below_step (by repeat (first | (with_reducible first | exact HB.out | apply below_alloc | apply pw_below_drewN | apply below_drew1 | refine below_set ?_ GE269.out) | exact HB.out)) hb); clear HO_9; clear BK269; clear HB; have HO_9 := n0_; have HO287 := n1_; have BK269 := n2_; have HB := n3_; clear n0_ n1_ n2_ n3_; (try clear hb); (try clear hb2); (try clear hk); (try clear hi); (try clear ho0))))
          go_ret
          exact ⟨_, by first | rfl | (simp [errW_none, errW_some] <;> rfl) | (simp [*, errW_none, errW_some] <;> rfl), by (with_reducible repeat (first | apply Kd.R_alloc | apply Kd.R_drewN | apply Kd.R_drew)); exact Kd.R_mono HO287.out (fun _ hk => trivial), by repeat (first | (with_reducible first | exact HB.out | apply below_alloc | apply pw_below_drewN | apply below_drew1 | refine below_set ?_ GE269.out) | exact HB.out)⟩
        · rw [if_neg c22] at H
          have c22b0 : (a2 == 1) = false := beq_eq_false_iff_ne.mpr c22
          have c22b1 : (a2 != 1) = true := bne_iff_ne.mpr c22
          obtain rfl := Option.some.inj H
          go_wp2
          repeat (go_quiet (fail); try go_wp2)
          go_ret
          exact ⟨_, by first | rfl | (simp [errW_none, errW_some] <;> rfl) | (simp [*, errW_none, errW_some] <;> rfl), by (with_reducible repeat (first | apply Kd.R_alloc | apply Kd.R_drewN | apply Kd.R_drew)); exact HO_9.out, by repeat (first | (with_reducible first | exact HB.out | apply below_alloc | apply pw_below_drewN | apply below_drew1 | refine below_set ?_ GE269.out) | exact HB.out)⟩
end Go.Proofs.YtpnkcjnemoompaaDoor.PFft
end
section
namespace Go.Proofs.YtpnkcjnemoompaaDoor.Grid
open Go.RowKit Go.Proofs.YtpnkcjnemoompaaDoor Go.Proofs.YtpnkcjnemoompaaDoor.Ext Go.Proofs.YtpnkcjnemoompaaDoor.PPlan Go.Proofs.YtpnkcjnemoompaaDoor.PFft Go.Proofs.YtpnkcjnemoompaaDoor.Pure Go.Proofs.YtpnkcjnemoompaaDoor.Obj Go.Proofs.YtpnkcjnemoompaaDoor.Fft Go.Proofs.YtpnkcjnemoompaaDoor.Kern Go.Proofs.YtpnkcjnemoompaaDoorW.PrintWords Go.Proofs.YtpnkcjnemoompaaDoorW.PrintLast Go.Proofs.YtpnkcjnemoompaaDoorW.PrintMore
set_option linter.unusedVariables false
set_option linter.unusedSimpArgs false
theorem tdv (i C : Nat) (h : i ≤ 1048576) : wrap64 (Int.tdiv (i : Int) (C : Int)) = ((i / C : Nat) : Int) := by
  rw [← Int.ofNat_tdiv]
  have h2 : i / C ≤ i := Nat.div_le_self i C
  generalize i / C = q at *
  exact wrap_i _ (by omega) (by omega)
theorem tmd (i C : Nat) : Int.tmod (i : Int) (C : Int) = ((i % C : Nat) : Int) := (Int.ofNat_tmod i C).symm
structure Sh (R C a b n : Nat) : Prop where
  r : R = 2 ^ a
  c : C = 2 ^ b
  ab : a + b ≤ 20
  n : R * C = n
theorem Sh.pow {R C a b n : Nat} (h : Sh R C a b n) : n = 2 ^ (a + b) := by rw [Nat.pow_add, ← h.r, ← h.c, h.n]
theorem Sh.le {R C a b n : Nat} (h : Sh R C a b n) : n ≤ 1048576 := by rw [h.pow]; exact pow20 h.ab
theorem Sh.cle {R C a b n : Nat} (h : Sh R C a b n) : C ≤ 1048576 := by rw [h.c]; exact pow20 (by have := h.ab; omega)
theorem Sh.r0 {R C a b n : Nat} (h : Sh R C a b n) : 0 < R := by rw [h.r]; exact Nat.two_pow_pos _
theorem Sh.c0 {R C a b n : Nat} (h : Sh R C a b n) : 0 < C := by rw [h.c]; exact Nat.two_pow_pos _
theorem Sh.at {R C a b n : Nat} (h : Sh R C a b n) {r c : Nat} (hr : r < R) (hc : c < C) : r * C + c < n := by rw [← h.n]; exact plc_lt hr hc
end Go.Proofs.YtpnkcjnemoompaaDoor.Grid
end
section
namespace Go.Proofs.YtpnkcjnemoompaaDoor.Grid
open Go.RowKit Go.Proofs.YtpnkcjnemoompaaDoor Go.Proofs.YtpnkcjnemoompaaDoor.Ext Go.Proofs.YtpnkcjnemoompaaDoor.PPlan Go.Proofs.YtpnkcjnemoompaaDoor.PFft Go.Proofs.YtpnkcjnemoompaaDoor.Pure Go.Proofs.YtpnkcjnemoompaaDoor.Obj Go.Proofs.YtpnkcjnemoompaaDoor.Fft Go.Proofs.YtpnkcjnemoompaaDoor.Kern Go.Proofs.YtpnkcjnemoompaaDoorW.PrintWords Go.Proofs.YtpnkcjnemoompaaDoorW.PrintLast Go.Proofs.YtpnkcjnemoompaaDoorW.PrintMore
set_option linter.unusedVariables false
set_option linter.unusedSimpArgs false
theorem Sh.tr {R C a b n : Nat} (h : Sh R C a b n) : a ≤ 32 ∧ b ≤ 32 := by have := h.ab; omega
def wgt (a b : Nat) (d : Int) (t s : Nat) : F := pw (rut a d) (t / 2 ^ b * (s / 2 ^ b)) * pw (rut b d) (t % 2 ^ b * (s % 2 ^ b))
theorem fac {R C a b n : Nat} (h : Sh R C a b n) (t s : Nat) (ht : t < n) (hs : s < n) : IntKind.u64.wrap (wrap64 (wrap64 (Int.tdiv (t : Int) (C : Int)) * wrap64 (Int.tdiv (s : Int) (C : Int)))) = ((t / 2 ^ b * (s / 2 ^ b) : Nat) : Int) ∧ t / 2 ^ b * (s / 2 ^ b) ≤ 1099511627776 := by
  have bn := h.le
  have h1 : t / C * (s / C) ≤ 1048576 * 1048576 := Nat.mul_le_mul (Nat.le_trans (Nat.div_le_self t C) (by omega)) (Nat.le_trans (Nat.div_le_self s C) (by omega))
  rw [← h.c]
  refine ⟨?_, h1⟩
  rw [tdv t C (by omega), tdv s C (by omega), mulc _ _ (by omega), wrap_u _ (by omega) (by omega)]
theorem fac2 {R C a b n : Nat} (h : Sh R C a b n) (t s : Nat) : IntKind.u64.wrap (wrap64 (Int.tmod (t : Int) (C : Int) * Int.tmod (s : Int) (C : Int))) = ((t % 2 ^ b * (s % 2 ^ b) : Nat) : Int) ∧ t % 2 ^ b * (s % 2 ^ b) ≤ 1099511627776 := by
  have bC := h.cle
  have h1 : t % C * (s % C) ≤ 1048576 * 1048576 := Nat.mul_le_mul (Nat.le_trans (Nat.le_of_lt (Nat.mod_lt t h.c0)) bC) (Nat.le_trans (Nat.le_of_lt (Nat.mod_lt s h.c0)) bC)
  rw [← h.c]
  refine ⟨?_, h1⟩
  rw [tmd, tmd, mulc _ _ (by omega), wrap_u _ (by omega) (by omega)]
theorem rPowN (A : F) (z : Int) (e : Nat) (hz : z = (e : Int)) (he : e ≤ 1099511627776) : Ev (fun k => abacistref02_Pow.f k (fv A) z) (fv (pw A e)) := by
  have h := rPow (fv A) z (fv_range A).1 ⟨by omega, by omega⟩
  rw [fo_fv, hz, Int.toNat_natCast] at h
  rw [hz]
  exact h
theorem rMulL (x : Int) (hx : 0 ≤ x) (A : F) : Ev (fun k => abacistref02_Mul.f k x (fv A)) (fv (fo x * A)) := by
  have h := rMul x (fv A) hx (fv_w A)
  rwa [fo_fv] at h
theorem rT_l1 {R C a b n : Nat} (h : Sh R C a b n) (l : List Int) (hl : Ws l) (hn : l.length = n) (d : Int) (A B : F) (hA : A = rut a d) (hB : B = rut b d) (out : List Int) (t : Nat) (ht : t < n) (ho : out.length = t) (res : List Int) (m : Nat) : ∀ j, j + m = n →
    Ev (fun k => abacistref32_Transform.l0 k l d (fv A) (fv B) (out ++ [fv (sm n fun s => el l s * wgt a b d t s)]) ((t + 1 : Nat) : Int) (R : Int) (C : Int)) res →
    Ev (fun k => abacistref32_Transform.l1 k l d (fv A) (fv B) out (t : Int) (fv (sm j fun s => el l s * wgt a b d t s)) (j : Int) (R : Int) (C : Int)) res := by
  have bn := h.le
  induction m with
  | zero =>
    intro j hj hres
    obtain rfl : j = n := by omega
    refine Ev.step (fun k => ?_) hres
    simp only [abacistref32_Transform.l1]
    rw [if_neg (by omega), if_pos (by omega), wsucc t (by omega)]
  | succ m ih =>
    intro j hj hres
    have c1 : (j : Int) < (l.length : Int) := by omega
    have c2 : ¬ (C : Int) = 0 := by have := h.c0; omega
    have c3 : (0 : Int) ≤ (j : Int) := by omega
    have b1 : j < 4611686018427387904 := by omega
    have hih := ih (j + 1) (by omega) hres
    have hjn : j < n := by omega
    refine Ev.step (f := fun k => (abacistref02_Pow.f k (fv A) (IntKind.u64.wrap (wrap64 (wrap64 (Int.tdiv (t : Int) (C : Int)) * wrap64 (Int.tdiv (j : Int) (C : Int)))))).bind fun t277 => (abacistref02_Pow.f k (fv B) (IntKind.u64.wrap (wrap64 (Int.tmod (t : Int) (C : Int) * Int.tmod (j : Int) (C : Int))))).bind fun t278 => (abacistref02_Mul.f k t277 t278).bind fun t279 => (abacistref02_Mul.f k (l.getD j 0) t279).bind fun t281 => (abacistref02_Add.f (fv (sm j fun s => el l s * wgt a b d t s)) t281).bind fun t282 => abacistref32_Transform.l1 k l d (fv A) (fv B) out (t : Int) t282 ((j + 1 : Nat) : Int) (R : Int) (C : Int)) (fun k => ?_) ?_
    · simp only [abacistref32_Transform.l1]
      rw [if_pos c1, if_neg c2, wsucc j b1, rdn]
      simp only [if_pos c3]
    · obtain ⟨e1, l1⟩ := fac h t j ht hjn
      obtain ⟨e2, l2⟩ := fac2 h t j
      refine Ev.bind (rPowN A _ _ e1 l1) (Ev.bind (rPowN B _ _ e2 l2) (Ev.bind (rMulF _ _) (Ev.bind (rMulL _ (hl j).1 _) (Ev.bind (Ev_eq (rAddF _ _)) ?_))))
      rw [sm_succ] at hih
      rw [show fo (l.getD j 0) * (pw A (t / 2 ^ b * (j / 2 ^ b)) * pw B (t % 2 ^ b * (j % 2 ^ b))) = el l j * wgt a b d t j by unfold el wgt; rw [hA, hB]]
      exact hih
theorem rT_l0 {R C a b n : Nat} (h : Sh R C a b n) (l : List Int) (hl : Ws l) (hn : l.length = n) (d : Int) (A B : F) (hA : A = rut a d) (hB : B = rut b d) (res : List Int) (hres : Ev (fun k => if d = 1 then (abacistref03_Fits.f k (l.length : Int)).bind fun t283 => (abacistref08_Share.f k t283).bind fun t284 => (abacistref08_Scale.f k (tb n fun t => sm n fun s => el l s * wgt a b d t s) t284).bind fun t285 => some t285 else some (tb n fun t => sm n fun s => el l s * wgt a b d t s)) res) (m : Nat) : ∀ t, t + m = n →
    Ev (fun k => abacistref32_Transform.l0 k l d (fv A) (fv B) (tb t fun t => sm n fun s => el l s * wgt a b d t s) (t : Int) (R : Int) (C : Int)) res := by
  induction m with
  | zero =>
    intro t ht
    obtain rfl : t = n := by omega
    refine Ev.step (fun k => ?_) hres
    simp only [abacistref32_Transform.l0]
    rw [if_neg (by omega)]
  | succ m ih =>
    intro t ht
    refine Ev.step (f := fun k => abacistref32_Transform.l1 k l d (fv A) (fv B) (tb t fun t => sm n fun s => el l s * wgt a b d t s) (t : Int) 0 0 (R : Int) (C : Int)) (fun k => ?_) ?_
    · simp only [abacistref32_Transform.l0]
      rw [if_pos (by omega)]
    · have hih := ih (t + 1) (by omega)
      rw [tb_succ] at hih
      exact rT_l1 h l hl hn d A B hA hB _ t (by omega) (tb_len _ _) res n 0 (by omega) hih
theorem rT {R C a b n : Nat} (h : Sh R C a b n) (l : List Int) (hl : Ws l) (hn : l.length = n) (d : Int) (hd : d = 0 ∨ d = 1) : Ev (fun k => abacistref32_Transform.f k l (R : Int) (C : Int) d) (tb n (t2 a b d (el l))) := by
  have hp := h.tr
  have hab := h.ab
  have bn := h.le
  have e1 : ∀ t, t2 a b d (el l) t = (sm n fun s => el l s * wgt a b d t s) * (if d = 1 then shf (a + b) else 1) := fun t => by rw [t2_sum, ← h.pow]; rfl
  unfold abacistref32_Transform.f
  refine Ev.bind (rfits_yes (R : Int) a ⟨by omega, by rw [h.r]⟩) (Ev.bind (r8Root a hp.1 d hd) (Ev.bind (rfits_yes (C : Int) b ⟨by omega, by rw [h.c]⟩) (Ev.bind (r8Root b hp.2 d hd) ?_)))
  refine rT_l0 h l hl hn d (rut a d) (rut b d) rfl rfl _ ?_ n 0 (by omega)
  rcases hd with rfl | rfl
  · refine Ev_ifn (by decide) ?_
    have e : (tb n fun t => sm n fun s => el l s * wgt a b 0 t s) = tb n (t2 a b 0 (el l)) := tb_congr fun t _ => by
      rw [e1 t, if_neg (by decide)]; grobner
    rw [e]
    exact Ev.now _
  · refine Ev_if rfl (Ev.bind (rfits_yes (l.length : Int) (a + b) ⟨by omega, by rw [hn, h.pow]⟩) (Ev.bind (rShare (a + b) (by omega)) ?_))
    have hs := rScale (tb n fun t => sm n fun s => el l s * wgt a b 1 t s) (tb_ws _ _) (fv (shf (a + b))) (fv_w _) (by rw [tb_len]; exact bn)
    rw [tb_len, fo_fv] at hs
    have e : (tb n fun i => el (tb n fun t => sm n fun s => el l s * wgt a b 1 t s) i * shf (a + b)) = tb n (t2 a b 1 (el l)) := tb_congr fun t ht => by
      rw [el_tb _ ht, e1 t, if_pos rfl]
    rw [e] at hs
    exact Ev.bind hs (Ev.now _)
end Go.Proofs.YtpnkcjnemoompaaDoor.Grid
end
section
namespace Go.Proofs.YtpnkcjnemoompaaDoor.Grid
open Go.RowKit Go.Proofs.YtpnkcjnemoompaaDoor Go.Proofs.YtpnkcjnemoompaaDoor.Ext Go.Proofs.YtpnkcjnemoompaaDoor.PPlan Go.Proofs.YtpnkcjnemoompaaDoor.PFft Go.Proofs.YtpnkcjnemoompaaDoor.Pure Go.Proofs.YtpnkcjnemoompaaDoor.Obj Go.Proofs.YtpnkcjnemoompaaDoor.Fft Go.Proofs.YtpnkcjnemoompaaDoor.Kern Go.Proofs.YtpnkcjnemoompaaDoorW.PrintWords Go.Proofs.YtpnkcjnemoompaaDoorW.PrintLast Go.Proofs.YtpnkcjnemoompaaDoorW.PrintMore
set_option linter.unusedVariables false
set_option linter.unusedSimpArgs false
set_option maxRecDepth 100000
theorem can_el (l : List Int) {i : Nat} (h : i < l.length) : el (can l) i = el l i := by rw [can_is, el_tb _ h]
theorem one_t2 : tb 4 (t2 1 1 0 (el (can [1, 0, 0, 0]))) = [1, 1, 1, 1] := by
  have h : ∀ i, i < 4 → t2 1 1 0 (el (can [1, 0, 0, 0])) i = 1 := by
    intro i _
    rw [t2_sum, show (2 : Nat) ^ (1 + 1) = 4 from rfl, sm_four, can_el [1, 0, 0, 0] (i := 0) (by decide), can_el [1, 0, 0, 0] (i := 1) (by decide), can_el [1, 0, 0, 0] (i := 2) (by decide), can_el [1, 0, 0, 0] (i := 3) (by decide), show el [1, 0, 0, 0] 0 = 1 from fo_one, show el [1, 0, 0, 0] 1 = 0 from fo_zero, show el [1, 0, 0, 0] 2 = 0 from fo_zero, show el [1, 0, 0, 0] 3 = 0 from fo_zero, if_neg (by decide), Nat.zero_div, Nat.zero_mod, Nat.mul_zero, Nat.mul_zero, pw_zero]
    grobner
  rw [tb_congr h]
  show (List.range 4).map (fun _ => fv 1) = _
  rw [fv_one]
  rfl
theorem good22 : GoodS 2 2 := ⟨1, 1, by decide, ⟨by decide, rfl⟩, ⟨by decide, rfl⟩⟩
set_option maxHeartbeats 4000000 in
theorem gawake (w : World) (hT : TabOK w) :
    Calls Tryd.prog 15 #[] w fun e w' => e = .returned (.bool true) ∧ Below w.heap.size w w' := by
  have HT := Aside0.mk hT
  have HB := Aside0.mk (below_alloc (Below.refl w.heap.size w) (Obj.cells #[.int .u64 1, .int .u64 0, .int .u64 0, .int .u64 0] 45))
  have HR := Aside0.mk (Mr.of_rw (show Rw _ w.heap.size [1, 0, 0, 0] from Bk.new w 45 [.int .u64 1, .int .u64 0, .int .u64 0, .int .u64 0]))
  clear hT
  go_enter Tryd.func15, Tryd.ntmps15
  go_wp2_with fail
  have h6 := gnew_yes (some ⟨w.heap.size, 0, none⟩) 4 [1, 0, 0, 0] 2 2 _ (In.of_mr HR.out (by decide)) one_ws (by decide) (by decide) good22 rfl (HT.out.below HB.out)
  rw [show ([1, 0, 0, 0] : List Int).length = 4 from rfl] at h6
  with_reducible refine h6.mono ?_
  clear h6
  rintro e w1 ⟨p, g, cg, rfl, hg, hb, hp, hgg⟩
  have HB1 := Aside0.mk (below_then HB.out HB.out.size hb)
  have HG1 := Aside0.mk hg
  have HP := Aside0.mk (show w.heap.size ≤ p ∧ w.heap.size ≤ g by have := HB.out.size; omega)
  have HTT := Aside0.mk (show TabOK w1 from HT.out.below HB1.out)
  clear hg hb hp hgg HB HR
  go_wp2_with fail
  have ht := gtrans_yes 2 2 1 1 p g cg (can [1, 0, 0, 0]) 0 (.inl rfl) rfl rfl (by decide) rfl (can_ws _) _ HG1.out HTT.out
  rw [show (can [1, 0, 0, 0]).length = 4 from can_len _, one_t2] at ht
  with_reducible refine ht.mono ?_
  clear ht
  rintro e w2 ⟨rfl, hg, hf⟩
  have HB2 := Aside0.mk (HB1.out.trans (hf.below (B := w.heap.size) HB1.out.size (by simpa using HP.out.2)))
  have HG2 := Aside0.mk hg
  clear hg hf HB1 HG1 HTT
  go_wp2_with fail
  with_reducible refine (gwords p g cg 2 2 [1, 1, 1, 1] _ HG2.out (by decide) (by decide)).mono ?_
  rintro e w3 ⟨h, d, rfl, hm, hb, hh⟩
  have HB3 := Aside0.mk (below_then HB2.out HB2.out.size hb)
  have HM3 := Aside0.mk hm
  clear hm hb hh HB2 HG2
  have HQ4 := Aside0.mk (Mr.of_rw (show Rw _ w3.heap.size [1, 1, 1, 1] from Bk.new w3 45 [.int .u64 1, .int .u64 1, .int .u64 1, .int .u64 1]))
  have HM4 := Aside0.mk (HM3.out.below (below_alloc (Below.refl w3.heap.size w3) (Obj.cells #[.int .u64 1, .int .u64 1, .int .u64 1, .int .u64 1] 45)))
  have HB4 := Aside0.mk (below_alloc HB3.out (Obj.cells #[.int .u64 1, .int .u64 1, .int .u64 1, .int .u64 1] 45))
  go_wp2_with fail
  have hs := same_calls (some ⟨h, 0, none⟩) (some ⟨w3.heap.size, 0, none⟩) d 4 [1, 1, 1, 1] [1, 1, 1, 1] _ (In.of_mr HM4.out (by decide)) (In.of_mr HQ4.out (by decide)) (by decide) rfl
  rw [show ([1, 1, 1, 1] : List Int).length = 4 from rfl] at hs
  with_reducible refine hs.mono ?_
  clear hs
  rintro e w5 ⟨rfl, hd⟩
  have HB5 := Aside0.mk (below_then HB4.out HB4.out.size hd.below)
  clear hd
  go_wp2
  go_ret
  exact ⟨rfl, HB5.out⟩
end Go.Proofs.YtpnkcjnemoompaaDoor.Grid
end
section
namespace Go.Proofs.YtpnkcjnemoompaaDoor.Grid
open Go.RowKit Go.Proofs.YtpnkcjnemoompaaDoor Go.Proofs.YtpnkcjnemoompaaDoor.Ext Go.Proofs.YtpnkcjnemoompaaDoor.PPlan Go.Proofs.YtpnkcjnemoompaaDoor.PFft Go.Proofs.YtpnkcjnemoompaaDoor.Pure Go.Proofs.YtpnkcjnemoompaaDoor.Obj Go.Proofs.YtpnkcjnemoompaaDoor.Fft Go.Proofs.YtpnkcjnemoompaaDoor.Kern Go.Proofs.YtpnkcjnemoompaaDoorW.PrintWords Go.Proofs.YtpnkcjnemoompaaDoorW.PrintLast Go.Proofs.YtpnkcjnemoompaaDoorW.PrintMore
set_option linter.unusedVariables false
set_option linter.unusedSimpArgs false
set_option maxRecDepth 100000
attribute [local go_sem high] eqA23
structure Gt (w w' : World) (p g cg bs : Nat) (R C : Int) (xs : List Int) : Prop where
  be : Below w.heap.size w w'
  gd : Gd w' p g cg R C xs
  sh : Bk w' bs 23 [.int .i64 R, .int .i64 C]
theorem Gt.below {w w1 w2 : World} {p g cg bs : Nat} {R C : Int} {xs : List Int} (h : Gt w w1 p g cg bs R C xs) (hb : Below w1.heap.size w1 w2) : Gt w w2 p g cg bs R C xs := ⟨below_then h.be h.be.size hb, h.gd.below hb, h.sh.below hb⟩
theorem Gt.drew {w w1 : World} {p g cg bs : Nat} {R C : Int} {xs : List Int} (h : Gt w w1 p g cg bs R C xs) : Gt w w1.drew p g cg bs R C xs := h.below (below_drew1 (Below.refl _ _))
theorem canon_calls (A : Option Addr) (c : Nat) (l : List Int) (w : World) (hl : In w A c l) (hW : Ws l) (hL : l.length ≤ 1048576) :
    Calls Tryd.prog 21 #[.slice A l.length c] w fun e w' => ∃ B d, e = .returned (.slice B l.length d) ∧ In w' B d (can l) ∧ Below w.heap.size w w' := by
  obtain ⟨k, hk⟩ := (rCanon l hW hL).rounds
  rw [← can_is] at hk
  refine (abacistref08_Canon.calls k A c l (can l) w hl.r hl.c hk).mono ?_
  rintro e w1 ⟨v, rfl, hR, hb⟩
  obtain ⟨B, d, hv, hld, hcd⟩ := Kd.R_reads hR
  subst hv
  rw [can_len]
  exact ⟨B, d, rfl, In.mk hcd hld, hb⟩
theorem t32_calls {R C a b n : Nat} (h : Sh R C a b n) (A : Option Addr) (c : Nat) (l : List Int) (d : Int) (hd : d = 0 ∨ d = 1) (w : World) (hl : In w A c l) (hW : Ws l) (hn : l.length = n) :
    Calls Tryd.prog 23 #[.slice A l.length c, .agg #[.int .i64 (R : Int), .int .i64 (C : Int)], .int .i64 d] w fun e w' => ∃ B e0, e = .returned (.slice B n e0) ∧ In w' B e0 (tb n (t2 a b d (el l))) ∧ Below w.heap.size w w' := by
  obtain ⟨k, hk⟩ := (rT h l hW hn d hd).rounds
  refine (abacistref32_Transform.calls k A c l (R : Int) (C : Int) d _ w hl.r hl.c hk).mono ?_
  rintro e w1 ⟨v, rfl, hR, hb⟩
  obtain ⟨B, d, hv, hld, hcd⟩ := Kd.R_reads hR
  subst hv
  rw [tb_len]
  exact ⟨B, d, rfl, In.mk hcd hld, hb⟩
theorem same_n (A B : Option Addr) (c c' n : Nat) (a b : List Int) (w : World) (ha : In w A c a) (hb : In w B c' b) (hn : n ≤ 1048576) (h1 : a.length = n) (h : a = b) :
    Calls Tryd.prog 19 #[.slice A n c, .slice B n c'] w fun e w' => e = .returned (.bool true) ∧ Below w.heap.size w w' := by
  have hs := same_calls A B c c' a b w ha hb (by omega) h
  rw [← h, h1] at hs
  exact hs.mono fun e w' ⟨h1, h2⟩ => ⟨h1, h2.below⟩
set_option maxHeartbeats 4000000 in
theorem tr_shape (A : Option Addr) (c : Nat) (l : List Int) (R C d : Int) (w : World) (hl : In w A c l) (hL : l.length ≤ 64) (hg : ¬ GoodS R C) (hT : TabOK w) :
    Calls Tryd.prog 3 #[.agg #[.int .i64 R, .int .i64 C], .slice A l.length c, .int .i64 d] w fun e w' => e = .returned (.bool true) ∧ Below w.heap.size w w' := by
  obtain ⟨kg, hkg⟩ := (rgood_no R C hg).rounds
  have HG := Aside0.mk hkg
  have HN := Aside0.mk (show ¬ (GoodS R C ∧ R * C = (l.length : Int)) from fun q => hg q.1)
  clear hkg hg
  have HT0 := Aside0.mk hT
  have HB := Aside0.mk (below_alloc (Below.refl w.heap.size w) (Obj.cells #[.int .i64 R, .int .i64 C] 23))
  have HS := Aside0.mk (Bk.new w 23 [.int .i64 R, .int .i64 C])
  have HL0 := Aside0.mk hl
  obtain ⟨bs, hbs⟩ : ∃ z, z = w.heap.size := ⟨_, rfl⟩
  have hbg : w.heap.size ≤ bs := by omega
  have d1 : decide ((64 : Int) < (l.length : Int)) = false := decide_eq_false (by omega)
  clear hT hl
  go_enter Tryd.func3, Tryd.ntmps3
  go_wp2_with fail
  with_reducible refine (gawake _ (HT0.out.below HB.out)).mono ?_
  rintro e w1 ⟨rfl, hb⟩
  rw [← hbs] at HS ⊢
  clear hbs
  have HB1 := Aside0.mk (below_then HB.out HB.out.size hb)
  have HS1 := Aside0.mk (HS.out.below hb)
  have v0 := HS1.out.cell 0
  have v1 := HS1.out.cell 1
  clear hb HB HS
  go_wp2_with fail
  clear v0 v1
  with_reducible refine (gnew_no A c l R C _ (by omega) HN.out (HT0.out.below HB1.out)).mono ?_
  rintro e w2 ⟨rfl, hb⟩
  have HB2 := Aside0.mk (below_then HB1.out HB1.out.size hb)
  have HS2 := Aside0.mk (HS1.out.below hb)
  have v0 := HS2.out.cell 0
  have v1 := HS2.out.cell 1
  clear hb HB1 HS1
  go_wp2_with fail
  clear v0 v1
  with_reducible refine (abacistref06_Good.calls kg R C false _ HG.out).mono ?_
  rintro e w3 ⟨rfl, hb⟩
  have HB3 := Aside0.mk (below_then HB2.out HB2.out.size hb)
  have HS3 := Aside0.mk (HS2.out.below hb)
  have v0 := HS3.out.cell 0
  have v1 := HS3.out.cell 1
  clear hb HB2 HS2
  go_wp2
  go_ret
  exact ⟨rfl, HB3.out⟩
set_option maxHeartbeats 4000000 in
theorem tr_size (A : Option Addr) (c : Nat) (l : List Int) (R C d : Int) (w : World) (hl : In w A c l) (hL : l.length ≤ 64) (hg : GoodS R C) (hs : R * C ≠ (l.length : Int)) (hT : TabOK w) :
    Calls Tryd.prog 3 #[.agg #[.int .i64 R, .int .i64 C], .slice A l.length c, .int .i64 d] w fun e w' => e = .returned (.bool true) ∧ Below w.heap.size w w' := by
  have HN := Aside0.mk (show ¬ (GoodS R C ∧ R * C = (l.length : Int)) from fun q => hs q.2)
  obtain ⟨kg, hkg⟩ := (rgood_yes R C hg).rounds
  have HG := Aside0.mk hkg
  obtain ⟨a, b, hab, ha, hb⟩ := good_ints hg
  have hp2 := pow32 hab
  rw [Nat.pow_add] at hp2
  have e1 : wrap64 (R * C) = R * C := by rw [ha, hb, ← Int.natCast_mul]; exact wrap_i _ (by omega) (by omega)
  have e3 : (R * C != (l.length : Int)) = true := by rw [bne_iff_ne]; exact hs
  have HE := Aside0.mk e1
  clear hkg hg hab ha hb hp2 e1 hs a b
  have HT0 := Aside0.mk hT
  have HB := Aside0.mk (below_alloc (Below.refl w.heap.size w) (Obj.cells #[.int .i64 R, .int .i64 C] 23))
  have HS := Aside0.mk (Bk.new w 23 [.int .i64 R, .int .i64 C])
  have HL0 := Aside0.mk hl
  obtain ⟨bs, hbs⟩ : ∃ z, z = w.heap.size := ⟨_, rfl⟩
  have hbg : w.heap.size ≤ bs := by omega
  have d1 : decide ((64 : Int) < (l.length : Int)) = false := decide_eq_false (by omega)
  clear hT hl
  go_enter Tryd.func3, Tryd.ntmps3
  go_wp2_with fail
  with_reducible refine (gawake _ (HT0.out.below HB.out)).mono ?_
  rintro e w1 ⟨rfl, hb⟩
  rw [← hbs] at HS ⊢
  clear hbs
  have HB1 := Aside0.mk (below_then HB.out HB.out.size hb)
  have HS1 := Aside0.mk (HS.out.below hb)
  have v0 := HS1.out.cell 0
  have v1 := HS1.out.cell 1
  clear hb HB HS
  go_wp2_with fail
  clear v0 v1
  with_reducible refine (gnew_no A c l R C _ (by omega) HN.out (HT0.out.below HB1.out)).mono ?_
  rintro e w2 ⟨rfl, hb⟩
  have HB2 := Aside0.mk (below_then HB1.out HB1.out.size hb)
  have HS2 := Aside0.mk (HS1.out.below hb)
  have v0 := HS2.out.cell 0
  have v1 := HS2.out.cell 1
  clear hb HB1 HS1
  go_wp2_with fail
  clear v0 v1
  with_reducible refine (abacistref06_Good.calls kg R C true _ HG.out).mono ?_
  rintro e w3 ⟨rfl, hb⟩
  have HB3 := Aside0.mk (below_then HB2.out HB2.out.size hb)
  have HS3 := Aside0.mk (HS2.out.below hb)
  have v0 := HS3.out.cell 0
  have v1 := HS3.out.cell 1
  clear hb HB2 HS2
  have e2 := HE.out
  go_wp2
  go_ret
  exact ⟨rfl, HB3.out⟩
set_option maxHeartbeats 8000000 in
theorem tr_kind (A : Option Addr) (c : Nat) (l : List Int) (R C a b : Nat) (d : Int) (w : World) (hl : In w A c l) (hW : Ws l) (hL : l.length ≤ 64) (hsh : Sh R C a b l.length) (hd : ¬ (d = 0 ∨ d = 1)) (hT : TabOK w) :
    Calls Tryd.prog 3 #[.agg #[.int .i64 (R : Int), .int .i64 (C : Int)], .slice A l.length c, .int .i64 d] w fun e w' => e = .returned (.bool true) ∧ Below w.heap.size w w' := by
  have k0 : (d != 0) = true := by rw [bne_iff_ne]; omega
  have k1 : (d != 1) = true := by rw [bne_iff_ne]; omega
  have HD := Aside0.mk hd
  clear hd
  have hG : GoodS (R : Int) (C : Int) := ⟨a, b, by have := hsh.ab; omega, ⟨by have := hsh.ab; omega, by rw [hsh.r]⟩, ⟨by have := hsh.ab; omega, by rw [hsh.c]⟩⟩
  obtain ⟨kg, hkg⟩ := (rgood_yes R C hG).rounds
  have HG := Aside0.mk hkg
  have hp : 0 < l.length := by rw [hsh.pow]; exact Nat.two_pow_pos _
  have HSh := Aside0.mk hsh
  have HW := Aside0.mk hW
  have HGo := Aside0.mk (show GoodS (R : Int) (C : Int) ∧ (R : Int) * (C : Int) = (l.length : Int) from ⟨hG, by rw [← Int.natCast_mul, hsh.n]⟩)
  have HE := Aside0.mk (show wrap64 ((R : Int) * (C : Int)) = (l.length : Int) by rw [mulc R C (by rw [hsh.n]; omega), hsh.n])
  have e2 : ((l.length : Int) != (l.length : Int)) = false := by simp
  have e3 : ((R : Int) == (R : Int) && ((C : Int) == (C : Int))) = true := by simp
  have hcl := can_len l
  clear hkg hG hsh hW
  have HT0 := Aside0.mk hT
  have HB := Aside0.mk (below_alloc (Below.refl w.heap.size w) (Obj.cells #[.int .i64 (R : Int), .int .i64 (C : Int)] 23))
  have HS := Aside0.mk (Bk.new w 23 [.int .i64 (R : Int), .int .i64 (C : Int)])
  have HL0 := Aside0.mk hl
  obtain ⟨bs, hbs⟩ : ∃ z, z = w.heap.size := ⟨_, rfl⟩
  have hbg : w.heap.size ≤ bs := by omega
  have d1 : decide ((64 : Int) < (l.length : Int)) = false := decide_eq_false (by omega)
  clear hT hl
  go_enter Tryd.func3, Tryd.ntmps3
  go_wp2_with fail
  with_reducible refine (gawake _ (HT0.out.below HB.out)).mono ?_
  rintro e w1 ⟨rfl, hb⟩
  rw [← hbs] at HS ⊢
  clear hbs
  have HB1 := Aside0.mk (below_then HB.out HB.out.size hb)
  have HS1 := Aside0.mk (HS.out.below hb)
  have v0 := HS1.out.cell 0
  have v1 := HS1.out.cell 1
  clear hb HB HS
  go_wp2_with fail
  clear v0 v1
  with_reducible refine (gnew_yes A c l (R : Int) (C : Int) _ (HL0.out.below HB1.out) HW.out (by omega) hp HGo.out.1 HGo.out.2 (HT0.out.below HB1.out)).mono ?_
  rintro e w2 ⟨p, g, cg, rfl, hg, hb, hp2, hg2⟩
  have HX2 := Aside0.mk (show Gt w w2 p g cg bs (R : Int) (C : Int) (can l) from ⟨below_then HB1.out HB1.out.size hb, hg, HS1.out.below hb⟩)
  have HP := Aside0.mk (show w.heap.size ≤ p ∧ w.heap.size ≤ g ∧ bs ≠ g by have h1 := HB1.out.size; have h2 := HS1.out.lt; omega)
  clear hg hb hp2 hg2 HB1 HS1
  have v0 := HX2.out.sh.cell 0
  have v1 := HX2.out.sh.cell 1
  go_wp2_with fail
  clear v0 v1
  with_reducible refine (abacistref06_Good.calls kg (R : Int) (C : Int) true _ HG.out).mono ?_
  rintro e w3 ⟨rfl, hb⟩
  have HX3 := Aside0.mk (HX2.out.below hb)
  have v0 := HX3.out.sh.cell 0
  have v1 := HX3.out.sh.cell 1
  clear hb HX2
  have e1 := HE.out
  go_wp2_with fail
  clear v0 v1 e1
  refine start_ (n := 22) (S := fun w' => w'.cell? ⟨bs, 0, none⟩ = some (.int .i64 (R : Int)) ∧ w'.cell? ⟨bs, 1, none⟩ = some (.int .i64 (C : Int)) ∧ Aside0 (Gt w w' p g cg bs (R : Int) (C : Int) (can l))) (ds := []) #[false, false, false, false, false, false, false, false, false, false, false, false, false, false, false, false, false, false, false, false, false, false] (by kernel_rfl) rfl rfl ⟨HX3.out.drew.sh.cell 0, HX3.out.drew.sh.cell 1, ⟨HX3.out.drew⟩⟩ (fun hHeld => ?_)
  refine pure_ (i := 0) (N := some 40) (v := ?_) (a' := ?_) #[true, false, false, false, false, false, false, false, false, false, false, false, false, false, false, false, false, false, false, false, false, false] rfl rfl (by kernel_rfl) (fun _ _ _ h => h) (Or.inl ⟨by rfl, ?_⟩) ?_ ?_
  rotate_left
  · intro w'
    go_simp
    with_reducible rfl
  rotate_left
  · simp only [Act.put, List.setIfInBounds_toArray, List.set_cons_zero, List.set_cons_succ, i64_w, i32_w]
    rfl
  refine pure_ (i := 1) (N := some 41) (v := ?_) (a' := ?_) #[true, true, false, false, false, false, false, false, false, false, false, false, false, false, false, false, false, false, false, false, false, false] rfl rfl (by kernel_rfl) (fun _ _ _ h => h) (Or.inl ⟨by rfl, ?_⟩) ?_ ?_
  rotate_left
  · intro w'
    go_simp
    with_reducible rfl
  rotate_left
  · simp only [Act.put, List.setIfInBounds_toArray, List.set_cons_zero, List.set_cons_succ, i64_w, i32_w]
    rfl
  refine pure_ (i := 2) (N := some 42) (v := ?_) (a' := ?_) #[true, true, true, false, false, false, false, false, false, false, false, false, false, false, false, false, false, false, false, false, false, false] rfl rfl (by kernel_rfl) (fun _ _ _ h => h) (Or.inl ⟨by rfl, ?_⟩) ?_ ?_
  rotate_left
  · intro w'
    go_simp
    with_reducible rfl
  rotate_left
  · simp only [Act.put, List.setIfInBounds_toArray, List.set_cons_zero, List.set_cons_succ, i64_w, i32_w]
    rfl
  refine pure_ (i := 3) (N := some 43) (v := ?_) (a' := ?_) #[true, true, true, true, false, false, false, false, false, false, false, false, false, false, false, false, false, false, false, false, false, false] rfl rfl (by kernel_rfl) (fun _ _ _ h => h) (Or.inl ⟨by rfl, ?_⟩) ?_ ?_
  rotate_left
  · intro w'
    go_simp
    with_reducible rfl
  rotate_left
  · simp only [Act.put, List.setIfInBounds_toArray, List.set_cons_zero, List.set_cons_succ, i64_w, i32_w]
    rfl
  refine pure_ (i := 4) (N := some 44) (v := ?_) (a' := ?_) #[true, true, true, true, true, false, false, false, false, false, false, false, false, false, false, false, false, false, false, false, false, false] rfl rfl (by kernel_rfl) (fun _ _ _ h => h) (Or.inl ⟨by rfl, ?_⟩) ?_ ?_
  rotate_left
  · intro w'
    go_simp
    with_reducible rfl
  rotate_left
  · simp only [Act.put, List.setIfInBounds_toArray, List.set_cons_zero, List.set_cons_succ, i64_w, i32_w]
    rfl
  refine pure_ (i := 5) (N := some 45) (v := ?_) (a' := ?_) #[true, true, true, true, true, true, false, false, false, false, false, false, false, false, false, false, false, false, false, false, false, false] rfl rfl (by kernel_rfl) (fun _ _ _ h => h) (Or.inl ⟨by rfl, ?_⟩) ?_ ?_
  rotate_left
  · intro w'
    go_simp
    with_reducible rfl
  rotate_left
  · simp only [Act.put, List.setIfInBounds_toArray, List.set_cons_zero, List.set_cons_succ, i64_w, i32_w]
    rfl
  refine pure_ (i := 6) (N := some 46) (v := ?_) (a' := ?_) #[true, true, true, true, true, true, true, false, false, false, false, false, false, false, false, false, false, false, false, false, false, false] rfl rfl (by kernel_rfl) (fun _ _ _ h => h) (Or.inl ⟨by rfl, ?_⟩) ?_ ?_
  rotate_left
  · intro w'
    go_simp
    with_reducible rfl
  rotate_left
  · simp only [Act.put, List.setIfInBounds_toArray, List.set_cons_zero, List.set_cons_succ, i64_w, i32_w]
    rfl
  refine pure_ (i := 7) (N := some 47) (v := ?_) (a' := ?_) #[true, true, true, true, true, true, true, true, false, false, false, false, false, false, false, false, false, false, false, false, false, false] rfl rfl (by kernel_rfl) (fun _ _ _ h => h) (Or.inl ⟨by rfl, ?_⟩) ?_ ?_
  rotate_left
  · intro w'
    go_simp
    with_reducible rfl
  rotate_left
  · simp only [Act.put, List.setIfInBounds_toArray, List.set_cons_zero, List.set_cons_succ, i64_w, i32_w]
    rfl
  refine pure_ (i := 8) (N := some 48) (v := ?_) (a' := ?_) #[true, true, true, true, true, true, true, true, true, false, false, false, false, false, false, false, false, false, false, false, false, false] rfl rfl (by kernel_rfl) (fun _ _ _ h => h) (Or.inl ⟨by rfl, ?_⟩) ?_ ?_
  rotate_left
  · intro w'
    go_simp
    with_reducible rfl
  rotate_left
  · simp only [Act.put, List.setIfInBounds_toArray, List.set_cons_zero, List.set_cons_succ, i64_w, i32_w]
    rfl
  refine pure_ (i := 9) (N := some 49) (v := ?_) (a' := ?_) #[true, true, true, true, true, true, true, true, true, true, false, false, false, false, false, false, false, false, false, false, false, false] rfl rfl (by kernel_rfl) (fun _ _ _ h => h) (Or.inl ⟨by rfl, ?_⟩) ?_ ?_
  rotate_left
  · intro w'
    go_simp
    with_reducible rfl
  rotate_left
  · simp only [Act.put, List.setIfInBounds_toArray, List.set_cons_zero, List.set_cons_succ, i64_w, i32_w]
    rfl
  refine take_ (i := 11) (N := some 51) (v := ?_) (a' := ?_) #[true, true, true, true, true, true, true, true, true, true, false, true, false, false, false, false, false, false, false, false, false, false] rfl rfl (by kernel_rfl) (fun _ _ _ h => h) (Or.inl ⟨by rfl, ?_⟩) hHeld ?_ ?_
  rotate_left
  · rintro w' ⟨s0, s1, s2⟩
    go_simp
    with_reducible rfl
  rotate_left
  · simp only [Act.put, List.setIfInBounds_toArray, List.set_cons_zero, List.set_cons_succ, i64_w, i32_w]
    rfl
  refine one_ (i := 10) (N := some 50) #[true, true, true, true, true, true, true, true, true, true, true, true, false, false, false, false, false, false, false, false, false, false] rfl rfl (by kernel_rfl) (by decide) (fun K hK => ?_)
  refine goes_ Tryd.func18 (by kernel_rfl) rfl #[.pointer (some ⟨p, 0, none⟩)] (by rfl) rfl rfl (by simp only [List.map_toArray, List.map_cons, List.map_nil]; rfl) ?_
  with_reducible refine (gshape p g cg (R : Int) (C : Int) (can l) _ hHeld.2.2.out.gd).mono ?_
  rintro e w4 ⟨rfl, hb⟩
  refine ⟨_, rfl, ?_⟩
  have HX4 := Aside0.mk (hHeld.2.2.out.below hb)
  clear hHeld hb
  refine hK.out _ _ ⟨HX4.out.sh.cell 0, HX4.out.sh.cell 1, HX4⟩ (fun hHeld => ?_)
  clear hK K
  refine norm_ (a' := ?_) ?_ ?_
  rotate_left
  · show Act.put _ (some 50) _ = _
    simp only [Act.put, List.setIfInBounds_toArray, List.set_cons_zero, List.set_cons_succ, i64_w, i32_w]
    rfl
  refine pure_ (i := 12) (N := some 52) (v := ?_) (a' := ?_) #[true, true, true, true, true, true, true, true, true, true, true, true, true, false, false, false, false, false, false, false, false, false] rfl rfl (by kernel_rfl) (fun _ _ _ h => h) (Or.inl ⟨by rfl, ?_⟩) ?_ ?_
  rotate_left
  · intro w'
    go_simp
    with_reducible rfl
  rotate_left
  · simp only [Act.put, List.setIfInBounds_toArray, List.set_cons_zero, List.set_cons_succ, i64_w, i32_w]
    rfl
  refine pure_ (i := 13) (N := some 53) (v := ?_) (a' := ?_) #[true, true, true, true, true, true, true, true, true, true, true, true, true, true, false, false, false, false, false, false, false, false] rfl rfl (by kernel_rfl) (fun _ _ _ h => h) (Or.inl ⟨by rfl, ?_⟩) ?_ ?_
  rotate_left
  · intro w'
    go_simp
    with_reducible rfl
  rotate_left
  · simp only [Act.put, List.setIfInBounds_toArray, List.set_cons_zero, List.set_cons_succ, i64_w, i32_w]
    rfl
  refine pure_ (i := 14) (N := some 54) (v := ?_) (a' := ?_) #[true, true, true, true, true, true, true, true, true, true, true, true, true, true, true, false, false, false, false, false, false, false] rfl rfl (by kernel_rfl) (fun _ _ _ h => h) (Or.inl ⟨by rfl, ?_⟩) ?_ ?_
  rotate_left
  · intro w'
    go_simp
    with_reducible rfl
  rotate_left
  · simp only [Act.put, List.setIfInBounds_toArray, List.set_cons_zero, List.set_cons_succ, i64_w, i32_w]
    rfl
  refine pure_ (i := 15) (N := some 55) (v := ?_) (a' := ?_) #[true, true, true, true, true, true, true, true, true, true, true, true, true, true, true, true, false, false, false, false, false, false] rfl rfl (by kernel_rfl) (fun _ _ _ h => h) (Or.inl ⟨by rfl, ?_⟩) ?_ ?_
  rotate_left
  · intro w'
    go_simp
    with_reducible rfl
  rotate_left
  · simp only [Act.put, List.setIfInBounds_toArray, List.set_cons_zero, List.set_cons_succ, i64_w, i32_w]
    rfl
  refine pure_ (i := 17) (N := some 57) (v := ?_) (a' := ?_) #[true, true, true, true, true, true, true, true, true, true, true, true, true, true, true, true, false, true, false, false, false, false] rfl rfl (by kernel_rfl) (fun _ _ _ h => h) (Or.inl ⟨by rfl, ?_⟩) ?_ ?_
  rotate_left
  · intro w'
    go_simp
    with_reducible rfl
  rotate_left
  · simp only [Act.put, List.setIfInBounds_toArray, List.set_cons_zero, List.set_cons_succ, i64_w, i32_w]
    rfl
  refine one_ (i := 16) (N := some 56) #[true, true, true, true, true, true, true, true, true, true, true, true, true, true, true, true, true, true, false, false, false, false] rfl rfl (by kernel_rfl) (by decide) (fun K hK => ?_)
  have hcw := gwords p g cg (R : Int) (C : Int) (can l) _ hHeld.2.2.out.gd (by rw [hcl]; exact hp) (by omega)
  rw [hcl] at hcw
  refine goes_ Tryd.func20 (by kernel_rfl) rfl #[.pointer (some ⟨p, 0, none⟩)] (by rfl) rfl rfl (by simp only [List.map_toArray, List.map_cons, List.map_nil]; rfl) ?_
  with_reducible refine (hcw).mono ?_
  rintro e w5 ⟨h, dh, rfl, hm, hb, hge⟩
  refine ⟨_, rfl, ?_⟩
  clear hcw
  have HX5 := Aside0.mk (hHeld.2.2.out.below hb)
  have HM5 := Aside0.mk (In.of_mr hm (by omega))
  clear hHeld hb hm hge
  refine hK.out _ _ ⟨HX5.out.sh.cell 0, HX5.out.sh.cell 1, HX5⟩ (fun hHeld => ?_)
  clear hK K
  refine norm_ (a' := ?_) ?_ ?_
  rotate_left
  · show Act.put _ (some 56) _ = _
    simp only [Act.put, List.setIfInBounds_toArray, List.set_cons_zero, List.set_cons_succ, i64_w, i32_w]
    rfl
  refine one_ (i := 18) (N := some 58) #[true, true, true, true, true, true, true, true, true, true, true, true, true, true, true, true, true, true, true, false, false, false] rfl rfl (by kernel_rfl) (by decide) (fun K hK => ?_)
  refine goes_ Tryd.func21 (by kernel_rfl) rfl #[.slice A l.length c] (by rfl) rfl rfl (by simp only [List.map_toArray, List.map_cons, List.map_nil]; rfl) ?_
  with_reducible refine (canon_calls A c l _ (HL0.out.below hHeld.2.2.out.be) HW.out (by omega)).mono ?_
  rintro e w6 ⟨B6, d6, rfl, hI, hb⟩
  refine ⟨_, rfl, ?_⟩
  have HX6 := Aside0.mk (hHeld.2.2.out.below hb)
  have HM6 := Aside0.mk (HM5.out.below hb)
  have HC6 := Aside0.mk hI
  clear hHeld hb hI
  refine hK.out _ _ ⟨HX6.out.sh.cell 0, HX6.out.sh.cell 1, HX6⟩ (fun hHeld => ?_)
  clear hK K
  refine norm_ (a' := ?_) ?_ ?_
  rotate_left
  · show Act.put _ (some 58) _ = _
    simp only [Act.put, List.setIfInBounds_toArray, List.set_cons_zero, List.set_cons_succ, i64_w, i32_w]
    rfl
  refine one_ (i := 19) (N := some 59) #[true, true, true, true, true, true, true, true, true, true, true, true, true, true, true, true, true, true, true, true, false, false] rfl rfl (by kernel_rfl) (by decide) (fun K hK => ?_)
  refine goes_ Tryd.func19 (by kernel_rfl) rfl #[.slice (some ⟨h, 0, none⟩) l.length dh, .slice B6 l.length d6] (by rfl) rfl rfl (by simp only [List.map_toArray, List.map_cons, List.map_nil]; rfl) ?_
  with_reducible refine (same_n (some ⟨h, 0, none⟩) B6 dh d6 l.length (can l) (can l) _ HM6.out HC6.out (by omega) hcl rfl).mono ?_
  rintro e w7 ⟨rfl, hb⟩
  refine ⟨_, rfl, ?_⟩
  have HX7 := Aside0.mk (hHeld.2.2.out.below hb)
  clear hHeld hb
  refine hK.out _ _ ⟨HX7.out.sh.cell 0, HX7.out.sh.cell 1, HX7⟩ (fun hHeld => ?_)
  clear hK K
  refine norm_ (a' := ?_) ?_ ?_
  rotate_left
  · show Act.put _ (some 59) _ = _
    simp only [Act.put, List.setIfInBounds_toArray, List.set_cons_zero, List.set_cons_succ, i64_w, i32_w]
    rfl
  refine pure_ (i := 20) (N := some 60) (v := ?_) (a' := ?_) #[true, true, true, true, true, true, true, true, true, true, true, true, true, true, true, true, true, true, true, true, true, false] rfl rfl (by kernel_rfl) (fun _ _ _ h => h) (Or.inl ⟨by rfl, ?_⟩) ?_ ?_
  rotate_left
  · intro w'
    go_simp
    with_reducible rfl
  rotate_left
  · simp only [Act.put, List.setIfInBounds_toArray, List.set_cons_zero, List.set_cons_succ, i64_w, i32_w]
    rfl
  refine pure_ (i := 21) (N := some 61) (v := ?_) (a' := ?_) #[true, true, true, true, true, true, true, true, true, true, true, true, true, true, true, true, true, true, true, true, true, true] rfl rfl (by kernel_rfl) (fun _ _ _ h => h) (Or.inl ⟨by rfl, ?_⟩) ?_ ?_
  rotate_left
  · intro w'
    go_simp
    with_reducible rfl
  rotate_left
  · simp only [Act.put, List.setIfInBounds_toArray, List.set_cons_zero, List.set_cons_succ, i64_w, i32_w]
    rfl
  refine done_ (by kernel_rfl) ?_
  clear hHeld HX3 HX4 HX5 HX6 HM5 HM6 HC6
  go_wp2_with fail
  have ht := gtrans_kind p g cg (R : Int) (C : Int) (can l) d HGo.out.1 (by rw [hcl]; exact HGo.out.2) (by omega) HD.out _ HX7.out.gd (HT0.out.below HX7.out.be)
  with_reducible refine ht.mono ?_
  clear ht
  rintro e w8 ⟨rfl, hb⟩
  have HX8 := Aside0.mk (HX7.out.below hb)
  clear hb HX7
  go_wp2_with fail
  have hcw := gwords p g cg (R : Int) (C : Int) (can l) _ HX8.out.gd (by rw [hcl]; exact hp) (by omega)
  rw [hcl] at hcw
  with_reducible refine hcw.mono ?_
  clear hcw
  rintro e wa ⟨h, dh, rfl, hm, hb, hge⟩
  have HXa := Aside0.mk (HX8.out.below hb)
  have HMa := Aside0.mk (In.of_mr hm (by omega))
  clear hb hm hge HX8
  go_wp2_with fail
  with_reducible refine (canon_calls A c l _ (HL0.out.below HXa.out.be) HW.out (by omega)).mono ?_
  rintro e wb ⟨B6, d6, rfl, hI, hb⟩
  have HXb := Aside0.mk (HXa.out.below hb)
  have HMb := Aside0.mk (HMa.out.below hb)
  have HCb := Aside0.mk hI
  clear hb hI HXa HMa
  go_wp2_with fail
  with_reducible refine (same_n (some ⟨h, 0, none⟩) B6 dh d6 l.length (can l) (can l) _ HMb.out HCb.out (by omega) hcl rfl).mono ?_
  rintro e wc ⟨rfl, hb⟩
  have HXc := Aside0.mk (HXb.out.below hb)
  clear hb HXb HMb HCb
  go_wp2
  go_ret
  exact ⟨rfl, HXc.out.be⟩
set_option maxHeartbeats 8000000 in
theorem tr_y0 (A : Option Addr) (c : Nat) (l : List Int) (R C a b : Nat) (w : World) (hl : In w A c l) (hW : Ws l) (hL : l.length ≤ 64) (hsh : Sh R C a b l.length) (hT : TabOK w) :
    Calls Tryd.prog 3 #[.agg #[.int .i64 (R : Int), .int .i64 (C : Int)], .slice A l.length c, .int .i64 0] w fun e w' => e = .returned (.bool true) ∧ Below w.heap.size w w' := by
  have hG : GoodS (R : Int) (C : Int) := ⟨a, b, by have := hsh.ab; omega, ⟨by have := hsh.ab; omega, by rw [hsh.r]⟩, ⟨by have := hsh.ab; omega, by rw [hsh.c]⟩⟩
  obtain ⟨kg, hkg⟩ := (rgood_yes R C hG).rounds
  have HG := Aside0.mk hkg
  have hp : 0 < l.length := by rw [hsh.pow]; exact Nat.two_pow_pos _
  have HSh := Aside0.mk hsh
  have HW := Aside0.mk hW
  have HGo := Aside0.mk (show GoodS (R : Int) (C : Int) ∧ (R : Int) * (C : Int) = (l.length : Int) from ⟨hG, by rw [← Int.natCast_mul, hsh.n]⟩)
  have HE := Aside0.mk (show wrap64 ((R : Int) * (C : Int)) = (l.length : Int) by rw [mulc R C (by rw [hsh.n]; omega), hsh.n])
  have e2 : ((l.length : Int) != (l.length : Int)) = false := by simp
  have e3 : ((R : Int) == (R : Int) && ((C : Int) == (C : Int))) = true := by simp
  have hcl := can_len l
  clear hkg hG hsh hW
  have HT0 := Aside0.mk hT
  have HB := Aside0.mk (below_alloc (Below.refl w.heap.size w) (Obj.cells #[.int .i64 (R : Int), .int .i64 (C : Int)] 23))
  have HS := Aside0.mk (Bk.new w 23 [.int .i64 (R : Int), .int .i64 (C : Int)])
  have HL0 := Aside0.mk hl
  obtain ⟨bs, hbs⟩ : ∃ z, z = w.heap.size := ⟨_, rfl⟩
  have hbg : w.heap.size ≤ bs := by omega
  have d1 : decide ((64 : Int) < (l.length : Int)) = false := decide_eq_false (by omega)
  clear hT hl
  go_enter Tryd.func3, Tryd.ntmps3
  go_wp2_with fail
  with_reducible refine (gawake _ (HT0.out.below HB.out)).mono ?_
  rintro e w1 ⟨rfl, hb⟩
  rw [← hbs] at HS ⊢
  clear hbs
  have HB1 := Aside0.mk (below_then HB.out HB.out.size hb)
  have HS1 := Aside0.mk (HS.out.below hb)
  have v0 := HS1.out.cell 0
  have v1 := HS1.out.cell 1
  clear hb HB HS
  go_wp2_with fail
  clear v0 v1
  with_reducible refine (gnew_yes A c l (R : Int) (C : Int) _ (HL0.out.below HB1.out) HW.out (by omega) hp HGo.out.1 HGo.out.2 (HT0.out.below HB1.out)).mono ?_
  rintro e w2 ⟨p, g, cg, rfl, hg, hb, hp2, hg2⟩
  have HX2 := Aside0.mk (show Gt w w2 p g cg bs (R : Int) (C : Int) (can l) from ⟨below_then HB1.out HB1.out.size hb, hg, HS1.out.below hb⟩)
  have HP := Aside0.mk (show w.heap.size ≤ p ∧ w.heap.size ≤ g ∧ bs ≠ g by have h1 := HB1.out.size; have h2 := HS1.out.lt; omega)
  clear hg hb hp2 hg2 HB1 HS1
  have v0 := HX2.out.sh.cell 0
  have v1 := HX2.out.sh.cell 1
  go_wp2_with fail
  clear v0 v1
  with_reducible refine (abacistref06_Good.calls kg (R : Int) (C : Int) true _ HG.out).mono ?_
  rintro e w3 ⟨rfl, hb⟩
  have HX3 := Aside0.mk (HX2.out.below hb)
  have v0 := HX3.out.sh.cell 0
  have v1 := HX3.out.sh.cell 1
  clear hb HX2
  have e1 := HE.out
  go_wp2_with fail
  clear v0 v1 e1
  refine start_ (n := 22) (S := fun w' => w'.cell? ⟨bs, 0, none⟩ = some (.int .i64 (R : Int)) ∧ w'.cell? ⟨bs, 1, none⟩ = some (.int .i64 (C : Int)) ∧ Aside0 (Gt w w' p g cg bs (R : Int) (C : Int) (can l))) (ds := []) #[false, false, false, false, false, false, false, false, false, false, false, false, false, false, false, false, false, false, false, false, false, false] (by kernel_rfl) rfl rfl ⟨HX3.out.drew.sh.cell 0, HX3.out.drew.sh.cell 1, ⟨HX3.out.drew⟩⟩ (fun hHeld => ?_)
  refine pure_ (i := 0) (N := some 40) (v := ?_) (a' := ?_) #[true, false, false, false, false, false, false, false, false, false, false, false, false, false, false, false, false, false, false, false, false, false] rfl rfl (by kernel_rfl) (fun _ _ _ h => h) (Or.inl ⟨by rfl, ?_⟩) ?_ ?_
  rotate_left
  · intro w'
    go_simp
    with_reducible rfl
  rotate_left
  · simp only [Act.put, List.setIfInBounds_toArray, List.set_cons_zero, List.set_cons_succ, i64_w, i32_w]
    rfl
  refine pure_ (i := 1) (N := some 41) (v := ?_) (a' := ?_) #[true, true, false, false, false, false, false, false, false, false, false, false, false, false, false, false, false, false, false, false, false, false] rfl rfl (by kernel_rfl) (fun _ _ _ h => h) (Or.inl ⟨by rfl, ?_⟩) ?_ ?_
  rotate_left
  · intro w'
    go_simp
    with_reducible rfl
  rotate_left
  · simp only [Act.put, List.setIfInBounds_toArray, List.set_cons_zero, List.set_cons_succ, i64_w, i32_w]
    rfl
  refine pure_ (i := 2) (N := some 42) (v := ?_) (a' := ?_) #[true, true, true, false, false, false, false, false, false, false, false, false, false, false, false, false, false, false, false, false, false, false] rfl rfl (by kernel_rfl) (fun _ _ _ h => h) (Or.inl ⟨by rfl, ?_⟩) ?_ ?_
  rotate_left
  · intro w'
    go_simp
    with_reducible rfl
  rotate_left
  · simp only [Act.put, List.setIfInBounds_toArray, List.set_cons_zero, List.set_cons_succ, i64_w, i32_w]
    rfl
  refine pure_ (i := 3) (N := some 43) (v := ?_) (a' := ?_) #[true, true, true, true, false, false, false, false, false, false, false, false, false, false, false, false, false, false, false, false, false, false] rfl rfl (by kernel_rfl) (fun _ _ _ h => h) (Or.inl ⟨by rfl, ?_⟩) ?_ ?_
  rotate_left
  · intro w'
    go_simp
    with_reducible rfl
  rotate_left
  · simp only [Act.put, List.setIfInBounds_toArray, List.set_cons_zero, List.set_cons_succ, i64_w, i32_w]
    rfl
  refine pure_ (i := 4) (N := some 44) (v := ?_) (a' := ?_) #[true, true, true, true, true, false, false, false, false, false, false, false, false, false, false, false, false, false, false, false, false, false] rfl rfl (by kernel_rfl) (fun _ _ _ h => h) (Or.inl ⟨by rfl, ?_⟩) ?_ ?_
  rotate_left
  · intro w'
    go_simp
    with_reducible rfl
  rotate_left
  · simp only [Act.put, List.setIfInBounds_toArray, List.set_cons_zero, List.set_cons_succ, i64_w, i32_w]
    rfl
  refine pure_ (i := 5) (N := some 45) (v := ?_) (a' := ?_) #[true, true, true, true, true, true, false, false, false, false, false, false, false, false, false, false, false, false, false, false, false, false] rfl rfl (by kernel_rfl) (fun _ _ _ h => h) (Or.inl ⟨by rfl, ?_⟩) ?_ ?_
  rotate_left
  · intro w'
    go_simp
    with_reducible rfl
  rotate_left
  · simp only [Act.put, List.setIfInBounds_toArray, List.set_cons_zero, List.set_cons_succ, i64_w, i32_w]
    rfl
  refine pure_ (i := 6) (N := some 46) (v := ?_) (a' := ?_) #[true, true, true, true, true, true, true, false, false, false, false, false, false, false, false, false, false, false, false, false, false, false] rfl rfl (by kernel_rfl) (fun _ _ _ h => h) (Or.inl ⟨by rfl, ?_⟩) ?_ ?_
  rotate_left
  · intro w'
    go_simp
    with_reducible rfl
  rotate_left
  · simp only [Act.put, List.setIfInBounds_toArray, List.set_cons_zero, List.set_cons_succ, i64_w, i32_w]
    rfl
  refine pure_ (i := 7) (N := some 47) (v := ?_) (a' := ?_) #[true, true, true, true, true, true, true, true, false, false, false, false, false, false, false, false, false, false, false, false, false, false] rfl rfl (by kernel_rfl) (fun _ _ _ h => h) (Or.inl ⟨by rfl, ?_⟩) ?_ ?_
  rotate_left
  · intro w'
    go_simp
    with_reducible rfl
  rotate_left
  · simp only [Act.put, List.setIfInBounds_toArray, List.set_cons_zero, List.set_cons_succ, i64_w, i32_w]
    rfl
  refine pure_ (i := 8) (N := some 48) (v := ?_) (a' := ?_) #[true, true, true, true, true, true, true, true, true, false, false, false, false, false, false, false, false, false, false, false, false, false] rfl rfl (by kernel_rfl) (fun _ _ _ h => h) (Or.inl ⟨by rfl, ?_⟩) ?_ ?_
  rotate_left
  · intro w'
    go_simp
    with_reducible rfl
  rotate_left
  · simp only [Act.put, List.setIfInBounds_toArray, List.set_cons_zero, List.set_cons_succ, i64_w, i32_w]
    rfl
  refine pure_ (i := 9) (N := some 49) (v := ?_) (a' := ?_) #[true, true, true, true, true, true, true, true, true, true, false, false, false, false, false, false, false, false, false, false, false, false] rfl rfl (by kernel_rfl) (fun _ _ _ h => h) (Or.inl ⟨by rfl, ?_⟩) ?_ ?_
  rotate_left
  · intro w'
    go_simp
    with_reducible rfl
  rotate_left
  · simp only [Act.put, List.setIfInBounds_toArray, List.set_cons_zero, List.set_cons_succ, i64_w, i32_w]
    rfl
  refine take_ (i := 11) (N := some 51) (v := ?_) (a' := ?_) #[true, true, true, true, true, true, true, true, true, true, false, true, false, false, false, false, false, false, false, false, false, false] rfl rfl (by kernel_rfl) (fun _ _ _ h => h) (Or.inl ⟨by rfl, ?_⟩) hHeld ?_ ?_
  rotate_left
  · rintro w' ⟨s0, s1, s2⟩
    go_simp
    with_reducible rfl
  rotate_left
  · simp only [Act.put, List.setIfInBounds_toArray, List.set_cons_zero, List.set_cons_succ, i64_w, i32_w]
    rfl
  refine one_ (i := 10) (N := some 50) #[true, true, true, true, true, true, true, true, true, true, true, true, false, false, false, false, false, false, false, false, false, false] rfl rfl (by kernel_rfl) (by decide) (fun K hK => ?_)
  refine goes_ Tryd.func18 (by kernel_rfl) rfl #[.pointer (some ⟨p, 0, none⟩)] (by rfl) rfl rfl (by simp only [List.map_toArray, List.map_cons, List.map_nil]; rfl) ?_
  with_reducible refine (gshape p g cg (R : Int) (C : Int) (can l) _ hHeld.2.2.out.gd).mono ?_
  rintro e w4 ⟨rfl, hb⟩
  refine ⟨_, rfl, ?_⟩
  have HX4 := Aside0.mk (hHeld.2.2.out.below hb)
  clear hHeld hb
  refine hK.out _ _ ⟨HX4.out.sh.cell 0, HX4.out.sh.cell 1, HX4⟩ (fun hHeld => ?_)
  clear hK K
  refine norm_ (a' := ?_) ?_ ?_
  rotate_left
  · show Act.put _ (some 50) _ = _
    simp only [Act.put, List.setIfInBounds_toArray, List.set_cons_zero, List.set_cons_succ, i64_w, i32_w]
    rfl
  refine pure_ (i := 12) (N := some 52) (v := ?_) (a' := ?_) #[true, true, true, true, true, true, true, true, true, true, true, true, true, false, false, false, false, false, false, false, false, false] rfl rfl (by kernel_rfl) (fun _ _ _ h => h) (Or.inl ⟨by rfl, ?_⟩) ?_ ?_
  rotate_left
  · intro w'
    go_simp
    with_reducible rfl
  rotate_left
  · simp only [Act.put, List.setIfInBounds_toArray, List.set_cons_zero, List.set_cons_succ, i64_w, i32_w]
    rfl
  refine pure_ (i := 13) (N := some 53) (v := ?_) (a' := ?_) #[true, true, true, true, true, true, true, true, true, true, true, true, true, true, false, false, false, false, false, false, false, false] rfl rfl (by kernel_rfl) (fun _ _ _ h => h) (Or.inl ⟨by rfl, ?_⟩) ?_ ?_
  rotate_left
  · intro w'
    go_simp
    with_reducible rfl
  rotate_left
  · simp only [Act.put, List.setIfInBounds_toArray, List.set_cons_zero, List.set_cons_succ, i64_w, i32_w]
    rfl
  refine pure_ (i := 14) (N := some 54) (v := ?_) (a' := ?_) #[true, true, true, true, true, true, true, true, true, true, true, true, true, true, true, false, false, false, false, false, false, false] rfl rfl (by kernel_rfl) (fun _ _ _ h => h) (Or.inl ⟨by rfl, ?_⟩) ?_ ?_
  rotate_left
  · intro w'
    go_simp
    with_reducible rfl
  rotate_left
  · simp only [Act.put, List.setIfInBounds_toArray, List.set_cons_zero, List.set_cons_succ, i64_w, i32_w]
    rfl
  refine pure_ (i := 15) (N := some 55) (v := ?_) (a' := ?_) #[true, true, true, true, true, true, true, true, true, true, true, true, true, true, true, true, false, false, false, false, false, false] rfl rfl (by kernel_rfl) (fun _ _ _ h => h) (Or.inl ⟨by rfl, ?_⟩) ?_ ?_
  rotate_left
  · intro w'
    go_simp
    with_reducible rfl
  rotate_left
  · simp only [Act.put, List.setIfInBounds_toArray, List.set_cons_zero, List.set_cons_succ, i64_w, i32_w]
    rfl
  refine pure_ (i := 17) (N := some 57) (v := ?_) (a' := ?_) #[true, true, true, true, true, true, true, true, true, true, true, true, true, true, true, true, false, true, false, false, false, false] rfl rfl (by kernel_rfl) (fun _ _ _ h => h) (Or.inl ⟨by rfl, ?_⟩) ?_ ?_
  rotate_left
  · intro w'
    go_simp
    with_reducible rfl
  rotate_left
  · simp only [Act.put, List.setIfInBounds_toArray, List.set_cons_zero, List.set_cons_succ, i64_w, i32_w]
    rfl
  refine one_ (i := 16) (N := some 56) #[true, true, true, true, true, true, true, true, true, true, true, true, true, true, true, true, true, true, false, false, false, false] rfl rfl (by kernel_rfl) (by decide) (fun K hK => ?_)
  have hcw := gwords p g cg (R : Int) (C : Int) (can l) _ hHeld.2.2.out.gd (by rw [hcl]; exact hp) (by omega)
  rw [hcl] at hcw
  refine goes_ Tryd.func20 (by kernel_rfl) rfl #[.pointer (some ⟨p, 0, none⟩)] (by rfl) rfl rfl (by simp only [List.map_toArray, List.map_cons, List.map_nil]; rfl) ?_
  with_reducible refine (hcw).mono ?_
  rintro e w5 ⟨h, dh, rfl, hm, hb, hge⟩
  refine ⟨_, rfl, ?_⟩
  clear hcw
  have HX5 := Aside0.mk (hHeld.2.2.out.below hb)
  have HM5 := Aside0.mk (In.of_mr hm (by omega))
  clear hHeld hb hm hge
  refine hK.out _ _ ⟨HX5.out.sh.cell 0, HX5.out.sh.cell 1, HX5⟩ (fun hHeld => ?_)
  clear hK K
  refine norm_ (a' := ?_) ?_ ?_
  rotate_left
  · show Act.put _ (some 56) _ = _
    simp only [Act.put, List.setIfInBounds_toArray, List.set_cons_zero, List.set_cons_succ, i64_w, i32_w]
    rfl
  refine one_ (i := 18) (N := some 58) #[true, true, true, true, true, true, true, true, true, true, true, true, true, true, true, true, true, true, true, false, false, false] rfl rfl (by kernel_rfl) (by decide) (fun K hK => ?_)
  refine goes_ Tryd.func21 (by kernel_rfl) rfl #[.slice A l.length c] (by rfl) rfl rfl (by simp only [List.map_toArray, List.map_cons, List.map_nil]; rfl) ?_
  with_reducible refine (canon_calls A c l _ (HL0.out.below hHeld.2.2.out.be) HW.out (by omega)).mono ?_
  rintro e w6 ⟨B6, d6, rfl, hI, hb⟩
  refine ⟨_, rfl, ?_⟩
  have HX6 := Aside0.mk (hHeld.2.2.out.below hb)
  have HM6 := Aside0.mk (HM5.out.below hb)
  have HC6 := Aside0.mk hI
  clear hHeld hb hI
  refine hK.out _ _ ⟨HX6.out.sh.cell 0, HX6.out.sh.cell 1, HX6⟩ (fun hHeld => ?_)
  clear hK K
  refine norm_ (a' := ?_) ?_ ?_
  rotate_left
  · show Act.put _ (some 58) _ = _
    simp only [Act.put, List.setIfInBounds_toArray, List.set_cons_zero, List.set_cons_succ, i64_w, i32_w]
    rfl
  refine one_ (i := 19) (N := some 59) #[true, true, true, true, true, true, true, true, true, true, true, true, true, true, true, true, true, true, true, true, false, false] rfl rfl (by kernel_rfl) (by decide) (fun K hK => ?_)
  refine goes_ Tryd.func19 (by kernel_rfl) rfl #[.slice (some ⟨h, 0, none⟩) l.length dh, .slice B6 l.length d6] (by rfl) rfl rfl (by simp only [List.map_toArray, List.map_cons, List.map_nil]; rfl) ?_
  with_reducible refine (same_n (some ⟨h, 0, none⟩) B6 dh d6 l.length (can l) (can l) _ HM6.out HC6.out (by omega) hcl rfl).mono ?_
  rintro e w7 ⟨rfl, hb⟩
  refine ⟨_, rfl, ?_⟩
  have HX7 := Aside0.mk (hHeld.2.2.out.below hb)
  clear hHeld hb
  refine hK.out _ _ ⟨HX7.out.sh.cell 0, HX7.out.sh.cell 1, HX7⟩ (fun hHeld => ?_)
  clear hK K
  refine norm_ (a' := ?_) ?_ ?_
  rotate_left
  · show Act.put _ (some 59) _ = _
    simp only [Act.put, List.setIfInBounds_toArray, List.set_cons_zero, List.set_cons_succ, i64_w, i32_w]
    rfl
  refine pure_ (i := 20) (N := some 60) (v := ?_) (a' := ?_) #[true, true, true, true, true, true, true, true, true, true, true, true, true, true, true, true, true, true, true, true, true, false] rfl rfl (by kernel_rfl) (fun _ _ _ h => h) (Or.inl ⟨by rfl, ?_⟩) ?_ ?_
  rotate_left
  · intro w'
    go_simp
    with_reducible rfl
  rotate_left
  · simp only [Act.put, List.setIfInBounds_toArray, List.set_cons_zero, List.set_cons_succ, i64_w, i32_w]
    rfl
  refine pure_ (i := 21) (N := some 61) (v := ?_) (a' := ?_) #[true, true, true, true, true, true, true, true, true, true, true, true, true, true, true, true, true, true, true, true, true, true] rfl rfl (by kernel_rfl) (fun _ _ _ h => h) (Or.inl ⟨by rfl, ?_⟩) ?_ ?_
  rotate_left
  · intro w'
    go_simp
    with_reducible rfl
  rotate_left
  · simp only [Act.put, List.setIfInBounds_toArray, List.set_cons_zero, List.set_cons_succ, i64_w, i32_w]
    rfl
  refine done_ (by kernel_rfl) ?_
  clear hHeld HX3 HX4 HX5 HX6 HM5 HM6 HC6
  go_wp2_with fail
  obtain ⟨z, hz⟩ : ∃ z, z = tb l.length (t2 a b 0 (el l)) := ⟨_, rfl⟩
  have hzl : z.length = l.length := by rw [hz, tb_len]
  have HZ := Aside0.mk (show tb (can l).length (t2 a b 0 (el (can l))) = z by rw [hz, hcl]; exact tb_congr fun i _ => t2_congr (fun j hj => can_el l (by rw [HSh.out.pow]; exact hj)) i)
  have HZe := Aside0.mk hz
  have HZw := Aside0.mk (show Ws z by rw [hz]; exact tb_ws _ _)
  have HZ2 := Aside0.mk (show tb z.length (t2 a b 1 (el z)) = can l by
    rw [hzl, can_is]
    refine tb_congr fun i hi => ?_
    rw [t2_congr (g := t2 a b 0 (el l)) (fun j hj => by rw [hz, el_tb _ (by rw [HSh.out.pow]; exact hj)]) i]
    exact t2_back a b (by have := HSh.out.ab; omega) 0 (.inl rfl) (el l) i (by rw [← HSh.out.pow]; exact hi))
  clear hz
  have ht := gtrans_yes R C a b p g cg (can l) 0 (.inl rfl) HSh.out.r HSh.out.c HSh.out.ab (by rw [hcl]; exact HSh.out.n) (can_ws l) _ HX7.out.gd (HT0.out.below HX7.out.be)
  rw [HZ.out] at ht
  with_reducible refine ht.mono ?_
  clear ht
  rintro e w8 ⟨rfl, hg, hf⟩
  have HX8 := Aside0.mk (show Gt w w8 p g cg bs (R : Int) (C : Int) z from ⟨HX7.out.be.trans (hf.below (B := w.heap.size) HX7.out.be.size (by simpa using HP.out.2.1)), hg, HX7.out.sh.fr hf (by simpa using HP.out.2.2)⟩)
  clear hg hf HX7
  go_wp2_with fail
  refine start_ (n := 12) (S := fun w' => w'.cell? ⟨bs, 0, none⟩ = some (.int .i64 (R : Int)) ∧ w'.cell? ⟨bs, 1, none⟩ = some (.int .i64 (C : Int)) ∧ Aside0 (Gt w w' p g cg bs (R : Int) (C : Int) z)) (ds := []) #[false, false, false, false, false, false, false, false, false, false, false, false] (by kernel_rfl) rfl rfl ⟨HX8.out.drew.sh.cell 0, HX8.out.drew.sh.cell 1, ⟨HX8.out.drew⟩⟩ (fun hHeld => ?_)
  refine pure_ (i := 0) (N := some 80) (v := ?_) (a' := ?_) #[true, false, false, false, false, false, false, false, false, false, false, false] rfl rfl (by kernel_rfl) (fun _ _ _ h => h) (Or.inl ⟨by rfl, ?_⟩) ?_ ?_
  rotate_left
  · intro w'
    go_simp
    with_reducible rfl
  rotate_left
  · simp only [Act.put, List.setIfInBounds_toArray, List.set_cons_zero, List.set_cons_succ, i64_w, i32_w]
    rfl
  refine pure_ (i := 1) (N := some 81) (v := ?_) (a' := ?_) #[true, true, false, false, false, false, false, false, false, false, false, false] rfl rfl (by kernel_rfl) (fun _ _ _ h => h) (Or.inl ⟨by rfl, ?_⟩) ?_ ?_
  rotate_left
  · intro w'
    go_simp
    with_reducible rfl
  rotate_left
  · simp only [Act.put, List.setIfInBounds_toArray, List.set_cons_zero, List.set_cons_succ, i64_w, i32_w]
    rfl
  refine pure_ (i := 2) (N := some 82) (v := ?_) (a' := ?_) #[true, true, true, false, false, false, false, false, false, false, false, false] rfl rfl (by kernel_rfl) (fun _ _ _ h => h) (Or.inl ⟨by rfl, ?_⟩) ?_ ?_
  rotate_left
  · intro w'
    go_simp
    with_reducible rfl
  rotate_left
  · simp only [Act.put, List.setIfInBounds_toArray, List.set_cons_zero, List.set_cons_succ, i64_w, i32_w]
    rfl
  refine pure_ (i := 3) (N := some 83) (v := ?_) (a' := ?_) #[true, true, true, true, false, false, false, false, false, false, false, false] rfl rfl (by kernel_rfl) (fun _ _ _ h => h) (Or.inl ⟨by rfl, ?_⟩) ?_ ?_
  rotate_left
  · intro w'
    go_simp
    with_reducible rfl
  rotate_left
  · simp only [Act.put, List.setIfInBounds_toArray, List.set_cons_zero, List.set_cons_succ, i64_w, i32_w]
    rfl
  refine pure_ (i := 5) (N := some 85) (v := ?_) (a' := ?_) #[true, true, true, true, false, true, false, false, false, false, false, false] rfl rfl (by kernel_rfl) (fun _ _ _ h => h) (Or.inl ⟨by rfl, ?_⟩) ?_ ?_
  rotate_left
  · intro w'
    go_simp
    with_reducible rfl
  rotate_left
  · simp only [Act.put, List.setIfInBounds_toArray, List.set_cons_zero, List.set_cons_succ, i64_w, i32_w]
    rfl
  refine pure_ (i := 7) (N := some 87) (v := ?_) (a' := ?_) #[true, true, true, true, false, true, false, true, false, false, false, false] rfl rfl (by kernel_rfl) (fun _ _ _ h => h) (Or.inl ⟨by rfl, ?_⟩) ?_ ?_
  rotate_left
  · intro w'
    go_simp
    with_reducible rfl
  rotate_left
  · simp only [Act.put, List.setIfInBounds_toArray, List.set_cons_zero, List.set_cons_succ, i64_w, i32_w]
    rfl
  refine take_ (i := 6) (N := some 86) (v := ?_) (a' := ?_) #[true, true, true, true, false, true, true, true, false, false, false, false] rfl rfl (by kernel_rfl) (fun _ _ _ h => h) (Or.inl ⟨by rfl, ?_⟩) hHeld ?_ ?_
  rotate_left
  · rintro w' ⟨s0, s1, s2⟩
    go_simp
    with_reducible rfl
  rotate_left
  · simp only [Act.put, List.setIfInBounds_toArray, List.set_cons_zero, List.set_cons_succ, i64_w, i32_w]
    rfl
  refine one_ (i := 4) (N := some 84) #[true, true, true, true, true, true, true, true, false, false, false, false] rfl rfl (by kernel_rfl) (by decide) (fun K hK => ?_)
  have hcw := gwords p g cg (R : Int) (C : Int) z _ hHeld.2.2.out.gd (by rw [hzl]; exact hp) (by omega)
  rw [hzl] at hcw
  refine goes_ Tryd.func20 (by kernel_rfl) rfl #[.pointer (some ⟨p, 0, none⟩)] (by rfl) rfl rfl (by simp only [List.map_toArray, List.map_cons, List.map_nil]; rfl) ?_
  with_reducible refine (hcw).mono ?_
  rintro e w9 ⟨h, dh, rfl, hm, hb, hge⟩
  refine ⟨_, rfl, ?_⟩
  clear hcw
  have HX9 := Aside0.mk (hHeld.2.2.out.below hb)
  have HM9 := Aside0.mk (In.of_mr hm (by omega))
  clear hHeld hb hm hge
  refine hK.out _ _ ⟨HX9.out.sh.cell 0, HX9.out.sh.cell 1, HX9⟩ (fun hHeld => ?_)
  clear hK K
  refine norm_ (a' := ?_) ?_ ?_
  rotate_left
  · show Act.put _ (some 84) _ = _
    simp only [Act.put, List.setIfInBounds_toArray, List.set_cons_zero, List.set_cons_succ, i64_w, i32_w]
    rfl
  refine one_ (i := 8) (N := some 88) #[true, true, true, true, true, true, true, true, true, false, false, false] rfl rfl (by kernel_rfl) (by decide) (fun K hK => ?_)
  have hct := t32_calls HSh.out A c l 0 (.inl rfl) _ (HL0.out.below hHeld.2.2.out.be) HW.out rfl
  rw [← HZe.out] at hct
  refine goes_ Tryd.func23 (by kernel_rfl) rfl #[.slice A l.length c, .agg #[.int .i64 (R : Int), .int .i64 (C : Int)], .int .i64 0] (by rfl) rfl rfl (by simp only [List.map_toArray, List.map_cons, List.map_nil]; rfl) ?_
  with_reducible refine (hct).mono ?_
  rintro e w10 ⟨B10, d10, rfl, hI, hb⟩
  refine ⟨_, rfl, ?_⟩
  clear hct
  have HX10 := Aside0.mk (hHeld.2.2.out.below hb)
  have HM10 := Aside0.mk (HM9.out.below hb)
  have HC10 := Aside0.mk hI
  clear hHeld hb hI
  refine hK.out _ _ ⟨HX10.out.sh.cell 0, HX10.out.sh.cell 1, HX10⟩ (fun hHeld => ?_)
  clear hK K
  refine norm_ (a' := ?_) ?_ ?_
  rotate_left
  · show Act.put _ (some 88) _ = _
    simp only [Act.put, List.setIfInBounds_toArray, List.set_cons_zero, List.set_cons_succ, i64_w, i32_w]
    rfl
  refine one_ (i := 9) (N := some 89) #[true, true, true, true, true, true, true, true, true, true, false, false] rfl rfl (by kernel_rfl) (by decide) (fun K hK => ?_)
  refine goes_ Tryd.func19 (by kernel_rfl) rfl #[.slice (some ⟨h, 0, none⟩) l.length dh, .slice B10 l.length d10] (by rfl) rfl rfl (by simp only [List.map_toArray, List.map_cons, List.map_nil]; rfl) ?_
  with_reducible refine (same_n (some ⟨h, 0, none⟩) B10 dh d10 l.length z z _ HM10.out HC10.out (by omega) hzl rfl).mono ?_
  rintro e w11 ⟨rfl, hb⟩
  refine ⟨_, rfl, ?_⟩
  have HX11 := Aside0.mk (hHeld.2.2.out.below hb)
  clear hHeld hb
  refine hK.out _ _ ⟨HX11.out.sh.cell 0, HX11.out.sh.cell 1, HX11⟩ (fun hHeld => ?_)
  clear hK K
  refine norm_ (a' := ?_) ?_ ?_
  rotate_left
  · show Act.put _ (some 89) _ = _
    simp only [Act.put, List.setIfInBounds_toArray, List.set_cons_zero, List.set_cons_succ, i64_w, i32_w]
    rfl
  refine pure_ (i := 10) (N := some 90) (v := ?_) (a' := ?_) #[true, true, true, true, true, true, true, true, true, true, true, false] rfl rfl (by kernel_rfl) (fun _ _ _ h => h) (Or.inl ⟨by rfl, ?_⟩) ?_ ?_
  rotate_left
  · intro w'
    go_simp
    with_reducible rfl
  rotate_left
  · simp only [Act.put, List.setIfInBounds_toArray, List.set_cons_zero, List.set_cons_succ, i64_w, i32_w]
    rfl
  refine pure_ (i := 11) (N := some 91) (v := ?_) (a' := ?_) #[true, true, true, true, true, true, true, true, true, true, true, true] rfl rfl (by kernel_rfl) (fun _ _ _ h => h) (Or.inl ⟨by rfl, ?_⟩) ?_ ?_
  rotate_left
  · intro w'
    go_simp
    with_reducible rfl
  rotate_left
  · simp only [Act.put, List.setIfInBounds_toArray, List.set_cons_zero, List.set_cons_succ, i64_w, i32_w]
    rfl
  refine done_ (by kernel_rfl) ?_
  clear hHeld HX8 HX9 HX10 HM9 HM10 HC10
  go_wp2_with fail
  have ht := gtrans_yes R C a b p g cg z 1 (.inr rfl) HSh.out.r HSh.out.c HSh.out.ab (by rw [hzl]; exact HSh.out.n) HZw.out _ HX11.out.gd (HT0.out.below HX11.out.be)
  rw [HZ2.out] at ht
  with_reducible refine ht.mono ?_
  clear ht
  rintro e w12 ⟨rfl, hg, hf⟩
  have HX12 := Aside0.mk (show Gt w w12 p g cg bs (R : Int) (C : Int) (can l) from ⟨HX11.out.be.trans (hf.below (B := w.heap.size) HX11.out.be.size (by simpa using HP.out.2.1)), hg, HX11.out.sh.fr hf (by simpa using HP.out.2.2)⟩)
  clear hg hf HX11
  go_wp2_with fail
  have hcw := gwords p g cg (R : Int) (C : Int) (can l) _ HX12.out.gd (by rw [hcl]; exact hp) (by omega)
  rw [hcl] at hcw
  with_reducible refine hcw.mono ?_
  clear hcw
  rintro e wa ⟨h, dh, rfl, hm, hb, hge⟩
  have HXa := Aside0.mk (HX12.out.below hb)
  have HMa := Aside0.mk (In.of_mr hm (by omega))
  clear hb hm hge HX12
  go_wp2_with fail
  with_reducible refine (canon_calls A c l _ (HL0.out.below HXa.out.be) HW.out (by omega)).mono ?_
  rintro e wb ⟨B6, d6, rfl, hI, hb⟩
  have HXb := Aside0.mk (HXa.out.below hb)
  have HMb := Aside0.mk (HMa.out.below hb)
  have HCb := Aside0.mk hI
  clear hb hI HXa HMa
  go_wp2_with fail
  with_reducible refine (same_n (some ⟨h, 0, none⟩) B6 dh d6 l.length (can l) (can l) _ HMb.out HCb.out (by omega) hcl rfl).mono ?_
  rintro e wc ⟨rfl, hb⟩
  have HXc := Aside0.mk (HXb.out.below hb)
  clear hb HXb HMb HCb
  go_wp2
  go_ret
  exact ⟨rfl, HXc.out.be⟩
set_option maxHeartbeats 8000000 in
theorem tr_y1 (A : Option Addr) (c : Nat) (l : List Int) (R C a b : Nat) (w : World) (hl : In w A c l) (hW : Ws l) (hL : l.length ≤ 64) (hsh : Sh R C a b l.length) (hT : TabOK w) :
    Calls Tryd.prog 3 #[.agg #[.int .i64 (R : Int), .int .i64 (C : Int)], .slice A l.length c, .int .i64 1] w fun e w' => e = .returned (.bool true) ∧ Below w.heap.size w w' := by
  have hG : GoodS (R : Int) (C : Int) := ⟨a, b, by have := hsh.ab; omega, ⟨by have := hsh.ab; omega, by rw [hsh.r]⟩, ⟨by have := hsh.ab; omega, by rw [hsh.c]⟩⟩
  obtain ⟨kg, hkg⟩ := (rgood_yes R C hG).rounds
  have HG := Aside0.mk hkg
  have hp : 0 < l.length := by rw [hsh.pow]; exact Nat.two_pow_pos _
  have HSh := Aside0.mk hsh
  have HW := Aside0.mk hW
  have HGo := Aside0.mk (show GoodS (R : Int) (C : Int) ∧ (R : Int) * (C : Int) = (l.length : Int) from ⟨hG, by rw [← Int.natCast_mul, hsh.n]⟩)
  have HE := Aside0.mk (show wrap64 ((R : Int) * (C : Int)) = (l.length : Int) by rw [mulc R C (by rw [hsh.n]; omega), hsh.n])
  have e2 : ((l.length : Int) != (l.length : Int)) = false := by simp
  have e3 : ((R : Int) == (R : Int) && ((C : Int) == (C : Int))) = true := by simp
  have hcl := can_len l
  clear hkg hG hsh hW
  have HT0 := Aside0.mk hT
  have HB := Aside0.mk (below_alloc (Below.refl w.heap.size w) (Obj.cells #[.int .i64 (R : Int), .int .i64 (C : Int)] 23))
  have HS := Aside0.mk (Bk.new w 23 [.int .i64 (R : Int), .int .i64 (C : Int)])
  have HL0 := Aside0.mk hl
  obtain ⟨bs, hbs⟩ : ∃ z, z = w.heap.size := ⟨_, rfl⟩
  have hbg : w.heap.size ≤ bs := by omega
  have d1 : decide ((64 : Int) < (l.length : Int)) = false := decide_eq_false (by omega)
  clear hT hl
  go_enter Tryd.func3, Tryd.ntmps3
  go_wp2_with fail
  with_reducible refine (gawake _ (HT0.out.below HB.out)).mono ?_
  rintro e w1 ⟨rfl, hb⟩
  rw [← hbs] at HS ⊢
  clear hbs
  have HB1 := Aside0.mk (below_then HB.out HB.out.size hb)
  have HS1 := Aside0.mk (HS.out.below hb)
  have v0 := HS1.out.cell 0
  have v1 := HS1.out.cell 1
  clear hb HB HS
  go_wp2_with fail
  clear v0 v1
  with_reducible refine (gnew_yes A c l (R : Int) (C : Int) _ (HL0.out.below HB1.out) HW.out (by omega) hp HGo.out.1 HGo.out.2 (HT0.out.below HB1.out)).mono ?_
  rintro e w2 ⟨p, g, cg, rfl, hg, hb, hp2, hg2⟩
  have HX2 := Aside0.mk (show Gt w w2 p g cg bs (R : Int) (C : Int) (can l) from ⟨below_then HB1.out HB1.out.size hb, hg, HS1.out.below hb⟩)
  have HP := Aside0.mk (show w.heap.size ≤ p ∧ w.heap.size ≤ g ∧ bs ≠ g by have h1 := HB1.out.size; have h2 := HS1.out.lt; omega)
  clear hg hb hp2 hg2 HB1 HS1
  have v0 := HX2.out.sh.cell 0
  have v1 := HX2.out.sh.cell 1
  go_wp2_with fail
  clear v0 v1
  with_reducible refine (abacistref06_Good.calls kg (R : Int) (C : Int) true _ HG.out).mono ?_
  rintro e w3 ⟨rfl, hb⟩
  have HX3 := Aside0.mk (HX2.out.below hb)
  have v0 := HX3.out.sh.cell 0
  have v1 := HX3.out.sh.cell 1
  clear hb HX2
  have e1 := HE.out
  go_wp2_with fail
  clear v0 v1 e1
  refine start_ (n := 22) (S := fun w' => w'.cell? ⟨bs, 0, none⟩ = some (.int .i64 (R : Int)) ∧ w'.cell? ⟨bs, 1, none⟩ = some (.int .i64 (C : Int)) ∧ Aside0 (Gt w w' p g cg bs (R : Int) (C : Int) (can l))) (ds := []) #[false, false, false, false, false, false, false, false, false, false, false, false, false, false, false, false, false, false, false, false, false, false] (by kernel_rfl) rfl rfl ⟨HX3.out.drew.sh.cell 0, HX3.out.drew.sh.cell 1, ⟨HX3.out.drew⟩⟩ (fun hHeld => ?_)
  refine pure_ (i := 0) (N := some 40) (v := ?_) (a' := ?_) #[true, false, false, false, false, false, false, false, false, false, false, false, false, false, false, false, false, false, false, false, false, false] rfl rfl (by kernel_rfl) (fun _ _ _ h => h) (Or.inl ⟨by rfl, ?_⟩) ?_ ?_
  rotate_left
  · intro w'
    go_simp
    with_reducible rfl
  rotate_left
  · simp only [Act.put, List.setIfInBounds_toArray, List.set_cons_zero, List.set_cons_succ, i64_w, i32_w]
    rfl
  refine pure_ (i := 1) (N := some 41) (v := ?_) (a' := ?_) #[true, true, false, false, false, false, false, false, false, false, false, false, false, false, false, false, false, false, false, false, false, false] rfl rfl (by kernel_rfl) (fun _ _ _ h => h) (Or.inl ⟨by rfl, ?_⟩) ?_ ?_
  rotate_left
  · intro w'
    go_simp
    with_reducible rfl
  rotate_left
  · simp only [Act.put, List.setIfInBounds_toArray, List.set_cons_zero, List.set_cons_succ, i64_w, i32_w]
    rfl
  refine pure_ (i := 2) (N := some 42) (v := ?_) (a' := ?_) #[true, true, true, false, false, false, false, false, false, false, false, false, false, false, false, false, false, false, false, false, false, false] rfl rfl (by kernel_rfl) (fun _ _ _ h => h) (Or.inl ⟨by rfl, ?_⟩) ?_ ?_
  rotate_left
  · intro w'
    go_simp
    with_reducible rfl
  rotate_left
  · simp only [Act.put, List.setIfInBounds_toArray, List.set_cons_zero, List.set_cons_succ, i64_w, i32_w]
    rfl
  refine pure_ (i := 3) (N := some 43) (v := ?_) (a' := ?_) #[true, true, true, true, false, false, false, false, false, false, false, false, false, false, false, false, false, false, false, false, false, false] rfl rfl (by kernel_rfl) (fun _ _ _ h => h) (Or.inl ⟨by rfl, ?_⟩) ?_ ?_
  rotate_left
  · intro w'
    go_simp
    with_reducible rfl
  rotate_left
  · simp only [Act.put, List.setIfInBounds_toArray, List.set_cons_zero, List.set_cons_succ, i64_w, i32_w]
    rfl
  refine pure_ (i := 4) (N := some 44) (v := ?_) (a' := ?_) #[true, true, true, true, true, false, false, false, false, false, false, false, false, false, false, false, false, false, false, false, false, false] rfl rfl (by kernel_rfl) (fun _ _ _ h => h) (Or.inl ⟨by rfl, ?_⟩) ?_ ?_
  rotate_left
  · intro w'
    go_simp
    with_reducible rfl
  rotate_left
  · simp only [Act.put, List.setIfInBounds_toArray, List.set_cons_zero, List.set_cons_succ, i64_w, i32_w]
    rfl
  refine pure_ (i := 5) (N := some 45) (v := ?_) (a' := ?_) #[true, true, true, true, true, true, false, false, false, false, false, false, false, false, false, false, false, false, false, false, false, false] rfl rfl (by kernel_rfl) (fun _ _ _ h => h) (Or.inl ⟨by rfl, ?_⟩) ?_ ?_
  rotate_left
  · intro w'
    go_simp
    with_reducible rfl
  rotate_left
  · simp only [Act.put, List.setIfInBounds_toArray, List.set_cons_zero, List.set_cons_succ, i64_w, i32_w]
    rfl
  refine pure_ (i := 6) (N := some 46) (v := ?_) (a' := ?_) #[true, true, true, true, true, true, true, false, false, false, false, false, false, false, false, false, false, false, false, false, false, false] rfl rfl (by kernel_rfl) (fun _ _ _ h => h) (Or.inl ⟨by rfl, ?_⟩) ?_ ?_
  rotate_left
  · intro w'
    go_simp
    with_reducible rfl
  rotate_left
  · simp only [Act.put, List.setIfInBounds_toArray, List.set_cons_zero, List.set_cons_succ, i64_w, i32_w]
    rfl
  refine pure_ (i := 7) (N := some 47) (v := ?_) (a' := ?_) #[true, true, true, true, true, true, true, true, false, false, false, false, false, false, false, false, false, false, false, false, false, false] rfl rfl (by kernel_rfl) (fun _ _ _ h => h) (Or.inl ⟨by rfl, ?_⟩) ?_ ?_
  rotate_left
  · intro w'
    go_simp
    with_reducible rfl
  rotate_left
  · simp only [Act.put, List.setIfInBounds_toArray, List.set_cons_zero, List.set_cons_succ, i64_w, i32_w]
    rfl
  refine pure_ (i := 8) (N := some 48) (v := ?_) (a' := ?_) #[true, true, true, true, true, true, true, true, true, false, false, false, false, false, false, false, false, false, false, false, false, false] rfl rfl (by kernel_rfl) (fun _ _ _ h => h) (Or.inl ⟨by rfl, ?_⟩) ?_ ?_
  rotate_left
  · intro w'
    go_simp
    with_reducible rfl
  rotate_left
  · simp only [Act.put, List.setIfInBounds_toArray, List.set_cons_zero, List.set_cons_succ, i64_w, i32_w]
    rfl
  refine pure_ (i := 9) (N := some 49) (v := ?_) (a' := ?_) #[true, true, true, true, true, true, true, true, true, true, false, false, false, false, false, false, false, false, false, false, false, false] rfl rfl (by kernel_rfl) (fun _ _ _ h => h) (Or.inl ⟨by rfl, ?_⟩) ?_ ?_
  rotate_left
  · intro w'
    go_simp
    with_reducible rfl
  rotate_left
  · simp only [Act.put, List.setIfInBounds_toArray, List.set_cons_zero, List.set_cons_succ, i64_w, i32_w]
    rfl
  refine take_ (i := 11) (N := some 51) (v := ?_) (a' := ?_) #[true, true, true, true, true, true, true, true, true, true, false, true, false, false, false, false, false, false, false, false, false, false] rfl rfl (by kernel_rfl) (fun _ _ _ h => h) (Or.inl ⟨by rfl, ?_⟩) hHeld ?_ ?_
  rotate_left
  · rintro w' ⟨s0, s1, s2⟩
    go_simp
    with_reducible rfl
  rotate_left
  · simp only [Act.put, List.setIfInBounds_toArray, List.set_cons_zero, List.set_cons_succ, i64_w, i32_w]
    rfl
  refine one_ (i := 10) (N := some 50) #[true, true, true, true, true, true, true, true, true, true, true, true, false, false, false, false, false, false, false, false, false, false] rfl rfl (by kernel_rfl) (by decide) (fun K hK => ?_)
  refine goes_ Tryd.func18 (by kernel_rfl) rfl #[.pointer (some ⟨p, 0, none⟩)] (by rfl) rfl rfl (by simp only [List.map_toArray, List.map_cons, List.map_nil]; rfl) ?_
  with_reducible refine (gshape p g cg (R : Int) (C : Int) (can l) _ hHeld.2.2.out.gd).mono ?_
  rintro e w4 ⟨rfl, hb⟩
  refine ⟨_, rfl, ?_⟩
  have HX4 := Aside0.mk (hHeld.2.2.out.below hb)
  clear hHeld hb
  refine hK.out _ _ ⟨HX4.out.sh.cell 0, HX4.out.sh.cell 1, HX4⟩ (fun hHeld => ?_)
  clear hK K
  refine norm_ (a' := ?_) ?_ ?_
  rotate_left
  · show Act.put _ (some 50) _ = _
    simp only [Act.put, List.setIfInBounds_toArray, List.set_cons_zero, List.set_cons_succ, i64_w, i32_w]
    rfl
  refine pure_ (i := 12) (N := some 52) (v := ?_) (a' := ?_) #[true, true, true, true, true, true, true, true, true, true, true, true, true, false, false, false, false, false, false, false, false, false] rfl rfl (by kernel_rfl) (fun _ _ _ h => h) (Or.inl ⟨by rfl, ?_⟩) ?_ ?_
  rotate_left
  · intro w'
    go_simp
    with_reducible rfl
  rotate_left
  · simp only [Act.put, List.setIfInBounds_toArray, List.set_cons_zero, List.set_cons_succ, i64_w, i32_w]
    rfl
  refine pure_ (i := 13) (N := some 53) (v := ?_) (a' := ?_) #[true, true, true, true, true, true, true, true, true, true, true, true, true, true, false, false, false, false, false, false, false, false] rfl rfl (by kernel_rfl) (fun _ _ _ h => h) (Or.inl ⟨by rfl, ?_⟩) ?_ ?_
  rotate_left
  · intro w'
    go_simp
    with_reducible rfl
  rotate_left
  · simp only [Act.put, List.setIfInBounds_toArray, List.set_cons_zero, List.set_cons_succ, i64_w, i32_w]
    rfl
  refine pure_ (i := 14) (N := some 54) (v := ?_) (a' := ?_) #[true, true, true, true, true, true, true, true, true, true, true, true, true, true, true, false, false, false, false, false, false, false] rfl rfl (by kernel_rfl) (fun _ _ _ h => h) (Or.inl ⟨by rfl, ?_⟩) ?_ ?_
  rotate_left
  · intro w'
    go_simp
    with_reducible rfl
  rotate_left
  · simp only [Act.put, List.setIfInBounds_toArray, List.set_cons_zero, List.set_cons_succ, i64_w, i32_w]
    rfl
  refine pure_ (i := 15) (N := some 55) (v := ?_) (a' := ?_) #[true, true, true, true, true, true, true, true, true, true, true, true, true, true, true, true, false, false, false, false, false, false] rfl rfl (by kernel_rfl) (fun _ _ _ h => h) (Or.inl ⟨by rfl, ?_⟩) ?_ ?_
  rotate_left
  · intro w'
    go_simp
    with_reducible rfl
  rotate_left
  · simp only [Act.put, List.setIfInBounds_toArray, List.set_cons_zero, List.set_cons_succ, i64_w, i32_w]
    rfl
  refine pure_ (i := 17) (N := some 57) (v := ?_) (a' := ?_) #[true, true, true, true, true, true, true, true, true, true, true, true, true, true, true, true, false, true, false, false, false, false] rfl rfl (by kernel_rfl) (fun _ _ _ h => h) (Or.inl ⟨by rfl, ?_⟩) ?_ ?_
  rotate_left
  · intro w'
    go_simp
    with_reducible rfl
  rotate_left
  · simp only [Act.put, List.setIfInBounds_toArray, List.set_cons_zero, List.set_cons_succ, i64_w, i32_w]
    rfl
  refine one_ (i := 16) (N := some 56) #[true, true, true, true, true, true, true, true, true, true, true, true, true, true, true, true, true, true, false, false, false, false] rfl rfl (by kernel_rfl) (by decide) (fun K hK => ?_)
  have hcw := gwords p g cg (R : Int) (C : Int) (can l) _ hHeld.2.2.out.gd (by rw [hcl]; exact hp) (by omega)
  rw [hcl] at hcw
  refine goes_ Tryd.func20 (by kernel_rfl) rfl #[.pointer (some ⟨p, 0, none⟩)] (by rfl) rfl rfl (by simp only [List.map_toArray, List.map_cons, List.map_nil]; rfl) ?_
  with_reducible refine (hcw).mono ?_
  rintro e w5 ⟨h, dh, rfl, hm, hb, hge⟩
  refine ⟨_, rfl, ?_⟩
  clear hcw
  have HX5 := Aside0.mk (hHeld.2.2.out.below hb)
  have HM5 := Aside0.mk (In.of_mr hm (by omega))
  clear hHeld hb hm hge
  refine hK.out _ _ ⟨HX5.out.sh.cell 0, HX5.out.sh.cell 1, HX5⟩ (fun hHeld => ?_)
  clear hK K
  refine norm_ (a' := ?_) ?_ ?_
  rotate_left
  · show Act.put _ (some 56) _ = _
    simp only [Act.put, List.setIfInBounds_toArray, List.set_cons_zero, List.set_cons_succ, i64_w, i32_w]
    rfl
  refine one_ (i := 18) (N := some 58) #[true, true, true, true, true, true, true, true, true, true, true, true, true, true, true, true, true, true, true, false, false, false] rfl rfl (by kernel_rfl) (by decide) (fun K hK => ?_)
  refine goes_ Tryd.func21 (by kernel_rfl) rfl #[.slice A l.length c] (by rfl) rfl rfl (by simp only [List.map_toArray, List.map_cons, List.map_nil]; rfl) ?_
  with_reducible refine (canon_calls A c l _ (HL0.out.below hHeld.2.2.out.be) HW.out (by omega)).mono ?_
  rintro e w6 ⟨B6, d6, rfl, hI, hb⟩
  refine ⟨_, rfl, ?_⟩
  have HX6 := Aside0.mk (hHeld.2.2.out.below hb)
  have HM6 := Aside0.mk (HM5.out.below hb)
  have HC6 := Aside0.mk hI
  clear hHeld hb hI
  refine hK.out _ _ ⟨HX6.out.sh.cell 0, HX6.out.sh.cell 1, HX6⟩ (fun hHeld => ?_)
  clear hK K
  refine norm_ (a' := ?_) ?_ ?_
  rotate_left
  · show Act.put _ (some 58) _ = _
    simp only [Act.put, List.setIfInBounds_toArray, List.set_cons_zero, List.set_cons_succ, i64_w, i32_w]
    rfl
  refine one_ (i := 19) (N := some 59) #[true, true, true, true, true, true, true, true, true, true, true, true, true, true, true, true, true, true, true, true, false, false] rfl rfl (by kernel_rfl) (by decide) (fun K hK => ?_)
  refine goes_ Tryd.func19 (by kernel_rfl) rfl #[.slice (some ⟨h, 0, none⟩) l.length dh, .slice B6 l.length d6] (by rfl) rfl rfl (by simp only [List.map_toArray, List.map_cons, List.map_nil]; rfl) ?_
  with_reducible refine (same_n (some ⟨h, 0, none⟩) B6 dh d6 l.length (can l) (can l) _ HM6.out HC6.out (by omega) hcl rfl).mono ?_
  rintro e w7 ⟨rfl, hb⟩
  refine ⟨_, rfl, ?_⟩
  have HX7 := Aside0.mk (hHeld.2.2.out.below hb)
  clear hHeld hb
  refine hK.out _ _ ⟨HX7.out.sh.cell 0, HX7.out.sh.cell 1, HX7⟩ (fun hHeld => ?_)
  clear hK K
  refine norm_ (a' := ?_) ?_ ?_
  rotate_left
  · show Act.put _ (some 59) _ = _
    simp only [Act.put, List.setIfInBounds_toArray, List.set_cons_zero, List.set_cons_succ, i64_w, i32_w]
    rfl
  refine pure_ (i := 20) (N := some 60) (v := ?_) (a' := ?_) #[true, true, true, true, true, true, true, true, true, true, true, true, true, true, true, true, true, true, true, true, true, false] rfl rfl (by kernel_rfl) (fun _ _ _ h => h) (Or.inl ⟨by rfl, ?_⟩) ?_ ?_
  rotate_left
  · intro w'
    go_simp
    with_reducible rfl
  rotate_left
  · simp only [Act.put, List.setIfInBounds_toArray, List.set_cons_zero, List.set_cons_succ, i64_w, i32_w]
    rfl
  refine pure_ (i := 21) (N := some 61) (v := ?_) (a' := ?_) #[true, true, true, true, true, true, true, true, true, true, true, true, true, true, true, true, true, true, true, true, true, true] rfl rfl (by kernel_rfl) (fun _ _ _ h => h) (Or.inl ⟨by rfl, ?_⟩) ?_ ?_
  rotate_left
  · intro w'
    go_simp
    with_reducible rfl
  rotate_left
  · simp only [Act.put, List.setIfInBounds_toArray, List.set_cons_zero, List.set_cons_succ, i64_w, i32_w]
    rfl
  refine done_ (by kernel_rfl) ?_
  clear hHeld HX3 HX4 HX5 HX6 HM5 HM6 HC6
  go_wp2_with fail
  obtain ⟨z, hz⟩ : ∃ z, z = tb l.length (t2 a b 1 (el l)) := ⟨_, rfl⟩
  have hzl : z.length = l.length := by rw [hz, tb_len]
  have HZ := Aside0.mk (show tb (can l).length (t2 a b 1 (el (can l))) = z by rw [hz, hcl]; exact tb_congr fun i _ => t2_congr (fun j hj => can_el l (by rw [HSh.out.pow]; exact hj)) i)
  have HZe := Aside0.mk hz
  have HZw := Aside0.mk (show Ws z by rw [hz]; exact tb_ws _ _)
  have HZ2 := Aside0.mk (show tb z.length (t2 a b 0 (el z)) = can l by
    rw [hzl, can_is]
    refine tb_congr fun i hi => ?_
    rw [t2_congr (g := t2 a b 1 (el l)) (fun j hj => by rw [hz, el_tb _ (by rw [HSh.out.pow]; exact hj)]) i]
    exact t2_back a b (by have := HSh.out.ab; omega) 1 (.inr rfl) (el l) i (by rw [← HSh.out.pow]; exact hi))
  clear hz
  have ht := gtrans_yes R C a b p g cg (can l) 1 (.inr rfl) HSh.out.r HSh.out.c HSh.out.ab (by rw [hcl]; exact HSh.out.n) (can_ws l) _ HX7.out.gd (HT0.out.below HX7.out.be)
  rw [HZ.out] at ht
  with_reducible refine ht.mono ?_
  clear ht
  rintro e w8 ⟨rfl, hg, hf⟩
  have HX8 := Aside0.mk (show Gt w w8 p g cg bs (R : Int) (C : Int) z from ⟨HX7.out.be.trans (hf.below (B := w.heap.size) HX7.out.be.size (by simpa using HP.out.2.1)), hg, HX7.out.sh.fr hf (by simpa using HP.out.2.2)⟩)
  clear hg hf HX7
  go_wp2_with fail
  refine start_ (n := 12) (S := fun w' => w'.cell? ⟨bs, 0, none⟩ = some (.int .i64 (R : Int)) ∧ w'.cell? ⟨bs, 1, none⟩ = some (.int .i64 (C : Int)) ∧ Aside0 (Gt w w' p g cg bs (R : Int) (C : Int) z)) (ds := []) #[false, false, false, false, false, false, false, false, false, false, false, false] (by kernel_rfl) rfl rfl ⟨HX8.out.drew.sh.cell 0, HX8.out.drew.sh.cell 1, ⟨HX8.out.drew⟩⟩ (fun hHeld => ?_)
  refine pure_ (i := 0) (N := some 80) (v := ?_) (a' := ?_) #[true, false, false, false, false, false, false, false, false, false, false, false] rfl rfl (by kernel_rfl) (fun _ _ _ h => h) (Or.inl ⟨by rfl, ?_⟩) ?_ ?_
  rotate_left
  · intro w'
    go_simp
    with_reducible rfl
  rotate_left
  · simp only [Act.put, List.setIfInBounds_toArray, List.set_cons_zero, List.set_cons_succ, i64_w, i32_w]
    rfl
  refine pure_ (i := 1) (N := some 81) (v := ?_) (a' := ?_) #[true, true, false, false, false, false, false, false, false, false, false, false] rfl rfl (by kernel_rfl) (fun _ _ _ h => h) (Or.inl ⟨by rfl, ?_⟩) ?_ ?_
  rotate_left
  · intro w'
    go_simp
    with_reducible rfl
  rotate_left
  · simp only [Act.put, List.setIfInBounds_toArray, List.set_cons_zero, List.set_cons_succ, i64_w, i32_w]
    rfl
  refine pure_ (i := 2) (N := some 82) (v := ?_) (a' := ?_) #[true, true, true, false, false, false, false, false, false, false, false, false] rfl rfl (by kernel_rfl) (fun _ _ _ h => h) (Or.inl ⟨by rfl, ?_⟩) ?_ ?_
  rotate_left
  · intro w'
    go_simp
    with_reducible rfl
  rotate_left
  · simp only [Act.put, List.setIfInBounds_toArray, List.set_cons_zero, List.set_cons_succ, i64_w, i32_w]
    rfl
  refine pure_ (i := 3) (N := some 83) (v := ?_) (a' := ?_) #[true, true, true, true, false, false, false, false, false, false, false, false] rfl rfl (by kernel_rfl) (fun _ _ _ h => h) (Or.inl ⟨by rfl, ?_⟩) ?_ ?_
  rotate_left
  · intro w'
    go_simp
    with_reducible rfl
  rotate_left
  · simp only [Act.put, List.setIfInBounds_toArray, List.set_cons_zero, List.set_cons_succ, i64_w, i32_w]
    rfl
  refine pure_ (i := 5) (N := some 85) (v := ?_) (a' := ?_) #[true, true, true, true, false, true, false, false, false, false, false, false] rfl rfl (by kernel_rfl) (fun _ _ _ h => h) (Or.inl ⟨by rfl, ?_⟩) ?_ ?_
  rotate_left
  · intro w'
    go_simp
    with_reducible rfl
  rotate_left
  · simp only [Act.put, List.setIfInBounds_toArray, List.set_cons_zero, List.set_cons_succ, i64_w, i32_w]
    rfl
  refine pure_ (i := 7) (N := some 87) (v := ?_) (a' := ?_) #[true, true, true, true, false, true, false, true, false, false, false, false] rfl rfl (by kernel_rfl) (fun _ _ _ h => h) (Or.inl ⟨by rfl, ?_⟩) ?_ ?_
  rotate_left
  · intro w'
    go_simp
    with_reducible rfl
  rotate_left
  · simp only [Act.put, List.setIfInBounds_toArray, List.set_cons_zero, List.set_cons_succ, i64_w, i32_w]
    rfl
  refine take_ (i := 6) (N := some 86) (v := ?_) (a' := ?_) #[true, true, true, true, false, true, true, true, false, false, false, false] rfl rfl (by kernel_rfl) (fun _ _ _ h => h) (Or.inl ⟨by rfl, ?_⟩) hHeld ?_ ?_
  rotate_left
  · rintro w' ⟨s0, s1, s2⟩
    go_simp
    with_reducible rfl
  rotate_left
  · simp only [Act.put, List.setIfInBounds_toArray, List.set_cons_zero, List.set_cons_succ, i64_w, i32_w]
    rfl
  refine one_ (i := 4) (N := some 84) #[true, true, true, true, true, true, true, true, false, false, false, false] rfl rfl (by kernel_rfl) (by decide) (fun K hK => ?_)
  have hcw := gwords p g cg (R : Int) (C : Int) z _ hHeld.2.2.out.gd (by rw [hzl]; exact hp) (by omega)
  rw [hzl] at hcw
  refine goes_ Tryd.func20 (by kernel_rfl) rfl #[.pointer (some ⟨p, 0, none⟩)] (by rfl) rfl rfl (by simp only [List.map_toArray, List.map_cons, List.map_nil]; rfl) ?_
  with_reducible refine (hcw).mono ?_
  rintro e w9 ⟨h, dh, rfl, hm, hb, hge⟩
  refine ⟨_, rfl, ?_⟩
  clear hcw
  have HX9 := Aside0.mk (hHeld.2.2.out.below hb)
  have HM9 := Aside0.mk (In.of_mr hm (by omega))
  clear hHeld hb hm hge
  refine hK.out _ _ ⟨HX9.out.sh.cell 0, HX9.out.sh.cell 1, HX9⟩ (fun hHeld => ?_)
  clear hK K
  refine norm_ (a' := ?_) ?_ ?_
  rotate_left
  · show Act.put _ (some 84) _ = _
    simp only [Act.put, List.setIfInBounds_toArray, List.set_cons_zero, List.set_cons_succ, i64_w, i32_w]
    rfl
  refine one_ (i := 8) (N := some 88) #[true, true, true, true, true, true, true, true, true, false, false, false] rfl rfl (by kernel_rfl) (by decide) (fun K hK => ?_)
  have hct := t32_calls HSh.out A c l 1 (.inr rfl) _ (HL0.out.below hHeld.2.2.out.be) HW.out rfl
  rw [← HZe.out] at hct
  refine goes_ Tryd.func23 (by kernel_rfl) rfl #[.slice A l.length c, .agg #[.int .i64 (R : Int), .int .i64 (C : Int)], .int .i64 1] (by rfl) rfl rfl (by simp only [List.map_toArray, List.map_cons, List.map_nil]; rfl) ?_
  with_reducible refine (hct).mono ?_
  rintro e w10 ⟨B10, d10, rfl, hI, hb⟩
  refine ⟨_, rfl, ?_⟩
  clear hct
  have HX10 := Aside0.mk (hHeld.2.2.out.below hb)
  have HM10 := Aside0.mk (HM9.out.below hb)
  have HC10 := Aside0.mk hI
  clear hHeld hb hI
  refine hK.out _ _ ⟨HX10.out.sh.cell 0, HX10.out.sh.cell 1, HX10⟩ (fun hHeld => ?_)
  clear hK K
  refine norm_ (a' := ?_) ?_ ?_
  rotate_left
  · show Act.put _ (some 88) _ = _
    simp only [Act.put, List.setIfInBounds_toArray, List.set_cons_zero, List.set_cons_succ, i64_w, i32_w]
    rfl
  refine one_ (i := 9) (N := some 89) #[true, true, true, true, true, true, true, true, true, true, false, false] rfl rfl (by kernel_rfl) (by decide) (fun K hK => ?_)
  refine goes_ Tryd.func19 (by kernel_rfl) rfl #[.slice (some ⟨h, 0, none⟩) l.length dh, .slice B10 l.length d10] (by rfl) rfl rfl (by simp only [List.map_toArray, List.map_cons, List.map_nil]; rfl) ?_
  with_reducible refine (same_n (some ⟨h, 0, none⟩) B10 dh d10 l.length z z _ HM10.out HC10.out (by omega) hzl rfl).mono ?_
  rintro e w11 ⟨rfl, hb⟩
  refine ⟨_, rfl, ?_⟩
  have HX11 := Aside0.mk (hHeld.2.2.out.below hb)
  clear hHeld hb
  refine hK.out _ _ ⟨HX11.out.sh.cell 0, HX11.out.sh.cell 1, HX11⟩ (fun hHeld => ?_)
  clear hK K
  refine norm_ (a' := ?_) ?_ ?_
  rotate_left
  · show Act.put _ (some 89) _ = _
    simp only [Act.put, List.setIfInBounds_toArray, List.set_cons_zero, List.set_cons_succ, i64_w, i32_w]
    rfl
  refine pure_ (i := 10) (N := some 90) (v := ?_) (a' := ?_) #[true, true, true, true, true, true, true, true, true, true, true, false] rfl rfl (by kernel_rfl) (fun _ _ _ h => h) (Or.inl ⟨by rfl, ?_⟩) ?_ ?_
  rotate_left
  · intro w'
    go_simp
    with_reducible rfl
  rotate_left
  · simp only [Act.put, List.setIfInBounds_toArray, List.set_cons_zero, List.set_cons_succ, i64_w, i32_w]
    rfl
  refine pure_ (i := 11) (N := some 91) (v := ?_) (a' := ?_) #[true, true, true, true, true, true, true, true, true, true, true, true] rfl rfl (by kernel_rfl) (fun _ _ _ h => h) (Or.inl ⟨by rfl, ?_⟩) ?_ ?_
  rotate_left
  · intro w'
    go_simp
    with_reducible rfl
  rotate_left
  · simp only [Act.put, List.setIfInBounds_toArray, List.set_cons_zero, List.set_cons_succ, i64_w, i32_w]
    rfl
  refine done_ (by kernel_rfl) ?_
  clear hHeld HX8 HX9 HX10 HM9 HM10 HC10
  go_wp2_with fail
  have ht := gtrans_yes R C a b p g cg z 0 (.inl rfl) HSh.out.r HSh.out.c HSh.out.ab (by rw [hzl]; exact HSh.out.n) HZw.out _ HX11.out.gd (HT0.out.below HX11.out.be)
  rw [HZ2.out] at ht
  with_reducible refine ht.mono ?_
  clear ht
  rintro e w12 ⟨rfl, hg, hf⟩
  have HX12 := Aside0.mk (show Gt w w12 p g cg bs (R : Int) (C : Int) (can l) from ⟨HX11.out.be.trans (hf.below (B := w.heap.size) HX11.out.be.size (by simpa using HP.out.2.1)), hg, HX11.out.sh.fr hf (by simpa using HP.out.2.2)⟩)
  clear hg hf HX11
  go_wp2_with fail
  have hcw := gwords p g cg (R : Int) (C : Int) (can l) _ HX12.out.gd (by rw [hcl]; exact hp) (by omega)
  rw [hcl] at hcw
  with_reducible refine hcw.mono ?_
  clear hcw
  rintro e wa ⟨h, dh, rfl, hm, hb, hge⟩
  have HXa := Aside0.mk (HX12.out.below hb)
  have HMa := Aside0.mk (In.of_mr hm (by omega))
  clear hb hm hge HX12
  go_wp2_with fail
  with_reducible refine (canon_calls A c l _ (HL0.out.below HXa.out.be) HW.out (by omega)).mono ?_
  rintro e wb ⟨B6, d6, rfl, hI, hb⟩
  have HXb := Aside0.mk (HXa.out.below hb)
  have HMb := Aside0.mk (HMa.out.below hb)
  have HCb := Aside0.mk hI
  clear hb hI HXa HMa
  go_wp2_with fail
  with_reducible refine (same_n (some ⟨h, 0, none⟩) B6 dh d6 l.length (can l) (can l) _ HMb.out HCb.out (by omega) hcl rfl).mono ?_
  rintro e wc ⟨rfl, hb⟩
  have HXc := Aside0.mk (HXb.out.below hb)
  clear hb HXb HMb HCb
  go_wp2
  go_ret
  exact ⟨rfl, HXc.out.be⟩
theorem tr_long (A : Option Addr) (c : Nat) (l : List Int) (R C d : Int) (w : World) (hL : 64 < l.length) (hT : TabOK w) :
    Calls Tryd.prog 3 #[.agg #[.int .i64 R, .int .i64 C], .slice A l.length c, .int .i64 d] w fun e w' => e = .returned (.bool true) ∧ Below w.heap.size w w' := by
  have HT0 := Aside0.mk hT
  have HB := Aside0.mk (below_alloc (Below.refl w.heap.size w) (Obj.cells #[.int .i64 R, .int .i64 C] 23))
  have d1 : decide ((64 : Int) < (l.length : Int)) = true := decide_eq_true (by omega)
  clear hT
  go_enter Tryd.func3, Tryd.ntmps3
  go_wp2_with fail
  with_reducible refine (gawake _ (HT0.out.below HB.out)).mono ?_
  rintro e w1 ⟨rfl, hb⟩
  have HB1 := Aside0.mk (below_then HB.out HB.out.size hb)
  clear hb HB
  go_wp2
  go_ret
  exact ⟨rfl, HB1.out⟩
theorem GridTransformsRow (a0_0 a0_1 : Int) (a1 : Option Addr) (len1 cap1 : Nat) (z1 : List Int) (a2 : Int) (w : World)
    (w1 : (a1 = none ∧ len1 = 0 ∧ cap1 = 0 ∧ z1 = []) ∨ ∃ x, a1 = some x ∧ len1 ≤ cap1 ∧ cap1 ≤ maxLen ∧ z1.length = cap1 ∧ (∀ i, i < z1.length → w.cell? (x.add i) = some (.int .u64 (z1.getD i 0))) ∧ ∀ n ∈ z1, (Lit.int .u64 n).wf = true) (hT : TabOK w) :
    Calls Tryd.prog 3 #[.agg #[.int .i64 a0_0, .int .i64 a0_1], .slice a1 len1 cap1, .int .i64 a2] w fun e w' => e = .returned (.bool true) ∧ Below w.heap.size w w' := by
  obtain ⟨l, rfl, hl, hW⟩ := In.of w1
  by_cases h1 : 64 < l.length
  · exact tr_long a1 cap1 l a0_0 a0_1 a2 w h1 hT
  by_cases hg : GoodS a0_0 a0_1
  · by_cases hs : a0_0 * a0_1 = (l.length : Int)
    · obtain ⟨a, b, hab, rfl, rfl⟩ := good_ints hg
      have hRC : 2 ^ a * 2 ^ b = l.length := by exact_mod_cast hs
      have hab2 : a + b ≤ 20 := by
        rcases Nat.lt_or_ge 20 (a + b) with h | h
        · have := pow_mono (show 21 ≤ a + b by omega)
          rw [← Nat.pow_add] at hRC
          have e : (2 : Nat) ^ 21 = 2097152 := by decide
          omega
        · exact h
      have hsh : Sh (2 ^ a) (2 ^ b) a b l.length := ⟨rfl, rfl, hab2, hRC⟩
      by_cases hd : a2 = 0 ∨ a2 = 1
      · rcases hd with rfl | rfl
        · exact tr_y0 a1 cap1 l (2 ^ a) (2 ^ b) a b w hl hW (by omega) hsh hT
        · exact tr_y1 a1 cap1 l (2 ^ a) (2 ^ b) a b w hl hW (by omega) hsh hT
      · exact tr_kind a1 cap1 l (2 ^ a) (2 ^ b) a b a2 w hl hW (by omega) hsh hd hT
    · exact tr_size a1 cap1 l a0_0 a0_1 a2 w hl (by omega) hg hs hT
  · exact tr_shape a1 cap1 l a0_0 a0_1 a2 w hl (by omega) hg hT
end Go.Proofs.YtpnkcjnemoompaaDoor.Grid
end
