import Derived.Test.YtpnkcjnemoompaaDoorGc0
import Derived.Shelf.Strings.Builder1
import Derived.Shelf.Strings.Builder2
import Derived.Shelf.Strings.OnBuilder
import Derived.Shelf.Strings.BuilderF
import Derived.Shelf.Strings.BuilderK
import Derived.Shelf.Strings.Builder2Cap
import Derived.Shelf.Strconv.Itoa0
import Derived.Shelf.Strconv.Itoa1
import Derived.Shelf.LaysM
import Derived.Shelf.Strconv.Itoa2
import Derived.Shelf.Strconv.Itoa3
import Derived.Shelf.Bits.Mul64
import Derived.Shelf.Strings.BuilderCap
import Derived.Ground.SlgnProg
import Derived.Shelf.SlicesE.Clone
import Derived.Ground.SlgfProg
import Derived.Shelf.SlicesE.IndexFunc
import Derived.Test.YtpnkcjnemoompaaDoorProg
import Derived.Below
import Derived.Deep.Draws
import Derived.Deep.AppendLies
import Derived.Maps.AppendAt
import Derived.OwnWalk
import Derived.Laws.BytesArg
import Derived.Laws.MakeOwn
import Derived.Laws.OwnMore
import Derived.Deep.OwnRows
import Derived.Tactics
import Derived.Lib.ConvBytes
import Derived.Laws.Slices
import Derived.WalkKit
import Derived.KernelRfl
import Derived.RowKit3
import Derived.Deep.LoopGhost
import Derived.Deep.QuietTactic
import Derived.BigQuiet
import Derived.WideLaws
import Derived.Deep.DeepCutAuto
import Derived.Deep.CutBlock
import Derived.Deep.RegionHeld3
import Derived.Laws.Rows
import Derived.Lib.AppendStr
import Derived.ArgAppend
import Derived.Laws.IdiomCopy
import Derived.OrdersHeld
import Derived.Laws.BitsLemmas
import Derived.RowKit
import Derived.Shelf.Spec.TrailingZeros
import Derived.Lib.LaidTab
import Derived.Lib.Hide
import Derived.Laws.StructEq
import Derived.Shelf.Spec.BitsCarry
import Derived.Laws.BitsAllLaws
import Derived.OpenShut
import Derived.Laws.CopyOwn
import Derived.StillTailTactics
import Derived.Outline
import Derived.RegionTactic
import Derived.ChangeAlike
import Derived.BigRegion
/-! Texts of this claim, joined: Shelf, PPlanx0, PFftx2, PFftx6, FftA, FftB, FldC, PFftx8, GrdA, FftC, GrdB, GrdC, GrdD, GrdE, GrdF, GrdH, GrdI, GrdJ, GrdK, GrdL. -/
section
namespace Go.Proofs.YtpnkcjnemoompaaDoor
open Go.Shelf
def Lay.laysSlE041_f71_ren : Go.Shelf.Ren := ⟨fun | 41 => 71 | n => n, fun | 22 => 24 | 23 => 45 | 4 => 4 | n => n, fun | n => n⟩
theorem Lay.laysSlE041_f71 : Go.Proofs.SlLaysE0.n41 Tryd.prog Lay.laysSlE041_f71_ren := {
  mixed := by kernel_rfl
  f41 := ⟨Tryd.f71.name, by decide, Tryd.func71.trans (congrArg some (by kernel_rfl))⟩
  t4 := Tryd.underlying4
  a4 := Tryd.isAgg4
  z4 := Tryd.sizeOf4
  v4 := Tryd.zeroValue4
  t22 := Tryd.underlying24
  a22 := Tryd.isAgg24
  z22 := Tryd.sizeOf24
  v22 := Tryd.zeroValue24 }
open Go.RowKit Go.Lib in
theorem Lay.slices_Clone (i0 : TypeInfo) (z : Value) (size bytes : Nat) (hi : Tryd.prog.info? 45 = some i0) (hz0 : i0.zero = some z) (hz1 : i0.size = size) (hz2 : i0.bytes = bytes) (hzs : z.cells.size = size) (hsz : 0 < size) (z23 : ∀ w, (Go.sizeOf 45).run Tryd.prog w = .ok size w) (b off n c : Nat) (news : List Value) (w : World) (hl : news.length = n * size) (hn : n ≤ maxLen) (hbig : n * bytes ≤ 140737488355328) (hc : ∀ j u, news[j]? = some u → w.cell? ⟨b, off + j, none⟩ = some u) (h1 : ∀ u ∈ news, u.oneCell' = true) :
    Calls Tryd.prog 71 #[.slice (some ⟨b, off, none⟩) n c] w fun e w' => ∃ v', e = .returned v' ∧ w'.ownsRow w.heap.size 45 size v' n news ∧ v' ≠ .slice none 0 0 ∧ Below w.heap.size w w' := AnyE.slices_Clone Lay.laysSlE041_f71 i0 z size bytes hi hz0 hz1 hz2 hzs hsz z23 b off n c news w hl hn hbig hc h1
end Go.Proofs.YtpnkcjnemoompaaDoor
end
section
namespace Go.Proofs.YtpnkcjnemoompaaDoor.PPlan
open Go.RowKit Go.Proofs.YtpnkcjnemoompaaDoor.Ext Go.Proofs.YtpnkcjnemoompaaDoorW.PrintWords Go.Proofs.YtpnkcjnemoompaaDoorW.PrintLast Go.Proofs.YtpnkcjnemoompaaDoorW.PrintMore
attribute [local go_sem] max2_int min2_int max_two min_two max_three min_three max_four min_four   -- for this text's walks alone
set_option linter.unusedVariables false
set_option linter.unusedSimpArgs false
def z23 : S23 := ⟨(0 : Int), (0 : Int)⟩
end Go.Proofs.YtpnkcjnemoompaaDoor.PPlan
end
section
namespace Go.Proofs.YtpnkcjnemoompaaDoor.PFft
open Go.RowKit Go.Proofs.YtpnkcjnemoompaaDoor.Ext Go.Proofs.YtpnkcjnemoompaaDoor.PPlan Go.Proofs.YtpnkcjnemoompaaDoorW.PrintWords Go.Proofs.YtpnkcjnemoompaaDoorW.PrintLast Go.Proofs.YtpnkcjnemoompaaDoorW.PrintMore
attribute [local go_sem] max2_int min2_int max_two min_two max_three min_three max_four min_four   -- for this text's walks alone
set_option linter.unusedVariables false
set_option linter.unusedSimpArgs false
def twid_Scale.l0 : Nat → Int → List Int → List Int → Int → Int → Option (List Int)
  | 0, _, _, _, _, _ => none
  | k + 1, x1, x5, x11, x12, x13 => if x13 < x12 then (if 0 ≤ x13 then (if x13 < (x11.length : Int) then ((gold_Mul.f (rd x11 x13) x1).bind fun t141 => (if x13 < (x5.length : Int) then (twid_Scale.l0 k x1 (x5.set (x13 : Int).toNat t141) x11 x12 (wrap64 (x13 + 1))) else (none))) else (none)) else (none)) else (some x5)
def twid_Scale.f (k : Nat) (l0 : List Int) (a1 : Int) : Option (List Int) := if 0 ≤ (l0.length : Int) then (if ((l0.length : Int) : Int).toNat ≤ 35184372088832 then (twid_Scale.l0 k a1 (List.replicate ((l0.length : Int) : Int).toNat 0) l0 (l0.length : Int) 0) else (none)) else (none)
set_option maxHeartbeats 8000000 in
set_option maxRecDepth 100000 in
theorem twid_Scale.calls (k : Nat) (A0 : Option Addr) (c0 : Nat) (l0 : List Int) (a1 : Int) (r : List Int) (w : World) (hr0 : Kd.C (Kd.int .u64) w A0 l0.length l0) (hc0 : l0.length ≤ c0) (h : twid_Scale.f k l0 a1 = some r) :
    Calls Tryd.prog 70 #[.slice A0 l0.length c0, .int .u64 a1] w fun e w' => ∃ v0_ : Value, e = .returned (v0_) ∧ Kd.R (Kd.int .u64) 45 w' w.heap.size (fun _ => True) v0_ r ∧ Below w.heap.size w w' := by
  have HR0 := Aside0.mk hr0
  have HC0 := Aside0.mk hc0
  clear hr0 hc0
  have HB := Aside0.mk (Below.refl w.heap.size w)
  have H : (if 0 ≤ (l0.length : Int) then (if ((l0.length : Int) : Int).toNat ≤ 35184372088832 then (twid_Scale.l0 k a1 (List.replicate ((l0.length : Int) : Int).toNat 0) l0 (l0.length : Int) 0) else (none)) else (none)) = some r := h
  clear h
  by_cases c3 : 0 ≤ (l0.length : Int)
  · rw [if_pos c3] at H
    have c3b0 := eq_true c3
    have c3b1 : decide (0 ≤ (l0.length : Int)) = true := decide_eq_true c3
    clear c3
    by_cases c4 : ((l0.length : Int) : Int).toNat ≤ 35184372088832
    · rw [if_pos c4] at H
      have c4b0 := eq_true c4
      have c4b1 : decide (((l0.length : Int) : Int).toNat ≤ 35184372088832) = true := decide_eq_true c4
      clear c4
      obtain ⟨y137, hy137⟩ : ∃ y_ : List Int, y_ = (List.replicate ((l0.length : Int) : Int).toNat 0) := ⟨_, rfl⟩
      replace H : (twid_Scale.l0 k a1 y137 l0 (l0.length : Int) 0) = some r := by first | (rw [hy137]; with_reducible exact H) | (have H2_ := (Option.bind_some _ _).symm.trans H; rw [hy137]; with_reducible exact H2_) | (have H2_ := (Option.bind_some _ _).symm.trans H; with_reducible exact H2_) | with_reducible exact H | (rw [hy137]; exact H) | exact H
      have Ny137 := Aside0.mk hy137
      clear hy137
      have H' := Aside0.mk H
      clear H
      go_enter Tryd.func70, Tryd.ntmps70
      go_wp2_with (first | ((with_reducible refine gate_dst (N := 10) rfl ?_); refine Kd.R_make (Kd.int .u64) _ 45 rfl (N := 10) rfl 24 _ _ rfl (l0.length : Int) rfl rfl Tryd.underlying24 (.int .u64 0) 8 info45 rfl (by decide) (by omega) 0 (ok := fun _ => True) (okp := fun _ => True) rfl (fun _ hk => hk) trivial (of_decide_eq_true (by first | (with_reducible assumption) | assumption)) (Nat.le_trans (Nat.mul_le_mul_right _ (of_decide_eq_true (by first | (with_reducible assumption) | assumption) : (l0.length : Int).toNat ≤ 35184372088832)) (by omega)) (Below.refl _ _) (Nat.le_refl _) ?_; intro v138 w5 ho6 hb hg_ hnew_; clear hg_ hnew_; (first | rw [← Ny137.out] at ho6 | (simp only [Int.reduceToNat] at ho6; rw [← Ny137.out] at ho6)); have n0_ := Aside0.mk (Kd.R_lower ho6 (below_size (by repeat (first | (with_reducible first | exact HB.out | apply below_alloc | apply pw_below_drewN | apply below_drew1) | exact HB.out)))); have n1_ := Aside0.mk (below_step (by repeat (first | (with_reducible first | exact HB.out | apply below_alloc | apply pw_below_drewN | apply below_drew1) | exact HB.out)) hb); clear HB; have HO139 := n0_; have HB := n1_; clear n0_ n1_; clear hb ho6))
      go_loopg [13] k (fun kq v13 w' => ∃ (x5_1 : List Int) (x13_1 : Int), v13 = .int .i64 x13_1 ∧ Aside0 (twid_Scale.l0 kq a1 x5_1 l0 (l0.length : Int) x13_1 = some r) ∧ Aside0 (kq ≤ k) ∧ Aside0 (Kd.R (Kd.int .u64) 45 w' w.heap.size (fun _ => True) v138 x5_1) ∧ Aside0 (Below w.heap.size w w'))
      case atStart => exact ⟨(y137), (0), (by first | rfl | (simp; done) | (simp [*]; done)), H', ⟨Nat.le_refl _⟩, ⟨by (with_reducible repeat (first | apply Kd.R_alloc | apply Kd.R_drewN | apply Kd.R_drew)); exact HO139.out⟩, ⟨by repeat (first | (with_reducible first | exact HB.out | apply below_alloc | apply pw_below_drewN | apply below_drew1) | exact HB.out)⟩⟩
      case round =>
        clear H'
        try clear p2
        try clear c3
        try clear c3b0
        try clear c3b1
        try clear c4
        try clear c4b0
        try clear c4b1
        obtain ⟨x5_1, x13_1, rfl, HA, HK1, HO_5, HB⟩ := hrel
        cases gk with
        | zero => exact absurd HA.out (by simp [twid_Scale.l0])
        | succ k1 =>
          have H := HA.out
          clear HA
          simp only [twid_Scale.l0] at H
          by_cases c7 : x13_1 < (l0.length : Int)
          · rw [if_pos c7] at H
            have c7b0 : decide (x13_1 < (l0.length : Int)) = true := decide_eq_true c7
            clear c7
            by_cases c8 : 0 ≤ x13_1
            · rw [if_pos c8] at H
              have c8b0 : decide (0 ≤ x13_1) = true := decide_eq_true c8
              clear c8
              by_cases c9 : x13_1 < (l0.length : Int)
              · rw [if_pos c9] at H
                have c9b0 : decide (x13_1 < (l0.length : Int)) = true := decide_eq_true c9
                clear c9
                replace H := Option.bind_eq_some_iff.mp H
                obtain ⟨t141, A100, H⟩ := H
                replace H : (if x13_1 < (x5_1.length : Int) then (twid_Scale.l0 k1 a1 (x5_1.set (x13_1 : Int).toNat t141) l0 (l0.length : Int) (wrap64 (x13_1 + 1))) else (none)) = some r := H
                have A10 := Aside0.mk A100
                clear A100
                by_cases c11 : x13_1 < (x5_1.length : Int)
                · rw [if_pos c11] at H
                  have c11b0 : decide (x13_1 < (x5_1.length : Int)) = true := decide_eq_true c11
                  clear c11
                  obtain ⟨y142, hy142⟩ : ∃ y_ : List Int, y_ = (x5_1.set (x13_1 : Int).toNat t141) := ⟨_, rfl⟩
                  replace H : (twid_Scale.l0 k1 a1 y142 l0 (l0.length : Int) (wrap64 (x13_1 + 1))) = some r := by first | (rw [hy142]; with_reducible exact H) | (have H2_ := (Option.bind_some _ _).symm.trans H; rw [hy142]; with_reducible exact H2_) | (have H2_ := (Option.bind_some _ _).symm.trans H; with_reducible exact H2_) | with_reducible exact H | (rw [hy142]; exact H) | exact H
                  have Ny142 := Aside0.mk hy142
                  clear hy142
                  have H' := Aside0.mk H
                  clear H
                  have p140 : 0 ≤ (x13_1 : Int) := of_decide_eq_true (by first | (with_reducible assumption) | assumption)
                  have q140 : x13_1 < (l0.length : Int) := of_decide_eq_true (by first | (with_reducible assumption) | assumption)
                  obtain ⟨ad140, e140, hx140_0⟩ := Kd.at_int HR0.out x13_1 p140 q140
                  cases e140
                  replace hx140_0 := (HB.out.cell (World.block_lt_of_cell? w _ hx140_0)).trans hx140_0
                  replace p140 := eq_true p140
                  replace q140 := eq_true q140
                  go_wp2_with (first | ((with_reducible refine gate_callee (f := 77) rfl ?_); refine goesL_ (some 22) rfl rfl Tryd.func77 (by kernel_rfl) rfl #[.int .u64 (rd l0 x13_1), .int .u64 a1] rfl (by (try simp only [List.map_toArray, List.map_cons, List.map_nil]); first | done | rfl | (simp only [List.length_drop, List.length_take]; rfl)) ?_; (with_reducible refine (gold_Mul.calls (rd l0 x13_1) a1 t141 _ A10.out).mono ?_); rintro e w13 ⟨rfl, hb⟩; refine ⟨_, rfl, ?_⟩; have n0_ := Aside0.mk (Kd.R_below (by (with_reducible repeat (first | apply Kd.R_alloc | apply Kd.R_drewN | apply Kd.R_drew)); exact HO_5.out) hb); have n1_ := Aside0.mk (below_step (by repeat (first | (with_reducible first | exact HB.out | apply below_alloc | apply pw_below_drewN | apply below_drew1) | exact HB.out)) hb); clear HO_5; clear HB; have HO_5 := n0_; have HB := n1_; clear n0_ n1_; (try clear hb); (try clear hb2); (try clear hk); (try clear hi); have p12 : 0 ≤ (x13_1 : Int) := of_decide_eq_true (by first | (with_reducible assumption) | assumption); have q12 : (x13_1 : Int) < ((x5_1.length : Int) : Int) := of_decide_eq_true (by first | (with_reducible assumption) | assumption); obtain ⟨go12, co12, eo12, gb12, gl12, cl12, HG12⟩ := Kd.R_form HO_5.out (by omega); (first | cases eo12 | (injection eo12 with ea_ en_ ec_; (first | subst ea_ | (injection ea_ with ea_; subst ea_)); subst ec_; clear en_)); have GB12 := Aside0.mk gb12; have GG12 := Aside0.mk HG12; clear gb12 gl12 HG12; obtain ⟨hx12_0, hf12_0⟩ := Kd.R_celln 0 HO_5.out (x13_1 : Int) p12 q12; replace p12 := eq_true p12; replace q12 := eq_true q12; obtain ⟨hy14_, hz14_⟩ := Kd.R_celln 0 HO_5.out (x13_1 : Int) (of_decide_eq_true (by first | (with_reducible assumption) | assumption)) (of_decide_eq_true (by first | (with_reducible assumption) | assumption)); have HP14 := Kd.R_putg HO_5.out (x13_1 : Int) t141) | ((with_reducible refine gate_store (t := 45) (p := 23) rfl ?_); refine store_event (t := 45) (p := 23) (v := ?vo_w15) (w1 := (w13.setCell ⟨go12, (x13_1 : Int).toNat, none⟩ (.int .u64 t141))) ?hg ?ho ?hn ?hr ?_; (case ho => rfl); (case hg => rfl); (case hn => rfl); (case hr => first | (go_simp; done) | (go_simp; rfl)); intro w15 hw; have hg : w13.grownBy w15 (some go12) := (by rw [hw]; exact HP14.2); have hp_ : Kd.R (Kd.int .u64) 45 w15 w.heap.size (fun _ => True) (.slice (some ⟨go12, 0, none⟩) x5_1.length co12) y142 := (by rw [hw, Ny142.out]; exact HP14.1); clear HP14; have n0_ := Aside0.mk (hp_); have n1_ := Aside0.mk ((by rw [hw]; exact below_set (HB.out) GB12.out : Below w.heap.size w w15)); clear HO_5; clear HB; have HO_5 := n0_; have HB := n1_; clear n0_ n1_; clear hg hw hp_))
                  go_roundg k1
                  case measure => have := HK1.out; omega
                  case rel => exact ⟨(y142), (wrap64 (x13_1 + 1)), (by first | rfl | (simp; done) | (simp [*]; done)), H', ⟨by have := HK1.out; omega⟩, ⟨by (with_reducible repeat (first | apply Kd.R_alloc | apply Kd.R_drewN | apply Kd.R_drew)); exact HO_5.out⟩, ⟨by repeat (first | (with_reducible first | exact HB.out | apply below_alloc | apply pw_below_drewN | apply below_drew1) | exact HB.out)⟩⟩
                · rw [if_neg c11] at H
                  exact absurd H (by simp)
              · rw [if_neg c9] at H
                exact absurd H (by simp)
            · rw [if_neg c8] at H
              exact absurd H (by simp)
          · rw [if_neg c7] at H
            have c7b0 : decide (x13_1 < (l0.length : Int)) = false := decide_eq_false c7
            clear c7
            obtain rfl := Option.some.inj H
            go_wp2
            go_ret
            exact ⟨_, by first | rfl | (simp [errW_none, errW_some] <;> rfl) | (simp [*, errW_none, errW_some] <;> rfl), by (with_reducible repeat (first | apply Kd.R_alloc | apply Kd.R_drewN | apply Kd.R_drew)); exact HO_5.out, by repeat (first | (with_reducible first | exact HB.out | apply below_alloc | apply pw_below_drewN | apply below_drew1) | exact HB.out)⟩
    · rw [if_neg c4] at H
      exact absurd H (by simp)
  · rw [if_neg c3] at H
    exact absurd H (by simp)
end Go.Proofs.YtpnkcjnemoompaaDoor.PFft
end
section
namespace Go.Proofs.YtpnkcjnemoompaaDoor.PFft
open Go.RowKit Go.Proofs.YtpnkcjnemoompaaDoor.Ext Go.Proofs.YtpnkcjnemoompaaDoor.PPlan Go.Proofs.YtpnkcjnemoompaaDoorW.PrintWords Go.Proofs.YtpnkcjnemoompaaDoorW.PrintLast Go.Proofs.YtpnkcjnemoompaaDoorW.PrintMore
attribute [local go_sem] max2_int min2_int max_two min_two max_three min_three max_four min_four   -- for this text's walks alone
set_option linter.unusedVariables false
set_option linter.unusedSimpArgs false
def abacistref08_Canon.f (k : Nat) (l0 : List Int) : Option (List Int) := (abacistref08_Scale.f k l0 1).bind fun t252 => (some t252)
set_option maxHeartbeats 8000000 in
set_option maxRecDepth 100000 in
theorem abacistref08_Canon.calls (k : Nat) (A0 : Option Addr) (c0 : Nat) (l0 : List Int) (r : List Int) (w : World) (hr0 : Kd.C (Kd.int .u64) w A0 l0.length l0) (hc0 : l0.length ≤ c0) (h : abacistref08_Canon.f k l0 = some r) :
    Calls Tryd.prog 21 #[.slice A0 l0.length c0] w fun e w' => ∃ v0_ : Value, e = .returned (v0_) ∧ Kd.R (Kd.int .u64) 45 w' w.heap.size (fun _ => True) v0_ r ∧ Below w.heap.size w w' := by
  have HR0 := Aside0.mk hr0
  have HC0 := Aside0.mk hc0
  clear hr0 hc0
  have HB := Aside0.mk (Below.refl w.heap.size w)
  have H : ((abacistref08_Scale.f k l0 1).bind fun t252 => (some t252)) = some r := h
  clear h
  replace H := Option.bind_eq_some_iff.mp H
  obtain ⟨t252, A20, H⟩ := H
  replace H : (some t252) = some r := H
  have A2 := Aside0.mk A20
  clear A20
  obtain rfl := Option.some.inj H
  go_enter Tryd.func21, Tryd.ntmps21
  go_wp2_with (first | ((with_reducible refine gate_callee (f := 54) rfl ?_); refine goesL_ (some 4) rfl rfl Tryd.func54 (by kernel_rfl) rfl #[.slice A0 l0.length c0, .int .u64 1] rfl (by (try simp only [List.map_toArray, List.map_cons, List.map_nil]); first | done | rfl | (simp only [List.length_drop, List.length_take]; rfl)) ?_; (with_reducible refine (abacistref08_Scale.calls k _ _ l0 1 t252 _ ?side1 ?side2 A2.out).mono ?_); (case side1 => repeat (first | exact HR0.out | (with_reducible refine Kd.C_alloc ?_ _) | (with_reducible refine Kd.C_drewN ?_ _) | (with_reducible refine Kd.C_drew ?_))); (case side2 => exact HC0.out); rintro e w3 ⟨v253, rfl, ho0, hb⟩; refine ⟨_, rfl, ?_⟩; have n0_ := Aside0.mk (Kd.R_lower ho0 (below_size (by repeat (first | (with_reducible first | exact HB.out | apply below_alloc | apply pw_below_drewN | apply below_drew1) | exact HB.out)))); have n1_ := Aside0.mk (below_step (by repeat (first | (with_reducible first | exact HB.out | apply below_alloc | apply pw_below_drewN | apply below_drew1) | exact HB.out)) hb); clear HB; have HO254 := n0_; have HB := n1_; clear n0_ n1_; (try clear hb); (try clear hb2); (try clear hk); (try clear hi); (try clear ho0)))
  go_ret
  exact ⟨_, by first | rfl | (simp [errW_none, errW_some] <;> rfl) | (simp [*, errW_none, errW_some] <;> rfl), by (with_reducible repeat (first | apply Kd.R_alloc | apply Kd.R_drewN | apply Kd.R_drew)); exact HO254.out, by repeat (first | (with_reducible first | exact HB.out | apply below_alloc | apply pw_below_drewN | apply below_drew1) | exact HB.out)⟩
end Go.Proofs.YtpnkcjnemoompaaDoor.PFft
end
section
namespace Go.Proofs.YtpnkcjnemoompaaDoor.Fft
set_option linter.unusedVariables false
set_option linter.unusedSimpArgs false
theorem sm_mull (n : Nat) (f : Nat → F) (c : F) : sm n (fun i => c * f i) = c * sm n f := by
  induction n with
  | zero => rw [sm_zero, sm_zero]; grobner
  | succ n ih => rw [sm_succ, sm_succ, ih]; grobner
theorem sm_pick (n k : Nat) (hk : k < n) (f : Nat → F) (h : ∀ i, i < n → i ≠ k → f i = 0) : sm n f = f k := by
  induction n with
  | zero => omega
  | succ n ih =>
    rw [sm_succ]
    by_cases e : k = n
    · subst e
      rw [sm_congr (g := fun _ => 0) (fun i hi => h i (by omega) (by omega)), sm_none]; grobner
    · rw [ih (by omega) (fun i hi hne => h i (by omega) hne), h n (by omega) (fun e2 => e e2.symm)]; grobner
theorem pw_mod {w : F} {n : Nat} (h : pw w n = 1) (a : Nat) : pw w (a % n) = pw w a := by
  conv => rhs; rw [← Nat.div_add_mod a n, Nat.mul_comm, pw_red h]
end Go.Proofs.YtpnkcjnemoompaaDoor.Fft
end
section
namespace Go.Proofs.YtpnkcjnemoompaaDoor.Fft
set_option linter.unusedVariables false
set_option linter.unusedSimpArgs false
theorem sum_pows (k : Nat) : ∀ (w : F), (0 < k → pw w (2 ^ (k - 1)) = -1) → ∀ j, sm (2 ^ k) (fun i => pw w (i * j)) = if j % 2 ^ k = 0 then pw 2 k else 0 := by
  induction k with
  | zero =>
    intro w _ j
    rw [Nat.pow_zero, sm_one, Nat.zero_mul, pw_zero, if_pos (Nat.mod_one j), pw_zero]
  | succ k ih =>
    intro w hw j
    have hw' := hw (by omega)
    rw [Nat.add_sub_cancel] at hw'
    have e : ∀ i, pw w ((2 ^ k + i) * j) = pw w (i * j) * pw w (2 ^ k * j) := by
      intro i; rw [Nat.add_mul, Nat.add_comm, pw_add]
    rw [Nat.pow_succ, Nat.mul_comm, Nat.two_mul, sm_plus, sm_congr (f := fun i => pw w ((2 ^ k + i) * j)) (fun i _ => e i), sm_mulr, pw_mul, hw']
    rcases Nat.mod_two_eq_zero_or_one j with hj | hj
    · obtain ⟨m, rfl⟩ : ∃ m, j = 2 * m := ⟨j / 2, by omega⟩
      have e1 : pw (-1) (2 * m) = 1 := by rw [pw_mul, pw_two, show (-1 : F) * -1 = 1 by grobner, one_pw]
      have e2 := ih (pw w 2) (fun hk => by rw [← pw_mul, ← hw']; congr 1; rw [← Nat.pow_succ']; congr 1; omega) m
      rw [sm_congr (g := fun i => pw (pw w 2) (i * m)) (fun i _ => by rw [← pw_mul]; congr 1; simp only [Nat.mul_left_comm]), e2, e1]
      have e3 : 2 * m % (2 ^ k + 2 ^ k) = 2 * (m % 2 ^ k) := by rw [← Nat.two_mul, Nat.mul_mod_mul_left]
      by_cases hm : m % 2 ^ k = 0
      · rw [if_pos hm, if_pos (by omega), pw_succ]; grobner
      · rw [if_neg hm, if_neg (by omega)]; grobner
    · have e1 : pw (-1) j = -1 := by
        obtain ⟨m, rfl⟩ : ∃ m, j = 2 * m + 1 := ⟨j / 2, by omega⟩
        rw [pw_succ, pw_mul, pw_two, show (-1 : F) * -1 = 1 by grobner, one_pw]; grobner
      rw [e1, if_neg ?_]
      · grobner
      · rw [← Nat.two_mul]
        intro h
        have := Nat.mod_mul_right_mod j 2 (2 ^ k)
        omega
theorem dft_back (k : Nat) (w v : F) (hv : v * w = 1) (hw : 0 < k → pw w (2 ^ (k - 1)) = -1) (hfull : pw w (2 ^ k) = 1) (f : Nat → F) (j : Nat) (hj : j < 2 ^ k) : dft (2 ^ k) v (dft (2 ^ k) w f) j = f j * pw 2 k := by
  have hvp : ∀ n, pw v n = pw w (n * (2 ^ k - 1)) := by
    intro n
    have hp := Nat.two_pow_pos k
    have h1 : pw v n * pw w n = 1 := by rw [← mul_pw, hv, one_pw]
    have h2 : pw w (n * (2 ^ k - 1)) * pw w n = 1 := by
      rw [← pw_add, show n * (2 ^ k - 1) + n = n * 2 ^ k by rw [Nat.mul_sub, Nat.mul_one]; have : n ≤ n * 2 ^ k := Nat.le_mul_of_pos_right _ hp; omega, pw_mul', hfull, one_pw]
    generalize pw v n = a at *
    generalize pw w n = b at *
    generalize pw w (n * (2 ^ k - 1)) = c at *
    grobner
  have hp := Nat.two_pow_pos k
  unfold dft
  rw [sm_congr (g := fun i => sm (2 ^ k) (fun m => f m * pw w (i * (m + j * (2 ^ k - 1))))) (fun i _ => by
    rw [← sm_mulr]
    refine sm_congr fun m _ => ?_
    rw [hvp, Nat.mul_add, pw_add, show i * j * (2 ^ k - 1) = i * (j * (2 ^ k - 1)) by rw [Nat.mul_assoc], Nat.mul_comm m i]
    grobner), sm_swap, sm_congr (g := fun m => f m * (if (m + j * (2 ^ k - 1)) % 2 ^ k = 0 then pw 2 k else 0)) (fun m _ => by rw [sm_mull, sum_pows k w hw])]
  have hz : ∀ m, m < 2 ^ k → ((m + j * (2 ^ k - 1)) % 2 ^ k = 0 ↔ m = j) := by
    intro m hm
    have e : m + j * (2 ^ k - 1) + j = m + j * 2 ^ k := by rw [Nat.mul_sub, Nat.mul_one]; have : j ≤ j * 2 ^ k := Nat.le_mul_of_pos_right _ hp; omega
    have e2 : (m + j * (2 ^ k - 1) + j) % 2 ^ k = m := by rw [e, Nat.add_mul_mod_self_right, Nat.mod_eq_of_lt hm]
    rw [Nat.add_mod, Nat.mod_eq_of_lt hj] at e2
    constructor
    · intro h
      rw [h, Nat.zero_add, Nat.mod_eq_of_lt hj] at e2
      omega
    · intro h
      have hlt := Nat.mod_lt (m + j * (2 ^ k - 1)) hp
      generalize (m + j * (2 ^ k - 1)) % 2 ^ k = x at *
      by_cases hx : x + j < 2 ^ k
      · rw [Nat.mod_eq_of_lt hx] at e2; omega
      · rw [Nat.mod_eq_sub_mod (by omega), Nat.mod_eq_of_lt (by omega)] at e2; omega
  rw [sm_pick (2 ^ k) j hj _ (fun m hm hne => by rw [if_neg (fun h => hne ((hz m hm).1 h))]; grobner), if_pos ((hz j hj).2 rfl)]
end Go.Proofs.YtpnkcjnemoompaaDoor.Fft
end
section
set_option linter.unusedVariables false
set_option linter.unusedSimpArgs false
namespace Go.Proofs.YtpnkcjnemoompaaDoor.Fft
open Go.RowKit Go.Proofs.YtpnkcjnemoompaaDoor Go.Proofs.YtpnkcjnemoompaaDoor.Pure Go.Proofs.YtpnkcjnemoompaaDoor.PPlan Go.Proofs.YtpnkcjnemoompaaDoor.PFft Go.Proofs.YtpnkcjnemoompaaDoor.Ext Go.Proofs.YtpnkcjnemoompaaDoorW.PrintWords Go.Proofs.YtpnkcjnemoompaaDoorW.PrintLast Go.Proofs.YtpnkcjnemoompaaDoorW.PrintMore
theorem rCanon (l : List Int) (hl : Ws l) (hlen : l.length ≤ 1048576) : Ev (fun k => abacistref08_Canon.f k l) (tb l.length (el l)) := by
  unfold abacistref08_Canon.f
  have := rScale l hl 1 (by decide) hlen
  rw [tb_congr (g := el l) (fun i _ => by rw [fo_one]; grobner)] at this
  exact Ev.bind this (Ev.now _)
theorem gScale_l0 (l : List Int) (hl : Ws l) (a : Int) (ha : W64 a) (hlen : l.length ≤ 1048576) (m : Nat) : ∀ j, j + m = l.length → Ev (fun k => twid_Scale.l0 k a (fl l.length j fun i => el l i * fo a) l (l.length : Int) (j : Int)) (tb l.length fun i => el l i * fo a) := by
  induction m with
  | zero =>
    intro j hj
    obtain rfl : j = l.length := by omega
    rw [fl_full]
    refine Ev.step (f := fun _ => some _) (fun k => ?_) (Ev.now _)
    simp only [twid_Scale.l0]
    rw [if_neg (by omega)]
  | succ m ih =>
    intro j hj
    refine Ev.step (f := fun k => twid_Scale.l0 k a (fl l.length (j + 1) fun i => el l i * fo a) l (l.length : Int) ((j + 1 : Nat) : Int)) (fun k => ?_) (ih (j + 1) (by omega))
    simp only [twid_Scale.l0]
    rw [if_pos (by omega), if_pos (by omega), if_pos (by omega), rdn, gMul _ _ (hl j) ha, Option.bind_some, if_pos (by rw [fl_len _ (by omega)]; omega), Int.toNat_natCast, fl_set (fun i => el l i * fo a) (show j < l.length by omega) (fv (fo (l.getD j 0) * fo a)) rfl, wsucc j (by omega)]
theorem gScale (l : List Int) (hl : Ws l) (a : Int) (ha : W64 a) (hlen : l.length ≤ 1048576) : Ev (fun k => twid_Scale.f k l a) (tb l.length fun i => el l i * fo a) := by
  unfold twid_Scale.f
  refine Ev_if (by omega) (Ev_if (by rw [Int.toNat_natCast]; omega) ?_)
  rw [Int.toNat_natCast, ← fl_zero l.length (fun i => el l i * fo a)]
  exact gScale_l0 l hl a ha hlen l.length 0 (by omega)
end Go.Proofs.YtpnkcjnemoompaaDoor.Fft
end
section
namespace Go.Proofs.YtpnkcjnemoompaaDoor.PFft
open Go.RowKit Go.Proofs.YtpnkcjnemoompaaDoor.Ext Go.Proofs.YtpnkcjnemoompaaDoor.PPlan Go.Proofs.YtpnkcjnemoompaaDoorW.PrintWords Go.Proofs.YtpnkcjnemoompaaDoorW.PrintLast Go.Proofs.YtpnkcjnemoompaaDoorW.PrintMore
attribute [local go_sem] max2_int min2_int max_two min_two max_three min_three max_four min_four   -- for this text's walks alone
set_option linter.unusedVariables false
set_option linter.unusedSimpArgs false
mutual
def abacistref32_Convolve.l0 : Nat → List Int → List Int → List Int → Int → Int → Int → Option (List Int)
  | 0, _, _, _, _, _, _ => none
  | k + 1, x0, x1, x7, x8, x289000, x289001 => if x8 < (x0.length : Int) then (abacistref32_Convolve.l1 k x0 x1 x7 x8 0 x289000 x289001) else (some x7)
def abacistref32_Convolve.l1 : Nat → List Int → List Int → List Int → Int → Int → Int → Int → Option (List Int)
  | 0, _, _, _, _, _, _, _ => none
  | k + 1, x0, x1, x7, x8, x9, x289000, x289001 => if x9 < (x1.length : Int) then (if x289001 = 0 then (none) else (if x289000 = 0 then (none) else (if 0 ≤ (wrap64 ((wrap64 ((Int.tmod (wrap64 ((wrap64 (Int.tdiv x8 x289001)) + (wrap64 (Int.tdiv x9 x289001)))) x289000) * x289001)) + (Int.tmod (wrap64 ((Int.tmod x8 x289001) + (Int.tmod x9 x289001))) x289001))) then (if (wrap64 ((wrap64 ((Int.tmod (wrap64 ((wrap64 (Int.tdiv x8 x289001)) + (wrap64 (Int.tdiv x9 x289001)))) x289000) * x289001)) + (Int.tmod (wrap64 ((Int.tmod x8 x289001) + (Int.tmod x9 x289001))) x289001))) < (x7.length : Int) then (if 0 ≤ x8 then (if x8 < (x0.length : Int) then (if 0 ≤ x9 then ((abacistref02_Mul.f k (rd x0 x8) (rd x1 x9)).bind fun t295 => ((abacistref02_Add.f (rd x7 (wrap64 ((wrap64 ((Int.tmod (wrap64 ((wrap64 (Int.tdiv x8 x289001)) + (wrap64 (Int.tdiv x9 x289001)))) x289000) * x289001)) + (Int.tmod (wrap64 ((Int.tmod x8 x289001) + (Int.tmod x9 x289001))) x289001)))) t295).bind fun t296 => (abacistref32_Convolve.l1 k x0 x1 (x7.set ((wrap64 ((wrap64 ((Int.tmod (wrap64 ((wrap64 (Int.tdiv x8 x289001)) + (wrap64 (Int.tdiv x9 x289001)))) x289000) * x289001)) + (Int.tmod (wrap64 ((Int.tmod x8 x289001) + (Int.tmod x9 x289001))) x289001))) : Int).toNat t296) x8 (wrap64 (x9 + 1)) x289000 x289001))) else (none)) else (none)) else (none)) else (none)) else (none)))) else (abacistref32_Convolve.l0 k x0 x1 x7 (wrap64 (x8 + 1)) x289000 x289001)
end
def abacistref32_Convolve.f (k : Nat) (l0 : List Int) (l1 : List Int) (a2_0 : Int) (a2_1 : Int) : Option (List Int) := if 0 ≤ (l0.length : Int) then (if ((l0.length : Int) : Int).toNat ≤ 35184372088832 then (abacistref32_Convolve.l0 k l0 l1 (List.replicate ((l0.length : Int) : Int).toNat 0) 0 a2_0 a2_1) else (none)) else (none)
def abacistref32_Convolve.T8 : Bool × List (List Nat × List Nat) := (true, [([], []), ([], []), ([1], [1]), ([0, 2], [0, 2]), ([], []), ([], []), ([5], [5]), ([4, 6], [4, 6]), ([3, 7], [3, 7]), ([], []), ([9], [9]), ([8, 10], [8, 10]), ([], []), ([12], [12]), ([11, 13], [11, 13]), ([], []), ([], []), ([16], [16]), ([15, 17], [15, 17]), ([], []), ([], []), ([20], [20]), ([19, 21], [19, 21]), ([18, 22], [18, 22]), ([], []), ([24], [24]), ([23, 25], [23, 25]), ([14, 26], [14, 26]), ([27, 0, 1, 2, 3, 4, 5, 6, 7, 8, 9, 10, 11, 12, 13, 14, 15, 16, 17, 18, 19, 20, 21, 22, 23, 24, 25, 26, 27], [27])])
def abacistref32_Convolve.B8 : List Nat := [0, 0, 2, 7, 0, 0, 32, 112, 255, 0, 512, 2047, 0, 4096, 16383, 0, 0, 65536, 229376, 0, 0, 1048576, 3670016, 8355840, 0, 16777216, 67076096, 134217727, 268435455]
theorem abacistref32_Convolve.tab8 : rtab .any (opsOf Tryd.f27 8) = abacistref32_Convolve.T8 := by kernel_rfl
theorem abacistref32_Convolve.bits8 : waitsOk abacistref32_Convolve.T8.2 abacistref32_Convolve.B8 = true := by kernel_rfl
def abacistref32_Convolve.T9 : Bool × List (List Nat × List Nat) := (true, [([], []), ([], []), ([], []), ([], []), ([2, 3], [2, 3]), ([4], [4]), ([], []), ([], []), ([6, 7], [6, 7]), ([8], [8]), ([], []), ([], []), ([10, 11], [10, 11]), ([12], [12]), ([9, 13], [9, 13]), ([5, 14, 14], [5, 14]), ([0, 1, 0, 1, 2, 3, 4, 5, 6, 7, 8, 9, 10, 11, 12, 13, 14, 15], [0, 1]), ([16, 15, 15, 0, 1, 2, 3, 4, 5, 6, 7, 8, 9, 10, 11, 12, 13, 14, 15], [15, 16])])
def abacistref32_Convolve.B9 : List Nat := [0, 0, 0, 0, 12, 28, 0, 0, 192, 448, 0, 0, 3072, 7168, 16320, 32764, 65535, 131071]
theorem abacistref32_Convolve.tab9 : rtab .any (opsOf Tryd.f27 9) = abacistref32_Convolve.T9 := by kernel_rfl
theorem abacistref32_Convolve.bits9 : waitsOk abacistref32_Convolve.T9.2 abacistref32_Convolve.B9 = true := by kernel_rfl
set_option maxHeartbeats 8000000 in
set_option maxRecDepth 100000 in
theorem abacistref32_Convolve.calls (k : Nat) (A0 : Option Addr) (c0 : Nat) (l0 : List Int) (A1 : Option Addr) (c1 : Nat) (l1 : List Int) (a2_0 : Int) (a2_1 : Int) (r : List Int) (w : World) (hr0 : Kd.C (Kd.int .u64) w A0 l0.length l0) (hc0 : l0.length ≤ c0) (hr1 : Kd.C (Kd.int .u64) w A1 l1.length l1) (hc1 : l1.length ≤ c1) (h : abacistref32_Convolve.f k l0 l1 a2_0 a2_1 = some r) :
    Calls Tryd.prog 27 #[.slice A0 l0.length c0, .slice A1 l1.length c1, .agg #[.int .i64 a2_0, .int .i64 a2_1]] w fun e w' => ∃ v0_ : Value, e = .returned (v0_) ∧ Kd.R (Kd.int .u64) 45 w' w.heap.size (fun _ => True) v0_ r ∧ Below w.heap.size w w' := by
  have hu23 := Tryd.underlying23
  have HR0 := Aside0.mk hr0
  have HC0 := Aside0.mk hc0
  clear hr0 hc0
  have HR1 := Aside0.mk hr1
  have HC1 := Aside0.mk hc1
  clear hr1 hc1
  have HB := Aside0.mk (Below.refl w.heap.size w)
  have H : (if 0 ≤ (l0.length : Int) then (if ((l0.length : Int) : Int).toNat ≤ 35184372088832 then (abacistref32_Convolve.l0 k l0 l1 (List.replicate ((l0.length : Int) : Int).toNat 0) 0 a2_0 a2_1) else (none)) else (none)) = some r := h
  clear h
  by_cases c4 : 0 ≤ (l0.length : Int)
  · rw [if_pos c4] at H
    have c4b0 := eq_true c4
    have c4b1 : decide (0 ≤ (l0.length : Int)) = true := decide_eq_true c4
    clear c4
    by_cases c5 : ((l0.length : Int) : Int).toNat ≤ 35184372088832
    · rw [if_pos c5] at H
      have c5b0 := eq_true c5
      have c5b1 : decide (((l0.length : Int) : Int).toNat ≤ 35184372088832) = true := decide_eq_true c5
      clear c5
      obtain ⟨y289, hy289⟩ : ∃ y_ : List Int, y_ = (List.replicate ((l0.length : Int) : Int).toNat 0) := ⟨_, rfl⟩
      replace H : (abacistref32_Convolve.l0 k l0 l1 y289 0 a2_0 a2_1) = some r := by first | (rw [hy289]; with_reducible exact H) | (have H2_ := (Option.bind_some _ _).symm.trans H; rw [hy289]; with_reducible exact H2_) | (have H2_ := (Option.bind_some _ _).symm.trans H; with_reducible exact H2_) | with_reducible exact H | (rw [hy289]; exact H) | exact H
      have Ny289 := Aside0.mk hy289
      clear hy289
      have H' := Aside0.mk H
      clear H
      go_enter Tryd.func27, Tryd.ntmps27
      go_wp2_with (first | ((with_reducible refine gate_dst (N := 5) rfl ?_); refine box_event ?hg (N := 5) ?hd (cs := #[.int .i64 a2_0, .int .i64 a2_1]) (t := 23) ?hr ?_; (case hd => rfl); (case hg => rfl); (case hr => first | (go_simp; done) | (go_simp; rfl)); intro gb288 hg w6 hbox hb; have n0_ := Aside0.mk (below_step (by repeat (first | (with_reducible first | exact HB.out | apply below_alloc | apply pw_below_drewN | apply below_drew1) | exact HB.out)) hb); have n1_ := Aside0.mk (hbox); have n2_ := Aside0.mk ((by rw [hg]; exact (below_size (by repeat (first | (with_reducible first | exact HB.out | apply below_alloc | apply pw_below_drewN | apply below_drew1) | exact HB.out))) : w.heap.size ≤ gb288)); have n3_ := Aside0.mk ((by rw [hg]; exact (below_size (by repeat (first | (with_reducible first | exact HB.out | apply below_alloc | apply pw_below_drewN | apply below_drew1) | exact HB.out))) : w.heap.size ≤ gb288)); clear HB; have HB := n0_; have BK288 := n1_; have GW288 := n2_; have GE288 := n3_; clear n0_ n1_ n2_ n3_; clear hb hbox hg) | ((with_reducible refine gate_dst (N := 13) rfl ?_); refine Kd.R_make (Kd.int .u64) _ 45 rfl (N := 13) rfl 24 _ _ rfl (l0.length : Int) rfl rfl Tryd.underlying24 (.int .u64 0) 8 info45 rfl (by decide) (by omega) 0 (ok := fun _ => True) (okp := fun _ => True) rfl (fun _ hk => hk) trivial (of_decide_eq_true (by first | (with_reducible assumption) | assumption)) (Nat.le_trans (Nat.mul_le_mul_right _ (of_decide_eq_true (by first | (with_reducible assumption) | assumption) : (l0.length : Int).toNat ≤ 35184372088832)) (by omega)) (Below.refl _ _) (Nat.le_refl _) ?_; intro v290 w7 ho8 hb hg_ hnew_; clear hg_ hnew_; (first | rw [← Ny289.out] at ho8 | (simp only [Int.reduceToNat] at ho8; rw [← Ny289.out] at ho8)); have n0_ := Aside0.mk (Kd.R_lower ho8 (below_size (by repeat (first | (with_reducible first | exact HB.out | apply below_alloc | apply pw_below_drewN | apply below_drew1 | refine below_set ?_ GE288.out) | exact HB.out)))); have n1_ := Aside0.mk (blk_below (g := gb288) (o := .cells #[.int .i64 a2_0, .int .i64 a2_1] 23 (0, 0)) (by (with_reducible repeat (first | refine blk_drewN ?_ _ | refine blk_drew ?_ | refine blk_alloc ?_ _)); exact BK288.out) hb); have n2_ := Aside0.mk (below_step (by repeat (first | (with_reducible first | exact HB.out | apply below_alloc | apply pw_below_drewN | apply below_drew1 | refine below_set ?_ GE288.out) | exact HB.out)) hb); clear BK288; clear HB; have HO291 := n0_; have BK288 := n1_; have HB := n2_; clear n0_ n1_ n2_; clear hb ho8))
      go_loopg [8] k (fun kq v8 w' => ∃ (x7_1 : List Int) (x8_1 : Int), v8 = .int .i64 x8_1 ∧ Aside0 (abacistref32_Convolve.l0 kq l0 l1 x7_1 x8_1 a2_0 a2_1 = some r) ∧ Aside0 (kq ≤ k) ∧ Aside0 (Kd.R (Kd.int .u64) 45 w' w.heap.size (fun _ => True) v290 x7_1) ∧ Aside0 (w'.heap[gb288]? = some (.cells #[.int .i64 a2_0, .int .i64 a2_1] 23 (0, 0))) ∧ Aside0 (Below w.heap.size w w'))
      case atStart => exact ⟨(y289), (0), (by first | rfl | (simp; done) | (simp [*]; done)), H', ⟨Nat.le_refl _⟩, ⟨by (with_reducible repeat (first | apply Kd.R_alloc | apply Kd.R_drewN | apply Kd.R_drew)); exact HO291.out⟩, ⟨by (with_reducible repeat (first | refine blk_drewN ?_ _ | refine blk_drew ?_ | refine blk_alloc ?_ _)); exact BK288.out⟩, ⟨by repeat (first | (with_reducible first | exact HB.out | apply below_alloc | apply pw_below_drewN | apply below_drew1 | refine below_set ?_ GE288.out) | exact HB.out)⟩⟩
      case round =>
        clear H'
        try clear c1
        try clear c2
        try clear p2
        try clear c4
        try clear c4b0
        try clear c4b1
        try clear c5
        try clear c5b0
        try clear c5b1
        obtain ⟨x7_1, x8_1, rfl, HA, HK1, HO_7, BK288, HB⟩ := hrel
        cases gk with
        | zero => exact absurd HA.out (by simp [abacistref32_Convolve.l0])
        | succ k1 =>
          have H := HA.out
          clear HA
          simp only [abacistref32_Convolve.l0] at H
          by_cases c9 : x8_1 < (l0.length : Int)
          · rw [if_pos c9] at H
            have c9b0 : decide (x8_1 < (l0.length : Int)) = true := decide_eq_true c9
            clear c9
            have H' := Aside0.mk H
            clear H
            go_wp2
            go_loopg [9] k1 (fun kq v9 w' => ∃ (x7_2 : List Int) (x9_2 : Int), v9 = .int .i64 x9_2 ∧ Aside0 (abacistref32_Convolve.l1 kq l0 l1 x7_2 x8_1 x9_2 a2_0 a2_1 = some r) ∧ Aside0 (kq ≤ k1) ∧ Aside0 (Kd.R (Kd.int .u64) 45 w' w.heap.size (fun _ => True) v290 x7_2) ∧ Aside0 (w'.heap[gb288]? = some (.cells #[.int .i64 a2_0, .int .i64 a2_1] 23 (0, 0))) ∧ Aside0 (Below w.heap.size w w'))
            case atStart => exact ⟨(x7_1), (0), (by first | rfl | (simp; done) | (simp [*]; done)), H', ⟨Nat.le_refl _⟩, ⟨by (with_reducible repeat (first | apply Kd.R_alloc | apply Kd.R_drewN | apply Kd.R_drew)); exact HO_7.out⟩, ⟨by (with_reducible repeat (first | refine blk_drewN ?_ _ | refine blk_drew ?_ | refine blk_alloc ?_ _)); exact BK288.out⟩, ⟨by repeat (first | (with_reducible first | exact HB.out | apply below_alloc | apply pw_below_drewN | apply below_drew1 | refine below_set ?_ GE288.out) | exact HB.out)⟩⟩
            case round =>
              clear H'
              try clear c1
              try clear c2
              try clear p2
              try clear c4
              try clear c4b0
              try clear c4b1
              try clear c5
              try clear c5b0
              try clear c5b1
              try clear c9
              try clear c9b0
              try clear p2
              obtain ⟨x7_2, x9_2, rfl, HA, HK2, HO_7, BK288, HB⟩ := hrel
              cases gk with
              | zero => exact absurd HA.out (by simp [abacistref32_Convolve.l1])
              | succ k2 =>
                have H := HA.out
                clear HA
                simp only [abacistref32_Convolve.l1] at H
                by_cases c10 : x9_2 < (l1.length : Int)
                · rw [if_pos c10] at H
                  have c10b0 : decide (x9_2 < (l1.length : Int)) = true := decide_eq_true c10
                  clear c10
                  by_cases c11 : a2_1 = 0
                  · rw [if_pos c11] at H
                    exact absurd H (by simp)
                  · rw [if_neg c11] at H
                    have c11b0 : (a2_1 == 0) = false := beq_eq_false_iff_ne.mpr c11
                    have c11b1 : (a2_1 != 0) = true := bne_iff_ne.mpr c11
                    by_cases c12 : a2_0 = 0
                    · rw [if_pos c12] at H
                      exact absurd H (by simp)
                    · rw [if_neg c12] at H
                      have c12b0 : (a2_0 == 0) = false := beq_eq_false_iff_ne.mpr c12
                      have c12b1 : (a2_0 != 0) = true := bne_iff_ne.mpr c12
                      obtain ⟨ji13, hji13⟩ : ∃ j_ : Int, (wrap64 ((wrap64 ((Int.tmod (wrap64 ((wrap64 (Int.tdiv x8_1 a2_1)) + (wrap64 (Int.tdiv x9_2 a2_1)))) a2_0) * a2_1)) + (Int.tmod (wrap64 ((Int.tmod x8_1 a2_1) + (Int.tmod x9_2 a2_1))) a2_1))) = j_ := ⟨_, rfl⟩
                      replace H : (if 0 ≤ (ji13) then (if (ji13) < (x7_2.length : Int) then (if 0 ≤ x8_1 then (if x8_1 < (l0.length : Int) then (if 0 ≤ x9_2 then ((abacistref02_Mul.f k2 (rd l0 x8_1) (rd l1 x9_2)).bind fun t295 => ((abacistref02_Add.f (rd x7_2 (ji13)) t295).bind fun t296 => (abacistref32_Convolve.l1 k2 l0 l1 (x7_2.set ((ji13) : Int).toNat t296) x8_1 (wrap64 (x9_2 + 1)) a2_0 a2_1))) else (none)) else (none)) else (none)) else (none)) else (none)) = some r := by first | (rw [hji13] at H; exact H) | (simp only [hji13] at H ⊢; exact H)
                      have hji13w : (IntKind.i64.wrap ((wrap64 ((Int.tmod (wrap64 ((wrap64 (Int.tdiv x8_1 a2_1)) + (wrap64 (Int.tdiv x9_2 a2_1)))) a2_0) * a2_1)) + (Int.tmod (wrap64 ((Int.tmod x8_1 a2_1) + (Int.tmod x9_2 a2_1))) a2_1))) = ji13 := (i64_w _).trans hji13
                      by_cases c14 : 0 ≤ (ji13)
                      · rw [if_pos c14] at H
                        have c14b0 : decide (0 ≤ (ji13)) = true := decide_eq_true c14
                        clear c14
                        by_cases c15 : (ji13) < (x7_2.length : Int)
                        · rw [if_pos c15] at H
                          have c15b0 : decide ((ji13) < (x7_2.length : Int)) = true := decide_eq_true c15
                          clear c15
                          by_cases c16 : 0 ≤ x8_1
                          · rw [if_pos c16] at H
                            have c16b0 : decide (0 ≤ x8_1) = true := decide_eq_true c16
                            clear c16
                            by_cases c17 : x8_1 < (l0.length : Int)
                            · rw [if_pos c17] at H
                              have c17b0 : decide (x8_1 < (l0.length : Int)) = true := decide_eq_true c17
                              clear c17
                              by_cases c18 : 0 ≤ x9_2
                              · rw [if_pos c18] at H
                                have c18b0 : decide (0 ≤ x9_2) = true := decide_eq_true c18
                                clear c18
                                replace H := Option.bind_eq_some_iff.mp H
                                obtain ⟨t295, A190, H⟩ := H
                                replace H : ((abacistref02_Add.f (rd x7_2 (ji13)) t295).bind fun t296 => (abacistref32_Convolve.l1 k2 l0 l1 (x7_2.set ((ji13) : Int).toNat t296) x8_1 (wrap64 (x9_2 + 1)) a2_0 a2_1)) = some r := H
                                have A19 := Aside0.mk A190
                                clear A190
                                replace H := Option.bind_eq_some_iff.mp H
                                obtain ⟨t296, A200, H⟩ := H
                                replace H : (abacistref32_Convolve.l1 k2 l0 l1 (x7_2.set ((ji13) : Int).toNat t296) x8_1 (wrap64 (x9_2 + 1)) a2_0 a2_1) = some r := H
                                have A20 := Aside0.mk A200
                                clear A200
                                obtain ⟨y297, hy297⟩ : ∃ y_ : List Int, y_ = (x7_2.set ((ji13) : Int).toNat t296) := ⟨_, rfl⟩
                                replace H : (abacistref32_Convolve.l1 k2 l0 l1 y297 x8_1 (wrap64 (x9_2 + 1)) a2_0 a2_1) = some r := by first | (rw [hy297]; with_reducible exact H) | (have H2_ := (Option.bind_some _ _).symm.trans H; rw [hy297]; with_reducible exact H2_) | (have H2_ := (Option.bind_some _ _).symm.trans H; with_reducible exact H2_) | with_reducible exact H | (rw [hy297]; exact H) | exact H
                                have Ny297 := Aside0.mk hy297
                                clear hy297
                                have H' := Aside0.mk H
                                clear H
                                try go_wp2
                                have n0_ := Aside0.mk (Kd.R_drew HO_7.out)
                                have n1_ := Aside0.mk (blk_drew BK288.out)
                                have n2_ := Aside0.mk (below_drew1 HB.out)
                                clear HO_7
                                clear BK288
                                clear HB
                                have HO_7 := n0_
                                have BK288 := n1_
                                have HB := n2_
                                clear n0_ n1_ n2_
                                refine start_ (n := 29) (S := fun w' => w'.cell? ⟨gb288, 0, none⟩ = some (.int .i64 a2_0) ∧ w'.cell? ⟨gb288, 1, none⟩ = some (.int .i64 a2_1)) (ds := []) #[false, false, false, false, false, false, false, false, false, false, false, false, false, false, false, false, false, false, false, false, false, false, false, false, false, false, false, false, false] (by kernel_rfl) rfl rfl ⟨(blk_cell BK288.out 0).trans rfl, (blk_cell BK288.out 1).trans rfl⟩ (fun hHeld => ?_); refine with_tabW abacistref32_Convolve.tab8 abacistref32_Convolve.bits8 (fun HT_ HW_ => ?_)
                                generalize wr.drew = w22 at HO_7 BK288 HB hHeld ⊢
                                refine pure_ (i := 0) (N := some 26) (v := ?_) (a' := ?_) #[true, false, false, false, false, false, false, false, false, false, false, false, false, false, false, false, false, false, false, false, false, false, false, false, false, false, false, false, false] rfl rfl (any_of HT_.out (by kernel_rfl)) (fun _ _ _ h => h) (Or.inl ⟨by rfl, ?_⟩) ?_ ?_
                                rotate_left
                                · intro w'
                                  go_simp
                                  with_reducible rfl
                                rotate_left
                                · simp only [Act.put, List.setIfInBounds_toArray, List.set_cons_zero, List.set_cons_succ, i64_w, i32_w]
                                  rfl
                                refine pure_ (i := 1) (N := some 27) (v := ?_) (a' := ?_) #[true, true, false, false, false, false, false, false, false, false, false, false, false, false, false, false, false, false, false, false, false, false, false, false, false, false, false, false, false] rfl rfl (any_of HT_.out (by kernel_rfl)) (fun _ _ _ h => h) (Or.inl ⟨by rfl, ?_⟩) ?_ ?_
                                rotate_left
                                · intro w'
                                  go_simp
                                  with_reducible rfl
                                rotate_left
                                · simp only [Act.put, List.setIfInBounds_toArray, List.set_cons_zero, List.set_cons_succ, i64_w, i32_w]
                                  rfl
                                refine pure_ (i := 4) (N := some 30) (v := ?_) (a' := ?_) #[true, true, false, false, true, false, false, false, false, false, false, false, false, false, false, false, false, false, false, false, false, false, false, false, false, false, false, false, false] rfl rfl (any_of HT_.out (by kernel_rfl)) (fun _ _ _ h => h) (Or.inl ⟨by rfl, ?_⟩) ?_ ?_
                                rotate_left
                                · intro w'
                                  go_simp
                                  with_reducible rfl
                                rotate_left
                                · simp only [Act.put, List.setIfInBounds_toArray, List.set_cons_zero, List.set_cons_succ, i64_w, i32_w]
                                  rfl
                                refine pure_ (i := 5) (N := some 31) (v := ?_) (a' := ?_) #[true, true, false, false, true, true, false, false, false, false, false, false, false, false, false, false, false, false, false, false, false, false, false, false, false, false, false, false, false] rfl rfl (any_of HT_.out (by kernel_rfl)) (fun _ _ _ h => h) (Or.inl ⟨by rfl, ?_⟩) ?_ ?_
                                rotate_left
                                · intro w'
                                  go_simp
                                  with_reducible rfl
                                rotate_left
                                · simp only [Act.put, List.setIfInBounds_toArray, List.set_cons_zero, List.set_cons_succ, i64_w, i32_w]
                                  rfl
                                refine pure_ (i := 9) (N := some 35) (v := ?_) (a' := ?_) #[true, true, false, false, true, true, false, false, false, true, false, false, false, false, false, false, false, false, false, false, false, false, false, false, false, false, false, false, false] rfl rfl (any_of HT_.out (by kernel_rfl)) (fun _ _ _ h => h) (Or.inl ⟨by rfl, ?_⟩) ?_ ?_
                                rotate_left
                                · intro w'
                                  go_simp
                                  with_reducible rfl
                                rotate_left
                                · simp only [Act.put, List.setIfInBounds_toArray, List.set_cons_zero, List.set_cons_succ, i64_w, i32_w]
                                  rfl
                                refine pure_ (i := 12) (N := some 38) (v := ?_) (a' := ?_) #[true, true, false, false, true, true, false, false, false, true, false, false, true, false, false, false, false, false, false, false, false, false, false, false, false, false, false, false, false] rfl rfl (any_of HT_.out (by kernel_rfl)) (fun _ _ _ h => h) (Or.inl ⟨by rfl, ?_⟩) ?_ ?_
                                rotate_left
                                · intro w'
                                  go_simp
                                  with_reducible rfl
                                rotate_left
                                · simp only [Act.put, List.setIfInBounds_toArray, List.set_cons_zero, List.set_cons_succ, i64_w, i32_w]
                                  rfl
                                refine pure_ (i := 15) (N := some 41) (v := ?_) (a' := ?_) #[true, true, false, false, true, true, false, false, false, true, false, false, true, false, false, true, false, false, false, false, false, false, false, false, false, false, false, false, false] rfl rfl (any_of HT_.out (by kernel_rfl)) (fun _ _ _ h => h) (Or.inl ⟨by rfl, ?_⟩) ?_ ?_
                                rotate_left
                                · intro w'
                                  go_simp
                                  with_reducible rfl
                                rotate_left
                                · simp only [Act.put, List.setIfInBounds_toArray, List.set_cons_zero, List.set_cons_succ, i64_w, i32_w]
                                  rfl
                                refine pure_ (i := 16) (N := some 42) (v := ?_) (a' := ?_) #[true, true, false, false, true, true, false, false, false, true, false, false, true, false, false, true, true, false, false, false, false, false, false, false, false, false, false, false, false] rfl rfl (any_of HT_.out (by kernel_rfl)) (fun _ _ _ h => h) (Or.inl ⟨by rfl, ?_⟩) ?_ ?_
                                rotate_left
                                · intro w'
                                  go_simp
                                  with_reducible rfl
                                rotate_left
                                · simp only [Act.put, List.setIfInBounds_toArray, List.set_cons_zero, List.set_cons_succ, i64_w, i32_w]
                                  rfl
                                refine pure_ (i := 19) (N := some 45) (v := ?_) (a' := ?_) #[true, true, false, false, true, true, false, false, false, true, false, false, true, false, false, true, true, false, false, true, false, false, false, false, false, false, false, false, false] rfl rfl (any_of HT_.out (by kernel_rfl)) (fun _ _ _ h => h) (Or.inl ⟨by rfl, ?_⟩) ?_ ?_
                                rotate_left
                                · intro w'
                                  go_simp
                                  with_reducible rfl
                                rotate_left
                                · simp only [Act.put, List.setIfInBounds_toArray, List.set_cons_zero, List.set_cons_succ, i64_w, i32_w]
                                  rfl
                                refine pure_ (i := 20) (N := some 46) (v := ?_) (a' := ?_) #[true, true, false, false, true, true, false, false, false, true, false, false, true, false, false, true, true, false, false, true, true, false, false, false, false, false, false, false, false] rfl rfl (any_of HT_.out (by kernel_rfl)) (fun _ _ _ h => h) (Or.inl ⟨by rfl, ?_⟩) ?_ ?_
                                rotate_left
                                · intro w'
                                  go_simp
                                  with_reducible rfl
                                rotate_left
                                · simp only [Act.put, List.setIfInBounds_toArray, List.set_cons_zero, List.set_cons_succ, i64_w, i32_w]
                                  rfl
                                refine pure_ (i := 24) (N := some 50) (v := ?_) (a' := ?_) #[true, true, false, false, true, true, false, false, false, true, false, false, true, false, false, true, true, false, false, true, true, false, false, false, true, false, false, false, false] rfl rfl (any_of HT_.out (by kernel_rfl)) (fun _ _ _ h => h) (Or.inl ⟨by rfl, ?_⟩) ?_ ?_
                                rotate_left
                                · intro w'
                                  go_simp
                                  with_reducible rfl
                                rotate_left
                                · simp only [Act.put, List.setIfInBounds_toArray, List.set_cons_zero, List.set_cons_succ, i64_w, i32_w]
                                  rfl
                                refine take_ (i := 2) (N := some 28) (v := ?_) (a' := ?_) #[true, true, true, false, true, true, false, false, false, true, false, false, true, false, false, true, true, false, false, true, true, false, false, false, true, false, false, false, false] rfl rfl (take_ofW HT_.out HW_.out (by kernel_rfl)) (fun _ _ _ h => h) (Or.inl ⟨by rfl, ?_⟩) hHeld ?_ ?_
                                rotate_left
                                · rintro w' ⟨s0, s1⟩
                                  go_simp
                                  with_reducible rfl
                                rotate_left
                                · simp only [Act.put, List.setIfInBounds_toArray, List.set_cons_zero, List.set_cons_succ, i64_w, i32_w]
                                  rfl
                                refine pure_ (i := 3) (N := some 29) (v := ?_) (a' := ?_) #[true, true, true, true, true, true, false, false, false, true, false, false, true, false, false, true, true, false, false, true, true, false, false, false, true, false, false, false, false] rfl rfl (any_of HT_.out (by kernel_rfl)) (fun _ _ _ h => h) (Or.inl ⟨by rfl, ?_⟩) ?_ ?_
                                rotate_left
                                · intro w'
                                  go_simp
                                  with_reducible rfl
                                rotate_left
                                · simp only [Act.put, List.setIfInBounds_toArray, List.set_cons_zero, List.set_cons_succ, i64_w, i32_w]
                                  rfl
                                refine take_ (i := 6) (N := some 32) (v := ?_) (a' := ?_) #[true, true, true, true, true, true, true, false, false, true, false, false, true, false, false, true, true, false, false, true, true, false, false, false, true, false, false, false, false] rfl rfl (take_ofW HT_.out HW_.out (by kernel_rfl)) (fun _ _ _ h => h) (Or.inl ⟨by rfl, ?_⟩) hHeld ?_ ?_
                                rotate_left
                                · rintro w' ⟨s0, s1⟩
                                  go_simp
                                  with_reducible rfl
                                rotate_left
                                · simp only [Act.put, List.setIfInBounds_toArray, List.set_cons_zero, List.set_cons_succ, i64_w, i32_w]
                                  rfl
                                refine pure_ (i := 7) (N := some 33) (v := ?_) (a' := ?_) #[true, true, true, true, true, true, true, true, false, true, false, false, true, false, false, true, true, false, false, true, true, false, false, false, true, false, false, false, false] rfl rfl (any_of HT_.out (by kernel_rfl)) (fun _ _ _ h => h) (Or.inl ⟨by rfl, ?_⟩) ?_ ?_
                                rotate_left
                                · intro w'
                                  go_simp
                                  with_reducible rfl
                                rotate_left
                                · simp only [Act.put, List.setIfInBounds_toArray, List.set_cons_zero, List.set_cons_succ, i64_w, i32_w]
                                  rfl
                                refine pure_ (i := 8) (N := some 34) (v := ?_) (a' := ?_) #[true, true, true, true, true, true, true, true, true, true, false, false, true, false, false, true, true, false, false, true, true, false, false, false, true, false, false, false, false] rfl rfl (any_of HT_.out (by kernel_rfl)) (fun _ _ _ h => h) (Or.inl ⟨by rfl, ?_⟩) ?_ ?_
                                rotate_left
                                · intro w'
                                  go_simp
                                  with_reducible rfl
                                rotate_left
                                · simp only [Act.put, List.setIfInBounds_toArray, List.set_cons_zero, List.set_cons_succ, i64_w, i32_w]
                                  rfl
                                refine take_ (i := 10) (N := some 36) (v := ?_) (a' := ?_) #[true, true, true, true, true, true, true, true, true, true, true, false, true, false, false, true, true, false, false, true, true, false, false, false, true, false, false, false, false] rfl rfl (take_ofW HT_.out HW_.out (by kernel_rfl)) (fun _ _ _ h => h) (Or.inl ⟨by rfl, ?_⟩) hHeld ?_ ?_
                                rotate_left
                                · rintro w' ⟨s0, s1⟩
                                  go_simp
                                  with_reducible rfl
                                rotate_left
                                · simp only [Act.put, List.setIfInBounds_toArray, List.set_cons_zero, List.set_cons_succ, i64_w, i32_w]
                                  rfl
                                refine pure_ (i := 11) (N := some 37) (v := ?_) (a' := ?_) #[true, true, true, true, true, true, true, true, true, true, true, true, true, false, false, true, true, false, false, true, true, false, false, false, true, false, false, false, false] rfl rfl (any_of HT_.out (by kernel_rfl)) (fun _ _ _ h => h) (Or.inl ⟨by rfl, ?_⟩) ?_ ?_
                                rotate_left
                                · intro w'
                                  go_simp
                                  with_reducible rfl
                                rotate_left
                                · simp only [Act.put, List.setIfInBounds_toArray, List.set_cons_zero, List.set_cons_succ, i64_w, i32_w]
                                  rfl
                                refine take_ (i := 13) (N := some 39) (v := ?_) (a' := ?_) #[true, true, true, true, true, true, true, true, true, true, true, true, true, true, false, true, true, false, false, true, true, false, false, false, true, false, false, false, false] rfl rfl (take_ofW HT_.out HW_.out (by kernel_rfl)) (fun _ _ _ h => h) (Or.inl ⟨by rfl, ?_⟩) hHeld ?_ ?_
                                rotate_left
                                · rintro w' ⟨s0, s1⟩
                                  go_simp
                                  with_reducible rfl
                                rotate_left
                                · simp only [Act.put, List.setIfInBounds_toArray, List.set_cons_zero, List.set_cons_succ, i64_w, i32_w]
                                  rfl
                                refine pure_ (i := 14) (N := some 40) (v := ?_) (a' := ?_) #[true, true, true, true, true, true, true, true, true, true, true, true, true, true, true, true, true, false, false, true, true, false, false, false, true, false, false, false, false] rfl rfl (any_of HT_.out (by kernel_rfl)) (fun _ _ _ h => h) (Or.inl ⟨by rfl, ?_⟩) ?_ ?_
                                rotate_left
                                · intro w'
                                  go_simp
                                  with_reducible rfl
                                rotate_left
                                · simp only [Act.put, List.setIfInBounds_toArray, List.set_cons_zero, List.set_cons_succ, i64_w, i32_w]
                                  rfl
                                refine take_ (i := 17) (N := some 43) (v := ?_) (a' := ?_) #[true, true, true, true, true, true, true, true, true, true, true, true, true, true, true, true, true, true, false, true, true, false, false, false, true, false, false, false, false] rfl rfl (take_ofW HT_.out HW_.out (by kernel_rfl)) (fun _ _ _ h => h) (Or.inl ⟨by rfl, ?_⟩) hHeld ?_ ?_
                                rotate_left
                                · rintro w' ⟨s0, s1⟩
                                  go_simp
                                  with_reducible rfl
                                rotate_left
                                · simp only [Act.put, List.setIfInBounds_toArray, List.set_cons_zero, List.set_cons_succ, i64_w, i32_w]
                                  rfl
                                refine pure_ (i := 18) (N := some 44) (v := ?_) (a' := ?_) #[true, true, true, true, true, true, true, true, true, true, true, true, true, true, true, true, true, true, true, true, true, false, false, false, true, false, false, false, false] rfl rfl (any_of HT_.out (by kernel_rfl)) (fun _ _ _ h => h) (Or.inl ⟨by rfl, ?_⟩) ?_ ?_
                                rotate_left
                                · intro w'
                                  go_simp
                                  with_reducible rfl
                                rotate_left
                                · simp only [Act.put, List.setIfInBounds_toArray, List.set_cons_zero, List.set_cons_succ, i64_w, i32_w]
                                  rfl
                                refine take_ (i := 21) (N := some 47) (v := ?_) (a' := ?_) #[true, true, true, true, true, true, true, true, true, true, true, true, true, true, true, true, true, true, true, true, true, true, false, false, true, false, false, false, false] rfl rfl (take_ofW HT_.out HW_.out (by kernel_rfl)) (fun _ _ _ h => h) (Or.inl ⟨by rfl, ?_⟩) hHeld ?_ ?_
                                rotate_left
                                · rintro w' ⟨s0, s1⟩
                                  go_simp
                                  with_reducible rfl
                                rotate_left
                                · simp only [Act.put, List.setIfInBounds_toArray, List.set_cons_zero, List.set_cons_succ, i64_w, i32_w]
                                  rfl
                                refine pure_ (i := 22) (N := some 48) (v := ?_) (a' := ?_) #[true, true, true, true, true, true, true, true, true, true, true, true, true, true, true, true, true, true, true, true, true, true, true, false, true, false, false, false, false] rfl rfl (any_of HT_.out (by kernel_rfl)) (fun _ _ _ h => h) (Or.inl ⟨by rfl, ?_⟩) ?_ ?_
                                rotate_left
                                · intro w'
                                  go_simp
                                  with_reducible rfl
                                rotate_left
                                · simp only [Act.put, List.setIfInBounds_toArray, List.set_cons_zero, List.set_cons_succ, i64_w, i32_w]
                                  rfl
                                refine pure_ (i := 23) (N := some 49) (v := ?_) (a' := ?_) #[true, true, true, true, true, true, true, true, true, true, true, true, true, true, true, true, true, true, true, true, true, true, true, true, true, false, false, false, false] rfl rfl (any_of HT_.out (by kernel_rfl)) (fun _ _ _ h => h) (Or.inl ⟨by rfl, ?_⟩) ?_ ?_
                                rotate_left
                                · intro w'
                                  go_simp
                                  with_reducible rfl
                                rotate_left
                                · simp only [Act.put, List.setIfInBounds_toArray, List.set_cons_zero, List.set_cons_succ, i64_w, i32_w]
                                  rfl
                                refine take_ (i := 25) (N := some 51) (v := ?_) (a' := ?_) #[true, true, true, true, true, true, true, true, true, true, true, true, true, true, true, true, true, true, true, true, true, true, true, true, true, true, false, false, false] rfl rfl (take_ofW HT_.out HW_.out (by kernel_rfl)) (fun _ _ _ h => h) (Or.inl ⟨by rfl, ?_⟩) hHeld ?_ ?_
                                rotate_left
                                · rintro w' ⟨s0, s1⟩
                                  go_simp
                                  with_reducible rfl
                                rotate_left
                                · simp only [Act.put, List.setIfInBounds_toArray, List.set_cons_zero, List.set_cons_succ, i64_w, i32_w]
                                  rfl
                                refine pure_ (i := 26) (N := some 52) (v := ?_) (a' := ?_) #[true, true, true, true, true, true, true, true, true, true, true, true, true, true, true, true, true, true, true, true, true, true, true, true, true, true, true, false, false] rfl rfl (any_of HT_.out (by kernel_rfl)) (fun _ _ _ h => h) (Or.inl ⟨by rfl, ?_⟩) ?_ ?_
                                rotate_left
                                · intro w'
                                  go_simp
                                  with_reducible rfl
                                rotate_left
                                · simp only [Act.put, List.setIfInBounds_toArray, List.set_cons_zero, List.set_cons_succ, i64_w, i32_w]
                                  rfl
                                refine pure_ (i := 27) (N := some 53) (v := ?_) (a' := ?_) #[true, true, true, true, true, true, true, true, true, true, true, true, true, true, true, true, true, true, true, true, true, true, true, true, true, true, true, true, false] rfl rfl (any_of HT_.out (by kernel_rfl)) (fun _ _ _ h => h) (Or.inl ⟨by rfl, ?_⟩) ?_ ?_
                                rotate_left
                                · intro w'
                                  go_simp
                                  with_reducible rfl
                                rotate_left
                                · simp only [Act.put, List.setIfInBounds_toArray, List.set_cons_zero, List.set_cons_succ, i64_w, i32_w]
                                  rfl
                                refine pure_ (i := 28) (N := some 10) (v := ?_) (a' := ?_) #[true, true, true, true, true, true, true, true, true, true, true, true, true, true, true, true, true, true, true, true, true, true, true, true, true, true, true, true, true] rfl rfl (any_of HT_.out (by kernel_rfl)) (fun _ _ _ h => h) (Or.inl ⟨by rfl, ?_⟩) ?_ ?_
                                rotate_left
                                · intro w'
                                  go_simp
                                  with_reducible rfl
                                rotate_left
                                · simp only [Act.put, List.setIfInBounds_toArray, List.set_cons_zero, List.set_cons_succ, i64_w, i32_w]
                                  rfl
                                refine done_ (done_of HT_.out (by kernel_rfl)) ?_
                                try go_wp2
                                have n0_ := Aside0.mk (Kd.R_drew HO_7.out)
                                have n1_ := Aside0.mk (blk_drew BK288.out)
                                have n2_ := Aside0.mk (below_drew1 HB.out)
                                clear HO_7
                                clear BK288
                                clear HB
                                have HO_7 := n0_
                                have BK288 := n1_
                                have HB := n2_
                                clear n0_ n1_ n2_
                                obtain ⟨Ao24, co24, eo24⟩ := Kd.R_slice HO_7.out
                                (first | subst eo24 | (injection eo24 with f1_ f2_ f3_; have f4_ := f1_.symm; have f5_ := f3_.symm; clear f1_ f2_ f3_; subst f4_; subst f5_))
                                have p292 : 0 ≤ ((ji13) : Int) := of_decide_eq_true (by first | (with_reducible assumption) | assumption)
                                have q292 : (ji13) < (x7_2.length : Int) := of_decide_eq_true (by first | (with_reducible assumption) | assumption)
                                obtain ⟨ad292, e292, hx292_0⟩ := Kd.at_int (Kd.R_reads' HO_7.out).2.2 (ji13) p292 q292
                                cases e292
                                replace p292 := eq_true p292
                                replace q292 := eq_true q292
                                have p293 : 0 ≤ (x8_1 : Int) := of_decide_eq_true (by first | (with_reducible assumption) | assumption)
                                have q293 : x8_1 < (l0.length : Int) := of_decide_eq_true (by first | (with_reducible assumption) | assumption)
                                obtain ⟨ad293, e293, hx293_0⟩ := Kd.at_int HR0.out x8_1 p293 q293
                                have hw293_0 := hx293_0
                                cases e293
                                replace hx293_0 := (HB.out.cell (World.block_lt_of_cell? w _ hx293_0)).trans hx293_0
                                replace p293 := eq_true p293
                                replace q293 := eq_true q293
                                have p294 : 0 ≤ (x9_2 : Int) := of_decide_eq_true (by first | (with_reducible assumption) | assumption)
                                have q294 : x9_2 < (l1.length : Int) := of_decide_eq_true (by first | (with_reducible assumption) | assumption)
                                obtain ⟨ad294, e294, hx294_0⟩ := Kd.at_int HR1.out x9_2 p294 q294
                                have hw294_0 := hx294_0
                                cases e294
                                replace hx294_0 := (HB.out.cell (World.block_lt_of_cell? w _ hx294_0)).trans hx294_0
                                replace p294 := eq_true p294
                                replace q294 := eq_true q294
                                refine start_ (n := 18) (S := fun w' => w'.cell? (ad292.add ((ji13)).toNat) = some (.int .u64 (rd x7_2 (ji13))) ∧ w'.cell? (ad293.add (x8_1).toNat) = some (.int .u64 (rd l0 x8_1)) ∧ w'.cell? (ad294.add (x9_2).toNat) = some (.int .u64 (rd l1 x9_2))) (ds := [17]) #[false, false, false, false, false, false, false, false, false, false, false, false, false, false, false, false, false, false] (by kernel_rfl) rfl rfl ⟨hx292_0, ((HB.out.cell (World.block_lt_of_cell? w _ hw293_0)).trans hw293_0), ((HB.out.cell (World.block_lt_of_cell? w _ hw294_0)).trans hw294_0)⟩ (fun hHeld => ?_); refine with_tabW abacistref32_Convolve.tab9 abacistref32_Convolve.bits9 (fun HT_ HW_ => ?_)
                                generalize w22.drew = w23 at HO_7 BK288 HB hx292_0 hx293_0 hx294_0 hHeld ⊢
                                refine pure_ (i := 0) (N := some 54) (v := ?_) (a' := ?_) #[true, false, false, false, false, false, false, false, false, false, false, false, false, false, false, false, false, false] rfl rfl (any_of HT_.out (by kernel_rfl)) (fun _ _ _ h => h) (Or.inl ⟨by rfl, ?_⟩) ?_ ?_
                                rotate_left
                                · intro w'
                                  go_simp
                                  with_reducible rfl
                                rotate_left
                                · simp only [Act.put, List.setIfInBounds_toArray, List.set_cons_zero, List.set_cons_succ, i64_w, i32_w]
                                  rfl
                                refine pure_ (i := 1) (N := some 55) (v := ?_) (a' := ?_) #[true, true, false, false, false, false, false, false, false, false, false, false, false, false, false, false, false, false] rfl rfl (any_of HT_.out (by kernel_rfl)) (fun _ _ _ h => h) (Or.inl ⟨by rfl, ?_⟩) ?_ ?_
                                rotate_left
                                · intro w'
                                  go_simp
                                  with_reducible rfl
                                rotate_left
                                · simp only [Act.put, List.setIfInBounds_toArray, List.set_cons_zero, List.set_cons_succ, i64_w, i32_w]
                                  rfl
                                refine pure_ (i := 2) (N := some 56) (v := ?_) (a' := ?_) #[true, true, true, false, false, false, false, false, false, false, false, false, false, false, false, false, false, false] rfl rfl (any_of HT_.out (by kernel_rfl)) (fun _ _ _ h => h) (Or.inl ⟨by rfl, ?_⟩) ?_ ?_
                                rotate_left
                                · intro w'
                                  go_simp
                                  with_reducible rfl
                                rotate_left
                                · simp only [Act.put, List.setIfInBounds_toArray, List.set_cons_zero, List.set_cons_succ, i64_w, i32_w]
                                  rfl
                                refine pure_ (i := 3) (N := some 57) (v := ?_) (a' := ?_) #[true, true, true, true, false, false, false, false, false, false, false, false, false, false, false, false, false, false] rfl rfl (any_of HT_.out (by kernel_rfl)) (fun _ _ _ h => h) (Or.inl ⟨by rfl, ?_⟩) ?_ ?_
                                rotate_left
                                · intro w'
                                  go_simp
                                  with_reducible rfl
                                rotate_left
                                · simp only [Act.put, List.setIfInBounds_toArray, List.set_cons_zero, List.set_cons_succ, i64_w, i32_w]
                                  rfl
                                refine pure_ (i := 4) (N := some 58) (v := ?_) (a' := ?_) #[true, true, true, true, true, false, false, false, false, false, false, false, false, false, false, false, false, false] rfl rfl (any_of HT_.out (by kernel_rfl)) (fun _ _ _ h => h) (Or.inl ⟨by rfl, ?_⟩) ?_ ?_
                                rotate_left
                                · intro w'
                                  go_simp
                                  with_reducible rfl
                                rotate_left
                                · simp only [Act.put, List.setIfInBounds_toArray, List.set_cons_zero, List.set_cons_succ, i64_w, i32_w]
                                  rfl
                                refine pure_ (i := 6) (N := some 60) (v := ?_) (a' := ?_) #[true, true, true, true, true, false, true, false, false, false, false, false, false, false, false, false, false, false] rfl rfl (any_of HT_.out (by kernel_rfl)) (fun _ _ _ h => h) (Or.inl ⟨by rfl, ?_⟩) ?_ ?_
                                rotate_left
                                · intro w'
                                  go_simp
                                  with_reducible rfl
                                rotate_left
                                · simp only [Act.put, List.setIfInBounds_toArray, List.set_cons_zero, List.set_cons_succ, i64_w, i32_w]
                                  rfl
                                refine pure_ (i := 7) (N := some 61) (v := ?_) (a' := ?_) #[true, true, true, true, true, false, true, true, false, false, false, false, false, false, false, false, false, false] rfl rfl (any_of HT_.out (by kernel_rfl)) (fun _ _ _ h => h) (Or.inl ⟨by rfl, ?_⟩) ?_ ?_
                                rotate_left
                                · intro w'
                                  go_simp
                                  with_reducible rfl
                                rotate_left
                                · simp only [Act.put, List.setIfInBounds_toArray, List.set_cons_zero, List.set_cons_succ, i64_w, i32_w]
                                  rfl
                                refine pure_ (i := 8) (N := some 62) (v := ?_) (a' := ?_) #[true, true, true, true, true, false, true, true, true, false, false, false, false, false, false, false, false, false] rfl rfl (any_of HT_.out (by kernel_rfl)) (fun _ _ _ h => h) (Or.inl ⟨by rfl, ?_⟩) ?_ ?_
                                rotate_left
                                · intro w'
                                  go_simp
                                  with_reducible rfl
                                rotate_left
                                · simp only [Act.put, List.setIfInBounds_toArray, List.set_cons_zero, List.set_cons_succ, i64_w, i32_w]
                                  rfl
                                refine pure_ (i := 10) (N := some 64) (v := ?_) (a' := ?_) #[true, true, true, true, true, false, true, true, true, false, true, false, false, false, false, false, false, false] rfl rfl (any_of HT_.out (by kernel_rfl)) (fun _ _ _ h => h) (Or.inl ⟨by rfl, ?_⟩) ?_ ?_
                                rotate_left
                                · intro w'
                                  go_simp
                                  with_reducible rfl
                                rotate_left
                                · simp only [Act.put, List.setIfInBounds_toArray, List.set_cons_zero, List.set_cons_succ, i64_w, i32_w]
                                  rfl
                                refine pure_ (i := 11) (N := some 65) (v := ?_) (a' := ?_) #[true, true, true, true, true, false, true, true, true, false, true, true, false, false, false, false, false, false] rfl rfl (any_of HT_.out (by kernel_rfl)) (fun _ _ _ h => h) (Or.inl ⟨by rfl, ?_⟩) ?_ ?_
                                rotate_left
                                · intro w'
                                  go_simp
                                  with_reducible rfl
                                rotate_left
                                · simp only [Act.put, List.setIfInBounds_toArray, List.set_cons_zero, List.set_cons_succ, i64_w, i32_w]
                                  rfl
                                refine pure_ (i := 12) (N := some 66) (v := ?_) (a' := ?_) #[true, true, true, true, true, false, true, true, true, false, true, true, true, false, false, false, false, false] rfl rfl (any_of HT_.out (by kernel_rfl)) (fun _ _ _ h => h) (Or.inl ⟨by rfl, ?_⟩) ?_ ?_
                                rotate_left
                                · intro w'
                                  go_simp
                                  with_reducible rfl
                                rotate_left
                                · simp only [Act.put, List.setIfInBounds_toArray, List.set_cons_zero, List.set_cons_succ, i64_w, i32_w]
                                  rfl
                                refine take_ (i := 5) (N := some 59) (v := ?_) (a' := ?_) #[true, true, true, true, true, true, true, true, true, false, true, true, true, false, false, false, false, false] rfl rfl (take_ofW HT_.out HW_.out (by kernel_rfl)) (fun _ _ _ h => h) (Or.inl ⟨by rfl, ?_⟩) hHeld ?_ ?_
                                rotate_left
                                · rintro w' ⟨s0, s1, s2⟩
                                  go_simp
                                  with_reducible rfl
                                rotate_left
                                · simp only [Act.put, List.setIfInBounds_toArray, List.set_cons_zero, List.set_cons_succ, i64_w, i32_w]
                                  rfl
                                refine take_ (i := 9) (N := some 63) (v := ?_) (a' := ?_) #[true, true, true, true, true, true, true, true, true, true, true, true, true, false, false, false, false, false] rfl rfl (take_ofW HT_.out HW_.out (by kernel_rfl)) (fun _ _ _ h => h) (Or.inl ⟨by rfl, ?_⟩) hHeld ?_ ?_
                                rotate_left
                                · rintro w' ⟨s0, s1, s2⟩
                                  go_simp
                                  with_reducible rfl
                                rotate_left
                                · simp only [Act.put, List.setIfInBounds_toArray, List.set_cons_zero, List.set_cons_succ, i64_w, i32_w]
                                  rfl
                                refine take_ (i := 13) (N := some 67) (v := ?_) (a' := ?_) #[true, true, true, true, true, true, true, true, true, true, true, true, true, true, false, false, false, false] rfl rfl (take_ofW HT_.out HW_.out (by kernel_rfl)) (fun _ _ _ h => h) (Or.inl ⟨by rfl, ?_⟩) hHeld ?_ ?_
                                rotate_left
                                · rintro w' ⟨s0, s1, s2⟩
                                  go_simp
                                  with_reducible rfl
                                rotate_left
                                · simp only [Act.put, List.setIfInBounds_toArray, List.set_cons_zero, List.set_cons_succ, i64_w, i32_w]
                                  rfl
                                refine one_ (i := 14) (N := some 68) #[true, true, true, true, true, true, true, true, true, true, true, true, true, true, true, false, false, false] rfl rfl (one_of HT_.out (by kernel_rfl)) (by decide) (fun K hK => ?_)
                                refine goes_ Tryd.func28 (by kernel_rfl) rfl #[.int .u64 (rd l0 x8_1), .int .u64 (rd l1 x9_2)] (by rfl) rfl rfl (by (try simp only [List.map_toArray, List.map_cons, List.map_nil]); first | done | rfl | (simp only [List.length_drop, List.length_take]; rfl)) ?_
                                with_reducible refine (abacistref02_Mul.calls k2 (rd l0 x8_1) (rd l1 x9_2) t295 _ A19.out).mono ?_
                                rintro e w' ⟨rfl, ⟨nd, rfl⟩⟩
                                refine ⟨_, rfl, ?_⟩
                                refine hK.out _ _ ⟨hHeld.1, ((HB.out.cell (World.block_lt_of_cell? w _ hw293_0)).trans hw293_0), ((HB.out.cell (World.block_lt_of_cell? w _ hw294_0)).trans hw294_0)⟩ (fun hHeld => ?_)
                                clear hK K
                                refine norm_ (a' := ?_) ?_ ?_
                                rotate_left
                                · show Act.put _ (some 68) _ = _
                                  simp only [Act.put, List.setIfInBounds_toArray, List.set_cons_zero, List.set_cons_succ, i64_w, i32_w]
                                  rfl
                                refine one_ (i := 15) (N := some 69) #[true, true, true, true, true, true, true, true, true, true, true, true, true, true, true, true, false, false] rfl rfl (one_of HT_.out (by kernel_rfl)) (by decide) (fun K hK => ?_)
                                refine goes_ Tryd.func66 (by kernel_rfl) rfl #[.int .u64 (rd x7_2 (ji13)), .int .u64 t295] (by rfl) rfl rfl (by (try simp only [List.map_toArray, List.map_cons, List.map_nil]); first | done | (simp only [hji13]; rfl) | rfl | (simp only [List.length_drop, List.length_take]; rfl)) ?_
                                with_reducible refine (abacistref02_Add.calls (rd x7_2 (ji13)) t295 t296 _ A20.out).mono ?_
                                rintro e w' ⟨rfl, ⟨nd, rfl⟩⟩
                                refine ⟨_, rfl, ?_⟩
                                have p21 : 0 ≤ ((ji13) : Int) := of_decide_eq_true (by first | (with_reducible assumption) | assumption)
                                have q21 : ((ji13) : Int) < ((x7_2.length : Int) : Int) := of_decide_eq_true (by first | (with_reducible assumption) | assumption)
                                obtain ⟨go21, co21, eo21, gb21, gl21, cl21, HG21⟩ := Kd.R_form HO_7.out (by omega)
                                (first | cases eo21 | (injection eo21 with ea_ en_ ec_; (first | subst ea_ | (injection ea_ with ea_; subst ea_)); subst ec_; clear en_))
                                have GB21 := Aside0.mk gb21
                                have GG21 := Aside0.mk HG21
                                clear gb21 gl21 HG21
                                (first | simp only [add_plain] at hx292_0 | skip)
                                obtain ⟨hx21_0, hf21_0⟩ := Kd.R_celln 0 HO_7.out ((ji13) : Int) p21 q21
                                replace p21 := eq_true p21
                                replace q21 := eq_true q21
                                have HP25 := Kd.R_putn HO_7.out ((ji13) : Int) t296
                                rw [← Ny297.out] at HP25
                                have HQ25 := Aside0.mk HP25
                                clear HP25
                                refine hK.out _ _ ⟨hHeld.1, ((HB.out.cell (World.block_lt_of_cell? w _ hw293_0)).trans hw293_0), ((HB.out.cell (World.block_lt_of_cell? w _ hw294_0)).trans hw294_0)⟩ (fun hHeld => ?_)
                                clear hK K
                                refine norm_ (a' := ?_) ?_ ?_
                                rotate_left
                                · show Act.put _ (some 69) _ = _
                                  simp only [Act.put, List.setIfInBounds_toArray, List.set_cons_zero, List.set_cons_succ, i64_w, i32_w]
                                  rfl
                                refine pure_ (i := 16) (N := some 70) (v := ?_) (a' := ?_) #[true, true, true, true, true, true, true, true, true, true, true, true, true, true, true, true, true, false] rfl rfl (any_of HT_.out (by kernel_rfl)) (fun _ _ _ h => h) (Or.inl ⟨by rfl, ?_⟩) ?_ ?_
                                rotate_left
                                · intro w'
                                  go_simp
                                  with_reducible rfl
                                rotate_left
                                · simp only [Act.put, List.setIfInBounds_toArray, List.set_cons_zero, List.set_cons_succ, i64_w, i32_w]
                                  rfl
                                refine last_ (i := 17) (N := none) #[true, true, true, true, true, true, true, true, true, true, true, true, true, true, true, true, true, true] rfl rfl (one_of HT_.out (by kernel_rfl)) (by decide) (fun K hK => ?_)
                                refine skip_ (w1 := ?_) (by rfl) rfl ?_ ?_
                                rotate_left
                                · go_simp
                                  rfl
                                refine hK.out _ _ ?_
                                clear hK K
                                refine done_ (done_of HT_.out (by kernel_rfl)) ?_
                                try go_wp2
                                go_roundg k2
                                case measure => have := HK1.out; have := HK2.out; omega
                                case rel => exact ⟨(y297), (wrap64 (x9_2 + 1)), (by first | rfl | (simp; done) | (simp [*]; done)), H', ⟨by have := HK1.out; have := HK2.out; omega⟩, ⟨by (with_reducible repeat (first | apply Kd.R_alloc | apply Kd.R_drewN | apply Kd.R_drew)); exact HQ25.out⟩, ⟨by (with_reducible repeat (first | refine blk_drewN ?_ _ | refine blk_drew ?_ | refine blk_alloc ?_ _)); refine blk_far ?_ (by have h_ := Kd.R_ne HO_7.out BK288.out (by decide); intro e_; exact h_ (by rw [e_]; rfl)) _; (with_reducible repeat (first | refine blk_drewN ?_ _ | refine blk_drew ?_ | refine blk_alloc ?_ _)); exact BK288.out⟩, ⟨by repeat (first | (with_reducible first | exact HB.out | apply below_alloc | apply pw_below_drewN | apply below_drew1 | refine below_set ?_ GB21.out | refine below_set ?_ GE288.out) | exact HB.out)⟩⟩
                              · rw [if_neg c18] at H
                                exact absurd H (by simp)
                            · rw [if_neg c17] at H
                              exact absurd H (by simp)
                          · rw [if_neg c16] at H
                            exact absurd H (by simp)
                        · rw [if_neg c15] at H
                          exact absurd H (by simp)
                      · rw [if_neg c14] at H
                        exact absurd H (by simp)
                · rw [if_neg c10] at H
                  have c10b0 : decide (x9_2 < (l1.length : Int)) = false := decide_eq_false c10
                  clear c10
                  have H' := Aside0.mk H
                  clear H
                  go_wp2
                  go_roundg k2
                  case measure => have := HK1.out; have := HK2.out; omega
                  case rel => exact ⟨(x7_2), (wrap64 (x8_1 + 1)), (by first | rfl | (simp; done) | (simp [*]; done)), H', ⟨by have := HK1.out; have := HK2.out; omega⟩, ⟨by (with_reducible repeat (first | apply Kd.R_alloc | apply Kd.R_drewN | apply Kd.R_drew)); exact HO_7.out⟩, ⟨by (with_reducible repeat (first | refine blk_drewN ?_ _ | refine blk_drew ?_ | refine blk_alloc ?_ _)); exact BK288.out⟩, ⟨by repeat (first | (with_reducible first | exact HB.out | apply below_alloc | apply pw_below_drewN | apply below_drew1 | refine below_set ?_ GE288.out) | exact HB.out)⟩⟩
          · rw [if_neg c9] at H
            have c9b0 : decide (x8_1 < (l0.length : Int)) = false := decide_eq_false c9
            clear c9
            obtain rfl := Option.some.inj H
            go_wp2
            go_ret
            exact ⟨_, by first | rfl | (simp [errW_none, errW_some] <;> rfl) | (simp [*, errW_none, errW_some] <;> rfl), by (with_reducible repeat (first | apply Kd.R_alloc | apply Kd.R_drewN | apply Kd.R_drew)); exact HO_7.out, by repeat (first | (with_reducible first | exact HB.out | apply below_alloc | apply pw_below_drewN | apply below_drew1 | refine below_set ?_ GE288.out) | exact HB.out)⟩
    · rw [if_neg c5] at H
      exact absurd H (by simp)
  · rw [if_neg c4] at H
    exact absurd H (by simp)
end Go.Proofs.YtpnkcjnemoompaaDoor.PFft
end
section
namespace Go.Proofs.YtpnkcjnemoompaaDoor.Grid
open Go.RowKit Go.Proofs.YtpnkcjnemoompaaDoor Go.Proofs.YtpnkcjnemoompaaDoor.Ext Go.Proofs.YtpnkcjnemoompaaDoor.PPlan Go.Proofs.YtpnkcjnemoompaaDoor.PFft Go.Proofs.YtpnkcjnemoompaaDoor.Pure Go.Proofs.YtpnkcjnemoompaaDoor.Obj Go.Proofs.YtpnkcjnemoompaaDoor.Fft Go.Proofs.YtpnkcjnemoompaaDoor.Kern Go.Proofs.YtpnkcjnemoompaaDoorW.PrintWords Go.Proofs.YtpnkcjnemoompaaDoorW.PrintLast Go.Proofs.YtpnkcjnemoompaaDoorW.PrintMore
set_option linter.unusedVariables false
set_option linter.unusedSimpArgs false
set_option maxRecDepth 100000
theorem Mr.drw {w : World} {g c : Nat} {xs : List Int} (h : Mr w g c xs) : Mr w.drew g c xs := Mr.below h (below_drew1 (Below.refl _ _))
structure Gd (w : World) (p g c : Nat) (R C : Int) (xs : List Int) : Prop where
  obj : Bk w p 35 [.int .i64 R, .int .i64 C, .slice (some ⟨g, 0, none⟩) xs.length c]
  row : Mr w g c xs
theorem Gd.fr {w w' : World} {S : List Nat} {p g c : Nat} {R C : Int} {xs : List Int} (h : Gd w p g c R C xs) (hf : Fr w w' S) (h1 : p ∉ S) (h2 : g ∉ S) : Gd w' p g c R C xs := ⟨h.obj.fr hf h1, h.row.fr hf h2⟩
theorem Gd.below {w w' : World} {p g c : Nat} {R C : Int} {xs : List Int} (h : Gd w p g c R C xs) (hb : Below w.heap.size w w') : Gd w' p g c R C xs := ⟨h.obj.below hb, h.row.below hb⟩
theorem Gd.drew {w : World} {p g c : Nat} {R C : Int} {xs : List Int} (h : Gd w p g c R C xs) : Gd w.drew p g c R C xs := h.below (below_drew1 (Below.refl _ _))
theorem Gd.lp {w : World} {p g c : Nat} {R C : Int} {xs : List Int} (h : Gd w p g c R C xs) : p < w.heap.size := h.obj.lt
theorem Gd.lg {w : World} {p g c : Nat} {R C : Int} {xs : List Int} (h : Gd w p g c R C xs) : g < w.heap.size := h.row.lt
theorem Gd.ne {w : World} {p g c : Nat} {R C : Int} {xs : List Int} (h : Gd w p g c R C xs) : p ≠ g := h.row.ne h.obj (by decide)
theorem Gd.c0 {w : World} {p g c : Nat} {R C : Int} {xs : List Int} (h : Gd w p g c R C xs) : w.cell? ⟨p, 0, none⟩ = some (.int .i64 R) := h.obj.cell 0
theorem Gd.c1 {w : World} {p g c : Nat} {R C : Int} {xs : List Int} (h : Gd w p g c R C xs) : w.cell? ⟨p, 1, none⟩ = some (.int .i64 C) := h.obj.cell 1
theorem Gd.c2 {w : World} {p g c : Nat} {R C : Int} {xs : List Int} (h : Gd w p g c R C xs) : w.cell? ⟨p, 2, none⟩ = some (.slice (some ⟨g, 0, none⟩) xs.length c) := h.obj.cell 2
structure Apart (p g q h : Nat) : Prop where
  pq : p ≠ q
  gh : g ≠ h
  ph : p ≠ h
  gq : g ≠ q
def can (l : List Int) : List Int := tb l.length fun i => el l i * fo 1
theorem can_is (l : List Int) : can l = tb l.length (el l) := tb_congr fun i _ => by rw [fo_one]; grobner
theorem can_len (l : List Int) : (can l).length = l.length := tb_len _ _
theorem can_ws (l : List Int) : Ws (can l) := tb_ws _ _
set_option maxHeartbeats 4000000 in
theorem gnew_yes (A : Option Addr) (c : Nat) (l : List Int) (R C : Int) (w : World) (hl : In w A c l) (hW : Ws l) (hL : l.length ≤ 1048576) (hp : 0 < l.length) (hg : GoodS R C) (hs : R * C = (l.length : Int)) (hT : TabOK w) :
    Calls Tryd.prog 16 #[.agg #[.int .i64 R, .int .i64 C], .slice A l.length c] w fun e w' => ∃ p g cg, e = .returned (.tuple #[.pointer (some ⟨p, 0, none⟩), .int .i64 0]) ∧ Gd w' p g cg R C (can l) ∧ Below w.heap.size w w' ∧ w.heap.size ≤ p ∧ w.heap.size ≤ g := by
  have HT0 := Aside0.mk hT
  have HB0 := Aside0.mk (below_alloc (Below.refl w.heap.size w) (Obj.cells #[.int .i64 R, .int .i64 C] 23))
  have HS0 := Aside0.mk (Bk.new w 23 [.int .i64 R, .int .i64 C])
  have HLw := Aside0.mk hl
  have HG := Aside0.mk (good_yes R C hg)
  have hz := size_is R C hg
  rw [hs] at hz
  have HZ := Aside0.mk hz
  obtain ⟨k, hk⟩ := (gScale l hW 1 ⟨by decide, by decide⟩ hL).rounds
  have HK := Aside0.mk (show twid_Scale.f k l 1 = some (can l) from hk)
  have d1 : ((l.length : Int) != (l.length : Int)) = false := by simp
  have d2 : decide ((1048576 : Int) < (l.length : Int)) = false := decide_eq_false (by omega)
  have hcl := can_len l
  obtain ⟨bs, hbs⟩ : ∃ z, z = w.heap.size := ⟨_, rfl⟩
  have hbg : w.heap.size ≤ bs := by omega
  clear hT hl hW hg hs hz hk
  go_enter Tryd.func16, Tryd.ntmps16
  go_wp2_with fail
  with_reducible refine (shape_Good.calls R C true _ HG.out (HT0.out.below HB0.out)).mono ?_
  rintro e w1 ⟨rfl, hb⟩
  rw [← hbs] at HS0 ⊢
  clear hbs
  have HB1 := Aside0.mk (below_then HB0.out HB0.out.size hb)
  have HS1 := Aside0.mk (HS0.out.below hb)
  have v0 := HS1.out.cell 0
  have v1 := HS1.out.cell 1
  clear hb HB0 HS0
  go_wp2_with fail
  clear v0 v1
  with_reducible refine (shape_Size.calls R C (l.length : Int) _ HZ.out (HT0.out.below HB1.out)).mono ?_
  rintro e w2 ⟨rfl, hb⟩
  have HB2 := Aside0.mk (below_then HB1.out HB1.out.size hb)
  have HS2 := Aside0.mk (HS1.out.below hb)
  clear hb HB1 HS1
  go_wp2_with fail
  refine start_ (n := 8) (S := fun w' => w'.cell? ⟨bs, 0, none⟩ = some (.int .i64 R) ∧ w'.cell? ⟨bs, 1, none⟩ = some (.int .i64 C) ∧ Aside0 (Below w.heap.size w w' ∧ Bk w' bs 23 [.int .i64 R, .int .i64 C])) (ds := []) #[false, false, false, false, false, false, false, false] (by kernel_rfl) rfl rfl ⟨HS2.out.drew.cell 0, HS2.out.drew.cell 1, ⟨below_drew1 HB2.out, HS2.out.drew⟩⟩ (fun hHeld => ?_)
  refine pure_ (i := 2) (N := some 23) (v := ?_) (a' := ?_) #[false, false, true, false, false, false, false, false] rfl rfl (by kernel_rfl) (fun _ _ _ h => h) (Or.inl ⟨by rfl, ?_⟩) ?_ ?_
  rotate_left
  · intro w'
    go_simp
    with_reducible rfl
  rotate_left
  · simp only [Act.put, List.setIfInBounds_toArray, List.set_cons_zero, List.set_cons_succ, i64_w, i32_w]
    rfl
  refine take_ (i := 0) (N := some 21) (v := ?_) (a' := ?_) #[true, false, true, false, false, false, false, false] rfl rfl (by kernel_rfl) (fun _ _ _ h => h) (Or.inl ⟨by rfl, ?_⟩) hHeld ?_ ?_
  rotate_left
  · rintro w' ⟨s0, s1, s2⟩
    go_simp
    with_reducible rfl
  rotate_left
  · simp only [Act.put, List.setIfInBounds_toArray, List.set_cons_zero, List.set_cons_succ, i64_w, i32_w]
    rfl
  refine pure_ (i := 1) (N := some 22) (v := ?_) (a' := ?_) #[true, true, true, false, false, false, false, false] rfl rfl (by kernel_rfl) (fun _ _ _ h => h) (Or.inl ⟨by rfl, ?_⟩) ?_ ?_
  rotate_left
  · intro w'
    go_simp
    with_reducible rfl
  rotate_left
  · simp only [Act.put, List.setIfInBounds_toArray, List.set_cons_zero, List.set_cons_succ, i64_w, i32_w]
    rfl
  refine one_ (i := 3) (N := some 24) #[true, true, true, true, false, false, false, false] rfl rfl (by kernel_rfl) (by decide) (fun K hK => ?_)
  refine goes_ Tryd.func70 (by kernel_rfl) rfl #[.slice A l.length c, .int .u64 1] (by rfl) rfl rfl (by simp only [List.map_toArray, List.map_cons, List.map_nil]; rfl) ?_
  with_reducible refine (twid_Scale.calls k A c l 1 (can l) _ (HLw.out.below hHeld.2.2.out.1).r (HLw.out.below hHeld.2.2.out.1).c HK.out).mono ?_
  rintro e w3 ⟨v, rfl, hR, hb⟩
  refine ⟨_, rfl, ?_⟩
  obtain ⟨g, cg, hv, hge, hm⟩ := Mr.of_R hR (by rw [hcl]; exact hp)
  subst hv
  have HM3 := Aside0.mk hm
  have HB3 := Aside0.mk (below_then hHeld.2.2.out.1 hHeld.2.2.out.1.size hb)
  have HS3 := Aside0.mk (hHeld.2.2.out.2.below hb)
  have HGe := Aside0.mk (show w.heap.size ≤ g by have := hHeld.2.2.out.1.size; omega)
  clear hHeld hR hb hge hm
  refine hK.out _ _ ⟨HS3.out.cell 0, HS3.out.cell 1, ⟨HB3.out, HS3.out⟩⟩ (fun hHeld => ?_)
  clear hK K
  refine norm_ (a' := ?_) ?_ ?_
  rotate_left
  · show Act.put _ (some 24) _ = _
    simp only [Act.put, List.setIfInBounds_toArray, List.set_cons_zero, List.set_cons_succ, i64_w, i32_w]
    rfl
  refine pure_ (i := 4) (N := some 25) (v := ?_) (a' := ?_) #[true, true, true, true, true, false, false, false] rfl rfl (by kernel_rfl) (fun _ _ _ h => h) (Or.inl ⟨by rfl, ?_⟩) ?_ ?_
  rotate_left
  · intro w'
    go_simp
    with_reducible rfl
  rotate_left
  · simp only [Act.put, List.setIfInBounds_toArray, List.set_cons_zero, List.set_cons_succ, i64_w, i32_w]
    rfl
  refine one_ (i := 5) (N := some 26) #[true, true, true, true, true, true, false, false] rfl rfl (by kernel_rfl) (by decide) (fun K hK => ?_)
  refine value_ (w1 := ?_) (v := ?_) (by rfl) rfl ?_ ?_
  rotate_left 2
  · go_simp
    constructor
    · rfl
    · rfl
  have HG4 : Aside0 (Gd (w3.alloc (Obj.cells #[.int .i64 R, .int .i64 C, .slice (some ⟨g, 0, none⟩) l.length cg] 35)) w3.heap.size g cg R C (can l)) := ⟨by rw [hcl]; exact Bk.new w3 35 [.int .i64 R, .int .i64 C, .slice (some ⟨g, 0, none⟩) l.length cg], HM3.out.below (below_alloc (Below.refl _ _) _)⟩
  have HB4 := Aside0.mk (below_alloc HB3.out (Obj.cells #[.int .i64 R, .int .i64 C, .slice (some ⟨g, 0, none⟩) l.length cg] 35))
  have HS4 := Aside0.mk (HS3.out.below (below_alloc (Below.refl _ _) (Obj.cells #[.int .i64 R, .int .i64 C, .slice (some ⟨g, 0, none⟩) l.length cg] 35)))
  clear hHeld
  refine hK.out _ _ ⟨HS4.out.cell 0, HS4.out.cell 1, ⟨HB4.out, HS4.out⟩⟩ (fun hHeld => ?_)
  clear hK K
  refine norm_ (a' := ?_) ?_ ?_
  rotate_left
  · show Act.put _ (some 26) _ = _
    simp only [Act.put, List.setIfInBounds_toArray, List.set_cons_zero, List.set_cons_succ, i64_w, i32_w]
    rfl
  refine pure_ (i := 6) (N := some 4) (v := ?_) (a' := ?_) #[true, true, true, true, true, true, true, false] rfl rfl (by kernel_rfl) (fun _ _ _ h => h) (Or.inl ⟨by rfl, ?_⟩) ?_ ?_
  rotate_left
  · intro w'
    go_simp
    with_reducible rfl
  rotate_left
  · simp only [Act.put, List.setIfInBounds_toArray, List.set_cons_zero, List.set_cons_succ, i64_w, i32_w]
    rfl
  refine pure_ (i := 7) (N := some 5) (v := ?_) (a' := ?_) #[true, true, true, true, true, true, true, true] rfl rfl (by kernel_rfl) (fun _ _ _ h => h) (Or.inl ⟨by rfl, ?_⟩) ?_ ?_
  rotate_left
  · intro w'
    go_simp
    with_reducible rfl
  rotate_left
  · simp only [Act.put, List.setIfInBounds_toArray, List.set_cons_zero, List.set_cons_succ, i64_w, i32_w]
    rfl
  refine done_ (by kernel_rfl) ?_
  clear hHeld
  go_wp2
  go_ret2
  exact ⟨_, _, _, rfl, HG4.out, HB4.out, HB3.out.size, HGe.out⟩
theorem clone_calls (g c : Nat) (xs : List Int) (w : World) (h : Mr w g c xs) (hp : 0 < xs.length) (hL : xs.length ≤ 1048576) :
    Calls Tryd.prog 71 #[.slice (some ⟨g, 0, none⟩) xs.length c] w fun e w' => ∃ h d, e = .returned (.slice (some ⟨h, 0, none⟩) xs.length d) ∧ Mr w' h d xs ∧ Below w.heap.size w w' ∧ w.heap.size ≤ h := by
  obtain ⟨i0, hi, hzz⟩ := Option.map_eq_some_iff.1 info_u64
  simp only [Prod.mk.injEq] at hzz
  obtain ⟨hz0, hz1, hz2⟩ := hzz
  have hc := Lay.slices_Clone i0 (.int .u64 0) 1 8 hi hz0 hz1 hz2 rfl (by decide) (fun _ => rfl) g 0 xs.length c (nums .u64 xs) w (by rw [nums_length, Nat.mul_one]) (by simp [maxLen]; omega) (by omega) (fun j u hj => by
    have hjl : j < xs.length := by
      have := (List.getElem?_eq_some_iff.1 hj).1
      rwa [nums_length] at this
    rw [Nat.zero_add, h.cell j hjl]
    rw [nums_at xs j hjl] at hj
    exact hj) (fun u hu => by
    obtain ⟨x, _, rfl⟩ := List.mem_map.1 hu
    rfl)
  refine hc.mono ?_
  rintro e w1 ⟨v, rfl, ho, hn, hb⟩
  obtain ⟨g1, c1, hv, hg1, hm⟩ := Mr.of_R (Kd.R_of_own (enc := Value.int .u64) (h1 := fun _ => rfl) (ok := fun _ => True) (xs := xs) ho (fun _ _ => trivial)) hp
  subst hv
  exact ⟨g1, c1, rfl, hm, hb, hg1⟩
theorem gwords (p g c : Nat) (R C : Int) (xs : List Int) (w : World) (h : Gd w p g c R C xs) (hp : 0 < xs.length) (hL : xs.length ≤ 1048576) :
    Calls Tryd.prog 20 #[.pointer (some ⟨p, 0, none⟩)] w fun e w' => ∃ h d, e = .returned (.slice (some ⟨h, 0, none⟩) xs.length d) ∧ Mr w' h d xs ∧ Below w.heap.size w w' ∧ w.heap.size ≤ h := by
  have c2 := h.c2
  have HX := Aside0.mk h.row
  clear h
  go_enter Tryd.func20, Tryd.ntmps20
  go_wp2_with fail
  with_reducible refine (clone_calls g c xs _ HX.out hp hL).mono ?_
  rintro e w1 ⟨g1, c1, rfl, hm, hb, hg⟩
  have HM1 := Aside0.mk hm
  have HB1 := Aside0.mk hb
  clear hm hb c2
  go_wp2
  go_ret
  exact ⟨_, _, rfl, HM1.out, HB1.out, hg⟩
end Go.Proofs.YtpnkcjnemoompaaDoor.Grid
end
section
namespace Go.Proofs.YtpnkcjnemoompaaDoor.Fft
set_option linter.unusedVariables false
set_option linter.unusedSimpArgs false
def tq (K : Nat) (d : Int) (f : Nat → F) (j : Nat) : F := dft (2 ^ K) (rut K d) f j * (if d = 1 then shf K else 1)
theorem tq_congr {K : Nat} {d : Int} {f g : Nat → F} (h : ∀ i, i < 2 ^ K → f i = g i) (j : Nat) : tq K d f j = tq K d g j := by unfold tq; rw [dft_congr h]
theorem tq_back (K : Nat) (hK : K ≤ 32) (d : Int) (hd : d = 0 ∨ d = 1) (f : Nat → F) (j : Nat) (hj : j < 2 ^ K) : tq K (1 - d) (tq K d f) j = f j := by
  have hs := shf_is K
  unfold tq
  rcases hd with rfl | rfl
  · rw [show (1 : Int) - 0 = 1 from rfl, if_pos rfl]
    rw [dft_congr (g := dft (2 ^ K) (rut K 0) f) (fun i _ => by rw [if_neg (by decide)]; grobner)]
    rw [dft_back K (rut K 0) (rut K 1) (rd_back K hK 1 (by decide)) (fun h => rd_half K 0 h hK) (rd_full K 0 hK) f j hj]
    grobner
  · have e0 : (if (0 : Int) = 1 then shf K else 1) = 1 := if_neg (by decide)
    have e1 : (if (1 : Int) = 1 then shf K else (1 : F)) = shf K := if_pos rfl
    rw [show (1 : Int) - 1 = 0 from rfl, e0, e1]
    have e : ∀ i, dft (2 ^ K) (rut K 1) f i * shf K = dft (2 ^ K) (rut K 1) (fun t => f t * shf K) i := by
      intro i
      unfold dft
      rw [← sm_mulr]
      exact sm_congr fun t _ => by grobner
    rw [dft_congr (fun i _ => e i)]
    rw [dft_back K (rut K 1) (rut K 0) (by have := rd_back K hK 1 (by decide); grobner) (fun h => rd_half K 1 h hK) (rd_full K 1 hK) _ j hj]
    grobner
theorem tq_swap (a b : Nat) (d e : Int) (G : Nat → Nat → F) (i j : Nat) : tq b d (fun c => tq a e (fun r => G r c) i) j = tq a e (fun r => tq b d (fun c => G r c) j) i := by
  unfold tq dft
  have l : ∀ c, (sm (2 ^ a) fun r => G r c * pw (rut a e) (r * i)) * (if e = 1 then shf a else 1) * pw (rut b d) (c * j) = sm (2 ^ a) fun r => G r c * pw (rut a e) (r * i) * ((if e = 1 then shf a else 1) * pw (rut b d) (c * j)) := by
    intro c; rw [sm_mulr]; grobner
  have r : ∀ r, (sm (2 ^ b) fun c => G r c * pw (rut b d) (c * j)) * (if d = 1 then shf b else 1) * pw (rut a e) (r * i) = sm (2 ^ b) fun c => G r c * pw (rut b d) (c * j) * ((if d = 1 then shf b else 1) * pw (rut a e) (r * i)) := by
    intro r; rw [sm_mulr]; grobner
  rw [sm_congr (fun c _ => l c), sm_congr (fun r' _ => r r'), sm_swap, ← sm_mulr, ← sm_mulr]
  refine sm_congr fun r _ => ?_
  rw [← sm_mulr, ← sm_mulr]
  refine sm_congr fun c _ => ?_
  grobner
def t2 (a b : Nat) (d : Int) (f : Nat → F) (t : Nat) : F := tq a d (fun r => tq b d (fun c => f (r * 2 ^ b + c)) (t % 2 ^ b)) (t / 2 ^ b)
theorem dm (b r c : Nat) (h : c < 2 ^ b) : (r * 2 ^ b + c) / 2 ^ b = r ∧ (r * 2 ^ b + c) % 2 ^ b = c := by
  have h0 : 0 < 2 ^ b := Nat.two_pow_pos b
  rw [Nat.mul_comm]
  exact ⟨by rw [Nat.mul_add_div h0, Nat.div_eq_of_lt h, Nat.add_zero], by rw [Nat.mul_add_mod, Nat.mod_eq_of_lt h]⟩
theorem plc (a b r c : Nat) (hr : r < 2 ^ a) (hc : c < 2 ^ b) : r * 2 ^ b + c < 2 ^ (a + b) := by
  rw [Nat.pow_add]
  have : (r + 1) * 2 ^ b ≤ 2 ^ a * 2 ^ b := Nat.mul_le_mul_right _ hr
  rw [Nat.add_mul, Nat.one_mul] at this
  omega
theorem parts (a b t : Nat) (h : t < 2 ^ (a + b)) : t / 2 ^ b < 2 ^ a ∧ t % 2 ^ b < 2 ^ b ∧ t / 2 ^ b * 2 ^ b + t % 2 ^ b = t := by
  have h0 : 0 < 2 ^ b := Nat.two_pow_pos b
  refine ⟨?_, Nat.mod_lt _ h0, by rw [Nat.mul_comm]; exact Nat.div_add_mod t _⟩
  rw [Nat.pow_add] at h
  exact (Nat.div_lt_iff_lt_mul h0).2 h
theorem t2_congr {a b : Nat} {d : Int} {f g : Nat → F} (h : ∀ i, i < 2 ^ (a + b) → f i = g i) (t : Nat) : t2 a b d f t = t2 a b d g t := by
  unfold t2
  exact tq_congr (fun r hr => tq_congr (fun c hc => h _ (plc a b r c hr hc)) _) _
theorem t2_back (a b : Nat) (hab : a + b ≤ 32) (d : Int) (hd : d = 0 ∨ d = 1) (f : Nat → F) (t : Nat) (ht : t < 2 ^ (a + b)) : t2 a b (1 - d) (t2 a b d f) t = f t := by
  obtain ⟨h1, h2, h3⟩ := parts a b t ht
  conv => rhs; rw [← h3]
  unfold t2
  rw [tq_congr (g := fun r => tq a d (fun r' => f (r' * 2 ^ b + t % 2 ^ b)) r)]
  · exact tq_back a (by omega) d hd (fun r' => f (r' * 2 ^ b + t % 2 ^ b)) _ h1
  · intro r hr
    rw [tq_congr (g := fun c => tq a d (fun r' => tq b d (fun c' => f (r' * 2 ^ b + c')) c) r)]
    · rw [tq_swap a b (1 - d) d (fun r' c => tq b d (fun c' => f (r' * 2 ^ b + c')) c) r (t % 2 ^ b)]
      exact tq_congr (fun r' _ => tq_back b (by omega) d hd (fun c' => f (r' * 2 ^ b + c')) _ h2) _
    · intro c hc
      obtain ⟨e1, e2⟩ := dm b r c hc
      rw [e1, e2]
theorem t2_sum (a b : Nat) (d : Int) (f : Nat → F) (t : Nat) :
    t2 a b d f t = sm (2 ^ (a + b)) (fun s => f s * (pw (rut a d) (t / 2 ^ b * (s / 2 ^ b)) * pw (rut b d) (t % 2 ^ b * (s % 2 ^ b)))) * (if d = 1 then shf (a + b) else 1) := by
  rw [Nat.pow_add, sm_rows, ← sm_mulr]
  unfold t2 tq dft
  rw [← sm_mulr]
  refine sm_congr fun r _ => ?_
  have e : (if d = 1 then shf (a + b) else 1) = (if d = 1 then shf b else 1) * (if d = 1 then shf a else (1 : F)) := by
    by_cases h : d = 1
    · simp only [if_pos h]; rw [shf_add]; grobner
    · simp only [if_neg h]; grobner
  rw [e]
  simp only []
  rw [← sm_mulr, ← sm_mulr, ← sm_mulr, ← sm_mulr]
  refine sm_congr fun c hc => ?_
  obtain ⟨e1, e2⟩ := dm b r c hc
  rw [e1, e2, Nat.mul_comm (t / 2 ^ b) r, Nat.mul_comm (t % 2 ^ b) c]
  grobner
def cvp (a b i j : Nat) : Nat := (i / 2 ^ b + j / 2 ^ b) % 2 ^ a * 2 ^ b + (i % 2 ^ b + j % 2 ^ b) % 2 ^ b
theorem cvp_lt (a b i j : Nat) : cvp a b i j < 2 ^ (a + b) := plc a b _ _ (Nat.mod_lt _ (Nat.two_pow_pos a)) (Nat.mod_lt _ (Nat.two_pow_pos b))
def cv2 (a b : Nat) (f g : Nat → F) (k : Nat) : F := sm (2 ^ (a + b)) fun i => sm (2 ^ (a + b)) fun j => if cvp a b i j = k then f i * g j else 0
theorem t2_cv (a b : Nat) (hab : a + b ≤ 32) (f g : Nat → F) (t : Nat) : t2 a b 0 (cv2 a b f g) t = t2 a b 0 f t * t2 a b 0 g t := by
  rw [t2_sum, t2_sum, t2_sum, if_neg (by decide)]
  have hA := rd_full a 0 (by omega)
  have hB := rd_full b 0 (by omega)
  generalize hn : 2 ^ (a + b) = n
  generalize hw : (fun s => pw (rut a 0) (t / 2 ^ b * (s / 2 ^ b)) * pw (rut b 0) (t % 2 ^ b * (s % 2 ^ b))) = W
  have hW : ∀ s, pw (rut a 0) (t / 2 ^ b * (s / 2 ^ b)) * pw (rut b 0) (t % 2 ^ b * (s % 2 ^ b)) = W s := fun s => by rw [← hw]
  have hWm : ∀ i j, W (cvp a b i j) = W i * W j := by
    intro i j
    rw [← hw]
    simp only []
    obtain ⟨e1, e2⟩ := dm b ((i / 2 ^ b + j / 2 ^ b) % 2 ^ a) ((i % 2 ^ b + j % 2 ^ b) % 2 ^ b) (Nat.mod_lt _ (Nat.two_pow_pos b))
    unfold cvp
    rw [e1, e2, pw_mul', pw_mod (n := 2 ^ a) hA, ← pw_mul', pw_mul' (rut b 0), pw_mod (n := 2 ^ b) hB, ← pw_mul', Nat.mul_add, pw_add, Nat.mul_add, pw_add]
    grobner
  simp only [hW]
  unfold cv2
  rw [hn]
  have e1 : ∀ s, (sm n fun i => sm n fun j => if cvp a b i j = s then f i * g j else 0) * W s = sm n fun i => sm n fun j => if cvp a b i j = s then f i * g j * W s else 0 := by
    intro s
    rw [← sm_mulr]
    refine sm_congr fun i _ => ?_
    rw [← sm_mulr]
    refine sm_congr fun j _ => ?_
    by_cases h : cvp a b i j = s
    · rw [if_pos h, if_pos h]
    · rw [if_neg h, if_neg h]; grobner
  rw [sm_congr (fun s _ => e1 s), sm_swap]
  have e2 : ∀ i, (sm n fun s => sm n fun j => if cvp a b i j = s then f i * g j * W s else 0) = f i * W i * sm n fun j => g j * W j := by
    intro i
    rw [sm_swap, ← sm_mull]
    refine sm_congr fun j _ => ?_
    rw [sm_pick n (cvp a b i j) (by rw [← hn]; exact cvp_lt a b i j) _ (fun s _ hs => if_neg (fun e => hs e.symm)), if_pos rfl, hWm]
    grobner
  rw [sm_congr (fun i _ => e2 i), sm_mulr]
  grobner
theorem cv2_is (a b : Nat) (hab : a + b ≤ 32) (f g : Nat → F) (t : Nat) (ht : t < 2 ^ (a + b)) : t2 a b 1 (fun s => t2 a b 0 f s * t2 a b 0 g s) t = cv2 a b f g t := by
  rw [← t2_back a b hab 0 (.inl rfl) (cv2 a b f g) t ht]
  exact t2_congr (fun s _ => (t2_cv a b hab f g s).symm) t
end Go.Proofs.YtpnkcjnemoompaaDoor.Fft
end
section
namespace Go.Proofs.YtpnkcjnemoompaaDoor.Grid
open Go.RowKit Go.Proofs.YtpnkcjnemoompaaDoor Go.Proofs.YtpnkcjnemoompaaDoor.Ext Go.Proofs.YtpnkcjnemoompaaDoor.PPlan Go.Proofs.YtpnkcjnemoompaaDoor.PFft Go.Proofs.YtpnkcjnemoompaaDoor.Pure Go.Proofs.YtpnkcjnemoompaaDoor.Obj Go.Proofs.YtpnkcjnemoompaaDoor.Fft Go.Proofs.YtpnkcjnemoompaaDoor.Kern Go.Proofs.YtpnkcjnemoompaaDoorW.PrintWords Go.Proofs.YtpnkcjnemoompaaDoorW.PrintLast Go.Proofs.YtpnkcjnemoompaaDoorW.PrintMore
set_option linter.unusedVariables false
set_option linter.unusedSimpArgs false
set_option maxRecDepth 100000
theorem two_ways (xs : List Int) (R C a b : Nat) (d : Int) (ha : R = 2 ^ a) (hb : C = 2 ^ b) (hl : R * C = xs.length) :
    vfold (vfold xs b d (fun i => i * C) (fun _ => 1) C R) a d (fun i => i) (fun _ => C) R C = tb xs.length (t2 a b d (el xs)) := by
  have hN : 2 ^ (a + b) = xs.length := by rw [Nat.pow_add, ← ha, ← hb, hl]
  refine list_ext (by rw [vfold_len, vfold_len, tb_len]) fun t ht => ?_
  rw [vfold_len, vfold_len] at ht
  obtain ⟨h1, h2, h3⟩ := parts a b t (by rw [hN]; exact ht)
  rw [← ha, ← hb] at h1
  rw [← hb] at h2 h3
  rw [tb_get _ ht]
  have hl2 : R * C = (vfold xs b d (fun i => i * C) (fun _ => 1) C R).length := by rw [vfold_len, hl]
  conv => lhs; rw [← h3]
  rw [cols_get _ a d R C ha hl2 C (Nat.le_refl _) (t / C) (t % C) h1 h2, if_pos h2]
  refine congrArg fv ?_
  unfold t2
  rw [← hb]
  refine tr_congr (fun r hr => ?_) _
  rw [← ha] at hr
  unfold el
  rw [rows_at xs b d R C hb hl r (t % C) hr h2, fo_fv]
  rfl
theorem tab_fr {w w' : World} {S : List Nat} (h : TabOK w) (hf : Fr w w' S) (h1 : 1 ∉ S) : TabOK w' := ⟨fun j hj => by
  have hc := h.out j hj
  have hlt : 1 < w.heap.size := World.block_lt_of_cell? w _ hc
  rw [World.cell?_of_block (w := w) (a := ⟨1, j, none⟩) (hf.block 1 hlt h1)]
  exact hc⟩
theorem tab_ne {w : World} {g c : Nat} {xs : List Int} (h : TabOK w) (hM : Mr w g c xs) (h0 : 0 < xs.length) : 1 ≠ g := by
  intro e
  have h1 := h.out 0 (by decide)
  have h2 := hM.cell 0 h0
  rw [← e, h1] at h2
  simp at h2
theorem tab_fr1 {w w' : World} {g c : Nat} {xs : List Int} (h : TabOK w) (hM : Mr w g c xs) (h0 : 0 < xs.length) (hf : Fr w w' [g]) : TabOK w' := tab_fr h hf (by simpa using tab_ne h hM h0)
set_option maxHeartbeats 8000000 in
theorem gtrans_yes (R C a b p g c : Nat) (xs : List Int) (d : Int) (hd : d = 0 ∨ d = 1) (ha : R = 2 ^ a) (hb : C = 2 ^ b) (hab : a + b ≤ 20) (hl : R * C = xs.length) (hW : Ws xs) (w : World) (hG : Gd w p g c (R : Int) (C : Int) xs) (hT : TabOK w) :
    Calls Tryd.prog 22 #[.pointer (some ⟨p, 0, none⟩), .int .i64 d] w fun e w' => e = .returned (.int .i64 0) ∧ Gd w' p g c (R : Int) (C : Int) (tb xs.length (t2 a b d (el xs))) ∧ Fr w w' [g] := by
  have hlaw := two_ways xs R C a b d ha hb hl
  have hl2 : (vfold xs b d (fun i => i * C) (fun _ => 1) C R).length = xs.length := vfold_len _ _ _ _ _ _ _
  have hw2 : Ws (vfold xs b d (fun i => i * C) (fun _ => 1) C R) := vfold_ws hW _ _ _ _ _ _
  obtain ⟨m, hm⟩ : ∃ z, z = vfold xs b d (fun i => i * C) (fun _ => 1) C R := ⟨_, rfl⟩
  rw [← hm] at hlaw hl2 hw2
  obtain ⟨z, hz⟩ : ∃ z, z = tb xs.length (t2 a b d (el xs)) := ⟨_, rfl⟩
  have hzl : z.length = xs.length := by rw [hz, tb_len]
  rw [← hz] at hlaw ⊢
  have HLaw := Aside0.mk hlaw
  have HM := Aside0.mk hm
  have HW2 := Aside0.mk hw2
  have HD := Aside0.mk hd
  have HA := Aside0.mk ha
  have HBb := Aside0.mk hb
  have HAB := Aside0.mk hab
  have HL := Aside0.mk hl
  have HL2 := Aside0.mk (show R * C = m.length by rw [hl2, hl])
  have HW := Aside0.mk hW
  have HG0 := Aside0.mk hG
  have HT0 := Aside0.mk hT
  have HNe := Aside0.mk hG.ne
  have hp0 : 0 < xs.length := by rw [← hl, ha, hb, ← Nat.pow_add]; exact Nat.two_pow_pos _
  clear hlaw hm hw2 hd ha hb hab hl hW hT hz
  clear hG
  go_enter Tryd.func22, Tryd.ntmps22
  go_wp2_with fail
  refine start_ (n := 12) (S := fun w' => w'.cell? ⟨p, 0, none⟩ = some (.int .i64 (R : Int)) ∧ w'.cell? ⟨p, 1, none⟩ = some (.int .i64 (C : Int)) ∧ w'.cell? ⟨p, 2, none⟩ = some (.slice (some ⟨g, 0, none⟩) xs.length c) ∧ Aside0 (TabOK w')) (ds := []) #[false, false, false, false, false, false, false, false, false, false, false, false] (by kernel_rfl) rfl rfl ⟨HG0.out.drew.c0, HG0.out.drew.c1, HG0.out.drew.c2, ⟨HT0.out.below (below_drew1 (Below.refl _ _))⟩⟩ (fun hHeld => ?_)
  refine pure_ (i := 0) (N := some 6) (v := ?_) (a' := ?_) #[true, false, false, false, false, false, false, false, false, false, false, false] rfl rfl (by kernel_rfl) (fun _ _ _ h => h) (Or.inl ⟨by rfl, ?_⟩) ?_ ?_
  rotate_left
  · intro w'
    go_simp
    with_reducible rfl
  rotate_left
  · simp only [Act.put, List.setIfInBounds_toArray, List.set_cons_zero, List.set_cons_succ, i64_w, i32_w]
    rfl
  refine pure_ (i := 1) (N := some 7) (v := ?_) (a' := ?_) #[true, true, false, false, false, false, false, false, false, false, false, false] rfl rfl (by kernel_rfl) (fun _ _ _ h => h) (Or.inl ⟨by rfl, ?_⟩) ?_ ?_
  rotate_left
  · intro w'
    go_simp
    with_reducible rfl
  rotate_left
  · simp only [Act.put, List.setIfInBounds_toArray, List.set_cons_zero, List.set_cons_succ, i64_w, i32_w]
    rfl
  refine pure_ (i := 2) (N := some 8) (v := ?_) (a' := ?_) #[true, true, true, false, false, false, false, false, false, false, false, false] rfl rfl (by kernel_rfl) (fun _ _ _ h => h) (Or.inl ⟨by rfl, ?_⟩) ?_ ?_
  rotate_left
  · intro w'
    go_simp
    with_reducible rfl
  rotate_left
  · simp only [Act.put, List.setIfInBounds_toArray, List.set_cons_zero, List.set_cons_succ, i64_w, i32_w]
    rfl
  refine pure_ (i := 4) (N := some 10) (v := ?_) (a' := ?_) #[true, true, true, false, true, false, false, false, false, false, false, false] rfl rfl (by kernel_rfl) (fun _ _ _ h => h) (Or.inl ⟨by rfl, ?_⟩) ?_ ?_
  rotate_left
  · intro w'
    go_simp
    with_reducible rfl
  rotate_left
  · simp only [Act.put, List.setIfInBounds_toArray, List.set_cons_zero, List.set_cons_succ, i64_w, i32_w]
    rfl
  refine pure_ (i := 5) (N := some 11) (v := ?_) (a' := ?_) #[true, true, true, false, true, true, false, false, false, false, false, false] rfl rfl (by kernel_rfl) (fun _ _ _ h => h) (Or.inl ⟨by rfl, ?_⟩) ?_ ?_
  rotate_left
  · intro w'
    go_simp
    with_reducible rfl
  rotate_left
  · simp only [Act.put, List.setIfInBounds_toArray, List.set_cons_zero, List.set_cons_succ, i64_w, i32_w]
    rfl
  refine pure_ (i := 6) (N := some 12) (v := ?_) (a' := ?_) #[true, true, true, false, true, true, true, false, false, false, false, false] rfl rfl (by kernel_rfl) (fun _ _ _ h => h) (Or.inl ⟨by rfl, ?_⟩) ?_ ?_
  rotate_left
  · intro w'
    go_simp
    with_reducible rfl
  rotate_left
  · simp only [Act.put, List.setIfInBounds_toArray, List.set_cons_zero, List.set_cons_succ, i64_w, i32_w]
    rfl
  refine pure_ (i := 7) (N := some 13) (v := ?_) (a' := ?_) #[true, true, true, false, true, true, true, true, false, false, false, false] rfl rfl (by kernel_rfl) (fun _ _ _ h => h) (Or.inl ⟨by rfl, ?_⟩) ?_ ?_
  rotate_left
  · intro w'
    go_simp
    with_reducible rfl
  rotate_left
  · simp only [Act.put, List.setIfInBounds_toArray, List.set_cons_zero, List.set_cons_succ, i64_w, i32_w]
    rfl
  refine pure_ (i := 9) (N := some 15) (v := ?_) (a' := ?_) #[true, true, true, false, true, true, true, true, false, true, false, false] rfl rfl (by kernel_rfl) (fun _ _ _ h => h) (Or.inl ⟨by rfl, ?_⟩) ?_ ?_
  rotate_left
  · intro w'
    go_simp
    with_reducible rfl
  rotate_left
  · simp only [Act.put, List.setIfInBounds_toArray, List.set_cons_zero, List.set_cons_succ, i64_w, i32_w]
    rfl
  refine take_ (i := 3) (N := some 9) (v := ?_) (a' := ?_) #[true, true, true, true, true, true, true, true, false, true, false, false] rfl rfl (by kernel_rfl) (fun _ _ _ h => h) (Or.inl ⟨by rfl, ?_⟩) hHeld ?_ ?_
  rotate_left
  · rintro w' ⟨s0, s1, s2, s3⟩
    go_simp
    with_reducible rfl
  rotate_left
  · simp only [Act.put, List.setIfInBounds_toArray, List.set_cons_zero, List.set_cons_succ, i64_w, i32_w]
    rfl
  refine take_ (i := 8) (N := some 14) (v := ?_) (a' := ?_) #[true, true, true, true, true, true, true, true, true, true, false, false] rfl rfl (by kernel_rfl) (fun _ _ _ h => h) (Or.inl ⟨by rfl, ?_⟩) hHeld ?_ ?_
  rotate_left
  · rintro w' ⟨s0, s1, s2, s3⟩
    go_simp
    with_reducible rfl
  rotate_left
  · simp only [Act.put, List.setIfInBounds_toArray, List.set_cons_zero, List.set_cons_succ, i64_w, i32_w]
    rfl
  refine one_ (i := 10) (N := some 16) #[true, true, true, true, true, true, true, true, true, true, true, false] rfl rfl (by kernel_rfl) (by decide) (fun K hK => ?_)
  refine goes_ Tryd.func41 (by kernel_rfl) rfl #[.slice (some ⟨g, 0, none⟩) xs.length c, .agg #[.int .i64 (R : Int), .int .i64 (C : Int)], .int .i64 d] (by rfl) rfl rfl (by simp only [List.map_toArray, List.map_cons, List.map_nil]; rfl) ?_
  with_reducible refine (rows_yes R C a b g c xs d HD.out HA.out HBb.out HAB.out HL.out HW.out _ (Mr.drw HG0.out.row) hHeld.2.2.2.out).mono ?_
  rintro e w2 ⟨rfl, hm2, hf2⟩
  refine ⟨_, rfl, ?_⟩
  rw [← HM.out] at hm2
  have HO2 := Aside0.mk (HG0.out.obj.drew.fr hf2 (by simpa using HNe.out))
  have HM2 := Aside0.mk hm2
  have HF2 := Aside0.mk ((Fr.refl w [g]).drew.trans hf2)
  have HT2 := Aside0.mk (tab_fr1 hHeld.2.2.2.out (Mr.drw HG0.out.row) hp0 hf2)
  clear hHeld hm2 hf2
  refine hK.out _ _ ⟨HO2.out.cell 0, HO2.out.cell 1, HO2.out.cell 2, HT2⟩ (fun hHeld => ?_)
  clear hK K
  refine norm_ (a' := ?_) ?_ ?_
  rotate_left
  · show Act.put _ (some 16) _ = _
    simp only [Act.put, List.setIfInBounds_toArray, List.set_cons_zero, List.set_cons_succ, i64_w, i32_w]
    rfl
  refine pure_ (i := 11) (N := some 5) (v := ?_) (a' := ?_) #[true, true, true, true, true, true, true, true, true, true, true, true] rfl rfl (by kernel_rfl) (fun _ _ _ h => h) (Or.inl ⟨by rfl, ?_⟩) ?_ ?_
  rotate_left
  · intro w'
    go_simp
    with_reducible rfl
  rotate_left
  · simp only [Act.put, List.setIfInBounds_toArray, List.set_cons_zero, List.set_cons_succ, i64_w, i32_w]
    rfl
  refine done_ (by kernel_rfl) ?_
  clear hHeld
  go_wp2_with fail
  refine start_ (n := 12) (S := fun w' => w'.cell? ⟨p, 0, none⟩ = some (.int .i64 (R : Int)) ∧ w'.cell? ⟨p, 1, none⟩ = some (.int .i64 (C : Int)) ∧ w'.cell? ⟨p, 2, none⟩ = some (.slice (some ⟨g, 0, none⟩) xs.length c) ∧ Aside0 (TabOK w')) (ds := []) #[false, false, false, false, false, false, false, false, false, false, false, false] (by kernel_rfl) rfl rfl ⟨HO2.out.drew.cell 0, HO2.out.drew.cell 1, HO2.out.drew.cell 2, ⟨HT2.out.below (below_drew1 (Below.refl _ _))⟩⟩ (fun hHeld => ?_)
  refine pure_ (i := 0) (N := some 19) (v := ?_) (a' := ?_) #[true, false, false, false, false, false, false, false, false, false, false, false] rfl rfl (by kernel_rfl) (fun _ _ _ h => h) (Or.inl ⟨by rfl, ?_⟩) ?_ ?_
  rotate_left
  · intro w'
    go_simp
    with_reducible rfl
  rotate_left
  · simp only [Act.put, List.setIfInBounds_toArray, List.set_cons_zero, List.set_cons_succ, i64_w, i32_w]
    rfl
  refine pure_ (i := 1) (N := some 20) (v := ?_) (a' := ?_) #[true, true, false, false, false, false, false, false, false, false, false, false] rfl rfl (by kernel_rfl) (fun _ _ _ h => h) (Or.inl ⟨by rfl, ?_⟩) ?_ ?_
  rotate_left
  · intro w'
    go_simp
    with_reducible rfl
  rotate_left
  · simp only [Act.put, List.setIfInBounds_toArray, List.set_cons_zero, List.set_cons_succ, i64_w, i32_w]
    rfl
  refine pure_ (i := 2) (N := some 21) (v := ?_) (a' := ?_) #[true, true, true, false, false, false, false, false, false, false, false, false] rfl rfl (by kernel_rfl) (fun _ _ _ h => h) (Or.inl ⟨by rfl, ?_⟩) ?_ ?_
  rotate_left
  · intro w'
    go_simp
    with_reducible rfl
  rotate_left
  · simp only [Act.put, List.setIfInBounds_toArray, List.set_cons_zero, List.set_cons_succ, i64_w, i32_w]
    rfl
  refine pure_ (i := 4) (N := some 23) (v := ?_) (a' := ?_) #[true, true, true, false, true, false, false, false, false, false, false, false] rfl rfl (by kernel_rfl) (fun _ _ _ h => h) (Or.inl ⟨by rfl, ?_⟩) ?_ ?_
  rotate_left
  · intro w'
    go_simp
    with_reducible rfl
  rotate_left
  · simp only [Act.put, List.setIfInBounds_toArray, List.set_cons_zero, List.set_cons_succ, i64_w, i32_w]
    rfl
  refine pure_ (i := 5) (N := some 24) (v := ?_) (a' := ?_) #[true, true, true, false, true, true, false, false, false, false, false, false] rfl rfl (by kernel_rfl) (fun _ _ _ h => h) (Or.inl ⟨by rfl, ?_⟩) ?_ ?_
  rotate_left
  · intro w'
    go_simp
    with_reducible rfl
  rotate_left
  · simp only [Act.put, List.setIfInBounds_toArray, List.set_cons_zero, List.set_cons_succ, i64_w, i32_w]
    rfl
  refine pure_ (i := 6) (N := some 25) (v := ?_) (a' := ?_) #[true, true, true, false, true, true, true, false, false, false, false, false] rfl rfl (by kernel_rfl) (fun _ _ _ h => h) (Or.inl ⟨by rfl, ?_⟩) ?_ ?_
  rotate_left
  · intro w'
    go_simp
    with_reducible rfl
  rotate_left
  · simp only [Act.put, List.setIfInBounds_toArray, List.set_cons_zero, List.set_cons_succ, i64_w, i32_w]
    rfl
  refine pure_ (i := 7) (N := some 26) (v := ?_) (a' := ?_) #[true, true, true, false, true, true, true, true, false, false, false, false] rfl rfl (by kernel_rfl) (fun _ _ _ h => h) (Or.inl ⟨by rfl, ?_⟩) ?_ ?_
  rotate_left
  · intro w'
    go_simp
    with_reducible rfl
  rotate_left
  · simp only [Act.put, List.setIfInBounds_toArray, List.set_cons_zero, List.set_cons_succ, i64_w, i32_w]
    rfl
  refine pure_ (i := 9) (N := some 28) (v := ?_) (a' := ?_) #[true, true, true, false, true, true, true, true, false, true, false, false] rfl rfl (by kernel_rfl) (fun _ _ _ h => h) (Or.inl ⟨by rfl, ?_⟩) ?_ ?_
  rotate_left
  · intro w'
    go_simp
    with_reducible rfl
  rotate_left
  · simp only [Act.put, List.setIfInBounds_toArray, List.set_cons_zero, List.set_cons_succ, i64_w, i32_w]
    rfl
  refine take_ (i := 3) (N := some 22) (v := ?_) (a' := ?_) #[true, true, true, true, true, true, true, true, false, true, false, false] rfl rfl (by kernel_rfl) (fun _ _ _ h => h) (Or.inl ⟨by rfl, ?_⟩) hHeld ?_ ?_
  rotate_left
  · rintro w' ⟨s0, s1, s2, s3⟩
    go_simp
    with_reducible rfl
  rotate_left
  · simp only [Act.put, List.setIfInBounds_toArray, List.set_cons_zero, List.set_cons_succ, i64_w, i32_w]
    rfl
  refine take_ (i := 8) (N := some 27) (v := ?_) (a' := ?_) #[true, true, true, true, true, true, true, true, true, true, false, false] rfl rfl (by kernel_rfl) (fun _ _ _ h => h) (Or.inl ⟨by rfl, ?_⟩) hHeld ?_ ?_
  rotate_left
  · rintro w' ⟨s0, s1, s2, s3⟩
    go_simp
    with_reducible rfl
  rotate_left
  · simp only [Act.put, List.setIfInBounds_toArray, List.set_cons_zero, List.set_cons_succ, i64_w, i32_w]
    rfl
  refine one_ (i := 10) (N := some 29) #[true, true, true, true, true, true, true, true, true, true, true, false] rfl rfl (by kernel_rfl) (by decide) (fun K hK => ?_)
  have hc := cols_yes R C a b g c m d HD.out HA.out HBb.out HAB.out HL2.out HW2.out _ (Mr.drw HM2.out) hHeld.2.2.2.out
  rw [hl2] at hc
  refine goes_ Tryd.func42 (by kernel_rfl) rfl #[.slice (some ⟨g, 0, none⟩) xs.length c, .agg #[.int .i64 (R : Int), .int .i64 (C : Int)], .int .i64 d] (by rfl) rfl rfl (by simp only [List.map_toArray, List.map_cons, List.map_nil]; rfl) ?_
  with_reducible refine (hc).mono ?_
  rintro e w3 ⟨rfl, hm3, hf3⟩
  refine ⟨_, rfl, ?_⟩
  clear hc
  rw [HLaw.out] at hm3
  have HO3 := Aside0.mk (HO2.out.drew.fr hf3 (by simpa using HNe.out))
  have HM3 := Aside0.mk hm3
  have HF3 := Aside0.mk (HF2.out.drew.trans hf3)
  have HT3 := Aside0.mk (tab_fr1 hHeld.2.2.2.out (Mr.drw HM2.out) (by rw [hl2]; exact hp0) hf3)
  clear hHeld hm3 hf3
  refine hK.out _ _ ⟨HO3.out.cell 0, HO3.out.cell 1, HO3.out.cell 2, HT3⟩ (fun hHeld => ?_)
  clear hK K
  refine norm_ (a' := ?_) ?_ ?_
  rotate_left
  · show Act.put _ (some 29) _ = _
    simp only [Act.put, List.setIfInBounds_toArray, List.set_cons_zero, List.set_cons_succ, i64_w, i32_w]
    rfl
  refine pure_ (i := 11) (N := some 5) (v := ?_) (a' := ?_) #[true, true, true, true, true, true, true, true, true, true, true, true] rfl rfl (by kernel_rfl) (fun _ _ _ h => h) (Or.inl ⟨by rfl, ?_⟩) ?_ ?_
  rotate_left
  · intro w'
    go_simp
    with_reducible rfl
  rotate_left
  · simp only [Act.put, List.setIfInBounds_toArray, List.set_cons_zero, List.set_cons_succ, i64_w, i32_w]
    rfl
  refine done_ (by kernel_rfl) ?_
  clear hHeld
  go_wp2
  go_ret
  exact ⟨rfl, ⟨by rw [hzl]; exact HO3.out, HM3.out⟩, HF3.out⟩
end Go.Proofs.YtpnkcjnemoompaaDoor.Grid
end
section
namespace Go.Proofs.YtpnkcjnemoompaaDoor.Grid
open Go.RowKit Go.Proofs.YtpnkcjnemoompaaDoor Go.Proofs.YtpnkcjnemoompaaDoor.Ext Go.Proofs.YtpnkcjnemoompaaDoor.PPlan Go.Proofs.YtpnkcjnemoompaaDoor.PFft Go.Proofs.YtpnkcjnemoompaaDoor.Pure Go.Proofs.YtpnkcjnemoompaaDoor.Obj Go.Proofs.YtpnkcjnemoompaaDoor.Fft Go.Proofs.YtpnkcjnemoompaaDoor.Kern Go.Proofs.YtpnkcjnemoompaaDoorW.PrintWords Go.Proofs.YtpnkcjnemoompaaDoorW.PrintLast Go.Proofs.YtpnkcjnemoompaaDoorW.PrintMore
set_option linter.unusedVariables false
set_option linter.unusedSimpArgs false
set_option maxRecDepth 100000
theorem eqA23 (d : Nat) (w : World) (x0 y0 x1 y1 : Int) :
    (Op.equalIn (d + 2) 23 (.agg #[.int .i64 x0, .int .i64 x1]) (.agg #[.int .i64 y0, .int .i64 y1])).run Tryd.prog w = .ok (x0 == y0 && (x1 == y1)) w := by
  refine eqA_of Tryd.underlying23 (by kernel_rfl) ?_
  refine eqf_cons (by rfl) (by go_simp; rfl) (by go_simp; rfl) (by go_simp) ?_
  exact eqf_last (by rfl) (by go_simp; rfl) (by go_simp; rfl) (by go_simp)
attribute [local go_sem high] eqA23
theorem gcheck_nil (v : Value) (w : World) : Calls Tryd.prog 75 #[v, .pointer none] w fun e w' => e = .returned (.int .i64 1) ∧ w' = w := by
  go_enter Tryd.func75, Tryd.ntmps75
  go_wp2
  go_ret
  exact ⟨rfl, rfl⟩
set_option maxHeartbeats 4000000 in
theorem gcheck_of (p q : Nat) (R C R2 C2 r : Int) (b : Bool) (hb : (R2 == R && (C2 == C)) = b) (hr : r = if b then 0 else 19) (w : World) (h0 : w.cell? ⟨p, 0, none⟩ = some (.int .i64 R)) (h1 : w.cell? ⟨p, 1, none⟩ = some (.int .i64 C)) (h2 : w.cell? ⟨q, 0, none⟩ = some (.int .i64 R2)) (h3 : w.cell? ⟨q, 1, none⟩ = some (.int .i64 C2)) :
    Calls Tryd.prog 75 #[.pointer (some ⟨p, 0, none⟩), .pointer (some ⟨q, 0, none⟩)] w fun e w' => e = .returned (.int .i64 r) ∧ Below w.heap.size w w' := by
  have HB := Aside0.mk (Below.refl w.heap.size w)
  cases b
  · obtain rfl : r = 19 := by simpa using hr
    clear hr
    go_enter Tryd.func75, Tryd.ntmps75
    go_wp2_with fail
    refine start_ (n := 12) (S := fun w' => w'.cell? ⟨p, 0, none⟩ = some (.int .i64 R) ∧ w'.cell? ⟨p, 1, none⟩ = some (.int .i64 C) ∧ w'.cell? ⟨q, 0, none⟩ = some (.int .i64 R2) ∧ w'.cell? ⟨q, 1, none⟩ = some (.int .i64 C2) ∧ Aside0 (Below w.heap.size w w')) (ds := []) #[false, false, false, false, false, false, false, false, false, false, false, false] (by kernel_rfl) rfl rfl ⟨h0, h1, h2, h3, ⟨below_drew1 HB.out⟩⟩ (fun hHeld => ?_)
    refine pure_ (i := 0) (N := some 9) (v := ?_) (a' := ?_) #[true, false, false, false, false, false, false, false, false, false, false, false] rfl rfl (by kernel_rfl) (fun _ _ _ h => h) (Or.inl ⟨by rfl, ?_⟩) ?_ ?_
    rotate_left
    · intro w'
      go_simp
      with_reducible rfl
    rotate_left
    · simp only [Act.put, List.setIfInBounds_toArray, List.set_cons_zero, List.set_cons_succ, i64_w, i32_w]
      rfl
    refine pure_ (i := 1) (N := some 10) (v := ?_) (a' := ?_) #[true, true, false, false, false, false, false, false, false, false, false, false] rfl rfl (by kernel_rfl) (fun _ _ _ h => h) (Or.inl ⟨by rfl, ?_⟩) ?_ ?_
    rotate_left
    · intro w'
      go_simp
      with_reducible rfl
    rotate_left
    · simp only [Act.put, List.setIfInBounds_toArray, List.set_cons_zero, List.set_cons_succ, i64_w, i32_w]
      rfl
    refine pure_ (i := 2) (N := some 11) (v := ?_) (a' := ?_) #[true, true, true, false, false, false, false, false, false, false, false, false] rfl rfl (by kernel_rfl) (fun _ _ _ h => h) (Or.inl ⟨by rfl, ?_⟩) ?_ ?_
    rotate_left
    · intro w'
      go_simp
      with_reducible rfl
    rotate_left
    · simp only [Act.put, List.setIfInBounds_toArray, List.set_cons_zero, List.set_cons_succ, i64_w, i32_w]
      rfl
    refine pure_ (i := 3) (N := some 12) (v := ?_) (a' := ?_) #[true, true, true, true, false, false, false, false, false, false, false, false] rfl rfl (by kernel_rfl) (fun _ _ _ h => h) (Or.inl ⟨by rfl, ?_⟩) ?_ ?_
    rotate_left
    · intro w'
      go_simp
      with_reducible rfl
    rotate_left
    · simp only [Act.put, List.setIfInBounds_toArray, List.set_cons_zero, List.set_cons_succ, i64_w, i32_w]
      rfl
    refine pure_ (i := 5) (N := some 14) (v := ?_) (a' := ?_) #[true, true, true, true, false, true, false, false, false, false, false, false] rfl rfl (by kernel_rfl) (fun _ _ _ h => h) (Or.inl ⟨by rfl, ?_⟩) ?_ ?_
    rotate_left
    · intro w'
      go_simp
      with_reducible rfl
    rotate_left
    · simp only [Act.put, List.setIfInBounds_toArray, List.set_cons_zero, List.set_cons_succ, i64_w, i32_w]
      rfl
    refine pure_ (i := 6) (N := some 15) (v := ?_) (a' := ?_) #[true, true, true, true, false, true, true, false, false, false, false, false] rfl rfl (by kernel_rfl) (fun _ _ _ h => h) (Or.inl ⟨by rfl, ?_⟩) ?_ ?_
    rotate_left
    · intro w'
      go_simp
      with_reducible rfl
    rotate_left
    · simp only [Act.put, List.setIfInBounds_toArray, List.set_cons_zero, List.set_cons_succ, i64_w, i32_w]
      rfl
    refine pure_ (i := 7) (N := some 16) (v := ?_) (a' := ?_) #[true, true, true, true, false, true, true, true, false, false, false, false] rfl rfl (by kernel_rfl) (fun _ _ _ h => h) (Or.inl ⟨by rfl, ?_⟩) ?_ ?_
    rotate_left
    · intro w'
      go_simp
      with_reducible rfl
    rotate_left
    · simp only [Act.put, List.setIfInBounds_toArray, List.set_cons_zero, List.set_cons_succ, i64_w, i32_w]
      rfl
    refine pure_ (i := 8) (N := some 17) (v := ?_) (a' := ?_) #[true, true, true, true, false, true, true, true, true, false, false, false] rfl rfl (by kernel_rfl) (fun _ _ _ h => h) (Or.inl ⟨by rfl, ?_⟩) ?_ ?_
    rotate_left
    · intro w'
      go_simp
      with_reducible rfl
    rotate_left
    · simp only [Act.put, List.setIfInBounds_toArray, List.set_cons_zero, List.set_cons_succ, i64_w, i32_w]
      rfl
    refine take_ (i := 4) (N := some 13) (v := ?_) (a' := ?_) #[true, true, true, true, true, true, true, true, true, false, false, false] rfl rfl (by kernel_rfl) (fun _ _ _ h => h) (Or.inl ⟨by rfl, ?_⟩) hHeld ?_ ?_
    rotate_left
    · rintro w' ⟨s0, s1, s2, s3, s4⟩
      go_simp
      with_reducible rfl
    rotate_left
    · simp only [Act.put, List.setIfInBounds_toArray, List.set_cons_zero, List.set_cons_succ, i64_w, i32_w]
      rfl
    refine take_ (i := 9) (N := some 18) (v := ?_) (a' := ?_) #[true, true, true, true, true, true, true, true, true, true, false, false] rfl rfl (by kernel_rfl) (fun _ _ _ h => h) (Or.inl ⟨by rfl, ?_⟩) hHeld ?_ ?_
    rotate_left
    · rintro w' ⟨s0, s1, s2, s3, s4⟩
      go_simp
      with_reducible rfl
    rotate_left
    · simp only [Act.put, List.setIfInBounds_toArray, List.set_cons_zero, List.set_cons_succ, i64_w, i32_w]
      rfl
    refine pure_ (i := 10) (N := some 19) (v := ?_) (a' := ?_) #[true, true, true, true, true, true, true, true, true, true, true, false] rfl rfl (by kernel_rfl) (fun _ _ _ h => h) (Or.inl ⟨by rfl, ?_⟩) ?_ ?_
    rotate_left
    · intro w'
      go_simp
      with_reducible rfl
    rotate_left
    · simp only [Act.put, List.setIfInBounds_toArray, List.set_cons_zero, List.set_cons_succ, i64_w, i32_w]
      rfl
    refine pure_ (i := 11) (N := some 8) (v := ?_) (a' := ?_) #[true, true, true, true, true, true, true, true, true, true, true, true] rfl rfl (by kernel_rfl) (fun _ _ _ h => h) (Or.inl ⟨by rfl, ?_⟩) ?_ ?_
    rotate_left
    · intro w'
      go_simp
      with_reducible rfl
    rotate_left
    · simp only [Act.put, List.setIfInBounds_toArray, List.set_cons_zero, List.set_cons_succ, i64_w, i32_w]
      rfl
    refine done_ (by kernel_rfl) ?_
    have HB2 := hHeld.2.2.2.2
    clear hHeld
    go_wp2
    go_ret
    exact ⟨rfl, HB2.out⟩
  · obtain rfl : r = 0 := by simpa using hr
    clear hr
    go_enter Tryd.func75, Tryd.ntmps75
    go_wp2_with fail
    refine start_ (n := 12) (S := fun w' => w'.cell? ⟨p, 0, none⟩ = some (.int .i64 R) ∧ w'.cell? ⟨p, 1, none⟩ = some (.int .i64 C) ∧ w'.cell? ⟨q, 0, none⟩ = some (.int .i64 R2) ∧ w'.cell? ⟨q, 1, none⟩ = some (.int .i64 C2) ∧ Aside0 (Below w.heap.size w w')) (ds := []) #[false, false, false, false, false, false, false, false, false, false, false, false] (by kernel_rfl) rfl rfl ⟨h0, h1, h2, h3, ⟨below_drew1 HB.out⟩⟩ (fun hHeld => ?_)
    refine pure_ (i := 0) (N := some 9) (v := ?_) (a' := ?_) #[true, false, false, false, false, false, false, false, false, false, false, false] rfl rfl (by kernel_rfl) (fun _ _ _ h => h) (Or.inl ⟨by rfl, ?_⟩) ?_ ?_
    rotate_left
    · intro w'
      go_simp
      with_reducible rfl
    rotate_left
    · simp only [Act.put, List.setIfInBounds_toArray, List.set_cons_zero, List.set_cons_succ, i64_w, i32_w]
      rfl
    refine pure_ (i := 1) (N := some 10) (v := ?_) (a' := ?_) #[true, true, false, false, false, false, false, false, false, false, false, false] rfl rfl (by kernel_rfl) (fun _ _ _ h => h) (Or.inl ⟨by rfl, ?_⟩) ?_ ?_
    rotate_left
    · intro w'
      go_simp
      with_reducible rfl
    rotate_left
    · simp only [Act.put, List.setIfInBounds_toArray, List.set_cons_zero, List.set_cons_succ, i64_w, i32_w]
      rfl
    refine pure_ (i := 2) (N := some 11) (v := ?_) (a' := ?_) #[true, true, true, false, false, false, false, false, false, false, false, false] rfl rfl (by kernel_rfl) (fun _ _ _ h => h) (Or.inl ⟨by rfl, ?_⟩) ?_ ?_
    rotate_left
    · intro w'
      go_simp
      with_reducible rfl
    rotate_left
    · simp only [Act.put, List.setIfInBounds_toArray, List.set_cons_zero, List.set_cons_succ, i64_w, i32_w]
      rfl
    refine pure_ (i := 3) (N := some 12) (v := ?_) (a' := ?_) #[true, true, true, true, false, false, false, false, false, false, false, false] rfl rfl (by kernel_rfl) (fun _ _ _ h => h) (Or.inl ⟨by rfl, ?_⟩) ?_ ?_
    rotate_left
    · intro w'
      go_simp
      with_reducible rfl
    rotate_left
    · simp only [Act.put, List.setIfInBounds_toArray, List.set_cons_zero, List.set_cons_succ, i64_w, i32_w]
      rfl
    refine pure_ (i := 5) (N := some 14) (v := ?_) (a' := ?_) #[true, true, true, true, false, true, false, false, false, false, false, false] rfl rfl (by kernel_rfl) (fun _ _ _ h => h) (Or.inl ⟨by rfl, ?_⟩) ?_ ?_
    rotate_left
    · intro w'
      go_simp
      with_reducible rfl
    rotate_left
    · simp only [Act.put, List.setIfInBounds_toArray, List.set_cons_zero, List.set_cons_succ, i64_w, i32_w]
      rfl
    refine pure_ (i := 6) (N := some 15) (v := ?_) (a' := ?_) #[true, true, true, true, false, true, true, false, false, false, false, false] rfl rfl (by kernel_rfl) (fun _ _ _ h => h) (Or.inl ⟨by rfl, ?_⟩) ?_ ?_
    rotate_left
    · intro w'
      go_simp
      with_reducible rfl
    rotate_left
    · simp only [Act.put, List.setIfInBounds_toArray, List.set_cons_zero, List.set_cons_succ, i64_w, i32_w]
      rfl
    refine pure_ (i := 7) (N := some 16) (v := ?_) (a' := ?_) #[true, true, true, true, false, true, true, true, false, false, false, false] rfl rfl (by kernel_rfl) (fun _ _ _ h => h) (Or.inl ⟨by rfl, ?_⟩) ?_ ?_
    rotate_left
    · intro w'
      go_simp
      with_reducible rfl
    rotate_left
    · simp only [Act.put, List.setIfInBounds_toArray, List.set_cons_zero, List.set_cons_succ, i64_w, i32_w]
      rfl
    refine pure_ (i := 8) (N := some 17) (v := ?_) (a' := ?_) #[true, true, true, true, false, true, true, true, true, false, false, false] rfl rfl (by kernel_rfl) (fun _ _ _ h => h) (Or.inl ⟨by rfl, ?_⟩) ?_ ?_
    rotate_left
    · intro w'
      go_simp
      with_reducible rfl
    rotate_left
    · simp only [Act.put, List.setIfInBounds_toArray, List.set_cons_zero, List.set_cons_succ, i64_w, i32_w]
      rfl
    refine take_ (i := 4) (N := some 13) (v := ?_) (a' := ?_) #[true, true, true, true, true, true, true, true, true, false, false, false] rfl rfl (by kernel_rfl) (fun _ _ _ h => h) (Or.inl ⟨by rfl, ?_⟩) hHeld ?_ ?_
    rotate_left
    · rintro w' ⟨s0, s1, s2, s3, s4⟩
      go_simp
      with_reducible rfl
    rotate_left
    · simp only [Act.put, List.setIfInBounds_toArray, List.set_cons_zero, List.set_cons_succ, i64_w, i32_w]
      rfl
    refine take_ (i := 9) (N := some 18) (v := ?_) (a' := ?_) #[true, true, true, true, true, true, true, true, true, true, false, false] rfl rfl (by kernel_rfl) (fun _ _ _ h => h) (Or.inl ⟨by rfl, ?_⟩) hHeld ?_ ?_
    rotate_left
    · rintro w' ⟨s0, s1, s2, s3, s4⟩
      go_simp
      with_reducible rfl
    rotate_left
    · simp only [Act.put, List.setIfInBounds_toArray, List.set_cons_zero, List.set_cons_succ, i64_w, i32_w]
      rfl
    refine pure_ (i := 10) (N := some 19) (v := ?_) (a' := ?_) #[true, true, true, true, true, true, true, true, true, true, true, false] rfl rfl (by kernel_rfl) (fun _ _ _ h => h) (Or.inl ⟨by rfl, ?_⟩) ?_ ?_
    rotate_left
    · intro w'
      go_simp
      with_reducible rfl
    rotate_left
    · simp only [Act.put, List.setIfInBounds_toArray, List.set_cons_zero, List.set_cons_succ, i64_w, i32_w]
      rfl
    refine pure_ (i := 11) (N := some 8) (v := ?_) (a' := ?_) #[true, true, true, true, true, true, true, true, true, true, true, true] rfl rfl (by kernel_rfl) (fun _ _ _ h => h) (Or.inl ⟨by rfl, ?_⟩) ?_ ?_
    rotate_left
    · intro w'
      go_simp
      with_reducible rfl
    rotate_left
    · simp only [Act.put, List.setIfInBounds_toArray, List.set_cons_zero, List.set_cons_succ, i64_w, i32_w]
      rfl
    refine done_ (by kernel_rfl) ?_
    have HB2 := hHeld.2.2.2.2
    clear hHeld
    go_wp2
    go_ret
    exact ⟨rfl, HB2.out⟩
set_option maxHeartbeats 4000000 in
theorem gcopy (p g c : Nat) (R C : Int) (xs : List Int) (hp : 0 < xs.length) (hL : xs.length ≤ 1048576) (w : World) (hG : Gd w p g c R C xs) :
    Calls Tryd.prog 76 #[.pointer (some ⟨p, 0, none⟩)] w fun e w' => ∃ q h d, e = .returned (.pointer (some ⟨q, 0, none⟩)) ∧ Gd w' q h d R C xs ∧ Below w.heap.size w w' ∧ w.heap.size ≤ q ∧ w.heap.size ≤ h := by
  have HG0 := Aside0.mk hG
  clear hG
  go_enter Tryd.func76, Tryd.ntmps76
  go_wp2_with fail
  refine start_ (n := 9) (S := fun w' => w'.cell? ⟨p, 0, none⟩ = some (.int .i64 R) ∧ w'.cell? ⟨p, 1, none⟩ = some (.int .i64 C) ∧ Aside0 (Gd w' p g c R C xs ∧ Below w.heap.size w w')) (ds := []) #[false, false, false, false, false, false, false, false, false] (by kernel_rfl) rfl rfl ⟨HG0.out.drew.c0, HG0.out.drew.c1, ⟨HG0.out.drew, below_drew1 (Below.refl _ _)⟩⟩ (fun hHeld => ?_)
  refine pure_ (i := 0) (N := some 3) (v := ?_) (a' := ?_) #[true, false, false, false, false, false, false, false, false] rfl rfl (by kernel_rfl) (fun _ _ _ h => h) (Or.inl ⟨by rfl, ?_⟩) ?_ ?_
  rotate_left
  · intro w'
    go_simp
    with_reducible rfl
  rotate_left
  · simp only [Act.put, List.setIfInBounds_toArray, List.set_cons_zero, List.set_cons_succ, i64_w, i32_w]
    rfl
  refine pure_ (i := 1) (N := some 4) (v := ?_) (a' := ?_) #[true, true, false, false, false, false, false, false, false] rfl rfl (by kernel_rfl) (fun _ _ _ h => h) (Or.inl ⟨by rfl, ?_⟩) ?_ ?_
  rotate_left
  · intro w'
    go_simp
    with_reducible rfl
  rotate_left
  · simp only [Act.put, List.setIfInBounds_toArray, List.set_cons_zero, List.set_cons_succ, i64_w, i32_w]
    rfl
  refine pure_ (i := 2) (N := some 5) (v := ?_) (a' := ?_) #[true, true, true, false, false, false, false, false, false] rfl rfl (by kernel_rfl) (fun _ _ _ h => h) (Or.inl ⟨by rfl, ?_⟩) ?_ ?_
  rotate_left
  · intro w'
    go_simp
    with_reducible rfl
  rotate_left
  · simp only [Act.put, List.setIfInBounds_toArray, List.set_cons_zero, List.set_cons_succ, i64_w, i32_w]
    rfl
  refine pure_ (i := 4) (N := some 7) (v := ?_) (a' := ?_) #[true, true, true, false, true, false, false, false, false] rfl rfl (by kernel_rfl) (fun _ _ _ h => h) (Or.inl ⟨by rfl, ?_⟩) ?_ ?_
  rotate_left
  · intro w'
    go_simp
    with_reducible rfl
  rotate_left
  · simp only [Act.put, List.setIfInBounds_toArray, List.set_cons_zero, List.set_cons_succ, i64_w, i32_w]
    rfl
  refine take_ (i := 3) (N := some 6) (v := ?_) (a' := ?_) #[true, true, true, true, true, false, false, false, false] rfl rfl (by kernel_rfl) (fun _ _ _ h => h) (Or.inl ⟨by rfl, ?_⟩) hHeld ?_ ?_
  rotate_left
  · rintro w' ⟨s0, s1, s2⟩
    go_simp
    with_reducible rfl
  rotate_left
  · simp only [Act.put, List.setIfInBounds_toArray, List.set_cons_zero, List.set_cons_succ, i64_w, i32_w]
    rfl
  refine one_ (i := 5) (N := some 8) #[true, true, true, true, true, true, false, false, false] rfl rfl (by kernel_rfl) (by decide) (fun K hK => ?_)
  refine goes_ Tryd.func20 (by kernel_rfl) rfl #[.pointer (some ⟨p, 0, none⟩)] (by rfl) rfl rfl (by simp only [List.map_toArray, List.map_cons, List.map_nil]; rfl) ?_
  with_reducible refine (gwords p g c R C xs _ hHeld.2.2.out.1 hp hL).mono ?_
  rintro e w2 ⟨h, d, rfl, hm, hb, hge⟩
  refine ⟨_, rfl, ?_⟩
  have HG2 := Aside0.mk (hHeld.2.2.out.1.below hb)
  have HB2 := Aside0.mk (below_then hHeld.2.2.out.2 hHeld.2.2.out.2.size hb)
  have HM2 := Aside0.mk hm
  have HGe := Aside0.mk (show w.heap.size ≤ h by have := hHeld.2.2.out.2.size; omega)
  clear hHeld hb hm hge
  refine hK.out _ _ ⟨HG2.out.c0, HG2.out.c1, ⟨HG2.out, HB2.out⟩⟩ (fun hHeld => ?_)
  clear hK K
  refine norm_ (a' := ?_) ?_ ?_
  rotate_left
  · show Act.put _ (some 8) _ = _
    simp only [Act.put, List.setIfInBounds_toArray, List.set_cons_zero, List.set_cons_succ, i64_w, i32_w]
    rfl
  refine pure_ (i := 6) (N := some 9) (v := ?_) (a' := ?_) #[true, true, true, true, true, true, true, false, false] rfl rfl (by kernel_rfl) (fun _ _ _ h => h) (Or.inl ⟨by rfl, ?_⟩) ?_ ?_
  rotate_left
  · intro w'
    go_simp
    with_reducible rfl
  rotate_left
  · simp only [Act.put, List.setIfInBounds_toArray, List.set_cons_zero, List.set_cons_succ, i64_w, i32_w]
    rfl
  refine one_ (i := 7) (N := some 10) #[true, true, true, true, true, true, true, true, false] rfl rfl (by kernel_rfl) (by decide) (fun K hK => ?_)
  refine value_ (w1 := ?_) (v := ?_) (by rfl) rfl ?_ ?_
  rotate_left 2
  · go_simp
    constructor
    · rfl
    · rfl
  have HQ3 : Aside0 (Gd (w2.alloc (Obj.cells #[.int .i64 R, .int .i64 C, .slice (some ⟨h, 0, none⟩) xs.length d] 35)) w2.heap.size h d R C xs) := ⟨Bk.new w2 35 [.int .i64 R, .int .i64 C, .slice (some ⟨h, 0, none⟩) xs.length d], HM2.out.below (below_alloc (Below.refl _ _) _)⟩
  have HB3 := Aside0.mk (below_alloc HB2.out (Obj.cells #[.int .i64 R, .int .i64 C, .slice (some ⟨h, 0, none⟩) xs.length d] 35))
  have HG3 := Aside0.mk (HG2.out.below (below_alloc (Below.refl _ _) (Obj.cells #[.int .i64 R, .int .i64 C, .slice (some ⟨h, 0, none⟩) xs.length d] 35)))
  clear hHeld
  refine hK.out _ _ ⟨HG3.out.c0, HG3.out.c1, ⟨HG3.out, HB3.out⟩⟩ (fun hHeld => ?_)
  clear hK K
  refine norm_ (a' := ?_) ?_ ?_
  rotate_left
  · show Act.put _ (some 10) _ = _
    simp only [Act.put, List.setIfInBounds_toArray, List.set_cons_zero, List.set_cons_succ, i64_w, i32_w]
    rfl
  refine pure_ (i := 8) (N := some 2) (v := ?_) (a' := ?_) #[true, true, true, true, true, true, true, true, true] rfl rfl (by kernel_rfl) (fun _ _ _ h => h) (Or.inl ⟨by rfl, ?_⟩) ?_ ?_
  rotate_left
  · intro w'
    go_simp
    with_reducible rfl
  rotate_left
  · simp only [Act.put, List.setIfInBounds_toArray, List.set_cons_zero, List.set_cons_succ, i64_w, i32_w]
    rfl
  refine done_ (by kernel_rfl) ?_
  clear hHeld
  go_wp2
  go_ret
  exact ⟨_, _, _, rfl, HQ3.out, HB3.out, HB2.out.size, HGe.out⟩
end Go.Proofs.YtpnkcjnemoompaaDoor.Grid
end
section
namespace Go.Proofs.YtpnkcjnemoompaaDoor.Grid
open Go.RowKit Go.Proofs.YtpnkcjnemoompaaDoor Go.Proofs.YtpnkcjnemoompaaDoor.Ext Go.Proofs.YtpnkcjnemoompaaDoor.PPlan Go.Proofs.YtpnkcjnemoompaaDoor.PFft Go.Proofs.YtpnkcjnemoompaaDoor.Pure Go.Proofs.YtpnkcjnemoompaaDoor.Obj Go.Proofs.YtpnkcjnemoompaaDoor.Fft Go.Proofs.YtpnkcjnemoompaaDoor.Kern Go.Proofs.YtpnkcjnemoompaaDoorW.PrintWords Go.Proofs.YtpnkcjnemoompaaDoorW.PrintLast Go.Proofs.YtpnkcjnemoompaaDoorW.PrintMore
set_option linter.unusedVariables false
set_option linter.unusedSimpArgs false
set_option maxRecDepth 100000
def upto (xs : List Int) (f : Nat → Int) : Nat → List Int
  | 0 => xs
  | i + 1 => (upto xs f i).set i (f i)
theorem upto_len (xs : List Int) (f : Nat → Int) (i : Nat) : (upto xs f i).length = xs.length := by
  induction i with
  | zero => rfl
  | succ i ih => rw [upto, List.length_set, ih]
theorem upto_ge (xs : List Int) (f : Nat → Int) (i j : Nat) (h : i ≤ j) : (upto xs f i).getD j 0 = xs.getD j 0 := by
  induction i with
  | zero => rfl
  | succ i ih =>
    rw [upto, List.getD_eq_getElem?_getD, List.getElem?_set_ne (by omega), ← List.getD_eq_getElem?_getD, ih (by omega)]
theorem upto_lt (xs : List Int) (f : Nat → Int) (i j : Nat) (h : j < i) (hj : j < xs.length) : (upto xs f i).getD j 0 = f j := by
  induction i with
  | zero => omega
  | succ i ih =>
    rw [upto, List.getD_eq_getElem?_getD]
    by_cases e : j = i
    · subst e
      rw [List.getElem?_set_self (by rw [upto_len]; exact hj)]
      rfl
    · rw [List.getElem?_set_ne (by omega), ← List.getD_eq_getElem?_getD, ih (by omega)]
theorem upto_all (xs : List Int) (f : Nat → Int) (n : Nat) (hn : xs.length = n) : upto xs f n = tl n f := by
  refine list_ext (by rw [upto_len, tl_len, hn]) fun j hj => ?_
  rw [upto_len, hn] at hj
  rw [upto_lt xs f n j hj (by omega), tl_get _ hj]
structure Tm (w0 w : World) (p g c q h d : Nat) (R C : Int) (n : Nat) (xs ys : List Int) : Prop where
  obj : Bk w p 35 [.int .i64 R, .int .i64 C, .slice (some ⟨g, 0, none⟩) n c]
  row : Mr w g c xs
  ob2 : Bk w q 35 [.int .i64 R, .int .i64 C, .slice (some ⟨h, 0, none⟩) n d]
  ro2 : Mr w h d ys
  fr : Fr w0 w [g]
theorem Tm.below {w0 w w' : World} {p g c q h d : Nat} {R C : Int} {n : Nat} {xs ys : List Int} (k : Tm w0 w p g c q h d R C n xs ys) (hb : Below w.heap.size w w') : Tm w0 w' p g c q h d R C n xs ys :=
  ⟨k.obj.below hb, k.row.below hb, k.ob2.below hb, k.ro2.below hb, k.fr.trans (Fr.of_below hb [g])⟩
theorem Tm.drew {w0 w : World} {p g c q h d : Nat} {R C : Int} {n : Nat} {xs ys : List Int} (k : Tm w0 w p g c q h d R C n xs ys) : Tm w0 w.drew p g c q h d R C n xs ys := k.below (below_drew1 (Below.refl _ _))
theorem Tm.put {w0 w : World} {p g c q h d : Nat} {R C : Int} {n : Nat} {xs ys : List Int} (k : Tm w0 w p g c q h d R C n xs ys) (hgh : g ≠ h) (i : Nat) (x : Int) : Tm w0 (w.setCell ⟨g, i, none⟩ (.int .u64 x)) p g c q h d R C n (xs.set i x) ys :=
  ⟨k.obj.far i _ (k.row.ne k.obj (by decide)), k.row.put i x, k.ob2.far i _ (k.row.ne k.ob2 (by decide)), k.ro2.far g i _ (Ne.symm hgh), k.fr.set g i _ (.inl (by simp))⟩
set_option maxHeartbeats 8000000 in
theorem gtimes_yes (p g c q h d : Nat) (R C : Int) (n : Nat) (xs ys : List Int) (hn : xs.length = n) (hm : ys.length = n) (hN : n ≤ 1048576) (hWx : Ws xs) (hWy : Ws ys) (hgh : g ≠ h) (w : World) (hG : Gd w p g c R C xs) (hQ : Gd w q h d R C ys) :
    Calls Tryd.prog 26 #[.pointer (some ⟨p, 0, none⟩), .pointer (some ⟨q, 0, none⟩)] w fun e w' => e = .returned (.int .i64 0) ∧ Gd w' p g c R C (tb n fun i => el xs i * el ys i) ∧ Fr w w' [g] := by
  have HK0 := Aside0.mk (show Tm w w p g c q h d R C n (upto xs (fun i => fv (el xs i * el ys i)) 0) ys from ⟨by rw [← hn]; exact hG.obj, hG.row, by rw [← hm]; exact hQ.obj, hQ.row, Fr.refl _ _⟩)
  have HWx := Aside0.mk hWx
  have HWy := Aside0.mk hWy
  have HC := Aside0.mk (show (R == R && (C == C)) = true by simp)
  obtain ⟨f, hf⟩ : ∃ f, f = fun i => fv (el xs i * el ys i) := ⟨_, rfl⟩
  have HFd := Aside0.mk hf
  have HRes := Aside0.mk (show tl n f = tb n fun i => el xs i * el ys i by rw [hf]; rfl)
  have HMul : ∀ i, gold_Mul.f (xs.getD i 0) (ys.getD i 0) = some (f i) := by
    intro i
    rw [hf]
    exact gMul _ _ (hWx i) (hWy i)
  have HMu := Aside0.mk HMul
  rw [← hf] at HK0
  have HL := Aside0.mk hn
  have HLy := Aside0.mk hm
  clear hf HMul hWx hWy hG hQ hn hm
  go_enter Tryd.func26, Tryd.ntmps26
  go_wp2_with fail
  with_reducible refine (gcheck_of p q R C R C 0 true HC.out rfl _ (HK0.out.obj.cell 0) (HK0.out.obj.cell 1) (HK0.out.ob2.cell 0) (HK0.out.ob2.cell 1)).mono ?_
  rintro e w1 ⟨rfl, hb⟩
  have HK1 := Aside0.mk (HK0.out.below hb)
  clear hb HK0
  go_wp2
  go_loopw [6] (fun v6 wr => ∃ i : Nat, v6 = .int .i64 i ∧ i ≤ n ∧ Aside0 (Tm w wr p g c q h d R C n (upto xs f i) ys)) (fun v6 _ => n - (intOf v6).toNat)
  case atStart => exact ⟨0, rfl, Nat.zero_le _, HK1⟩
  case round =>
    clear HK1
    obtain ⟨i, rfl, hi, HK⟩ := hrel
    have u2 := HK.out.obj.cell 2
    by_cases h1 : i < n
    · have hia : (i : Int) < (n : Int) := by omega
      have hi0 : (0 : Int) ≤ (i : Int) := by omega
      have e1 : (upto xs f i).getD i 0 = xs.getD i 0 := upto_ge xs f i i (Nat.le_refl _)
      have hx := HK.out.row.cell i (by rw [upto_len, HL.out]; exact h1)
      have hy := HK.out.ro2.cell i (by rw [HLy.out]; exact h1)
      have hmu := HMu.out i
      rw [e1] at hx
      generalize xs.getD i 0 = x at *
      generalize ys.getD i 0 = y at *
      have HX := Aside0.mk hx
      have HY := Aside0.mk hy
      have HMu2 := Aside0.mk hmu
      clear e1 hx hy hmu
      go_wp2_with fail
      clear u2
      refine start_ (n := 22) (S := fun w' => w'.cell? ⟨p, 2, none⟩ = some (.slice (some ⟨g, 0, none⟩) n c) ∧ w'.cell? ⟨q, 2, none⟩ = some (.slice (some ⟨h, 0, none⟩) n d) ∧ w'.cell? ⟨g, i, none⟩ = some (.int .u64 x) ∧ w'.cell? ⟨h, i, none⟩ = some (.int .u64 y) ∧ Aside0 (Tm w w' p g c q h d R C n (upto xs f i) ys)) (ds := [21]) #[false, false, false, false, false, false, false, false, false, false, false, false, false, false, false, false, false, false, false, false, false, false] (by kernel_rfl) rfl rfl ⟨HK.out.drew.obj.cell 2, HK.out.drew.ob2.cell 2, HX.out, HY.out, ⟨HK.out.drew⟩⟩ (fun hHeld => ?_)
      refine pure_ (i := 0) (N := some 23) (v := ?_) (a' := ?_) #[true, false, false, false, false, false, false, false, false, false, false, false, false, false, false, false, false, false, false, false, false, false] rfl rfl (by kernel_rfl) (fun _ _ _ h => h) (Or.inl ⟨by rfl, ?_⟩) ?_ ?_
      rotate_left
      · intro w'
        go_simp
        with_reducible rfl
      rotate_left
      · simp only [Act.put, List.setIfInBounds_toArray, List.set_cons_zero, List.set_cons_succ, i64_w, i32_w]
        rfl
      refine pure_ (i := 1) (N := some 24) (v := ?_) (a' := ?_) #[true, true, false, false, false, false, false, false, false, false, false, false, false, false, false, false, false, false, false, false, false, false] rfl rfl (by kernel_rfl) (fun _ _ _ h => h) (Or.inl ⟨by rfl, ?_⟩) ?_ ?_
      rotate_left
      · intro w'
        go_simp
        with_reducible rfl
      rotate_left
      · simp only [Act.put, List.setIfInBounds_toArray, List.set_cons_zero, List.set_cons_succ, i64_w, i32_w]
        rfl
      refine pure_ (i := 2) (N := some 25) (v := ?_) (a' := ?_) #[true, true, true, false, false, false, false, false, false, false, false, false, false, false, false, false, false, false, false, false, false, false] rfl rfl (by kernel_rfl) (fun _ _ _ h => h) (Or.inl ⟨by rfl, ?_⟩) ?_ ?_
      rotate_left
      · intro w'
        go_simp
        with_reducible rfl
      rotate_left
      · simp only [Act.put, List.setIfInBounds_toArray, List.set_cons_zero, List.set_cons_succ, i64_w, i32_w]
        rfl
      refine pure_ (i := 4) (N := some 27) (v := ?_) (a' := ?_) #[true, true, true, false, true, false, false, false, false, false, false, false, false, false, false, false, false, false, false, false, false, false] rfl rfl (by kernel_rfl) (fun _ _ _ h => h) (Or.inl ⟨by rfl, ?_⟩) ?_ ?_
      rotate_left
      · intro w'
        go_simp
        with_reducible rfl
      rotate_left
      · simp only [Act.put, List.setIfInBounds_toArray, List.set_cons_zero, List.set_cons_succ, i64_w, i32_w]
        rfl
      refine pure_ (i := 5) (N := some 28) (v := ?_) (a' := ?_) #[true, true, true, false, true, true, false, false, false, false, false, false, false, false, false, false, false, false, false, false, false, false] rfl rfl (by kernel_rfl) (fun _ _ _ h => h) (Or.inl ⟨by rfl, ?_⟩) ?_ ?_
      rotate_left
      · intro w'
        go_simp
        with_reducible rfl
      rotate_left
      · simp only [Act.put, List.setIfInBounds_toArray, List.set_cons_zero, List.set_cons_succ, i64_w, i32_w]
        rfl
      refine pure_ (i := 6) (N := some 29) (v := ?_) (a' := ?_) #[true, true, true, false, true, true, true, false, false, false, false, false, false, false, false, false, false, false, false, false, false, false] rfl rfl (by kernel_rfl) (fun _ _ _ h => h) (Or.inl ⟨by rfl, ?_⟩) ?_ ?_
      rotate_left
      · intro w'
        go_simp
        with_reducible rfl
      rotate_left
      · simp only [Act.put, List.setIfInBounds_toArray, List.set_cons_zero, List.set_cons_succ, i64_w, i32_w]
        rfl
      refine pure_ (i := 7) (N := some 30) (v := ?_) (a' := ?_) #[true, true, true, false, true, true, true, true, false, false, false, false, false, false, false, false, false, false, false, false, false, false] rfl rfl (by kernel_rfl) (fun _ _ _ h => h) (Or.inl ⟨by rfl, ?_⟩) ?_ ?_
      rotate_left
      · intro w'
        go_simp
        with_reducible rfl
      rotate_left
      · simp only [Act.put, List.setIfInBounds_toArray, List.set_cons_zero, List.set_cons_succ, i64_w, i32_w]
        rfl
      refine pure_ (i := 9) (N := some 32) (v := ?_) (a' := ?_) #[true, true, true, false, true, true, true, true, false, true, false, false, false, false, false, false, false, false, false, false, false, false] rfl rfl (by kernel_rfl) (fun _ _ _ h => h) (Or.inl ⟨by rfl, ?_⟩) ?_ ?_
      rotate_left
      · intro w'
        go_simp
        with_reducible rfl
      rotate_left
      · simp only [Act.put, List.setIfInBounds_toArray, List.set_cons_zero, List.set_cons_succ, i64_w, i32_w]
        rfl
      refine pure_ (i := 12) (N := some 35) (v := ?_) (a' := ?_) #[true, true, true, false, true, true, true, true, false, true, false, false, true, false, false, false, false, false, false, false, false, false] rfl rfl (by kernel_rfl) (fun _ _ _ h => h) (Or.inl ⟨by rfl, ?_⟩) ?_ ?_
      rotate_left
      · intro w'
        go_simp
        with_reducible rfl
      rotate_left
      · simp only [Act.put, List.setIfInBounds_toArray, List.set_cons_zero, List.set_cons_succ, i64_w, i32_w]
        rfl
      refine pure_ (i := 13) (N := some 36) (v := ?_) (a' := ?_) #[true, true, true, false, true, true, true, true, false, true, false, false, true, true, false, false, false, false, false, false, false, false] rfl rfl (by kernel_rfl) (fun _ _ _ h => h) (Or.inl ⟨by rfl, ?_⟩) ?_ ?_
      rotate_left
      · intro w'
        go_simp
        with_reducible rfl
      rotate_left
      · simp only [Act.put, List.setIfInBounds_toArray, List.set_cons_zero, List.set_cons_succ, i64_w, i32_w]
        rfl
      refine pure_ (i := 14) (N := some 37) (v := ?_) (a' := ?_) #[true, true, true, false, true, true, true, true, false, true, false, false, true, true, true, false, false, false, false, false, false, false] rfl rfl (by kernel_rfl) (fun _ _ _ h => h) (Or.inl ⟨by rfl, ?_⟩) ?_ ?_
      rotate_left
      · intro w'
        go_simp
        with_reducible rfl
      rotate_left
      · simp only [Act.put, List.setIfInBounds_toArray, List.set_cons_zero, List.set_cons_succ, i64_w, i32_w]
        rfl
      refine pure_ (i := 16) (N := some 39) (v := ?_) (a' := ?_) #[true, true, true, false, true, true, true, true, false, true, false, false, true, true, true, false, true, false, false, false, false, false] rfl rfl (by kernel_rfl) (fun _ _ _ h => h) (Or.inl ⟨by rfl, ?_⟩) ?_ ?_
      rotate_left
      · intro w'
        go_simp
        with_reducible rfl
      rotate_left
      · simp only [Act.put, List.setIfInBounds_toArray, List.set_cons_zero, List.set_cons_succ, i64_w, i32_w]
        rfl
      refine take_ (i := 3) (N := some 26) (v := ?_) (a' := ?_) #[true, true, true, true, true, true, true, true, false, true, false, false, true, true, true, false, true, false, false, false, false, false] rfl rfl (by kernel_rfl) (fun _ _ _ h => h) (Or.inl ⟨by rfl, ?_⟩) hHeld ?_ ?_
      rotate_left
      · rintro w' ⟨s0, s1, s2, s3, s4⟩
        go_simp
        with_reducible rfl
      rotate_left
      · simp only [Act.put, List.setIfInBounds_toArray, List.set_cons_zero, List.set_cons_succ, i64_w, i32_w]
        rfl
      refine take_ (i := 8) (N := some 31) (v := ?_) (a' := ?_) #[true, true, true, true, true, true, true, true, true, true, false, false, true, true, true, false, true, false, false, false, false, false] rfl rfl (by kernel_rfl) (fun _ _ _ h => h) (Or.inl ⟨by rfl, ?_⟩) hHeld ?_ ?_
      rotate_left
      · rintro w' ⟨s0, s1, s2, s3, s4⟩
        go_simp
        with_reducible rfl
      rotate_left
      · simp only [Act.put, List.setIfInBounds_toArray, List.set_cons_zero, List.set_cons_succ, i64_w, i32_w]
        rfl
      refine pure_ (i := 10) (N := some 33) (v := ?_) (a' := ?_) #[true, true, true, true, true, true, true, true, true, true, true, false, true, true, true, false, true, false, false, false, false, false] rfl rfl (by kernel_rfl) (fun _ _ _ h => h) (Or.inl ⟨by rfl, ?_⟩) ?_ ?_
      rotate_left
      · intro w'
        go_simp
        with_reducible rfl
      rotate_left
      · simp only [Act.put, List.setIfInBounds_toArray, List.set_cons_zero, List.set_cons_succ, i64_w, i32_w]
        rfl
      refine take_ (i := 11) (N := some 34) (v := ?_) (a' := ?_) #[true, true, true, true, true, true, true, true, true, true, true, true, true, true, true, false, true, false, false, false, false, false] rfl rfl (by kernel_rfl) (fun _ _ _ h => h) (Or.inl ⟨by rfl, ?_⟩) hHeld ?_ ?_
      rotate_left
      · rintro w' ⟨s0, s1, s2, s3, s4⟩
        go_simp
        with_reducible rfl
      rotate_left
      · simp only [Act.put, List.setIfInBounds_toArray, List.set_cons_zero, List.set_cons_succ, i64_w, i32_w]
        rfl
      refine take_ (i := 15) (N := some 38) (v := ?_) (a' := ?_) #[true, true, true, true, true, true, true, true, true, true, true, true, true, true, true, true, true, false, false, false, false, false] rfl rfl (by kernel_rfl) (fun _ _ _ h => h) (Or.inl ⟨by rfl, ?_⟩) hHeld ?_ ?_
      rotate_left
      · rintro w' ⟨s0, s1, s2, s3, s4⟩
        go_simp
        with_reducible rfl
      rotate_left
      · simp only [Act.put, List.setIfInBounds_toArray, List.set_cons_zero, List.set_cons_succ, i64_w, i32_w]
        rfl
      refine pure_ (i := 17) (N := some 40) (v := ?_) (a' := ?_) #[true, true, true, true, true, true, true, true, true, true, true, true, true, true, true, true, true, true, false, false, false, false] rfl rfl (by kernel_rfl) (fun _ _ _ h => h) (Or.inl ⟨by rfl, ?_⟩) ?_ ?_
      rotate_left
      · intro w'
        go_simp
        with_reducible rfl
      rotate_left
      · simp only [Act.put, List.setIfInBounds_toArray, List.set_cons_zero, List.set_cons_succ, i64_w, i32_w]
        rfl
      refine take_ (i := 18) (N := some 41) (v := ?_) (a' := ?_) #[true, true, true, true, true, true, true, true, true, true, true, true, true, true, true, true, true, true, true, false, false, false] rfl rfl (by kernel_rfl) (fun _ _ _ h => h) (Or.inl ⟨by rfl, ?_⟩) hHeld ?_ ?_
      rotate_left
      · rintro w' ⟨s0, s1, s2, s3, s4⟩
        go_simp
        with_reducible rfl
      rotate_left
      · simp only [Act.put, List.setIfInBounds_toArray, List.set_cons_zero, List.set_cons_succ, i64_w, i32_w]
        rfl
      refine one_ (i := 19) (N := some 42) #[true, true, true, true, true, true, true, true, true, true, true, true, true, true, true, true, true, true, true, true, false, false] rfl rfl (by kernel_rfl) (by decide) (fun K hK => ?_)
      refine goes_ Tryd.func77 (by kernel_rfl) rfl #[.int .u64 x, .int .u64 y] (by rfl) rfl rfl (by simp only [List.map_toArray, List.map_cons, List.map_nil]; rfl) ?_
      with_reducible refine (gold_Mul.calls x y (f i) _ HMu2.out).mono ?_
      rintro e w3 ⟨rfl, hb⟩
      refine ⟨_, rfl, ?_⟩
      have nS := hHeld.2.2.2.2.out.below hb
      have nx := pw_cell_below (hb) hHeld.2.2.1
      have ny := pw_cell_below (hb) hHeld.2.2.2.1
      clear hHeld hb
      refine hK.out _ _ ⟨nS.obj.cell 2, nS.ob2.cell 2, nx, ny, ⟨nS⟩⟩ (fun hHeld => ?_)
      clear hK K
      refine norm_ (a' := ?_) ?_ ?_
      rotate_left
      · show Act.put _ (some 42) _ = _
        simp only [Act.put, List.setIfInBounds_toArray, List.set_cons_zero, List.set_cons_succ, i64_w, i32_w]
        rfl
      refine pure_ (i := 20) (N := some 43) (v := ?_) (a' := ?_) #[true, true, true, true, true, true, true, true, true, true, true, true, true, true, true, true, true, true, true, true, true, false] rfl rfl (by kernel_rfl) (fun _ _ _ h => h) (Or.inl ⟨by rfl, ?_⟩) ?_ ?_
      rotate_left
      · intro w'
        go_simp
        with_reducible rfl
      rotate_left
      · simp only [Act.put, List.setIfInBounds_toArray, List.set_cons_zero, List.set_cons_succ, i64_w, i32_w]
        rfl
      refine last_ (i := 21) (N := none) #[true, true, true, true, true, true, true, true, true, true, true, true, true, true, true, true, true, true, true, true, true, true] rfl rfl (by kernel_rfl) (by decide) (fun K hK => ?_)
      have c1 := hHeld.2.2.1
      have f1 := hHeld.2.2.2.2.out.row.frozen i
      have HK3 := Aside0.mk (show Tm w _ p g c q h d R C n (upto xs f (i + 1)) ys from hHeld.2.2.2.2.out.put hgh i (f i))
      refine skip_ (w1 := ?_) (by rfl) rfl ?_ ?_
      rotate_left
      · go_simp
        rfl
      refine hK.out _ _ ?_
      clear hK K
      refine done_ (by kernel_rfl) ?_
      clear hHeld HX HY
      go_wp2
      go_roundw
      case rel => exact ⟨i + 1, by go_num, by omega, HK3⟩
      case measure => simp [intOf]; omega
    · obtain rfl : i = n := by omega
      have hia : decide ((i : Int) < (i : Int)) = false := decide_eq_false (by omega)
      go_wp2
      go_ret
      have hall := upto_all xs f i HL.out
      rw [HRes.out] at hall
      have hr := HK.out.row
      rw [hall] at hr
      exact ⟨rfl, ⟨by rw [tb_len]; exact HK.out.obj, hr⟩, HK.out.fr⟩
theorem gtimes_odd (p q : Nat) (R C R2 C2 : Int) (hne : (R2 == R && (C2 == C)) = false) (w : World) (h0 : w.cell? ⟨p, 0, none⟩ = some (.int .i64 R)) (h1 : w.cell? ⟨p, 1, none⟩ = some (.int .i64 C)) (h2 : w.cell? ⟨q, 0, none⟩ = some (.int .i64 R2)) (h3 : w.cell? ⟨q, 1, none⟩ = some (.int .i64 C2)) :
    Calls Tryd.prog 26 #[.pointer (some ⟨p, 0, none⟩), .pointer (some ⟨q, 0, none⟩)] w fun e w' => e = .returned (.int .i64 19) ∧ Below w.heap.size w w' := by
  have HC := Aside0.mk hne
  clear hne
  go_enter Tryd.func26, Tryd.ntmps26
  go_wp2_with fail
  with_reducible refine (gcheck_of p q R C R2 C2 19 false HC.out rfl _ h0 h1 h2 h3).mono ?_
  rintro e w1 ⟨rfl, hb⟩
  have HB1 := Aside0.mk hb
  clear hb h0 h1 h2 h3
  go_wp2
  go_loopw [6] (fun v6 wr => v6 = .int .i64 0 ∧ Aside0 (Below w.heap.size w wr)) (fun _ _ => 0)
  case atStart => exact ⟨rfl, HB1⟩
  case round =>
    obtain ⟨rfl, HB2⟩ := hrel
    go_wp2
    go_ret
    exact ⟨rfl, HB2.out⟩
theorem gconv_no (p : Nat) (v : Value) (r : Int) (hr : (r != 0) = true) (w : World) (hc : Calls Tryd.prog 75 #[.pointer (some ⟨p, 0, none⟩), v] w fun e w' => e = .returned (.int .i64 r) ∧ Below w.heap.size w w') :
    Calls Tryd.prog 25 #[.pointer (some ⟨p, 0, none⟩), v] w fun e w' => e = .returned (.int .i64 r) ∧ Below w.heap.size w w' := by
  have HC := Aside0.mk hc
  clear hc
  go_enter Tryd.func25, Tryd.ntmps25
  go_wp2_with fail
  with_reducible refine HC.out.mono ?_
  rintro e w1 ⟨rfl, hb⟩
  have HB1 := Aside0.mk hb
  clear hb
  go_wp2
  go_ret
  exact ⟨rfl, HB1.out⟩
end Go.Proofs.YtpnkcjnemoompaaDoor.Grid
end
section
namespace Go.Proofs.YtpnkcjnemoompaaDoor.Grid
open Go.RowKit Go.Proofs.YtpnkcjnemoompaaDoor Go.Proofs.YtpnkcjnemoompaaDoor.Ext Go.Proofs.YtpnkcjnemoompaaDoor.PPlan Go.Proofs.YtpnkcjnemoompaaDoor.PFft Go.Proofs.YtpnkcjnemoompaaDoor.Pure Go.Proofs.YtpnkcjnemoompaaDoor.Obj Go.Proofs.YtpnkcjnemoompaaDoor.Fft Go.Proofs.YtpnkcjnemoompaaDoor.Kern Go.Proofs.YtpnkcjnemoompaaDoorW.PrintWords Go.Proofs.YtpnkcjnemoompaaDoorW.PrintLast Go.Proofs.YtpnkcjnemoompaaDoorW.PrintMore
set_option linter.unusedVariables false
set_option linter.unusedSimpArgs false
set_option maxRecDepth 100000
set_option maxHeartbeats 8000000 in
theorem gconv_yes (R C a b p g c q h d : Nat) (xs ys : List Int) (ha : R = 2 ^ a) (hb : C = 2 ^ b) (hab : a + b ≤ 20) (hl : R * C = xs.length) (hm : ys.length = xs.length) (hWx : Ws xs) (hWy : Ws ys) (w : World) (hG : Gd w p g c (R : Int) (C : Int) xs) (hQ : Gd w q h d (R : Int) (C : Int) ys) (hT : TabOK w) :
    Calls Tryd.prog 25 #[.pointer (some ⟨p, 0, none⟩), .pointer (some ⟨q, 0, none⟩)] w fun e w' => e = .returned (.int .i64 0) ∧ Gd w' p g c (R : Int) (C : Int) (tb xs.length (cv2 a b (el xs) (el ys))) ∧ Fr w w' [g] := by
  have hN : 2 ^ (a + b) = xs.length := by rw [Nat.pow_add, ← ha, ← hb, hl]
  have hp : 0 < xs.length := by rw [← hN]; exact Nat.two_pow_pos _
  have hL : xs.length ≤ 1048576 := by rw [← hN]; exact pow20 hab
  obtain ⟨n, hn⟩ : ∃ n, n = xs.length := ⟨_, rfl⟩
  obtain ⟨x1, hx1⟩ : ∃ z, z = tb n (t2 a b 0 (el xs)) := ⟨_, rfl⟩
  obtain ⟨y1, hy1⟩ : ∃ z, z = tb n (t2 a b 0 (el ys)) := ⟨_, rfl⟩
  obtain ⟨x2, hx2⟩ : ∃ z, z = tb n (fun i => el x1 i * el y1 i) := ⟨_, rfl⟩
  have hx1l : x1.length = n := by rw [hx1, tb_len]
  have hy1l : y1.length = n := by rw [hy1, tb_len]
  have hx2l : x2.length = n := by rw [hx2, tb_len]
  have hx3 : tb x2.length (t2 a b 1 (el x2)) = tb n (cv2 a b (el xs) (el ys)) := by
    rw [hx2l]
    refine tb_congr fun t ht => ?_
    rw [← cv2_is a b (by omega) (el xs) (el ys) t (by rw [hN, ← hn]; exact ht)]
    refine t2_congr (fun s hs => ?_) t
    rw [hN, ← hn] at hs
    rw [hx2, el_tb _ hs, hx1, el_tb _ hs, hy1, el_tb _ hs]
  have HA := Aside0.mk ha
  have HBb := Aside0.mk hb
  have HAB := Aside0.mk hab
  have HL := Aside0.mk hl
  have HWx := Aside0.mk hWx
  have HWy := Aside0.mk hWy
  have HW2 := Aside0.mk (show Ws x1 ∧ Ws y1 ∧ Ws x2 from ⟨by rw [hx1]; exact tb_ws _ _, by rw [hy1]; exact tb_ws _ _, by rw [hx2]; exact tb_ws _ _⟩)
  have HX1 := Aside0.mk hx1
  have HY1 := Aside0.mk hy1
  have HX2 := Aside0.mk hx2
  have HX3 := Aside0.mk hx3
  have HG0 := Aside0.mk hG
  have HQ0 := Aside0.mk hQ
  have HT0 := Aside0.mk hT
  have HN := Aside0.mk (show n = xs.length ∧ ys.length = n ∧ R * C = n from ⟨hn, by omega, by omega⟩)
  have HC := Aside0.mk (show ((R : Int) == (R : Int) && ((C : Int) == (C : Int))) = true by simp)
  have hgl := hG.lg
  rw [← hn]
  clear ha hb hab hl hm hWx hWy hx1 hy1 hx2 hx3 hG hQ hT hN
  go_enter Tryd.func25, Tryd.ntmps25
  go_wp2_with fail
  with_reducible refine (gcheck_of p q R C R C 0 true HC.out rfl _ HG0.out.c0 HG0.out.c1 HQ0.out.c0 HQ0.out.c1).mono ?_
  rintro e w1 ⟨rfl, hb⟩
  have HG1 := Aside0.mk (HG0.out.below hb)
  have HQ1 := Aside0.mk (HQ0.out.below hb)
  have HT1 := Aside0.mk (HT0.out.below hb)
  have HF1 := Aside0.mk (Fr.of_below hb [g])
  clear hb HG0 HQ0 HT0
  go_wp2_with fail
  with_reducible refine (gcopy q h d R C ys (by rw [HN.out.2.1, HN.out.1]; exact hp) (by rw [HN.out.2.1, HN.out.1]; exact hL) _ HQ1.out).mono ?_
  rintro e w2 ⟨q2, h2, d2, rfl, hg2, hb, hq2, hh2⟩
  have HG2 := Aside0.mk (HG1.out.below hb)
  have HP2 := Aside0.mk hg2
  have HT2 := Aside0.mk (HT1.out.below hb)
  have HF2 := Aside0.mk (HF1.out.trans (Fr.of_below hb [g]))
  have HNh := Aside0.mk (show g ≠ h2 ∧ w.heap.size ≤ h2 by have h1 := HG1.out.lg; have h3 := HF1.out.size; omega)
  have HNp := Aside0.mk (show p ≠ h2 ∧ q2 ≠ g by have h1 := HG1.out.lp; have h3 := HG1.out.lg; omega)
  clear hb hg2 hq2 hh2 HG1 HQ1 HT1 HF1
  go_wp2_with fail
  have ht := gtrans_yes R C a b q2 h2 d2 ys 0 (.inl rfl) HA.out HBb.out HAB.out (by rw [HN.out.2.1, HN.out.2.2]) HWy.out _ HP2.out HT2.out
  rw [HN.out.2.1, ← HY1.out] at ht
  with_reducible refine ht.mono ?_
  clear ht
  rintro e w3 ⟨rfl, hg3, hf3⟩
  have HP3 := Aside0.mk hg3
  have HG3 := Aside0.mk (HG2.out.fr hf3 (by simpa using HNp.out.1) (by simpa using HNh.out.1))
  have HT3 := Aside0.mk (tab_fr1 HT2.out HP2.out.row (by rw [HN.out.2.1, HN.out.1]; exact hp) hf3)
  have HF3 := Aside0.mk (HF2.out.then_ (U := [g]) hf3 (fun i hi => .inl hi) (fun i hi => .inr (by have := HNh.out.2; simp at hi; omega)))
  clear hg3 hf3 HP2 HG2 HT2 HF2
  go_wp2_with fail
  have ht := gtrans_yes R C a b p g c xs 0 (.inl rfl) HA.out HBb.out HAB.out HL.out HWx.out _ HG3.out HT3.out
  rw [← HN.out.1, ← HX1.out] at ht
  with_reducible refine ht.mono ?_
  clear ht
  rintro e w4 ⟨rfl, hg4, hf4⟩
  have HG4 := Aside0.mk hg4
  have HP4 := Aside0.mk (HP3.out.fr hf4 (by simpa using HNp.out.2) (by simpa using (Ne.symm HNh.out.1)))
  have HT4 := Aside0.mk (tab_fr1 HT3.out HG3.out.row hp hf4)
  have HF4 := Aside0.mk (HF3.out.trans hf4)
  clear hg4 hf4 HP3 HG3 HT3 HF3
  go_wp2_with fail
  have ht := gtimes_yes p g c q2 h2 d2 R C n x1 y1 hx1l hy1l (by omega) HW2.out.1 HW2.out.2.1 HNh.out.1 _ HG4.out HP4.out
  rw [← HX2.out] at ht
  with_reducible refine ht.mono ?_
  clear ht
  rintro e w5 ⟨rfl, hg5, hf5⟩
  have HG5 := Aside0.mk hg5
  have HT5 := Aside0.mk (tab_fr1 HT4.out HG4.out.row (by omega) hf5)
  have HF5 := Aside0.mk (HF4.out.trans hf5)
  clear hg5 hf5 HP4 HG4 HT4 HF4
  go_wp2_with fail
  have ht := gtrans_yes R C a b p g c x2 1 (.inr rfl) HA.out HBb.out HAB.out (by rw [hx2l, HN.out.2.2]) HW2.out.2.2 _ HG5.out HT5.out
  rw [HX3.out] at ht
  with_reducible refine ht.mono ?_
  clear ht
  rintro e w6 ⟨rfl, hg6, hf6⟩
  have HG6 := Aside0.mk hg6
  have HF6 := Aside0.mk (HF5.out.trans hf6)
  clear hg6 hf6 HG5 HT5 HF5
  go_wp2
  go_ret
  exact ⟨rfl, HG6.out, HF6.out⟩
end Go.Proofs.YtpnkcjnemoompaaDoor.Grid
end
section
namespace Go.Proofs.YtpnkcjnemoompaaDoor.Grid
open Go.RowKit Go.Proofs.YtpnkcjnemoompaaDoor Go.Proofs.YtpnkcjnemoompaaDoor.Ext Go.Proofs.YtpnkcjnemoompaaDoor.PPlan Go.Proofs.YtpnkcjnemoompaaDoor.PFft Go.Proofs.YtpnkcjnemoompaaDoor.Pure Go.Proofs.YtpnkcjnemoompaaDoor.Obj Go.Proofs.YtpnkcjnemoompaaDoor.Fft Go.Proofs.YtpnkcjnemoompaaDoor.Kern Go.Proofs.YtpnkcjnemoompaaDoorW.PrintWords Go.Proofs.YtpnkcjnemoompaaDoorW.PrintLast Go.Proofs.YtpnkcjnemoompaaDoorW.PrintMore
set_option linter.unusedVariables false
set_option linter.unusedSimpArgs false
set_option maxRecDepth 100000
def plc (bs xs : List Int) (T : Nat → Nat) : Nat → List Int
  | 0 => bs
  | i + 1 => (plc bs xs T i).set (T i) (xs.getD i 0)
end Go.Proofs.YtpnkcjnemoompaaDoor.Grid
end
section
namespace Go.Proofs.YtpnkcjnemoompaaDoor.Grid
open Go.RowKit Go.Proofs.YtpnkcjnemoompaaDoor Go.Proofs.YtpnkcjnemoompaaDoor.Ext Go.Proofs.YtpnkcjnemoompaaDoor.PPlan Go.Proofs.YtpnkcjnemoompaaDoor.PFft Go.Proofs.YtpnkcjnemoompaaDoor.Pure Go.Proofs.YtpnkcjnemoompaaDoor.Obj Go.Proofs.YtpnkcjnemoompaaDoor.Fft Go.Proofs.YtpnkcjnemoompaaDoor.Kern Go.Proofs.YtpnkcjnemoompaaDoorW.PrintWords Go.Proofs.YtpnkcjnemoompaaDoorW.PrintLast Go.Proofs.YtpnkcjnemoompaaDoorW.PrintMore
set_option linter.unusedVariables false
set_option linter.unusedSimpArgs false
set_option maxRecDepth 100000
structure Mq (w0 w : World) (p g cg b0 b1 b2 : Nat) (R C u v : Int) (xs : List Int) : Prop where
  gd : Gd w p g cg R C xs
  e0 : Bk w b0 26 [.pointer (some ⟨p, 0, none⟩)]
  e1 : Bk w b1 3 [.int .i64 u]
  e2 : Bk w b2 3 [.int .i64 v]
  be : Below w0.heap.size w0 w
  h1 : w0.heap.size ≤ b1
  h2 : w0.heap.size ≤ b2
theorem Mq.below {w0 w w' : World} {p g cg b0 b1 b2 : Nat} {R C u v : Int} {xs : List Int} (k : Mq w0 w p g cg b0 b1 b2 R C u v xs) (hb : Below w.heap.size w w') : Mq w0 w' p g cg b0 b1 b2 R C u v xs :=
  ⟨k.gd.below hb, k.e0.below hb, k.e1.below hb, k.e2.below hb, below_then k.be k.be.size hb, k.h1, k.h2⟩
theorem Mq.drew {w0 w : World} {p g cg b0 b1 b2 : Nat} {R C u v : Int} {xs : List Int} (k : Mq w0 w p g cg b0 b1 b2 R C u v xs) : Mq w0 w.drew p g cg b0 b1 b2 R C u v xs := k.below (below_drew1 (Below.refl _ _))
end Go.Proofs.YtpnkcjnemoompaaDoor.Grid
end
section
namespace Go.Proofs.YtpnkcjnemoompaaDoor.Grid
open Go.RowKit Go.Proofs.YtpnkcjnemoompaaDoor Go.Proofs.YtpnkcjnemoompaaDoor.Ext Go.Proofs.YtpnkcjnemoompaaDoor.PPlan Go.Proofs.YtpnkcjnemoompaaDoor.PFft Go.Proofs.YtpnkcjnemoompaaDoor.Pure Go.Proofs.YtpnkcjnemoompaaDoor.Obj Go.Proofs.YtpnkcjnemoompaaDoor.Fft Go.Proofs.YtpnkcjnemoompaaDoor.Kern Go.Proofs.YtpnkcjnemoompaaDoorW.PrintWords Go.Proofs.YtpnkcjnemoompaaDoorW.PrintLast Go.Proofs.YtpnkcjnemoompaaDoorW.PrintMore
set_option linter.unusedVariables false
set_option linter.unusedSimpArgs false
theorem tdv (i C : Nat) (h : i ≤ 1048576) : wrap64 (Int.tdiv (i : Int) (C : Int)) = ((i / C : Nat) : Int) := by
  rw [← Int.ofNat_tdiv]
  have h2 : i / C ≤ i := Nat.div_le_self i C
  generalize i / C = q at *
  exact wrap_i _ (by omega) (by omega)
theorem tmd (i C : Nat) : Int.tmod (i : Int) (C : Int) = ((i % C : Nat) : Int) := (Int.ofNat_tmod i C).symm
theorem wadd (x y : Nat) (h : x + y ≤ 9223372036854775807) : wrap64 ((x : Int) + (y : Int)) = ((x + y : Nat) : Int) := by rw [wrap_i _ (by omega) (by omega)]; omega
structure Sh (R C a b n : Nat) : Prop where
  r : R = 2 ^ a
  c : C = 2 ^ b
  ab : a + b ≤ 20
  n : R * C = n
theorem Sh.pow {R C a b n : Nat} (h : Sh R C a b n) : n = 2 ^ (a + b) := by rw [Nat.pow_add, ← h.r, ← h.c, h.n]
theorem Sh.le {R C a b n : Nat} (h : Sh R C a b n) : n ≤ 1048576 := by rw [h.pow]; exact pow20 h.ab
theorem Sh.rle {R C a b n : Nat} (h : Sh R C a b n) : R ≤ 1048576 := by rw [h.r]; exact pow20 (by have := h.ab; omega)
theorem Sh.cle {R C a b n : Nat} (h : Sh R C a b n) : C ≤ 1048576 := by rw [h.c]; exact pow20 (by have := h.ab; omega)
theorem Sh.r0 {R C a b n : Nat} (h : Sh R C a b n) : 0 < R := by rw [h.r]; exact Nat.two_pow_pos _
theorem Sh.c0 {R C a b n : Nat} (h : Sh R C a b n) : 0 < C := by rw [h.c]; exact Nat.two_pow_pos _
theorem Sh.div {R C a b n : Nat} (h : Sh R C a b n) (i : Nat) (hi : i < n) : i / C < R := (Nat.div_lt_iff_lt_mul h.c0).2 (by rw [h.n]; exact hi)
theorem Sh.at {R C a b n : Nat} (h : Sh R C a b n) {r c : Nat} (hr : r < R) (hc : c < C) : r * C + c < n := by rw [← h.n]; exact plc_lt hr hc
theorem tgt {R C a b n : Nat} (h : Sh R C a b n) (r c : Nat) (hr : r < R) (hc : c < C) : wrap64 (wrap64 ((r : Int) * (C : Int)) + (c : Int)) = ((r * C + c : Nat) : Int) := by
  have h1 := h.at hr hc
  have h2 := h.le
  rw [mulc r C (by omega), wadd _ _ (by omega)]
end Go.Proofs.YtpnkcjnemoompaaDoor.Grid
end
section
namespace Go.Proofs.YtpnkcjnemoompaaDoor.Grid
open Go.RowKit Go.Proofs.YtpnkcjnemoompaaDoor Go.Proofs.YtpnkcjnemoompaaDoor.Ext Go.Proofs.YtpnkcjnemoompaaDoor.PPlan Go.Proofs.YtpnkcjnemoompaaDoor.PFft Go.Proofs.YtpnkcjnemoompaaDoor.Pure Go.Proofs.YtpnkcjnemoompaaDoor.Obj Go.Proofs.YtpnkcjnemoompaaDoor.Fft Go.Proofs.YtpnkcjnemoompaaDoor.Kern Go.Proofs.YtpnkcjnemoompaaDoorW.PrintWords Go.Proofs.YtpnkcjnemoompaaDoorW.PrintLast Go.Proofs.YtpnkcjnemoompaaDoorW.PrintMore
set_option linter.unusedVariables false
set_option linter.unusedSimpArgs false
theorem Sh.tr {R C a b n : Nat} (h : Sh R C a b n) : a ≤ 32 ∧ b ≤ 32 := by have := h.ab; omega
theorem cvt {R C a b n : Nat} (h : Sh R C a b n) (i j : Nat) (hi : i < n) (hj : j < n) : wrap64 (wrap64 (Int.tmod (wrap64 (wrap64 (Int.tdiv (i : Int) (C : Int)) + wrap64 (Int.tdiv (j : Int) (C : Int)))) (R : Int) * (C : Int)) + Int.tmod (wrap64 (Int.tmod (i : Int) (C : Int) + Int.tmod (j : Int) (C : Int))) (C : Int)) = ((cvp a b i j : Nat) : Int) := by
  have bn := h.le
  have h1 := h.div i hi
  have h2 := h.div j hj
  have h3 := Nat.mod_lt i h.c0
  have h4 := Nat.mod_lt j h.c0
  have bR := h.rle
  have bC := h.cle
  rw [tdv i C (by omega), tdv j C (by omega), wadd (i / C) (j / C) (by omega), tmd, tmd, tmd, wadd (i % C) (j % C) (by omega), tmd, tgt h _ _ (Nat.mod_lt _ h.r0) (Nat.mod_lt _ h.c0)]
  unfold cvp
  rw [← h.r, ← h.c]
theorem tb_bump (n k : Nat) (hk : k < n) (f : Nat → F) (x : F) : (tb n f).set k (fv (f k + x)) = tb n (fun t => f t + if k = t then x else 0) := by
  refine list_ext (by rw [List.length_set, tb_len, tb_len]) fun t ht => ?_
  rw [List.length_set, tb_len] at ht
  rw [tb_get _ ht, List.getD_eq_getElem?_getD]
  by_cases e : k = t
  · subst e
    rw [List.getElem?_set_self (by rw [tb_len]; exact hk), if_pos rfl]
    rfl
  · rw [List.getElem?_set_ne e, ← List.getD_eq_getElem?_getD, tb_get _ ht, if_neg e]
    refine congrArg fv ?_
    grobner
def cvs (a b n : Nat) (f g : Nat → F) (i j : Nat) (t : Nat) : F := (sm i fun i' => sm n fun j' => if cvp a b i' j' = t then f i' * g j' else 0) + sm j fun j' => if cvp a b i j' = t then f i * g j' else 0
theorem cvs_step (a b n : Nat) (f g : Nat → F) (i j t : Nat) : cvs a b n f g i (j + 1) t = cvs a b n f g i j t + if cvp a b i j = t then f i * g j else 0 := by
  unfold cvs
  rw [sm_succ]
  grobner
theorem cvs_next (a b n : Nat) (f g : Nat → F) (i t : Nat) : cvs a b n f g (i + 1) 0 t = cvs a b n f g i n t := by
  unfold cvs
  rw [sm_succ, sm_zero]
  grobner
theorem rC_l1 {R C a b n : Nat} (h : Sh R C a b n) (l q : List Int) (hl : Ws l) (hq : Ws q) (hn : l.length = n) (hm : q.length = n) (i : Nat) (hi : i < n) (res : List Int) (m : Nat) : ∀ j, j + m = n →
    Ev (fun k => abacistref32_Convolve.l0 k l q (tb n (cvs a b n (el l) (el q) (i + 1) 0)) ((i + 1 : Nat) : Int) (R : Int) (C : Int)) res →
    Ev (fun k => abacistref32_Convolve.l1 k l q (tb n (cvs a b n (el l) (el q) i j)) (i : Int) (j : Int) (R : Int) (C : Int)) res := by
  have bn := h.le
  induction m with
  | zero =>
    intro j hj hres
    obtain rfl : j = n := by omega
    refine Ev.step (fun k => ?_) hres
    simp only [abacistref32_Convolve.l1]
    rw [if_neg (by omega), wsucc i (by omega), tb_congr (fun t _ => (cvs_next a b j (el l) (el q) i t).symm)]
  | succ m ih =>
    intro j hj hres
    have hjn : j < n := by omega
    have hk : cvp a b i j < n := by rw [h.pow]; exact cvp_lt a b i j
    have c1 : (j : Int) < (q.length : Int) := by omega
    have c2 : ¬ (C : Int) = 0 := by have := h.c0; omega
    have c3 : ¬ (R : Int) = 0 := by have := h.r0; omega
    have c4 : (0 : Int) ≤ ((cvp a b i j : Nat) : Int) := by omega
    have c5 : ((cvp a b i j : Nat) : Int) < ((tb n (cvs a b n (el l) (el q) i j)).length : Int) := by rw [tb_len]; omega
    have c6 : (0 : Int) ≤ (i : Int) := by omega
    have c7 : (i : Int) < (l.length : Int) := by omega
    have c8 : (0 : Int) ≤ (j : Int) := by omega
    have b1 : j < 4611686018427387904 := by omega
    have hih := ih (j + 1) (by omega) hres
    refine Ev.step (f := fun k => (abacistref02_Mul.f k (l.getD i 0) (q.getD j 0)).bind fun t295 => (abacistref02_Add.f ((tb n (cvs a b n (el l) (el q) i j)).getD (cvp a b i j) 0) t295).bind fun t296 => abacistref32_Convolve.l1 k l q ((tb n (cvs a b n (el l) (el q) i j)).set (cvp a b i j) t296) (i : Int) ((j + 1 : Nat) : Int) (R : Int) (C : Int)) (fun k => ?_) ?_
    · have ht := cvt h i j hi hjn
      simp only [abacistref32_Convolve.l1]
      rw [if_pos c1, if_neg c2, if_neg c3, ht, if_pos c4, if_pos c5, if_pos c6, if_pos c7, if_pos c8, wsucc j b1, rdn, rdn, rdn, Int.toNat_natCast]
    · refine Ev.bind (rMul _ _ (hl i).1 (hq j)) ?_
      rw [tb_get _ hk]
      refine Ev.bind (Ev_eq (rAddF _ _)) ?_
      rw [tb_bump n _ hk]
      rw [tb_congr (fun t _ => cvs_step a b n (el l) (el q) i j t)] at hih
      exact hih
theorem rC_l0 {R C a b n : Nat} (h : Sh R C a b n) (l q : List Int) (hl : Ws l) (hq : Ws q) (hn : l.length = n) (hm : q.length = n) (m : Nat) : ∀ i, i + m = n →
    Ev (fun k => abacistref32_Convolve.l0 k l q (tb n (cvs a b n (el l) (el q) i 0)) (i : Int) (R : Int) (C : Int)) (tb n (cv2 a b (el l) (el q))) := by
  induction m with
  | zero =>
    intro i hi
    obtain rfl : i = n := by omega
    have e : tb i (cv2 a b (el l) (el q)) = tb i (cvs a b i (el l) (el q) i 0) := tb_congr fun t _ => by
      unfold cvs cv2
      rw [sm_zero, ← h.pow]
      grobner
    rw [e]
    refine Ev.step (f := fun _ => some _) (fun k => ?_) (Ev.now _)
    simp only [abacistref32_Convolve.l0]
    rw [if_neg (by omega)]
  | succ m ih =>
    intro i hi
    refine Ev.step (f := fun k => abacistref32_Convolve.l1 k l q (tb n (cvs a b n (el l) (el q) i 0)) (i : Int) 0 (R : Int) (C : Int)) (fun k => ?_) ?_
    · simp only [abacistref32_Convolve.l0]
      rw [if_pos (by omega)]
    · exact rC_l1 h l q hl hq hn hm i (by omega) _ n 0 (by omega) (ih (i + 1) (by omega))
theorem rConv {R C a b n : Nat} (h : Sh R C a b n) (l q : List Int) (hl : Ws l) (hq : Ws q) (hn : l.length = n) (hm : q.length = n) : Ev (fun k => abacistref32_Convolve.f k l q (R : Int) (C : Int)) (tb n (cv2 a b (el l) (el q))) := by
  have bn := h.le
  unfold abacistref32_Convolve.f
  refine Ev_if (by omega) (Ev_if (by rw [Int.toNat_natCast]; omega) ?_)
  have e : List.replicate ((l.length : Int)).toNat (0 : Int) = tb n (cvs a b n (el l) (el q) 0 0) := by
    rw [Int.toNat_natCast, hn]
    refine list_ext (by rw [List.length_replicate, tb_len]) fun t ht => ?_
    rw [List.length_replicate] at ht
    rw [tb_get _ ht]
    unfold cvs
    rw [sm_zero, sm_zero, List.getD_eq_getElem?_getD, List.getElem?_replicate, if_pos ht]
    rfl
  rw [e]
  exact rC_l0 h l q hl hq hn hm n 0 (by omega)
end Go.Proofs.YtpnkcjnemoompaaDoor.Grid
end
section
namespace Go.Proofs.YtpnkcjnemoompaaDoor.Grid
open Go.RowKit Go.Proofs.YtpnkcjnemoompaaDoor Go.Proofs.YtpnkcjnemoompaaDoor.Ext Go.Proofs.YtpnkcjnemoompaaDoor.PPlan Go.Proofs.YtpnkcjnemoompaaDoor.PFft Go.Proofs.YtpnkcjnemoompaaDoor.Pure Go.Proofs.YtpnkcjnemoompaaDoor.Obj Go.Proofs.YtpnkcjnemoompaaDoor.Fft Go.Proofs.YtpnkcjnemoompaaDoor.Kern Go.Proofs.YtpnkcjnemoompaaDoorW.PrintWords Go.Proofs.YtpnkcjnemoompaaDoorW.PrintLast Go.Proofs.YtpnkcjnemoompaaDoorW.PrintMore
set_option linter.unusedVariables false
set_option linter.unusedSimpArgs false
set_option maxRecDepth 100000
theorem can_el (l : List Int) {i : Nat} (h : i < l.length) : el (can l) i = el l i := by rw [can_is, el_tb _ h]
theorem one_t2 : tb 4 (t2 1 1 0 (el (can [1, 0, 0, 0]))) = [1, 1, 1, 1] := by
  have h : ∀ i, i < 4 → t2 1 1 0 (el (can [1, 0, 0, 0])) i = 1 := by
    intro i _
    rw [t2_sum, show (2 : Nat) ^ (1 + 1) = 4 from rfl, sm_four, can_el [1, 0, 0, 0] (i := 0) (by decide), can_el [1, 0, 0, 0] (i := 1) (by decide), can_el [1, 0, 0, 0] (i := 2) (by decide), can_el [1, 0, 0, 0] (i := 3) (by decide), show el [1, 0, 0, 0] 0 = 1 from fo_one, show el [1, 0, 0, 0] 1 = 0 from fo_zero, show el [1, 0, 0, 0] 2 = 0 from fo_zero, show el [1, 0, 0, 0] 3 = 0 from fo_zero, if_neg (by decide), Nat.zero_div, Nat.zero_mod, Nat.mul_zero, Nat.mul_zero, pw_zero]
    grobner
  rw [tb_congr h]
  show (List.range 4).map (fun _ => fv 1) = _
  rw [fv_one]
  rfl
theorem good22 : GoodS 2 2 := ⟨1, 1, by decide, ⟨by decide, rfl⟩, ⟨by decide, rfl⟩⟩
set_option maxHeartbeats 4000000 in
theorem gawake (w : World) (hT : TabOK w) :
    Calls Tryd.prog 15 #[] w fun e w' => e = .returned (.bool true) ∧ Below w.heap.size w w' := by
  have HT := Aside0.mk hT
  have HB := Aside0.mk (below_alloc (Below.refl w.heap.size w) (Obj.cells #[.int .u64 1, .int .u64 0, .int .u64 0, .int .u64 0] 45))
  have HR := Aside0.mk (Mr.of_rw (show Rw _ w.heap.size [1, 0, 0, 0] from Bk.new w 45 [.int .u64 1, .int .u64 0, .int .u64 0, .int .u64 0]))
  clear hT
  go_enter Tryd.func15, Tryd.ntmps15
  go_wp2_with fail
  have h6 := gnew_yes (some ⟨w.heap.size, 0, none⟩) 4 [1, 0, 0, 0] 2 2 _ (In.of_mr HR.out (by decide)) one_ws (by decide) (by decide) good22 rfl (HT.out.below HB.out)
  rw [show ([1, 0, 0, 0] : List Int).length = 4 from rfl] at h6
  with_reducible refine h6.mono ?_
  clear h6
  rintro e w1 ⟨p, g, cg, rfl, hg, hb, hp, hgg⟩
  have HB1 := Aside0.mk (below_then HB.out HB.out.size hb)
  have HG1 := Aside0.mk hg
  have HP := Aside0.mk (show w.heap.size ≤ p ∧ w.heap.size ≤ g by have := HB.out.size; omega)
  have HTT := Aside0.mk (show TabOK w1 from HT.out.below HB1.out)
  clear hg hb hp hgg HB HR
  go_wp2_with fail
  have ht := gtrans_yes 2 2 1 1 p g cg (can [1, 0, 0, 0]) 0 (.inl rfl) rfl rfl (by decide) rfl (can_ws _) _ HG1.out HTT.out
  rw [show (can [1, 0, 0, 0]).length = 4 from can_len _, one_t2] at ht
  with_reducible refine ht.mono ?_
  clear ht
  rintro e w2 ⟨rfl, hg, hf⟩
  have HB2 := Aside0.mk (HB1.out.trans (hf.below (B := w.heap.size) HB1.out.size (by simpa using HP.out.2)))
  have HG2 := Aside0.mk hg
  clear hg hf HB1 HG1 HTT
  go_wp2_with fail
  with_reducible refine (gwords p g cg 2 2 [1, 1, 1, 1] _ HG2.out (by decide) (by decide)).mono ?_
  rintro e w3 ⟨h, d, rfl, hm, hb, hh⟩
  have HB3 := Aside0.mk (below_then HB2.out HB2.out.size hb)
  have HM3 := Aside0.mk hm
  clear hm hb hh HB2 HG2
  have HQ4 := Aside0.mk (Mr.of_rw (show Rw _ w3.heap.size [1, 1, 1, 1] from Bk.new w3 45 [.int .u64 1, .int .u64 1, .int .u64 1, .int .u64 1]))
  have HM4 := Aside0.mk (HM3.out.below (below_alloc (Below.refl w3.heap.size w3) (Obj.cells #[.int .u64 1, .int .u64 1, .int .u64 1, .int .u64 1] 45)))
  have HB4 := Aside0.mk (below_alloc HB3.out (Obj.cells #[.int .u64 1, .int .u64 1, .int .u64 1, .int .u64 1] 45))
  go_wp2_with fail
  have hs := same_calls (some ⟨h, 0, none⟩) (some ⟨w3.heap.size, 0, none⟩) d 4 [1, 1, 1, 1] [1, 1, 1, 1] _ (In.of_mr HM4.out (by decide)) (In.of_mr HQ4.out (by decide)) (by decide) rfl
  rw [show ([1, 1, 1, 1] : List Int).length = 4 from rfl] at hs
  with_reducible refine hs.mono ?_
  clear hs
  rintro e w5 ⟨rfl, hd⟩
  have HB5 := Aside0.mk (below_then HB4.out HB4.out.size hd.below)
  clear hd
  go_wp2
  go_ret
  exact ⟨rfl, HB5.out⟩
set_option maxHeartbeats 4000000 in
theorem made_yes (A : Option Addr) (c : Nat) (l : List Int) (R C : Int) (w : World) (hl : In w A c l) (hW : Ws l) (hL : l.length ≤ 64) (hp : 0 < l.length) (hg : GoodS R C) (hs : R * C = (l.length : Int)) (hT : TabOK w) :
    Calls Tryd.prog 24 #[.agg #[.int .i64 R, .int .i64 C], .slice A l.length c] w fun e w' => ∃ p g cg, e = .returned (.pointer (some ⟨p, 0, none⟩)) ∧ Gd w' p g cg R C (can l) ∧ Below w.heap.size w w' ∧ w.heap.size ≤ p ∧ w.heap.size ≤ g := by
  obtain ⟨kg, hkg⟩ := (rgood_yes R C hg).rounds
  have HKG := Aside0.mk hkg
  have HT0 := Aside0.mk hT
  have HB0 := Aside0.mk (below_alloc (Below.refl w.heap.size w) (Obj.cells #[.int .i64 R, .int .i64 C] 23))
  have HS0 := Aside0.mk (Bk.new w 23 [.int .i64 R, .int .i64 C])
  have HLw := Aside0.mk hl
  have HW := Aside0.mk hW
  have HG := Aside0.mk hg
  have HZ := Aside0.mk hs
  have d1 : decide ((64 : Int) < (l.length : Int)) = false := decide_eq_false (by omega)
  obtain ⟨bs, hbs⟩ : ∃ z, z = w.heap.size := ⟨_, rfl⟩
  have HE := Aside0.mk (show wrap64 (R * C) = (l.length : Int) by rw [hs]; exact wrap_i _ (by omega) (by omega))
  have e2 : ((l.length : Int) != (l.length : Int)) = false := by simp
  clear hT hl hW hg hs hkg
  go_enter Tryd.func24, Tryd.ntmps24
  go_wp2_with fail
  with_reducible refine (abacistref06_Good.calls kg R C true _ HKG.out).mono ?_
  rintro e w1 ⟨rfl, hb⟩
  rw [← hbs] at HS0 ⊢
  clear hbs
  have HB1 := Aside0.mk (below_then HB0.out HB0.out.size hb)
  have HS1 := Aside0.mk (HS0.out.below hb)
  have v0 := HS1.out.cell 0
  have v1 := HS1.out.cell 1
  clear hb HB0 HS0
  have e1 := HE.out
  go_wp2_with fail
  clear v0 v1 e1
  with_reducible refine (gnew_yes A c l R C _ (HLw.out.below HB1.out) HW.out (by omega) hp HG.out HZ.out (HT0.out.below HB1.out)).mono ?_
  rintro e w2 ⟨p, g, cg, rfl, hg, hb, hp2, hg2⟩
  have HB2 := Aside0.mk (below_then HB1.out HB1.out.size hb)
  have HG2 := Aside0.mk hg
  have HP := Aside0.mk (show w.heap.size ≤ p ∧ w.heap.size ≤ g by have := HB1.out.size; omega)
  clear hg hb hp2 hg2 HB1
  go_wp2
  go_ret
  exact ⟨p, g, cg, rfl, HG2.out, HB2.out, HP.out.1, HP.out.2⟩
set_option maxHeartbeats 4000000 in
theorem made_no (A : Option Addr) (c : Nat) (l : List Int) (R C : Int) (w : World) (h : ¬ (l.length ≤ 64 ∧ GoodS R C ∧ R * C = (l.length : Int))) (hT : TabOK w) :
    Calls Tryd.prog 24 #[.agg #[.int .i64 R, .int .i64 C], .slice A l.length c] w fun e w' => e = .returned (.pointer none) ∧ Below w.heap.size w w' := by
  have HB0 := Aside0.mk (below_alloc (Below.refl w.heap.size w) (Obj.cells #[.int .i64 R, .int .i64 C] 23))
  have HS0 := Aside0.mk (Bk.new w 23 [.int .i64 R, .int .i64 C])
  obtain ⟨bs, hbs⟩ : ∃ z, z = w.heap.size := ⟨_, rfl⟩
  by_cases hL : l.length ≤ 64
  · have d1 : decide ((64 : Int) < (l.length : Int)) = false := decide_eq_false (by omega)
    by_cases hg : GoodS R C
    · have hs : R * C ≠ (l.length : Int) := fun e => h ⟨hL, hg, e⟩
      obtain ⟨kg, hkg⟩ := (rgood_yes R C hg).rounds
      have HKG := Aside0.mk hkg
      obtain ⟨a, b, hab, ha, hb⟩ := good_ints hg
      have hp2 := pow32 hab
      rw [Nat.pow_add] at hp2
      have e1 : wrap64 (R * C) = R * C := by rw [ha, hb, ← Int.natCast_mul]; exact wrap_i _ (by omega) (by omega)
      have e2 : (R * C != (l.length : Int)) = true := by rw [bne_iff_ne]; exact hs
      have HE := Aside0.mk e1
      clear hT h hg hs hkg hab ha hb hp2 e1
      go_enter Tryd.func24, Tryd.ntmps24
      go_wp2_with fail
      with_reducible refine (abacistref06_Good.calls kg R C true _ HKG.out).mono ?_
      rintro e w1 ⟨rfl, hb⟩
      rw [← hbs] at HS0 ⊢
      clear hbs
      have HB1 := Aside0.mk (below_then HB0.out HB0.out.size hb)
      have HS1 := Aside0.mk (HS0.out.below hb)
      have v0 := HS1.out.cell 0
      have v1 := HS1.out.cell 1
      clear hb HB0 HS0
      have e1 := HE.out
      go_wp2
      go_ret
      exact ⟨rfl, HB1.out⟩
    · obtain ⟨kg, hkg⟩ := (rgood_no R C hg).rounds
      have HKG := Aside0.mk hkg
      clear hT h hg hkg
      go_enter Tryd.func24, Tryd.ntmps24
      go_wp2_with fail
      with_reducible refine (abacistref06_Good.calls kg R C false _ HKG.out).mono ?_
      rintro e w1 ⟨rfl, hb⟩
      have HB1 := Aside0.mk (below_then HB0.out HB0.out.size hb)
      clear hb HB0 HS0
      go_wp2
      go_ret
      exact ⟨rfl, HB1.out⟩
  · have d1 : decide ((64 : Int) < (l.length : Int)) = true := decide_eq_true (by omega)
    clear hT h
    go_enter Tryd.func24, Tryd.ntmps24
    go_wp2
    go_ret
    exact ⟨rfl, HB0.out⟩
end Go.Proofs.YtpnkcjnemoompaaDoor.Grid
end
section
namespace Go.Proofs.YtpnkcjnemoompaaDoor.Grid
open Go.RowKit Go.Proofs.YtpnkcjnemoompaaDoor Go.Proofs.YtpnkcjnemoompaaDoor.Ext Go.Proofs.YtpnkcjnemoompaaDoor.PPlan Go.Proofs.YtpnkcjnemoompaaDoor.PFft Go.Proofs.YtpnkcjnemoompaaDoor.Pure Go.Proofs.YtpnkcjnemoompaaDoor.Obj Go.Proofs.YtpnkcjnemoompaaDoor.Fft Go.Proofs.YtpnkcjnemoompaaDoor.Kern Go.Proofs.YtpnkcjnemoompaaDoorW.PrintWords Go.Proofs.YtpnkcjnemoompaaDoorW.PrintLast Go.Proofs.YtpnkcjnemoompaaDoorW.PrintMore
set_option linter.unusedVariables false
set_option linter.unusedSimpArgs false
set_option maxRecDepth 100000
attribute [local go_sem high] eqA23
structure Gt (w w' : World) (p g cg bs : Nat) (R C : Int) (xs : List Int) : Prop where
  be : Below w.heap.size w w'
  gd : Gd w' p g cg R C xs
  sh : Bk w' bs 23 [.int .i64 R, .int .i64 C]
theorem Gt.below {w w1 w2 : World} {p g cg bs : Nat} {R C : Int} {xs : List Int} (h : Gt w w1 p g cg bs R C xs) (hb : Below w1.heap.size w1 w2) : Gt w w2 p g cg bs R C xs := ⟨below_then h.be h.be.size hb, h.gd.below hb, h.sh.below hb⟩
theorem Gt.drew {w w1 : World} {p g cg bs : Nat} {R C : Int} {xs : List Int} (h : Gt w w1 p g cg bs R C xs) : Gt w w1.drew p g cg bs R C xs := h.below (below_drew1 (Below.refl _ _))
theorem canon_calls (A : Option Addr) (c : Nat) (l : List Int) (w : World) (hl : In w A c l) (hW : Ws l) (hL : l.length ≤ 1048576) :
    Calls Tryd.prog 21 #[.slice A l.length c] w fun e w' => ∃ B d, e = .returned (.slice B l.length d) ∧ In w' B d (can l) ∧ Below w.heap.size w w' := by
  obtain ⟨k, hk⟩ := (rCanon l hW hL).rounds
  rw [← can_is] at hk
  refine (abacistref08_Canon.calls k A c l (can l) w hl.r hl.c hk).mono ?_
  rintro e w1 ⟨v, rfl, hR, hb⟩
  obtain ⟨B, d, hv, hld, hcd⟩ := Kd.R_reads hR
  subst hv
  rw [can_len]
  exact ⟨B, d, rfl, In.mk hcd hld, hb⟩
theorem same_n (A B : Option Addr) (c c' n : Nat) (a b : List Int) (w : World) (ha : In w A c a) (hb : In w B c' b) (hn : n ≤ 1048576) (h1 : a.length = n) (h : a = b) :
    Calls Tryd.prog 19 #[.slice A n c, .slice B n c'] w fun e w' => e = .returned (.bool true) ∧ Below w.heap.size w w' := by
  have hs := same_calls A B c c' a b w ha hb (by omega) h
  rw [← h, h1] at hs
  exact hs.mono fun e w' ⟨h1, h2⟩ => ⟨h1, h2.below⟩
end Go.Proofs.YtpnkcjnemoompaaDoor.Grid
end
