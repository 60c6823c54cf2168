import Derived.Test.YtpnkcjnemoompaaDoorGz5
import Derived.Test.YtpnkcjnemoompaaDoorProg
import Derived.Below
import Derived.Deep.Draws
import Derived.Deep.AppendLies
import Derived.Maps.AppendAt
import Derived.OwnWalk
import Derived.Laws.BytesArg
import Derived.Laws.MakeOwn
import Derived.Laws.OwnMore
import Derived.Deep.OwnRows
import Derived.Tactics
import Derived.Lib.ConvBytes
import Derived.Laws.Slices
import Derived.WalkKit
import Derived.KernelRfl
import Derived.RowKit3
import Derived.Deep.LoopGhost
import Derived.Deep.QuietTactic
import Derived.BigQuiet
import Derived.WideLaws
import Derived.Deep.DeepCutAuto
import Derived.Deep.CutBlock
import Derived.Deep.RegionHeld3
import Derived.Laws.Rows
import Derived.Lib.AppendStr
import Derived.ArgAppend
import Derived.Laws.IdiomCopy
import Derived.RowKit
import Derived.OrdersHeld
import Derived.Laws.BitsLemmas
import Derived.Laws.CopyOwn
import Derived.Lib.Hide
import Derived.Shelf.Spec.TrailingZeros
import Derived.Lib.LaidTab
import Derived.Shelf.Strings.Builder1
import Derived.Shelf.Strings.Builder2
import Derived.Shelf.Strings.OnBuilder
import Derived.Shelf.Strings.BuilderF
import Derived.Shelf.Strings.BuilderK
import Derived.Shelf.Strings.Builder2Cap
import Derived.Shelf.Strconv.Itoa0
import Derived.Shelf.Strconv.Itoa1
import Derived.Shelf.LaysM
import Derived.Shelf.Strconv.Itoa2
import Derived.Shelf.Strconv.Itoa3
import Derived.Shelf.Bits.Mul64
import Derived.Shelf.Strings.BuilderCap
import Derived.Ground.SlgnProg
import Derived.Shelf.SlicesE.Clone
import Derived.Ground.SlgfProg
import Derived.Shelf.SlicesE.IndexFunc
import Derived.Laws.StructEq
import Derived.Shelf.Spec.BitsCarry
import Derived.Laws.BitsAllLaws
import Derived.OpenShut
import Derived.StillTailTactics
import Derived.Outline
import Derived.RegionTactic
import Derived.ChangeAlike
import Derived.BigRegion
/-! Texts of this claim, joined: GrdG, GrdH, GrdI, GrdJ, GrdK, GrdL, GrdM, GrdN. -/
section
namespace Go.Proofs.YtpnkcjnemoompaaDoor.Grid
open Go.RowKit Go.Proofs.YtpnkcjnemoompaaDoor Go.Proofs.YtpnkcjnemoompaaDoor.Ext Go.Proofs.YtpnkcjnemoompaaDoor.PPlan Go.Proofs.YtpnkcjnemoompaaDoor.PFft Go.Proofs.YtpnkcjnemoompaaDoor.Pure Go.Proofs.YtpnkcjnemoompaaDoor.Obj Go.Proofs.YtpnkcjnemoompaaDoor.Fft Go.Proofs.YtpnkcjnemoompaaDoor.Kern Go.Proofs.YtpnkcjnemoompaaDoorW.PrintWords Go.Proofs.YtpnkcjnemoompaaDoorW.PrintLast Go.Proofs.YtpnkcjnemoompaaDoorW.PrintMore
set_option linter.unusedVariables false
set_option linter.unusedSimpArgs false
set_option maxRecDepth 100000
set_option maxHeartbeats 8000000 in
theorem put_move (a b R C p g cg b0 b1 b2 u v : Nat) (xs : List Int) (ha : R = 2 ^ a) (hb : C = 2 ^ b) (hab : a + b ≤ 20) (hu : u ≤ R) (hv : v ≤ C) (hl : R * C = xs.length) (w : World) (hG : Gd w p g cg (R : Int) (C : Int) xs) (h0 : Bk w b0 26 [.pointer (some ⟨p, 0, none⟩)]) (h1 : Bk w b1 3 [.int .i64 (u : Int)]) (h2 : Bk w b2 3 [.int .i64 (v : Int)]) :
    Calls Tryd.prog 91 #[.pointer (some ⟨p, 0, none⟩), .func (.func 92) #[] #[.pointer (some ⟨b0, 0, none⟩), .pointer (some ⟨b1, 0, none⟩), .pointer (some ⟨b2, 0, none⟩)]] w fun e w' => e = .returned (.tuple #[]) ∧ ∃ h d, Gd w' p h d (R : Int) (C : Int) (plc (List.replicate xs.length 0) xs (mvp a b u v) xs.length) ∧ Fr w w' [p] ∧ w.heap.size ≤ h := by
  obtain ⟨n, hn⟩ : ∃ n, n = xs.length := ⟨_, rfl⟩
  rw [← hn] at hl ⊢
  have hN : n = 2 ^ (a + b) := by rw [Nat.pow_add, ← ha, ← hb, hl]
  have bn : n ≤ 1048576 := by rw [hN]; exact pow20 hab
  have hC0 : 1 ≤ C := by rw [hb]; exact Nat.two_pow_pos _
  have bR : R ≤ 1048576 := by rw [ha]; exact pow20 (by omega)
  have bC : C ≤ 1048576 := by rw [hb]; exact pow20 (by omega)
  have HTt := Aside0.mk (show ∀ t, mvp a b u v t < n from fun t => by rw [hN]; exact mvp_lt a b u v _)
  have HMk := Aside0.mk (show (∀ x : Nat, x < R → Go.bits .and .i64 (x : Int) ((R - 1 : Nat) : Int) = (x : Int)) ∧ (∀ x : Nat, x < C → Go.bits .and .i64 (x : Int) ((C - 1 : Nat) : Int) = (x : Int)) from by
    refine ⟨fun x hx => ?_, fun x hx => ?_⟩
    · have := mask a (by omega) (x : Int)
      rw [← ha] at this
      rw [this, ← Int.natCast_emod, Nat.mod_eq_of_lt hx]
    · have := mask b (by omega) (x : Int)
      rw [← hb] at this
      rw [this, ← Int.natCast_emod, Nat.mod_eq_of_lt hx])
  have HA := Aside0.mk ha
  have HBb := Aside0.mk hb
  have HAB := Aside0.mk hab
  have HLn := Aside0.mk hl
  have HNn := Aside0.mk hn
  have HG0 := Aside0.mk hG
  have H0 := Aside0.mk h0
  have H1 := Aside0.mk h1
  have H2 := Aside0.mk h2
  have HU := Aside0.mk hu
  have HV := Aside0.mk hv
  have u2 := hG.c2
  rw [← hn] at u2
  obtain ⟨T, hT⟩ : ∃ T, T = mvp a b u v := ⟨_, rfl⟩
  have HT := Aside0.mk hT
  have HTt2 := Aside0.mk (show ∀ t, T t < n from by rw [hT]; exact HTt.out)
  rw [← hT]
  clear ha hb hab hl hn hN hG h0 h1 h2 hu hv hT HTt
  go_enter Tryd.func91, Tryd.ntmps91
  go_wp2_with ((with_reducible refine gate_dst (N := 12) rfl ?_); refine make_row rfl 24 (.tmp 11) (.tmp 11) rfl n rfl rfl Tryd.underlying24 info_u64 (by omega) ?_; intro w1 hrow hb hsz; have HR1 := Aside0.mk (show Mr w1 w.heap.size n (plc (List.replicate n 0) xs T 0) by have h := Mr.of_rw hrow; rw [List.length_replicate] at h; exact h); have HB1 := Aside0.mk hb; clear hrow hb hsz u2; have u0 := (HG0.out.below HB1.out).c0)
  clear u0
  obtain ⟨go_, hgo⟩ : ∃ z, z = w.heap.size := ⟨_, rfl⟩
  have HGo : Aside0 (w.heap.size ≤ go_) := ⟨by omega⟩
  have HGp : Aside0 (p ≠ go_) := ⟨by have := HG0.out.lp; omega⟩
  rw [← hgo] at HR1 ⊢
  clear hgo
  go_loopw [19] (fun v19 wr => ∃ i : Nat, v19 = .int .i64 i ∧ i ≤ R ∧ Aside0 (Below w.heap.size w wr) ∧ Aside0 (Mr wr go_ n (plc (List.replicate n 0) xs T (i * C)))) (fun v19 _ => R - (intOf v19).toNat)
  case atStart => exact ⟨0, rfl, Nat.zero_le _, HB1, ⟨by rw [Nat.zero_mul]; exact HR1.out⟩⟩
  case round =>
    clear HR1 HB1
    obtain ⟨i, rfl, hi, HB, HM⟩ := hrel
    by_cases h1' : i < R
    · have hia : (i : Int) < (R : Int) := by omega
      have hib : decide ((i : Int) < (R : Int)) = true := decide_eq_true hia
      have hic : decide (i < R) = true := decide_eq_true h1'
      have v1 := (HG0.out.below HB.out).c1
      have HM0 := Aside0.mk (show Mr _ go_ n (plc (List.replicate n 0) xs T (i * C + 0)) from HM.out)
      clear HM
      go_wp2
      clear v1
      go_loopw [28] (fun v28 wr => ∃ j : Nat, v28 = .int .i64 j ∧ j ≤ C ∧ Aside0 (Below w.heap.size w wr) ∧ Aside0 (Mr wr go_ n (plc (List.replicate n 0) xs T (i * C + j)))) (fun v28 _ => C - (intOf v28).toNat)
      case atStart => exact ⟨0, rfl, Nat.zero_le _, HB, HM0⟩
      case round =>
        clear HM0 HB
        obtain ⟨j, rfl, hj, HB, HM⟩ := hrel
        by_cases h2' : j < C
        · have hja : (j : Int) < (C : Int) := by omega
          have hjb : decide ((j : Int) < (C : Int)) = true := decide_eq_true hja
          have hjc : decide (j < C) = true := decide_eq_true h2'
          obtain ⟨t, ht⟩ : ∃ z, z = i * C + j := ⟨_, rfl⟩
          have htn : t < n := by
            have h5 : (i + 1) * C ≤ R * C := Nat.mul_le_mul_right _ h1'
            rw [Nat.add_mul, Nat.one_mul] at h5
            have := HLn.out
            omega
          have hTn : T t < n := HTt2.out t
          have HNx := Aside0.mk (show (plc (List.replicate n 0) xs T t).set (T t) (xs.getD t 0) = plc (List.replicate n 0) xs T (i * C + (j + 1)) by rw [← Nat.add_assoc, ← ht]; rfl)
          rw [← ht] at HM
          have hx := (HG0.out.below HB.out).row.cell t (by rw [← HNn.out]; exact htn)
          obtain ⟨x, hxe⟩ : ∃ z, z = xs.getD t 0 := ⟨_, rfl⟩
          rw [← hxe] at hx HNx
          obtain ⟨s, hse⟩ : ∃ z, z = T t := ⟨_, rfl⟩
          rw [← hse] at hTn HNx
          have v2 := (HG0.out.below HB.out).c2
          rw [← HNn.out] at v2
          have HSe := Aside0.mk hse
          have HTe := Aside0.mk ht
          have HXx := Aside0.mk hx
          have HV2 := Aside0.mk v2
          have t0 : (0 : Int) ≤ (t : Int) := by omega
          have t1 : (t : Int) < (n : Int) := by omega
          have s0 : (0 : Int) ≤ (s : Int) := by omega
          have s1 : (s : Int) < (n : Int) := by omega
          have hsl : s < (plc (List.replicate n 0) xs T t).length := by rw [plc_len, List.length_replicate]; exact hTn
          clear hx hxe hse ht v2
          go_wp2_with fail
          refine start_ (n := 19) (S := fun w' => w'.cell? ⟨p, 2, none⟩ = some (.slice (some ⟨g, 0, none⟩) n cg) ∧ w'.cell? ⟨g, t, none⟩ = some (.int .u64 x) ∧ Aside0 (Below w.heap.size w w' ∧ Mr w' go_ n (plc (List.replicate n 0) xs T t))) (ds := [18]) #[false, false, false, false, false, false, false, false, false, false, false, false, false, false, false, false, false, false, false] (by kernel_rfl) rfl rfl ⟨HV2.out, HXx.out, ⟨below_drew1 HB.out, Mr.drw HM.out⟩⟩ (fun hHeld => ?_)
          refine pure_ (i := 0) (N := some 31) (v := ?_) (a' := ?_) #[true, false, false, false, false, false, false, false, false, false, false, false, false, false, false, false, false, false, false] rfl rfl (by kernel_rfl) (fun _ _ _ h => h) (Or.inl ⟨by rfl, ?_⟩) ?_ ?_
          rotate_left
          · intro w'
            go_simp
            with_reducible rfl
          rotate_left
          · simp only [Act.put, List.setIfInBounds_toArray, List.set_cons_zero, List.set_cons_succ, i64_w, i32_w]
            rfl
          refine pure_ (i := 1) (N := some 32) (v := ?_) (a' := ?_) #[true, true, false, false, false, false, false, false, false, false, false, false, false, false, false, false, false, false, false] rfl rfl (by kernel_rfl) (fun _ _ _ h => h) (Or.inl ⟨by rfl, ?_⟩) ?_ ?_
          rotate_left
          · intro w'
            go_simp
            with_reducible rfl
          rotate_left
          · simp only [Act.put, List.setIfInBounds_toArray, List.set_cons_zero, List.set_cons_succ, i64_w, i32_w]
            rfl
          refine pure_ (i := 2) (N := some 33) (v := ?_) (a' := ?_) #[true, true, true, false, false, false, false, false, false, false, false, false, false, false, false, false, false, false, false] rfl rfl (by kernel_rfl) (fun _ _ _ h => h) (Or.inl ⟨by rfl, ?_⟩) ?_ ?_
          rotate_left
          · intro w'
            go_simp
            with_reducible rfl
          rotate_left
          · simp only [Act.put, List.setIfInBounds_toArray, List.set_cons_zero, List.set_cons_succ, i64_w, i32_w]
            rfl
          refine pure_ (i := 3) (N := some 34) (v := ?_) (a' := ?_) #[true, true, true, true, false, false, false, false, false, false, false, false, false, false, false, false, false, false, false] rfl rfl (by kernel_rfl) (fun _ _ _ h => h) (Or.inl ⟨by rfl, ?_⟩) ?_ ?_
          rotate_left
          · intro w'
            go_simp
            with_reducible rfl
          rotate_left
          · simp only [Act.put, List.setIfInBounds_toArray, List.set_cons_zero, List.set_cons_succ, i64_w, i32_w]
            rfl
          refine pure_ (i := 5) (N := some 36) (v := ?_) (a' := ?_) #[true, true, true, true, false, true, false, false, false, false, false, false, false, false, false, false, false, false, false] rfl rfl (by kernel_rfl) (fun _ _ _ h => h) (Or.inl ⟨by rfl, ?_⟩) ?_ ?_
          rotate_left
          · intro w'
            go_simp
            with_reducible rfl
          rotate_left
          · simp only [Act.put, List.setIfInBounds_toArray, List.set_cons_zero, List.set_cons_succ, i64_w, i32_w]
            rfl
          refine pure_ (i := 6) (N := some 37) (v := ?_) (a' := ?_) #[true, true, true, true, false, true, true, false, false, false, false, false, false, false, false, false, false, false, false] rfl rfl (by kernel_rfl) (fun _ _ _ h => h) (Or.inl ⟨by rfl, ?_⟩) ?_ ?_
          rotate_left
          · intro w'
            go_simp
            with_reducible rfl
          rotate_left
          · simp only [Act.put, List.setIfInBounds_toArray, List.set_cons_zero, List.set_cons_succ, i64_w, i32_w]
            rfl
          refine pure_ (i := 7) (N := some 38) (v := ?_) (a' := ?_) #[true, true, true, true, false, true, true, true, false, false, false, false, false, false, false, false, false, false, false] rfl rfl (by kernel_rfl) (fun _ _ _ h => h) (Or.inl ⟨by rfl, ?_⟩) ?_ ?_
          rotate_left
          · intro w'
            go_simp
            with_reducible rfl
          rotate_left
          · simp only [Act.put, List.setIfInBounds_toArray, List.set_cons_zero, List.set_cons_succ, i64_w, i32_w]
            rfl
          refine pure_ (i := 9) (N := some 40) (v := ?_) (a' := ?_) #[true, true, true, true, false, true, true, true, false, true, false, false, false, false, false, false, false, false, false] rfl rfl (by kernel_rfl) (fun _ _ _ h => h) (Or.inl ⟨by rfl, ?_⟩) ?_ ?_
          rotate_left
          · intro w'
            go_simp
            with_reducible rfl
          rotate_left
          · simp only [Act.put, List.setIfInBounds_toArray, List.set_cons_zero, List.set_cons_succ, i64_w, i32_w]
            rfl
          refine pure_ (i := 10) (N := some 41) (v := ?_) (a' := ?_) #[true, true, true, true, false, true, true, true, false, true, true, false, false, false, false, false, false, false, false] rfl rfl (by kernel_rfl) (fun _ _ _ h => h) (Or.inl ⟨by rfl, ?_⟩) ?_ ?_
          rotate_left
          · intro w'
            go_simp
            with_reducible rfl
          rotate_left
          · simp only [Act.put, List.setIfInBounds_toArray, List.set_cons_zero, List.set_cons_succ, i64_w, i32_w]
            rfl
          refine pure_ (i := 11) (N := some 42) (v := ?_) (a' := ?_) #[true, true, true, true, false, true, true, true, false, true, true, true, false, false, false, false, false, false, false] rfl rfl (by kernel_rfl) (fun _ _ _ h => h) (Or.inl ⟨by rfl, ?_⟩) ?_ ?_
          rotate_left
          · intro w'
            go_simp
            with_reducible rfl
          rotate_left
          · simp only [Act.put, List.setIfInBounds_toArray, List.set_cons_zero, List.set_cons_succ, i64_w, i32_w]
            rfl
          refine pure_ (i := 12) (N := some 43) (v := ?_) (a' := ?_) #[true, true, true, true, false, true, true, true, false, true, true, true, true, false, false, false, false, false, false] rfl rfl (by kernel_rfl) (fun _ _ _ h => h) (Or.inl ⟨by rfl, ?_⟩) ?_ ?_
          rotate_left
          · intro w'
            go_simp
            with_reducible rfl
          rotate_left
          · simp only [Act.put, List.setIfInBounds_toArray, List.set_cons_zero, List.set_cons_succ, i64_w, i32_w]
            rfl
          refine pure_ (i := 13) (N := some 44) (v := ?_) (a' := ?_) #[true, true, true, true, false, true, true, true, false, true, true, true, true, true, false, false, false, false, false] rfl rfl (by kernel_rfl) (fun _ _ _ h => h) (Or.inl ⟨by rfl, ?_⟩) ?_ ?_
          rotate_left
          · intro w'
            go_simp
            with_reducible rfl
          rotate_left
          · simp only [Act.put, List.setIfInBounds_toArray, List.set_cons_zero, List.set_cons_succ, i64_w, i32_w]
            rfl
          refine take_ (i := 8) (N := some 39) (v := ?_) (a' := ?_) #[true, true, true, true, false, true, true, true, true, true, true, true, true, true, false, false, false, false, false] rfl rfl (by kernel_rfl) (fun _ _ _ h => h) (Or.inl ⟨by rfl, ?_⟩) hHeld ?_ ?_
          rotate_left
          · rintro w' ⟨s0, s1, s2⟩
            go_simp
            with_reducible rfl
          rotate_left
          · simp only [Act.put, List.setIfInBounds_toArray, List.set_cons_zero, List.set_cons_succ, i64_w, i32_w]
            rfl
          refine one_ (i := 4) (N := some 35) #[true, true, true, true, true, true, true, true, true, true, true, true, true, true, false, false, false, false, false] rfl rfl (by kernel_rfl) (by decide) (fun K hK => ?_)
          refine call_ 92 #[.int .i64 (i : Int), .int .i64 (j : Int), .pointer (some ⟨b0, 0, none⟩), .pointer (some ⟨b1, 0, none⟩), .pointer (some ⟨b2, 0, none⟩)] (by rfl) rfl ?hr ?_
          case hr => first | (go_simp; done) | (go_simp; rfl)
          have hcl := move_calls a b R C p g cg i j b0 b1 b2 u v xs HA.out HBb.out HAB.out HU.out HV.out h1' h2' _ (HG0.out.below (hHeld.2.2.out.1)) (H0.out.below (hHeld.2.2.out.1)) (H1.out.below (hHeld.2.2.out.1)) (H2.out.below (hHeld.2.2.out.1))
          rw [← HT.out, ← HTe.out, ← HSe.out] at hcl
          with_reducible refine hcl.mono ?_
          clear hcl
          rintro e w4 ⟨rfl, hb⟩
          refine ⟨_, rfl, ?_⟩
          have n0 := pw_cell_below hb hHeld.1
          have n1 := pw_cell_below hb hHeld.2.1
          have nS := And.intro (below_then hHeld.2.2.out.1 hHeld.2.2.out.1.size hb) (hHeld.2.2.out.2.below hb)
          clear hHeld hb
          refine hK.out _ _ ⟨n0, n1, ⟨nS⟩⟩ (fun hHeld => ?_)
          clear hK K
          refine norm_ (a' := ?_) ?_ ?_
          rotate_left
          · show Act.put _ (some 35) _ = _
            simp only [Act.put, List.setIfInBounds_toArray, List.set_cons_zero, List.set_cons_succ, i64_w, i32_w]
            rfl
          refine one_ (i := 14) (N := some 45) #[true, true, true, true, true, true, true, true, true, true, true, true, true, true, true, false, false, false, false] rfl rfl (by kernel_rfl) (by decide) (fun K hK => ?_)
          refine goes_ Tryd.func93 (by kernel_rfl) rfl #[.pointer (some ⟨p, 0, none⟩), .int .i64 (i : Int), .int .i64 (j : Int)] (by rfl) rfl rfl (by simp only [List.map_toArray, List.map_cons, List.map_nil]; rfl) ?_
          with_reducible refine (ground p R C i j t (i : Int) (j : Int) (by omega) hC0 bR bC (HMk.out.1 i h1') (HMk.out.2 j h2') HTe.out (by omega) _ (HG0.out.below hHeld.2.2.out.1).c0 (HG0.out.below hHeld.2.2.out.1).c1).mono ?_
          rintro e w5 ⟨rfl, hb⟩
          refine ⟨_, rfl, ?_⟩
          have n0 := pw_cell_below hb hHeld.1
          have n1 := pw_cell_below hb hHeld.2.1
          have nS := And.intro (below_then hHeld.2.2.out.1 hHeld.2.2.out.1.size hb) (hHeld.2.2.out.2.below hb)
          clear hHeld hb
          refine hK.out _ _ ⟨n0, n1, ⟨nS⟩⟩ (fun hHeld => ?_)
          clear hK K
          refine norm_ (a' := ?_) ?_ ?_
          rotate_left
          · show Act.put _ (some 45) _ = _
            simp only [Act.put, List.setIfInBounds_toArray, List.set_cons_zero, List.set_cons_succ, i64_w, i32_w]
            rfl
          refine pure_ (i := 15) (N := some 46) (v := ?_) (a' := ?_) #[true, true, true, true, true, true, true, true, true, true, true, true, true, true, true, true, false, false, false] rfl rfl (by kernel_rfl) (fun _ _ _ h => h) (Or.inl ⟨by rfl, ?_⟩) ?_ ?_
          rotate_left
          · intro w'
            go_simp
            with_reducible rfl
          rotate_left
          · simp only [Act.put, List.setIfInBounds_toArray, List.set_cons_zero, List.set_cons_succ, i64_w, i32_w]
            rfl
          refine take_ (i := 16) (N := some 47) (v := ?_) (a' := ?_) #[true, true, true, true, true, true, true, true, true, true, true, true, true, true, true, true, true, false, false] rfl rfl (by kernel_rfl) (fun _ _ _ h => h) (Or.inl ⟨by rfl, ?_⟩) hHeld ?_ ?_
          rotate_left
          · rintro w' ⟨s0, s1, s2⟩
            go_simp
            with_reducible rfl
          rotate_left
          · simp only [Act.put, List.setIfInBounds_toArray, List.set_cons_zero, List.set_cons_succ, i64_w, i32_w]
            rfl
          refine pure_ (i := 17) (N := some 48) (v := ?_) (a' := ?_) #[true, true, true, true, true, true, true, true, true, true, true, true, true, true, true, true, true, true, false] rfl rfl (by kernel_rfl) (fun _ _ _ h => h) (Or.inl ⟨by rfl, ?_⟩) ?_ ?_
          rotate_left
          · intro w'
            go_simp
            with_reducible rfl
          rotate_left
          · simp only [Act.put, List.setIfInBounds_toArray, List.set_cons_zero, List.set_cons_succ, i64_w, i32_w]
            rfl
          refine last_ (i := 18) (N := none) #[true, true, true, true, true, true, true, true, true, true, true, true, true, true, true, true, true, true, true] rfl rfl (by kernel_rfl) (by decide) (fun K hK => ?_)
          have c1 := hHeld.2.2.out.2.cell s hsl
          have f1 := hHeld.2.2.out.2.frozen s
          have HM6 := Aside0.mk (hHeld.2.2.out.2.put s x)
          have HB6 := Aside0.mk (below_set (v := .int .u64 x) (j := s) hHeld.2.2.out.1 HGo.out)
          refine skip_ (w1 := ?_) (by rfl) rfl ?_ ?_
          rotate_left
          · go_simp
            rfl
          refine hK.out _ _ ?_
          clear hK K
          refine done_ (by kernel_rfl) ?_
          clear hHeld
          rw [HNx.out] at HM6
          go_wp2
          go_roundw
          case rel => exact ⟨j + 1, by go_num, by omega, HB6, HM6⟩
          case measure => simp [intOf]; omega
        · obtain rfl : j = C := by omega
          have hja : decide ((j : Int) < (j : Int)) = false := decide_eq_false (by omega)
          have hjc : decide (j < j) = false := decide_eq_false (by omega)
          go_wp2
          go_roundw
          case rel => exact ⟨i + 1, by go_num, by omega, HB, ⟨by rw [Nat.add_mul, Nat.one_mul]; exact HM.out⟩⟩
          case measure => simp [intOf]; omega
    · obtain rfl : i = R := by omega
      have hia : decide ((i : Int) < (i : Int)) = false := decide_eq_false (by omega)
      have hic : decide (i < i) = false := decide_eq_false (by omega)
      rw [HLn.out] at HM
      have HO := Aside0.mk (HG0.out.obj.below HB.out)
      have z2 := HO.out.cell 2
      have f2 := HO.out.frozen 2
      go_wp2
      refine bodyPost_end (results_none Tryd.results91 _ _ _) rfl ?_
      refine ⟨rfl, go_, n, ⟨?_, HM.out.far p 2 _ (Ne.symm HGp.out)⟩, (Fr.of_below HB.out [p]).set p 2 _ (.inl (by simp)), HGo.out⟩
      rw [plc_len, List.length_replicate]
      exact HO.out.put 2 _
set_option maxHeartbeats 8000000 in
theorem put_flip (a b R C p g cg b0 : Nat) (xs : List Int) (ha : R = 2 ^ a) (hb : C = 2 ^ b) (hab : a + b ≤ 20) (hl : R * C = xs.length) (w : World) (hG : Gd w p g cg (R : Int) (C : Int) xs) (h0 : Bk w b0 26 [.pointer (some ⟨p, 0, none⟩)]) :
    Calls Tryd.prog 91 #[.pointer (some ⟨p, 0, none⟩), .func (.func 94) #[] #[.pointer (some ⟨b0, 0, none⟩)]] w fun e w' => e = .returned (.tuple #[]) ∧ ∃ h d, Gd w' p h d (R : Int) (C : Int) (plc (List.replicate xs.length 0) xs (flp a b) xs.length) ∧ Fr w w' [p] ∧ w.heap.size ≤ h := by
  obtain ⟨n, hn⟩ : ∃ n, n = xs.length := ⟨_, rfl⟩
  rw [← hn] at hl ⊢
  have hN : n = 2 ^ (a + b) := by rw [Nat.pow_add, ← ha, ← hb, hl]
  have bn : n ≤ 1048576 := by rw [hN]; exact pow20 hab
  have hC0 : 1 ≤ C := by rw [hb]; exact Nat.two_pow_pos _
  have bR : R ≤ 1048576 := by rw [ha]; exact pow20 (by omega)
  have bC : C ≤ 1048576 := by rw [hb]; exact pow20 (by omega)
  have HTt := Aside0.mk (show ∀ t, flp a b t < n from fun t => by rw [hN]; exact flp_lt a b _)
  have HMk := Aside0.mk (show (∀ x : Nat, x < R → Go.bits .and .i64 (x : Int) ((R - 1 : Nat) : Int) = (x : Int)) ∧ (∀ x : Nat, x < C → Go.bits .and .i64 (x : Int) ((C - 1 : Nat) : Int) = (x : Int)) from by
    refine ⟨fun x hx => ?_, fun x hx => ?_⟩
    · have := mask a (by omega) (x : Int)
      rw [← ha] at this
      rw [this, ← Int.natCast_emod, Nat.mod_eq_of_lt hx]
    · have := mask b (by omega) (x : Int)
      rw [← hb] at this
      rw [this, ← Int.natCast_emod, Nat.mod_eq_of_lt hx])
  have HA := Aside0.mk ha
  have HBb := Aside0.mk hb
  have HAB := Aside0.mk hab
  have HLn := Aside0.mk hl
  have HNn := Aside0.mk hn
  have HG0 := Aside0.mk hG
  have H0 := Aside0.mk h0
  have u2 := hG.c2
  rw [← hn] at u2
  obtain ⟨T, hT⟩ : ∃ T, T = flp a b := ⟨_, rfl⟩
  have HT := Aside0.mk hT
  have HTt2 := Aside0.mk (show ∀ t, T t < n from by rw [hT]; exact HTt.out)
  rw [← hT]
  clear ha hb hab hl hn hN hG h0 hT HTt
  go_enter Tryd.func91, Tryd.ntmps91
  go_wp2_with ((with_reducible refine gate_dst (N := 12) rfl ?_); refine make_row rfl 24 (.tmp 11) (.tmp 11) rfl n rfl rfl Tryd.underlying24 info_u64 (by omega) ?_; intro w1 hrow hb hsz; have HR1 := Aside0.mk (show Mr w1 w.heap.size n (plc (List.replicate n 0) xs T 0) by have h := Mr.of_rw hrow; rw [List.length_replicate] at h; exact h); have HB1 := Aside0.mk hb; clear hrow hb hsz u2; have u0 := (HG0.out.below HB1.out).c0)
  clear u0
  obtain ⟨go_, hgo⟩ : ∃ z, z = w.heap.size := ⟨_, rfl⟩
  have HGo : Aside0 (w.heap.size ≤ go_) := ⟨by omega⟩
  have HGp : Aside0 (p ≠ go_) := ⟨by have := HG0.out.lp; omega⟩
  rw [← hgo] at HR1 ⊢
  clear hgo
  go_loopw [19] (fun v19 wr => ∃ i : Nat, v19 = .int .i64 i ∧ i ≤ R ∧ Aside0 (Below w.heap.size w wr) ∧ Aside0 (Mr wr go_ n (plc (List.replicate n 0) xs T (i * C)))) (fun v19 _ => R - (intOf v19).toNat)
  case atStart => exact ⟨0, rfl, Nat.zero_le _, HB1, ⟨by rw [Nat.zero_mul]; exact HR1.out⟩⟩
  case round =>
    clear HR1 HB1
    obtain ⟨i, rfl, hi, HB, HM⟩ := hrel
    by_cases h1' : i < R
    · have hia : (i : Int) < (R : Int) := by omega
      have hib : decide ((i : Int) < (R : Int)) = true := decide_eq_true hia
      have hic : decide (i < R) = true := decide_eq_true h1'
      have v1 := (HG0.out.below HB.out).c1
      have HM0 := Aside0.mk (show Mr _ go_ n (plc (List.replicate n 0) xs T (i * C + 0)) from HM.out)
      clear HM
      go_wp2
      clear v1
      go_loopw [28] (fun v28 wr => ∃ j : Nat, v28 = .int .i64 j ∧ j ≤ C ∧ Aside0 (Below w.heap.size w wr) ∧ Aside0 (Mr wr go_ n (plc (List.replicate n 0) xs T (i * C + j)))) (fun v28 _ => C - (intOf v28).toNat)
      case atStart => exact ⟨0, rfl, Nat.zero_le _, HB, HM0⟩
      case round =>
        clear HM0 HB
        obtain ⟨j, rfl, hj, HB, HM⟩ := hrel
        by_cases h2' : j < C
        · have hja : (j : Int) < (C : Int) := by omega
          have hjb : decide ((j : Int) < (C : Int)) = true := decide_eq_true hja
          have hjc : decide (j < C) = true := decide_eq_true h2'
          obtain ⟨t, ht⟩ : ∃ z, z = i * C + j := ⟨_, rfl⟩
          have htn : t < n := by
            have h5 : (i + 1) * C ≤ R * C := Nat.mul_le_mul_right _ h1'
            rw [Nat.add_mul, Nat.one_mul] at h5
            have := HLn.out
            omega
          have hTn : T t < n := HTt2.out t
          have HNx := Aside0.mk (show (plc (List.replicate n 0) xs T t).set (T t) (xs.getD t 0) = plc (List.replicate n 0) xs T (i * C + (j + 1)) by rw [← Nat.add_assoc, ← ht]; rfl)
          rw [← ht] at HM
          have hx := (HG0.out.below HB.out).row.cell t (by rw [← HNn.out]; exact htn)
          obtain ⟨x, hxe⟩ : ∃ z, z = xs.getD t 0 := ⟨_, rfl⟩
          rw [← hxe] at hx HNx
          obtain ⟨s, hse⟩ : ∃ z, z = T t := ⟨_, rfl⟩
          rw [← hse] at hTn HNx
          have v2 := (HG0.out.below HB.out).c2
          rw [← HNn.out] at v2
          have HSe := Aside0.mk hse
          have HTe := Aside0.mk ht
          have HXx := Aside0.mk hx
          have HV2 := Aside0.mk v2
          have t0 : (0 : Int) ≤ (t : Int) := by omega
          have t1 : (t : Int) < (n : Int) := by omega
          have s0 : (0 : Int) ≤ (s : Int) := by omega
          have s1 : (s : Int) < (n : Int) := by omega
          have hsl : s < (plc (List.replicate n 0) xs T t).length := by rw [plc_len, List.length_replicate]; exact hTn
          clear hx hxe hse ht v2
          go_wp2_with fail
          refine start_ (n := 19) (S := fun w' => w'.cell? ⟨p, 2, none⟩ = some (.slice (some ⟨g, 0, none⟩) n cg) ∧ w'.cell? ⟨g, t, none⟩ = some (.int .u64 x) ∧ Aside0 (Below w.heap.size w w' ∧ Mr w' go_ n (plc (List.replicate n 0) xs T t))) (ds := [18]) #[false, false, false, false, false, false, false, false, false, false, false, false, false, false, false, false, false, false, false] (by kernel_rfl) rfl rfl ⟨HV2.out, HXx.out, ⟨below_drew1 HB.out, Mr.drw HM.out⟩⟩ (fun hHeld => ?_)
          refine pure_ (i := 0) (N := some 31) (v := ?_) (a' := ?_) #[true, false, false, false, false, false, false, false, false, false, false, false, false, false, false, false, false, false, false] rfl rfl (by kernel_rfl) (fun _ _ _ h => h) (Or.inl ⟨by rfl, ?_⟩) ?_ ?_
          rotate_left
          · intro w'
            go_simp
            with_reducible rfl
          rotate_left
          · simp only [Act.put, List.setIfInBounds_toArray, List.set_cons_zero, List.set_cons_succ, i64_w, i32_w]
            rfl
          refine pure_ (i := 1) (N := some 32) (v := ?_) (a' := ?_) #[true, true, false, false, false, false, false, false, false, false, false, false, false, false, false, false, false, false, false] rfl rfl (by kernel_rfl) (fun _ _ _ h => h) (Or.inl ⟨by rfl, ?_⟩) ?_ ?_
          rotate_left
          · intro w'
            go_simp
            with_reducible rfl
          rotate_left
          · simp only [Act.put, List.setIfInBounds_toArray, List.set_cons_zero, List.set_cons_succ, i64_w, i32_w]
            rfl
          refine pure_ (i := 2) (N := some 33) (v := ?_) (a' := ?_) #[true, true, true, false, false, false, false, false, false, false, false, false, false, false, false, false, false, false, false] rfl rfl (by kernel_rfl) (fun _ _ _ h => h) (Or.inl ⟨by rfl, ?_⟩) ?_ ?_
          rotate_left
          · intro w'
            go_simp
            with_reducible rfl
          rotate_left
          · simp only [Act.put, List.setIfInBounds_toArray, List.set_cons_zero, List.set_cons_succ, i64_w, i32_w]
            rfl
          refine pure_ (i := 3) (N := some 34) (v := ?_) (a' := ?_) #[true, true, true, true, false, false, false, false, false, false, false, false, false, false, false, false, false, false, false] rfl rfl (by kernel_rfl) (fun _ _ _ h => h) (Or.inl ⟨by rfl, ?_⟩) ?_ ?_
          rotate_left
          · intro w'
            go_simp
            with_reducible rfl
          rotate_left
          · simp only [Act.put, List.setIfInBounds_toArray, List.set_cons_zero, List.set_cons_succ, i64_w, i32_w]
            rfl
          refine pure_ (i := 5) (N := some 36) (v := ?_) (a' := ?_) #[true, true, true, true, false, true, false, false, false, false, false, false, false, false, false, false, false, false, false] rfl rfl (by kernel_rfl) (fun _ _ _ h => h) (Or.inl ⟨by rfl, ?_⟩) ?_ ?_
          rotate_left
          · intro w'
            go_simp
            with_reducible rfl
          rotate_left
          · simp only [Act.put, List.setIfInBounds_toArray, List.set_cons_zero, List.set_cons_succ, i64_w, i32_w]
            rfl
          refine pure_ (i := 6) (N := some 37) (v := ?_) (a' := ?_) #[true, true, true, true, false, true, true, false, false, false, false, false, false, false, false, false, false, false, false] rfl rfl (by kernel_rfl) (fun _ _ _ h => h) (Or.inl ⟨by rfl, ?_⟩) ?_ ?_
          rotate_left
          · intro w'
            go_simp
            with_reducible rfl
          rotate_left
          · simp only [Act.put, List.setIfInBounds_toArray, List.set_cons_zero, List.set_cons_succ, i64_w, i32_w]
            rfl
          refine pure_ (i := 7) (N := some 38) (v := ?_) (a' := ?_) #[true, true, true, true, false, true, true, true, false, false, false, false, false, false, false, false, false, false, false] rfl rfl (by kernel_rfl) (fun _ _ _ h => h) (Or.inl ⟨by rfl, ?_⟩) ?_ ?_
          rotate_left
          · intro w'
            go_simp
            with_reducible rfl
          rotate_left
          · simp only [Act.put, List.setIfInBounds_toArray, List.set_cons_zero, List.set_cons_succ, i64_w, i32_w]
            rfl
          refine pure_ (i := 9) (N := some 40) (v := ?_) (a' := ?_) #[true, true, true, true, false, true, true, true, false, true, false, false, false, false, false, false, false, false, false] rfl rfl (by kernel_rfl) (fun _ _ _ h => h) (Or.inl ⟨by rfl, ?_⟩) ?_ ?_
          rotate_left
          · intro w'
            go_simp
            with_reducible rfl
          rotate_left
          · simp only [Act.put, List.setIfInBounds_toArray, List.set_cons_zero, List.set_cons_succ, i64_w, i32_w]
            rfl
          refine pure_ (i := 10) (N := some 41) (v := ?_) (a' := ?_) #[true, true, true, true, false, true, true, true, false, true, true, false, false, false, false, false, false, false, false] rfl rfl (by kernel_rfl) (fun _ _ _ h => h) (Or.inl ⟨by rfl, ?_⟩) ?_ ?_
          rotate_left
          · intro w'
            go_simp
            with_reducible rfl
          rotate_left
          · simp only [Act.put, List.setIfInBounds_toArray, List.set_cons_zero, List.set_cons_succ, i64_w, i32_w]
            rfl
          refine pure_ (i := 11) (N := some 42) (v := ?_) (a' := ?_) #[true, true, true, true, false, true, true, true, false, true, true, true, false, false, false, false, false, false, false] rfl rfl (by kernel_rfl) (fun _ _ _ h => h) (Or.inl ⟨by rfl, ?_⟩) ?_ ?_
          rotate_left
          · intro w'
            go_simp
            with_reducible rfl
          rotate_left
          · simp only [Act.put, List.setIfInBounds_toArray, List.set_cons_zero, List.set_cons_succ, i64_w, i32_w]
            rfl
          refine pure_ (i := 12) (N := some 43) (v := ?_) (a' := ?_) #[true, true, true, true, false, true, true, true, false, true, true, true, true, false, false, false, false, false, false] rfl rfl (by kernel_rfl) (fun _ _ _ h => h) (Or.inl ⟨by rfl, ?_⟩) ?_ ?_
          rotate_left
          · intro w'
            go_simp
            with_reducible rfl
          rotate_left
          · simp only [Act.put, List.setIfInBounds_toArray, List.set_cons_zero, List.set_cons_succ, i64_w, i32_w]
            rfl
          refine pure_ (i := 13) (N := some 44) (v := ?_) (a' := ?_) #[true, true, true, true, false, true, true, true, false, true, true, true, true, true, false, false, false, false, false] rfl rfl (by kernel_rfl) (fun _ _ _ h => h) (Or.inl ⟨by rfl, ?_⟩) ?_ ?_
          rotate_left
          · intro w'
            go_simp
            with_reducible rfl
          rotate_left
          · simp only [Act.put, List.setIfInBounds_toArray, List.set_cons_zero, List.set_cons_succ, i64_w, i32_w]
            rfl
          refine take_ (i := 8) (N := some 39) (v := ?_) (a' := ?_) #[true, true, true, true, false, true, true, true, true, true, true, true, true, true, false, false, false, false, false] rfl rfl (by kernel_rfl) (fun _ _ _ h => h) (Or.inl ⟨by rfl, ?_⟩) hHeld ?_ ?_
          rotate_left
          · rintro w' ⟨s0, s1, s2⟩
            go_simp
            with_reducible rfl
          rotate_left
          · simp only [Act.put, List.setIfInBounds_toArray, List.set_cons_zero, List.set_cons_succ, i64_w, i32_w]
            rfl
          refine one_ (i := 4) (N := some 35) #[true, true, true, true, true, true, true, true, true, true, true, true, true, true, false, false, false, false, false] rfl rfl (by kernel_rfl) (by decide) (fun K hK => ?_)
          refine call_ 94 #[.int .i64 (i : Int), .int .i64 (j : Int), .pointer (some ⟨b0, 0, none⟩)] (by rfl) rfl ?hr ?_
          case hr => first | (go_simp; done) | (go_simp; rfl)
          have hcl := flip_calls a b R C p g cg i j b0 xs HA.out HBb.out HAB.out h1' h2' _ (HG0.out.below (hHeld.2.2.out.1)) (H0.out.below (hHeld.2.2.out.1))
          rw [← HT.out, ← HTe.out, ← HSe.out] at hcl
          with_reducible refine hcl.mono ?_
          clear hcl
          rintro e w4 ⟨rfl, hb⟩
          refine ⟨_, rfl, ?_⟩
          have n0 := pw_cell_below hb hHeld.1
          have n1 := pw_cell_below hb hHeld.2.1
          have nS := And.intro (below_then hHeld.2.2.out.1 hHeld.2.2.out.1.size hb) (hHeld.2.2.out.2.below hb)
          clear hHeld hb
          refine hK.out _ _ ⟨n0, n1, ⟨nS⟩⟩ (fun hHeld => ?_)
          clear hK K
          refine norm_ (a' := ?_) ?_ ?_
          rotate_left
          · show Act.put _ (some 35) _ = _
            simp only [Act.put, List.setIfInBounds_toArray, List.set_cons_zero, List.set_cons_succ, i64_w, i32_w]
            rfl
          refine one_ (i := 14) (N := some 45) #[true, true, true, true, true, true, true, true, true, true, true, true, true, true, true, false, false, false, false] rfl rfl (by kernel_rfl) (by decide) (fun K hK => ?_)
          refine goes_ Tryd.func93 (by kernel_rfl) rfl #[.pointer (some ⟨p, 0, none⟩), .int .i64 (i : Int), .int .i64 (j : Int)] (by rfl) rfl rfl (by simp only [List.map_toArray, List.map_cons, List.map_nil]; rfl) ?_
          with_reducible refine (ground p R C i j t (i : Int) (j : Int) (by omega) hC0 bR bC (HMk.out.1 i h1') (HMk.out.2 j h2') HTe.out (by omega) _ (HG0.out.below hHeld.2.2.out.1).c0 (HG0.out.below hHeld.2.2.out.1).c1).mono ?_
          rintro e w5 ⟨rfl, hb⟩
          refine ⟨_, rfl, ?_⟩
          have n0 := pw_cell_below hb hHeld.1
          have n1 := pw_cell_below hb hHeld.2.1
          have nS := And.intro (below_then hHeld.2.2.out.1 hHeld.2.2.out.1.size hb) (hHeld.2.2.out.2.below hb)
          clear hHeld hb
          refine hK.out _ _ ⟨n0, n1, ⟨nS⟩⟩ (fun hHeld => ?_)
          clear hK K
          refine norm_ (a' := ?_) ?_ ?_
          rotate_left
          · show Act.put _ (some 45) _ = _
            simp only [Act.put, List.setIfInBounds_toArray, List.set_cons_zero, List.set_cons_succ, i64_w, i32_w]
            rfl
          refine pure_ (i := 15) (N := some 46) (v := ?_) (a' := ?_) #[true, true, true, true, true, true, true, true, true, true, true, true, true, true, true, true, false, false, false] rfl rfl (by kernel_rfl) (fun _ _ _ h => h) (Or.inl ⟨by rfl, ?_⟩) ?_ ?_
          rotate_left
          · intro w'
            go_simp
            with_reducible rfl
          rotate_left
          · simp only [Act.put, List.setIfInBounds_toArray, List.set_cons_zero, List.set_cons_succ, i64_w, i32_w]
            rfl
          refine take_ (i := 16) (N := some 47) (v := ?_) (a' := ?_) #[true, true, true, true, true, true, true, true, true, true, true, true, true, true, true, true, true, false, false] rfl rfl (by kernel_rfl) (fun _ _ _ h => h) (Or.inl ⟨by rfl, ?_⟩) hHeld ?_ ?_
          rotate_left
          · rintro w' ⟨s0, s1, s2⟩
            go_simp
            with_reducible rfl
          rotate_left
          · simp only [Act.put, List.setIfInBounds_toArray, List.set_cons_zero, List.set_cons_succ, i64_w, i32_w]
            rfl
          refine pure_ (i := 17) (N := some 48) (v := ?_) (a' := ?_) #[true, true, true, true, true, true, true, true, true, true, true, true, true, true, true, true, true, true, false] rfl rfl (by kernel_rfl) (fun _ _ _ h => h) (Or.inl ⟨by rfl, ?_⟩) ?_ ?_
          rotate_left
          · intro w'
            go_simp
            with_reducible rfl
          rotate_left
          · simp only [Act.put, List.setIfInBounds_toArray, List.set_cons_zero, List.set_cons_succ, i64_w, i32_w]
            rfl
          refine last_ (i := 18) (N := none) #[true, true, true, true, true, true, true, true, true, true, true, true, true, true, true, true, true, true, true] rfl rfl (by kernel_rfl) (by decide) (fun K hK => ?_)
          have c1 := hHeld.2.2.out.2.cell s hsl
          have f1 := hHeld.2.2.out.2.frozen s
          have HM6 := Aside0.mk (hHeld.2.2.out.2.put s x)
          have HB6 := Aside0.mk (below_set (v := .int .u64 x) (j := s) hHeld.2.2.out.1 HGo.out)
          refine skip_ (w1 := ?_) (by rfl) rfl ?_ ?_
          rotate_left
          · go_simp
            rfl
          refine hK.out _ _ ?_
          clear hK K
          refine done_ (by kernel_rfl) ?_
          clear hHeld
          rw [HNx.out] at HM6
          go_wp2
          go_roundw
          case rel => exact ⟨j + 1, by go_num, by omega, HB6, HM6⟩
          case measure => simp [intOf]; omega
        · obtain rfl : j = C := by omega
          have hja : decide ((j : Int) < (j : Int)) = false := decide_eq_false (by omega)
          have hjc : decide (j < j) = false := decide_eq_false (by omega)
          go_wp2
          go_roundw
          case rel => exact ⟨i + 1, by go_num, by omega, HB, ⟨by rw [Nat.add_mul, Nat.one_mul]; exact HM.out⟩⟩
          case measure => simp [intOf]; omega
    · obtain rfl : i = R := by omega
      have hia : decide ((i : Int) < (i : Int)) = false := decide_eq_false (by omega)
      have hic : decide (i < i) = false := decide_eq_false (by omega)
      rw [HLn.out] at HM
      have HO := Aside0.mk (HG0.out.obj.below HB.out)
      have z2 := HO.out.cell 2
      have f2 := HO.out.frozen 2
      go_wp2
      refine bodyPost_end (results_none Tryd.results91 _ _ _) rfl ?_
      refine ⟨rfl, go_, n, ⟨?_, HM.out.far p 2 _ (Ne.symm HGp.out)⟩, (Fr.of_below HB.out [p]).set p 2 _ (.inl (by simp)), HGo.out⟩
      rw [plc_len, List.length_replicate]
      exact HO.out.put 2 _
end Go.Proofs.YtpnkcjnemoompaaDoor.Grid
end
section
namespace Go.Proofs.YtpnkcjnemoompaaDoor.Grid
open Go.RowKit Go.Proofs.YtpnkcjnemoompaaDoor Go.Proofs.YtpnkcjnemoompaaDoor.Ext Go.Proofs.YtpnkcjnemoompaaDoor.PPlan Go.Proofs.YtpnkcjnemoompaaDoor.PFft Go.Proofs.YtpnkcjnemoompaaDoor.Pure Go.Proofs.YtpnkcjnemoompaaDoor.Obj Go.Proofs.YtpnkcjnemoompaaDoor.Fft Go.Proofs.YtpnkcjnemoompaaDoor.Kern Go.Proofs.YtpnkcjnemoompaaDoorW.PrintWords Go.Proofs.YtpnkcjnemoompaaDoorW.PrintLast Go.Proofs.YtpnkcjnemoompaaDoorW.PrintMore
set_option linter.unusedVariables false
set_option linter.unusedSimpArgs false
set_option maxRecDepth 100000
theorem plc_mv (a b u v : Nat) (xs : List Int) (n : Nat) (hn : n = 2 ^ (a + b)) (hu : u ≤ 2 ^ a) (hv : v ≤ 2 ^ b) (bs : List Int) (hb : bs.length = n) : plc bs xs (mvp a b u v) n = tl n (fun j => xs.getD (mvp a b (2 ^ a - u) (2 ^ b - v) j) 0) :=
  plc_all bs xs _ _ n hb (fun t ht => ⟨by rw [hn]; exact mvp_lt a b u v t, mvp_back a b u v t hu hv (by rw [← hn]; exact ht)⟩) (fun j hj => ⟨by rw [hn]; exact mvp_lt _ _ _ _ _, mvp_forth a b u v j hu hv (by rw [← hn]; exact hj)⟩)
theorem plc_fl (a b : Nat) (xs : List Int) (n : Nat) (hn : n = 2 ^ (a + b)) (bs : List Int) (hb : bs.length = n) : plc bs xs (flp a b) n = tl n (fun j => xs.getD (flp a b j) 0) :=
  plc_all bs xs _ _ n hb (fun t ht => ⟨by rw [hn]; exact flp_lt a b t, flp_back a b t (by rw [← hn]; exact ht)⟩) (fun j hj => ⟨by rw [hn]; exact flp_lt a b j, flp_back a b j (by rw [← hn]; exact hj)⟩)
structure Mq (w0 w : World) (p g cg b0 b1 b2 : Nat) (R C u v : Int) (xs : List Int) : Prop where
  gd : Gd w p g cg R C xs
  e0 : Bk w b0 26 [.pointer (some ⟨p, 0, none⟩)]
  e1 : Bk w b1 3 [.int .i64 u]
  e2 : Bk w b2 3 [.int .i64 v]
  be : Below w0.heap.size w0 w
  h1 : w0.heap.size ≤ b1
  h2 : w0.heap.size ≤ b2
theorem Mq.below {w0 w w' : World} {p g cg b0 b1 b2 : Nat} {R C u v : Int} {xs : List Int} (k : Mq w0 w p g cg b0 b1 b2 R C u v xs) (hb : Below w.heap.size w w') : Mq w0 w' p g cg b0 b1 b2 R C u v xs :=
  ⟨k.gd.below hb, k.e0.below hb, k.e1.below hb, k.e2.below hb, below_then k.be k.be.size hb, k.h1, k.h2⟩
theorem Mq.drew {w0 w : World} {p g cg b0 b1 b2 : Nat} {R C u v : Int} {xs : List Int} (k : Mq w0 w p g cg b0 b1 b2 R C u v xs) : Mq w0 w.drew p g cg b0 b1 b2 R C u v xs := k.below (below_drew1 (Below.refl _ _))
theorem Mq.put1 {w0 w : World} {p g cg b0 b1 b2 : Nat} {R C u v : Int} {xs : List Int} (k : Mq w0 w p g cg b0 b1 b2 R C u v xs) (h12 : b1 ≠ b2) (x : Int) : Mq w0 (w.setCell ⟨b1, 0, none⟩ (.int .i64 x)) p g cg b0 b1 b2 R C x v xs :=
  ⟨⟨k.gd.obj.far 0 _ (k.gd.obj.ne k.e1 (by decide)), k.gd.row.far b1 0 _ (Ne.symm (k.gd.row.ne k.e1 (by decide)))⟩, k.e0.far 0 _ (k.e0.ne k.e1 (by decide)), k.e1.put 0 _, k.e2.far 0 _ (Ne.symm h12), below_set (v := .int .i64 x) (j := 0) k.be k.h1, k.h1, k.h2⟩
theorem Mq.put2 {w0 w : World} {p g cg b0 b1 b2 : Nat} {R C u v : Int} {xs : List Int} (k : Mq w0 w p g cg b0 b1 b2 R C u v xs) (h12 : b1 ≠ b2) (x : Int) : Mq w0 (w.setCell ⟨b2, 0, none⟩ (.int .i64 x)) p g cg b0 b1 b2 R C u x xs :=
  ⟨⟨k.gd.obj.far 0 _ (k.gd.obj.ne k.e2 (by decide)), k.gd.row.far b2 0 _ (Ne.symm (k.gd.row.ne k.e2 (by decide)))⟩, k.e0.far 0 _ (k.e0.ne k.e2 (by decide)), k.e1.far 0 _ h12, k.e2.put 0 _, below_set (v := .int .i64 x) (j := 0) k.be k.h2, k.h1, k.h2⟩
theorem moves_num (a b R C : Nat) (rows cols : Int) (ha : R = 2 ^ a) (hb : C = 2 ^ b) (hab : a + b ≤ 20) : ∃ R1 C1 u v : Nat, u < R ∧ v < C ∧ (u : Int) = rows % (R : Int) ∧ (v : Int) = cols % (C : Int) ∧ Go.bits .and .i64 rows (R1 : Int) = (u : Int) ∧ Go.bits .and .i64 cols (C1 : Int) = (v : Int) ∧ (IntKind.i64.wrap ((R : Int) - 1) = (R1 : Int) ∧ wrap64 ((R : Int) - 1) = (R1 : Int)) ∧ (IntKind.i64.wrap ((C : Int) - 1) = (C1 : Int) ∧ wrap64 ((C : Int) - 1) = (C1 : Int)) := by
  have bR : R ≤ 1048576 := by rw [ha]; exact pow20 (by omega)
  have bC : C ≤ 1048576 := by rw [hb]; exact pow20 (by omega)
  have r0 : 0 < R := by rw [ha]; exact Nat.two_pow_pos _
  have c0 : 0 < C := by rw [hb]; exact Nat.two_pow_pos _
  have u0 := Int.emod_nonneg rows (show (R : Int) ≠ 0 by omega)
  have v0 := Int.emod_nonneg cols (show (C : Int) ≠ 0 by omega)
  have u1 := Int.emod_lt_of_pos rows (show (0 : Int) < (R : Int) by omega)
  have v1 := Int.emod_lt_of_pos cols (show (0 : Int) < (C : Int) by omega)
  have m1 := mask a (by omega) rows
  have m2 := mask b (by omega) cols
  rw [← ha] at m1
  rw [← hb] at m2
  obtain ⟨u, hu⟩ := Int.eq_ofNat_of_zero_le u0
  obtain ⟨v, hv⟩ := Int.eq_ofNat_of_zero_le v0
  have e1 : (R : Int) - 1 = ((R - 1 : Nat) : Int) := by omega
  have e2 : (C : Int) - 1 = ((C - 1 : Nat) : Int) := by omega
  have b1 : R - 1 ≤ 9223372036854775807 := by omega
  have b2 : C - 1 ≤ 9223372036854775807 := by omega
  have lu : u < R := by omega
  have lv : v < C := by omega
  rw [hu] at m1
  rw [hv] at m2
  exact ⟨R - 1, C - 1, u, v, lu, lv, hu.symm, hv.symm, m1, m2, wrapb e1 b1, wrapb e2 b2⟩
set_option maxHeartbeats 8000000 in
theorem gmove (a b R C p g cg : Nat) (xs : List Int) (rows cols : Int) (ha : R = 2 ^ a) (hb : C = 2 ^ b) (hab : a + b ≤ 20) (hl : R * C = xs.length) (w : World) (hG : Gd w p g cg (R : Int) (C : Int) xs) :
    Calls Tryd.prog 48 #[.pointer (some ⟨p, 0, none⟩), .int .i64 rows, .int .i64 cols] w fun e w' => e = .returned (.tuple #[]) ∧ ∃ h d u v, Gd w' p h d (R : Int) (C : Int) (plc (List.replicate xs.length 0) xs (mvp a b u v) xs.length) ∧ Fr w w' [p] ∧ w.heap.size ≤ h ∧ u < R ∧ v < C ∧ (u : Int) = rows % (R : Int) ∧ (v : Int) = cols % (C : Int) := by
  obtain ⟨R1, C1, u, v, lu, lv, hu, hv, m1, m2, ⟨kA, kB⟩, kC, kD⟩ := moves_num a b R C rows cols ha hb hab
  have hw3 : Mq w (((w.alloc (.cells #[.pointer (some ⟨p, 0, none⟩)] 26)).alloc (.cells #[.int .i64 rows] 3)).alloc (.cells #[.int .i64 cols] 3)) p g cg w.heap.size (w.heap.size + 1) (w.heap.size + 1 + 1) (R : Int) (C : Int) rows cols xs := by
    have b1 := below_alloc (Below.refl w.heap.size w) (.cells #[.pointer (some ⟨p, 0, none⟩)] 26)
    have b2 := below_alloc b1 (.cells #[.int .i64 rows] 3)
    have b3 := below_alloc b2 (.cells #[.int .i64 cols] 3)
    have e1 := Bk.new w 26 [.pointer (some ⟨p, 0, none⟩)]
    have e2 := Bk.new (w.alloc (.cells #[.pointer (some ⟨p, 0, none⟩)] 26)) 3 [.int .i64 rows]
    have e3 := Bk.new ((w.alloc (.cells #[.pointer (some ⟨p, 0, none⟩)] 26)).alloc (.cells #[.int .i64 rows] 3)) 3 [.int .i64 cols]
    simp only [World.size_alloc] at e2 e3
    exact ⟨hG.below b3, (e1.alloc _).alloc _, e2.alloc _, e3, b3, Nat.le_succ _, Nat.le_succ_of_le (Nat.le_succ _)⟩
  have HQ := Aside0.mk hw3
  have HA := Aside0.mk ha
  have HBb := Aside0.mk hb
  have HAB := Aside0.mk hab
  have HL := Aside0.mk hl
  have HU := Aside0.mk (show u < R ∧ v < C ∧ (u : Int) = rows % (R : Int) ∧ (v : Int) = cols % (C : Int) from ⟨lu, lv, hu, hv⟩)
  have hpl := hG.lp
  clear hw3 ha hb hab hl hG lu lv hu hv
  go_enter Tryd.func48, Tryd.ntmps48
  go_wp2_with fail
  obtain ⟨W0, hW0⟩ : ∃ W0, W0 = ((w.alloc (.cells #[.pointer (some ⟨p, 0, none⟩)] 26)).alloc (.cells #[.int .i64 rows] 3)).alloc (.cells #[.int .i64 cols] 3) := ⟨_, rfl⟩
  rw [← hW0] at HQ ⊢
  obtain ⟨b0, hb0⟩ : ∃ b, b = w.heap.size := ⟨_, rfl⟩
  obtain ⟨b1, hb1⟩ : ∃ b, b = w.heap.size + 1 := ⟨_, rfl⟩
  obtain ⟨b2, hb2⟩ : ∃ b, b = w.heap.size + 1 + 1 := ⟨_, rfl⟩
  have h12 : b1 ≠ b2 := fun e => by rw [hb1, hb2] at e; exact absurd e (Nat.ne_of_lt (Nat.lt_succ_self _))
  have h0p : b0 ≠ p := fun e => by rw [hb0] at e; exact absurd e (Ne.symm (Nat.ne_of_lt hpl))
  rw [← hb2, ← hb1, ← hb0] at HQ ⊢
  clear hW0 hb0 hb1 hb2
  refine start_ (n := 20) (S := fun w' => w'.cell? ⟨b0, 0, none⟩ = some (.pointer (some ⟨p, 0, none⟩)) ∧ w'.cell? ⟨b2, 0, none⟩ = some (.int .i64 cols) ∧ w'.cell? ⟨p, 0, none⟩ = some (.int .i64 (R : Int)) ∧ w'.cell? ⟨p, 1, none⟩ = some (.int .i64 (C : Int))) (ds := [19]) #[false, false, false, false, false, false, false, false, false, false, false, false, false, false, false, false, false, false, false, false] (by kernel_rfl) rfl rfl ⟨HQ.out.e0.cell 0, HQ.out.e2.cell 0, HQ.out.gd.c0, HQ.out.gd.c1⟩ (fun hHeld => ?_)
  refine take_ (i := 1) (N := some 7) (v := ?_) (a' := ?_) #[false, true, false, false, false, false, false, false, false, false, false, false, false, false, false, false, false, false, false, false] rfl rfl (by kernel_rfl) (fun _ _ _ h => h) (Or.inl ⟨by rfl, ?_⟩) hHeld ?_ ?_
  rotate_left
  · rintro w' ⟨s0, s1, s2, s3⟩
    go_simp
    with_reducible rfl
  rotate_left
  · simp only [Act.put, List.setIfInBounds_toArray, List.set_cons_zero, List.set_cons_succ, i64_w, i32_w]
    rfl
  refine pure_ (i := 2) (N := some 8) (v := ?_) (a' := ?_) #[false, true, true, false, false, false, false, false, false, false, false, false, false, false, false, false, false, false, false, false] rfl rfl (by kernel_rfl) (fun _ _ _ h => h) (Or.inl ⟨by rfl, ?_⟩) ?_ ?_
  rotate_left
  · intro w'
    go_simp
    with_reducible rfl
  rotate_left
  · simp only [Act.put, List.setIfInBounds_toArray, List.set_cons_zero, List.set_cons_succ, i64_w, i32_w]
    rfl
  refine pure_ (i := 3) (N := some 9) (v := ?_) (a' := ?_) #[false, true, true, true, false, false, false, false, false, false, false, false, false, false, false, false, false, false, false, false] rfl rfl (by kernel_rfl) (fun _ _ _ h => h) (Or.inl ⟨by rfl, ?_⟩) ?_ ?_
  rotate_left
  · intro w'
    go_simp
    with_reducible rfl
  rotate_left
  · simp only [Act.put, List.setIfInBounds_toArray, List.set_cons_zero, List.set_cons_succ, i64_w, i32_w]
    rfl
  refine pure_ (i := 4) (N := some 10) (v := ?_) (a' := ?_) #[false, true, true, true, true, false, false, false, false, false, false, false, false, false, false, false, false, false, false, false] rfl rfl (by kernel_rfl) (fun _ _ _ h => h) (Or.inl ⟨by rfl, ?_⟩) ?_ ?_
  rotate_left
  · intro w'
    go_simp
    with_reducible rfl
  rotate_left
  · simp only [Act.put, List.setIfInBounds_toArray, List.set_cons_zero, List.set_cons_succ, i64_w, i32_w]
    rfl
  refine pure_ (i := 5) (N := some 11) (v := ?_) (a' := ?_) #[false, true, true, true, true, true, false, false, false, false, false, false, false, false, false, false, false, false, false, false] rfl rfl (by kernel_rfl) (fun _ _ _ h => h) (Or.inl ⟨by rfl, ?_⟩) ?_ ?_
  rotate_left
  · intro w'
    go_simp
    with_reducible rfl
  rotate_left
  · simp only [Act.put, List.setIfInBounds_toArray, List.set_cons_zero, List.set_cons_succ, i64_w, i32_w]
    rfl
  refine take_ (i := 6) (N := some 12) (v := ?_) (a' := ?_) #[false, true, true, true, true, true, true, false, false, false, false, false, false, false, false, false, false, false, false, false] rfl rfl (by kernel_rfl) (fun _ _ _ h => h) (Or.inl ⟨by rfl, ?_⟩) hHeld ?_ ?_
  rotate_left
  · rintro w' ⟨s0, s1, s2, s3⟩
    go_simp
    with_reducible rfl
  rotate_left
  · simp only [Act.put, List.setIfInBounds_toArray, List.set_cons_zero, List.set_cons_succ, i64_w, i32_w]
    rfl
  refine pure_ (i := 7) (N := some 13) (v := ?_) (a' := ?_) #[false, true, true, true, true, true, true, true, false, false, false, false, false, false, false, false, false, false, false, false] rfl rfl (by kernel_rfl) (fun _ _ _ h => h) (Or.inl ⟨by rfl, ?_⟩) ?_ ?_
  rotate_left
  · intro w'
    go_simp
    with_reducible rfl
  rotate_left
  · simp only [Act.put, List.setIfInBounds_toArray, List.set_cons_zero, List.set_cons_succ, i64_w, i32_w]
    rfl
  refine take_ (i := 9) (N := some 15) (v := ?_) (a' := ?_) #[false, true, true, true, true, true, true, true, false, true, false, false, false, false, false, false, false, false, false, false] rfl rfl (by kernel_rfl) (fun _ _ _ h => h) (Or.inl ⟨by rfl, ?_⟩) hHeld ?_ ?_
  rotate_left
  · rintro w' ⟨s0, s1, s2, s3⟩
    go_simp
    with_reducible rfl
  rotate_left
  · simp only [Act.put, List.setIfInBounds_toArray, List.set_cons_zero, List.set_cons_succ, i64_w, i32_w]
    rfl
  refine take_ (i := 10) (N := some 16) (v := ?_) (a' := ?_) #[false, true, true, true, true, true, true, true, false, true, true, false, false, false, false, false, false, false, false, false] rfl rfl (by kernel_rfl) (fun _ _ _ h => h) (Or.inl ⟨by rfl, ?_⟩) hHeld ?_ ?_
  rotate_left
  · rintro w' ⟨s0, s1, s2, s3⟩
    go_simp
    with_reducible rfl
  rotate_left
  · simp only [Act.put, List.setIfInBounds_toArray, List.set_cons_zero, List.set_cons_succ, i64_w, i32_w]
    rfl
  refine pure_ (i := 11) (N := some 17) (v := ?_) (a' := ?_) #[false, true, true, true, true, true, true, true, false, true, true, true, false, false, false, false, false, false, false, false] rfl rfl (by kernel_rfl) (fun _ _ _ h => h) (Or.inl ⟨by rfl, ?_⟩) ?_ ?_
  rotate_left
  · intro w'
    go_simp
    with_reducible rfl
  rotate_left
  · simp only [Act.put, List.setIfInBounds_toArray, List.set_cons_zero, List.set_cons_succ, i64_w, i32_w]
    rfl
  refine pure_ (i := 12) (N := some 18) (v := ?_) (a' := ?_) #[false, true, true, true, true, true, true, true, false, true, true, true, true, false, false, false, false, false, false, false] rfl rfl (by kernel_rfl) (fun _ _ _ h => h) (Or.inl ⟨by rfl, ?_⟩) ?_ ?_
  rotate_left
  · intro w'
    go_simp
    with_reducible rfl
  rotate_left
  · simp only [Act.put, List.setIfInBounds_toArray, List.set_cons_zero, List.set_cons_succ, i64_w, i32_w]
    rfl
  refine pure_ (i := 13) (N := some 19) (v := ?_) (a' := ?_) #[false, true, true, true, true, true, true, true, false, true, true, true, true, true, false, false, false, false, false, false] rfl rfl (by kernel_rfl) (fun _ _ _ h => h) (Or.inl ⟨by rfl, ?_⟩) ?_ ?_
  rotate_left
  · intro w'
    go_simp
    with_reducible rfl
  rotate_left
  · simp only [Act.put, List.setIfInBounds_toArray, List.set_cons_zero, List.set_cons_succ, i64_w, i32_w]
    rfl
  refine pure_ (i := 14) (N := some 20) (v := ?_) (a' := ?_) #[false, true, true, true, true, true, true, true, false, true, true, true, true, true, true, false, false, false, false, false] rfl rfl (by kernel_rfl) (fun _ _ _ h => h) (Or.inl ⟨by rfl, ?_⟩) ?_ ?_
  rotate_left
  · intro w'
    go_simp
    with_reducible rfl
  rotate_left
  · simp only [Act.put, List.setIfInBounds_toArray, List.set_cons_zero, List.set_cons_succ, i64_w, i32_w]
    rfl
  refine take_ (i := 15) (N := some 21) (v := ?_) (a' := ?_) #[false, true, true, true, true, true, true, true, false, true, true, true, true, true, true, true, false, false, false, false] rfl rfl (by kernel_rfl) (fun _ _ _ h => h) (Or.inl ⟨by rfl, ?_⟩) hHeld ?_ ?_
  rotate_left
  · rintro w' ⟨s0, s1, s2, s3⟩
    go_simp
    with_reducible rfl
  rotate_left
  · simp only [Act.put, List.setIfInBounds_toArray, List.set_cons_zero, List.set_cons_succ, i64_w, i32_w]
    rfl
  refine pure_ (i := 16) (N := some 22) (v := ?_) (a' := ?_) #[false, true, true, true, true, true, true, true, false, true, true, true, true, true, true, true, true, false, false, false] rfl rfl (by kernel_rfl) (fun _ _ _ h => h) (Or.inl ⟨by rfl, ?_⟩) ?_ ?_
  rotate_left
  · intro w'
    go_simp
    with_reducible rfl
  rotate_left
  · simp only [Act.put, List.setIfInBounds_toArray, List.set_cons_zero, List.set_cons_succ, i64_w, i32_w]
    rfl
  refine pure_ (i := 17) (N := some 23) (v := ?_) (a' := ?_) #[false, true, true, true, true, true, true, true, false, true, true, true, true, true, true, true, true, true, false, false] rfl rfl (by kernel_rfl) (fun _ _ _ h => h) (Or.inl ⟨by rfl, ?_⟩) ?_ ?_
  rotate_left
  · intro w'
    go_simp
    with_reducible rfl
  rotate_left
  · simp only [Act.put, List.setIfInBounds_toArray, List.set_cons_zero, List.set_cons_succ, i64_w, i32_w]
    rfl
  refine one_ (i := 0) (N := some 6) #[true, true, true, true, true, true, true, true, false, true, true, true, true, true, true, true, true, true, false, false] rfl rfl (by kernel_rfl) (by decide) (fun K hK => ?_)
  have q1 := HQ.out.drew.e1.cell 0
  refine value_ (w1 := ?_) (v := ?_) (by rfl) rfl ?_ ?_
  rotate_left 2
  · go_simp
    constructor
    · rfl
    · rfl
  refine hK.out _ _ ⟨hHeld.1, hHeld.2.1, hHeld.2.2.1, hHeld.2.2.2⟩ (fun hHeld => ?_)
  clear hK K
  refine norm_ (a' := ?_) ?_ ?_
  rotate_left
  · show Act.put _ (some 6) _ = _
    simp only [Act.put, List.setIfInBounds_toArray, List.set_cons_zero, List.set_cons_succ, i64_w, i32_w]
    rfl
  refine pure_ (i := 8) (N := some 14) (v := ?_) (a' := ?_) #[true, true, true, true, true, true, true, true, true, true, true, true, true, true, true, true, true, true, false, false] rfl rfl (by kernel_rfl) (fun _ _ _ h => h) (Or.inl ⟨by rfl, ?_⟩) ?_ ?_
  rotate_left
  · intro w'
    go_simp
    with_reducible rfl
  rotate_left
  · simp only [Act.put, List.setIfInBounds_toArray, List.set_cons_zero, List.set_cons_succ, i64_w, i32_w]
    rfl
  refine one_ (i := 18) (N := none) #[true, true, true, true, true, true, true, true, true, true, true, true, true, true, true, true, true, true, true, false] rfl rfl (by kernel_rfl) (by decide) (fun K hK => ?_)
  have c1 := HQ.out.drew.e1.cell 0
  have f1 := HQ.out.drew.e1.frozen 0
  have HQ1 := Aside0.mk ((HQ.out.put1 h12 (u : Int)).drew)
  refine skip_ (w1 := ?_) (by rfl) rfl ?_ ?_
  rotate_left
  · go_simp
    rfl
  refine hK.out _ _ ⟨HQ1.out.e0.cell 0, HQ1.out.e2.cell 0, HQ1.out.gd.c0, HQ1.out.gd.c1⟩ (fun hHeld => ?_)
  clear hK K
  refine last_ (i := 19) (N := none) #[true, true, true, true, true, true, true, true, true, true, true, true, true, true, true, true, true, true, true, true] rfl rfl (by kernel_rfl) (by decide) (fun K hK => ?_)
  have c2 := HQ1.out.e2.cell 0
  have f2 := HQ.out.e2.frozen 0
  have HQ2 := Aside0.mk (((HQ.out.put1 h12 (u : Int)).put2 h12 (v : Int)).drew)
  refine skip_ (w1 := ?_) (by rfl) rfl ?_ ?_
  rotate_left
  · go_simp
    rfl
  refine hK.out _ _ ?_
  clear hK K
  refine done_ (by kernel_rfl) ?_
  clear hHeld HQ HQ1 kA kB kC kD
  have u0 := HQ2.out.e0.cell 0
  go_wp2_with fail
  clear u0
  with_reducible refine (put_move a b R C p g cg b0 b1 b2 u v xs HA.out HBb.out HAB.out (Nat.le_of_lt HU.out.1) (Nat.le_of_lt HU.out.2.1) HL.out _ HQ2.out.gd HQ2.out.e0 HQ2.out.e1 HQ2.out.e2).mono ?_
  rintro e w4 ⟨rfl, h, d, hg4, hf4, hh⟩
  have HG4 := Aside0.mk hg4
  have HF4 := Aside0.mk ((Fr.of_below HQ2.out.be [p]).trans hf4)
  have HH := Aside0.mk (show w.heap.size ≤ h by have := HQ2.out.be.size; omega)
  clear hg4 hf4 hh
  go_wp2
  refine bodyPost_end (results_none Tryd.results48 _ _ _) rfl ?_
  exact ⟨rfl, h, d, u, v, HG4.out, HF4.out, HH.out, HU.out.1, HU.out.2.1, HU.out.2.2.1, HU.out.2.2.2⟩
set_option maxHeartbeats 8000000 in
theorem gflip (a b R C p g cg : Nat) (xs : List Int) (ha : R = 2 ^ a) (hb : C = 2 ^ b) (hab : a + b ≤ 20) (hl : R * C = xs.length) (w : World) (hG : Gd w p g cg (R : Int) (C : Int) xs) :
    Calls Tryd.prog 49 #[.pointer (some ⟨p, 0, none⟩)] w fun e w' => e = .returned (.tuple #[]) ∧ ∃ h d, Gd w' p h d (R : Int) (C : Int) (plc (List.replicate xs.length 0) xs (flp a b) xs.length) ∧ Fr w w' [p] ∧ w.heap.size ≤ h := by
  have HB1 := Aside0.mk (below_alloc (Below.refl w.heap.size w) (.cells #[.pointer (some ⟨p, 0, none⟩)] 26))
  have HE := Aside0.mk (Bk.new w 26 [.pointer (some ⟨p, 0, none⟩)])
  have HG1 := Aside0.mk (hG.below HB1.out)
  have HA := Aside0.mk ha
  have HBb := Aside0.mk hb
  have HAB := Aside0.mk hab
  have HL := Aside0.mk hl
  have u0 := HE.out.cell 0
  obtain ⟨b0, hb0⟩ : ∃ b, b = w.heap.size := ⟨_, rfl⟩
  have hbg : w.heap.size ≤ b0 := Nat.le_of_eq hb0.symm
  clear ha hb hab hl hG
  go_enter Tryd.func49, Tryd.ntmps49
  go_wp2_with fail
  clear u0
  with_reducible refine (put_flip a b R C p g cg w.heap.size xs HA.out HBb.out HAB.out HL.out _ HG1.out HE.out).mono ?_
  rintro e w4 ⟨rfl, h, d, hg4, hf4, hh⟩
  have HG4 := Aside0.mk hg4
  have HF4 := Aside0.mk ((Fr.of_below HB1.out [p]).trans hf4)
  have HH := Aside0.mk (show w.heap.size ≤ h by have := HB1.out.size; omega)
  clear hg4 hf4 hh
  go_wp2
  refine bodyPost_end (results_none Tryd.results49 _ _ _) rfl ?_
  exact ⟨rfl, h, d, HG4.out, HF4.out, HH.out⟩
end Go.Proofs.YtpnkcjnemoompaaDoor.Grid
end
section
namespace Go.Proofs.YtpnkcjnemoompaaDoor.Grid
open Go.RowKit Go.Proofs.YtpnkcjnemoompaaDoor Go.Proofs.YtpnkcjnemoompaaDoor.Ext Go.Proofs.YtpnkcjnemoompaaDoor.PPlan Go.Proofs.YtpnkcjnemoompaaDoor.PFft Go.Proofs.YtpnkcjnemoompaaDoor.Pure Go.Proofs.YtpnkcjnemoompaaDoor.Obj Go.Proofs.YtpnkcjnemoompaaDoor.Fft Go.Proofs.YtpnkcjnemoompaaDoor.Kern Go.Proofs.YtpnkcjnemoompaaDoorW.PrintWords Go.Proofs.YtpnkcjnemoompaaDoorW.PrintLast Go.Proofs.YtpnkcjnemoompaaDoorW.PrintMore
set_option linter.unusedVariables false
set_option linter.unusedSimpArgs false
theorem tdv (i C : Nat) (h : i ≤ 1048576) : wrap64 (Int.tdiv (i : Int) (C : Int)) = ((i / C : Nat) : Int) := by
  rw [← Int.ofNat_tdiv]
  have h2 : i / C ≤ i := Nat.div_le_self i C
  generalize i / C = q at *
  exact wrap_i _ (by omega) (by omega)
theorem tmd (i C : Nat) : Int.tmod (i : Int) (C : Int) = ((i % C : Nat) : Int) := (Int.ofNat_tmod i C).symm
theorem wsub (R x : Nat) (h : x ≤ R) (hR : R ≤ 1048576) : wrap64 ((R : Int) - (x : Int)) = ((R - x : Nat) : Int) := by rw [wrap_i _ (by omega) (by omega)]; omega
theorem wadd (x y : Nat) (h : x + y ≤ 9223372036854775807) : wrap64 ((x : Int) + (y : Int)) = ((x + y : Nat) : Int) := by rw [wrap_i _ (by omega) (by omega)]; omega
structure Sh (R C a b n : Nat) : Prop where
  r : R = 2 ^ a
  c : C = 2 ^ b
  ab : a + b ≤ 20
  n : R * C = n
theorem Sh.pow {R C a b n : Nat} (h : Sh R C a b n) : n = 2 ^ (a + b) := by rw [Nat.pow_add, ← h.r, ← h.c, h.n]
theorem Sh.le {R C a b n : Nat} (h : Sh R C a b n) : n ≤ 1048576 := by rw [h.pow]; exact pow20 h.ab
theorem Sh.rle {R C a b n : Nat} (h : Sh R C a b n) : R ≤ 1048576 := by rw [h.r]; exact pow20 (by have := h.ab; omega)
theorem Sh.cle {R C a b n : Nat} (h : Sh R C a b n) : C ≤ 1048576 := by rw [h.c]; exact pow20 (by have := h.ab; omega)
theorem Sh.r0 {R C a b n : Nat} (h : Sh R C a b n) : 0 < R := by rw [h.r]; exact Nat.two_pow_pos _
theorem Sh.c0 {R C a b n : Nat} (h : Sh R C a b n) : 0 < C := by rw [h.c]; exact Nat.two_pow_pos _
theorem Sh.div {R C a b n : Nat} (h : Sh R C a b n) (i : Nat) (hi : i < n) : i / C < R := (Nat.div_lt_iff_lt_mul h.c0).2 (by rw [h.n]; exact hi)
theorem Sh.at {R C a b n : Nat} (h : Sh R C a b n) {r c : Nat} (hr : r < R) (hc : c < C) : r * C + c < n := by rw [← h.n]; exact plc_lt hr hc
theorem tgt {R C a b n : Nat} (h : Sh R C a b n) (r c : Nat) (hr : r < R) (hc : c < C) : wrap64 (wrap64 ((r : Int) * (C : Int)) + (c : Int)) = ((r * C + c : Nat) : Int) := by
  have h1 := h.at hr hc
  have h2 := h.le
  rw [mulc r C (by omega), wadd _ _ (by omega)]
theorem flt {R C a b n : Nat} (h : Sh R C a b n) (i : Nat) (hi : i < n) : wrap64 (wrap64 (Int.tmod (wrap64 ((R : Int) - wrap64 (Int.tdiv (i : Int) (C : Int)))) (R : Int) * (C : Int)) + Int.tmod (wrap64 ((C : Int) - Int.tmod (i : Int) (C : Int))) (C : Int)) = ((flp a b i : Nat) : Int) := by
  have h1 := h.div i hi
  have h2 := Nat.mod_lt i h.c0
  rw [tdv i C (by have := h.le; omega), wsub R (i / C) (by omega) h.rle, tmd, tmd, wsub C (i % C) (by omega) h.cle, tmd, tgt h _ _ (Nat.mod_lt _ h.r0) (Nat.mod_lt _ h.c0)]
  unfold flp
  rw [← h.r, ← h.c]
theorem rFlip_loop {R C a b n : Nat} (h : Sh R C a b n) (l : List Int) (hn : l.length = n) (m : Nat) : ∀ i, i + m = n → Ev (fun k => abacistref32_Flip.l0 k l (plc l l (flp a b) i) (i : Int) (R : Int) (C : Int)) (plc l l (flp a b) n) := by
  induction m with
  | zero =>
    intro i hi
    obtain rfl : i = n := by omega
    refine Ev.step (f := fun _ => some _) (fun k => ?_) (Ev.now _)
    simp only [abacistref32_Flip.l0]
    rw [if_neg (by omega)]
  | succ m ih =>
    intro i hi
    have hf : flp a b i < n := by rw [h.pow]; exact flp_lt a b i
    refine Ev.step (f := fun k => abacistref32_Flip.l0 k l (plc l l (flp a b) (i + 1)) ((i + 1 : Nat) : Int) (R : Int) (C : Int)) (fun k => ?_) (ih (i + 1) (by omega))
    simp only [abacistref32_Flip.l0]
    rw [if_pos (by omega), if_neg (by have := h.c0; omega), if_neg (by have := h.r0; omega), if_pos (by omega), flt h i (by omega), if_pos (by omega), if_pos (by rw [plc_len, hn]; omega), wsucc i (by have := h.le; omega), Int.toNat_natCast, rdn]
    rfl
theorem rFlip {R C a b n : Nat} (h : Sh R C a b n) (l : List Int) (hn : l.length = n) : Ev (fun k => abacistref32_Flip.f k l (R : Int) (C : Int)) (plc l l (flp a b) n) := by
  unfold abacistref32_Flip.f
  refine Ev.bind (Ev.now _) (Ev_if (by have := h.le; simp only [List.length_nil]; omega) ?_)
  rw [List.nil_append]
  exact rFlip_loop h l hn n 0 (by omega)
theorem mv_one (x R : Nat) (rows : Int) (u : Nat) (hu : (u : Int) = rows % (R : Int)) (hx : x < R) (hR : R ≤ 1048576) : Int.tmod (wrap64 (wrap64 ((x : Int) + Int.tmod rows (R : Int)) + (R : Int))) (R : Int) = (((x + u) % R : Nat) : Int) := by
  have hR0 : (0 : Int) < (R : Int) := by omega
  have b1 := Int.lt_tmod_of_pos rows hR0
  have b2 := Int.tmod_lt_of_pos rows hR0
  have e1 : wrap64 ((x : Int) + Int.tmod rows (R : Int)) = (x : Int) + Int.tmod rows (R : Int) := wrap_i _ (by omega) (by omega)
  have e2 : wrap64 ((x : Int) + Int.tmod rows (R : Int) + (R : Int)) = (x : Int) + Int.tmod rows (R : Int) + (R : Int) := wrap_i _ (by omega) (by omega)
  rw [e1, e2, Int.tmod_eq_emod_of_nonneg (by omega), Int.add_emod_right, Int.natCast_emod, Int.natCast_add, hu, Int.tmod_def]
  rw [show (x : Int) + (rows - (R : Int) * rows.tdiv (R : Int)) = (x : Int) + rows + (R : Int) * (- rows.tdiv (R : Int)) by rw [Int.mul_neg]; omega, Int.add_mul_emod_self_left, Int.add_emod_emod]
theorem mvt {R C a b n : Nat} (h : Sh R C a b n) (rows cols : Int) (u v : Nat) (hu : (u : Int) = rows % (R : Int)) (hv : (v : Int) = cols % (C : Int)) (i : Nat) (hi : i < n) :
    wrap64 (wrap64 (Int.tmod (wrap64 (wrap64 (wrap64 (Int.tdiv (i : Int) (C : Int)) + Int.tmod rows (R : Int)) + (R : Int))) (R : Int) * (C : Int)) + Int.tmod (wrap64 (wrap64 (Int.tmod (i : Int) (C : Int) + Int.tmod cols (C : Int)) + (C : Int))) (C : Int)) = ((mvp a b u v i : Nat) : Int) := by
  rw [tdv i C (by have := h.le; omega), tmd i C, mv_one _ R rows u hu (h.div i hi) h.rle, mv_one _ C cols v hv (Nat.mod_lt _ h.c0) h.cle, tgt h _ _ (Nat.mod_lt _ h.r0) (Nat.mod_lt _ h.c0)]
  unfold mvp
  rw [← h.r, ← h.c]
theorem rMove_loop {R C a b n : Nat} (h : Sh R C a b n) (l : List Int) (hn : l.length = n) (rows cols : Int) (u v : Nat) (hu : (u : Int) = rows % (R : Int)) (hv : (v : Int) = cols % (C : Int)) (m : Nat) : ∀ i, i + m = n → Ev (fun k => abacistref32_Move.l0 k l rows cols (plc l l (mvp a b u v) i) (i : Int) (R : Int) (C : Int)) (plc l l (mvp a b u v) n) := by
  induction m with
  | zero =>
    intro i hi
    obtain rfl : i = n := by omega
    refine Ev.step (f := fun _ => some _) (fun k => ?_) (Ev.now _)
    simp only [abacistref32_Move.l0]
    rw [if_neg (by omega)]
  | succ m ih =>
    intro i hi
    have hf : mvp a b u v i < n := by rw [h.pow]; exact mvp_lt a b u v i
    have c1 : (i : Int) < (l.length : Int) := by omega
    have c2 : ¬ (C : Int) = 0 := by have := h.c0; omega
    have c3 : ¬ (R : Int) = 0 := by have := h.r0; omega
    have c4 : (0 : Int) ≤ (i : Int) := by omega
    have c5 : (0 : Int) ≤ ((mvp a b u v i : Nat) : Int) := by omega
    have c6 : ((mvp a b u v i : Nat) : Int) < ((plc l l (mvp a b u v) i).length : Int) := by rw [plc_len, hn]; omega
    have b1 : i < 4611686018427387904 := by have := h.le; omega
    have hin : i < n := by omega
    have hih := ih (i + 1) (by omega)
    have ht := mvt h rows cols u v hu hv i hin
    refine Ev.step (f := fun k => abacistref32_Move.l0 k l rows cols (plc l l (mvp a b u v) (i + 1)) ((i + 1 : Nat) : Int) (R : Int) (C : Int)) (fun k => ?_) hih
    simp only [abacistref32_Move.l0]
    rw [if_pos c1, if_neg c2, if_neg c3, if_pos c4, ht, if_pos c5, if_pos c6, wsucc i b1, Int.toNat_natCast, rdn]
    rfl
theorem rMove {R C a b n : Nat} (h : Sh R C a b n) (l : List Int) (hn : l.length = n) (rows cols : Int) (u v : Nat) (hu : (u : Int) = rows % (R : Int)) (hv : (v : Int) = cols % (C : Int)) : Ev (fun k => abacistref32_Move.f k l (R : Int) (C : Int) rows cols) (plc l l (mvp a b u v) n) := by
  unfold abacistref32_Move.f
  refine Ev.bind (Ev.now _) (Ev_if (by have := h.le; simp only [List.length_nil]; omega) ?_)
  rw [List.nil_append]
  exact rMove_loop h l hn rows cols u v hu hv n 0 (by omega)
def trp (R C t : Nat) : Nat := t % C * R + t / C
theorem trp_at (R C r c : Nat) (hc : c < C) : trp R C (r * C + c) = c * R + r := by
  unfold trp
  rw [Nat.mul_comm r C, Nat.mul_add_mod, Nat.mod_eq_of_lt hc, Nat.mul_add_div (by omega), Nat.div_eq_of_lt hc, Nat.add_zero]
theorem rTp_l1 {R C a b n : Nat} (h : Sh R C a b n) (l : List Int) (hn : l.length = n) (r : Nat) (hr : r < R) (res : List Int) (m : Nat) : ∀ c, c + m = C →
    Ev (fun k => abacistref06_Transpose.l0 k l (plc l l (trp R C) ((r + 1) * C)) ((r + 1 : Nat) : Int) (R : Int) (C : Int)) res →
    Ev (fun k => abacistref06_Transpose.l1 k l (plc l l (trp R C) (r * C + c)) (r : Int) (c : Int) (R : Int) (C : Int)) res := by
  have bR := h.rle
  have bC := h.cle
  have bn := h.le
  induction m with
  | zero =>
    intro c hc hres
    obtain rfl : c = C := by omega
    refine Ev.step (fun k => ?_) hres
    simp only [abacistref06_Transpose.l1]
    rw [if_neg (by omega), wsucc r (by omega), Nat.add_mul, Nat.one_mul]
  | succ m ih =>
    intro c hc hres
    have h1 := h.at hr (show c < C by omega)
    have h2 : c * R + r < n := by rw [← h.n, Nat.mul_comm R C]; exact plc_lt (by omega) hr
    have c1 : (c : Int) < (C : Int) := by omega
    have c2 : (0 : Int) ≤ ((r * C + c : Nat) : Int) := by omega
    have c3 : ((r * C + c : Nat) : Int) < (l.length : Int) := by omega
    have c4 : (0 : Int) ≤ ((c * R + r : Nat) : Int) := by omega
    have c5 : ((c * R + r : Nat) : Int) < ((plc l l (trp R C) (r * C + c)).length : Int) := by rw [plc_len, hn]; omega
    have hcc : c < C := by omega
    have hih := ih (c + 1) (by omega) hres
    have b1 : c * R ≤ 9223372036854775807 := by omega
    have b2 : c * R + r ≤ 9223372036854775807 := by omega
    have b3 : c < 4611686018427387904 := by omega
    have e2 : wrap64 (wrap64 ((c : Int) * (R : Int)) + (r : Int)) = ((c * R + r : Nat) : Int) := by rw [mulc c R b1, wadd _ _ b2]
    have w1 := wsucc c b3
    have e1 : wrap64 (wrap64 ((r : Int) * (C : Int)) + (c : Int)) = ((r * C + c : Nat) : Int) := tgt h r c hr hcc
    refine Ev.step (f := fun k => abacistref06_Transpose.l1 k l (plc l l (trp R C) (r * C + (c + 1))) (r : Int) ((c + 1 : Nat) : Int) (R : Int) (C : Int)) (fun k => ?_) hih
    simp only [abacistref06_Transpose.l1]
    rw [if_pos c1, e1, e2, if_pos c2, if_pos c3, if_pos c4, if_pos c5, w1, Int.toNat_natCast, rdn, ← trp_at R C r c hcc]
    rfl
theorem rTp_l0 {R C a b n : Nat} (h : Sh R C a b n) (l : List Int) (hn : l.length = n) (m : Nat) : ∀ r, r + m = R → Ev (fun k => abacistref06_Transpose.l0 k l (plc l l (trp R C) (r * C)) (r : Int) (R : Int) (C : Int)) (plc l l (trp R C) (R * C)) := by
  induction m with
  | zero =>
    intro r hr
    obtain rfl : r = R := by omega
    refine Ev.step (f := fun _ => some _) (fun k => ?_) (Ev.now _)
    simp only [abacistref06_Transpose.l0]
    rw [if_neg (by omega)]
  | succ m ih =>
    intro r hr
    refine Ev.step (f := fun k => abacistref06_Transpose.l1 k l (plc l l (trp R C) (r * C)) (r : Int) 0 (R : Int) (C : Int)) (fun k => ?_) ?_
    · simp only [abacistref06_Transpose.l0]
      rw [if_pos (by omega)]
    · exact rTp_l1 h l hn r (by omega) _ C 0 (by omega) (ih (r + 1) (by omega))
theorem trp_back (R C t : Nat) (hC : 0 < C) (h : t < R * C) : trp R C t < R * C ∧ trp C R (trp R C t) = t := by
  have h1 : t % C < C := Nat.mod_lt _ hC
  have h2 : t / C < R := (Nat.div_lt_iff_lt_mul hC).2 h
  have hR0 : 0 < R := Nat.lt_of_le_of_lt (Nat.zero_le _) h2
  refine ⟨by unfold trp; rw [Nat.mul_comm R C]; exact plc_lt h1 h2, ?_⟩
  have e : t / C * C + t % C = t := by rw [Nat.mul_comm]; exact Nat.div_add_mod t C
  unfold trp
  rw [Nat.mul_comm (t % C) R, Nat.mul_add_mod, Nat.mod_eq_of_lt h2, Nat.mul_add_div hR0, Nat.div_eq_of_lt h2, Nat.add_zero, e]
theorem rTp {R C a b n : Nat} (h : Sh R C a b n) (l : List Int) (hn : l.length = n) : Ev (fun k => abacistref06_Transpose.f k l (R : Int) (C : Int)) (tl (C * R) (tps l R C)) := by
  have e : plc l l (trp R C) (R * C) = tl (C * R) (tps l R C) := by
    rw [plc_all l l (trp R C) (trp C R) (R * C) (by rw [hn, h.n]) (fun t ht => trp_back R C t h.c0 ht) (fun j hj => by
      have := trp_back C R j h.r0 (by rw [Nat.mul_comm]; exact hj)
      rw [Nat.mul_comm C R] at this
      exact this), Nat.mul_comm C R]
    rfl
  unfold abacistref06_Transpose.f
  refine Ev.bind (Ev.now _) (Ev_if (by have := h.le; simp only [List.length_nil]; omega) ?_)
  rw [List.nil_append, ← e]
  have := rTp_l0 h l hn R 0 (by omega)
  rwa [Nat.zero_mul] at this
end Go.Proofs.YtpnkcjnemoompaaDoor.Grid
end
section
namespace Go.Proofs.YtpnkcjnemoompaaDoor.Grid
open Go.RowKit Go.Proofs.YtpnkcjnemoompaaDoor Go.Proofs.YtpnkcjnemoompaaDoor.Ext Go.Proofs.YtpnkcjnemoompaaDoor.PPlan Go.Proofs.YtpnkcjnemoompaaDoor.PFft Go.Proofs.YtpnkcjnemoompaaDoor.Pure Go.Proofs.YtpnkcjnemoompaaDoor.Obj Go.Proofs.YtpnkcjnemoompaaDoor.Fft Go.Proofs.YtpnkcjnemoompaaDoor.Kern Go.Proofs.YtpnkcjnemoompaaDoorW.PrintWords Go.Proofs.YtpnkcjnemoompaaDoorW.PrintLast Go.Proofs.YtpnkcjnemoompaaDoorW.PrintMore
set_option linter.unusedVariables false
set_option linter.unusedSimpArgs false
theorem Sh.tr {R C a b n : Nat} (h : Sh R C a b n) : a ≤ 32 ∧ b ≤ 32 := by have := h.ab; omega
end Go.Proofs.YtpnkcjnemoompaaDoor.Grid
end
section
namespace Go.Proofs.YtpnkcjnemoompaaDoor.Grid
open Go.RowKit Go.Proofs.YtpnkcjnemoompaaDoor Go.Proofs.YtpnkcjnemoompaaDoor.Ext Go.Proofs.YtpnkcjnemoompaaDoor.PPlan Go.Proofs.YtpnkcjnemoompaaDoor.PFft Go.Proofs.YtpnkcjnemoompaaDoor.Pure Go.Proofs.YtpnkcjnemoompaaDoor.Obj Go.Proofs.YtpnkcjnemoompaaDoor.Fft Go.Proofs.YtpnkcjnemoompaaDoor.Kern Go.Proofs.YtpnkcjnemoompaaDoorW.PrintWords Go.Proofs.YtpnkcjnemoompaaDoorW.PrintLast Go.Proofs.YtpnkcjnemoompaaDoorW.PrintMore
set_option linter.unusedVariables false
set_option linter.unusedSimpArgs false
set_option maxRecDepth 100000
theorem can_el (l : List Int) {i : Nat} (h : i < l.length) : el (can l) i = el l i := by rw [can_is, el_tb _ h]
theorem one_t2 : tb 4 (t2 1 1 0 (el (can [1, 0, 0, 0]))) = [1, 1, 1, 1] := by
  have h : ∀ i, i < 4 → t2 1 1 0 (el (can [1, 0, 0, 0])) i = 1 := by
    intro i _
    rw [t2_sum, show (2 : Nat) ^ (1 + 1) = 4 from rfl, sm_four, can_el [1, 0, 0, 0] (i := 0) (by decide), can_el [1, 0, 0, 0] (i := 1) (by decide), can_el [1, 0, 0, 0] (i := 2) (by decide), can_el [1, 0, 0, 0] (i := 3) (by decide), show el [1, 0, 0, 0] 0 = 1 from fo_one, show el [1, 0, 0, 0] 1 = 0 from fo_zero, show el [1, 0, 0, 0] 2 = 0 from fo_zero, show el [1, 0, 0, 0] 3 = 0 from fo_zero, if_neg (by decide), Nat.zero_div, Nat.zero_mod, Nat.mul_zero, Nat.mul_zero, pw_zero]
    grobner
  rw [tb_congr h]
  show (List.range 4).map (fun _ => fv 1) = _
  rw [fv_one]
  rfl
theorem good22 : GoodS 2 2 := ⟨1, 1, by decide, ⟨by decide, rfl⟩, ⟨by decide, rfl⟩⟩
set_option maxHeartbeats 4000000 in
theorem gawake (w : World) (hT : TabOK w) :
    Calls Tryd.prog 15 #[] w fun e w' => e = .returned (.bool true) ∧ Below w.heap.size w w' := by
  have HT := Aside0.mk hT
  have HB := Aside0.mk (below_alloc (Below.refl w.heap.size w) (Obj.cells #[.int .u64 1, .int .u64 0, .int .u64 0, .int .u64 0] 45))
  have HR := Aside0.mk (Mr.of_rw (show Rw _ w.heap.size [1, 0, 0, 0] from Bk.new w 45 [.int .u64 1, .int .u64 0, .int .u64 0, .int .u64 0]))
  clear hT
  go_enter Tryd.func15, Tryd.ntmps15
  go_wp2_with fail
  have h6 := gnew_yes (some ⟨w.heap.size, 0, none⟩) 4 [1, 0, 0, 0] 2 2 _ (In.of_mr HR.out (by decide)) one_ws (by decide) (by decide) good22 rfl (HT.out.below HB.out)
  rw [show ([1, 0, 0, 0] : List Int).length = 4 from rfl] at h6
  with_reducible refine h6.mono ?_
  clear h6
  rintro e w1 ⟨p, g, cg, rfl, hg, hb, hp, hgg⟩
  have HB1 := Aside0.mk (below_then HB.out HB.out.size hb)
  have HG1 := Aside0.mk hg
  have HP := Aside0.mk (show w.heap.size ≤ p ∧ w.heap.size ≤ g by have := HB.out.size; omega)
  have HTT := Aside0.mk (show TabOK w1 from HT.out.below HB1.out)
  clear hg hb hp hgg HB HR
  go_wp2_with fail
  have ht := gtrans_yes 2 2 1 1 p g cg (can [1, 0, 0, 0]) 0 (.inl rfl) rfl rfl (by decide) rfl (can_ws _) _ HG1.out HTT.out
  rw [show (can [1, 0, 0, 0]).length = 4 from can_len _, one_t2] at ht
  with_reducible refine ht.mono ?_
  clear ht
  rintro e w2 ⟨rfl, hg, hf⟩
  have HB2 := Aside0.mk (HB1.out.trans (hf.below (B := w.heap.size) HB1.out.size (by simpa using HP.out.2)))
  have HG2 := Aside0.mk hg
  clear hg hf HB1 HG1 HTT
  go_wp2_with fail
  with_reducible refine (gwords p g cg 2 2 [1, 1, 1, 1] _ HG2.out (by decide) (by decide)).mono ?_
  rintro e w3 ⟨h, d, rfl, hm, hb, hh⟩
  have HB3 := Aside0.mk (below_then HB2.out HB2.out.size hb)
  have HM3 := Aside0.mk hm
  clear hm hb hh HB2 HG2
  have HQ4 := Aside0.mk (Mr.of_rw (show Rw _ w3.heap.size [1, 1, 1, 1] from Bk.new w3 45 [.int .u64 1, .int .u64 1, .int .u64 1, .int .u64 1]))
  have HM4 := Aside0.mk (HM3.out.below (below_alloc (Below.refl w3.heap.size w3) (Obj.cells #[.int .u64 1, .int .u64 1, .int .u64 1, .int .u64 1] 45)))
  have HB4 := Aside0.mk (below_alloc HB3.out (Obj.cells #[.int .u64 1, .int .u64 1, .int .u64 1, .int .u64 1] 45))
  go_wp2_with fail
  have hs := same_calls (some ⟨h, 0, none⟩) (some ⟨w3.heap.size, 0, none⟩) d 4 [1, 1, 1, 1] [1, 1, 1, 1] _ (In.of_mr HM4.out (by decide)) (In.of_mr HQ4.out (by decide)) (by decide) rfl
  rw [show ([1, 1, 1, 1] : List Int).length = 4 from rfl] at hs
  with_reducible refine hs.mono ?_
  clear hs
  rintro e w5 ⟨rfl, hd⟩
  have HB5 := Aside0.mk (below_then HB4.out HB4.out.size hd.below)
  clear hd
  go_wp2
  go_ret
  exact ⟨rfl, HB5.out⟩
set_option maxHeartbeats 4000000 in
theorem made_yes (A : Option Addr) (c : Nat) (l : List Int) (R C : Int) (w : World) (hl : In w A c l) (hW : Ws l) (hL : l.length ≤ 64) (hp : 0 < l.length) (hg : GoodS R C) (hs : R * C = (l.length : Int)) (hT : TabOK w) :
    Calls Tryd.prog 24 #[.agg #[.int .i64 R, .int .i64 C], .slice A l.length c] w fun e w' => ∃ p g cg, e = .returned (.pointer (some ⟨p, 0, none⟩)) ∧ Gd w' p g cg R C (can l) ∧ Below w.heap.size w w' ∧ w.heap.size ≤ p ∧ w.heap.size ≤ g := by
  obtain ⟨kg, hkg⟩ := (rgood_yes R C hg).rounds
  have HKG := Aside0.mk hkg
  have HT0 := Aside0.mk hT
  have HB0 := Aside0.mk (below_alloc (Below.refl w.heap.size w) (Obj.cells #[.int .i64 R, .int .i64 C] 23))
  have HS0 := Aside0.mk (Bk.new w 23 [.int .i64 R, .int .i64 C])
  have HLw := Aside0.mk hl
  have HW := Aside0.mk hW
  have HG := Aside0.mk hg
  have HZ := Aside0.mk hs
  have d1 : decide ((64 : Int) < (l.length : Int)) = false := decide_eq_false (by omega)
  obtain ⟨bs, hbs⟩ : ∃ z, z = w.heap.size := ⟨_, rfl⟩
  have HE := Aside0.mk (show wrap64 (R * C) = (l.length : Int) by rw [hs]; exact wrap_i _ (by omega) (by omega))
  have e2 : ((l.length : Int) != (l.length : Int)) = false := by simp
  clear hT hl hW hg hs hkg
  go_enter Tryd.func24, Tryd.ntmps24
  go_wp2_with fail
  with_reducible refine (abacistref06_Good.calls kg R C true _ HKG.out).mono ?_
  rintro e w1 ⟨rfl, hb⟩
  rw [← hbs] at HS0 ⊢
  clear hbs
  have HB1 := Aside0.mk (below_then HB0.out HB0.out.size hb)
  have HS1 := Aside0.mk (HS0.out.below hb)
  have v0 := HS1.out.cell 0
  have v1 := HS1.out.cell 1
  clear hb HB0 HS0
  have e1 := HE.out
  go_wp2_with fail
  clear v0 v1 e1
  with_reducible refine (gnew_yes A c l R C _ (HLw.out.below HB1.out) HW.out (by omega) hp HG.out HZ.out (HT0.out.below HB1.out)).mono ?_
  rintro e w2 ⟨p, g, cg, rfl, hg, hb, hp2, hg2⟩
  have HB2 := Aside0.mk (below_then HB1.out HB1.out.size hb)
  have HG2 := Aside0.mk hg
  have HP := Aside0.mk (show w.heap.size ≤ p ∧ w.heap.size ≤ g by have := HB1.out.size; omega)
  clear hg hb hp2 hg2 HB1
  go_wp2
  go_ret
  exact ⟨p, g, cg, rfl, HG2.out, HB2.out, HP.out.1, HP.out.2⟩
set_option maxHeartbeats 4000000 in
theorem made_no (A : Option Addr) (c : Nat) (l : List Int) (R C : Int) (w : World) (h : ¬ (l.length ≤ 64 ∧ GoodS R C ∧ R * C = (l.length : Int))) (hT : TabOK w) :
    Calls Tryd.prog 24 #[.agg #[.int .i64 R, .int .i64 C], .slice A l.length c] w fun e w' => e = .returned (.pointer none) ∧ Below w.heap.size w w' := by
  have HB0 := Aside0.mk (below_alloc (Below.refl w.heap.size w) (Obj.cells #[.int .i64 R, .int .i64 C] 23))
  have HS0 := Aside0.mk (Bk.new w 23 [.int .i64 R, .int .i64 C])
  obtain ⟨bs, hbs⟩ : ∃ z, z = w.heap.size := ⟨_, rfl⟩
  by_cases hL : l.length ≤ 64
  · have d1 : decide ((64 : Int) < (l.length : Int)) = false := decide_eq_false (by omega)
    by_cases hg : GoodS R C
    · have hs : R * C ≠ (l.length : Int) := fun e => h ⟨hL, hg, e⟩
      obtain ⟨kg, hkg⟩ := (rgood_yes R C hg).rounds
      have HKG := Aside0.mk hkg
      obtain ⟨a, b, hab, ha, hb⟩ := good_ints hg
      have hp2 := pow32 hab
      rw [Nat.pow_add] at hp2
      have e1 : wrap64 (R * C) = R * C := by rw [ha, hb, ← Int.natCast_mul]; exact wrap_i _ (by omega) (by omega)
      have e2 : (R * C != (l.length : Int)) = true := by rw [bne_iff_ne]; exact hs
      have HE := Aside0.mk e1
      clear hT h hg hs hkg hab ha hb hp2 e1
      go_enter Tryd.func24, Tryd.ntmps24
      go_wp2_with fail
      with_reducible refine (abacistref06_Good.calls kg R C true _ HKG.out).mono ?_
      rintro e w1 ⟨rfl, hb⟩
      rw [← hbs] at HS0 ⊢
      clear hbs
      have HB1 := Aside0.mk (below_then HB0.out HB0.out.size hb)
      have HS1 := Aside0.mk (HS0.out.below hb)
      have v0 := HS1.out.cell 0
      have v1 := HS1.out.cell 1
      clear hb HB0 HS0
      have e1 := HE.out
      go_wp2
      go_ret
      exact ⟨rfl, HB1.out⟩
    · obtain ⟨kg, hkg⟩ := (rgood_no R C hg).rounds
      have HKG := Aside0.mk hkg
      clear hT h hg hkg
      go_enter Tryd.func24, Tryd.ntmps24
      go_wp2_with fail
      with_reducible refine (abacistref06_Good.calls kg R C false _ HKG.out).mono ?_
      rintro e w1 ⟨rfl, hb⟩
      have HB1 := Aside0.mk (below_then HB0.out HB0.out.size hb)
      clear hb HB0 HS0
      go_wp2
      go_ret
      exact ⟨rfl, HB1.out⟩
  · have d1 : decide ((64 : Int) < (l.length : Int)) = true := decide_eq_true (by omega)
    clear hT h
    go_enter Tryd.func24, Tryd.ntmps24
    go_wp2
    go_ret
    exact ⟨rfl, HB0.out⟩
end Go.Proofs.YtpnkcjnemoompaaDoor.Grid
end
section
namespace Go.Proofs.YtpnkcjnemoompaaDoor.Grid
open Go.RowKit Go.Proofs.YtpnkcjnemoompaaDoor Go.Proofs.YtpnkcjnemoompaaDoor.Ext Go.Proofs.YtpnkcjnemoompaaDoor.PPlan Go.Proofs.YtpnkcjnemoompaaDoor.PFft Go.Proofs.YtpnkcjnemoompaaDoor.Pure Go.Proofs.YtpnkcjnemoompaaDoor.Obj Go.Proofs.YtpnkcjnemoompaaDoor.Fft Go.Proofs.YtpnkcjnemoompaaDoor.Kern Go.Proofs.YtpnkcjnemoompaaDoorW.PrintWords Go.Proofs.YtpnkcjnemoompaaDoorW.PrintLast Go.Proofs.YtpnkcjnemoompaaDoorW.PrintMore
set_option linter.unusedVariables false
set_option linter.unusedSimpArgs false
set_option maxRecDepth 100000
attribute [local go_sem high] eqA23
structure Gt (w w' : World) (p g cg bs : Nat) (R C : Int) (xs : List Int) : Prop where
  be : Below w.heap.size w w'
  gd : Gd w' p g cg R C xs
  sh : Bk w' bs 23 [.int .i64 R, .int .i64 C]
theorem Gt.below {w w1 w2 : World} {p g cg bs : Nat} {R C : Int} {xs : List Int} (h : Gt w w1 p g cg bs R C xs) (hb : Below w1.heap.size w1 w2) : Gt w w2 p g cg bs R C xs := ⟨below_then h.be h.be.size hb, h.gd.below hb, h.sh.below hb⟩
theorem Gt.drew {w w1 : World} {p g cg bs : Nat} {R C : Int} {xs : List Int} (h : Gt w w1 p g cg bs R C xs) : Gt w w1.drew p g cg bs R C xs := h.below (below_drew1 (Below.refl _ _))
theorem same_n (A B : Option Addr) (c c' n : Nat) (a b : List Int) (w : World) (ha : In w A c a) (hb : In w B c' b) (hn : n ≤ 1048576) (h1 : a.length = n) (h : a = b) :
    Calls Tryd.prog 19 #[.slice A n c, .slice B n c'] w fun e w' => e = .returned (.bool true) ∧ Below w.heap.size w w' := by
  have hs := same_calls A B c c' a b w ha hb (by omega) h
  rw [← h, h1] at hs
  exact hs.mono fun e w' ⟨h1, h2⟩ => ⟨h1, h2.below⟩
end Go.Proofs.YtpnkcjnemoompaaDoor.Grid
end
section
namespace Go.Proofs.YtpnkcjnemoompaaDoor.Grid
open Go.RowKit Go.Proofs.YtpnkcjnemoompaaDoor Go.Proofs.YtpnkcjnemoompaaDoor.Ext Go.Proofs.YtpnkcjnemoompaaDoor.PPlan Go.Proofs.YtpnkcjnemoompaaDoor.PFft Go.Proofs.YtpnkcjnemoompaaDoor.Pure Go.Proofs.YtpnkcjnemoompaaDoor.Obj Go.Proofs.YtpnkcjnemoompaaDoor.Fft Go.Proofs.YtpnkcjnemoompaaDoor.Kern Go.Proofs.YtpnkcjnemoompaaDoorW.PrintWords Go.Proofs.YtpnkcjnemoompaaDoorW.PrintLast Go.Proofs.YtpnkcjnemoompaaDoorW.PrintMore
set_option linter.unusedVariables false
set_option linter.unusedSimpArgs false
set_option maxRecDepth 100000
attribute [local go_sem high] eqA23
theorem Gd.keep_g {w w' : World} {p g c q h d : Nat} {R C R2 C2 : Int} {xs ys : List Int} (k : Gd w p g c R C xs) (o : Gd w q h d R2 C2 ys) (hgh : g ≠ h) (hf : Fr w w' [h]) : Gd w' p g c R C xs := k.fr hf (by simpa using o.row.ne k.obj (by decide)) (by simpa using hgh)
theorem Gd.keep_p {w w' : World} {p g c q h d : Nat} {R C R2 C2 : Int} {xs ys : List Int} (k : Gd w p g c R C xs) (o : Gd w q h d R2 C2 ys) (hpq : p ≠ q) (hf : Fr w w' [q]) : Gd w' p g c R C xs := k.fr hf (by simpa using hpq) (by simpa using Ne.symm (k.row.ne o.obj (by decide)))
theorem shape_keep_g {w w' : World} {q h d b : Nat} {R C R2 C2 : Int} {ys : List Int} (k : Bk w b 23 [.int .i64 R, .int .i64 C]) (o : Gd w q h d R2 C2 ys) (hf : Fr w w' [h]) : Bk w' b 23 [.int .i64 R, .int .i64 C] := k.fr hf (by simpa using o.row.ne k (by decide))
theorem shape_keep_p {w w' : World} {q h d b : Nat} {R C R2 C2 : Int} {ys : List Int} (k : Bk w b 23 [.int .i64 R, .int .i64 C]) (o : Gd w q h d R2 C2 ys) (hf : Fr w w' [q]) : Bk w' b 23 [.int .i64 R, .int .i64 C] := k.fr hf (by simpa using k.ne o.obj (by decide))
structure Cv (w w' : World) (p1 g1 c1 p2 g2 c2 p3 g3 c3 bs bt : Nat) (R C T0 T1 : Int) (xa xb xc : List Int) : Prop where
  be : Below w.heap.size w w'
  a : Gd w' p1 g1 c1 R C xa
  b : Gd w' p2 g2 c2 R C xb
  c : Gd w' p3 g3 c3 R C xc
  sh : Bk w' bs 23 [.int .i64 R, .int .i64 C]
  st : Bk w' bt 23 [.int .i64 T0, .int .i64 T1]
  ab : g1 ≠ g2
  ac : g1 ≠ g3
  bc : g2 ≠ g3
  la : w.heap.size ≤ g1
  lb : w.heap.size ≤ g2
  lc : w.heap.size ≤ g3
section
variable {w w1 w2 : World} {p1 g1 c1 p2 g2 c2 p3 g3 c3 bs bt : Nat} {R C T0 T1 : Int} {xa xb xc ys : List Int}
theorem Cv.below (k : Cv w w1 p1 g1 c1 p2 g2 c2 p3 g3 c3 bs bt R C T0 T1 xa xb xc) (hb : Below w1.heap.size w1 w2) : Cv w w2 p1 g1 c1 p2 g2 c2 p3 g3 c3 bs bt R C T0 T1 xa xb xc :=
  ⟨below_then k.be k.be.size hb, k.a.below hb, k.b.below hb, k.c.below hb, k.sh.below hb, k.st.below hb, k.ab, k.ac, k.bc, k.la, k.lb, k.lc⟩
theorem Cv.drew (k : Cv w w1 p1 g1 c1 p2 g2 c2 p3 g3 c3 bs bt R C T0 T1 xa xb xc) : Cv w w1.drew p1 g1 c1 p2 g2 c2 p3 g3 c3 bs bt R C T0 T1 xa xb xc := k.below (below_drew1 (Below.refl _ _))
end
theorem words_n (p g c n : Nat) (R C : Int) (xs : List Int) (w : World) (h : Gd w p g c R C xs) (hn : xs.length = n) (hp : 0 < n) (hL : n ≤ 1048576) :
    Calls Tryd.prog 20 #[.pointer (some ⟨p, 0, none⟩)] w fun e w' => ∃ h d, e = .returned (.slice (some ⟨h, 0, none⟩) n d) ∧ In w' (some ⟨h, 0, none⟩) d xs ∧ Below w.heap.size w w' := by
  subst hn
  exact (gwords p g c R C xs w h hp hL).mono fun e w' ⟨h, d, he, hm, hb, _⟩ => ⟨h, d, he, In.of_mr hm (by omega), hb⟩
theorem made_n (A : Option Addr) (c : Nat) (l : List Int) (n : Nat) (R C : Int) (w : World) (hl : In w A c l) (hW : Ws l) (hn : l.length = n) (hL : n ≤ 64) (hp : 0 < n) (hg : GoodS R C) (hs : R * C = (n : Int)) (hT : TabOK w) :
    Calls Tryd.prog 24 #[.agg #[.int .i64 R, .int .i64 C], .slice A n c] w fun e w' => ∃ p g cg, e = .returned (.pointer (some ⟨p, 0, none⟩)) ∧ Gd w' p g cg R C (can l) ∧ Below w.heap.size w w' ∧ w.heap.size ≤ p ∧ w.heap.size ≤ g := by
  subst hn
  exact made_yes A c l R C w hl hW hL hp hg hs hT
end Go.Proofs.YtpnkcjnemoompaaDoor.Grid
end
section
namespace Go.Proofs.YtpnkcjnemoompaaDoor.Grid
open Go.RowKit Go.Proofs.YtpnkcjnemoompaaDoor Go.Proofs.YtpnkcjnemoompaaDoor.Ext Go.Proofs.YtpnkcjnemoompaaDoor.PPlan Go.Proofs.YtpnkcjnemoompaaDoor.PFft Go.Proofs.YtpnkcjnemoompaaDoor.Pure Go.Proofs.YtpnkcjnemoompaaDoor.Obj Go.Proofs.YtpnkcjnemoompaaDoor.Fft Go.Proofs.YtpnkcjnemoompaaDoor.Kern Go.Proofs.YtpnkcjnemoompaaDoorW.PrintWords Go.Proofs.YtpnkcjnemoompaaDoorW.PrintLast Go.Proofs.YtpnkcjnemoompaaDoorW.PrintMore
set_option linter.unusedVariables false
set_option linter.unusedSimpArgs false
set_option maxRecDepth 100000
attribute [local go_sem high] eqA23
structure Mo (w w' : World) (pa ga ca pb gb cb pc gc cc pd gd cd gx cx bs : Nat) (R C Rc Cc Rd Cd : Int) (xa xb xc xd xx : List Int) : Prop where
  be : Below w.heap.size w w'
  sh : Bk w' bs 23 [.int .i64 R, .int .i64 C]
  x : Mr w' gx cx xx
  a : Gd w' pa ga ca R C xa
  b : Gd w' pb gb cb R C xb
  c : Gd w' pc gc cc Rc Cc xc
  d : Gd w' pd gd cd Rd Cd xd
  pab : pa ≠ pb
  gab : ga ≠ gb
  pac : pa ≠ pc
  gac : ga ≠ gc
  pad : pa ≠ pd
  gad : ga ≠ gd
  pbc : pb ≠ pc
  gbc : gb ≠ gc
  pbd : pb ≠ pd
  gbd : gb ≠ gd
  pcd : pc ≠ pd
  gcd : gc ≠ gd
  lpa : w.heap.size ≤ pa
  lga : w.heap.size ≤ ga
  gxa : gx ≠ ga
  lpb : w.heap.size ≤ pb
  lgb : w.heap.size ≤ gb
  gxb : gx ≠ gb
  lpc : w.heap.size ≤ pc
  lgc : w.heap.size ≤ gc
  gxc : gx ≠ gc
  lpd : w.heap.size ≤ pd
  lgd : w.heap.size ≤ gd
  gxd : gx ≠ gd
section
variable {w w1 w2 : World} {pa ga ca pb gb cb pc gc cc pd gd cd gx cx bs : Nat} {R C Rc Cc Rd Cd : Int} {xa xb xc xd xx ys : List Int} {h e : Nat} {R2 C2 : Int}
theorem Mo.below (k : Mo w w1 pa ga ca pb gb cb pc gc cc pd gd cd gx cx bs R C Rc Cc Rd Cd xa xb xc xd xx) (hb : Below w1.heap.size w1 w2) : Mo w w2 pa ga ca pb gb cb pc gc cc pd gd cd gx cx bs R C Rc Cc Rd Cd xa xb xc xd xx :=
  ⟨below_then k.be k.be.size hb, k.sh.below hb, k.x.below hb, k.a.below hb, k.b.below hb, k.c.below hb, k.d.below hb, k.pab, k.gab, k.pac, k.gac, k.pad, k.gad, k.pbc, k.gbc, k.pbd, k.gbd, k.pcd, k.gcd, k.lpa, k.lga, k.gxa, k.lpb, k.lgb, k.gxb, k.lpc, k.lgc, k.gxc, k.lpd, k.lgd, k.gxd⟩
theorem Mo.drew (k : Mo w w1 pa ga ca pb gb cb pc gc cc pd gd cd gx cx bs R C Rc Cc Rd Cd xa xb xc xd xx) : Mo w w1.drew pa ga ca pb gb cb pc gc cc pd gd cd gx cx bs R C Rc Cc Rd Cd xa xb xc xd xx := k.below (below_drew1 (Below.refl _ _))
theorem Mo.fpa (k : Mo w w1 pa ga ca pb gb cb pc gc cc pd gd cd gx cx bs R C Rc Cc Rd Cd xa xb xc xd xx) (hf : Fr w1 w2 [pa]) (hn : Gd w2 pa h e R C ys) (hh : w1.heap.size ≤ h) : Mo w w2 pa h e pb gb cb pc gc cc pd gd cd gx cx bs R C Rc Cc Rd Cd ys xb xc xd xx :=
  ⟨k.be.trans (hf.below (B := w.heap.size) k.be.size (by simpa using k.lpa)), shape_keep_p k.sh k.a hf, k.x.fr hf (by simpa using Ne.symm (k.x.ne k.a.obj (by decide))), hn, k.b.keep_p k.a (Ne.symm k.pab) hf, k.c.keep_p k.a (Ne.symm k.pac) hf, k.d.keep_p k.a (Ne.symm k.pad) hf, k.pab, (fun e => absurd hh (by have := k.b.lg; omega)), k.pac, (fun e => absurd hh (by have := k.c.lg; omega)), k.pad, (fun e => absurd hh (by have := k.d.lg; omega)), k.pbc, k.gbc, k.pbd, k.gbd, k.pcd, k.gcd, k.lpa, (Nat.le_trans k.be.size hh), (fun e => absurd hh (by have := k.x.lt; omega)), k.lpb, k.lgb, k.gxb, k.lpc, k.lgc, k.gxc, k.lpd, k.lgd, k.gxd⟩
theorem Mo.fpb (k : Mo w w1 pa ga ca pb gb cb pc gc cc pd gd cd gx cx bs R C Rc Cc Rd Cd xa xb xc xd xx) (hf : Fr w1 w2 [pb]) (hn : Gd w2 pb h e R C ys) (hh : w1.heap.size ≤ h) : Mo w w2 pa ga ca pb h e pc gc cc pd gd cd gx cx bs R C Rc Cc Rd Cd xa ys xc xd xx :=
  ⟨k.be.trans (hf.below (B := w.heap.size) k.be.size (by simpa using k.lpb)), shape_keep_p k.sh k.b hf, k.x.fr hf (by simpa using Ne.symm (k.x.ne k.b.obj (by decide))), k.a.keep_p k.b (k.pab) hf, hn, k.c.keep_p k.b (Ne.symm k.pbc) hf, k.d.keep_p k.b (Ne.symm k.pbd) hf, k.pab, (fun e => absurd hh (by have := k.a.lg; omega)), k.pac, k.gac, k.pad, k.gad, k.pbc, (fun e => absurd hh (by have := k.c.lg; omega)), k.pbd, (fun e => absurd hh (by have := k.d.lg; omega)), k.pcd, k.gcd, k.lpa, k.lga, k.gxa, k.lpb, (Nat.le_trans k.be.size hh), (fun e => absurd hh (by have := k.x.lt; omega)), k.lpc, k.lgc, k.gxc, k.lpd, k.lgd, k.gxd⟩
theorem Mo.fgc (k : Mo w w1 pa ga ca pb gb cb pc gc cc pd gd cd gx cx bs R C Rc Cc Rd Cd xa xb xc xd xx) (hf : Fr w1 w2 [gc]) (hn : Gd w2 pc gc cc Rc Cc ys) : Mo w w2 pa ga ca pb gb cb pc gc cc pd gd cd gx cx bs R C Rc Cc Rd Cd xa xb ys xd xx :=
  ⟨k.be.trans (hf.below (B := w.heap.size) k.be.size (by simpa using k.lgc)), shape_keep_g k.sh k.c hf, k.x.fr hf (by simpa using k.gxc), k.a.keep_g k.c (k.gac) hf, k.b.keep_g k.c (k.gbc) hf, hn, k.d.keep_g k.c (Ne.symm k.gcd) hf, k.pab, k.gab, k.pac, k.gac, k.pad, k.gad, k.pbc, k.gbc, k.pbd, k.gbd, k.pcd, k.gcd, k.lpa, k.lga, k.gxa, k.lpb, k.lgb, k.gxb, k.lpc, k.lgc, k.gxc, k.lpd, k.lgd, k.gxd⟩
theorem Mo.fpc (k : Mo w w1 pa ga ca pb gb cb pc gc cc pd gd cd gx cx bs R C Rc Cc Rd Cd xa xb xc xd xx) (hf : Fr w1 w2 [pc]) (hn : Gd w2 pc h e R2 C2 ys) (hh : w1.heap.size ≤ h) : Mo w w2 pa ga ca pb gb cb pc h e pd gd cd gx cx bs R C R2 C2 Rd Cd xa xb ys xd xx :=
  ⟨k.be.trans (hf.below (B := w.heap.size) k.be.size (by simpa using k.lpc)), shape_keep_p k.sh k.c hf, k.x.fr hf (by simpa using Ne.symm (k.x.ne k.c.obj (by decide))), k.a.keep_p k.c (k.pac) hf, k.b.keep_p k.c (k.pbc) hf, hn, k.d.keep_p k.c (Ne.symm k.pcd) hf, k.pab, k.gab, k.pac, (fun e => absurd hh (by have := k.a.lg; omega)), k.pad, k.gad, k.pbc, (fun e => absurd hh (by have := k.b.lg; omega)), k.pbd, k.gbd, k.pcd, (fun e => absurd hh (by have := k.d.lg; omega)), k.lpa, k.lga, k.gxa, k.lpb, k.lgb, k.gxb, k.lpc, (Nat.le_trans k.be.size hh), (fun e => absurd hh (by have := k.x.lt; omega)), k.lpd, k.lgd, k.gxd⟩
theorem Mo.fgd (k : Mo w w1 pa ga ca pb gb cb pc gc cc pd gd cd gx cx bs R C Rc Cc Rd Cd xa xb xc xd xx) (hf : Fr w1 w2 [gd]) (hn : Gd w2 pd gd cd Rd Cd ys) : Mo w w2 pa ga ca pb gb cb pc gc cc pd gd cd gx cx bs R C Rc Cc Rd Cd xa xb xc ys xx :=
  ⟨k.be.trans (hf.below (B := w.heap.size) k.be.size (by simpa using k.lgd)), shape_keep_g k.sh k.d hf, k.x.fr hf (by simpa using k.gxd), k.a.keep_g k.d (k.gad) hf, k.b.keep_g k.d (k.gbd) hf, k.c.keep_g k.d (k.gcd) hf, hn, k.pab, k.gab, k.pac, k.gac, k.pad, k.gad, k.pbc, k.gbc, k.pbd, k.gbd, k.pcd, k.gcd, k.lpa, k.lga, k.gxa, k.lpb, k.lgb, k.gxb, k.lpc, k.lgc, k.gxc, k.lpd, k.lgd, k.gxd⟩
theorem Mo.fpd (k : Mo w w1 pa ga ca pb gb cb pc gc cc pd gd cd gx cx bs R C Rc Cc Rd Cd xa xb xc xd xx) (hf : Fr w1 w2 [pd]) (hn : Gd w2 pd h e R2 C2 ys) (hh : w1.heap.size ≤ h) : Mo w w2 pa ga ca pb gb cb pc gc cc pd h e gx cx bs R C Rc Cc R2 C2 xa xb xc ys xx :=
  ⟨k.be.trans (hf.below (B := w.heap.size) k.be.size (by simpa using k.lpd)), shape_keep_p k.sh k.d hf, k.x.fr hf (by simpa using Ne.symm (k.x.ne k.d.obj (by decide))), k.a.keep_p k.d (k.pad) hf, k.b.keep_p k.d (k.pbd) hf, k.c.keep_p k.d (k.pcd) hf, hn, k.pab, k.gab, k.pac, k.gac, k.pad, (fun e => absurd hh (by have := k.a.lg; omega)), k.pbc, k.gbc, k.pbd, (fun e => absurd hh (by have := k.b.lg; omega)), k.pcd, (fun e => absurd hh (by have := k.c.lg; omega)), k.lpa, k.lga, k.gxa, k.lpb, k.lgb, k.gxb, k.lpc, k.lgc, k.gxc, k.lpd, (Nat.le_trans k.be.size hh), (fun e => absurd hh (by have := k.x.lt; omega))⟩
end
theorem mv32_calls {R C a b n : Nat} (h : Sh R C a b n) (A : Option Addr) (c : Nat) (x : List Int) (rows cols : Int) (u v : Nat) (hu : (u : Int) = rows % (R : Int)) (hv : (v : Int) = cols % (C : Int)) (w : World) (hx : In w A c x) (hn : x.length = n) :
    Calls Tryd.prog 51 #[.slice A n c, .agg #[.int .i64 (R : Int), .int .i64 (C : Int)], .int .i64 rows, .int .i64 cols] w fun e w' => ∃ D d, e = .returned (.slice D n d) ∧ In w' D d (plc x x (mvp a b u v) n) ∧ Below w.heap.size w w' := by
  obtain ⟨k, hk⟩ := (rMove h x hn rows cols u v hu hv).rounds
  have hc := abacistref32_Move.calls k A c x (R : Int) (C : Int) rows cols _ w hx.r hx.c hk
  rw [hn] at hc
  refine hc.mono ?_
  rintro e w1 ⟨v, rfl, hR, hb⟩
  obtain ⟨D, d, hv, hld, hcd⟩ := Kd.R_reads hR
  subst hv
  rw [plc_len, hn]
  exact ⟨D, d, rfl, In.mk (by rw [plc_len] at hcd ⊢; exact hcd) hld, hb⟩
theorem fl32_calls {R C a b n : Nat} (h : Sh R C a b n) (A : Option Addr) (c : Nat) (x : List Int) (w : World) (hx : In w A c x) (hn : x.length = n) :
    Calls Tryd.prog 52 #[.slice A n c, .agg #[.int .i64 (R : Int), .int .i64 (C : Int)]] w fun e w' => ∃ D d, e = .returned (.slice D n d) ∧ In w' D d (plc x x (flp a b) n) ∧ Below w.heap.size w w' := by
  obtain ⟨k, hk⟩ := (rFlip h x hn).rounds
  have hc := abacistref32_Flip.calls k A c x (R : Int) (C : Int) _ w hx.r hx.c hk
  rw [hn] at hc
  refine hc.mono ?_
  rintro e w1 ⟨v, rfl, hR, hb⟩
  obtain ⟨D, d, hv, hld, hcd⟩ := Kd.R_reads hR
  subst hv
  rw [plc_len, hn]
  exact ⟨D, d, rfl, In.mk (by rw [plc_len] at hcd ⊢; exact hcd) hld, hb⟩
theorem tp06_calls {R C a b n : Nat} (h : Sh R C a b n) (A : Option Addr) (c : Nat) (x : List Int) (w : World) (hx : In w A c x) (hn : x.length = n) :
    Calls Tryd.prog 53 #[.slice A n c, .agg #[.int .i64 (R : Int), .int .i64 (C : Int)]] w fun e w' => ∃ D d, e = .returned (.slice D n d) ∧ In w' D d (tl (C * R) (tps x R C)) ∧ Below w.heap.size w w' := by
  obtain ⟨k, hk⟩ := (rTp h x hn).rounds
  have hc := abacistref06_Transpose.calls k A c x (R : Int) (C : Int) _ w hx.r hx.c hk
  rw [hn] at hc
  refine hc.mono ?_
  rintro e w1 ⟨v, rfl, hR, hb⟩
  obtain ⟨D, d, hv, hld, hcd⟩ := Kd.R_reads hR
  subst hv
  have hl : (tl (C * R) (tps x R C)).length = n := by rw [tl_len, Nat.mul_comm, h.n]
  rw [hl]
  exact ⟨D, d, rfl, In.mk hcd hld, hb⟩
theorem scale_n (A : Option Addr) (c : Nat) (x : List Int) (n : Nat) (s : Int) (hs : W64 s) (w : World) (hx : In w A c x) (hW : Ws x) (hL : n ≤ 1048576) (hn : x.length = n) :
    Calls Tryd.prog 54 #[.slice A n c, .int .u64 s] w fun e w' => ∃ D d, e = .returned (.slice D n d) ∧ In w' D d (tb n fun i => el x i * fo s) ∧ Below w.heap.size w w' := by
  subst hn
  obtain ⟨k, hk⟩ := (rScale x hW s hs hL).rounds
  refine (abacistref08_Scale.calls k A c x s _ w hx.r hx.c hk).mono ?_
  rintro e w1 ⟨v, rfl, hR, hb⟩
  obtain ⟨D, d, hv, hld, hcd⟩ := Kd.R_reads hR
  subst hv
  rw [tb_len]
  exact ⟨D, d, rfl, In.mk hcd hld, hb⟩
theorem canon_mr (A : Option Addr) (c : Nat) (l : List Int) (n : Nat) (w : World) (hl : In w A c l) (hW : Ws l) (hL : n ≤ 1048576) (hn : l.length = n) (hp : 0 < n) :
    Calls Tryd.prog 21 #[.slice A n c] w fun e w' => ∃ g d, e = .returned (.slice (some ⟨g, 0, none⟩) n d) ∧ Mr w' g d (can l) ∧ Below w.heap.size w w' ∧ w.heap.size ≤ g := by
  subst hn
  obtain ⟨k, hk⟩ := (rCanon l hW hL).rounds
  rw [← can_is] at hk
  refine (abacistref08_Canon.calls k A c l (can l) w hl.r hl.c hk).mono ?_
  rintro e w1 ⟨v, rfl, hR, hb⟩
  obtain ⟨g, d, hv, hg, hm⟩ := Mr.of_R hR (by rw [can_len]; exact hp)
  subst hv
  rw [can_len]
  exact ⟨g, d, rfl, hm, hb, hg⟩
theorem mv_same {R C a b n : Nat} (h : Sh R C a b n) (x : List Int) (hx : x.length = n) (u v : Nat) (hu : u < R) (hv : v < C) : plc (List.replicate n 0) x (mvp a b u v) n = plc x x (mvp a b u v) n := by
  rw [plc_mv a b u v x n h.pow (by rw [← h.r]; omega) (by rw [← h.c]; omega) _ (List.length_replicate), plc_mv a b u v x n h.pow (by rw [← h.r]; omega) (by rw [← h.c]; omega) _ hx]
theorem fl_same {R C a b n : Nat} (h : Sh R C a b n) (x : List Int) (hx : x.length = n) : plc (List.replicate n 0) x (flp a b) n = plc x x (flp a b) n := by
  rw [plc_fl a b x n h.pow _ (List.length_replicate), plc_fl a b x n h.pow _ hx]
theorem tp_ws {x : List Int} (hx : Ws x) (R C : Nat) : Ws (tl (C * R) (tps x R C)) := by
  intro i
  by_cases hi : i < C * R
  · rw [tl_get _ hi]; exact hx _
  · rw [List.getD_eq_getElem?_getD, List.getElem?_eq_none (by rw [tl_len]; omega)]; exact ⟨by decide, by decide⟩
theorem plc_ws {bs x : List Int} (hb : Ws bs) (hx : Ws x) (T : Nat → Nat) (i : Nat) : Ws (plc bs x T i) := by
  induction i with
  | zero => exact hb
  | succ i ih =>
    intro j
    rw [plc, List.getD_eq_getElem?_getD]
    by_cases e : T i = j
    · by_cases hj : T i < (plc bs x T i).length
      · rw [← e, List.getElem?_set_self hj]; exact hx i
      · rw [List.getElem?_eq_none (by rw [List.length_set]; omega)]; exact ⟨by decide, by decide⟩
    · rw [List.getElem?_set_ne e, ← List.getD_eq_getElem?_getD]; exact ih j
theorem tp_el {R C : Nat} (x : List Int) {r c : Nat} (hr : r < R) (hc : c < C) : el (tl (C * R) (tps x R C)) (c * R + r) = el x (r * C + c) := by
  unfold el
  rw [tl_get _ (plc_lt hc hr), tps_at _ _ _ _ _ hr]
theorem turn_same {R C a b n : Nat} (h : Sh R C a b n) (x : List Int) (hx : x.length = n) : tb n (t2 b a 0 (el (tl (C * R) (tps x R C)))) = tl (C * R) (tps (tb n (t2 a b 0 (el x))) R C) := by
  have hn : C * R = n := by rw [Nat.mul_comm, h.n]
  refine list_ext (by rw [tb_len, tl_len, hn]) fun t ht => ?_
  rw [tb_len] at ht
  obtain ⟨c', r', hc', hr', rfl⟩ : ∃ c' r', c' < C ∧ r' < R ∧ t = c' * R + r' := ⟨t / R, t % R, by rw [Nat.div_lt_iff_lt_mul h.r0, hn]; exact ht, Nat.mod_lt _ h.r0, by rw [Nat.mul_comm]; exact (Nat.div_add_mod t R).symm⟩
  rw [tb_get _ ht, tl_get _ (by rw [hn]; exact ht), tps_at _ _ _ _ _ hr', tb_get _ (h.at hr' hc')]
  refine congrArg fv ?_
  rw [h.r, h.c]
  refine t2_turn a b 0 (el x) _ (fun r c hr hc => ?_) r' c' (by rw [← h.r]; exact hr') (by rw [← h.c]; exact hc')
  rw [← h.r, ← h.c] at *
  exact tp_el x hr hc
theorem turn_twice {R C a b n : Nat} (h : Sh R C a b n) (x : List Int) (hx : x.length = n) : tl (R * C) (tps (tl (C * R) (tps x R C)) C R) = x := by
  refine list_ext (by rw [tl_len, hx, h.n]) fun t ht => ?_
  rw [tl_len] at ht
  obtain ⟨r', c', hr', hc', rfl⟩ : ∃ r' c', r' < R ∧ c' < C ∧ t = r' * C + c' := ⟨t / C, t % C, by rw [Nat.div_lt_iff_lt_mul h.c0]; exact ht, Nat.mod_lt _ h.c0, by rw [Nat.mul_comm]; exact (Nat.div_add_mod t C).symm⟩
  rw [tl_get _ ht, tps_at _ _ _ _ _ hc', tl_get _ (plc_lt hc' hr'), tps_at _ _ _ _ _ hr']
theorem twice_same {R C a b n : Nat} (h : Sh R C a b n) (x : List Int) (hx : x.length = n) : tb n (t2 a b 0 (el (tb n (t2 a b 0 (el x))))) = tb n fun i => el (plc x x (flp a b) n) i * fo (n : Int) := by
  refine tb_congr fun t ht => ?_
  rw [t2_congr (g := t2 a b 0 (el x)) (fun j hj => el_tb _ (by rw [h.pow]; exact hj)) t, t2_twice a b (by have := h.ab; omega) (el x) t (by rw [← h.pow]; exact ht), plc_fl a b x n h.pow _ hx]
  have e1 : el (tl n (fun j => x.getD (flp a b j) 0)) t = el x (flp a b t) := by
    unfold el
    rw [tl_get _ ht]
  have e2 : fo (n : Int) = pw 2 (a + b) := by
    have h2 := nf_two (a + b)
    rw [← h.pow] at h2
    exact h2
  rw [e1, e2]
theorem Sh.flip {R C a b n : Nat} (h : Sh R C a b n) : Sh C R b a n := ⟨h.c, h.r, by have := h.ab; omega, by rw [Nat.mul_comm]; exact h.n⟩
theorem Sh.good {R C a b n : Nat} (h : Sh R C a b n) : GoodS (R : Int) (C : Int) := ⟨a, b, by have := h.ab; omega, ⟨by have := h.ab; omega, by rw [h.r]⟩, ⟨by have := h.ab; omega, by rw [h.c]⟩⟩
set_option maxHeartbeats 4000000 in
theorem mo_nil (A : Option Addr) (c : Nat) (l : List Int) (R C rows cols : Int) (w : World) (hl : In w A c l) (h : ¬ (l.length ≤ 64 ∧ GoodS R C ∧ R * C = (l.length : Int))) (hT : TabOK w) :
    Calls Tryd.prog 9 #[.agg #[.int .i64 R, .int .i64 C], .slice A l.length c, .int .i64 rows, .int .i64 cols] w fun e w' => e = .returned (.bool true) ∧ Below w.heap.size w w' := by
  have HN := Aside0.mk h
  clear h
  have HT0 := Aside0.mk hT
  have HB := Aside0.mk (below_alloc (Below.refl w.heap.size w) (Obj.cells #[.int .i64 R, .int .i64 C] 23))
  have HS := Aside0.mk (Bk.new w 23 [.int .i64 R, .int .i64 C])
  have HL0 := Aside0.mk hl
  obtain ⟨bs, hbs⟩ : ∃ z, z = w.heap.size := ⟨_, rfl⟩
  have hbg : w.heap.size ≤ bs := by omega
  clear hT hl
  go_enter Tryd.func9, Tryd.ntmps9
  go_wp2_with fail
  with_reducible refine (gawake _ (HT0.out.below HB.out)).mono ?_
  rintro e w1 ⟨rfl, hb⟩
  rw [← hbs] at HS ⊢
  clear hbs
  have HB1 := Aside0.mk (below_then HB.out HB.out.size hb)
  have HS1 := Aside0.mk (HS.out.below hb)
  clear hb HB HS
  go_wp2_with fail
  refine start_ (n := 16) (S := fun w' => w'.cell? ⟨bs, 0, none⟩ = some (.int .i64 R) ∧ w'.cell? ⟨bs, 1, none⟩ = some (.int .i64 C) ∧ Aside0 (Below w.heap.size w w' ∧ Bk w' bs 23 [.int .i64 R, .int .i64 C])) (ds := []) #[false, false, false, false, false, false, false, false, false, false, false, false, false, false, false, false] (by kernel_rfl) rfl rfl ⟨HS1.out.drew.cell 0, HS1.out.drew.cell 1, ⟨below_drew1 HB1.out, HS1.out.drew⟩⟩ (fun hHeld => ?_)
  refine pure_ (i := 1) (N := some 17) (v := ?_) (a' := ?_) #[false, true, false, false, false, false, false, false, false, false, false, false, false, false, false, false] rfl rfl (by kernel_rfl) (fun _ _ _ h => h) (Or.inl ⟨by rfl, ?_⟩) ?_ ?_
  rotate_left
  · intro w'
    go_simp
    with_reducible rfl
  rotate_left
  · simp only [Act.put, List.setIfInBounds_toArray, List.set_cons_zero, List.set_cons_succ, i64_w, i32_w]
    rfl
  refine pure_ (i := 4) (N := some 20) (v := ?_) (a' := ?_) #[false, true, false, false, true, false, false, false, false, false, false, false, false, false, false, false] rfl rfl (by kernel_rfl) (fun _ _ _ h => h) (Or.inl ⟨by rfl, ?_⟩) ?_ ?_
  rotate_left
  · intro w'
    go_simp
    with_reducible rfl
  rotate_left
  · simp only [Act.put, List.setIfInBounds_toArray, List.set_cons_zero, List.set_cons_succ, i64_w, i32_w]
    rfl
  refine pure_ (i := 7) (N := some 23) (v := ?_) (a' := ?_) #[false, true, false, false, true, false, false, true, false, false, false, false, false, false, false, false] rfl rfl (by kernel_rfl) (fun _ _ _ h => h) (Or.inl ⟨by rfl, ?_⟩) ?_ ?_
  rotate_left
  · intro w'
    go_simp
    with_reducible rfl
  rotate_left
  · simp only [Act.put, List.setIfInBounds_toArray, List.set_cons_zero, List.set_cons_succ, i64_w, i32_w]
    rfl
  refine pure_ (i := 10) (N := some 26) (v := ?_) (a' := ?_) #[false, true, false, false, true, false, false, true, false, false, true, false, false, false, false, false] rfl rfl (by kernel_rfl) (fun _ _ _ h => h) (Or.inl ⟨by rfl, ?_⟩) ?_ ?_
  rotate_left
  · intro w'
    go_simp
    with_reducible rfl
  rotate_left
  · simp only [Act.put, List.setIfInBounds_toArray, List.set_cons_zero, List.set_cons_succ, i64_w, i32_w]
    rfl
  refine take_ (i := 0) (N := some 16) (v := ?_) (a' := ?_) #[true, true, false, false, true, false, false, true, false, false, true, false, false, false, false, false] rfl rfl (by kernel_rfl) (fun _ _ _ h => h) (Or.inl ⟨by rfl, ?_⟩) hHeld ?_ ?_
  rotate_left
  · rintro w' ⟨s0, s1, s2⟩
    go_simp
    with_reducible rfl
  rotate_left
  · simp only [Act.put, List.setIfInBounds_toArray, List.set_cons_zero, List.set_cons_succ, i64_w, i32_w]
    rfl
  refine take_ (i := 3) (N := some 19) (v := ?_) (a' := ?_) #[true, true, false, true, true, false, false, true, false, false, true, false, false, false, false, false] rfl rfl (by kernel_rfl) (fun _ _ _ h => h) (Or.inl ⟨by rfl, ?_⟩) hHeld ?_ ?_
  rotate_left
  · rintro w' ⟨s0, s1, s2⟩
    go_simp
    with_reducible rfl
  rotate_left
  · simp only [Act.put, List.setIfInBounds_toArray, List.set_cons_zero, List.set_cons_succ, i64_w, i32_w]
    rfl
  refine take_ (i := 6) (N := some 22) (v := ?_) (a' := ?_) #[true, true, false, true, true, false, true, true, false, false, true, false, false, false, false, false] rfl rfl (by kernel_rfl) (fun _ _ _ h => h) (Or.inl ⟨by rfl, ?_⟩) hHeld ?_ ?_
  rotate_left
  · rintro w' ⟨s0, s1, s2⟩
    go_simp
    with_reducible rfl
  rotate_left
  · simp only [Act.put, List.setIfInBounds_toArray, List.set_cons_zero, List.set_cons_succ, i64_w, i32_w]
    rfl
  refine take_ (i := 9) (N := some 25) (v := ?_) (a' := ?_) #[true, true, false, true, true, false, true, true, false, true, true, false, false, false, false, false] rfl rfl (by kernel_rfl) (fun _ _ _ h => h) (Or.inl ⟨by rfl, ?_⟩) hHeld ?_ ?_
  rotate_left
  · rintro w' ⟨s0, s1, s2⟩
    go_simp
    with_reducible rfl
  rotate_left
  · simp only [Act.put, List.setIfInBounds_toArray, List.set_cons_zero, List.set_cons_succ, i64_w, i32_w]
    rfl
  refine one_ (i := 2) (N := some 18) #[true, true, true, true, true, false, true, true, false, true, true, false, false, false, false, false] rfl rfl (by kernel_rfl) (by decide) (fun K hK => ?_)
  refine goes_ Tryd.func24 (by kernel_rfl) rfl #[.agg #[.int .i64 R, .int .i64 C], .slice A l.length c] (by rfl) rfl rfl (by simp only [List.map_toArray, List.map_cons, List.map_nil]; rfl) ?_
  with_reducible refine (made_no A c l R C _ HN.out (HT0.out.below hHeld.2.2.out.1)).mono ?_
  rintro e w2 ⟨rfl, hb⟩
  refine ⟨_, rfl, ?_⟩
  have nB := below_then hHeld.2.2.out.1 hHeld.2.2.out.1.size hb
  have nS := hHeld.2.2.out.2.below hb
  clear hHeld hb
  refine hK.out _ _ ⟨nS.cell 0, nS.cell 1, ⟨nB, nS⟩⟩ (fun hHeld => ?_)
  clear hK K
  refine norm_ (a' := ?_) ?_ ?_
  rotate_left
  · show Act.put _ (some 18) _ = _
    simp only [Act.put, List.setIfInBounds_toArray, List.set_cons_zero, List.set_cons_succ, i64_w, i32_w]
    rfl
  refine one_ (i := 5) (N := some 21) #[true, true, true, true, true, true, true, true, false, true, true, false, false, false, false, false] rfl rfl (by kernel_rfl) (by decide) (fun K hK => ?_)
  refine goes_ Tryd.func24 (by kernel_rfl) rfl #[.agg #[.int .i64 R, .int .i64 C], .slice A l.length c] (by rfl) rfl rfl (by simp only [List.map_toArray, List.map_cons, List.map_nil]; rfl) ?_
  with_reducible refine (made_no A c l R C _ HN.out (HT0.out.below hHeld.2.2.out.1)).mono ?_
  rintro e w3 ⟨rfl, hb⟩
  refine ⟨_, rfl, ?_⟩
  have nB := below_then hHeld.2.2.out.1 hHeld.2.2.out.1.size hb
  have nS := hHeld.2.2.out.2.below hb
  clear hHeld hb
  refine hK.out _ _ ⟨nS.cell 0, nS.cell 1, ⟨nB, nS⟩⟩ (fun hHeld => ?_)
  clear hK K
  refine norm_ (a' := ?_) ?_ ?_
  rotate_left
  · show Act.put _ (some 21) _ = _
    simp only [Act.put, List.setIfInBounds_toArray, List.set_cons_zero, List.set_cons_succ, i64_w, i32_w]
    rfl
  refine one_ (i := 8) (N := some 24) #[true, true, true, true, true, true, true, true, true, true, true, false, false, false, false, false] rfl rfl (by kernel_rfl) (by decide) (fun K hK => ?_)
  refine goes_ Tryd.func24 (by kernel_rfl) rfl #[.agg #[.int .i64 R, .int .i64 C], .slice A l.length c] (by rfl) rfl rfl (by simp only [List.map_toArray, List.map_cons, List.map_nil]; rfl) ?_
  with_reducible refine (made_no A c l R C _ HN.out (HT0.out.below hHeld.2.2.out.1)).mono ?_
  rintro e w4 ⟨rfl, hb⟩
  refine ⟨_, rfl, ?_⟩
  have nB := below_then hHeld.2.2.out.1 hHeld.2.2.out.1.size hb
  have nS := hHeld.2.2.out.2.below hb
  clear hHeld hb
  refine hK.out _ _ ⟨nS.cell 0, nS.cell 1, ⟨nB, nS⟩⟩ (fun hHeld => ?_)
  clear hK K
  refine norm_ (a' := ?_) ?_ ?_
  rotate_left
  · show Act.put _ (some 24) _ = _
    simp only [Act.put, List.setIfInBounds_toArray, List.set_cons_zero, List.set_cons_succ, i64_w, i32_w]
    rfl
  refine one_ (i := 11) (N := some 27) #[true, true, true, true, true, true, true, true, true, true, true, true, false, false, false, false] rfl rfl (by kernel_rfl) (by decide) (fun K hK => ?_)
  refine goes_ Tryd.func24 (by kernel_rfl) rfl #[.agg #[.int .i64 R, .int .i64 C], .slice A l.length c] (by rfl) rfl rfl (by simp only [List.map_toArray, List.map_cons, List.map_nil]; rfl) ?_
  with_reducible refine (made_no A c l R C _ HN.out (HT0.out.below hHeld.2.2.out.1)).mono ?_
  rintro e w5 ⟨rfl, hb⟩
  refine ⟨_, rfl, ?_⟩
  have nB := below_then hHeld.2.2.out.1 hHeld.2.2.out.1.size hb
  have nS := hHeld.2.2.out.2.below hb
  clear hHeld hb
  refine hK.out _ _ ⟨nS.cell 0, nS.cell 1, ⟨nB, nS⟩⟩ (fun hHeld => ?_)
  clear hK K
  refine norm_ (a' := ?_) ?_ ?_
  rotate_left
  · show Act.put _ (some 27) _ = _
    simp only [Act.put, List.setIfInBounds_toArray, List.set_cons_zero, List.set_cons_succ, i64_w, i32_w]
    rfl
  refine pure_ (i := 12) (N := some 9) (v := ?_) (a' := ?_) #[true, true, true, true, true, true, true, true, true, true, true, true, true, false, false, false] rfl rfl (by kernel_rfl) (fun _ _ _ h => h) (Or.inl ⟨by rfl, ?_⟩) ?_ ?_
  rotate_left
  · intro w'
    go_simp
    with_reducible rfl
  rotate_left
  · simp only [Act.put, List.setIfInBounds_toArray, List.set_cons_zero, List.set_cons_succ, i64_w, i32_w]
    rfl
  refine pure_ (i := 13) (N := some 10) (v := ?_) (a' := ?_) #[true, true, true, true, true, true, true, true, true, true, true, true, true, true, false, false] rfl rfl (by kernel_rfl) (fun _ _ _ h => h) (Or.inl ⟨by rfl, ?_⟩) ?_ ?_
  rotate_left
  · intro w'
    go_simp
    with_reducible rfl
  rotate_left
  · simp only [Act.put, List.setIfInBounds_toArray, List.set_cons_zero, List.set_cons_succ, i64_w, i32_w]
    rfl
  refine pure_ (i := 14) (N := some 11) (v := ?_) (a' := ?_) #[true, true, true, true, true, true, true, true, true, true, true, true, true, true, true, false] rfl rfl (by kernel_rfl) (fun _ _ _ h => h) (Or.inl ⟨by rfl, ?_⟩) ?_ ?_
  rotate_left
  · intro w'
    go_simp
    with_reducible rfl
  rotate_left
  · simp only [Act.put, List.setIfInBounds_toArray, List.set_cons_zero, List.set_cons_succ, i64_w, i32_w]
    rfl
  refine pure_ (i := 15) (N := some 12) (v := ?_) (a' := ?_) #[true, true, true, true, true, true, true, true, true, true, true, true, true, true, true, true] rfl rfl (by kernel_rfl) (fun _ _ _ h => h) (Or.inl ⟨by rfl, ?_⟩) ?_ ?_
  rotate_left
  · intro w'
    go_simp
    with_reducible rfl
  rotate_left
  · simp only [Act.put, List.setIfInBounds_toArray, List.set_cons_zero, List.set_cons_succ, i64_w, i32_w]
    rfl
  refine done_ (by kernel_rfl) ?_
  clear hHeld
  go_wp2
  go_ret
  exact ⟨rfl, nB⟩
set_option maxHeartbeats 16000000 in
theorem mo_yes (A : Option Addr) (c : Nat) (l : List Int) (R C a b n : Nat) (rows cols : Int) (w : World) (hl : In w A c l) (hWl : Ws l) (hln : l.length = n) (hsh : Sh R C a b n) (HN64 : n ≤ 64) (hT : TabOK w) :
    Calls Tryd.prog 9 #[.agg #[.int .i64 (R : Int), .int .i64 (C : Int)], .slice A n c, .int .i64 rows, .int .i64 cols] w fun e w' => e = .returned (.bool true) ∧ Below w.heap.size w w' := by
  have hp : 0 < n := by rw [hsh.pow]; exact Nat.two_pow_pos _
  have HGo := Aside0.mk (show GoodS (R : Int) (C : Int) ∧ (R : Int) * (C : Int) = (n : Int) from ⟨hsh.good, by rw [← Int.natCast_mul, hsh.n]⟩)
  have HSh := Aside0.mk hsh
  have HWl := Aside0.mk hWl
  have hcl : (can l).length = n := by rw [can_len, hln]
  have hxc : (tl (C * R) (tps (can l) R C)).length = n := by rw [tl_len, Nat.mul_comm, hsh.n]
  have e3 : ((C : Int) == (C : Int) && ((R : Int) == (R : Int))) = true := by simp
  clear hWl hsh
  have HT0 := Aside0.mk hT
  have HB := Aside0.mk (below_alloc (Below.refl w.heap.size w) (Obj.cells #[.int .i64 (R : Int), .int .i64 (C : Int)] 23))
  have HS := Aside0.mk (Bk.new w 23 [.int .i64 (R : Int), .int .i64 (C : Int)])
  have HL0 := Aside0.mk hl
  obtain ⟨bs, hbs⟩ : ∃ z, z = w.heap.size := ⟨_, rfl⟩
  have hbg : w.heap.size ≤ bs := by omega
  clear hT hl
  go_enter Tryd.func9, Tryd.ntmps9
  go_wp2_with fail
  with_reducible refine (gawake _ (HT0.out.below HB.out)).mono ?_
  rintro e w1 ⟨rfl, hb⟩
  rw [← hbs] at HS ⊢
  clear hbs
  have HB1 := Aside0.mk (below_then HB.out HB.out.size hb)
  have HS1 := Aside0.mk (HS.out.below hb)
  clear hb HB HS
  go_wp2_with fail
  refine start_ (n := 16) (S := fun w' => w'.cell? ⟨bs, 0, none⟩ = some (.int .i64 (R : Int)) ∧ w'.cell? ⟨bs, 1, none⟩ = some (.int .i64 (C : Int)) ∧ Aside0 (Below w.heap.size w w' ∧ Bk w' bs 23 [.int .i64 (R : Int), .int .i64 (C : Int)])) (ds := []) #[false, false, false, false, false, false, false, false, false, false, false, false, false, false, false, false] (by kernel_rfl) rfl rfl ⟨HS1.out.drew.cell 0, HS1.out.drew.cell 1, ⟨below_drew1 HB1.out, HS1.out.drew⟩⟩ (fun hHeld => ?_)
  refine pure_ (i := 1) (N := some 17) (v := ?_) (a' := ?_) #[false, true, false, false, false, false, false, false, false, false, false, false, false, false, false, false] rfl rfl (by kernel_rfl) (fun _ _ _ h => h) (Or.inl ⟨by rfl, ?_⟩) ?_ ?_
  rotate_left
  · intro w'
    go_simp
    with_reducible rfl
  rotate_left
  · simp only [Act.put, List.setIfInBounds_toArray, List.set_cons_zero, List.set_cons_succ, i64_w, i32_w]
    rfl
  refine pure_ (i := 4) (N := some 20) (v := ?_) (a' := ?_) #[false, true, false, false, true, false, false, false, false, false, false, false, false, false, false, false] rfl rfl (by kernel_rfl) (fun _ _ _ h => h) (Or.inl ⟨by rfl, ?_⟩) ?_ ?_
  rotate_left
  · intro w'
    go_simp
    with_reducible rfl
  rotate_left
  · simp only [Act.put, List.setIfInBounds_toArray, List.set_cons_zero, List.set_cons_succ, i64_w, i32_w]
    rfl
  refine pure_ (i := 7) (N := some 23) (v := ?_) (a' := ?_) #[false, true, false, false, true, false, false, true, false, false, false, false, false, false, false, false] rfl rfl (by kernel_rfl) (fun _ _ _ h => h) (Or.inl ⟨by rfl, ?_⟩) ?_ ?_
  rotate_left
  · intro w'
    go_simp
    with_reducible rfl
  rotate_left
  · simp only [Act.put, List.setIfInBounds_toArray, List.set_cons_zero, List.set_cons_succ, i64_w, i32_w]
    rfl
  refine pure_ (i := 10) (N := some 26) (v := ?_) (a' := ?_) #[false, true, false, false, true, false, false, true, false, false, true, false, false, false, false, false] rfl rfl (by kernel_rfl) (fun _ _ _ h => h) (Or.inl ⟨by rfl, ?_⟩) ?_ ?_
  rotate_left
  · intro w'
    go_simp
    with_reducible rfl
  rotate_left
  · simp only [Act.put, List.setIfInBounds_toArray, List.set_cons_zero, List.set_cons_succ, i64_w, i32_w]
    rfl
  refine take_ (i := 0) (N := some 16) (v := ?_) (a' := ?_) #[true, true, false, false, true, false, false, true, false, false, true, false, false, false, false, false] rfl rfl (by kernel_rfl) (fun _ _ _ h => h) (Or.inl ⟨by rfl, ?_⟩) hHeld ?_ ?_
  rotate_left
  · rintro w' ⟨s0, s1, s2⟩
    go_simp
    with_reducible rfl
  rotate_left
  · simp only [Act.put, List.setIfInBounds_toArray, List.set_cons_zero, List.set_cons_succ, i64_w, i32_w]
    rfl
  refine take_ (i := 3) (N := some 19) (v := ?_) (a' := ?_) #[true, true, false, true, true, false, false, true, false, false, true, false, false, false, false, false] rfl rfl (by kernel_rfl) (fun _ _ _ h => h) (Or.inl ⟨by rfl, ?_⟩) hHeld ?_ ?_
  rotate_left
  · rintro w' ⟨s0, s1, s2⟩
    go_simp
    with_reducible rfl
  rotate_left
  · simp only [Act.put, List.setIfInBounds_toArray, List.set_cons_zero, List.set_cons_succ, i64_w, i32_w]
    rfl
  refine take_ (i := 6) (N := some 22) (v := ?_) (a' := ?_) #[true, true, false, true, true, false, true, true, false, false, true, false, false, false, false, false] rfl rfl (by kernel_rfl) (fun _ _ _ h => h) (Or.inl ⟨by rfl, ?_⟩) hHeld ?_ ?_
  rotate_left
  · rintro w' ⟨s0, s1, s2⟩
    go_simp
    with_reducible rfl
  rotate_left
  · simp only [Act.put, List.setIfInBounds_toArray, List.set_cons_zero, List.set_cons_succ, i64_w, i32_w]
    rfl
  refine take_ (i := 9) (N := some 25) (v := ?_) (a' := ?_) #[true, true, false, true, true, false, true, true, false, true, true, false, false, false, false, false] rfl rfl (by kernel_rfl) (fun _ _ _ h => h) (Or.inl ⟨by rfl, ?_⟩) hHeld ?_ ?_
  rotate_left
  · rintro w' ⟨s0, s1, s2⟩
    go_simp
    with_reducible rfl
  rotate_left
  · simp only [Act.put, List.setIfInBounds_toArray, List.set_cons_zero, List.set_cons_succ, i64_w, i32_w]
    rfl
  refine one_ (i := 2) (N := some 18) #[true, true, true, true, true, false, true, true, false, true, true, false, false, false, false, false] rfl rfl (by kernel_rfl) (by decide) (fun K hK => ?_)
  refine goes_ Tryd.func24 (by kernel_rfl) rfl #[.agg #[.int .i64 (R : Int), .int .i64 (C : Int)], .slice A n c] (by rfl) rfl rfl (by simp only [List.map_toArray, List.map_cons, List.map_nil]; rfl) ?_
  with_reducible refine (made_n A c l n (R : Int) (C : Int) _ (HL0.out.below hHeld.2.2.out.1) HWl.out hln HN64 hp HGo.out.1 HGo.out.2 (HT0.out.below hHeld.2.2.out.1)).mono ?_
  rintro e w2 ⟨pa, ga, ca, rfl, hg, hb, hpl, hgl⟩
  refine ⟨_, rfl, ?_⟩
  have nB := below_then hHeld.2.2.out.1 hHeld.2.2.out.1.size hb
  have nS := hHeld.2.2.out.2.below hb
  have Ka2 := Aside0.mk hg
  have La := Aside0.mk (show w.heap.size ≤ pa ∧ w.heap.size ≤ ga by have h1 := hHeld.2.2.out.1.size; omega)
  clear hg hpl hgl
  clear hHeld hb
  refine hK.out _ _ ⟨nS.cell 0, nS.cell 1, ⟨nB, nS⟩⟩ (fun hHeld => ?_)
  clear hK K
  refine norm_ (a' := ?_) ?_ ?_
  rotate_left
  · show Act.put _ (some 18) _ = _
    simp only [Act.put, List.setIfInBounds_toArray, List.set_cons_zero, List.set_cons_succ, i64_w, i32_w]
    rfl
  refine one_ (i := 5) (N := some 21) #[true, true, true, true, true, true, true, true, false, true, true, false, false, false, false, false] rfl rfl (by kernel_rfl) (by decide) (fun K hK => ?_)
  refine goes_ Tryd.func24 (by kernel_rfl) rfl #[.agg #[.int .i64 (R : Int), .int .i64 (C : Int)], .slice A n c] (by rfl) rfl rfl (by simp only [List.map_toArray, List.map_cons, List.map_nil]; rfl) ?_
  with_reducible refine (made_n A c l n (R : Int) (C : Int) _ (HL0.out.below hHeld.2.2.out.1) HWl.out hln HN64 hp HGo.out.1 HGo.out.2 (HT0.out.below hHeld.2.2.out.1)).mono ?_
  rintro e w3 ⟨pb, gb, cb, rfl, hg, hb, hpl, hgl⟩
  refine ⟨_, rfl, ?_⟩
  have nB := below_then hHeld.2.2.out.1 hHeld.2.2.out.1.size hb
  have nS := hHeld.2.2.out.2.below hb
  have Kb3 := Aside0.mk hg
  have Ka3 := Aside0.mk (Ka2.out.below hb)
  have Lb := Aside0.mk (show w.heap.size ≤ pb ∧ w.heap.size ≤ gb ∧ pa ≠ pb ∧ ga ≠ gb by have h1 := hHeld.2.2.out.1.size; have ha1 := Ka2.out.lp; have ha2 := Ka2.out.lg; omega)
  clear hg hpl hgl Ka2
  clear hHeld hb
  refine hK.out _ _ ⟨nS.cell 0, nS.cell 1, ⟨nB, nS⟩⟩ (fun hHeld => ?_)
  clear hK K
  refine norm_ (a' := ?_) ?_ ?_
  rotate_left
  · show Act.put _ (some 21) _ = _
    simp only [Act.put, List.setIfInBounds_toArray, List.set_cons_zero, List.set_cons_succ, i64_w, i32_w]
    rfl
  refine one_ (i := 8) (N := some 24) #[true, true, true, true, true, true, true, true, true, true, true, false, false, false, false, false] rfl rfl (by kernel_rfl) (by decide) (fun K hK => ?_)
  refine goes_ Tryd.func24 (by kernel_rfl) rfl #[.agg #[.int .i64 (R : Int), .int .i64 (C : Int)], .slice A n c] (by rfl) rfl rfl (by simp only [List.map_toArray, List.map_cons, List.map_nil]; rfl) ?_
  with_reducible refine (made_n A c l n (R : Int) (C : Int) _ (HL0.out.below hHeld.2.2.out.1) HWl.out hln HN64 hp HGo.out.1 HGo.out.2 (HT0.out.below hHeld.2.2.out.1)).mono ?_
  rintro e w4 ⟨pc, gc, cc, rfl, hg, hb, hpl, hgl⟩
  refine ⟨_, rfl, ?_⟩
  have nB := below_then hHeld.2.2.out.1 hHeld.2.2.out.1.size hb
  have nS := hHeld.2.2.out.2.below hb
  have Kc4 := Aside0.mk hg
  have Ka4 := Aside0.mk (Ka3.out.below hb)
  have Kb4 := Aside0.mk (Kb3.out.below hb)
  have Lc := Aside0.mk (show w.heap.size ≤ pc ∧ w.heap.size ≤ gc ∧ pa ≠ pc ∧ ga ≠ gc ∧ pb ≠ pc ∧ gb ≠ gc by have h1 := hHeld.2.2.out.1.size; have ha1 := Ka3.out.lp; have ha2 := Ka3.out.lg; have hb1 := Kb3.out.lp; have hb2 := Kb3.out.lg; omega)
  clear hg hpl hgl Ka3 Kb3
  clear hHeld hb
  refine hK.out _ _ ⟨nS.cell 0, nS.cell 1, ⟨nB, nS⟩⟩ (fun hHeld => ?_)
  clear hK K
  refine norm_ (a' := ?_) ?_ ?_
  rotate_left
  · show Act.put _ (some 24) _ = _
    simp only [Act.put, List.setIfInBounds_toArray, List.set_cons_zero, List.set_cons_succ, i64_w, i32_w]
    rfl
  refine one_ (i := 11) (N := some 27) #[true, true, true, true, true, true, true, true, true, true, true, true, false, false, false, false] rfl rfl (by kernel_rfl) (by decide) (fun K hK => ?_)
  refine goes_ Tryd.func24 (by kernel_rfl) rfl #[.agg #[.int .i64 (R : Int), .int .i64 (C : Int)], .slice A n c] (by rfl) rfl rfl (by simp only [List.map_toArray, List.map_cons, List.map_nil]; rfl) ?_
  with_reducible refine (made_n A c l n (R : Int) (C : Int) _ (HL0.out.below hHeld.2.2.out.1) HWl.out hln HN64 hp HGo.out.1 HGo.out.2 (HT0.out.below hHeld.2.2.out.1)).mono ?_
  rintro e w5 ⟨pd, gd, cd, rfl, hg, hb, hpl, hgl⟩
  refine ⟨_, rfl, ?_⟩
  have nB := below_then hHeld.2.2.out.1 hHeld.2.2.out.1.size hb
  have nS := hHeld.2.2.out.2.below hb
  have Kd5 := Aside0.mk hg
  have Ka5 := Aside0.mk (Ka4.out.below hb)
  have Kb5 := Aside0.mk (Kb4.out.below hb)
  have Kc5 := Aside0.mk (Kc4.out.below hb)
  have Ld := Aside0.mk (show w.heap.size ≤ pd ∧ w.heap.size ≤ gd ∧ pa ≠ pd ∧ ga ≠ gd ∧ pb ≠ pd ∧ gb ≠ gd ∧ pc ≠ pd ∧ gc ≠ gd by have h1 := hHeld.2.2.out.1.size; have ha1 := Ka4.out.lp; have ha2 := Ka4.out.lg; have hb1 := Kb4.out.lp; have hb2 := Kb4.out.lg; have hc1 := Kc4.out.lp; have hc2 := Kc4.out.lg; omega)
  clear hg hpl hgl Ka4 Kb4 Kc4
  clear hHeld hb
  refine hK.out _ _ ⟨nS.cell 0, nS.cell 1, ⟨nB, nS⟩⟩ (fun hHeld => ?_)
  clear hK K
  refine norm_ (a' := ?_) ?_ ?_
  rotate_left
  · show Act.put _ (some 27) _ = _
    simp only [Act.put, List.setIfInBounds_toArray, List.set_cons_zero, List.set_cons_succ, i64_w, i32_w]
    rfl
  refine pure_ (i := 12) (N := some 9) (v := ?_) (a' := ?_) #[true, true, true, true, true, true, true, true, true, true, true, true, true, false, false, false] rfl rfl (by kernel_rfl) (fun _ _ _ h => h) (Or.inl ⟨by rfl, ?_⟩) ?_ ?_
  rotate_left
  · intro w'
    go_simp
    with_reducible rfl
  rotate_left
  · simp only [Act.put, List.setIfInBounds_toArray, List.set_cons_zero, List.set_cons_succ, i64_w, i32_w]
    rfl
  refine pure_ (i := 13) (N := some 10) (v := ?_) (a' := ?_) #[true, true, true, true, true, true, true, true, true, true, true, true, true, true, false, false] rfl rfl (by kernel_rfl) (fun _ _ _ h => h) (Or.inl ⟨by rfl, ?_⟩) ?_ ?_
  rotate_left
  · intro w'
    go_simp
    with_reducible rfl
  rotate_left
  · simp only [Act.put, List.setIfInBounds_toArray, List.set_cons_zero, List.set_cons_succ, i64_w, i32_w]
    rfl
  refine pure_ (i := 14) (N := some 11) (v := ?_) (a' := ?_) #[true, true, true, true, true, true, true, true, true, true, true, true, true, true, true, false] rfl rfl (by kernel_rfl) (fun _ _ _ h => h) (Or.inl ⟨by rfl, ?_⟩) ?_ ?_
  rotate_left
  · intro w'
    go_simp
    with_reducible rfl
  rotate_left
  · simp only [Act.put, List.setIfInBounds_toArray, List.set_cons_zero, List.set_cons_succ, i64_w, i32_w]
    rfl
  refine pure_ (i := 15) (N := some 12) (v := ?_) (a' := ?_) #[true, true, true, true, true, true, true, true, true, true, true, true, true, true, true, true] rfl rfl (by kernel_rfl) (fun _ _ _ h => h) (Or.inl ⟨by rfl, ?_⟩) ?_ ?_
  rotate_left
  · intro w'
    go_simp
    with_reducible rfl
  rotate_left
  · simp only [Act.put, List.setIfInBounds_toArray, List.set_cons_zero, List.set_cons_succ, i64_w, i32_w]
    rfl
  refine done_ (by kernel_rfl) ?_
  clear hHeld
  clear HB1 HS1
  have HB5 := Aside0.mk nB
  have HS5 := Aside0.mk nS
  clear nB nS
  go_wp2_with fail
  with_reducible refine (canon_mr A c l n _ (HL0.out.below HB5.out) HWl.out (by omega) hln hp).mono ?_
  rintro e w6 ⟨gx, cx, rfl, hm, hb, hge⟩
  have HX6 := Aside0.mk (show Mo w w6 pa ga ca pb gb cb pc gc cc pd gd cd gx cx bs (R : Int) (C : Int) (R : Int) (C : Int) (R : Int) (C : Int) (can l) (can l) (can l) (can l) (can l) from ⟨below_then HB5.out HB5.out.size hb, HS5.out.below hb, hm, Ka5.out.below hb, Kb5.out.below hb, Kc5.out.below hb, Kd5.out.below hb, Lb.out.2.2.1, Lb.out.2.2.2, Lc.out.2.2.1, Lc.out.2.2.2.1, Ld.out.2.2.1, Ld.out.2.2.2.1, Lc.out.2.2.2.2.1, Lc.out.2.2.2.2.2, Ld.out.2.2.2.2.1, Ld.out.2.2.2.2.2.1, Ld.out.2.2.2.2.2.2.1, Ld.out.2.2.2.2.2.2.2, La.out.1, La.out.2, (fun e => absurd hge (by have := Ka5.out.lg; omega)), Lb.out.1, Lb.out.2.1, (fun e => absurd hge (by have := Kb5.out.lg; omega)), Lc.out.1, Lc.out.2.1, (fun e => absurd hge (by have := Kc5.out.lg; omega)), Ld.out.1, Ld.out.2.1, (fun e => absurd hge (by have := Kd5.out.lg; omega))⟩)
  clear hb hm hge Ka5 Kb5 Kc5 Kd5 La Lb Lc Ld HB5 HS5
  go_wp2_with fail
  have ht := gmove a b R C pa ga ca (can l) rows cols HSh.out.r HSh.out.c HSh.out.ab (by rw [hcl]; exact HSh.out.n) _ HX6.out.a
  with_reducible refine ht.mono ?_
  clear ht
  rintro e w7 ⟨rfl, ga2, ca2, u, v, hg, hf, hh, hu, hv, hu2, hv2⟩
  rw [hcl, mv_same HSh.out (can l) hcl u v hu hv] at hg
  have HX7 := Aside0.mk (HX6.out.fpa hf hg hh)
  have HUV := Aside0.mk (show (u : Int) = rows % (R : Int) ∧ (v : Int) = cols % (C : Int) from ⟨hu2, hv2⟩)
  clear hg hf hh HX6 hu hv hu2 hv2
  go_wp2_with fail
  have ht := gflip a b R C pb gb cb (can l) HSh.out.r HSh.out.c HSh.out.ab (by rw [hcl]; exact HSh.out.n) _ HX7.out.b
  with_reducible refine ht.mono ?_
  clear ht
  rintro e w8 ⟨rfl, gb2, cb2, hg, hf, hh⟩
  rw [hcl, fl_same HSh.out (can l) hcl] at hg
  have HX8 := Aside0.mk (HX7.out.fpb hf hg hh)
  clear hg hf hh HX7
  go_wp2_with fail
  have ht := gturn R C pc gc cc (can l) HGo.out.1 HSh.out.cle (by rw [hcl]; exact HSh.out.n) (by rw [hcl]; exact hp) (by omega) _ HX8.out.c (HT0.out.below HX8.out.be)
  with_reducible refine ht.mono ?_
  clear ht
  rintro e w9 ⟨rfl, gc2, cc2, hg, hf, hh⟩
  have HX9 := Aside0.mk (HX8.out.fpc hf hg hh)
  clear hg hf hh HX8
  obtain ⟨xm, hxm⟩ : ∃ z, z = plc (can l) (can l) (mvp a b u v) n := ⟨_, rfl⟩
  obtain ⟨xf, hxf⟩ : ∃ z, z = plc (can l) (can l) (flp a b) n := ⟨_, rfl⟩
  obtain ⟨xt, hxt⟩ : ∃ z, z = tl (C * R) (tps (can l) R C) := ⟨_, rfl⟩
  have hml : xm.length = n := by rw [hxm, plc_len, hcl]
  have hfl : xf.length = n := by rw [hxf, plc_len, hcl]
  have htl : xt.length = n := by rw [hxt]; exact hxc
  have hwt : Ws xt := by rw [hxt]; exact tp_ws (can_ws l) R C
  have hwf : Ws xf := by rw [hxf]; exact plc_ws (can_ws l) (can_ws l) _ _
  rw [← hxm, ← hxf, ← hxt] at HX9
  have HXM := Aside0.mk hxm
  have HXF := Aside0.mk hxf
  have HXT := Aside0.mk hxt
  have HWt := Aside0.mk hwt
  have HWf := Aside0.mk hwf
  clear hxm hxf hxt hxc hwt hwf
  go_wp2_with fail
  refine start_ (n := 39) (S := fun w' => w'.cell? ⟨bs, 0, none⟩ = some (.int .i64 (R : Int)) ∧ w'.cell? ⟨bs, 1, none⟩ = some (.int .i64 (C : Int)) ∧ Aside0 (Mo w w' pa ga2 ca2 pb gb2 cb2 pc gc2 cc2 pd gd cd gx cx bs (R : Int) (C : Int) (C : Int) (R : Int) (R : Int) (C : Int) xm xf xt (can l) (can l))) (ds := []) #[false, false, false, false, false, false, false, false, false, false, false, false, false, false, false, false, false, false, false, false, false, false, false, false, false, false, false, false, false, false, false, false, false, false, false, false, false, false, false] (by kernel_rfl) rfl rfl ⟨HX9.out.drew.sh.cell 0, HX9.out.drew.sh.cell 1, ⟨HX9.out.drew⟩⟩ (fun hHeld => ?_)
  refine pure_ (i := 0) (N := some 52) (v := ?_) (a' := ?_) #[true, false, false, false, false, false, false, false, false, false, false, false, false, false, false, false, false, false, false, false, false, false, false, false, false, false, false, false, false, false, false, false, false, false, false, false, false, false, false] rfl rfl (by kernel_rfl) (fun _ _ _ h => h) (Or.inl ⟨by rfl, ?_⟩) ?_ ?_
  rotate_left
  · intro w'
    go_simp
    with_reducible rfl
  rotate_left
  · simp only [Act.put, List.setIfInBounds_toArray, List.set_cons_zero, List.set_cons_succ, i64_w, i32_w]
    rfl
  refine pure_ (i := 2) (N := some 54) (v := ?_) (a' := ?_) #[true, false, true, false, false, false, false, false, false, false, false, false, false, false, false, false, false, false, false, false, false, false, false, false, false, false, false, false, false, false, false, false, false, false, false, false, false, false, false] rfl rfl (by kernel_rfl) (fun _ _ _ h => h) (Or.inl ⟨by rfl, ?_⟩) ?_ ?_
  rotate_left
  · intro w'
    go_simp
    with_reducible rfl
  rotate_left
  · simp only [Act.put, List.setIfInBounds_toArray, List.set_cons_zero, List.set_cons_succ, i64_w, i32_w]
    rfl
  refine pure_ (i := 4) (N := some 56) (v := ?_) (a' := ?_) #[true, false, true, false, true, false, false, false, false, false, false, false, false, false, false, false, false, false, false, false, false, false, false, false, false, false, false, false, false, false, false, false, false, false, false, false, false, false, false] rfl rfl (by kernel_rfl) (fun _ _ _ h => h) (Or.inl ⟨by rfl, ?_⟩) ?_ ?_
  rotate_left
  · intro w'
    go_simp
    with_reducible rfl
  rotate_left
  · simp only [Act.put, List.setIfInBounds_toArray, List.set_cons_zero, List.set_cons_succ, i64_w, i32_w]
    rfl
  refine pure_ (i := 5) (N := some 57) (v := ?_) (a' := ?_) #[true, false, true, false, true, true, false, false, false, false, false, false, false, false, false, false, false, false, false, false, false, false, false, false, false, false, false, false, false, false, false, false, false, false, false, false, false, false, false] rfl rfl (by kernel_rfl) (fun _ _ _ h => h) (Or.inl ⟨by rfl, ?_⟩) ?_ ?_
  rotate_left
  · intro w'
    go_simp
    with_reducible rfl
  rotate_left
  · simp only [Act.put, List.setIfInBounds_toArray, List.set_cons_zero, List.set_cons_succ, i64_w, i32_w]
    rfl
  refine take_ (i := 3) (N := some 55) (v := ?_) (a' := ?_) #[true, false, true, true, true, true, false, false, false, false, false, false, false, false, false, false, false, false, false, false, false, false, false, false, false, false, false, false, false, false, false, false, false, false, false, false, false, false, false] rfl rfl (by kernel_rfl) (fun _ _ _ h => h) (Or.inl ⟨by rfl, ?_⟩) hHeld ?_ ?_
  rotate_left
  · rintro w' ⟨s0, s1, s2⟩
    go_simp
    with_reducible rfl
  rotate_left
  · simp only [Act.put, List.setIfInBounds_toArray, List.set_cons_zero, List.set_cons_succ, i64_w, i32_w]
    rfl
  refine one_ (i := 1) (N := some 53) #[true, true, true, true, true, true, false, false, false, false, false, false, false, false, false, false, false, false, false, false, false, false, false, false, false, false, false, false, false, false, false, false, false, false, false, false, false, false, false] rfl rfl (by kernel_rfl) (by decide) (fun K hK => ?_)
  refine goes_ Tryd.func20 (by kernel_rfl) rfl #[.pointer (some ⟨pa, 0, none⟩)] (by rfl) rfl rfl (by simp only [List.map_toArray, List.map_cons, List.map_nil]; rfl) ?_
  with_reducible refine (words_n pa ga2 ca2 n (R : Int) (C : Int) xm _ hHeld.2.2.out.a hml hp (by omega)).mono ?_
  rintro e w10 ⟨h, dh, rfl, hm, hb⟩
  refine ⟨_, rfl, ?_⟩
  have HX10 := Aside0.mk (hHeld.2.2.out.below hb)
  have HM10 := Aside0.mk hm
  clear hHeld hb hm
  refine hK.out _ _ ⟨HX10.out.sh.cell 0, HX10.out.sh.cell 1, HX10⟩ (fun hHeld => ?_)
  clear hK K
  refine norm_ (a' := ?_) ?_ ?_
  rotate_left
  · show Act.put _ (some 53) _ = _
    simp only [Act.put, List.setIfInBounds_toArray, List.set_cons_zero, List.set_cons_succ, i64_w, i32_w]
    rfl
  refine one_ (i := 6) (N := some 58) #[true, true, true, true, true, true, true, false, false, false, false, false, false, false, false, false, false, false, false, false, false, false, false, false, false, false, false, false, false, false, false, false, false, false, false, false, false, false, false] rfl rfl (by kernel_rfl) (by decide) (fun K hK => ?_)
  have hcr := mv32_calls HSh.out (some ⟨gx, 0, none⟩) cx (can l) rows cols u v HUV.out.1 HUV.out.2 _ (In.of_mr hHeld.2.2.out.x (by omega)) hcl
  rw [← HXM.out] at hcr
  refine goes_ Tryd.func51 (by kernel_rfl) rfl #[.slice (some ⟨gx, 0, none⟩) n cx, .agg #[.int .i64 (R : Int), .int .i64 (C : Int)], .int .i64 rows, .int .i64 cols] (by rfl) rfl rfl (by simp only [List.map_toArray, List.map_cons, List.map_nil]; rfl) ?_
  with_reducible refine (hcr).mono ?_
  rintro e w11 ⟨B6, d6, rfl, hI, hb⟩
  refine ⟨_, rfl, ?_⟩
  clear hcr
  have HX11 := Aside0.mk (hHeld.2.2.out.below hb)
  have HM11 := Aside0.mk (HM10.out.below hb)
  have HC11 := Aside0.mk hI
  clear hHeld hb hI HM10
  refine hK.out _ _ ⟨HX11.out.sh.cell 0, HX11.out.sh.cell 1, HX11⟩ (fun hHeld => ?_)
  clear hK K
  refine norm_ (a' := ?_) ?_ ?_
  rotate_left
  · show Act.put _ (some 58) _ = _
    simp only [Act.put, List.setIfInBounds_toArray, List.set_cons_zero, List.set_cons_succ, i64_w, i32_w]
    rfl
  refine one_ (i := 7) (N := some 59) #[true, true, true, true, true, true, true, true, false, false, false, false, false, false, false, false, false, false, false, false, false, false, false, false, false, false, false, false, false, false, false, false, false, false, false, false, false, false, false] rfl rfl (by kernel_rfl) (by decide) (fun K hK => ?_)
  refine goes_ Tryd.func19 (by kernel_rfl) rfl #[.slice (some ⟨h, 0, none⟩) n dh, .slice B6 n d6] (by rfl) rfl rfl (by simp only [List.map_toArray, List.map_cons, List.map_nil]; rfl) ?_
  with_reducible refine (same_n (some ⟨h, 0, none⟩) B6 dh d6 n xm xm _ HM11.out HC11.out (by omega) hml rfl).mono ?_
  rintro e w12 ⟨rfl, hb⟩
  refine ⟨_, rfl, ?_⟩
  have HX12 := Aside0.mk (hHeld.2.2.out.below hb)
  clear hHeld hb HM11 HC11
  refine hK.out _ _ ⟨HX12.out.sh.cell 0, HX12.out.sh.cell 1, HX12⟩ (fun hHeld => ?_)
  clear hK K
  refine norm_ (a' := ?_) ?_ ?_
  rotate_left
  · show Act.put _ (some 59) _ = _
    simp only [Act.put, List.setIfInBounds_toArray, List.set_cons_zero, List.set_cons_succ, i64_w, i32_w]
    rfl
  refine pure_ (i := 8) (N := some 60) (v := ?_) (a' := ?_) #[true, true, true, true, true, true, true, true, true, false, false, false, false, false, false, false, false, false, false, false, false, false, false, false, false, false, false, false, false, false, false, false, false, false, false, false, false, false, false] rfl rfl (by kernel_rfl) (fun _ _ _ h => h) (Or.inl ⟨by rfl, ?_⟩) ?_ ?_
  rotate_left
  · intro w'
    go_simp
    with_reducible rfl
  rotate_left
  · simp only [Act.put, List.setIfInBounds_toArray, List.set_cons_zero, List.set_cons_succ, i64_w, i32_w]
    rfl
  refine pure_ (i := 9) (N := some 61) (v := ?_) (a' := ?_) #[true, true, true, true, true, true, true, true, true, true, false, false, false, false, false, false, false, false, false, false, false, false, false, false, false, false, false, false, false, false, false, false, false, false, false, false, false, false, false] rfl rfl (by kernel_rfl) (fun _ _ _ h => h) (Or.inl ⟨by rfl, ?_⟩) ?_ ?_
  rotate_left
  · intro w'
    go_simp
    with_reducible rfl
  rotate_left
  · simp only [Act.put, List.setIfInBounds_toArray, List.set_cons_zero, List.set_cons_succ, i64_w, i32_w]
    rfl
  refine pure_ (i := 10) (N := some 62) (v := ?_) (a' := ?_) #[true, true, true, true, true, true, true, true, true, true, true, false, false, false, false, false, false, false, false, false, false, false, false, false, false, false, false, false, false, false, false, false, false, false, false, false, false, false, false] rfl rfl (by kernel_rfl) (fun _ _ _ h => h) (Or.inl ⟨by rfl, ?_⟩) ?_ ?_
  rotate_left
  · intro w'
    go_simp
    with_reducible rfl
  rotate_left
  · simp only [Act.put, List.setIfInBounds_toArray, List.set_cons_zero, List.set_cons_succ, i64_w, i32_w]
    rfl
  refine pure_ (i := 12) (N := some 64) (v := ?_) (a' := ?_) #[true, true, true, true, true, true, true, true, true, true, true, false, true, false, false, false, false, false, false, false, false, false, false, false, false, false, false, false, false, false, false, false, false, false, false, false, false, false, false] rfl rfl (by kernel_rfl) (fun _ _ _ h => h) (Or.inl ⟨by rfl, ?_⟩) ?_ ?_
  rotate_left
  · intro w'
    go_simp
    with_reducible rfl
  rotate_left
  · simp only [Act.put, List.setIfInBounds_toArray, List.set_cons_zero, List.set_cons_succ, i64_w, i32_w]
    rfl
  refine take_ (i := 13) (N := some 65) (v := ?_) (a' := ?_) #[true, true, true, true, true, true, true, true, true, true, true, false, true, true, false, false, false, false, false, false, false, false, false, false, false, false, false, false, false, false, false, false, false, false, false, false, false, false, false] rfl rfl (by kernel_rfl) (fun _ _ _ h => h) (Or.inl ⟨by rfl, ?_⟩) hHeld ?_ ?_
  rotate_left
  · rintro w' ⟨s0, s1, s2⟩
    go_simp
    with_reducible rfl
  rotate_left
  · simp only [Act.put, List.setIfInBounds_toArray, List.set_cons_zero, List.set_cons_succ, i64_w, i32_w]
    rfl
  refine one_ (i := 11) (N := some 63) #[true, true, true, true, true, true, true, true, true, true, true, true, true, true, false, false, false, false, false, false, false, false, false, false, false, false, false, false, false, false, false, false, false, false, false, false, false, false, false] rfl rfl (by kernel_rfl) (by decide) (fun K hK => ?_)
  refine goes_ Tryd.func20 (by kernel_rfl) rfl #[.pointer (some ⟨pb, 0, none⟩)] (by rfl) rfl rfl (by simp only [List.map_toArray, List.map_cons, List.map_nil]; rfl) ?_
  with_reducible refine (words_n pb gb2 cb2 n (R : Int) (C : Int) xf _ hHeld.2.2.out.b hfl hp (by omega)).mono ?_
  rintro e w13 ⟨h, dh, rfl, hm, hb⟩
  refine ⟨_, rfl, ?_⟩
  have HX13 := Aside0.mk (hHeld.2.2.out.below hb)
  have HM13 := Aside0.mk hm
  clear hHeld hb hm
  refine hK.out _ _ ⟨HX13.out.sh.cell 0, HX13.out.sh.cell 1, HX13⟩ (fun hHeld => ?_)
  clear hK K
  refine norm_ (a' := ?_) ?_ ?_
  rotate_left
  · show Act.put _ (some 63) _ = _
    simp only [Act.put, List.setIfInBounds_toArray, List.set_cons_zero, List.set_cons_succ, i64_w, i32_w]
    rfl
  refine one_ (i := 14) (N := some 66) #[true, true, true, true, true, true, true, true, true, true, true, true, true, true, true, false, false, false, false, false, false, false, false, false, false, false, false, false, false, false, false, false, false, false, false, false, false, false, false] rfl rfl (by kernel_rfl) (by decide) (fun K hK => ?_)
  have hcr := fl32_calls HSh.out (some ⟨gx, 0, none⟩) cx (can l) _ (In.of_mr hHeld.2.2.out.x (by omega)) hcl
  rw [← HXF.out] at hcr
  refine goes_ Tryd.func52 (by kernel_rfl) rfl #[.slice (some ⟨gx, 0, none⟩) n cx, .agg #[.int .i64 (R : Int), .int .i64 (C : Int)]] (by rfl) rfl rfl (by simp only [List.map_toArray, List.map_cons, List.map_nil]; rfl) ?_
  with_reducible refine (hcr).mono ?_
  rintro e w14 ⟨B6, d6, rfl, hI, hb⟩
  refine ⟨_, rfl, ?_⟩
  clear hcr
  have HX14 := Aside0.mk (hHeld.2.2.out.below hb)
  have HM14 := Aside0.mk (HM13.out.below hb)
  have HC14 := Aside0.mk hI
  clear hHeld hb hI HM13
  refine hK.out _ _ ⟨HX14.out.sh.cell 0, HX14.out.sh.cell 1, HX14⟩ (fun hHeld => ?_)
  clear hK K
  refine norm_ (a' := ?_) ?_ ?_
  rotate_left
  · show Act.put _ (some 66) _ = _
    simp only [Act.put, List.setIfInBounds_toArray, List.set_cons_zero, List.set_cons_succ, i64_w, i32_w]
    rfl
  refine one_ (i := 15) (N := some 67) #[true, true, true, true, true, true, true, true, true, true, true, true, true, true, true, true, false, false, false, false, false, false, false, false, false, false, false, false, false, false, false, false, false, false, false, false, false, false, false] rfl rfl (by kernel_rfl) (by decide) (fun K hK => ?_)
  refine goes_ Tryd.func19 (by kernel_rfl) rfl #[.slice (some ⟨h, 0, none⟩) n dh, .slice B6 n d6] (by rfl) rfl rfl (by simp only [List.map_toArray, List.map_cons, List.map_nil]; rfl) ?_
  with_reducible refine (same_n (some ⟨h, 0, none⟩) B6 dh d6 n xf xf _ HM14.out HC14.out (by omega) hfl rfl).mono ?_
  rintro e w15 ⟨rfl, hb⟩
  refine ⟨_, rfl, ?_⟩
  have HX15 := Aside0.mk (hHeld.2.2.out.below hb)
  clear hHeld hb HM14 HC14
  refine hK.out _ _ ⟨HX15.out.sh.cell 0, HX15.out.sh.cell 1, HX15⟩ (fun hHeld => ?_)
  clear hK K
  refine norm_ (a' := ?_) ?_ ?_
  rotate_left
  · show Act.put _ (some 67) _ = _
    simp only [Act.put, List.setIfInBounds_toArray, List.set_cons_zero, List.set_cons_succ, i64_w, i32_w]
    rfl
  refine pure_ (i := 16) (N := some 68) (v := ?_) (a' := ?_) #[true, true, true, true, true, true, true, true, true, true, true, true, true, true, true, true, true, false, false, false, false, false, false, false, false, false, false, false, false, false, false, false, false, false, false, false, false, false, false] rfl rfl (by kernel_rfl) (fun _ _ _ h => h) (Or.inl ⟨by rfl, ?_⟩) ?_ ?_
  rotate_left
  · intro w'
    go_simp
    with_reducible rfl
  rotate_left
  · simp only [Act.put, List.setIfInBounds_toArray, List.set_cons_zero, List.set_cons_succ, i64_w, i32_w]
    rfl
  refine pure_ (i := 17) (N := some 69) (v := ?_) (a' := ?_) #[true, true, true, true, true, true, true, true, true, true, true, true, true, true, true, true, true, true, false, false, false, false, false, false, false, false, false, false, false, false, false, false, false, false, false, false, false, false, false] rfl rfl (by kernel_rfl) (fun _ _ _ h => h) (Or.inl ⟨by rfl, ?_⟩) ?_ ?_
  rotate_left
  · intro w'
    go_simp
    with_reducible rfl
  rotate_left
  · simp only [Act.put, List.setIfInBounds_toArray, List.set_cons_zero, List.set_cons_succ, i64_w, i32_w]
    rfl
  refine pure_ (i := 18) (N := some 70) (v := ?_) (a' := ?_) #[true, true, true, true, true, true, true, true, true, true, true, true, true, true, true, true, true, true, true, false, false, false, false, false, false, false, false, false, false, false, false, false, false, false, false, false, false, false, false] rfl rfl (by kernel_rfl) (fun _ _ _ h => h) (Or.inl ⟨by rfl, ?_⟩) ?_ ?_
  rotate_left
  · intro w'
    go_simp
    with_reducible rfl
  rotate_left
  · simp only [Act.put, List.setIfInBounds_toArray, List.set_cons_zero, List.set_cons_succ, i64_w, i32_w]
    rfl
  refine pure_ (i := 19) (N := some 71) (v := ?_) (a' := ?_) #[true, true, true, true, true, true, true, true, true, true, true, true, true, true, true, true, true, true, true, true, false, false, false, false, false, false, false, false, false, false, false, false, false, false, false, false, false, false, false] rfl rfl (by kernel_rfl) (fun _ _ _ h => h) (Or.inl ⟨by rfl, ?_⟩) ?_ ?_
  rotate_left
  · intro w'
    go_simp
    with_reducible rfl
  rotate_left
  · simp only [Act.put, List.setIfInBounds_toArray, List.set_cons_zero, List.set_cons_succ, i64_w, i32_w]
    rfl
  refine pure_ (i := 21) (N := some 73) (v := ?_) (a' := ?_) #[true, true, true, true, true, true, true, true, true, true, true, true, true, true, true, true, true, true, true, true, false, true, false, false, false, false, false, false, false, false, false, false, false, false, false, false, false, false, false] rfl rfl (by kernel_rfl) (fun _ _ _ h => h) (Or.inl ⟨by rfl, ?_⟩) ?_ ?_
  rotate_left
  · intro w'
    go_simp
    with_reducible rfl
  rotate_left
  · simp only [Act.put, List.setIfInBounds_toArray, List.set_cons_zero, List.set_cons_succ, i64_w, i32_w]
    rfl
  refine take_ (i := 22) (N := some 74) (v := ?_) (a' := ?_) #[true, true, true, true, true, true, true, true, true, true, true, true, true, true, true, true, true, true, true, true, false, true, true, false, false, false, false, false, false, false, false, false, false, false, false, false, false, false, false] rfl rfl (by kernel_rfl) (fun _ _ _ h => h) (Or.inl ⟨by rfl, ?_⟩) hHeld ?_ ?_
  rotate_left
  · rintro w' ⟨s0, s1, s2⟩
    go_simp
    with_reducible rfl
  rotate_left
  · simp only [Act.put, List.setIfInBounds_toArray, List.set_cons_zero, List.set_cons_succ, i64_w, i32_w]
    rfl
  refine one_ (i := 20) (N := some 72) #[true, true, true, true, true, true, true, true, true, true, true, true, true, true, true, true, true, true, true, true, true, true, true, false, false, false, false, false, false, false, false, false, false, false, false, false, false, false, false] rfl rfl (by kernel_rfl) (by decide) (fun K hK => ?_)
  refine goes_ Tryd.func20 (by kernel_rfl) rfl #[.pointer (some ⟨pc, 0, none⟩)] (by rfl) rfl rfl (by simp only [List.map_toArray, List.map_cons, List.map_nil]; rfl) ?_
  with_reducible refine (words_n pc gc2 cc2 n (C : Int) (R : Int) xt _ hHeld.2.2.out.c htl hp (by omega)).mono ?_
  rintro e w16 ⟨h, dh, rfl, hm, hb⟩
  refine ⟨_, rfl, ?_⟩
  have HX16 := Aside0.mk (hHeld.2.2.out.below hb)
  have HM16 := Aside0.mk hm
  clear hHeld hb hm
  refine hK.out _ _ ⟨HX16.out.sh.cell 0, HX16.out.sh.cell 1, HX16⟩ (fun hHeld => ?_)
  clear hK K
  refine norm_ (a' := ?_) ?_ ?_
  rotate_left
  · show Act.put _ (some 72) _ = _
    simp only [Act.put, List.setIfInBounds_toArray, List.set_cons_zero, List.set_cons_succ, i64_w, i32_w]
    rfl
  refine one_ (i := 23) (N := some 75) #[true, true, true, true, true, true, true, true, true, true, true, true, true, true, true, true, true, true, true, true, true, true, true, true, false, false, false, false, false, false, false, false, false, false, false, false, false, false, false] rfl rfl (by kernel_rfl) (by decide) (fun K hK => ?_)
  have hcr := tp06_calls HSh.out (some ⟨gx, 0, none⟩) cx (can l) _ (In.of_mr hHeld.2.2.out.x (by omega)) hcl
  rw [← HXT.out] at hcr
  refine goes_ Tryd.func53 (by kernel_rfl) rfl #[.slice (some ⟨gx, 0, none⟩) n cx, .agg #[.int .i64 (R : Int), .int .i64 (C : Int)]] (by rfl) rfl rfl (by simp only [List.map_toArray, List.map_cons, List.map_nil]; rfl) ?_
  with_reducible refine (hcr).mono ?_
  rintro e w17 ⟨B6, d6, rfl, hI, hb⟩
  refine ⟨_, rfl, ?_⟩
  clear hcr
  have HX17 := Aside0.mk (hHeld.2.2.out.below hb)
  have HM17 := Aside0.mk (HM16.out.below hb)
  have HC17 := Aside0.mk hI
  clear hHeld hb hI HM16
  refine hK.out _ _ ⟨HX17.out.sh.cell 0, HX17.out.sh.cell 1, HX17⟩ (fun hHeld => ?_)
  clear hK K
  refine norm_ (a' := ?_) ?_ ?_
  rotate_left
  · show Act.put _ (some 75) _ = _
    simp only [Act.put, List.setIfInBounds_toArray, List.set_cons_zero, List.set_cons_succ, i64_w, i32_w]
    rfl
  refine one_ (i := 24) (N := some 76) #[true, true, true, true, true, true, true, true, true, true, true, true, true, true, true, true, true, true, true, true, true, true, true, true, true, false, false, false, false, false, false, false, false, false, false, false, false, false, false] rfl rfl (by kernel_rfl) (by decide) (fun K hK => ?_)
  refine goes_ Tryd.func19 (by kernel_rfl) rfl #[.slice (some ⟨h, 0, none⟩) n dh, .slice B6 n d6] (by rfl) rfl rfl (by simp only [List.map_toArray, List.map_cons, List.map_nil]; rfl) ?_
  with_reducible refine (same_n (some ⟨h, 0, none⟩) B6 dh d6 n xt xt _ HM17.out HC17.out (by omega) htl rfl).mono ?_
  rintro e w18 ⟨rfl, hb⟩
  refine ⟨_, rfl, ?_⟩
  have HX18 := Aside0.mk (hHeld.2.2.out.below hb)
  clear hHeld hb HM17 HC17
  refine hK.out _ _ ⟨HX18.out.sh.cell 0, HX18.out.sh.cell 1, HX18⟩ (fun hHeld => ?_)
  clear hK K
  refine norm_ (a' := ?_) ?_ ?_
  rotate_left
  · show Act.put _ (some 76) _ = _
    simp only [Act.put, List.setIfInBounds_toArray, List.set_cons_zero, List.set_cons_succ, i64_w, i32_w]
    rfl
  refine pure_ (i := 25) (N := some 77) (v := ?_) (a' := ?_) #[true, true, true, true, true, true, true, true, true, true, true, true, true, true, true, true, true, true, true, true, true, true, true, true, true, true, false, false, false, false, false, false, false, false, false, false, false, false, false] rfl rfl (by kernel_rfl) (fun _ _ _ h => h) (Or.inl ⟨by rfl, ?_⟩) ?_ ?_
  rotate_left
  · intro w'
    go_simp
    with_reducible rfl
  rotate_left
  · simp only [Act.put, List.setIfInBounds_toArray, List.set_cons_zero, List.set_cons_succ, i64_w, i32_w]
    rfl
  refine pure_ (i := 26) (N := some 78) (v := ?_) (a' := ?_) #[true, true, true, true, true, true, true, true, true, true, true, true, true, true, true, true, true, true, true, true, true, true, true, true, true, true, true, false, false, false, false, false, false, false, false, false, false, false, false] rfl rfl (by kernel_rfl) (fun _ _ _ h => h) (Or.inl ⟨by rfl, ?_⟩) ?_ ?_
  rotate_left
  · intro w'
    go_simp
    with_reducible rfl
  rotate_left
  · simp only [Act.put, List.setIfInBounds_toArray, List.set_cons_zero, List.set_cons_succ, i64_w, i32_w]
    rfl
  refine pure_ (i := 27) (N := some 79) (v := ?_) (a' := ?_) #[true, true, true, true, true, true, true, true, true, true, true, true, true, true, true, true, true, true, true, true, true, true, true, true, true, true, true, true, false, false, false, false, false, false, false, false, false, false, false] rfl rfl (by kernel_rfl) (fun _ _ _ h => h) (Or.inl ⟨by rfl, ?_⟩) ?_ ?_
  rotate_left
  · intro w'
    go_simp
    with_reducible rfl
  rotate_left
  · simp only [Act.put, List.setIfInBounds_toArray, List.set_cons_zero, List.set_cons_succ, i64_w, i32_w]
    rfl
  refine pure_ (i := 28) (N := some 80) (v := ?_) (a' := ?_) #[true, true, true, true, true, true, true, true, true, true, true, true, true, true, true, true, true, true, true, true, true, true, true, true, true, true, true, true, true, false, false, false, false, false, false, false, false, false, false] rfl rfl (by kernel_rfl) (fun _ _ _ h => h) (Or.inl ⟨by rfl, ?_⟩) ?_ ?_
  rotate_left
  · intro w'
    go_simp
    with_reducible rfl
  rotate_left
  · simp only [Act.put, List.setIfInBounds_toArray, List.set_cons_zero, List.set_cons_succ, i64_w, i32_w]
    rfl
  refine pure_ (i := 29) (N := some 81) (v := ?_) (a' := ?_) #[true, true, true, true, true, true, true, true, true, true, true, true, true, true, true, true, true, true, true, true, true, true, true, true, true, true, true, true, true, true, false, false, false, false, false, false, false, false, false] rfl rfl (by kernel_rfl) (fun _ _ _ h => h) (Or.inl ⟨by rfl, ?_⟩) ?_ ?_
  rotate_left
  · intro w'
    go_simp
    with_reducible rfl
  rotate_left
  · simp only [Act.put, List.setIfInBounds_toArray, List.set_cons_zero, List.set_cons_succ, i64_w, i32_w]
    rfl
  refine pure_ (i := 30) (N := some 82) (v := ?_) (a' := ?_) #[true, true, true, true, true, true, true, true, true, true, true, true, true, true, true, true, true, true, true, true, true, true, true, true, true, true, true, true, true, true, true, false, false, false, false, false, false, false, false] rfl rfl (by kernel_rfl) (fun _ _ _ h => h) (Or.inl ⟨by rfl, ?_⟩) ?_ ?_
  rotate_left
  · intro w'
    go_simp
    with_reducible rfl
  rotate_left
  · simp only [Act.put, List.setIfInBounds_toArray, List.set_cons_zero, List.set_cons_succ, i64_w, i32_w]
    rfl
  refine pure_ (i := 32) (N := some 84) (v := ?_) (a' := ?_) #[true, true, true, true, true, true, true, true, true, true, true, true, true, true, true, true, true, true, true, true, true, true, true, true, true, true, true, true, true, true, true, false, true, false, false, false, false, false, false] rfl rfl (by kernel_rfl) (fun _ _ _ h => h) (Or.inl ⟨by rfl, ?_⟩) ?_ ?_
  rotate_left
  · intro w'
    go_simp
    with_reducible rfl
  rotate_left
  · simp only [Act.put, List.setIfInBounds_toArray, List.set_cons_zero, List.set_cons_succ, i64_w, i32_w]
    rfl
  refine pure_ (i := 34) (N := some 86) (v := ?_) (a' := ?_) #[true, true, true, true, true, true, true, true, true, true, true, true, true, true, true, true, true, true, true, true, true, true, true, true, true, true, true, true, true, true, true, false, true, false, true, false, false, false, false] rfl rfl (by kernel_rfl) (fun _ _ _ h => h) (Or.inl ⟨by rfl, ?_⟩) ?_ ?_
  rotate_left
  · intro w'
    go_simp
    with_reducible rfl
  rotate_left
  · simp only [Act.put, List.setIfInBounds_toArray, List.set_cons_zero, List.set_cons_succ, i64_w, i32_w]
    rfl
  refine take_ (i := 33) (N := some 85) (v := ?_) (a' := ?_) #[true, true, true, true, true, true, true, true, true, true, true, true, true, true, true, true, true, true, true, true, true, true, true, true, true, true, true, true, true, true, true, false, true, true, true, false, false, false, false] rfl rfl (by kernel_rfl) (fun _ _ _ h => h) (Or.inl ⟨by rfl, ?_⟩) hHeld ?_ ?_
  rotate_left
  · rintro w' ⟨s0, s1, s2⟩
    go_simp
    with_reducible rfl
  rotate_left
  · simp only [Act.put, List.setIfInBounds_toArray, List.set_cons_zero, List.set_cons_succ, i64_w, i32_w]
    rfl
  refine take_ (i := 35) (N := some 87) (v := ?_) (a' := ?_) #[true, true, true, true, true, true, true, true, true, true, true, true, true, true, true, true, true, true, true, true, true, true, true, true, true, true, true, true, true, true, true, false, true, true, true, true, false, false, false] rfl rfl (by kernel_rfl) (fun _ _ _ h => h) (Or.inl ⟨by rfl, ?_⟩) hHeld ?_ ?_
  rotate_left
  · rintro w' ⟨s0, s1, s2⟩
    go_simp
    with_reducible rfl
  rotate_left
  · simp only [Act.put, List.setIfInBounds_toArray, List.set_cons_zero, List.set_cons_succ, i64_w, i32_w]
    rfl
  refine pure_ (i := 36) (N := some 88) (v := ?_) (a' := ?_) #[true, true, true, true, true, true, true, true, true, true, true, true, true, true, true, true, true, true, true, true, true, true, true, true, true, true, true, true, true, true, true, false, true, true, true, true, true, false, false] rfl rfl (by kernel_rfl) (fun _ _ _ h => h) (Or.inl ⟨by rfl, ?_⟩) ?_ ?_
  rotate_left
  · intro w'
    go_simp
    with_reducible rfl
  rotate_left
  · simp only [Act.put, List.setIfInBounds_toArray, List.set_cons_zero, List.set_cons_succ, i64_w, i32_w]
    rfl
  refine one_ (i := 31) (N := some 83) #[true, true, true, true, true, true, true, true, true, true, true, true, true, true, true, true, true, true, true, true, true, true, true, true, true, true, true, true, true, true, true, true, true, true, true, true, true, false, false] rfl rfl (by kernel_rfl) (by decide) (fun K hK => ?_)
  refine goes_ Tryd.func18 (by kernel_rfl) rfl #[.pointer (some ⟨pc, 0, none⟩)] (by rfl) rfl rfl (by simp only [List.map_toArray, List.map_cons, List.map_nil]; rfl) ?_
  with_reducible refine (gshape pc gc2 cc2 (C : Int) (R : Int) xt _ hHeld.2.2.out.c).mono ?_
  rintro e w19 ⟨rfl, hb⟩
  refine ⟨_, rfl, ?_⟩
  have HX19 := Aside0.mk (hHeld.2.2.out.below hb)
  clear hHeld hb
  refine hK.out _ _ ⟨HX19.out.sh.cell 0, HX19.out.sh.cell 1, HX19⟩ (fun hHeld => ?_)
  clear hK K
  refine norm_ (a' := ?_) ?_ ?_
  rotate_left
  · show Act.put _ (some 83) _ = _
    simp only [Act.put, List.setIfInBounds_toArray, List.set_cons_zero, List.set_cons_succ, i64_w, i32_w]
    rfl
  refine pure_ (i := 37) (N := some 89) (v := ?_) (a' := ?_) #[true, true, true, true, true, true, true, true, true, true, true, true, true, true, true, true, true, true, true, true, true, true, true, true, true, true, true, true, true, true, true, true, true, true, true, true, true, true, false] rfl rfl (by kernel_rfl) (fun _ _ _ h => h) (Or.inl ⟨by rfl, ?_⟩) ?_ ?_
  rotate_left
  · intro w'
    go_simp
    with_reducible rfl
  rotate_left
  · simp only [Act.put, List.setIfInBounds_toArray, List.set_cons_zero, List.set_cons_succ, i64_w, i32_w]
    rfl
  refine pure_ (i := 38) (N := some 90) (v := ?_) (a' := ?_) #[true, true, true, true, true, true, true, true, true, true, true, true, true, true, true, true, true, true, true, true, true, true, true, true, true, true, true, true, true, true, true, true, true, true, true, true, true, true, true] rfl rfl (by kernel_rfl) (fun _ _ _ h => h) (Or.inl ⟨by rfl, ?_⟩) ?_ ?_
  rotate_left
  · intro w'
    go_simp
    with_reducible rfl
  rotate_left
  · simp only [Act.put, List.setIfInBounds_toArray, List.set_cons_zero, List.set_cons_succ, i64_w, i32_w]
    rfl
  refine done_ (by kernel_rfl) ?_
  clear hHeld HX9
  go_wp2_with fail
  have ht := gtrans_yes C R b a pc gc2 cc2 xt 0 (.inl rfl) HSh.out.c HSh.out.r HSh.out.flip.ab (by rw [htl]; exact HSh.out.flip.n) HWt.out _ HX19.out.c (HT0.out.below HX19.out.be)
  rw [htl] at ht
  with_reducible refine ht.mono ?_
  clear ht
  rintro e w20 ⟨rfl, hg, hf⟩
  have HX20 := Aside0.mk (HX19.out.fgc hf hg)
  clear hg hf HX19
  go_wp2_with fail
  have ht := gtrans_yes R C a b pd gd cd (can l) 0 (.inl rfl) HSh.out.r HSh.out.c HSh.out.ab (by rw [hcl]; exact HSh.out.n) (can_ws l) _ HX20.out.d (HT0.out.below HX20.out.be)
  rw [hcl] at ht
  with_reducible refine ht.mono ?_
  clear ht
  rintro e w21 ⟨rfl, hg, hf⟩
  have HX21 := Aside0.mk (HX20.out.fgd hf hg)
  clear hg hf HX20
  obtain ⟨yd, hyd⟩ : ∃ z, z = tb n (t2 a b 0 (el (can l))) := ⟨_, rfl⟩
  have hydl : yd.length = n := by rw [hyd, tb_len]
  have HTs := Aside0.mk (show tb n (t2 b a 0 (el xt)) = tl (C * R) (tps yd R C) by rw [HXT.out, hyd]; exact turn_same HSh.out (can l) hcl)
  have HYD := Aside0.mk hyd
  rw [← hyd, HTs.out] at HX21
  clear hyd
  go_wp2_with fail
  have ht := gturn R C pd gd cd yd HGo.out.1 HSh.out.cle (by rw [hydl]; exact HSh.out.n) (by rw [hydl]; exact hp) (by omega) _ HX21.out.d (HT0.out.below HX21.out.be)
  with_reducible refine ht.mono ?_
  clear ht
  rintro e w22 ⟨rfl, gd2, cd2, hg, hf, hh⟩
  have HX22 := Aside0.mk (HX21.out.fpd hf hg hh)
  clear hg hf hh HX21
  obtain ⟨yt, hyt⟩ : ∃ z, z = tl (C * R) (tps yd R C) := ⟨_, rfl⟩
  have hytl : yt.length = n := by rw [hyt, tl_len, Nat.mul_comm, HSh.out.n]
  have HYT := Aside0.mk hyt
  rw [← hyt] at HX22
  clear hyt
  go_wp2_with fail
  with_reducible refine (words_n pc gc2 cc2 n (C : Int) (R : Int) yt _ HX22.out.c hytl hp (by omega)).mono ?_
  rintro e w23 ⟨h1, dh1, rfl, hm, hb⟩
  have HX23 := Aside0.mk (HX22.out.below hb)
  have HM23 := Aside0.mk hm
  clear hb hm HX22
  go_wp2_with fail
  with_reducible refine (words_n pd gd2 cd2 n (C : Int) (R : Int) yt _ HX23.out.d hytl hp (by omega)).mono ?_
  rintro e w24 ⟨h2, dh2, rfl, hm, hb⟩
  have HX24 := Aside0.mk (HX23.out.below hb)
  have HM24 := Aside0.mk (HM23.out.below hb)
  have HN24 := Aside0.mk hm
  clear hb hm HX23 HM23
  go_wp2_with fail
  with_reducible refine (same_n (some ⟨h1, 0, none⟩) (some ⟨h2, 0, none⟩) dh1 dh2 n yt yt _ HM24.out HN24.out (by omega) hytl rfl).mono ?_
  rintro e w25 ⟨rfl, hb⟩
  have HX25 := Aside0.mk (HX24.out.below hb)
  clear hb HX24 HM24 HN24
  go_wp2_with fail
  have ht := gturn C R pd gd2 cd2 yt HSh.out.flip.good HSh.out.rle (by rw [hytl]; exact HSh.out.flip.n) (by rw [hytl]; exact hp) (by omega) _ HX25.out.d (HT0.out.below HX25.out.be)
  rw [show tl (R * C) (tps yt C R) = yd by rw [HYT.out]; exact turn_twice HSh.out yd hydl] at ht
  with_reducible refine ht.mono ?_
  clear ht
  rintro e w26 ⟨rfl, gd3, cd3, hg, hf, hh⟩
  have HX26 := Aside0.mk (HX25.out.fpd hf hg hh)
  clear hg hf hh HX25
  go_wp2_with fail
  have ht := gtrans_yes R C a b pd gd3 cd3 yd 0 (.inl rfl) HSh.out.r HSh.out.c HSh.out.ab (by rw [hydl]; exact HSh.out.n) (by rw [HYD.out]; exact tb_ws _ _) _ HX26.out.d (HT0.out.below HX26.out.be)
  rw [hydl] at ht
  with_reducible refine ht.mono ?_
  clear ht
  rintro e w27 ⟨rfl, hg, hf⟩
  have HX27 := Aside0.mk (HX26.out.fgd hf hg)
  clear hg hf HX26
  obtain ⟨zz, hzz⟩ : ∃ z, z = tb n (t2 a b 0 (el yd)) := ⟨_, rfl⟩
  have hzl : zz.length = n := by rw [hzz, tb_len]
  have HZs := Aside0.mk (show zz = tb n fun i => el xf i * fo (n : Int) by rw [hzz, HYD.out, HXF.out]; exact twice_same HSh.out (can l) hcl)
  rw [← hzz] at HX27
  clear hzz
  go_wp2_with fail
  with_reducible refine (words_n pd gd3 cd3 n (R : Int) (C : Int) zz _ HX27.out.d hzl hp (by omega)).mono ?_
  rintro e w28 ⟨h3, dh3, rfl, hm, hb⟩
  have HX28 := Aside0.mk (HX27.out.below hb)
  have HM28 := Aside0.mk hm
  clear hb hm HX27
  go_wp2_with fail
  with_reducible refine (words_n pb gb2 cb2 n (R : Int) (C : Int) xf _ HX28.out.b hfl hp (by omega)).mono ?_
  rintro e w29 ⟨h4, dh4, rfl, hm, hb⟩
  have HX29 := Aside0.mk (HX28.out.below hb)
  have HM29 := Aside0.mk (HM28.out.below hb)
  have HN29 := Aside0.mk hm
  clear hb hm HX28 HM28
  have kw : IntKind.u64.wrap (n : Int) = (n : Int) := wrap_u _ (by omega) (by omega)
  go_wp2_with fail
  clear kw
  have ht := scale_n (some ⟨h4, 0, none⟩) dh4 xf n (n : Int) ⟨by omega, by omega⟩ _ HN29.out HWf.out (by omega) hfl
  rw [← HZs.out] at ht
  with_reducible refine ht.mono ?_
  clear ht
  rintro e w30 ⟨B9, d9, rfl, hI, hb⟩
  have HX30 := Aside0.mk (HX29.out.below hb)
  have HM30 := Aside0.mk (HM29.out.below hb)
  have HC30 := Aside0.mk hI
  clear hb hI HX29 HM29 HN29
  go_wp2_with fail
  with_reducible refine (same_n (some ⟨h3, 0, none⟩) B9 dh3 d9 n zz zz _ HM30.out HC30.out (by omega) hzl rfl).mono ?_
  rintro e w31 ⟨rfl, hb⟩
  have HX31 := Aside0.mk (HX30.out.below hb)
  clear hb HX30 HM30 HC30
  go_wp2
  go_ret
  exact ⟨rfl, HX31.out.be⟩
theorem GridMovesRow (a0_0 a0_1 : Int) (a1 : Option Addr) (len1 cap1 : Nat) (z1 : List Int) (a2 a3 : Int) (w : World)
    (w1 : (a1 = none ∧ len1 = 0 ∧ cap1 = 0 ∧ z1 = []) ∨ ∃ x, a1 = some x ∧ len1 ≤ cap1 ∧ cap1 ≤ maxLen ∧ z1.length = cap1 ∧ (∀ i, i < z1.length → w.cell? (x.add i) = some (.int .u64 (z1.getD i 0))) ∧ ∀ n ∈ z1, (Lit.int .u64 n).wf = true) (hT : TabOK w) :
    Calls Tryd.prog 9 #[.agg #[.int .i64 a0_0, .int .i64 a0_1], .slice a1 len1 cap1, .int .i64 a2, .int .i64 a3] w fun e w' => e = .returned (.bool true) ∧ Below w.heap.size w w' := by
  obtain ⟨l, rfl, hl, hW⟩ := In.of w1
  by_cases h1 : l.length ≤ 64 ∧ GoodS a0_0 a0_1 ∧ a0_0 * a0_1 = (l.length : Int)
  · have h64 := h1.1
    obtain ⟨a, b, hab, rfl, rfl⟩ := good_ints h1.2.1
    have hRC : 2 ^ a * 2 ^ b = l.length := by exact_mod_cast h1.2.2
    have hab2 : a + b ≤ 20 := by
      rcases Nat.lt_or_ge 20 (a + b) with h | h
      · have := pow_mono (show 21 ≤ a + b by omega)
        rw [← Nat.pow_add] at hRC
        have e : (2 : Nat) ^ 21 = 2097152 := by decide
        omega
      · exact h
    have hsh : Sh (2 ^ a) (2 ^ b) a b l.length := ⟨rfl, rfl, hab2, hRC⟩
    exact mo_yes a1 cap1 l (2 ^ a) (2 ^ b) a b l.length a2 a3 w hl hW rfl hsh h64 hT
  · exact mo_nil a1 cap1 l a0_0 a0_1 a2 a3 w hl h1 hT
end Go.Proofs.YtpnkcjnemoompaaDoor.Grid
end
