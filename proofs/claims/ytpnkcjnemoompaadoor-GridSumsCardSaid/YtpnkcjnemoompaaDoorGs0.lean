import Derived.Test.YtpnkcjnemoompaaDoorGz6
import Derived.Test.YtpnkcjnemoompaaDoorProg
import Derived.Below
import Derived.Deep.Draws
import Derived.Deep.AppendLies
import Derived.Maps.AppendAt
import Derived.OwnWalk
import Derived.Laws.BytesArg
import Derived.Laws.MakeOwn
import Derived.Laws.OwnMore
import Derived.Deep.OwnRows
import Derived.Tactics
import Derived.Lib.ConvBytes
import Derived.Laws.Slices
import Derived.WalkKit
import Derived.KernelRfl
import Derived.RowKit3
import Derived.Deep.LoopGhost
import Derived.Deep.QuietTactic
import Derived.BigQuiet
import Derived.WideLaws
import Derived.Deep.DeepCutAuto
import Derived.Deep.CutBlock
import Derived.Deep.RegionHeld3
import Derived.Laws.Rows
import Derived.Lib.AppendStr
import Derived.ArgAppend
import Derived.Laws.IdiomCopy
import Derived.RowKit
import Derived.OrdersHeld
import Derived.Laws.BitsLemmas
import Derived.Laws.CopyOwn
import Derived.Lib.Hide
import Derived.Shelf.Spec.TrailingZeros
import Derived.Lib.LaidTab
import Derived.Shelf.Strings.Builder1
import Derived.Shelf.Strings.Builder2
import Derived.Shelf.Strings.OnBuilder
import Derived.Shelf.Strings.BuilderF
import Derived.Shelf.Strings.BuilderK
import Derived.Shelf.Strings.Builder2Cap
import Derived.Shelf.Strconv.Itoa0
import Derived.Shelf.Strconv.Itoa1
import Derived.Shelf.LaysM
import Derived.Shelf.Strconv.Itoa2
import Derived.Shelf.Strconv.Itoa3
import Derived.Shelf.Bits.Mul64
import Derived.Shelf.Strings.BuilderCap
import Derived.Ground.SlgnProg
import Derived.Shelf.SlicesE.Clone
import Derived.Ground.SlgfProg
import Derived.Shelf.SlicesE.IndexFunc
import Derived.Laws.StructEq
import Derived.Shelf.Spec.BitsCarry
import Derived.Laws.BitsAllLaws
import Derived.OpenShut
import Derived.StillTailTactics
import Derived.Outline
import Derived.RegionTactic
import Derived.ChangeAlike
import Derived.BigRegion
/-! Texts of this claim, joined: GrdC, GrdD, GrdL, GrdM, GrdO, GrdP, GrdQ. -/
section
namespace Go.Proofs.YtpnkcjnemoompaaDoor.Grid
open Go.RowKit Go.Proofs.YtpnkcjnemoompaaDoor Go.Proofs.YtpnkcjnemoompaaDoor.Ext Go.Proofs.YtpnkcjnemoompaaDoor.PPlan Go.Proofs.YtpnkcjnemoompaaDoor.PFft Go.Proofs.YtpnkcjnemoompaaDoor.Pure Go.Proofs.YtpnkcjnemoompaaDoor.Obj Go.Proofs.YtpnkcjnemoompaaDoor.Fft Go.Proofs.YtpnkcjnemoompaaDoor.Kern Go.Proofs.YtpnkcjnemoompaaDoorW.PrintWords Go.Proofs.YtpnkcjnemoompaaDoorW.PrintLast Go.Proofs.YtpnkcjnemoompaaDoorW.PrintMore
set_option linter.unusedVariables false
set_option linter.unusedSimpArgs false
set_option maxRecDepth 100000
attribute [local go_sem high] eqA23
set_option maxHeartbeats 4000000 in
theorem gcheck_of (p q : Nat) (R C R2 C2 r : Int) (b : Bool) (hb : (R2 == R && (C2 == C)) = b) (hr : r = if b then 0 else 19) (w : World) (h0 : w.cell? ⟨p, 0, none⟩ = some (.int .i64 R)) (h1 : w.cell? ⟨p, 1, none⟩ = some (.int .i64 C)) (h2 : w.cell? ⟨q, 0, none⟩ = some (.int .i64 R2)) (h3 : w.cell? ⟨q, 1, none⟩ = some (.int .i64 C2)) :
    Calls Tryd.prog 75 #[.pointer (some ⟨p, 0, none⟩), .pointer (some ⟨q, 0, none⟩)] w fun e w' => e = .returned (.int .i64 r) ∧ Below w.heap.size w w' := by
  have HB := Aside0.mk (Below.refl w.heap.size w)
  cases b
  · obtain rfl : r = 19 := by simpa using hr
    clear hr
    go_enter Tryd.func75, Tryd.ntmps75
    go_wp2_with fail
    refine start_ (n := 12) (S := fun w' => w'.cell? ⟨p, 0, none⟩ = some (.int .i64 R) ∧ w'.cell? ⟨p, 1, none⟩ = some (.int .i64 C) ∧ w'.cell? ⟨q, 0, none⟩ = some (.int .i64 R2) ∧ w'.cell? ⟨q, 1, none⟩ = some (.int .i64 C2) ∧ Aside0 (Below w.heap.size w w')) (ds := []) #[false, false, false, false, false, false, false, false, false, false, false, false] (by kernel_rfl) rfl rfl ⟨h0, h1, h2, h3, ⟨below_drew1 HB.out⟩⟩ (fun hHeld => ?_)
    refine pure_ (i := 0) (N := some 9) (v := ?_) (a' := ?_) #[true, false, false, false, false, false, false, false, false, false, false, false] rfl rfl (by kernel_rfl) (fun _ _ _ h => h) (Or.inl ⟨by rfl, ?_⟩) ?_ ?_
    rotate_left
    · intro w'
      go_simp
      with_reducible rfl
    rotate_left
    · simp only [Act.put, List.setIfInBounds_toArray, List.set_cons_zero, List.set_cons_succ, i64_w, i32_w]
      rfl
    refine pure_ (i := 1) (N := some 10) (v := ?_) (a' := ?_) #[true, true, false, false, false, false, false, false, false, false, false, false] rfl rfl (by kernel_rfl) (fun _ _ _ h => h) (Or.inl ⟨by rfl, ?_⟩) ?_ ?_
    rotate_left
    · intro w'
      go_simp
      with_reducible rfl
    rotate_left
    · simp only [Act.put, List.setIfInBounds_toArray, List.set_cons_zero, List.set_cons_succ, i64_w, i32_w]
      rfl
    refine pure_ (i := 2) (N := some 11) (v := ?_) (a' := ?_) #[true, true, true, false, false, false, false, false, false, false, false, false] rfl rfl (by kernel_rfl) (fun _ _ _ h => h) (Or.inl ⟨by rfl, ?_⟩) ?_ ?_
    rotate_left
    · intro w'
      go_simp
      with_reducible rfl
    rotate_left
    · simp only [Act.put, List.setIfInBounds_toArray, List.set_cons_zero, List.set_cons_succ, i64_w, i32_w]
      rfl
    refine pure_ (i := 3) (N := some 12) (v := ?_) (a' := ?_) #[true, true, true, true, false, false, false, false, false, false, false, false] rfl rfl (by kernel_rfl) (fun _ _ _ h => h) (Or.inl ⟨by rfl, ?_⟩) ?_ ?_
    rotate_left
    · intro w'
      go_simp
      with_reducible rfl
    rotate_left
    · simp only [Act.put, List.setIfInBounds_toArray, List.set_cons_zero, List.set_cons_succ, i64_w, i32_w]
      rfl
    refine pure_ (i := 5) (N := some 14) (v := ?_) (a' := ?_) #[true, true, true, true, false, true, false, false, false, false, false, false] rfl rfl (by kernel_rfl) (fun _ _ _ h => h) (Or.inl ⟨by rfl, ?_⟩) ?_ ?_
    rotate_left
    · intro w'
      go_simp
      with_reducible rfl
    rotate_left
    · simp only [Act.put, List.setIfInBounds_toArray, List.set_cons_zero, List.set_cons_succ, i64_w, i32_w]
      rfl
    refine pure_ (i := 6) (N := some 15) (v := ?_) (a' := ?_) #[true, true, true, true, false, true, true, false, false, false, false, false] rfl rfl (by kernel_rfl) (fun _ _ _ h => h) (Or.inl ⟨by rfl, ?_⟩) ?_ ?_
    rotate_left
    · intro w'
      go_simp
      with_reducible rfl
    rotate_left
    · simp only [Act.put, List.setIfInBounds_toArray, List.set_cons_zero, List.set_cons_succ, i64_w, i32_w]
      rfl
    refine pure_ (i := 7) (N := some 16) (v := ?_) (a' := ?_) #[true, true, true, true, false, true, true, true, false, false, false, false] rfl rfl (by kernel_rfl) (fun _ _ _ h => h) (Or.inl ⟨by rfl, ?_⟩) ?_ ?_
    rotate_left
    · intro w'
      go_simp
      with_reducible rfl
    rotate_left
    · simp only [Act.put, List.setIfInBounds_toArray, List.set_cons_zero, List.set_cons_succ, i64_w, i32_w]
      rfl
    refine pure_ (i := 8) (N := some 17) (v := ?_) (a' := ?_) #[true, true, true, true, false, true, true, true, true, false, false, false] rfl rfl (by kernel_rfl) (fun _ _ _ h => h) (Or.inl ⟨by rfl, ?_⟩) ?_ ?_
    rotate_left
    · intro w'
      go_simp
      with_reducible rfl
    rotate_left
    · simp only [Act.put, List.setIfInBounds_toArray, List.set_cons_zero, List.set_cons_succ, i64_w, i32_w]
      rfl
    refine take_ (i := 4) (N := some 13) (v := ?_) (a' := ?_) #[true, true, true, true, true, true, true, true, true, false, false, false] rfl rfl (by kernel_rfl) (fun _ _ _ h => h) (Or.inl ⟨by rfl, ?_⟩) hHeld ?_ ?_
    rotate_left
    · rintro w' ⟨s0, s1, s2, s3, s4⟩
      go_simp
      with_reducible rfl
    rotate_left
    · simp only [Act.put, List.setIfInBounds_toArray, List.set_cons_zero, List.set_cons_succ, i64_w, i32_w]
      rfl
    refine take_ (i := 9) (N := some 18) (v := ?_) (a' := ?_) #[true, true, true, true, true, true, true, true, true, true, false, false] rfl rfl (by kernel_rfl) (fun _ _ _ h => h) (Or.inl ⟨by rfl, ?_⟩) hHeld ?_ ?_
    rotate_left
    · rintro w' ⟨s0, s1, s2, s3, s4⟩
      go_simp
      with_reducible rfl
    rotate_left
    · simp only [Act.put, List.setIfInBounds_toArray, List.set_cons_zero, List.set_cons_succ, i64_w, i32_w]
      rfl
    refine pure_ (i := 10) (N := some 19) (v := ?_) (a' := ?_) #[true, true, true, true, true, true, true, true, true, true, true, false] rfl rfl (by kernel_rfl) (fun _ _ _ h => h) (Or.inl ⟨by rfl, ?_⟩) ?_ ?_
    rotate_left
    · intro w'
      go_simp
      with_reducible rfl
    rotate_left
    · simp only [Act.put, List.setIfInBounds_toArray, List.set_cons_zero, List.set_cons_succ, i64_w, i32_w]
      rfl
    refine pure_ (i := 11) (N := some 8) (v := ?_) (a' := ?_) #[true, true, true, true, true, true, true, true, true, true, true, true] rfl rfl (by kernel_rfl) (fun _ _ _ h => h) (Or.inl ⟨by rfl, ?_⟩) ?_ ?_
    rotate_left
    · intro w'
      go_simp
      with_reducible rfl
    rotate_left
    · simp only [Act.put, List.setIfInBounds_toArray, List.set_cons_zero, List.set_cons_succ, i64_w, i32_w]
      rfl
    refine done_ (by kernel_rfl) ?_
    have HB2 := hHeld.2.2.2.2
    clear hHeld
    go_wp2
    go_ret
    exact ⟨rfl, HB2.out⟩
  · obtain rfl : r = 0 := by simpa using hr
    clear hr
    go_enter Tryd.func75, Tryd.ntmps75
    go_wp2_with fail
    refine start_ (n := 12) (S := fun w' => w'.cell? ⟨p, 0, none⟩ = some (.int .i64 R) ∧ w'.cell? ⟨p, 1, none⟩ = some (.int .i64 C) ∧ w'.cell? ⟨q, 0, none⟩ = some (.int .i64 R2) ∧ w'.cell? ⟨q, 1, none⟩ = some (.int .i64 C2) ∧ Aside0 (Below w.heap.size w w')) (ds := []) #[false, false, false, false, false, false, false, false, false, false, false, false] (by kernel_rfl) rfl rfl ⟨h0, h1, h2, h3, ⟨below_drew1 HB.out⟩⟩ (fun hHeld => ?_)
    refine pure_ (i := 0) (N := some 9) (v := ?_) (a' := ?_) #[true, false, false, false, false, false, false, false, false, false, false, false] rfl rfl (by kernel_rfl) (fun _ _ _ h => h) (Or.inl ⟨by rfl, ?_⟩) ?_ ?_
    rotate_left
    · intro w'
      go_simp
      with_reducible rfl
    rotate_left
    · simp only [Act.put, List.setIfInBounds_toArray, List.set_cons_zero, List.set_cons_succ, i64_w, i32_w]
      rfl
    refine pure_ (i := 1) (N := some 10) (v := ?_) (a' := ?_) #[true, true, false, false, false, false, false, false, false, false, false, false] rfl rfl (by kernel_rfl) (fun _ _ _ h => h) (Or.inl ⟨by rfl, ?_⟩) ?_ ?_
    rotate_left
    · intro w'
      go_simp
      with_reducible rfl
    rotate_left
    · simp only [Act.put, List.setIfInBounds_toArray, List.set_cons_zero, List.set_cons_succ, i64_w, i32_w]
      rfl
    refine pure_ (i := 2) (N := some 11) (v := ?_) (a' := ?_) #[true, true, true, false, false, false, false, false, false, false, false, false] rfl rfl (by kernel_rfl) (fun _ _ _ h => h) (Or.inl ⟨by rfl, ?_⟩) ?_ ?_
    rotate_left
    · intro w'
      go_simp
      with_reducible rfl
    rotate_left
    · simp only [Act.put, List.setIfInBounds_toArray, List.set_cons_zero, List.set_cons_succ, i64_w, i32_w]
      rfl
    refine pure_ (i := 3) (N := some 12) (v := ?_) (a' := ?_) #[true, true, true, true, false, false, false, false, false, false, false, false] rfl rfl (by kernel_rfl) (fun _ _ _ h => h) (Or.inl ⟨by rfl, ?_⟩) ?_ ?_
    rotate_left
    · intro w'
      go_simp
      with_reducible rfl
    rotate_left
    · simp only [Act.put, List.setIfInBounds_toArray, List.set_cons_zero, List.set_cons_succ, i64_w, i32_w]
      rfl
    refine pure_ (i := 5) (N := some 14) (v := ?_) (a' := ?_) #[true, true, true, true, false, true, false, false, false, false, false, false] rfl rfl (by kernel_rfl) (fun _ _ _ h => h) (Or.inl ⟨by rfl, ?_⟩) ?_ ?_
    rotate_left
    · intro w'
      go_simp
      with_reducible rfl
    rotate_left
    · simp only [Act.put, List.setIfInBounds_toArray, List.set_cons_zero, List.set_cons_succ, i64_w, i32_w]
      rfl
    refine pure_ (i := 6) (N := some 15) (v := ?_) (a' := ?_) #[true, true, true, true, false, true, true, false, false, false, false, false] rfl rfl (by kernel_rfl) (fun _ _ _ h => h) (Or.inl ⟨by rfl, ?_⟩) ?_ ?_
    rotate_left
    · intro w'
      go_simp
      with_reducible rfl
    rotate_left
    · simp only [Act.put, List.setIfInBounds_toArray, List.set_cons_zero, List.set_cons_succ, i64_w, i32_w]
      rfl
    refine pure_ (i := 7) (N := some 16) (v := ?_) (a' := ?_) #[true, true, true, true, false, true, true, true, false, false, false, false] rfl rfl (by kernel_rfl) (fun _ _ _ h => h) (Or.inl ⟨by rfl, ?_⟩) ?_ ?_
    rotate_left
    · intro w'
      go_simp
      with_reducible rfl
    rotate_left
    · simp only [Act.put, List.setIfInBounds_toArray, List.set_cons_zero, List.set_cons_succ, i64_w, i32_w]
      rfl
    refine pure_ (i := 8) (N := some 17) (v := ?_) (a' := ?_) #[true, true, true, true, false, true, true, true, true, false, false, false] rfl rfl (by kernel_rfl) (fun _ _ _ h => h) (Or.inl ⟨by rfl, ?_⟩) ?_ ?_
    rotate_left
    · intro w'
      go_simp
      with_reducible rfl
    rotate_left
    · simp only [Act.put, List.setIfInBounds_toArray, List.set_cons_zero, List.set_cons_succ, i64_w, i32_w]
      rfl
    refine take_ (i := 4) (N := some 13) (v := ?_) (a' := ?_) #[true, true, true, true, true, true, true, true, true, false, false, false] rfl rfl (by kernel_rfl) (fun _ _ _ h => h) (Or.inl ⟨by rfl, ?_⟩) hHeld ?_ ?_
    rotate_left
    · rintro w' ⟨s0, s1, s2, s3, s4⟩
      go_simp
      with_reducible rfl
    rotate_left
    · simp only [Act.put, List.setIfInBounds_toArray, List.set_cons_zero, List.set_cons_succ, i64_w, i32_w]
      rfl
    refine take_ (i := 9) (N := some 18) (v := ?_) (a' := ?_) #[true, true, true, true, true, true, true, true, true, true, false, false] rfl rfl (by kernel_rfl) (fun _ _ _ h => h) (Or.inl ⟨by rfl, ?_⟩) hHeld ?_ ?_
    rotate_left
    · rintro w' ⟨s0, s1, s2, s3, s4⟩
      go_simp
      with_reducible rfl
    rotate_left
    · simp only [Act.put, List.setIfInBounds_toArray, List.set_cons_zero, List.set_cons_succ, i64_w, i32_w]
      rfl
    refine pure_ (i := 10) (N := some 19) (v := ?_) (a' := ?_) #[true, true, true, true, true, true, true, true, true, true, true, false] rfl rfl (by kernel_rfl) (fun _ _ _ h => h) (Or.inl ⟨by rfl, ?_⟩) ?_ ?_
    rotate_left
    · intro w'
      go_simp
      with_reducible rfl
    rotate_left
    · simp only [Act.put, List.setIfInBounds_toArray, List.set_cons_zero, List.set_cons_succ, i64_w, i32_w]
      rfl
    refine pure_ (i := 11) (N := some 8) (v := ?_) (a' := ?_) #[true, true, true, true, true, true, true, true, true, true, true, true] rfl rfl (by kernel_rfl) (fun _ _ _ h => h) (Or.inl ⟨by rfl, ?_⟩) ?_ ?_
    rotate_left
    · intro w'
      go_simp
      with_reducible rfl
    rotate_left
    · simp only [Act.put, List.setIfInBounds_toArray, List.set_cons_zero, List.set_cons_succ, i64_w, i32_w]
      rfl
    refine done_ (by kernel_rfl) ?_
    have HB2 := hHeld.2.2.2.2
    clear hHeld
    go_wp2
    go_ret
    exact ⟨rfl, HB2.out⟩
set_option maxHeartbeats 4000000 in
theorem gcopy (p g c : Nat) (R C : Int) (xs : List Int) (hp : 0 < xs.length) (hL : xs.length ≤ 1048576) (w : World) (hG : Gd w p g c R C xs) :
    Calls Tryd.prog 76 #[.pointer (some ⟨p, 0, none⟩)] w fun e w' => ∃ q h d, e = .returned (.pointer (some ⟨q, 0, none⟩)) ∧ Gd w' q h d R C xs ∧ Below w.heap.size w w' ∧ w.heap.size ≤ q ∧ w.heap.size ≤ h := by
  have HG0 := Aside0.mk hG
  clear hG
  go_enter Tryd.func76, Tryd.ntmps76
  go_wp2_with fail
  refine start_ (n := 9) (S := fun w' => w'.cell? ⟨p, 0, none⟩ = some (.int .i64 R) ∧ w'.cell? ⟨p, 1, none⟩ = some (.int .i64 C) ∧ Aside0 (Gd w' p g c R C xs ∧ Below w.heap.size w w')) (ds := []) #[false, false, false, false, false, false, false, false, false] (by kernel_rfl) rfl rfl ⟨HG0.out.drew.c0, HG0.out.drew.c1, ⟨HG0.out.drew, below_drew1 (Below.refl _ _)⟩⟩ (fun hHeld => ?_)
  refine pure_ (i := 0) (N := some 3) (v := ?_) (a' := ?_) #[true, false, false, false, false, false, false, false, false] rfl rfl (by kernel_rfl) (fun _ _ _ h => h) (Or.inl ⟨by rfl, ?_⟩) ?_ ?_
  rotate_left
  · intro w'
    go_simp
    with_reducible rfl
  rotate_left
  · simp only [Act.put, List.setIfInBounds_toArray, List.set_cons_zero, List.set_cons_succ, i64_w, i32_w]
    rfl
  refine pure_ (i := 1) (N := some 4) (v := ?_) (a' := ?_) #[true, true, false, false, false, false, false, false, false] rfl rfl (by kernel_rfl) (fun _ _ _ h => h) (Or.inl ⟨by rfl, ?_⟩) ?_ ?_
  rotate_left
  · intro w'
    go_simp
    with_reducible rfl
  rotate_left
  · simp only [Act.put, List.setIfInBounds_toArray, List.set_cons_zero, List.set_cons_succ, i64_w, i32_w]
    rfl
  refine pure_ (i := 2) (N := some 5) (v := ?_) (a' := ?_) #[true, true, true, false, false, false, false, false, false] rfl rfl (by kernel_rfl) (fun _ _ _ h => h) (Or.inl ⟨by rfl, ?_⟩) ?_ ?_
  rotate_left
  · intro w'
    go_simp
    with_reducible rfl
  rotate_left
  · simp only [Act.put, List.setIfInBounds_toArray, List.set_cons_zero, List.set_cons_succ, i64_w, i32_w]
    rfl
  refine pure_ (i := 4) (N := some 7) (v := ?_) (a' := ?_) #[true, true, true, false, true, false, false, false, false] rfl rfl (by kernel_rfl) (fun _ _ _ h => h) (Or.inl ⟨by rfl, ?_⟩) ?_ ?_
  rotate_left
  · intro w'
    go_simp
    with_reducible rfl
  rotate_left
  · simp only [Act.put, List.setIfInBounds_toArray, List.set_cons_zero, List.set_cons_succ, i64_w, i32_w]
    rfl
  refine take_ (i := 3) (N := some 6) (v := ?_) (a' := ?_) #[true, true, true, true, true, false, false, false, false] rfl rfl (by kernel_rfl) (fun _ _ _ h => h) (Or.inl ⟨by rfl, ?_⟩) hHeld ?_ ?_
  rotate_left
  · rintro w' ⟨s0, s1, s2⟩
    go_simp
    with_reducible rfl
  rotate_left
  · simp only [Act.put, List.setIfInBounds_toArray, List.set_cons_zero, List.set_cons_succ, i64_w, i32_w]
    rfl
  refine one_ (i := 5) (N := some 8) #[true, true, true, true, true, true, false, false, false] rfl rfl (by kernel_rfl) (by decide) (fun K hK => ?_)
  refine goes_ Tryd.func20 (by kernel_rfl) rfl #[.pointer (some ⟨p, 0, none⟩)] (by rfl) rfl rfl (by simp only [List.map_toArray, List.map_cons, List.map_nil]; rfl) ?_
  with_reducible refine (gwords p g c R C xs _ hHeld.2.2.out.1 hp hL).mono ?_
  rintro e w2 ⟨h, d, rfl, hm, hb, hge⟩
  refine ⟨_, rfl, ?_⟩
  have HG2 := Aside0.mk (hHeld.2.2.out.1.below hb)
  have HB2 := Aside0.mk (below_then hHeld.2.2.out.2 hHeld.2.2.out.2.size hb)
  have HM2 := Aside0.mk hm
  have HGe := Aside0.mk (show w.heap.size ≤ h by have := hHeld.2.2.out.2.size; omega)
  clear hHeld hb hm hge
  refine hK.out _ _ ⟨HG2.out.c0, HG2.out.c1, ⟨HG2.out, HB2.out⟩⟩ (fun hHeld => ?_)
  clear hK K
  refine norm_ (a' := ?_) ?_ ?_
  rotate_left
  · show Act.put _ (some 8) _ = _
    simp only [Act.put, List.setIfInBounds_toArray, List.set_cons_zero, List.set_cons_succ, i64_w, i32_w]
    rfl
  refine pure_ (i := 6) (N := some 9) (v := ?_) (a' := ?_) #[true, true, true, true, true, true, true, false, false] rfl rfl (by kernel_rfl) (fun _ _ _ h => h) (Or.inl ⟨by rfl, ?_⟩) ?_ ?_
  rotate_left
  · intro w'
    go_simp
    with_reducible rfl
  rotate_left
  · simp only [Act.put, List.setIfInBounds_toArray, List.set_cons_zero, List.set_cons_succ, i64_w, i32_w]
    rfl
  refine one_ (i := 7) (N := some 10) #[true, true, true, true, true, true, true, true, false] rfl rfl (by kernel_rfl) (by decide) (fun K hK => ?_)
  refine value_ (w1 := ?_) (v := ?_) (by rfl) rfl ?_ ?_
  rotate_left 2
  · go_simp
    constructor
    · rfl
    · rfl
  have HQ3 : Aside0 (Gd (w2.alloc (Obj.cells #[.int .i64 R, .int .i64 C, .slice (some ⟨h, 0, none⟩) xs.length d] 35)) w2.heap.size h d R C xs) := ⟨Bk.new w2 35 [.int .i64 R, .int .i64 C, .slice (some ⟨h, 0, none⟩) xs.length d], HM2.out.below (below_alloc (Below.refl _ _) _)⟩
  have HB3 := Aside0.mk (below_alloc HB2.out (Obj.cells #[.int .i64 R, .int .i64 C, .slice (some ⟨h, 0, none⟩) xs.length d] 35))
  have HG3 := Aside0.mk (HG2.out.below (below_alloc (Below.refl _ _) (Obj.cells #[.int .i64 R, .int .i64 C, .slice (some ⟨h, 0, none⟩) xs.length d] 35)))
  clear hHeld
  refine hK.out _ _ ⟨HG3.out.c0, HG3.out.c1, ⟨HG3.out, HB3.out⟩⟩ (fun hHeld => ?_)
  clear hK K
  refine norm_ (a' := ?_) ?_ ?_
  rotate_left
  · show Act.put _ (some 10) _ = _
    simp only [Act.put, List.setIfInBounds_toArray, List.set_cons_zero, List.set_cons_succ, i64_w, i32_w]
    rfl
  refine pure_ (i := 8) (N := some 2) (v := ?_) (a' := ?_) #[true, true, true, true, true, true, true, true, true] rfl rfl (by kernel_rfl) (fun _ _ _ h => h) (Or.inl ⟨by rfl, ?_⟩) ?_ ?_
  rotate_left
  · intro w'
    go_simp
    with_reducible rfl
  rotate_left
  · simp only [Act.put, List.setIfInBounds_toArray, List.set_cons_zero, List.set_cons_succ, i64_w, i32_w]
    rfl
  refine done_ (by kernel_rfl) ?_
  clear hHeld
  go_wp2
  go_ret
  exact ⟨_, _, _, rfl, HQ3.out, HB3.out, HB2.out.size, HGe.out⟩
end Go.Proofs.YtpnkcjnemoompaaDoor.Grid
end
section
namespace Go.Proofs.YtpnkcjnemoompaaDoor.Grid
open Go.RowKit Go.Proofs.YtpnkcjnemoompaaDoor Go.Proofs.YtpnkcjnemoompaaDoor.Ext Go.Proofs.YtpnkcjnemoompaaDoor.PPlan Go.Proofs.YtpnkcjnemoompaaDoor.PFft Go.Proofs.YtpnkcjnemoompaaDoor.Pure Go.Proofs.YtpnkcjnemoompaaDoor.Obj Go.Proofs.YtpnkcjnemoompaaDoor.Fft Go.Proofs.YtpnkcjnemoompaaDoor.Kern Go.Proofs.YtpnkcjnemoompaaDoorW.PrintWords Go.Proofs.YtpnkcjnemoompaaDoorW.PrintLast Go.Proofs.YtpnkcjnemoompaaDoorW.PrintMore
set_option linter.unusedVariables false
set_option linter.unusedSimpArgs false
set_option maxRecDepth 100000
theorem upto_len (xs : List Int) (f : Nat → Int) (i : Nat) : (upto xs f i).length = xs.length := by
  induction i with
  | zero => rfl
  | succ i ih => rw [upto, List.length_set, ih]
theorem upto_ge (xs : List Int) (f : Nat → Int) (i j : Nat) (h : i ≤ j) : (upto xs f i).getD j 0 = xs.getD j 0 := by
  induction i with
  | zero => rfl
  | succ i ih =>
    rw [upto, List.getD_eq_getElem?_getD, List.getElem?_set_ne (by omega), ← List.getD_eq_getElem?_getD, ih (by omega)]
theorem upto_lt (xs : List Int) (f : Nat → Int) (i j : Nat) (h : j < i) (hj : j < xs.length) : (upto xs f i).getD j 0 = f j := by
  induction i with
  | zero => omega
  | succ i ih =>
    rw [upto, List.getD_eq_getElem?_getD]
    by_cases e : j = i
    · subst e
      rw [List.getElem?_set_self (by rw [upto_len]; exact hj)]
      rfl
    · rw [List.getElem?_set_ne (by omega), ← List.getD_eq_getElem?_getD, ih (by omega)]
theorem upto_all (xs : List Int) (f : Nat → Int) (n : Nat) (hn : xs.length = n) : upto xs f n = tl n f := by
  refine list_ext (by rw [upto_len, tl_len, hn]) fun j hj => ?_
  rw [upto_len, hn] at hj
  rw [upto_lt xs f n j hj (by omega), tl_get _ hj]
end Go.Proofs.YtpnkcjnemoompaaDoor.Grid
end
section
namespace Go.Proofs.YtpnkcjnemoompaaDoor.Grid
open Go.RowKit Go.Proofs.YtpnkcjnemoompaaDoor Go.Proofs.YtpnkcjnemoompaaDoor.Ext Go.Proofs.YtpnkcjnemoompaaDoor.PPlan Go.Proofs.YtpnkcjnemoompaaDoor.PFft Go.Proofs.YtpnkcjnemoompaaDoor.Pure Go.Proofs.YtpnkcjnemoompaaDoor.Obj Go.Proofs.YtpnkcjnemoompaaDoor.Fft Go.Proofs.YtpnkcjnemoompaaDoor.Kern Go.Proofs.YtpnkcjnemoompaaDoorW.PrintWords Go.Proofs.YtpnkcjnemoompaaDoorW.PrintLast Go.Proofs.YtpnkcjnemoompaaDoorW.PrintMore
set_option linter.unusedVariables false
set_option linter.unusedSimpArgs false
set_option maxRecDepth 100000
attribute [local go_sem high] eqA23
theorem canon_calls (A : Option Addr) (c : Nat) (l : List Int) (w : World) (hl : In w A c l) (hW : Ws l) (hL : l.length ≤ 1048576) :
    Calls Tryd.prog 21 #[.slice A l.length c] w fun e w' => ∃ B d, e = .returned (.slice B l.length d) ∧ In w' B d (can l) ∧ Below w.heap.size w w' := by
  obtain ⟨k, hk⟩ := (rCanon l hW hL).rounds
  rw [← can_is] at hk
  refine (abacistref08_Canon.calls k A c l (can l) w hl.r hl.c hk).mono ?_
  rintro e w1 ⟨v, rfl, hR, hb⟩
  obtain ⟨B, d, hv, hld, hcd⟩ := Kd.R_reads hR
  subst hv
  rw [can_len]
  exact ⟨B, d, rfl, In.mk hcd hld, hb⟩
end Go.Proofs.YtpnkcjnemoompaaDoor.Grid
end
section
namespace Go.Proofs.YtpnkcjnemoompaaDoor.Grid
open Go.RowKit Go.Proofs.YtpnkcjnemoompaaDoor Go.Proofs.YtpnkcjnemoompaaDoor.Ext Go.Proofs.YtpnkcjnemoompaaDoor.PPlan Go.Proofs.YtpnkcjnemoompaaDoor.PFft Go.Proofs.YtpnkcjnemoompaaDoor.Pure Go.Proofs.YtpnkcjnemoompaaDoor.Obj Go.Proofs.YtpnkcjnemoompaaDoor.Fft Go.Proofs.YtpnkcjnemoompaaDoor.Kern Go.Proofs.YtpnkcjnemoompaaDoorW.PrintWords Go.Proofs.YtpnkcjnemoompaaDoorW.PrintLast Go.Proofs.YtpnkcjnemoompaaDoorW.PrintMore
set_option linter.unusedVariables false
set_option linter.unusedSimpArgs false
set_option maxRecDepth 100000
attribute [local go_sem high] eqA23
theorem made_any (A : Option Addr) (c : Nat) (l : List Int) (R C : Int) (w : World) (hl : In w A c l) (hW : Ws l) (hT : TabOK w) :
    Calls Tryd.prog 24 #[.agg #[.int .i64 R, .int .i64 C], .slice A l.length c] w fun e w' => ∃ po, e = .returned (.pointer po) ∧ Below w.heap.size w w' := by
  by_cases h : l.length ≤ 64 ∧ GoodS R C ∧ R * C = (l.length : Int)
  · have hp : 0 < l.length := by
      obtain ⟨a, b, hab, ha, hb⟩ := good_ints h.2.1
      have h2 := h.2.2
      rw [ha, hb, ← Int.natCast_mul] at h2
      have h3 : 0 < 2 ^ a * 2 ^ b := Nat.mul_pos (Nat.two_pow_pos a) (Nat.two_pow_pos b)
      omega
    exact (made_yes A c l R C w hl hW h.1 hp h.2.1 h.2.2 hT).mono fun e w' ⟨p, g, cg, he, _, hb, _⟩ => ⟨_, he, hb⟩
  · exact (made_no A c l R C w h hT).mono fun e w' ⟨he, hb⟩ => ⟨_, he, hb⟩
section
variable {w w1 w2 : World} {p1 g1 c1 p2 g2 c2 p3 g3 c3 bs bt : Nat} {R C T0 T1 : Int} {xa xb xc ys : List Int}
end
theorem canon_n (A : Option Addr) (c : Nat) (l : List Int) (n : Nat) (w : World) (hl : In w A c l) (hW : Ws l) (hL : n ≤ 1048576) (hn : l.length = n) :
    Calls Tryd.prog 21 #[.slice A n c] w fun e w' => ∃ B d, e = .returned (.slice B n d) ∧ In w' B d (can l) ∧ Below w.heap.size w w' := by
  subst hn
  exact canon_calls A c l w hl hW hL
end Go.Proofs.YtpnkcjnemoompaaDoor.Grid
end
section
namespace Go.Proofs.YtpnkcjnemoompaaDoor.Grid
open Go.RowKit Go.Proofs.YtpnkcjnemoompaaDoor Go.Proofs.YtpnkcjnemoompaaDoor.Ext Go.Proofs.YtpnkcjnemoompaaDoor.PPlan Go.Proofs.YtpnkcjnemoompaaDoor.PFft Go.Proofs.YtpnkcjnemoompaaDoor.Pure Go.Proofs.YtpnkcjnemoompaaDoor.Obj Go.Proofs.YtpnkcjnemoompaaDoor.Fft Go.Proofs.YtpnkcjnemoompaaDoor.Kern Go.Proofs.YtpnkcjnemoompaaDoorW.PrintWords Go.Proofs.YtpnkcjnemoompaaDoorW.PrintLast Go.Proofs.YtpnkcjnemoompaaDoorW.PrintMore
set_option linter.unusedVariables false
set_option linter.unusedSimpArgs false
set_option maxRecDepth 100000
theorem ptr_some (p : Nat) (w : World) : (Go.binOp .eql 26 (.pointer none) (.pointer (some ⟨p, 0, none⟩))).run Tryd.prog w = .ok (.bool false) w := by
  first | rfl | simp [go_sem] | (go_simp; done) | (unfold Go.binOp; go_simp; done)
theorem ptr_none (w : World) : (Go.binOp .eql 26 (.pointer none) (.pointer none)).run Tryd.prog w = .ok (.bool true) w := by
  first | rfl | simp [go_sem] | (go_simp; done) | (unfold Go.binOp; go_simp; done)
attribute [local go_sem high] ptr_some ptr_none
set_option maxHeartbeats 4000000 in
theorem idx_no (q n c : Nat) (hn : n ≤ 1048576) (w : World) (h : ∀ i, i < n → ∃ p, w.cell? ⟨q, i, none⟩ = some (.pointer (some ⟨p, 0, none⟩))) :
    Calls Tryd.prog 128 #[.slice (some ⟨q, 0, none⟩) n c, .pointer none] w fun e w' => e = .returned (.int .i64 (-1)) ∧ Below w.heap.size w w' := by
  have HC := Aside0.mk h
  have HB := Aside0.mk (Below.refl w.heap.size w)
  clear h
  go_enter Tryd.func128, Tryd.ntmps128
  go_wp2
  go_loopw [8] (fun v8 wr => ∃ i : Nat, v8 = .int .i64 i ∧ i ≤ n ∧ Aside0 (Below w.heap.size w wr)) (fun v8 _ => n - (intOf v8).toNat)
  case atStart => exact ⟨0, rfl, Nat.zero_le _, HB⟩
  case round =>
    clear HB
    obtain ⟨i, rfl, hi, HB⟩ := hrel
    by_cases h1 : i < n
    · have hia : (i : Int) < (n : Int) := by omega
      have hib : decide ((i : Int) < (n : Int)) = true := decide_eq_true hia
      have hic : decide (i < n) = true := decide_eq_true h1
      have hi0 : (0 : Int) ≤ (i : Int) := by omega
      obtain ⟨p, hp⟩ := HC.out i h1
      have hc := pw_cell_below HB.out hp
      clear hp
      go_wp2
      go_roundw
      case rel => exact ⟨i + 1, by go_num, by omega, HB⟩
      case measure => simp [intOf]; omega
    · obtain rfl : i = n := by omega
      have hia : decide ((i : Int) < (i : Int)) = false := decide_eq_false (by omega)
      have hic : decide (i < i) = false := decide_eq_false (by omega)
      go_wp2
      go_ret
      exact ⟨rfl, HB.out⟩
set_option maxHeartbeats 4000000 in
theorem idx_two (q p c : Nat) (w : World) (h0 : w.cell? ⟨q, 0, none⟩ = some (.pointer (some ⟨p, 0, none⟩))) (h1 : w.cell? ⟨q, 1, none⟩ = some (.pointer none)) :
    Calls Tryd.prog 128 #[.slice (some ⟨q, 0, none⟩) 2 c, .pointer none] w fun e w' => e = .returned (.int .i64 1) ∧ Below w.heap.size w w' := by
  have HB := Aside0.mk (Below.refl w.heap.size w)
  have H0 := Aside0.mk h0
  have H1 := Aside0.mk h1
  clear h0 h1
  go_enter Tryd.func128, Tryd.ntmps128
  go_wp2
  go_loopw [8] (fun v8 wr => ∃ i : Nat, v8 = .int .i64 i ∧ i ≤ 1 ∧ Aside0 (Below w.heap.size w wr)) (fun v8 _ => 2 - (intOf v8).toNat)
  case atStart => exact ⟨0, rfl, Nat.zero_le _, HB⟩
  case round =>
    clear HB
    obtain ⟨i, rfl, hi, HB⟩ := hrel
    rcases (by omega : i = 0 ∨ i = 1) with rfl | rfl
    · have hc := pw_cell_below HB.out H0.out
      go_wp2
      go_roundw
      case rel => exact ⟨1, by go_num, by omega, HB⟩
      case measure => simp [intOf]
    · have hc := pw_cell_below HB.out H1.out
      go_wp2
      go_ret
      exact ⟨rfl, HB.out⟩
theorem cont_no (q n c : Nat) (hn : n ≤ 1048576) (w : World) (h : ∀ i, i < n → ∃ p, w.cell? ⟨q, i, none⟩ = some (.pointer (some ⟨p, 0, none⟩))) :
    Calls Tryd.prog 106 #[.slice (some ⟨q, 0, none⟩) n c, .pointer none] w fun e w' => e = .returned (.bool false) ∧ Below w.heap.size w w' := by
  have HC := Aside0.mk h
  clear h
  go_enter Tryd.func106, Tryd.ntmps106
  go_wp2_with fail
  with_reducible refine (idx_no q n c hn _ HC.out).mono ?_
  rintro e w1 ⟨rfl, hb⟩
  have HB1 := Aside0.mk hb
  clear hb
  go_wp2
  go_ret
  exact ⟨rfl, HB1.out⟩
theorem cont_two (q p c : Nat) (w : World) (h0 : w.cell? ⟨q, 0, none⟩ = some (.pointer (some ⟨p, 0, none⟩))) (h1 : w.cell? ⟨q, 1, none⟩ = some (.pointer none)) :
    Calls Tryd.prog 106 #[.slice (some ⟨q, 0, none⟩) 2 c, .pointer none] w fun e w' => e = .returned (.bool true) ∧ Below w.heap.size w w' := by
  have H0 := Aside0.mk h0
  have H1 := Aside0.mk h1
  clear h0 h1
  go_enter Tryd.func106, Tryd.ntmps106
  go_wp2_with fail
  with_reducible refine (idx_two q p c _ H0.out H1.out).mono ?_
  rintro e w1 ⟨rfl, hb⟩
  have HB1 := Aside0.mk hb
  clear hb
  go_wp2
  go_ret
  exact ⟨rfl, HB1.out⟩
theorem gsum_none (w : World) : Calls Tryd.prog 65 #[.slice none 0 0] w fun e w' => e = .returned (.tuple #[.pointer none, .int .i64 1]) ∧ Below w.heap.size w w' := by
  have HB := Aside0.mk (Below.refl w.heap.size w)
  go_enter Tryd.func65, Tryd.ntmps65
  go_wp2
  go_ret2
  exact ⟨rfl, HB.out⟩
theorem gsum_nil (q p c : Nat) (w : World) (h0 : w.cell? ⟨q, 0, none⟩ = some (.pointer (some ⟨p, 0, none⟩))) (h1 : w.cell? ⟨q, 1, none⟩ = some (.pointer none)) : Calls Tryd.prog 65 #[.slice (some ⟨q, 0, none⟩) 2 c] w fun e w' => e = .returned (.tuple #[.pointer none, .int .i64 1]) ∧ Below w.heap.size w w' := by
  have H0 := Aside0.mk h0
  have H1 := Aside0.mk h1
  clear h0 h1
  go_enter Tryd.func65, Tryd.ntmps65
  go_wp2_with fail
  with_reducible refine (cont_two q p c _ H0.out H1.out).mono ?_
  rintro e w1 ⟨rfl, hb⟩
  have HB1 := Aside0.mk hb
  clear hb
  go_wp2
  go_ret2
  exact ⟨rfl, HB1.out⟩
set_option maxHeartbeats 8000000 in
theorem gsum_odd (q p g cg p2 g2 cg2 c : Nat) (R C R2 C2 : Int) (xs ys : List Int) (hp : 0 < xs.length) (hL : xs.length ≤ 1048576) (hne : (R2 == R && (C2 == C)) = false) (hc2 : 2 ≤ c) (w : World) (h0 : w.cell? ⟨q, 0, none⟩ = some (.pointer (some ⟨p, 0, none⟩))) (h1 : w.cell? ⟨q, 1, none⟩ = some (.pointer (some ⟨p2, 0, none⟩))) (hG : Gd w p g cg R C xs) (hQ : Gd w p2 g2 cg2 R2 C2 ys) :
    Calls Tryd.prog 65 #[.slice (some ⟨q, 0, none⟩) 2 c] w fun e w' => e = .returned (.tuple #[.pointer none, .int .i64 19]) ∧ Below w.heap.size w w' := by
  have H0 := Aside0.mk h0
  have H1 := Aside0.mk h1
  have HG0 := Aside0.mk hG
  have HQ0 := Aside0.mk hQ
  have HNE := Aside0.mk hne
  clear h0 h1 hG hQ hne
  go_enter Tryd.func65, Tryd.ntmps65
  go_wp2_with fail
  with_reducible refine (cont_no q 2 c (by decide) _ (fun i hi => by rcases (by omega : i = 0 ∨ i = 1) with rfl | rfl; exact ⟨_, H0.out⟩; exact ⟨_, H1.out⟩)).mono ?_
  rintro e w1 ⟨rfl, hb⟩
  have HB1 := Aside0.mk hb
  have u0 := pw_cell_below hb H0.out
  clear hb
  go_wp2_with fail
  clear u0
  with_reducible refine (gcopy p g cg R C xs hp hL _ (HG0.out.below HB1.out)).mono ?_
  rintro e w2 ⟨po, go_, co, rfl, hg, hb, hpo, hgo⟩
  have HB2 := Aside0.mk (below_then HB1.out HB1.out.size hb)
  have HO2 := Aside0.mk hg
  clear hb hg HB1 hpo hgo
  go_wp2
  go_loopw [24] (fun v24 wr => v24 = .int .i64 0 ∧ Aside0 (Below w.heap.size w wr) ∧ Aside0 (Gd wr po go_ co R C xs)) (fun _ _ => 0)
  case atStart => exact ⟨rfl, HB2, HO2⟩
  case round =>
    clear HB2 HO2
    obtain ⟨rfl, HB, HO⟩ := hrel
    have u1 := pw_cell_below HB.out H1.out
    go_wp2_with fail
    clear u1
    with_reducible refine (gcheck_of po p2 R C R2 C2 19 false HNE.out rfl _ HO.out.c0 HO.out.c1 (HQ0.out.below HB.out).c0 (HQ0.out.below HB.out).c1).mono ?_
    rintro e w3 ⟨rfl, hb⟩
    have HB3 := Aside0.mk (below_then HB.out HB.out.size hb)
    clear hb
    go_wp2
    go_ret2
    exact ⟨rfl, HB3.out⟩
end Go.Proofs.YtpnkcjnemoompaaDoor.Grid
end
section
namespace Go.Proofs.YtpnkcjnemoompaaDoor.Grid
open Go.RowKit Go.Proofs.YtpnkcjnemoompaaDoor Go.Proofs.YtpnkcjnemoompaaDoor.Ext Go.Proofs.YtpnkcjnemoompaaDoor.PPlan Go.Proofs.YtpnkcjnemoompaaDoor.PFft Go.Proofs.YtpnkcjnemoompaaDoor.Pure Go.Proofs.YtpnkcjnemoompaaDoor.Obj Go.Proofs.YtpnkcjnemoompaaDoor.Fft Go.Proofs.YtpnkcjnemoompaaDoor.Kern Go.Proofs.YtpnkcjnemoompaaDoorW.PrintWords Go.Proofs.YtpnkcjnemoompaaDoorW.PrintLast Go.Proofs.YtpnkcjnemoompaaDoorW.PrintMore
set_option linter.unusedVariables false
set_option linter.unusedSimpArgs false
set_option maxRecDepth 100000
def sms (n : Nat) (f0 : Nat → F) (f : Nat → Nat → F) (i : Nat) : List Int := tb n fun t => f0 t + sm i fun j => f j t
theorem sms_zero (n : Nat) (f0 : Nat → F) (f : Nat → Nat → F) : sms n f0 f 0 = tb n f0 := tb_congr fun t _ => by rw [sm_zero]; grobner
theorem sms_next (n : Nat) (f0 : Nat → F) (f : Nat → Nat → F) (i : Nat) : upto (sms n f0 f i) (fun t => fv ((f0 t + sm i fun j => f j t) + f i t)) n = sms n f0 f (i + 1) := by
  rw [upto_all (sms n f0 f i) _ n (tb_len _ _)]
  show tb n (fun t => (f0 t + sm i fun j => f j t) + f i t) = _
  refine tb_congr fun t _ => ?_
  rw [sm_succ]
  grobner
set_option maxHeartbeats 16000000 in
theorem gsum_yes (q c m n p0 g0 c0 : Nat) (R C : Int) (f0 : Nat → F) (P G Cc : Nat → Nat) (f : Nat → Nat → F) (hn0 : 0 < n) (hn : n ≤ 1048576) (hm : m ≤ 1024) (hm1 : 1 ≤ m) (hc : m + 1 ≤ c) (w : World)
    (h0 : w.cell? ⟨q, 0, none⟩ = some (.pointer (some ⟨p0, 0, none⟩))) (h1 : ∀ i, i < m → w.cell? ⟨q, 1 + i, none⟩ = some (.pointer (some ⟨P i, 0, none⟩)))
    (hG : Gd w p0 g0 c0 R C (tb n f0)) (hQ : ∀ i, i < m → Gd w (P i) (G i) (Cc i) R C (tb n (f i))) :
    Calls Tryd.prog 65 #[.slice (some ⟨q, 0, none⟩) (m + 1) c] w fun e w' => ∃ po go_ co, e = .returned (.tuple #[.pointer (some ⟨po, 0, none⟩), .int .i64 0]) ∧ Gd w' po go_ co R C (sms n f0 f m) ∧ Below w.heap.size w w' ∧ w.heap.size ≤ po ∧ w.heap.size ≤ go_ := by
  have H0 := Aside0.mk h0
  have H1 := Aside0.mk h1
  have HG0 := Aside0.mk hG
  have HQ0 := Aside0.mk hQ
  have HC := Aside0.mk (show (R == R && (C == C)) = true by simp)
  have HAll := Aside0.mk (show ∀ i, i < m + 1 → ∃ p, w.cell? ⟨q, i, none⟩ = some (.pointer (some ⟨p, 0, none⟩)) from fun i hi => by
    rcases Nat.eq_zero_or_pos i with rfl | h
    · exact ⟨_, h0⟩
    · have := h1 (i - 1) (by omega)
      rw [show 1 + (i - 1) = i by omega] at this
      exact ⟨_, this⟩)
  have dz : ((((m + 1 : Nat)) : Int) == 0) = false := beq_eq_false_iff_ne.2 (by omega)
  clear h0 h1 hG hQ
  obtain ⟨M, hM⟩ : ∃ M, M = m + 1 := ⟨_, rfl⟩
  rw [← hM] at dz hc ⊢
  have HMe := Aside0.mk hM
  have hcf : (c = 1) = False := eq_false (by omega)
  have z0 : (0 : Int) < (M : Int) := by omega
  have z1 : (1 : Int) ≤ (M : Int) := by omega
  have z2 : (M : Int) ≤ (c : Int) := by omega
  clear hM
  go_enter Tryd.func65, Tryd.ntmps65
  go_wp2_with fail
  with_reducible refine (cont_no q M c (by have := HMe.out; omega) _ (by rw [HMe.out]; exact HAll.out)).mono ?_
  rintro e w1 ⟨rfl, hb⟩
  have HB1 := Aside0.mk hb
  have u0 := pw_cell_below hb H0.out
  clear hb
  go_wp2_with fail
  clear u0
  have hcp := gcopy p0 g0 c0 R C (tb n f0) (by rw [tb_len]; exact hn0) (by rw [tb_len]; exact hn) _ (HG0.out.below HB1.out)
  with_reducible refine hcp.mono ?_
  clear hcp
  rintro e w2 ⟨po, go_, co, rfl, hg, hb, hpo, hgo⟩
  have HB2 := Aside0.mk (below_then HB1.out HB1.out.size hb)
  have HO2 := Aside0.mk (show Gd w2 po go_ co R C (sms n f0 f 0) by rw [sms_zero]; exact hg)
  have HGe := Aside0.mk (show w.heap.size ≤ po ∧ w.heap.size ≤ go_ by have := HB1.out.size; omega)
  clear hb hg HB1 hpo hgo
  go_wp2
  have hMm : M - 1 = m := by have := HMe.out; omega
  rw [hMm]
  clear dz z0 z1 z2 hcf hMm
  go_loopw [24] (fun v24 wr => ∃ i : Nat, v24 = .int .i64 i ∧ i ≤ m ∧ Aside0 (Below w.heap.size w wr) ∧ Aside0 (Gd wr po go_ co R C (sms n f0 f i))) (fun v24 _ => m - (intOf v24).toNat)
  case atStart => exact ⟨0, rfl, Nat.zero_le _, HB2, HO2⟩
  case round =>
    clear HB2 HO2
    obtain ⟨i, rfl, hi, HB, HO⟩ := hrel
    by_cases hi1 : i < m
    · have hia : (i : Int) < (m : Int) := by omega
      have hib : decide ((i : Int) < (m : Int)) = true := decide_eq_true hia
      have hic : decide (i < m) = true := decide_eq_true hi1
      have hi0 : (0 : Int) ≤ (i : Int) := by omega
      have u1 := pw_cell_below HB.out (H1.out i hi1)
      have hgi := HQ0.out i hi1
      obtain ⟨ff, hff⟩ : ∃ z, z = fun t => fv ((f0 t + sm i fun j => f j t) + f i t) := ⟨_, rfl⟩
      have HNx := Aside0.mk (show upto (sms n f0 f i) ff n = sms n f0 f (i + 1) by rw [hff]; exact sms_next n f0 f i)
      have HAd := Aside0.mk (show ∀ t, t < n → gold_Add.f ((sms n f0 f i).getD t 0) ((tb n (f i)).getD t 0) = some (ff t) from fun t ht => by
        unfold sms
        rw [tb_get _ ht, tb_get _ ht, hff, gAdd _ _ (fv_w _) (fv_w _), fo_fv, fo_fv])
      have hsl : (sms n f0 f i).length = n := tb_len _ _
      have hyl : (tb n (f i)).length = n := tb_len _ _
      obtain ⟨S, hS⟩ : ∃ z, z = sms n f0 f i := ⟨_, rfl⟩
      obtain ⟨Y, hY⟩ : ∃ z, z = tb n (f i) := ⟨_, rfl⟩
      rw [← hS] at HNx HAd hsl HO
      rw [← hY] at HAd hyl hgi
      clear hS hff
      generalize P i = p at *
      generalize G i = g at *
      generalize Cc i = cg at *
      have HGi := Aside0.mk hgi
      clear hgi
      go_wp2_with fail
      clear u1
      with_reducible refine (gcheck_of po p R C R C 0 true HC.out rfl _ HO.out.c0 HO.out.c1 (HGi.out.below HB.out).c0 (HGi.out.below HB.out).c1).mono ?_
      rintro e w3 ⟨rfl, hb⟩
      have HB3 := Aside0.mk (below_then HB.out HB.out.size hb)
      have HO3 := Aside0.mk (show Gd w3 po go_ co R C (upto S ff 0) from HO.out.below hb)
      have u2 := (HGi.out.below HB3.out).c2
      rw [hyl] at u2
      clear hb HB HO
      go_wp2
      clear u2
      go_loopw [39] (fun v39 wr => ∃ j : Nat, v39 = .int .i64 j ∧ j ≤ n ∧ Aside0 (Below w.heap.size w wr) ∧ Aside0 (Gd wr po go_ co R C (upto S ff j))) (fun v39 _ => n - (intOf v39).toNat)
      case atStart => exact ⟨0, rfl, Nat.zero_le _, HB3, HO3⟩
      case round =>
        clear HB3 HO3
        obtain ⟨j, rfl, hj, HB, HO⟩ := hrel
        by_cases hj1 : j < n
        · have hja : (j : Int) < (n : Int) := by omega
          have hjb : decide ((j : Int) < (n : Int)) = true := decide_eq_true hja
          have hjc : decide (j < n) = true := decide_eq_true hj1
          have hj0 : (0 : Int) ≤ (j : Int) := by omega
          have e1 : (upto S ff j).getD j 0 = S.getD j 0 := upto_ge S ff j j (Nat.le_refl _)
          have el1 : (upto S ff j).length = n := by rw [upto_len, hsl]
          have hx := HO.out.row.cell j (by rw [el1]; exact hj1)
          have hy := (HGi.out.below HB.out).row.cell j (by rw [hyl]; exact hj1)
          have hadd := HAd.out j hj1
          have hc2 := HO.out.c2
          rw [e1] at hx
          rw [el1] at hc2
          generalize S.getD j 0 = x at *
          generalize Y.getD j 0 = y at *
          have HX := Aside0.mk hx
          have HC2 := Aside0.mk hc2
          have HAdd := Aside0.mk hadd
          clear e1 hx hadd hc2
          go_wp2_with fail
          clear hy
          refine start_ (n := 16) (S := fun w' => w'.cell? ⟨po, 2, none⟩ = some (.slice (some ⟨go_, 0, none⟩) n co) ∧ w'.cell? ⟨go_, j, none⟩ = some (.int .u64 x) ∧ Aside0 (Below w.heap.size w w' ∧ Gd w' po go_ co R C (upto S ff j))) (ds := [15]) #[false, false, false, false, false, false, false, false, false, false, false, false, false, false, false, false] (by kernel_rfl) rfl rfl ⟨HC2.out, HX.out, ⟨below_drew1 HB.out, HO.out.drew⟩⟩ (fun hHeld => ?_)
          refine pure_ (i := 0) (N := some 44) (v := ?_) (a' := ?_) #[true, false, false, false, false, false, false, false, false, false, false, false, false, false, false, false] rfl rfl (by kernel_rfl) (fun _ _ _ h => h) (Or.inl ⟨by rfl, ?_⟩) ?_ ?_
          rotate_left
          · intro w'
            go_simp
            with_reducible rfl
          rotate_left
          · simp only [Act.put, List.setIfInBounds_toArray, List.set_cons_zero, List.set_cons_succ, i64_w, i32_w]
            rfl
          refine pure_ (i := 1) (N := some 45) (v := ?_) (a' := ?_) #[true, true, false, false, false, false, false, false, false, false, false, false, false, false, false, false] rfl rfl (by kernel_rfl) (fun _ _ _ h => h) (Or.inl ⟨by rfl, ?_⟩) ?_ ?_
          rotate_left
          · intro w'
            go_simp
            with_reducible rfl
          rotate_left
          · simp only [Act.put, List.setIfInBounds_toArray, List.set_cons_zero, List.set_cons_succ, i64_w, i32_w]
            rfl
          refine pure_ (i := 2) (N := some 46) (v := ?_) (a' := ?_) #[true, true, true, false, false, false, false, false, false, false, false, false, false, false, false, false] rfl rfl (by kernel_rfl) (fun _ _ _ h => h) (Or.inl ⟨by rfl, ?_⟩) ?_ ?_
          rotate_left
          · intro w'
            go_simp
            with_reducible rfl
          rotate_left
          · simp only [Act.put, List.setIfInBounds_toArray, List.set_cons_zero, List.set_cons_succ, i64_w, i32_w]
            rfl
          refine pure_ (i := 4) (N := some 48) (v := ?_) (a' := ?_) #[true, true, true, false, true, false, false, false, false, false, false, false, false, false, false, false] rfl rfl (by kernel_rfl) (fun _ _ _ h => h) (Or.inl ⟨by rfl, ?_⟩) ?_ ?_
          rotate_left
          · intro w'
            go_simp
            with_reducible rfl
          rotate_left
          · simp only [Act.put, List.setIfInBounds_toArray, List.set_cons_zero, List.set_cons_succ, i64_w, i32_w]
            rfl
          refine pure_ (i := 5) (N := some 49) (v := ?_) (a' := ?_) #[true, true, true, false, true, true, false, false, false, false, false, false, false, false, false, false] rfl rfl (by kernel_rfl) (fun _ _ _ h => h) (Or.inl ⟨by rfl, ?_⟩) ?_ ?_
          rotate_left
          · intro w'
            go_simp
            with_reducible rfl
          rotate_left
          · simp only [Act.put, List.setIfInBounds_toArray, List.set_cons_zero, List.set_cons_succ, i64_w, i32_w]
            rfl
          refine pure_ (i := 6) (N := some 50) (v := ?_) (a' := ?_) #[true, true, true, false, true, true, true, false, false, false, false, false, false, false, false, false] rfl rfl (by kernel_rfl) (fun _ _ _ h => h) (Or.inl ⟨by rfl, ?_⟩) ?_ ?_
          rotate_left
          · intro w'
            go_simp
            with_reducible rfl
          rotate_left
          · simp only [Act.put, List.setIfInBounds_toArray, List.set_cons_zero, List.set_cons_succ, i64_w, i32_w]
            rfl
          refine pure_ (i := 7) (N := some 51) (v := ?_) (a' := ?_) #[true, true, true, false, true, true, true, true, false, false, false, false, false, false, false, false] rfl rfl (by kernel_rfl) (fun _ _ _ h => h) (Or.inl ⟨by rfl, ?_⟩) ?_ ?_
          rotate_left
          · intro w'
            go_simp
            with_reducible rfl
          rotate_left
          · simp only [Act.put, List.setIfInBounds_toArray, List.set_cons_zero, List.set_cons_succ, i64_w, i32_w]
            rfl
          refine pure_ (i := 9) (N := some 53) (v := ?_) (a' := ?_) #[true, true, true, false, true, true, true, true, false, true, false, false, false, false, false, false] rfl rfl (by kernel_rfl) (fun _ _ _ h => h) (Or.inl ⟨by rfl, ?_⟩) ?_ ?_
          rotate_left
          · intro w'
            go_simp
            with_reducible rfl
          rotate_left
          · simp only [Act.put, List.setIfInBounds_toArray, List.set_cons_zero, List.set_cons_succ, i64_w, i32_w]
            rfl
          refine pure_ (i := 12) (N := some 56) (v := ?_) (a' := ?_) #[true, true, true, false, true, true, true, true, false, true, false, false, true, false, false, false] rfl rfl (by kernel_rfl) (fun _ _ _ h => h) (Or.inl ⟨by rfl, ?_⟩) ?_ ?_
          rotate_left
          · intro w'
            go_simp
            with_reducible rfl
          rotate_left
          · simp only [Act.put, List.setIfInBounds_toArray, List.set_cons_zero, List.set_cons_succ, i64_w, i32_w]
            rfl
          refine take_ (i := 3) (N := some 47) (v := ?_) (a' := ?_) #[true, true, true, true, true, true, true, true, false, true, false, false, true, false, false, false] rfl rfl (by kernel_rfl) (fun _ _ _ h => h) (Or.inl ⟨by rfl, ?_⟩) hHeld ?_ ?_
          rotate_left
          · rintro w' ⟨s0, s1, s2⟩
            go_simp
            with_reducible rfl
          rotate_left
          · simp only [Act.put, List.setIfInBounds_toArray, List.set_cons_zero, List.set_cons_succ, i64_w, i32_w]
            rfl
          refine take_ (i := 8) (N := some 52) (v := ?_) (a' := ?_) #[true, true, true, true, true, true, true, true, true, true, false, false, true, false, false, false] rfl rfl (by kernel_rfl) (fun _ _ _ h => h) (Or.inl ⟨by rfl, ?_⟩) hHeld ?_ ?_
          rotate_left
          · rintro w' ⟨s0, s1, s2⟩
            go_simp
            with_reducible rfl
          rotate_left
          · simp only [Act.put, List.setIfInBounds_toArray, List.set_cons_zero, List.set_cons_succ, i64_w, i32_w]
            rfl
          refine pure_ (i := 10) (N := some 54) (v := ?_) (a' := ?_) #[true, true, true, true, true, true, true, true, true, true, true, false, true, false, false, false] rfl rfl (by kernel_rfl) (fun _ _ _ h => h) (Or.inl ⟨by rfl, ?_⟩) ?_ ?_
          rotate_left
          · intro w'
            go_simp
            with_reducible rfl
          rotate_left
          · simp only [Act.put, List.setIfInBounds_toArray, List.set_cons_zero, List.set_cons_succ, i64_w, i32_w]
            rfl
          refine take_ (i := 11) (N := some 55) (v := ?_) (a' := ?_) #[true, true, true, true, true, true, true, true, true, true, true, true, true, false, false, false] rfl rfl (by kernel_rfl) (fun _ _ _ h => h) (Or.inl ⟨by rfl, ?_⟩) hHeld ?_ ?_
          rotate_left
          · rintro w' ⟨s0, s1, s2⟩
            go_simp
            with_reducible rfl
          rotate_left
          · simp only [Act.put, List.setIfInBounds_toArray, List.set_cons_zero, List.set_cons_succ, i64_w, i32_w]
            rfl
          refine one_ (i := 13) (N := some 57) #[true, true, true, true, true, true, true, true, true, true, true, true, true, true, false, false] rfl rfl (by kernel_rfl) (by decide) (fun K hK => ?_)
          refine goes_ Tryd.func107 (by kernel_rfl) rfl #[.int .u64 x, .int .u64 y] (by rfl) rfl rfl (by simp only [List.map_toArray, List.map_cons, List.map_nil]; rfl) ?_
          with_reducible refine (gold_Add.calls x y (ff j) _ HAdd.out).mono ?_
          rintro e w4 ⟨rfl, hb⟩
          refine ⟨_, rfl, ?_⟩
          have n0 := pw_cell_below hb hHeld.1
          have n1 := pw_cell_below hb hHeld.2.1
          have nS := And.intro (below_then hHeld.2.2.out.1 hHeld.2.2.out.1.size hb) (hHeld.2.2.out.2.below hb)
          clear hHeld hb
          refine hK.out _ _ ⟨n0, n1, ⟨nS⟩⟩ (fun hHeld => ?_)
          clear hK K
          refine norm_ (a' := ?_) ?_ ?_
          rotate_left
          · show Act.put _ (some 57) _ = _
            simp only [Act.put, List.setIfInBounds_toArray, List.set_cons_zero, List.set_cons_succ, i64_w, i32_w]
            rfl
          refine pure_ (i := 14) (N := some 58) (v := ?_) (a' := ?_) #[true, true, true, true, true, true, true, true, true, true, true, true, true, true, true, false] rfl rfl (by kernel_rfl) (fun _ _ _ h => h) (Or.inl ⟨by rfl, ?_⟩) ?_ ?_
          rotate_left
          · intro w'
            go_simp
            with_reducible rfl
          rotate_left
          · simp only [Act.put, List.setIfInBounds_toArray, List.set_cons_zero, List.set_cons_succ, i64_w, i32_w]
            rfl
          refine last_ (i := 15) (N := none) #[true, true, true, true, true, true, true, true, true, true, true, true, true, true, true, true] rfl rfl (by kernel_rfl) (by decide) (fun K hK => ?_)
          have c1 := hHeld.2.1
          have f1 := hHeld.2.2.out.2.row.frozen j
          have HB5 := Aside0.mk (below_set (v := .int .u64 (ff j)) (j := j) hHeld.2.2.out.1 HGe.out.2)
          have HO5 := Aside0.mk (show Gd _ po go_ co R C (upto S ff (j + 1)) from ⟨by rw [upto_len, hsl]; have h := hHeld.2.2.out.2.obj; rw [upto_len, hsl] at h; exact h.far j _ hHeld.2.2.out.2.ne, hHeld.2.2.out.2.row.put j (ff j)⟩)
          refine skip_ (w1 := ?_) (by rfl) rfl ?_ ?_
          rotate_left
          · go_simp
            rfl
          refine hK.out _ _ ?_
          clear hK K
          refine done_ (by kernel_rfl) ?_
          clear hHeld HX HC2
          go_wp2
          go_roundw
          case rel => exact ⟨j + 1, by go_num, by omega, HB5, HO5⟩
          case measure => simp [intOf]; omega
        · obtain rfl : j = n := by omega
          have hja : decide ((j : Int) < (j : Int)) = false := decide_eq_false (by omega)
          have hjc : decide (j < j) = false := decide_eq_false (by omega)
          rw [HNx.out] at HO
          go_wp2
          go_roundw
          case rel => exact ⟨i + 1, by go_num, by omega, HB, HO⟩
          case measure => simp [intOf]; omega
    · obtain rfl : i = m := by omega
      have hia : decide ((i : Int) < (i : Int)) = false := decide_eq_false (by omega)
      have hic : decide (i < i) = false := decide_eq_false (by omega)
      go_wp2
      go_ret2
      exact ⟨po, go_, co, rfl, HO.out, HB.out, HGe.out.1, HGe.out.2⟩
end Go.Proofs.YtpnkcjnemoompaaDoor.Grid
end
section
namespace Go.Proofs.YtpnkcjnemoompaaDoor.Grid
open Go.RowKit Go.Proofs.YtpnkcjnemoompaaDoor Go.Proofs.YtpnkcjnemoompaaDoor.Ext Go.Proofs.YtpnkcjnemoompaaDoor.PPlan Go.Proofs.YtpnkcjnemoompaaDoor.PFft Go.Proofs.YtpnkcjnemoompaaDoor.Pure Go.Proofs.YtpnkcjnemoompaaDoor.Obj Go.Proofs.YtpnkcjnemoompaaDoor.Fft Go.Proofs.YtpnkcjnemoompaaDoor.Kern Go.Proofs.YtpnkcjnemoompaaDoorW.PrintWords Go.Proofs.YtpnkcjnemoompaaDoorW.PrintLast Go.Proofs.YtpnkcjnemoompaaDoorW.PrintMore
set_option linter.unusedVariables false
set_option linter.unusedSimpArgs false
set_option maxRecDepth 100000
attribute [local go_sem high] eqA23
set_option maxHeartbeats 4000000 in
theorem su_nil1 (A B : Option Addr) (c e0 : Nat) (l q : List Int) (R C : Int) (w : World) (hl : In w A c l) (hq : In w B e0 q) (hWl : Ws l) (hWq : Ws q) (h : ¬ (l.length ≤ 64 ∧ GoodS R C ∧ R * C = (l.length : Int))) (hT : TabOK w) :
    Calls Tryd.prog 13 #[.agg #[.int .i64 R, .int .i64 C], .slice A l.length c, .slice B q.length e0] w fun e w' => e = .returned (.bool true) ∧ Below w.heap.size w w' := by
  have HWl := Aside0.mk hWl
  have HWq := Aside0.mk hWq
  have HN := Aside0.mk h
  clear hWl hWq h
  have HT0 := Aside0.mk hT
  have HB := Aside0.mk (below_alloc (Below.refl w.heap.size w) (Obj.cells #[.int .i64 R, .int .i64 C] 23))
  have HS := Aside0.mk (Bk.new w 23 [.int .i64 R, .int .i64 C])
  have HL0 := Aside0.mk hl
  have HQ0 := Aside0.mk hq
  obtain ⟨bs, hbs⟩ : ∃ z, z = w.heap.size := ⟨_, rfl⟩
  have hbg : w.heap.size ≤ bs := by omega
  clear hT hl hq
  go_enter Tryd.func13, Tryd.ntmps13
  go_wp2_with fail
  with_reducible refine (gawake _ (HT0.out.below HB.out)).mono ?_
  rintro e w1 ⟨rfl, hb⟩
  rw [← hbs] at HS ⊢
  clear hbs
  have HB1 := Aside0.mk (below_then HB.out HB.out.size hb)
  have HS1 := Aside0.mk (HS.out.below hb)
  clear hb HB HS
  go_wp2_with fail
  refine start_ (n := 8) (S := fun w' => w'.cell? ⟨bs, 0, none⟩ = some (.int .i64 R) ∧ w'.cell? ⟨bs, 1, none⟩ = some (.int .i64 C) ∧ Aside0 (Below w.heap.size w w' ∧ Bk w' bs 23 [.int .i64 R, .int .i64 C])) (ds := []) #[false, false, false, false, false, false, false, false] (by kernel_rfl) rfl rfl ⟨HS1.out.drew.cell 0, HS1.out.drew.cell 1, ⟨below_drew1 HB1.out, HS1.out.drew⟩⟩ (fun hHeld => ?_)
  refine pure_ (i := 1) (N := some 22) (v := ?_) (a' := ?_) #[false, true, false, false, false, false, false, false] rfl rfl (by kernel_rfl) (fun _ _ _ h => h) (Or.inl ⟨by rfl, ?_⟩) ?_ ?_
  rotate_left
  · intro w'
    go_simp
    with_reducible rfl
  rotate_left
  · simp only [Act.put, List.setIfInBounds_toArray, List.set_cons_zero, List.set_cons_succ, i64_w, i32_w]
    rfl
  refine pure_ (i := 4) (N := some 25) (v := ?_) (a' := ?_) #[false, true, false, false, true, false, false, false] rfl rfl (by kernel_rfl) (fun _ _ _ h => h) (Or.inl ⟨by rfl, ?_⟩) ?_ ?_
  rotate_left
  · intro w'
    go_simp
    with_reducible rfl
  rotate_left
  · simp only [Act.put, List.setIfInBounds_toArray, List.set_cons_zero, List.set_cons_succ, i64_w, i32_w]
    rfl
  refine take_ (i := 0) (N := some 21) (v := ?_) (a' := ?_) #[true, true, false, false, true, false, false, false] rfl rfl (by kernel_rfl) (fun _ _ _ h => h) (Or.inl ⟨by rfl, ?_⟩) hHeld ?_ ?_
  rotate_left
  · rintro w' ⟨s0, s1, s2⟩
    go_simp
    with_reducible rfl
  rotate_left
  · simp only [Act.put, List.setIfInBounds_toArray, List.set_cons_zero, List.set_cons_succ, i64_w, i32_w]
    rfl
  refine take_ (i := 3) (N := some 24) (v := ?_) (a' := ?_) #[true, true, false, true, true, false, false, false] rfl rfl (by kernel_rfl) (fun _ _ _ h => h) (Or.inl ⟨by rfl, ?_⟩) hHeld ?_ ?_
  rotate_left
  · rintro w' ⟨s0, s1, s2⟩
    go_simp
    with_reducible rfl
  rotate_left
  · simp only [Act.put, List.setIfInBounds_toArray, List.set_cons_zero, List.set_cons_succ, i64_w, i32_w]
    rfl
  refine one_ (i := 2) (N := some 23) #[true, true, true, true, true, false, false, false] rfl rfl (by kernel_rfl) (by decide) (fun K hK => ?_)
  refine goes_ Tryd.func24 (by kernel_rfl) rfl #[.agg #[.int .i64 R, .int .i64 C], .slice A l.length c] (by rfl) rfl rfl (by simp only [List.map_toArray, List.map_cons, List.map_nil]; rfl) ?_
  with_reducible refine (made_no A c l R C _ HN.out (HT0.out.below hHeld.2.2.out.1)).mono ?_
  rintro e w2 ⟨rfl, hb⟩
  refine ⟨_, rfl, ?_⟩
  have nB := below_then hHeld.2.2.out.1 hHeld.2.2.out.1.size hb
  have nS := hHeld.2.2.out.2.below hb
  clear hHeld hb
  refine hK.out _ _ ⟨nS.cell 0, nS.cell 1, ⟨nB, nS⟩⟩ (fun hHeld => ?_)
  clear hK K
  refine norm_ (a' := ?_) ?_ ?_
  rotate_left
  · show Act.put _ (some 23) _ = _
    simp only [Act.put, List.setIfInBounds_toArray, List.set_cons_zero, List.set_cons_succ, i64_w, i32_w]
    rfl
  refine one_ (i := 5) (N := some 26) #[true, true, true, true, true, true, false, false] rfl rfl (by kernel_rfl) (by decide) (fun K hK => ?_)
  refine goes_ Tryd.func24 (by kernel_rfl) rfl #[.agg #[.int .i64 R, .int .i64 C], .slice B q.length e0] (by rfl) rfl rfl (by simp only [List.map_toArray, List.map_cons, List.map_nil]; rfl) ?_
  with_reducible refine (made_any B e0 q R C _ (HQ0.out.below hHeld.2.2.out.1) HWq.out (HT0.out.below hHeld.2.2.out.1)).mono ?_
  rintro e w3 ⟨p2, rfl, hb⟩
  refine ⟨_, rfl, ?_⟩
  have nB := below_then hHeld.2.2.out.1 hHeld.2.2.out.1.size hb
  have nS := hHeld.2.2.out.2.below hb
  clear hHeld hb
  refine hK.out _ _ ⟨nS.cell 0, nS.cell 1, ⟨nB, nS⟩⟩ (fun hHeld => ?_)
  clear hK K
  refine norm_ (a' := ?_) ?_ ?_
  rotate_left
  · show Act.put _ (some 26) _ = _
    simp only [Act.put, List.setIfInBounds_toArray, List.set_cons_zero, List.set_cons_succ, i64_w, i32_w]
    rfl
  refine pure_ (i := 6) (N := some 7) (v := ?_) (a' := ?_) #[true, true, true, true, true, true, true, false] rfl rfl (by kernel_rfl) (fun _ _ _ h => h) (Or.inl ⟨by rfl, ?_⟩) ?_ ?_
  rotate_left
  · intro w'
    go_simp
    with_reducible rfl
  rotate_left
  · simp only [Act.put, List.setIfInBounds_toArray, List.set_cons_zero, List.set_cons_succ, i64_w, i32_w]
    rfl
  refine pure_ (i := 7) (N := some 8) (v := ?_) (a' := ?_) #[true, true, true, true, true, true, true, true] rfl rfl (by kernel_rfl) (fun _ _ _ h => h) (Or.inl ⟨by rfl, ?_⟩) ?_ ?_
  rotate_left
  · intro w'
    go_simp
    with_reducible rfl
  rotate_left
  · simp only [Act.put, List.setIfInBounds_toArray, List.set_cons_zero, List.set_cons_succ, i64_w, i32_w]
    rfl
  refine done_ (by kernel_rfl) ?_
  clear hHeld
  go_wp2_with fail
  with_reducible refine (gsum_none _).mono ?_
  rintro e w4 ⟨rfl, hb⟩
  have HB4 := Aside0.mk (below_then nB nB.size hb)
  clear hb nB nS HB1 HS1
  go_wp2
  go_ret
  exact ⟨rfl, HB4.out⟩
set_option maxHeartbeats 4000000 in
theorem su_nil2 (A B : Option Addr) (c e0 : Nat) (l q : List Int) (R C : Int) (w : World) (hl : In w A c l) (hq : In w B e0 q) (hWl : Ws l) (hWq : Ws q) (h1 : l.length ≤ 64 ∧ GoodS R C ∧ R * C = (l.length : Int)) (h2 : ¬ (q.length ≤ 64 ∧ GoodS R C ∧ R * C = (q.length : Int))) (hT : TabOK w) :
    Calls Tryd.prog 13 #[.agg #[.int .i64 R, .int .i64 C], .slice A l.length c, .slice B q.length e0] w fun e w' => e = .returned (.bool true) ∧ Below w.heap.size w w' := by
  have HWl := Aside0.mk hWl
  have HWq := Aside0.mk hWq
  have hp : 0 < l.length := by
    obtain ⟨a, b, hab, ha, hb⟩ := good_ints h1.2.1
    have h2 := h1.2.2
    rw [ha, hb, ← Int.natCast_mul] at h2
    have h3 : 0 < 2 ^ a * 2 ^ b := Nat.mul_pos (Nat.two_pow_pos a) (Nat.two_pow_pos b)
    omega
  have HK := Aside0.mk h1
  have HN := Aside0.mk h2
  clear hWl hWq h1 h2
  have HT0 := Aside0.mk hT
  have HB := Aside0.mk (below_alloc (Below.refl w.heap.size w) (Obj.cells #[.int .i64 R, .int .i64 C] 23))
  have HS := Aside0.mk (Bk.new w 23 [.int .i64 R, .int .i64 C])
  have HL0 := Aside0.mk hl
  have HQ0 := Aside0.mk hq
  obtain ⟨bs, hbs⟩ : ∃ z, z = w.heap.size := ⟨_, rfl⟩
  have hbg : w.heap.size ≤ bs := by omega
  clear hT hl hq
  go_enter Tryd.func13, Tryd.ntmps13
  go_wp2_with fail
  with_reducible refine (gawake _ (HT0.out.below HB.out)).mono ?_
  rintro e w1 ⟨rfl, hb⟩
  rw [← hbs] at HS ⊢
  clear hbs
  have HB1 := Aside0.mk (below_then HB.out HB.out.size hb)
  have HS1 := Aside0.mk (HS.out.below hb)
  clear hb HB HS
  go_wp2_with fail
  refine start_ (n := 8) (S := fun w' => w'.cell? ⟨bs, 0, none⟩ = some (.int .i64 R) ∧ w'.cell? ⟨bs, 1, none⟩ = some (.int .i64 C) ∧ Aside0 (Below w.heap.size w w' ∧ Bk w' bs 23 [.int .i64 R, .int .i64 C])) (ds := []) #[false, false, false, false, false, false, false, false] (by kernel_rfl) rfl rfl ⟨HS1.out.drew.cell 0, HS1.out.drew.cell 1, ⟨below_drew1 HB1.out, HS1.out.drew⟩⟩ (fun hHeld => ?_)
  refine pure_ (i := 1) (N := some 22) (v := ?_) (a' := ?_) #[false, true, false, false, false, false, false, false] rfl rfl (by kernel_rfl) (fun _ _ _ h => h) (Or.inl ⟨by rfl, ?_⟩) ?_ ?_
  rotate_left
  · intro w'
    go_simp
    with_reducible rfl
  rotate_left
  · simp only [Act.put, List.setIfInBounds_toArray, List.set_cons_zero, List.set_cons_succ, i64_w, i32_w]
    rfl
  refine pure_ (i := 4) (N := some 25) (v := ?_) (a' := ?_) #[false, true, false, false, true, false, false, false] rfl rfl (by kernel_rfl) (fun _ _ _ h => h) (Or.inl ⟨by rfl, ?_⟩) ?_ ?_
  rotate_left
  · intro w'
    go_simp
    with_reducible rfl
  rotate_left
  · simp only [Act.put, List.setIfInBounds_toArray, List.set_cons_zero, List.set_cons_succ, i64_w, i32_w]
    rfl
  refine take_ (i := 0) (N := some 21) (v := ?_) (a' := ?_) #[true, true, false, false, true, false, false, false] rfl rfl (by kernel_rfl) (fun _ _ _ h => h) (Or.inl ⟨by rfl, ?_⟩) hHeld ?_ ?_
  rotate_left
  · rintro w' ⟨s0, s1, s2⟩
    go_simp
    with_reducible rfl
  rotate_left
  · simp only [Act.put, List.setIfInBounds_toArray, List.set_cons_zero, List.set_cons_succ, i64_w, i32_w]
    rfl
  refine take_ (i := 3) (N := some 24) (v := ?_) (a' := ?_) #[true, true, false, true, true, false, false, false] rfl rfl (by kernel_rfl) (fun _ _ _ h => h) (Or.inl ⟨by rfl, ?_⟩) hHeld ?_ ?_
  rotate_left
  · rintro w' ⟨s0, s1, s2⟩
    go_simp
    with_reducible rfl
  rotate_left
  · simp only [Act.put, List.setIfInBounds_toArray, List.set_cons_zero, List.set_cons_succ, i64_w, i32_w]
    rfl
  refine one_ (i := 2) (N := some 23) #[true, true, true, true, true, false, false, false] rfl rfl (by kernel_rfl) (by decide) (fun K hK => ?_)
  refine goes_ Tryd.func24 (by kernel_rfl) rfl #[.agg #[.int .i64 R, .int .i64 C], .slice A l.length c] (by rfl) rfl rfl (by simp only [List.map_toArray, List.map_cons, List.map_nil]; rfl) ?_
  with_reducible refine (made_yes A c l R C _ (HL0.out.below hHeld.2.2.out.1) HWl.out HK.out.1 hp HK.out.2.1 HK.out.2.2 (HT0.out.below hHeld.2.2.out.1)).mono ?_
  rintro e w2 ⟨p1, g1, c1, rfl, _, hb, _, _⟩
  refine ⟨_, rfl, ?_⟩
  have nB := below_then hHeld.2.2.out.1 hHeld.2.2.out.1.size hb
  have nS := hHeld.2.2.out.2.below hb
  clear hHeld hb
  refine hK.out _ _ ⟨nS.cell 0, nS.cell 1, ⟨nB, nS⟩⟩ (fun hHeld => ?_)
  clear hK K
  refine norm_ (a' := ?_) ?_ ?_
  rotate_left
  · show Act.put _ (some 23) _ = _
    simp only [Act.put, List.setIfInBounds_toArray, List.set_cons_zero, List.set_cons_succ, i64_w, i32_w]
    rfl
  refine one_ (i := 5) (N := some 26) #[true, true, true, true, true, true, false, false] rfl rfl (by kernel_rfl) (by decide) (fun K hK => ?_)
  refine goes_ Tryd.func24 (by kernel_rfl) rfl #[.agg #[.int .i64 R, .int .i64 C], .slice B q.length e0] (by rfl) rfl rfl (by simp only [List.map_toArray, List.map_cons, List.map_nil]; rfl) ?_
  with_reducible refine (made_no B e0 q R C _ HN.out (HT0.out.below hHeld.2.2.out.1)).mono ?_
  rintro e w3 ⟨rfl, hb⟩
  refine ⟨_, rfl, ?_⟩
  have nB := below_then hHeld.2.2.out.1 hHeld.2.2.out.1.size hb
  have nS := hHeld.2.2.out.2.below hb
  clear hHeld hb
  refine hK.out _ _ ⟨nS.cell 0, nS.cell 1, ⟨nB, nS⟩⟩ (fun hHeld => ?_)
  clear hK K
  refine norm_ (a' := ?_) ?_ ?_
  rotate_left
  · show Act.put _ (some 26) _ = _
    simp only [Act.put, List.setIfInBounds_toArray, List.set_cons_zero, List.set_cons_succ, i64_w, i32_w]
    rfl
  refine pure_ (i := 6) (N := some 7) (v := ?_) (a' := ?_) #[true, true, true, true, true, true, true, false] rfl rfl (by kernel_rfl) (fun _ _ _ h => h) (Or.inl ⟨by rfl, ?_⟩) ?_ ?_
  rotate_left
  · intro w'
    go_simp
    with_reducible rfl
  rotate_left
  · simp only [Act.put, List.setIfInBounds_toArray, List.set_cons_zero, List.set_cons_succ, i64_w, i32_w]
    rfl
  refine pure_ (i := 7) (N := some 8) (v := ?_) (a' := ?_) #[true, true, true, true, true, true, true, true] rfl rfl (by kernel_rfl) (fun _ _ _ h => h) (Or.inl ⟨by rfl, ?_⟩) ?_ ?_
  rotate_left
  · intro w'
    go_simp
    with_reducible rfl
  rotate_left
  · simp only [Act.put, List.setIfInBounds_toArray, List.set_cons_zero, List.set_cons_succ, i64_w, i32_w]
    rfl
  refine done_ (by kernel_rfl) ?_
  clear hHeld
  go_wp2_with fail
  with_reducible refine (gsum_none _).mono ?_
  rintro e w4 ⟨rfl, hb⟩
  have HB4 := Aside0.mk (below_then nB nB.size hb)
  clear hb nB nS HB1 HS1
  go_wp2
  go_ret
  exact ⟨rfl, HB4.out⟩
set_option maxHeartbeats 16000000 in
theorem su_yes_sq (A B : Option Addr) (c e0 : Nat) (l q : List Int) (R C a b n : Nat) (hRC : R = C) (w : World) (hl : In w A c l) (hq : In w B e0 q) (hWl : Ws l) (hWq : Ws q) (hln : l.length = n) (hqn : q.length = n) (hsh : Sh R C a b n) (HN64 : n ≤ 64) (hT : TabOK w) :
    Calls Tryd.prog 13 #[.agg #[.int .i64 (R : Int), .int .i64 (C : Int)], .slice A n c, .slice B n e0] w fun e w' => e = .returned (.bool true) ∧ Below w.heap.size w w' := by
  have hp : 0 < n := by rw [hsh.pow]; exact Nat.two_pow_pos _
  have HGo := Aside0.mk (show GoodS (R : Int) (C : Int) ∧ (R : Int) * (C : Int) = (n : Int) from ⟨hsh.good, by rw [← Int.natCast_mul, hsh.n]⟩)
  have HSh := Aside0.mk hsh
  have HWl := Aside0.mk hWl
  have HWq := Aside0.mk hWq
  have HCl := Aside0.mk (show can l = tb n (el l) by rw [can_is, hln])
  have HCq := Aside0.mk (show can q = tb n (el q) by rw [can_is, hqn])
  have hcl : (can l).length = n := by rw [can_len, hln]
  have hcq : (can q).length = n := by rw [can_len, hqn]
  have e3 : ((R : Int) == (R : Int) && ((C : Int) == (C : Int))) = true := by simp
  have q1 : ((R : Int) == (C : Int)) = true := by rw [hRC]; simp
  clear hRC
  clear hWl hWq hsh
  have HT0 := Aside0.mk hT
  have HB := Aside0.mk (below_alloc (Below.refl w.heap.size w) (Obj.cells #[.int .i64 (R : Int), .int .i64 (C : Int)] 23))
  have HS := Aside0.mk (Bk.new w 23 [.int .i64 (R : Int), .int .i64 (C : Int)])
  have HL0 := Aside0.mk hl
  have HQ0 := Aside0.mk hq
  obtain ⟨bs, hbs⟩ : ∃ z, z = w.heap.size := ⟨_, rfl⟩
  have hbg : w.heap.size ≤ bs := by omega
  clear hT hl hq
  go_enter Tryd.func13, Tryd.ntmps13
  go_wp2_with fail
  with_reducible refine (gawake _ (HT0.out.below HB.out)).mono ?_
  rintro e w1 ⟨rfl, hb⟩
  rw [← hbs] at HS ⊢
  clear hbs
  have HB1 := Aside0.mk (below_then HB.out HB.out.size hb)
  have HS1 := Aside0.mk (HS.out.below hb)
  clear hb HB HS
  go_wp2_with fail
  refine start_ (n := 8) (S := fun w' => w'.cell? ⟨bs, 0, none⟩ = some (.int .i64 (R : Int)) ∧ w'.cell? ⟨bs, 1, none⟩ = some (.int .i64 (C : Int)) ∧ Aside0 (Below w.heap.size w w' ∧ Bk w' bs 23 [.int .i64 (R : Int), .int .i64 (C : Int)])) (ds := []) #[false, false, false, false, false, false, false, false] (by kernel_rfl) rfl rfl ⟨HS1.out.drew.cell 0, HS1.out.drew.cell 1, ⟨below_drew1 HB1.out, HS1.out.drew⟩⟩ (fun hHeld => ?_)
  refine pure_ (i := 1) (N := some 22) (v := ?_) (a' := ?_) #[false, true, false, false, false, false, false, false] rfl rfl (by kernel_rfl) (fun _ _ _ h => h) (Or.inl ⟨by rfl, ?_⟩) ?_ ?_
  rotate_left
  · intro w'
    go_simp
    with_reducible rfl
  rotate_left
  · simp only [Act.put, List.setIfInBounds_toArray, List.set_cons_zero, List.set_cons_succ, i64_w, i32_w]
    rfl
  refine pure_ (i := 4) (N := some 25) (v := ?_) (a' := ?_) #[false, true, false, false, true, false, false, false] rfl rfl (by kernel_rfl) (fun _ _ _ h => h) (Or.inl ⟨by rfl, ?_⟩) ?_ ?_
  rotate_left
  · intro w'
    go_simp
    with_reducible rfl
  rotate_left
  · simp only [Act.put, List.setIfInBounds_toArray, List.set_cons_zero, List.set_cons_succ, i64_w, i32_w]
    rfl
  refine take_ (i := 0) (N := some 21) (v := ?_) (a' := ?_) #[true, true, false, false, true, false, false, false] rfl rfl (by kernel_rfl) (fun _ _ _ h => h) (Or.inl ⟨by rfl, ?_⟩) hHeld ?_ ?_
  rotate_left
  · rintro w' ⟨s0, s1, s2⟩
    go_simp
    with_reducible rfl
  rotate_left
  · simp only [Act.put, List.setIfInBounds_toArray, List.set_cons_zero, List.set_cons_succ, i64_w, i32_w]
    rfl
  refine take_ (i := 3) (N := some 24) (v := ?_) (a' := ?_) #[true, true, false, true, true, false, false, false] rfl rfl (by kernel_rfl) (fun _ _ _ h => h) (Or.inl ⟨by rfl, ?_⟩) hHeld ?_ ?_
  rotate_left
  · rintro w' ⟨s0, s1, s2⟩
    go_simp
    with_reducible rfl
  rotate_left
  · simp only [Act.put, List.setIfInBounds_toArray, List.set_cons_zero, List.set_cons_succ, i64_w, i32_w]
    rfl
  refine one_ (i := 2) (N := some 23) #[true, true, true, true, true, false, false, false] rfl rfl (by kernel_rfl) (by decide) (fun K hK => ?_)
  refine goes_ Tryd.func24 (by kernel_rfl) rfl #[.agg #[.int .i64 (R : Int), .int .i64 (C : Int)], .slice A n c] (by rfl) rfl rfl (by simp only [List.map_toArray, List.map_cons, List.map_nil]; rfl) ?_
  with_reducible refine (made_n A c l n (R : Int) (C : Int) _ (HL0.out.below hHeld.2.2.out.1) HWl.out hln HN64 hp HGo.out.1 HGo.out.2 (HT0.out.below hHeld.2.2.out.1)).mono ?_
  rintro e w2 ⟨p1, g1, c1, rfl, hg, hb, hpl, hgl⟩
  refine ⟨_, rfl, ?_⟩
  have nB := below_then hHeld.2.2.out.1 hHeld.2.2.out.1.size hb
  have nS := hHeld.2.2.out.2.below hb
  have K1 := Aside0.mk hg
  have L1 := Aside0.mk (show w.heap.size ≤ p1 ∧ w.heap.size ≤ g1 by have h1 := hHeld.2.2.out.1.size; omega)
  clear hg hpl hgl
  clear hHeld hb
  refine hK.out _ _ ⟨nS.cell 0, nS.cell 1, ⟨nB, nS⟩⟩ (fun hHeld => ?_)
  clear hK K
  refine norm_ (a' := ?_) ?_ ?_
  rotate_left
  · show Act.put _ (some 23) _ = _
    simp only [Act.put, List.setIfInBounds_toArray, List.set_cons_zero, List.set_cons_succ, i64_w, i32_w]
    rfl
  refine one_ (i := 5) (N := some 26) #[true, true, true, true, true, true, false, false] rfl rfl (by kernel_rfl) (by decide) (fun K hK => ?_)
  refine goes_ Tryd.func24 (by kernel_rfl) rfl #[.agg #[.int .i64 (R : Int), .int .i64 (C : Int)], .slice B n e0] (by rfl) rfl rfl (by simp only [List.map_toArray, List.map_cons, List.map_nil]; rfl) ?_
  with_reducible refine (made_n B e0 q n (R : Int) (C : Int) _ (HQ0.out.below hHeld.2.2.out.1) HWq.out hqn HN64 hp HGo.out.1 HGo.out.2 (HT0.out.below hHeld.2.2.out.1)).mono ?_
  rintro e w3 ⟨p2, g2, c2, rfl, hg, hb, hpl, hgl⟩
  refine ⟨_, rfl, ?_⟩
  have nB := below_then hHeld.2.2.out.1 hHeld.2.2.out.1.size hb
  have nS := hHeld.2.2.out.2.below hb
  have K3 := Aside0.mk (K1.out.below hb)
  have J3 := Aside0.mk hg
  have L2 := Aside0.mk (show w.heap.size ≤ p2 ∧ w.heap.size ≤ g2 ∧ p1 ≠ p2 by have h1 := hHeld.2.2.out.1.size; have h2 := K1.out.lp; omega)
  clear hg hpl hgl K1
  clear hHeld hb
  refine hK.out _ _ ⟨nS.cell 0, nS.cell 1, ⟨nB, nS⟩⟩ (fun hHeld => ?_)
  clear hK K
  refine norm_ (a' := ?_) ?_ ?_
  rotate_left
  · show Act.put _ (some 26) _ = _
    simp only [Act.put, List.setIfInBounds_toArray, List.set_cons_zero, List.set_cons_succ, i64_w, i32_w]
    rfl
  refine pure_ (i := 6) (N := some 7) (v := ?_) (a' := ?_) #[true, true, true, true, true, true, true, false] rfl rfl (by kernel_rfl) (fun _ _ _ h => h) (Or.inl ⟨by rfl, ?_⟩) ?_ ?_
  rotate_left
  · intro w'
    go_simp
    with_reducible rfl
  rotate_left
  · simp only [Act.put, List.setIfInBounds_toArray, List.set_cons_zero, List.set_cons_succ, i64_w, i32_w]
    rfl
  refine pure_ (i := 7) (N := some 8) (v := ?_) (a' := ?_) #[true, true, true, true, true, true, true, true] rfl rfl (by kernel_rfl) (fun _ _ _ h => h) (Or.inl ⟨by rfl, ?_⟩) ?_ ?_
  rotate_left
  · intro w'
    go_simp
    with_reducible rfl
  rotate_left
  · simp only [Act.put, List.setIfInBounds_toArray, List.set_cons_zero, List.set_cons_succ, i64_w, i32_w]
    rfl
  refine done_ (by kernel_rfl) ?_
  clear hHeld
  go_wp2_with fail
  with_reducible refine (gsum_none _).mono ?_
  rintro e w4 ⟨rfl, hb⟩
  have HB4 := Aside0.mk (below_then nB nB.size hb)
  have HS4 := Aside0.mk (nS.below hb)
  have K4 := Aside0.mk (K3.out.below hb)
  have J4 := Aside0.mk (J3.out.below hb)
  clear hb nB nS HB1 HS1 K3 J3
  have Q4 := Aside0.mk (Bk.new w4 26 [.pointer (some ⟨p1, 0, none⟩), .pointer (some ⟨p2, 0, none⟩), .pointer (some ⟨p1, 0, none⟩)])
  have b5 := below_alloc (Below.refl w4.heap.size w4) (Obj.cells #[.pointer (some ⟨p1, 0, none⟩), .pointer (some ⟨p2, 0, none⟩), .pointer (some ⟨p1, 0, none⟩)] 26)
  have HB5 := Aside0.mk (below_then HB4.out HB4.out.size b5)
  have HS5 := Aside0.mk (HS4.out.below b5)
  have K5 := Aside0.mk (K4.out.below b5)
  have J5 := Aside0.mk (J4.out.below b5)
  clear b5 HB4 HS4 K4 J4
  go_wp2_with fail
  have hs := gsum_yes w4.heap.size 3 2 n p1 g1 c1 (R : Int) (C : Int) (el l) (fun i => if i = 0 then p2 else p1) (fun i => if i = 0 then g2 else g1) (fun i => if i = 0 then c2 else c1) (fun i => if i = 0 then el q else el l) hp (by omega) (by decide) (by decide) (by decide) _ (Q4.out.cell 0) (fun i hi => by
    rcases (by omega : i = 0 ∨ i = 1) with rfl | rfl
    · exact Q4.out.cell 1
    · exact Q4.out.cell 2) (by rw [← HCl.out]; exact K5.out) (fun i hi => by
    rcases (by omega : i = 0 ∨ i = 1) with rfl | rfl
    · show Gd _ p2 g2 c2 _ _ (tb n (el q))
      rw [← HCq.out]; exact J5.out
    · show Gd _ p1 g1 c1 _ _ (tb n (el l))
      rw [← HCl.out]; exact K5.out)
  with_reducible refine hs.mono ?_
  clear hs Q4
  rintro e w6 ⟨po, go_, co, rfl, hg, hb, hpo, hgo⟩
  obtain ⟨W, hW⟩ : ∃ z, z = sms n (el l) (fun i => if i = 0 then el q else el l) 2 := ⟨_, rfl⟩
  have hWl : W.length = n := by rw [hW]; exact tb_len _ _
  have HWd := Aside0.mk (show ∀ t, t < n → W.getD t 0 = fv (el l t + (el q t + el l t)) from fun t ht => by
    rw [hW]
    unfold sms
    rw [tb_get _ ht, sm_two]
    rfl)
  rw [← hW] at hg
  clear hW
  have HB6 := Aside0.mk (below_then HB5.out HB5.out.size hb)
  have HS6 := Aside0.mk (HS5.out.below hb)
  have K6 := Aside0.mk (K5.out.below hb)
  have J6 := Aside0.mk (J5.out.below hb)
  have O6 := Aside0.mk hg
  have LO := Aside0.mk (show p2 ≠ po by have := J5.out.lp; omega)
  clear hb hg hpo hgo HB5 HS5 K5 J5
  have Q6 := Aside0.mk (Bk.new w6 26 [.pointer (some ⟨p1, 0, none⟩), .pointer none])
  have b7 := below_alloc (Below.refl w6.heap.size w6) (Obj.cells #[.pointer (some ⟨p1, 0, none⟩), .pointer none] 26)
  have HB7 := Aside0.mk (below_then HB6.out HB6.out.size b7)
  have HS7 := Aside0.mk (HS6.out.below b7)
  have K7 := Aside0.mk (K6.out.below b7)
  have J7 := Aside0.mk (J6.out.below b7)
  have O7 := Aside0.mk (O6.out.below b7)
  clear b7 HB6 HS6 K6 J6 O6
  go_wp2_with fail
  with_reducible refine (gsum_nil w6.heap.size p1 2 _ (Q6.out.cell 0) (Q6.out.cell 1)).mono ?_
  rintro e w8 ⟨rfl, hb⟩
  have HB8 := Aside0.mk (below_then HB7.out HB7.out.size hb)
  have HS8 := Aside0.mk (HS7.out.below hb)
  have K8 := Aside0.mk (K7.out.below hb)
  have J8 := Aside0.mk (J7.out.below hb)
  have O8 := Aside0.mk (O7.out.below hb)
  clear hb HB7 HS7 K7 J7 O7 Q6
  go_wp2_with fail
  refine start_ (n := 18) (S := fun w' => w'.cell? ⟨bs, 0, none⟩ = some (.int .i64 (R : Int)) ∧ w'.cell? ⟨bs, 1, none⟩ = some (.int .i64 (C : Int)) ∧ Aside0 (Below w.heap.size w w' ∧ Bk w' bs 23 [.int .i64 (R : Int), .int .i64 (C : Int)])) (ds := []) #[false, false, false, false, false, false, false, false, false, false, false, false, false, false, false, false, false, false] (by kernel_rfl) rfl rfl ⟨HS8.out.drew.cell 0, HS8.out.drew.cell 1, ⟨below_drew1 HB8.out, HS8.out.drew⟩⟩ (fun hHeld => ?_)
  refine pure_ (i := 0) (N := some 57) (v := ?_) (a' := ?_) #[true, false, false, false, false, false, false, false, false, false, false, false, false, false, false, false, false, false] rfl rfl (by kernel_rfl) (fun _ _ _ h => h) (Or.inl ⟨by rfl, ?_⟩) ?_ ?_
  rotate_left
  · intro w'
    go_simp
    with_reducible rfl
  rotate_left
  · simp only [Act.put, List.setIfInBounds_toArray, List.set_cons_zero, List.set_cons_succ, i64_w, i32_w]
    rfl
  refine pure_ (i := 1) (N := some 58) (v := ?_) (a' := ?_) #[true, true, false, false, false, false, false, false, false, false, false, false, false, false, false, false, false, false] rfl rfl (by kernel_rfl) (fun _ _ _ h => h) (Or.inl ⟨by rfl, ?_⟩) ?_ ?_
  rotate_left
  · intro w'
    go_simp
    with_reducible rfl
  rotate_left
  · simp only [Act.put, List.setIfInBounds_toArray, List.set_cons_zero, List.set_cons_succ, i64_w, i32_w]
    rfl
  refine pure_ (i := 2) (N := some 59) (v := ?_) (a' := ?_) #[true, true, true, false, false, false, false, false, false, false, false, false, false, false, false, false, false, false] rfl rfl (by kernel_rfl) (fun _ _ _ h => h) (Or.inl ⟨by rfl, ?_⟩) ?_ ?_
  rotate_left
  · intro w'
    go_simp
    with_reducible rfl
  rotate_left
  · simp only [Act.put, List.setIfInBounds_toArray, List.set_cons_zero, List.set_cons_succ, i64_w, i32_w]
    rfl
  refine pure_ (i := 3) (N := some 60) (v := ?_) (a' := ?_) #[true, true, true, true, false, false, false, false, false, false, false, false, false, false, false, false, false, false] rfl rfl (by kernel_rfl) (fun _ _ _ h => h) (Or.inl ⟨by rfl, ?_⟩) ?_ ?_
  rotate_left
  · intro w'
    go_simp
    with_reducible rfl
  rotate_left
  · simp only [Act.put, List.setIfInBounds_toArray, List.set_cons_zero, List.set_cons_succ, i64_w, i32_w]
    rfl
  refine pure_ (i := 4) (N := some 61) (v := ?_) (a' := ?_) #[true, true, true, true, true, false, false, false, false, false, false, false, false, false, false, false, false, false] rfl rfl (by kernel_rfl) (fun _ _ _ h => h) (Or.inl ⟨by rfl, ?_⟩) ?_ ?_
  rotate_left
  · intro w'
    go_simp
    with_reducible rfl
  rotate_left
  · simp only [Act.put, List.setIfInBounds_toArray, List.set_cons_zero, List.set_cons_succ, i64_w, i32_w]
    rfl
  refine pure_ (i := 5) (N := some 62) (v := ?_) (a' := ?_) #[true, true, true, true, true, true, false, false, false, false, false, false, false, false, false, false, false, false] rfl rfl (by kernel_rfl) (fun _ _ _ h => h) (Or.inl ⟨by rfl, ?_⟩) ?_ ?_
  rotate_left
  · intro w'
    go_simp
    with_reducible rfl
  rotate_left
  · simp only [Act.put, List.setIfInBounds_toArray, List.set_cons_zero, List.set_cons_succ, i64_w, i32_w]
    rfl
  refine pure_ (i := 6) (N := some 63) (v := ?_) (a' := ?_) #[true, true, true, true, true, true, true, false, false, false, false, false, false, false, false, false, false, false] rfl rfl (by kernel_rfl) (fun _ _ _ h => h) (Or.inl ⟨by rfl, ?_⟩) ?_ ?_
  rotate_left
  · intro w'
    go_simp
    with_reducible rfl
  rotate_left
  · simp only [Act.put, List.setIfInBounds_toArray, List.set_cons_zero, List.set_cons_succ, i64_w, i32_w]
    rfl
  refine pure_ (i := 7) (N := some 64) (v := ?_) (a' := ?_) #[true, true, true, true, true, true, true, true, false, false, false, false, false, false, false, false, false, false] rfl rfl (by kernel_rfl) (fun _ _ _ h => h) (Or.inl ⟨by rfl, ?_⟩) ?_ ?_
  rotate_left
  · intro w'
    go_simp
    with_reducible rfl
  rotate_left
  · simp only [Act.put, List.setIfInBounds_toArray, List.set_cons_zero, List.set_cons_succ, i64_w, i32_w]
    rfl
  refine pure_ (i := 8) (N := some 65) (v := ?_) (a' := ?_) #[true, true, true, true, true, true, true, true, true, false, false, false, false, false, false, false, false, false] rfl rfl (by kernel_rfl) (fun _ _ _ h => h) (Or.inl ⟨by rfl, ?_⟩) ?_ ?_
  rotate_left
  · intro w'
    go_simp
    with_reducible rfl
  rotate_left
  · simp only [Act.put, List.setIfInBounds_toArray, List.set_cons_zero, List.set_cons_succ, i64_w, i32_w]
    rfl
  refine pure_ (i := 9) (N := some 66) (v := ?_) (a' := ?_) #[true, true, true, true, true, true, true, true, true, true, false, false, false, false, false, false, false, false] rfl rfl (by kernel_rfl) (fun _ _ _ h => h) (Or.inl ⟨by rfl, ?_⟩) ?_ ?_
  rotate_left
  · intro w'
    go_simp
    with_reducible rfl
  rotate_left
  · simp only [Act.put, List.setIfInBounds_toArray, List.set_cons_zero, List.set_cons_succ, i64_w, i32_w]
    rfl
  refine pure_ (i := 10) (N := some 67) (v := ?_) (a' := ?_) #[true, true, true, true, true, true, true, true, true, true, true, false, false, false, false, false, false, false] rfl rfl (by kernel_rfl) (fun _ _ _ h => h) (Or.inl ⟨by rfl, ?_⟩) ?_ ?_
  rotate_left
  · intro w'
    go_simp
    with_reducible rfl
  rotate_left
  · simp only [Act.put, List.setIfInBounds_toArray, List.set_cons_zero, List.set_cons_succ, i64_w, i32_w]
    rfl
  refine pure_ (i := 11) (N := some 68) (v := ?_) (a' := ?_) #[true, true, true, true, true, true, true, true, true, true, true, true, false, false, false, false, false, false] rfl rfl (by kernel_rfl) (fun _ _ _ h => h) (Or.inl ⟨by rfl, ?_⟩) ?_ ?_
  rotate_left
  · intro w'
    go_simp
    with_reducible rfl
  rotate_left
  · simp only [Act.put, List.setIfInBounds_toArray, List.set_cons_zero, List.set_cons_succ, i64_w, i32_w]
    rfl
  refine pure_ (i := 12) (N := some 69) (v := ?_) (a' := ?_) #[true, true, true, true, true, true, true, true, true, true, true, true, true, false, false, false, false, false] rfl rfl (by kernel_rfl) (fun _ _ _ h => h) (Or.inl ⟨by rfl, ?_⟩) ?_ ?_
  rotate_left
  · intro w'
    go_simp
    with_reducible rfl
  rotate_left
  · simp only [Act.put, List.setIfInBounds_toArray, List.set_cons_zero, List.set_cons_succ, i64_w, i32_w]
    rfl
  refine pure_ (i := 13) (N := some 70) (v := ?_) (a' := ?_) #[true, true, true, true, true, true, true, true, true, true, true, true, true, true, false, false, false, false] rfl rfl (by kernel_rfl) (fun _ _ _ h => h) (Or.inl ⟨by rfl, ?_⟩) ?_ ?_
  rotate_left
  · intro w'
    go_simp
    with_reducible rfl
  rotate_left
  · simp only [Act.put, List.setIfInBounds_toArray, List.set_cons_zero, List.set_cons_succ, i64_w, i32_w]
    rfl
  refine take_ (i := 15) (N := some 72) (v := ?_) (a' := ?_) #[true, true, true, true, true, true, true, true, true, true, true, true, true, true, false, true, false, false] rfl rfl (by kernel_rfl) (fun _ _ _ h => h) (Or.inl ⟨by rfl, ?_⟩) hHeld ?_ ?_
  rotate_left
  · rintro w' ⟨s0, s1, s2⟩
    go_simp
    with_reducible rfl
  rotate_left
  · simp only [Act.put, List.setIfInBounds_toArray, List.set_cons_zero, List.set_cons_succ, i64_w, i32_w]
    rfl
  refine one_ (i := 14) (N := some 71) #[true, true, true, true, true, true, true, true, true, true, true, true, true, true, true, true, false, false] rfl rfl (by kernel_rfl) (by decide) (fun K hK => ?_)
  refine goes_ Tryd.func18 (by kernel_rfl) rfl #[.pointer (some ⟨po, 0, none⟩)] (by rfl) rfl rfl (by simp only [List.map_toArray, List.map_cons, List.map_nil]; rfl) ?_
  with_reducible refine (gshape po go_ co (R : Int) (C : Int) W _ O8.out.drew).mono ?_
  rintro e w9 ⟨rfl, hb⟩
  refine ⟨_, rfl, ?_⟩
  have HB9 := Aside0.mk (below_then hHeld.2.2.out.1 hHeld.2.2.out.1.size hb)
  have HS9 := Aside0.mk (hHeld.2.2.out.2.below hb)
  have K9 := Aside0.mk (K8.out.drew.below hb)
  have J9 := Aside0.mk (J8.out.drew.below hb)
  have O9 := Aside0.mk (O8.out.drew.below hb)
  clear hHeld hb
  refine hK.out _ _ ⟨HS9.out.cell 0, HS9.out.cell 1, ⟨HB9.out, HS9.out⟩⟩ (fun hHeld => ?_)
  clear hK K
  refine norm_ (a' := ?_) ?_ ?_
  rotate_left
  · show Act.put _ (some 71) _ = _
    simp only [Act.put, List.setIfInBounds_toArray, List.set_cons_zero, List.set_cons_succ, i64_w, i32_w]
    rfl
  refine pure_ (i := 16) (N := some 73) (v := ?_) (a' := ?_) #[true, true, true, true, true, true, true, true, true, true, true, true, true, true, true, true, true, false] rfl rfl (by kernel_rfl) (fun _ _ _ h => h) (Or.inl ⟨by rfl, ?_⟩) ?_ ?_
  rotate_left
  · intro w'
    go_simp
    with_reducible rfl
  rotate_left
  · simp only [Act.put, List.setIfInBounds_toArray, List.set_cons_zero, List.set_cons_succ, i64_w, i32_w]
    rfl
  refine pure_ (i := 17) (N := some 74) (v := ?_) (a' := ?_) #[true, true, true, true, true, true, true, true, true, true, true, true, true, true, true, true, true, true] rfl rfl (by kernel_rfl) (fun _ _ _ h => h) (Or.inl ⟨by rfl, ?_⟩) ?_ ?_
  rotate_left
  · intro w'
    go_simp
    with_reducible rfl
  rotate_left
  · simp only [Act.put, List.setIfInBounds_toArray, List.set_cons_zero, List.set_cons_succ, i64_w, i32_w]
    rfl
  refine done_ (by kernel_rfl) ?_
  clear hHeld HB8 HS8 K8 J8 O8
  go_wp2_with fail
  with_reducible refine (words_n po go_ co n (R : Int) (C : Int) W _ O9.out hWl hp (by omega)).mono ?_
  rintro e w15 ⟨h3, dh3, rfl, hm, hb⟩
  have HB15 := Aside0.mk (below_then HB9.out HB9.out.size hb)
  have HS15 := Aside0.mk (HS9.out.below hb)
  have K15 := Aside0.mk (K9.out.below hb)
  have J15 := Aside0.mk (J9.out.below hb)
  have HM15 := Aside0.mk hm
  clear hb hm HB9 HS9 K9 J9 O9
  go_wp2
  go_loopw [16] (fun v16 wr => ∃ i : Nat, v16 = .int .i64 i ∧ i ≤ n ∧ Aside0 (Below w.heap.size w wr ∧ Bk wr bs 23 [.int .i64 (R : Int), .int .i64 (C : Int)] ∧ Gd wr p1 g1 c1 (R : Int) (C : Int) (can l) ∧ Gd wr p2 g2 c2 (R : Int) (C : Int) (can q)) ∧ Aside0 (In wr (some ⟨h3, 0, none⟩) dh3 W)) (fun v16 _ => n - (intOf v16).toNat)
  case atStart => exact ⟨0, rfl, Nat.zero_le _, ⟨HB15.out, HS15.out, K15.out, J15.out⟩, HM15⟩
  case round =>
    clear HB15 HS15 K15 J15 HM15
    obtain ⟨i, rfl, hi, HX, HM⟩ := hrel
    by_cases h1 : i < n
    · have hia : (i : Int) < (n : Int) := by omega
      have hib : decide ((i : Int) < (n : Int)) = true := decide_eq_true hia
      have hic : decide (i < n) = true := decide_eq_true h1
      have hi0 : (0 : Int) ≤ (i : Int) := by omega
      obtain ⟨ad, qa, hx⟩ := Kd.at_int (HL0.out.below HX.out.1).r (i : Int) (by omega) (by omega)
      obtain ⟨ae, qb, hy⟩ := Kd.at_int (HQ0.out.below HX.out.1).r (i : Int) (by omega) (by omega)
      obtain ⟨af, qf, hz⟩ := Kd.at_int HM.out.r (i : Int) (by omega) (by omega)
      cases qa
      cases qb
      cases qf
      simp only [Int.toNat_natCast] at hx hy hz
      rw [rdn] at hx hy hz
      rw [add_plain, HWd.out i h1] at hz
      obtain ⟨km, hmu⟩ := (rMul (l.getD i 0) 2 (HWl.out i).1 ⟨by decide, by decide⟩).rounds
      have had := rAdd (fv (fo (l.getD i 0) * fo 2)) (q.getD i 0) (fv_range _).1 (HWq.out i).1
      rw [fo_fv, show fv (fo (l.getD i 0) * fo 2 + fo (q.getD i 0)) = fv (el l i + (el q i + el l i)) from congrArg fv (show el l i * fo 2 + el q i = el l i + (el q i + el l i) by rw [show fo 2 = 2 from rfl]; grobner)] at had
      generalize fv (el l i + (el q i + el l i)) = z at *
      generalize fv (fo (l.getD i 0) * fo 2) = y2 at *
      generalize l.getD i 0 = x at *
      generalize q.getD i 0 = y at *
      have hzz : (z != z) = false := by simp
      have HX0 := Aside0.mk hx
      have HY0 := Aside0.mk hy
      have HZ0 := Aside0.mk hz
      have HMu := Aside0.mk hmu
      have HAd := Aside0.mk had
      clear hx hy hz hmu had
      go_wp2_with fail
      refine start_ (n := 15) (S := fun w' => w'.cell? (ad.add i) = some (.int .u64 x) ∧ w'.cell? (ae.add i) = some (.int .u64 y) ∧ w'.cell? ⟨h3, i, none⟩ = some (.int .u64 z) ∧ Aside0 ((Below w.heap.size w w' ∧ Bk w' bs 23 [.int .i64 (R : Int), .int .i64 (C : Int)] ∧ Gd w' p1 g1 c1 (R : Int) (C : Int) (can l) ∧ Gd w' p2 g2 c2 (R : Int) (C : Int) (can q)) ∧ In w' (some ⟨h3, 0, none⟩) dh3 W)) (ds := []) #[false, false, false, false, false, false, false, false, false, false, false, false, false, false, false] (by kernel_rfl) rfl rfl ⟨HX0.out, HY0.out, HZ0.out, ⟨⟨below_drew1 HX.out.1, HX.out.2.1.drew, HX.out.2.2.1.drew, HX.out.2.2.2.drew⟩, HM.out.below (below_drew1 (Below.refl _ _))⟩⟩ (fun hHeld => ?_)
      refine pure_ (i := 0) (N := some 83) (v := ?_) (a' := ?_) #[true, false, false, false, false, false, false, false, false, false, false, false, false, false, false] rfl rfl (by kernel_rfl) (fun _ _ _ h => h) (Or.inl ⟨by rfl, ?_⟩) ?_ ?_
      rotate_left
      · intro w'
        go_simp
        with_reducible rfl
      rotate_left
      · simp only [Act.put, List.setIfInBounds_toArray, List.set_cons_zero, List.set_cons_succ, i64_w, i32_w]
        rfl
      refine pure_ (i := 1) (N := some 84) (v := ?_) (a' := ?_) #[true, true, false, false, false, false, false, false, false, false, false, false, false, false, false] rfl rfl (by kernel_rfl) (fun _ _ _ h => h) (Or.inl ⟨by rfl, ?_⟩) ?_ ?_
      rotate_left
      · intro w'
        go_simp
        with_reducible rfl
      rotate_left
      · simp only [Act.put, List.setIfInBounds_toArray, List.set_cons_zero, List.set_cons_succ, i64_w, i32_w]
        rfl
      refine pure_ (i := 2) (N := some 85) (v := ?_) (a' := ?_) #[true, true, true, false, false, false, false, false, false, false, false, false, false, false, false] rfl rfl (by kernel_rfl) (fun _ _ _ h => h) (Or.inl ⟨by rfl, ?_⟩) ?_ ?_
      rotate_left
      · intro w'
        go_simp
        with_reducible rfl
      rotate_left
      · simp only [Act.put, List.setIfInBounds_toArray, List.set_cons_zero, List.set_cons_succ, i64_w, i32_w]
        rfl
      refine pure_ (i := 4) (N := some 87) (v := ?_) (a' := ?_) #[true, true, true, false, true, false, false, false, false, false, false, false, false, false, false] rfl rfl (by kernel_rfl) (fun _ _ _ h => h) (Or.inl ⟨by rfl, ?_⟩) ?_ ?_
      rotate_left
      · intro w'
        go_simp
        with_reducible rfl
      rotate_left
      · simp only [Act.put, List.setIfInBounds_toArray, List.set_cons_zero, List.set_cons_succ, i64_w, i32_w]
        rfl
      refine pure_ (i := 5) (N := some 88) (v := ?_) (a' := ?_) #[true, true, true, false, true, true, false, false, false, false, false, false, false, false, false] rfl rfl (by kernel_rfl) (fun _ _ _ h => h) (Or.inl ⟨by rfl, ?_⟩) ?_ ?_
      rotate_left
      · intro w'
        go_simp
        with_reducible rfl
      rotate_left
      · simp only [Act.put, List.setIfInBounds_toArray, List.set_cons_zero, List.set_cons_succ, i64_w, i32_w]
        rfl
      refine pure_ (i := 6) (N := some 89) (v := ?_) (a' := ?_) #[true, true, true, false, true, true, true, false, false, false, false, false, false, false, false] rfl rfl (by kernel_rfl) (fun _ _ _ h => h) (Or.inl ⟨by rfl, ?_⟩) ?_ ?_
      rotate_left
      · intro w'
        go_simp
        with_reducible rfl
      rotate_left
      · simp only [Act.put, List.setIfInBounds_toArray, List.set_cons_zero, List.set_cons_succ, i64_w, i32_w]
        rfl
      refine pure_ (i := 9) (N := some 92) (v := ?_) (a' := ?_) #[true, true, true, false, true, true, true, false, false, true, false, false, false, false, false] rfl rfl (by kernel_rfl) (fun _ _ _ h => h) (Or.inl ⟨by rfl, ?_⟩) ?_ ?_
      rotate_left
      · intro w'
        go_simp
        with_reducible rfl
      rotate_left
      · simp only [Act.put, List.setIfInBounds_toArray, List.set_cons_zero, List.set_cons_succ, i64_w, i32_w]
        rfl
      refine pure_ (i := 10) (N := some 93) (v := ?_) (a' := ?_) #[true, true, true, false, true, true, true, false, false, true, true, false, false, false, false] rfl rfl (by kernel_rfl) (fun _ _ _ h => h) (Or.inl ⟨by rfl, ?_⟩) ?_ ?_
      rotate_left
      · intro w'
        go_simp
        with_reducible rfl
      rotate_left
      · simp only [Act.put, List.setIfInBounds_toArray, List.set_cons_zero, List.set_cons_succ, i64_w, i32_w]
        rfl
      refine pure_ (i := 11) (N := some 94) (v := ?_) (a' := ?_) #[true, true, true, false, true, true, true, false, false, true, true, true, false, false, false] rfl rfl (by kernel_rfl) (fun _ _ _ h => h) (Or.inl ⟨by rfl, ?_⟩) ?_ ?_
      rotate_left
      · intro w'
        go_simp
        with_reducible rfl
      rotate_left
      · simp only [Act.put, List.setIfInBounds_toArray, List.set_cons_zero, List.set_cons_succ, i64_w, i32_w]
        rfl
      refine take_ (i := 3) (N := some 86) (v := ?_) (a' := ?_) #[true, true, true, true, true, true, true, false, false, true, true, true, false, false, false] rfl rfl (by kernel_rfl) (fun _ _ _ h => h) (Or.inl ⟨by rfl, ?_⟩) hHeld ?_ ?_
      rotate_left
      · rintro w' ⟨s0, s1, s2, s3⟩
        go_simp
        with_reducible rfl
      rotate_left
      · simp only [Act.put, List.setIfInBounds_toArray, List.set_cons_zero, List.set_cons_succ, i64_w, i32_w]
        rfl
      refine take_ (i := 7) (N := some 90) (v := ?_) (a' := ?_) #[true, true, true, true, true, true, true, true, false, true, true, true, false, false, false] rfl rfl (by kernel_rfl) (fun _ _ _ h => h) (Or.inl ⟨by rfl, ?_⟩) hHeld ?_ ?_
      rotate_left
      · rintro w' ⟨s0, s1, s2, s3⟩
        go_simp
        with_reducible rfl
      rotate_left
      · simp only [Act.put, List.setIfInBounds_toArray, List.set_cons_zero, List.set_cons_succ, i64_w, i32_w]
        rfl
      refine take_ (i := 12) (N := some 95) (v := ?_) (a' := ?_) #[true, true, true, true, true, true, true, true, false, true, true, true, true, false, false] rfl rfl (by kernel_rfl) (fun _ _ _ h => h) (Or.inl ⟨by rfl, ?_⟩) hHeld ?_ ?_
      rotate_left
      · rintro w' ⟨s0, s1, s2, s3⟩
        go_simp
        with_reducible rfl
      rotate_left
      · simp only [Act.put, List.setIfInBounds_toArray, List.set_cons_zero, List.set_cons_succ, i64_w, i32_w]
        rfl
      refine one_ (i := 8) (N := some 91) #[true, true, true, true, true, true, true, true, true, true, true, true, true, false, false] rfl rfl (by kernel_rfl) (by decide) (fun K hK => ?_)
      refine goes_ Tryd.func28 (by kernel_rfl) rfl #[.int .u64 x, .int .u64 2] (by rfl) rfl rfl (by simp only [List.map_toArray, List.map_cons, List.map_nil]; rfl) ?_
      with_reducible refine (abacistref02_Mul.calls km x 2 y2 _ HMu.out).mono ?_
      rintro e w20 ⟨rfl, hd⟩
      refine ⟨_, rfl, ?_⟩
      have n0 := pw_cell_below hd.below hHeld.1
      have n1 := pw_cell_below hd.below hHeld.2.1
      have n2 := pw_cell_below hd.below hHeld.2.2.1
      have nX := And.intro (below_then hHeld.2.2.2.out.1.1 hHeld.2.2.2.out.1.1.size hd.below) (And.intro (hHeld.2.2.2.out.1.2.1.below hd.below) (And.intro (hHeld.2.2.2.out.1.2.2.1.below hd.below) (hHeld.2.2.2.out.1.2.2.2.below hd.below)))
      have nM := hHeld.2.2.2.out.2.below hd.below
      clear hHeld hd
      refine hK.out _ _ ⟨n0, n1, n2, ⟨nX, nM⟩⟩ (fun hHeld => ?_)
      clear hK K
      refine norm_ (a' := ?_) ?_ ?_
      rotate_left
      · show Act.put _ (some 91) _ = _
        simp only [Act.put, List.setIfInBounds_toArray, List.set_cons_zero, List.set_cons_succ, i64_w, i32_w]
        rfl
      refine one_ (i := 13) (N := some 96) #[true, true, true, true, true, true, true, true, true, true, true, true, true, true, false] rfl rfl (by kernel_rfl) (by decide) (fun K hK => ?_)
      refine goes_ Tryd.func66 (by kernel_rfl) rfl #[.int .u64 y2, .int .u64 y] (by rfl) rfl rfl (by simp only [List.map_toArray, List.map_cons, List.map_nil]; rfl) ?_
      with_reducible refine (abacistref02_Add.calls y2 y z _ HAd.out).mono ?_
      rintro e w21 ⟨rfl, hd⟩
      refine ⟨_, rfl, ?_⟩
      have m0 := pw_cell_below hd.below hHeld.1
      have m1 := pw_cell_below hd.below hHeld.2.1
      have m2 := pw_cell_below hd.below hHeld.2.2.1
      have mX := And.intro (below_then hHeld.2.2.2.out.1.1 hHeld.2.2.2.out.1.1.size hd.below) (And.intro (hHeld.2.2.2.out.1.2.1.below hd.below) (And.intro (hHeld.2.2.2.out.1.2.2.1.below hd.below) (hHeld.2.2.2.out.1.2.2.2.below hd.below)))
      have mM := hHeld.2.2.2.out.2.below hd.below
      have HX21 := Aside0.mk mX
      have HM21 := Aside0.mk mM
      clear hHeld hd
      refine hK.out _ _ ⟨m0, m1, m2, ⟨mX, mM⟩⟩ (fun hHeld => ?_)
      clear hK K
      refine norm_ (a' := ?_) ?_ ?_
      rotate_left
      · show Act.put _ (some 96) _ = _
        simp only [Act.put, List.setIfInBounds_toArray, List.set_cons_zero, List.set_cons_succ, i64_w, i32_w]
        rfl
      refine pure_ (i := 14) (N := some 97) (v := ?_) (a' := ?_) #[true, true, true, true, true, true, true, true, true, true, true, true, true, true, true] rfl rfl (by kernel_rfl) (fun _ _ _ h => h) (Or.inl ⟨by rfl, ?_⟩) ?_ ?_
      rotate_left
      · intro w'
        go_simp
        with_reducible rfl
      rotate_left
      · simp only [Act.put, List.setIfInBounds_toArray, List.set_cons_zero, List.set_cons_succ, i64_w, i32_w]
        rfl
      refine done_ (by kernel_rfl) ?_
      clear hHeld n0 n1 n2 nX nM m0 m1 m2 mX mM
      go_wp2
      go_roundw
      case rel => exact ⟨i + 1, by go_num, by omega, HX21, HM21⟩
      case measure => simp [intOf]; omega
    · obtain rfl : i = n := by omega
      have hia : decide ((i : Int) < (i : Int)) = false := decide_eq_false (by omega)
      have hic : decide (i < i) = false := decide_eq_false (by omega)
      have v0 := HX.out.2.1.cell 0
      have v1 := HX.out.2.1.cell 1
      have hii : ((i : Int) == (i : Int)) = true := by simp
      go_wp2
      go_ret
      exact ⟨rfl, HX.out.1⟩
set_option maxHeartbeats 16000000 in
theorem su_yes_ns (A B : Option Addr) (c e0 : Nat) (l q : List Int) (R C a b n : Nat) (hRC : R ≠ C) (w : World) (hl : In w A c l) (hq : In w B e0 q) (hWl : Ws l) (hWq : Ws q) (hln : l.length = n) (hqn : q.length = n) (hsh : Sh R C a b n) (HN64 : n ≤ 64) (hT : TabOK w) :
    Calls Tryd.prog 13 #[.agg #[.int .i64 (R : Int), .int .i64 (C : Int)], .slice A n c, .slice B n e0] w fun e w' => e = .returned (.bool true) ∧ Below w.heap.size w w' := by
  have hp : 0 < n := by rw [hsh.pow]; exact Nat.two_pow_pos _
  have HGo := Aside0.mk (show GoodS (R : Int) (C : Int) ∧ (R : Int) * (C : Int) = (n : Int) from ⟨hsh.good, by rw [← Int.natCast_mul, hsh.n]⟩)
  have HSh := Aside0.mk hsh
  have HWl := Aside0.mk hWl
  have HWq := Aside0.mk hWq
  have HCl := Aside0.mk (show can l = tb n (el l) by rw [can_is, hln])
  have HCq := Aside0.mk (show can q = tb n (el q) by rw [can_is, hqn])
  have hcl : (can l).length = n := by rw [can_len, hln]
  have hcq : (can q).length = n := by rw [can_len, hqn]
  have e3 : ((R : Int) == (R : Int) && ((C : Int) == (C : Int))) = true := by simp
  have q1 : ((R : Int) == (C : Int)) = false := beq_eq_false_iff_ne.2 (by omega)
  have q2 : ((C : Int) == (R : Int) && ((R : Int) == (C : Int))) = false := by rw [q1, Bool.and_false]
  clear hRC
  clear hWl hWq hsh
  have HT0 := Aside0.mk hT
  have HB := Aside0.mk (below_alloc (Below.refl w.heap.size w) (Obj.cells #[.int .i64 (R : Int), .int .i64 (C : Int)] 23))
  have HS := Aside0.mk (Bk.new w 23 [.int .i64 (R : Int), .int .i64 (C : Int)])
  have HL0 := Aside0.mk hl
  have HQ0 := Aside0.mk hq
  obtain ⟨bs, hbs⟩ : ∃ z, z = w.heap.size := ⟨_, rfl⟩
  have hbg : w.heap.size ≤ bs := by omega
  clear hT hl hq
  go_enter Tryd.func13, Tryd.ntmps13
  go_wp2_with fail
  with_reducible refine (gawake _ (HT0.out.below HB.out)).mono ?_
  rintro e w1 ⟨rfl, hb⟩
  rw [← hbs] at HS ⊢
  clear hbs
  have HB1 := Aside0.mk (below_then HB.out HB.out.size hb)
  have HS1 := Aside0.mk (HS.out.below hb)
  clear hb HB HS
  go_wp2_with fail
  refine start_ (n := 8) (S := fun w' => w'.cell? ⟨bs, 0, none⟩ = some (.int .i64 (R : Int)) ∧ w'.cell? ⟨bs, 1, none⟩ = some (.int .i64 (C : Int)) ∧ Aside0 (Below w.heap.size w w' ∧ Bk w' bs 23 [.int .i64 (R : Int), .int .i64 (C : Int)])) (ds := []) #[false, false, false, false, false, false, false, false] (by kernel_rfl) rfl rfl ⟨HS1.out.drew.cell 0, HS1.out.drew.cell 1, ⟨below_drew1 HB1.out, HS1.out.drew⟩⟩ (fun hHeld => ?_)
  refine pure_ (i := 1) (N := some 22) (v := ?_) (a' := ?_) #[false, true, false, false, false, false, false, false] rfl rfl (by kernel_rfl) (fun _ _ _ h => h) (Or.inl ⟨by rfl, ?_⟩) ?_ ?_
  rotate_left
  · intro w'
    go_simp
    with_reducible rfl
  rotate_left
  · simp only [Act.put, List.setIfInBounds_toArray, List.set_cons_zero, List.set_cons_succ, i64_w, i32_w]
    rfl
  refine pure_ (i := 4) (N := some 25) (v := ?_) (a' := ?_) #[false, true, false, false, true, false, false, false] rfl rfl (by kernel_rfl) (fun _ _ _ h => h) (Or.inl ⟨by rfl, ?_⟩) ?_ ?_
  rotate_left
  · intro w'
    go_simp
    with_reducible rfl
  rotate_left
  · simp only [Act.put, List.setIfInBounds_toArray, List.set_cons_zero, List.set_cons_succ, i64_w, i32_w]
    rfl
  refine take_ (i := 0) (N := some 21) (v := ?_) (a' := ?_) #[true, true, false, false, true, false, false, false] rfl rfl (by kernel_rfl) (fun _ _ _ h => h) (Or.inl ⟨by rfl, ?_⟩) hHeld ?_ ?_
  rotate_left
  · rintro w' ⟨s0, s1, s2⟩
    go_simp
    with_reducible rfl
  rotate_left
  · simp only [Act.put, List.setIfInBounds_toArray, List.set_cons_zero, List.set_cons_succ, i64_w, i32_w]
    rfl
  refine take_ (i := 3) (N := some 24) (v := ?_) (a' := ?_) #[true, true, false, true, true, false, false, false] rfl rfl (by kernel_rfl) (fun _ _ _ h => h) (Or.inl ⟨by rfl, ?_⟩) hHeld ?_ ?_
  rotate_left
  · rintro w' ⟨s0, s1, s2⟩
    go_simp
    with_reducible rfl
  rotate_left
  · simp only [Act.put, List.setIfInBounds_toArray, List.set_cons_zero, List.set_cons_succ, i64_w, i32_w]
    rfl
  refine one_ (i := 2) (N := some 23) #[true, true, true, true, true, false, false, false] rfl rfl (by kernel_rfl) (by decide) (fun K hK => ?_)
  refine goes_ Tryd.func24 (by kernel_rfl) rfl #[.agg #[.int .i64 (R : Int), .int .i64 (C : Int)], .slice A n c] (by rfl) rfl rfl (by simp only [List.map_toArray, List.map_cons, List.map_nil]; rfl) ?_
  with_reducible refine (made_n A c l n (R : Int) (C : Int) _ (HL0.out.below hHeld.2.2.out.1) HWl.out hln HN64 hp HGo.out.1 HGo.out.2 (HT0.out.below hHeld.2.2.out.1)).mono ?_
  rintro e w2 ⟨p1, g1, c1, rfl, hg, hb, hpl, hgl⟩
  refine ⟨_, rfl, ?_⟩
  have nB := below_then hHeld.2.2.out.1 hHeld.2.2.out.1.size hb
  have nS := hHeld.2.2.out.2.below hb
  have K1 := Aside0.mk hg
  have L1 := Aside0.mk (show w.heap.size ≤ p1 ∧ w.heap.size ≤ g1 by have h1 := hHeld.2.2.out.1.size; omega)
  clear hg hpl hgl
  clear hHeld hb
  refine hK.out _ _ ⟨nS.cell 0, nS.cell 1, ⟨nB, nS⟩⟩ (fun hHeld => ?_)
  clear hK K
  refine norm_ (a' := ?_) ?_ ?_
  rotate_left
  · show Act.put _ (some 23) _ = _
    simp only [Act.put, List.setIfInBounds_toArray, List.set_cons_zero, List.set_cons_succ, i64_w, i32_w]
    rfl
  refine one_ (i := 5) (N := some 26) #[true, true, true, true, true, true, false, false] rfl rfl (by kernel_rfl) (by decide) (fun K hK => ?_)
  refine goes_ Tryd.func24 (by kernel_rfl) rfl #[.agg #[.int .i64 (R : Int), .int .i64 (C : Int)], .slice B n e0] (by rfl) rfl rfl (by simp only [List.map_toArray, List.map_cons, List.map_nil]; rfl) ?_
  with_reducible refine (made_n B e0 q n (R : Int) (C : Int) _ (HQ0.out.below hHeld.2.2.out.1) HWq.out hqn HN64 hp HGo.out.1 HGo.out.2 (HT0.out.below hHeld.2.2.out.1)).mono ?_
  rintro e w3 ⟨p2, g2, c2, rfl, hg, hb, hpl, hgl⟩
  refine ⟨_, rfl, ?_⟩
  have nB := below_then hHeld.2.2.out.1 hHeld.2.2.out.1.size hb
  have nS := hHeld.2.2.out.2.below hb
  have K3 := Aside0.mk (K1.out.below hb)
  have J3 := Aside0.mk hg
  have L2 := Aside0.mk (show w.heap.size ≤ p2 ∧ w.heap.size ≤ g2 ∧ p1 ≠ p2 by have h1 := hHeld.2.2.out.1.size; have h2 := K1.out.lp; omega)
  clear hg hpl hgl K1
  clear hHeld hb
  refine hK.out _ _ ⟨nS.cell 0, nS.cell 1, ⟨nB, nS⟩⟩ (fun hHeld => ?_)
  clear hK K
  refine norm_ (a' := ?_) ?_ ?_
  rotate_left
  · show Act.put _ (some 26) _ = _
    simp only [Act.put, List.setIfInBounds_toArray, List.set_cons_zero, List.set_cons_succ, i64_w, i32_w]
    rfl
  refine pure_ (i := 6) (N := some 7) (v := ?_) (a' := ?_) #[true, true, true, true, true, true, true, false] rfl rfl (by kernel_rfl) (fun _ _ _ h => h) (Or.inl ⟨by rfl, ?_⟩) ?_ ?_
  rotate_left
  · intro w'
    go_simp
    with_reducible rfl
  rotate_left
  · simp only [Act.put, List.setIfInBounds_toArray, List.set_cons_zero, List.set_cons_succ, i64_w, i32_w]
    rfl
  refine pure_ (i := 7) (N := some 8) (v := ?_) (a' := ?_) #[true, true, true, true, true, true, true, true] rfl rfl (by kernel_rfl) (fun _ _ _ h => h) (Or.inl ⟨by rfl, ?_⟩) ?_ ?_
  rotate_left
  · intro w'
    go_simp
    with_reducible rfl
  rotate_left
  · simp only [Act.put, List.setIfInBounds_toArray, List.set_cons_zero, List.set_cons_succ, i64_w, i32_w]
    rfl
  refine done_ (by kernel_rfl) ?_
  clear hHeld
  go_wp2_with fail
  with_reducible refine (gsum_none _).mono ?_
  rintro e w4 ⟨rfl, hb⟩
  have HB4 := Aside0.mk (below_then nB nB.size hb)
  have HS4 := Aside0.mk (nS.below hb)
  have K4 := Aside0.mk (K3.out.below hb)
  have J4 := Aside0.mk (J3.out.below hb)
  clear hb nB nS HB1 HS1 K3 J3
  have Q4 := Aside0.mk (Bk.new w4 26 [.pointer (some ⟨p1, 0, none⟩), .pointer (some ⟨p2, 0, none⟩), .pointer (some ⟨p1, 0, none⟩)])
  have b5 := below_alloc (Below.refl w4.heap.size w4) (Obj.cells #[.pointer (some ⟨p1, 0, none⟩), .pointer (some ⟨p2, 0, none⟩), .pointer (some ⟨p1, 0, none⟩)] 26)
  have HB5 := Aside0.mk (below_then HB4.out HB4.out.size b5)
  have HS5 := Aside0.mk (HS4.out.below b5)
  have K5 := Aside0.mk (K4.out.below b5)
  have J5 := Aside0.mk (J4.out.below b5)
  clear b5 HB4 HS4 K4 J4
  go_wp2_with fail
  have hs := gsum_yes w4.heap.size 3 2 n p1 g1 c1 (R : Int) (C : Int) (el l) (fun i => if i = 0 then p2 else p1) (fun i => if i = 0 then g2 else g1) (fun i => if i = 0 then c2 else c1) (fun i => if i = 0 then el q else el l) hp (by omega) (by decide) (by decide) (by decide) _ (Q4.out.cell 0) (fun i hi => by
    rcases (by omega : i = 0 ∨ i = 1) with rfl | rfl
    · exact Q4.out.cell 1
    · exact Q4.out.cell 2) (by rw [← HCl.out]; exact K5.out) (fun i hi => by
    rcases (by omega : i = 0 ∨ i = 1) with rfl | rfl
    · show Gd _ p2 g2 c2 _ _ (tb n (el q))
      rw [← HCq.out]; exact J5.out
    · show Gd _ p1 g1 c1 _ _ (tb n (el l))
      rw [← HCl.out]; exact K5.out)
  with_reducible refine hs.mono ?_
  clear hs Q4
  rintro e w6 ⟨po, go_, co, rfl, hg, hb, hpo, hgo⟩
  obtain ⟨W, hW⟩ : ∃ z, z = sms n (el l) (fun i => if i = 0 then el q else el l) 2 := ⟨_, rfl⟩
  have hWl : W.length = n := by rw [hW]; exact tb_len _ _
  have HWd := Aside0.mk (show ∀ t, t < n → W.getD t 0 = fv (el l t + (el q t + el l t)) from fun t ht => by
    rw [hW]
    unfold sms
    rw [tb_get _ ht, sm_two]
    rfl)
  rw [← hW] at hg
  clear hW
  have HB6 := Aside0.mk (below_then HB5.out HB5.out.size hb)
  have HS6 := Aside0.mk (HS5.out.below hb)
  have K6 := Aside0.mk (K5.out.below hb)
  have J6 := Aside0.mk (J5.out.below hb)
  have O6 := Aside0.mk hg
  have LO := Aside0.mk (show p2 ≠ po by have := J5.out.lp; omega)
  clear hb hg hpo hgo HB5 HS5 K5 J5
  have Q6 := Aside0.mk (Bk.new w6 26 [.pointer (some ⟨p1, 0, none⟩), .pointer none])
  have b7 := below_alloc (Below.refl w6.heap.size w6) (Obj.cells #[.pointer (some ⟨p1, 0, none⟩), .pointer none] 26)
  have HB7 := Aside0.mk (below_then HB6.out HB6.out.size b7)
  have HS7 := Aside0.mk (HS6.out.below b7)
  have K7 := Aside0.mk (K6.out.below b7)
  have J7 := Aside0.mk (J6.out.below b7)
  have O7 := Aside0.mk (O6.out.below b7)
  clear b7 HB6 HS6 K6 J6 O6
  go_wp2_with fail
  with_reducible refine (gsum_nil w6.heap.size p1 2 _ (Q6.out.cell 0) (Q6.out.cell 1)).mono ?_
  rintro e w8 ⟨rfl, hb⟩
  have HB8 := Aside0.mk (below_then HB7.out HB7.out.size hb)
  have HS8 := Aside0.mk (HS7.out.below hb)
  have K8 := Aside0.mk (K7.out.below hb)
  have J8 := Aside0.mk (J7.out.below hb)
  have O8 := Aside0.mk (O7.out.below hb)
  clear hb HB7 HS7 K7 J7 O7 Q6
  go_wp2_with fail
  refine start_ (n := 18) (S := fun w' => w'.cell? ⟨bs, 0, none⟩ = some (.int .i64 (R : Int)) ∧ w'.cell? ⟨bs, 1, none⟩ = some (.int .i64 (C : Int)) ∧ Aside0 (Below w.heap.size w w' ∧ Bk w' bs 23 [.int .i64 (R : Int), .int .i64 (C : Int)])) (ds := []) #[false, false, false, false, false, false, false, false, false, false, false, false, false, false, false, false, false, false] (by kernel_rfl) rfl rfl ⟨HS8.out.drew.cell 0, HS8.out.drew.cell 1, ⟨below_drew1 HB8.out, HS8.out.drew⟩⟩ (fun hHeld => ?_)
  refine pure_ (i := 0) (N := some 57) (v := ?_) (a' := ?_) #[true, false, false, false, false, false, false, false, false, false, false, false, false, false, false, false, false, false] rfl rfl (by kernel_rfl) (fun _ _ _ h => h) (Or.inl ⟨by rfl, ?_⟩) ?_ ?_
  rotate_left
  · intro w'
    go_simp
    with_reducible rfl
  rotate_left
  · simp only [Act.put, List.setIfInBounds_toArray, List.set_cons_zero, List.set_cons_succ, i64_w, i32_w]
    rfl
  refine pure_ (i := 1) (N := some 58) (v := ?_) (a' := ?_) #[true, true, false, false, false, false, false, false, false, false, false, false, false, false, false, false, false, false] rfl rfl (by kernel_rfl) (fun _ _ _ h => h) (Or.inl ⟨by rfl, ?_⟩) ?_ ?_
  rotate_left
  · intro w'
    go_simp
    with_reducible rfl
  rotate_left
  · simp only [Act.put, List.setIfInBounds_toArray, List.set_cons_zero, List.set_cons_succ, i64_w, i32_w]
    rfl
  refine pure_ (i := 2) (N := some 59) (v := ?_) (a' := ?_) #[true, true, true, false, false, false, false, false, false, false, false, false, false, false, false, false, false, false] rfl rfl (by kernel_rfl) (fun _ _ _ h => h) (Or.inl ⟨by rfl, ?_⟩) ?_ ?_
  rotate_left
  · intro w'
    go_simp
    with_reducible rfl
  rotate_left
  · simp only [Act.put, List.setIfInBounds_toArray, List.set_cons_zero, List.set_cons_succ, i64_w, i32_w]
    rfl
  refine pure_ (i := 3) (N := some 60) (v := ?_) (a' := ?_) #[true, true, true, true, false, false, false, false, false, false, false, false, false, false, false, false, false, false] rfl rfl (by kernel_rfl) (fun _ _ _ h => h) (Or.inl ⟨by rfl, ?_⟩) ?_ ?_
  rotate_left
  · intro w'
    go_simp
    with_reducible rfl
  rotate_left
  · simp only [Act.put, List.setIfInBounds_toArray, List.set_cons_zero, List.set_cons_succ, i64_w, i32_w]
    rfl
  refine pure_ (i := 4) (N := some 61) (v := ?_) (a' := ?_) #[true, true, true, true, true, false, false, false, false, false, false, false, false, false, false, false, false, false] rfl rfl (by kernel_rfl) (fun _ _ _ h => h) (Or.inl ⟨by rfl, ?_⟩) ?_ ?_
  rotate_left
  · intro w'
    go_simp
    with_reducible rfl
  rotate_left
  · simp only [Act.put, List.setIfInBounds_toArray, List.set_cons_zero, List.set_cons_succ, i64_w, i32_w]
    rfl
  refine pure_ (i := 5) (N := some 62) (v := ?_) (a' := ?_) #[true, true, true, true, true, true, false, false, false, false, false, false, false, false, false, false, false, false] rfl rfl (by kernel_rfl) (fun _ _ _ h => h) (Or.inl ⟨by rfl, ?_⟩) ?_ ?_
  rotate_left
  · intro w'
    go_simp
    with_reducible rfl
  rotate_left
  · simp only [Act.put, List.setIfInBounds_toArray, List.set_cons_zero, List.set_cons_succ, i64_w, i32_w]
    rfl
  refine pure_ (i := 6) (N := some 63) (v := ?_) (a' := ?_) #[true, true, true, true, true, true, true, false, false, false, false, false, false, false, false, false, false, false] rfl rfl (by kernel_rfl) (fun _ _ _ h => h) (Or.inl ⟨by rfl, ?_⟩) ?_ ?_
  rotate_left
  · intro w'
    go_simp
    with_reducible rfl
  rotate_left
  · simp only [Act.put, List.setIfInBounds_toArray, List.set_cons_zero, List.set_cons_succ, i64_w, i32_w]
    rfl
  refine pure_ (i := 7) (N := some 64) (v := ?_) (a' := ?_) #[true, true, true, true, true, true, true, true, false, false, false, false, false, false, false, false, false, false] rfl rfl (by kernel_rfl) (fun _ _ _ h => h) (Or.inl ⟨by rfl, ?_⟩) ?_ ?_
  rotate_left
  · intro w'
    go_simp
    with_reducible rfl
  rotate_left
  · simp only [Act.put, List.setIfInBounds_toArray, List.set_cons_zero, List.set_cons_succ, i64_w, i32_w]
    rfl
  refine pure_ (i := 8) (N := some 65) (v := ?_) (a' := ?_) #[true, true, true, true, true, true, true, true, true, false, false, false, false, false, false, false, false, false] rfl rfl (by kernel_rfl) (fun _ _ _ h => h) (Or.inl ⟨by rfl, ?_⟩) ?_ ?_
  rotate_left
  · intro w'
    go_simp
    with_reducible rfl
  rotate_left
  · simp only [Act.put, List.setIfInBounds_toArray, List.set_cons_zero, List.set_cons_succ, i64_w, i32_w]
    rfl
  refine pure_ (i := 9) (N := some 66) (v := ?_) (a' := ?_) #[true, true, true, true, true, true, true, true, true, true, false, false, false, false, false, false, false, false] rfl rfl (by kernel_rfl) (fun _ _ _ h => h) (Or.inl ⟨by rfl, ?_⟩) ?_ ?_
  rotate_left
  · intro w'
    go_simp
    with_reducible rfl
  rotate_left
  · simp only [Act.put, List.setIfInBounds_toArray, List.set_cons_zero, List.set_cons_succ, i64_w, i32_w]
    rfl
  refine pure_ (i := 10) (N := some 67) (v := ?_) (a' := ?_) #[true, true, true, true, true, true, true, true, true, true, true, false, false, false, false, false, false, false] rfl rfl (by kernel_rfl) (fun _ _ _ h => h) (Or.inl ⟨by rfl, ?_⟩) ?_ ?_
  rotate_left
  · intro w'
    go_simp
    with_reducible rfl
  rotate_left
  · simp only [Act.put, List.setIfInBounds_toArray, List.set_cons_zero, List.set_cons_succ, i64_w, i32_w]
    rfl
  refine pure_ (i := 11) (N := some 68) (v := ?_) (a' := ?_) #[true, true, true, true, true, true, true, true, true, true, true, true, false, false, false, false, false, false] rfl rfl (by kernel_rfl) (fun _ _ _ h => h) (Or.inl ⟨by rfl, ?_⟩) ?_ ?_
  rotate_left
  · intro w'
    go_simp
    with_reducible rfl
  rotate_left
  · simp only [Act.put, List.setIfInBounds_toArray, List.set_cons_zero, List.set_cons_succ, i64_w, i32_w]
    rfl
  refine pure_ (i := 12) (N := some 69) (v := ?_) (a' := ?_) #[true, true, true, true, true, true, true, true, true, true, true, true, true, false, false, false, false, false] rfl rfl (by kernel_rfl) (fun _ _ _ h => h) (Or.inl ⟨by rfl, ?_⟩) ?_ ?_
  rotate_left
  · intro w'
    go_simp
    with_reducible rfl
  rotate_left
  · simp only [Act.put, List.setIfInBounds_toArray, List.set_cons_zero, List.set_cons_succ, i64_w, i32_w]
    rfl
  refine pure_ (i := 13) (N := some 70) (v := ?_) (a' := ?_) #[true, true, true, true, true, true, true, true, true, true, true, true, true, true, false, false, false, false] rfl rfl (by kernel_rfl) (fun _ _ _ h => h) (Or.inl ⟨by rfl, ?_⟩) ?_ ?_
  rotate_left
  · intro w'
    go_simp
    with_reducible rfl
  rotate_left
  · simp only [Act.put, List.setIfInBounds_toArray, List.set_cons_zero, List.set_cons_succ, i64_w, i32_w]
    rfl
  refine take_ (i := 15) (N := some 72) (v := ?_) (a' := ?_) #[true, true, true, true, true, true, true, true, true, true, true, true, true, true, false, true, false, false] rfl rfl (by kernel_rfl) (fun _ _ _ h => h) (Or.inl ⟨by rfl, ?_⟩) hHeld ?_ ?_
  rotate_left
  · rintro w' ⟨s0, s1, s2⟩
    go_simp
    with_reducible rfl
  rotate_left
  · simp only [Act.put, List.setIfInBounds_toArray, List.set_cons_zero, List.set_cons_succ, i64_w, i32_w]
    rfl
  refine one_ (i := 14) (N := some 71) #[true, true, true, true, true, true, true, true, true, true, true, true, true, true, true, true, false, false] rfl rfl (by kernel_rfl) (by decide) (fun K hK => ?_)
  refine goes_ Tryd.func18 (by kernel_rfl) rfl #[.pointer (some ⟨po, 0, none⟩)] (by rfl) rfl rfl (by simp only [List.map_toArray, List.map_cons, List.map_nil]; rfl) ?_
  with_reducible refine (gshape po go_ co (R : Int) (C : Int) W _ O8.out.drew).mono ?_
  rintro e w9 ⟨rfl, hb⟩
  refine ⟨_, rfl, ?_⟩
  have HB9 := Aside0.mk (below_then hHeld.2.2.out.1 hHeld.2.2.out.1.size hb)
  have HS9 := Aside0.mk (hHeld.2.2.out.2.below hb)
  have K9 := Aside0.mk (K8.out.drew.below hb)
  have J9 := Aside0.mk (J8.out.drew.below hb)
  have O9 := Aside0.mk (O8.out.drew.below hb)
  clear hHeld hb
  refine hK.out _ _ ⟨HS9.out.cell 0, HS9.out.cell 1, ⟨HB9.out, HS9.out⟩⟩ (fun hHeld => ?_)
  clear hK K
  refine norm_ (a' := ?_) ?_ ?_
  rotate_left
  · show Act.put _ (some 71) _ = _
    simp only [Act.put, List.setIfInBounds_toArray, List.set_cons_zero, List.set_cons_succ, i64_w, i32_w]
    rfl
  refine pure_ (i := 16) (N := some 73) (v := ?_) (a' := ?_) #[true, true, true, true, true, true, true, true, true, true, true, true, true, true, true, true, true, false] rfl rfl (by kernel_rfl) (fun _ _ _ h => h) (Or.inl ⟨by rfl, ?_⟩) ?_ ?_
  rotate_left
  · intro w'
    go_simp
    with_reducible rfl
  rotate_left
  · simp only [Act.put, List.setIfInBounds_toArray, List.set_cons_zero, List.set_cons_succ, i64_w, i32_w]
    rfl
  refine pure_ (i := 17) (N := some 74) (v := ?_) (a' := ?_) #[true, true, true, true, true, true, true, true, true, true, true, true, true, true, true, true, true, true] rfl rfl (by kernel_rfl) (fun _ _ _ h => h) (Or.inl ⟨by rfl, ?_⟩) ?_ ?_
  rotate_left
  · intro w'
    go_simp
    with_reducible rfl
  rotate_left
  · simp only [Act.put, List.setIfInBounds_toArray, List.set_cons_zero, List.set_cons_succ, i64_w, i32_w]
    rfl
  refine done_ (by kernel_rfl) ?_
  clear hHeld HB8 HS8 K8 J8 O8
  go_wp2_with fail
  with_reducible refine (words_n po go_ co n (R : Int) (C : Int) W _ O9.out hWl hp (by omega)).mono ?_
  rintro e w15 ⟨h3, dh3, rfl, hm, hb⟩
  have HB15 := Aside0.mk (below_then HB9.out HB9.out.size hb)
  have HS15 := Aside0.mk (HS9.out.below hb)
  have K15 := Aside0.mk (K9.out.below hb)
  have J15 := Aside0.mk (J9.out.below hb)
  have HM15 := Aside0.mk hm
  clear hb hm HB9 HS9 K9 J9 O9
  go_wp2
  go_loopw [16] (fun v16 wr => ∃ i : Nat, v16 = .int .i64 i ∧ i ≤ n ∧ Aside0 (Below w.heap.size w wr ∧ Bk wr bs 23 [.int .i64 (R : Int), .int .i64 (C : Int)] ∧ Gd wr p1 g1 c1 (R : Int) (C : Int) (can l) ∧ Gd wr p2 g2 c2 (R : Int) (C : Int) (can q)) ∧ Aside0 (In wr (some ⟨h3, 0, none⟩) dh3 W)) (fun v16 _ => n - (intOf v16).toNat)
  case atStart => exact ⟨0, rfl, Nat.zero_le _, ⟨HB15.out, HS15.out, K15.out, J15.out⟩, HM15⟩
  case round =>
    clear HB15 HS15 K15 J15 HM15
    obtain ⟨i, rfl, hi, HX, HM⟩ := hrel
    by_cases h1 : i < n
    · have hia : (i : Int) < (n : Int) := by omega
      have hib : decide ((i : Int) < (n : Int)) = true := decide_eq_true hia
      have hic : decide (i < n) = true := decide_eq_true h1
      have hi0 : (0 : Int) ≤ (i : Int) := by omega
      obtain ⟨ad, qa, hx⟩ := Kd.at_int (HL0.out.below HX.out.1).r (i : Int) (by omega) (by omega)
      obtain ⟨ae, qb, hy⟩ := Kd.at_int (HQ0.out.below HX.out.1).r (i : Int) (by omega) (by omega)
      obtain ⟨af, qf, hz⟩ := Kd.at_int HM.out.r (i : Int) (by omega) (by omega)
      cases qa
      cases qb
      cases qf
      simp only [Int.toNat_natCast] at hx hy hz
      rw [rdn] at hx hy hz
      rw [add_plain, HWd.out i h1] at hz
      obtain ⟨km, hmu⟩ := (rMul (l.getD i 0) 2 (HWl.out i).1 ⟨by decide, by decide⟩).rounds
      have had := rAdd (fv (fo (l.getD i 0) * fo 2)) (q.getD i 0) (fv_range _).1 (HWq.out i).1
      rw [fo_fv, show fv (fo (l.getD i 0) * fo 2 + fo (q.getD i 0)) = fv (el l i + (el q i + el l i)) from congrArg fv (show el l i * fo 2 + el q i = el l i + (el q i + el l i) by rw [show fo 2 = 2 from rfl]; grobner)] at had
      generalize fv (el l i + (el q i + el l i)) = z at *
      generalize fv (fo (l.getD i 0) * fo 2) = y2 at *
      generalize l.getD i 0 = x at *
      generalize q.getD i 0 = y at *
      have hzz : (z != z) = false := by simp
      have HX0 := Aside0.mk hx
      have HY0 := Aside0.mk hy
      have HZ0 := Aside0.mk hz
      have HMu := Aside0.mk hmu
      have HAd := Aside0.mk had
      clear hx hy hz hmu had
      go_wp2_with fail
      refine start_ (n := 15) (S := fun w' => w'.cell? (ad.add i) = some (.int .u64 x) ∧ w'.cell? (ae.add i) = some (.int .u64 y) ∧ w'.cell? ⟨h3, i, none⟩ = some (.int .u64 z) ∧ Aside0 ((Below w.heap.size w w' ∧ Bk w' bs 23 [.int .i64 (R : Int), .int .i64 (C : Int)] ∧ Gd w' p1 g1 c1 (R : Int) (C : Int) (can l) ∧ Gd w' p2 g2 c2 (R : Int) (C : Int) (can q)) ∧ In w' (some ⟨h3, 0, none⟩) dh3 W)) (ds := []) #[false, false, false, false, false, false, false, false, false, false, false, false, false, false, false] (by kernel_rfl) rfl rfl ⟨HX0.out, HY0.out, HZ0.out, ⟨⟨below_drew1 HX.out.1, HX.out.2.1.drew, HX.out.2.2.1.drew, HX.out.2.2.2.drew⟩, HM.out.below (below_drew1 (Below.refl _ _))⟩⟩ (fun hHeld => ?_)
      refine pure_ (i := 0) (N := some 83) (v := ?_) (a' := ?_) #[true, false, false, false, false, false, false, false, false, false, false, false, false, false, false] rfl rfl (by kernel_rfl) (fun _ _ _ h => h) (Or.inl ⟨by rfl, ?_⟩) ?_ ?_
      rotate_left
      · intro w'
        go_simp
        with_reducible rfl
      rotate_left
      · simp only [Act.put, List.setIfInBounds_toArray, List.set_cons_zero, List.set_cons_succ, i64_w, i32_w]
        rfl
      refine pure_ (i := 1) (N := some 84) (v := ?_) (a' := ?_) #[true, true, false, false, false, false, false, false, false, false, false, false, false, false, false] rfl rfl (by kernel_rfl) (fun _ _ _ h => h) (Or.inl ⟨by rfl, ?_⟩) ?_ ?_
      rotate_left
      · intro w'
        go_simp
        with_reducible rfl
      rotate_left
      · simp only [Act.put, List.setIfInBounds_toArray, List.set_cons_zero, List.set_cons_succ, i64_w, i32_w]
        rfl
      refine pure_ (i := 2) (N := some 85) (v := ?_) (a' := ?_) #[true, true, true, false, false, false, false, false, false, false, false, false, false, false, false] rfl rfl (by kernel_rfl) (fun _ _ _ h => h) (Or.inl ⟨by rfl, ?_⟩) ?_ ?_
      rotate_left
      · intro w'
        go_simp
        with_reducible rfl
      rotate_left
      · simp only [Act.put, List.setIfInBounds_toArray, List.set_cons_zero, List.set_cons_succ, i64_w, i32_w]
        rfl
      refine pure_ (i := 4) (N := some 87) (v := ?_) (a' := ?_) #[true, true, true, false, true, false, false, false, false, false, false, false, false, false, false] rfl rfl (by kernel_rfl) (fun _ _ _ h => h) (Or.inl ⟨by rfl, ?_⟩) ?_ ?_
      rotate_left
      · intro w'
        go_simp
        with_reducible rfl
      rotate_left
      · simp only [Act.put, List.setIfInBounds_toArray, List.set_cons_zero, List.set_cons_succ, i64_w, i32_w]
        rfl
      refine pure_ (i := 5) (N := some 88) (v := ?_) (a' := ?_) #[true, true, true, false, true, true, false, false, false, false, false, false, false, false, false] rfl rfl (by kernel_rfl) (fun _ _ _ h => h) (Or.inl ⟨by rfl, ?_⟩) ?_ ?_
      rotate_left
      · intro w'
        go_simp
        with_reducible rfl
      rotate_left
      · simp only [Act.put, List.setIfInBounds_toArray, List.set_cons_zero, List.set_cons_succ, i64_w, i32_w]
        rfl
      refine pure_ (i := 6) (N := some 89) (v := ?_) (a' := ?_) #[true, true, true, false, true, true, true, false, false, false, false, false, false, false, false] rfl rfl (by kernel_rfl) (fun _ _ _ h => h) (Or.inl ⟨by rfl, ?_⟩) ?_ ?_
      rotate_left
      · intro w'
        go_simp
        with_reducible rfl
      rotate_left
      · simp only [Act.put, List.setIfInBounds_toArray, List.set_cons_zero, List.set_cons_succ, i64_w, i32_w]
        rfl
      refine pure_ (i := 9) (N := some 92) (v := ?_) (a' := ?_) #[true, true, true, false, true, true, true, false, false, true, false, false, false, false, false] rfl rfl (by kernel_rfl) (fun _ _ _ h => h) (Or.inl ⟨by rfl, ?_⟩) ?_ ?_
      rotate_left
      · intro w'
        go_simp
        with_reducible rfl
      rotate_left
      · simp only [Act.put, List.setIfInBounds_toArray, List.set_cons_zero, List.set_cons_succ, i64_w, i32_w]
        rfl
      refine pure_ (i := 10) (N := some 93) (v := ?_) (a' := ?_) #[true, true, true, false, true, true, true, false, false, true, true, false, false, false, false] rfl rfl (by kernel_rfl) (fun _ _ _ h => h) (Or.inl ⟨by rfl, ?_⟩) ?_ ?_
      rotate_left
      · intro w'
        go_simp
        with_reducible rfl
      rotate_left
      · simp only [Act.put, List.setIfInBounds_toArray, List.set_cons_zero, List.set_cons_succ, i64_w, i32_w]
        rfl
      refine pure_ (i := 11) (N := some 94) (v := ?_) (a' := ?_) #[true, true, true, false, true, true, true, false, false, true, true, true, false, false, false] rfl rfl (by kernel_rfl) (fun _ _ _ h => h) (Or.inl ⟨by rfl, ?_⟩) ?_ ?_
      rotate_left
      · intro w'
        go_simp
        with_reducible rfl
      rotate_left
      · simp only [Act.put, List.setIfInBounds_toArray, List.set_cons_zero, List.set_cons_succ, i64_w, i32_w]
        rfl
      refine take_ (i := 3) (N := some 86) (v := ?_) (a' := ?_) #[true, true, true, true, true, true, true, false, false, true, true, true, false, false, false] rfl rfl (by kernel_rfl) (fun _ _ _ h => h) (Or.inl ⟨by rfl, ?_⟩) hHeld ?_ ?_
      rotate_left
      · rintro w' ⟨s0, s1, s2, s3⟩
        go_simp
        with_reducible rfl
      rotate_left
      · simp only [Act.put, List.setIfInBounds_toArray, List.set_cons_zero, List.set_cons_succ, i64_w, i32_w]
        rfl
      refine take_ (i := 7) (N := some 90) (v := ?_) (a' := ?_) #[true, true, true, true, true, true, true, true, false, true, true, true, false, false, false] rfl rfl (by kernel_rfl) (fun _ _ _ h => h) (Or.inl ⟨by rfl, ?_⟩) hHeld ?_ ?_
      rotate_left
      · rintro w' ⟨s0, s1, s2, s3⟩
        go_simp
        with_reducible rfl
      rotate_left
      · simp only [Act.put, List.setIfInBounds_toArray, List.set_cons_zero, List.set_cons_succ, i64_w, i32_w]
        rfl
      refine take_ (i := 12) (N := some 95) (v := ?_) (a' := ?_) #[true, true, true, true, true, true, true, true, false, true, true, true, true, false, false] rfl rfl (by kernel_rfl) (fun _ _ _ h => h) (Or.inl ⟨by rfl, ?_⟩) hHeld ?_ ?_
      rotate_left
      · rintro w' ⟨s0, s1, s2, s3⟩
        go_simp
        with_reducible rfl
      rotate_left
      · simp only [Act.put, List.setIfInBounds_toArray, List.set_cons_zero, List.set_cons_succ, i64_w, i32_w]
        rfl
      refine one_ (i := 8) (N := some 91) #[true, true, true, true, true, true, true, true, true, true, true, true, true, false, false] rfl rfl (by kernel_rfl) (by decide) (fun K hK => ?_)
      refine goes_ Tryd.func28 (by kernel_rfl) rfl #[.int .u64 x, .int .u64 2] (by rfl) rfl rfl (by simp only [List.map_toArray, List.map_cons, List.map_nil]; rfl) ?_
      with_reducible refine (abacistref02_Mul.calls km x 2 y2 _ HMu.out).mono ?_
      rintro e w20 ⟨rfl, hd⟩
      refine ⟨_, rfl, ?_⟩
      have n0 := pw_cell_below hd.below hHeld.1
      have n1 := pw_cell_below hd.below hHeld.2.1
      have n2 := pw_cell_below hd.below hHeld.2.2.1
      have nX := And.intro (below_then hHeld.2.2.2.out.1.1 hHeld.2.2.2.out.1.1.size hd.below) (And.intro (hHeld.2.2.2.out.1.2.1.below hd.below) (And.intro (hHeld.2.2.2.out.1.2.2.1.below hd.below) (hHeld.2.2.2.out.1.2.2.2.below hd.below)))
      have nM := hHeld.2.2.2.out.2.below hd.below
      clear hHeld hd
      refine hK.out _ _ ⟨n0, n1, n2, ⟨nX, nM⟩⟩ (fun hHeld => ?_)
      clear hK K
      refine norm_ (a' := ?_) ?_ ?_
      rotate_left
      · show Act.put _ (some 91) _ = _
        simp only [Act.put, List.setIfInBounds_toArray, List.set_cons_zero, List.set_cons_succ, i64_w, i32_w]
        rfl
      refine one_ (i := 13) (N := some 96) #[true, true, true, true, true, true, true, true, true, true, true, true, true, true, false] rfl rfl (by kernel_rfl) (by decide) (fun K hK => ?_)
      refine goes_ Tryd.func66 (by kernel_rfl) rfl #[.int .u64 y2, .int .u64 y] (by rfl) rfl rfl (by simp only [List.map_toArray, List.map_cons, List.map_nil]; rfl) ?_
      with_reducible refine (abacistref02_Add.calls y2 y z _ HAd.out).mono ?_
      rintro e w21 ⟨rfl, hd⟩
      refine ⟨_, rfl, ?_⟩
      have m0 := pw_cell_below hd.below hHeld.1
      have m1 := pw_cell_below hd.below hHeld.2.1
      have m2 := pw_cell_below hd.below hHeld.2.2.1
      have mX := And.intro (below_then hHeld.2.2.2.out.1.1 hHeld.2.2.2.out.1.1.size hd.below) (And.intro (hHeld.2.2.2.out.1.2.1.below hd.below) (And.intro (hHeld.2.2.2.out.1.2.2.1.below hd.below) (hHeld.2.2.2.out.1.2.2.2.below hd.below)))
      have mM := hHeld.2.2.2.out.2.below hd.below
      have HX21 := Aside0.mk mX
      have HM21 := Aside0.mk mM
      clear hHeld hd
      refine hK.out _ _ ⟨m0, m1, m2, ⟨mX, mM⟩⟩ (fun hHeld => ?_)
      clear hK K
      refine norm_ (a' := ?_) ?_ ?_
      rotate_left
      · show Act.put _ (some 96) _ = _
        simp only [Act.put, List.setIfInBounds_toArray, List.set_cons_zero, List.set_cons_succ, i64_w, i32_w]
        rfl
      refine pure_ (i := 14) (N := some 97) (v := ?_) (a' := ?_) #[true, true, true, true, true, true, true, true, true, true, true, true, true, true, true] rfl rfl (by kernel_rfl) (fun _ _ _ h => h) (Or.inl ⟨by rfl, ?_⟩) ?_ ?_
      rotate_left
      · intro w'
        go_simp
        with_reducible rfl
      rotate_left
      · simp only [Act.put, List.setIfInBounds_toArray, List.set_cons_zero, List.set_cons_succ, i64_w, i32_w]
        rfl
      refine done_ (by kernel_rfl) ?_
      clear hHeld n0 n1 n2 nX nM m0 m1 m2 mX mM
      go_wp2
      go_roundw
      case rel => exact ⟨i + 1, by go_num, by omega, HX21, HM21⟩
      case measure => simp [intOf]; omega
    · obtain rfl : i = n := by omega
      have hia : decide ((i : Int) < (i : Int)) = false := decide_eq_false (by omega)
      have hic : decide (i < i) = false := decide_eq_false (by omega)
      have v0 := HX.out.2.1.cell 0
      have v1 := HX.out.2.1.cell 1
      have hii : ((i : Int) == (i : Int)) = true := by simp
      go_wp2_with fail
      clear v0 v1
      have ht := gturn R C p2 g2 c2 (can q) HGo.out.1 HSh.out.cle (by rw [hcq]; exact HSh.out.n) (by rw [hcq]; exact hp) (by omega) _ HX.out.2.2.2 (HT0.out.below HX.out.1)
      with_reducible refine ht.mono ?_
      clear ht
      rintro e w30 ⟨rfl, g4, c4, hg, hf, hh⟩
      have HB30 := Aside0.mk (HX.out.1.trans (hf.below (B := w.heap.size) HX.out.1.size (by simpa using L2.out.1)))
      have K30 := Aside0.mk (HX.out.2.2.1.keep_p HX.out.2.2.2 L2.out.2.2 hf)
      have J30 := Aside0.mk hg
      clear hg hf hh HX HM
      have Q30 := Aside0.mk (Bk.new w30 26 [.pointer (some ⟨p1, 0, none⟩), .pointer (some ⟨p2, 0, none⟩)])
      have b31 := below_alloc (Below.refl w30.heap.size w30) (Obj.cells #[.pointer (some ⟨p1, 0, none⟩), .pointer (some ⟨p2, 0, none⟩)] 26)
      have HB31 := Aside0.mk (below_then HB30.out HB30.out.size b31)
      have K31 := Aside0.mk (K30.out.below b31)
      have J31 := Aside0.mk (J30.out.below b31)
      clear b31 HB30 K30 J30
      go_wp2_with fail
      with_reducible refine (gsum_odd w30.heap.size p1 g1 c1 p2 g4 c4 2 (R : Int) (C : Int) (C : Int) (R : Int) (can l) _ (by rw [hcl]; exact hp) (by omega) q2 (by decide) _ (Q30.out.cell 0) (Q30.out.cell 1) K31.out J31.out).mono ?_
      rintro e w32 ⟨rfl, hb⟩
      have HB32 := Aside0.mk (below_then HB31.out HB31.out.size hb)
      have K32 := Aside0.mk (K31.out.below hb)
      clear hb HB31 K31 J31 Q30
      go_wp2_with fail
      with_reducible refine (words_n p1 g1 c1 i (R : Int) (C : Int) (can l) _ K32.out hcl hp (by omega)).mono ?_
      rintro e w33 ⟨h, dh, rfl, hm, hb⟩
      have HB33 := Aside0.mk (below_then HB32.out HB32.out.size hb)
      have HM33 := Aside0.mk hm
      clear hb hm HB32 K32
      go_wp2_with fail
      with_reducible refine (canon_n A c l i _ (HL0.out.below HB33.out) HWl.out (by omega) hln).mono ?_
      rintro e w34 ⟨B6, d6, rfl, hI, hb⟩
      have HB34 := Aside0.mk (below_then HB33.out HB33.out.size hb)
      have HM34 := Aside0.mk (HM33.out.below hb)
      have HC34 := Aside0.mk hI
      clear hb hI HB33 HM33
      go_wp2_with fail
      with_reducible refine (same_n (some ⟨h, 0, none⟩) B6 dh d6 i (can l) (can l) _ HM34.out HC34.out (by omega) hcl rfl).mono ?_
      rintro e w35 ⟨rfl, hb⟩
      have HB35 := Aside0.mk (below_then HB34.out HB34.out.size hb)
      clear hb
      go_wp2
      go_ret
      exact ⟨rfl, HB35.out⟩
theorem GridSumsRow (a0_0 a0_1 : Int) (a1 : Option Addr) (len1 cap1 : Nat) (z1 : List Int) (a2 : Option Addr) (len2 cap2 : Nat) (z2 : List Int) (w : World)
    (w1 : (a1 = none ∧ len1 = 0 ∧ cap1 = 0 ∧ z1 = []) ∨ ∃ x, a1 = some x ∧ len1 ≤ cap1 ∧ cap1 ≤ maxLen ∧ z1.length = cap1 ∧ (∀ i, i < z1.length → w.cell? (x.add i) = some (.int .u64 (z1.getD i 0))) ∧ ∀ n ∈ z1, (Lit.int .u64 n).wf = true)
    (w2 : (a2 = none ∧ len2 = 0 ∧ cap2 = 0 ∧ z2 = []) ∨ ∃ x, a2 = some x ∧ len2 ≤ cap2 ∧ cap2 ≤ maxLen ∧ z2.length = cap2 ∧ (∀ i, i < z2.length → w.cell? (x.add i) = some (.int .u64 (z2.getD i 0))) ∧ ∀ n ∈ z2, (Lit.int .u64 n).wf = true) (hT : TabOK w) :
    Calls Tryd.prog 13 #[.agg #[.int .i64 a0_0, .int .i64 a0_1], .slice a1 len1 cap1, .slice a2 len2 cap2] w fun e w' => e = .returned (.bool true) ∧ Below w.heap.size w w' := by
  obtain ⟨l, rfl, hl, hW⟩ := In.of w1
  obtain ⟨q, rfl, hq, hV⟩ := In.of w2
  by_cases h1 : l.length ≤ 64 ∧ GoodS a0_0 a0_1 ∧ a0_0 * a0_1 = (l.length : Int)
  · by_cases h2 : q.length ≤ 64 ∧ GoodS a0_0 a0_1 ∧ a0_0 * a0_1 = (q.length : Int)
    · have hlq : q.length = l.length := by have h3 := h1.2.2; have h4 := h2.2.2; omega
      have h64 := h1.1
      clear h2
      obtain ⟨a, b, hab, rfl, rfl⟩ := good_ints h1.2.1
      have hRC : 2 ^ a * 2 ^ b = l.length := by exact_mod_cast h1.2.2
      have hab2 : a + b ≤ 20 := by
        rcases Nat.lt_or_ge 20 (a + b) with h | h
        · have := pow_mono (show 21 ≤ a + b by omega)
          rw [← Nat.pow_add] at hRC
          have e : (2 : Nat) ^ 21 = 2097152 := by decide
          omega
        · exact h
      have hsh : Sh (2 ^ a) (2 ^ b) a b l.length := ⟨rfl, rfl, hab2, hRC⟩
      by_cases hRC2 : 2 ^ a = 2 ^ b
      · have h := su_yes_sq a1 a2 cap1 cap2 l q (2 ^ a) (2 ^ b) a b l.length hRC2 w hl hq hW hV rfl hlq hsh h64 hT
        rw [hlq]
        exact h
      · have h := su_yes_ns a1 a2 cap1 cap2 l q (2 ^ a) (2 ^ b) a b l.length hRC2 w hl hq hW hV rfl hlq hsh h64 hT
        rw [hlq]
        exact h
    · exact su_nil2 a1 a2 cap1 cap2 l q a0_0 a0_1 w hl hq hW hV h1 h2 hT
  · exact su_nil1 a1 a2 cap1 cap2 l q a0_0 a0_1 w hl hq hW hV h1 hT
end Go.Proofs.YtpnkcjnemoompaaDoor.Grid
end
