import Derived.Test.YtpnkcjnemoompaaDoorSx3
import Derived.Test.YtpnkcjnemoompaaDoorProg
import Derived.Below
import Derived.Deep.Draws
import Derived.Deep.AppendLies
import Derived.Maps.AppendAt
import Derived.OwnWalk
import Derived.Laws.BytesArg
import Derived.Laws.MakeOwn
import Derived.Laws.OwnMore
import Derived.Deep.OwnRows
import Derived.Tactics
import Derived.Lib.ConvBytes
import Derived.Laws.Slices
import Derived.WalkKit
import Derived.KernelRfl
import Derived.RowKit3
import Derived.Deep.LoopGhost
import Derived.Deep.QuietTactic
import Derived.BigQuiet
import Derived.WideLaws
import Derived.Deep.DeepCutAuto
import Derived.Deep.CutBlock
import Derived.Deep.RegionHeld3
import Derived.Laws.Rows
import Derived.Lib.AppendStr
import Derived.ArgAppend
import Derived.Laws.IdiomCopy
import Derived.RowKit
import Derived.OrdersHeld
import Derived.Laws.BitsLemmas
import Derived.Laws.CopyOwn
import Derived.Lib.Hide
import Derived.Shelf.Spec.TrailingZeros
import Derived.Lib.LaidTab
import Derived.Shelf.Strings.Builder1
import Derived.Shelf.Strings.Builder2
import Derived.Shelf.Strings.OnBuilder
import Derived.Shelf.Strings.BuilderF
import Derived.Shelf.Strings.BuilderK
import Derived.Shelf.Strings.Builder2Cap
import Derived.Shelf.Strconv.Itoa0
import Derived.Shelf.Strconv.Itoa1
import Derived.Shelf.LaysM
import Derived.Shelf.Strconv.Itoa2
import Derived.Shelf.Strconv.Itoa3
import Derived.Shelf.Bits.Mul64
import Derived.Shelf.Strings.BuilderCap
import Derived.Ground.SlgnProg
import Derived.Shelf.SlicesE.Clone
import Derived.Ground.SlgfProg
import Derived.Shelf.SlicesE.IndexFunc
import Derived.Laws.StructEq
import Derived.Shelf.Spec.BitsCarry
import Derived.Laws.BitsAllLaws
import Derived.OpenShut
import Derived.StillTailTactics
import Derived.Outline
import Derived.RegionTactic
import Derived.ChangeAlike
import Derived.BigRegion
/-! Texts of this claim, joined: KernD, KernE, KernF, KernG, FldD, KernH, FitsA, KernI, KernJ, ShapeF, KernK, FldE, SixA. -/
section
namespace Go.Proofs.YtpnkcjnemoompaaDoor.Kern
open Go.RowKit Go.Proofs.YtpnkcjnemoompaaDoor Go.Proofs.YtpnkcjnemoompaaDoor.Ext Go.Proofs.YtpnkcjnemoompaaDoor.PPlan Go.Proofs.YtpnkcjnemoompaaDoor.PFft Go.Proofs.YtpnkcjnemoompaaDoor.Pure Go.Proofs.YtpnkcjnemoompaaDoor.Obj Go.Proofs.YtpnkcjnemoompaaDoor.Fft Go.Proofs.YtpnkcjnemoompaaDoorW.PrintWords Go.Proofs.YtpnkcjnemoompaaDoorW.PrintLast Go.Proofs.YtpnkcjnemoompaaDoorW.PrintMore
set_option linter.unusedVariables false
set_option linter.unusedSimpArgs false
set_option maxRecDepth 100000
theorem gAddF (A B : F) : gold_Add.f (fv A) (fv B) = some (fv (A + B)) := by
  have := gAdd (fv A) (fv B) (fv_w _) (fv_w _)
  rw [fo_fv, fo_fv] at this
  exact this
theorem gSubF (A B : F) : gold_Sub.f (fv A) (fv B) = some (fv (A - B)) := by
  have := gSub (fv A) (fv B) (fv_w _) (fv_w _)
  rw [fo_fv, fo_fv] at this
  exact this
def Dh (s : Nat) (f : Nat → F) (ys : List Int) (q : Nat) : Prop := ∀ q', q' < q → ys.getD q' 0 = fv (f q' + f (q' + s)) ∧ ys.getD (q' + s) 0 = fv (f q' - f (q' + s))
theorem Dh.step {s q : Nat} {f : Nat → F} {ys : List Int} (h : Dh s f ys q) (hq : q < s) (hl : ys.length = 2 * s) : Dh s f ((ys.set q (fv (f q + f (q + s)))).set (q + s) (fv (f q - f (q + s)))) (q + 1) := by
  intro q' hq'
  have k1 : ∀ j, ((ys.set q (fv (f q + f (q + s)))).set (q + s) (fv (f q - f (q + s)))).getD j 0 = if j = q + s then fv (f q - f (q + s)) else if j = q then fv (f q + f (q + s)) else ys.getD j 0 := fun j => by
    rw [getD_set _ _ _ _ (by rw [List.length_set]; omega), getD_set _ _ _ _ (by omega)]
  rw [k1, k1]
  by_cases e : q' = q
  · subst e
    rw [if_neg (by omega), if_pos rfl, if_pos rfl]
    exact ⟨rfl, rfl⟩
  · rw [if_neg (by omega), if_neg e, if_neg (by omega), if_neg (by omega)]
    exact h q' (by omega)
structure Hst (w0 w : World) (P gs cs gd cd N : Nat) (X Y : Value) (f : Nat → F) (ys : List Int) : Prop where
  ps : Bk w P 196 [X, Y, .slice (some ⟨gs, 0, none⟩) N cs, .slice (some ⟨gd, 0, none⟩) N cd]
  src : Mr w gs cs (tb N f)
  dst : Mr w gd cd ys
  len : ys.length = N
  fr : Fr w0 w [gd]
  n2 : gd ≠ gs
section
variable {w0 w w1 : World} {P gs cs gd cd N : Nat} {X Y : Value} {f : Nat → F} {ys : List Int}
theorem Hst.below (h : Hst w0 w P gs cs gd cd N X Y f ys) (hb : Below w.heap.size w w1) : Hst w0 w1 P gs cs gd cd N X Y f ys := ⟨h.ps.below hb, h.src.below hb, h.dst.below hb, h.len, h.fr.trans (Fr.of_below hb [gd]), h.n2⟩
theorem Hst.put (h : Hst w0 w P gs cs gd cd N X Y f ys) (i : Nat) (x : Int) : Hst w0 (w.setCell ⟨gd, i, none⟩ (.int .u64 x)) P gs cs gd cd N X Y f (ys.set i x) :=
  ⟨h.ps.far i _ (h.dst.ne h.ps (by decide)), h.src.far _ _ _ (Ne.symm h.n2), h.dst.put i x, by rw [List.length_set]; exact h.len, h.fr.set gd i _ (.inl (by simp)), h.n2⟩
end
set_option maxHeartbeats 8000000 in
theorem half_calls (P gs cs gd cd s N : Nat) (X Y : Value) (f : Nat → F) (ys : List Int) (w : World) (hN : N = 2 * s) (hN2 : N ≤ 1048576) (h : Hst w w P gs cs gd cd N X Y f ys) :
    Calls Tryd.prog 166 #[.pointer (some ⟨P, 0, none⟩), .int .i64 (s : Int)] w fun e w' => e = .returned (.tuple #[]) ∧ ∃ ys', ys'.length = N ∧ Dh s f ys' s ∧ Fr w w' [gd, P] ∧
      Bk w' P 196 [X, Y, .slice (some ⟨gd, 0, none⟩) N cd, .slice (some ⟨gs, 0, none⟩) N cs] ∧ Mr w' gs cs (tb N f) ∧ Mr w' gd cd ys' := by
  have HQ := Aside0.mk h
  have HN := Aside0.mk hN
  have H2 := Aside0.mk hN2
  have hs2 : s ≤ 1048576 := by omega
  clear h hN hN2
  go_enter Tryd.func166, Tryd.ntmps166
  go_wp2
  go_loopw [8] (fun v8 wr => ∃ (q : Nat) (ys : List Int), v8 = .int .i64 q ∧ q ≤ s ∧ Aside0 (Hst w wr P gs cs gd cd N X Y f ys) ∧ Aside0 (Dh s f ys q)) (fun v8 _ => s - (intOf v8).toNat)
  case atStart => exact ⟨0, ys, rfl, Nat.zero_le _, HQ, ⟨fun q' hq' => by omega⟩⟩
  case round =>
    clear HQ
    obtain ⟨q, ys, rfl, hq, HQ, HD⟩ := hrel
    by_cases h1 : q < s
    · have hqa : (q : Int) < (s : Int) := by omega
      go_wp2_with fail
      obtain ⟨t, ht⟩ : ∃ t, t = q + s := ⟨_, rfl⟩
      have htN : t < N := by have := HN.out; omega
      have hqN : q < N := by omega
      have g1 := HQ.out.src.cell q (by rw [tb_len]; exact hqN)
      have g2 := HQ.out.src.cell t (by rw [tb_len]; exact htN)
      rw [tb_get f hqN] at g1
      rw [tb_get f htN] at g2
      have G1 := Aside0.mk g1
      have G2 := Aside0.mk g2
      have Et := Aside0.mk ht
      have TN := Aside0.mk htN
      have QN := Aside0.mk hqN
      have o1 : (q : Int) < (N : Int) := by omega
      have o2 : (0 : Int) ≤ (t : Int) := by omega
      have o2' : (t : Int) < (N : Int) := by omega
      obtain ⟨kA, kB⟩ := wrapb (show (q : Int) + (s : Int) = (t : Int) by omega) (show t ≤ 9223372036854775807 by omega)
      clear g1 g2 ht htN hqN
      refine start_ (n := 18) (S := fun w' => w'.cell? ⟨P, 2, none⟩ = some (.slice (some ⟨gs, 0, none⟩) N cs) ∧ w'.cell? ⟨gs, q, none⟩ = some (.int .u64 (fv (f q))) ∧ w'.cell? ⟨gs, t, none⟩ = some (.int .u64 (fv (f t)))) (ds := []) #[false, false, false, false, false, false, false, false, false, false, false, false, false, false, false, false, false, false] (by kernel_rfl) rfl rfl ⟨HQ.out.ps.cell 2, G1.out, G2.out⟩ (fun hHeld => ?_)
      refine pure_ (i := 0) (N := some 11) (v := ?_) (a' := ?_) #[true, false, false, false, false, false, false, false, false, false, false, false, false, false, false, false, false, false] rfl rfl (by kernel_rfl) (fun _ _ _ h => h) (Or.inl ⟨by rfl, ?_⟩) ?_ ?_
      rotate_left
      · intro w'
        go_simp
        with_reducible rfl
      rotate_left
      · simp only [Act.put, List.setIfInBounds_toArray, List.set_cons_zero, List.set_cons_succ, i64_w, i32_w]
        rfl
      refine pure_ (i := 1) (N := some 12) (v := ?_) (a' := ?_) #[true, true, false, false, false, false, false, false, false, false, false, false, false, false, false, false, false, false] rfl rfl (by kernel_rfl) (fun _ _ _ h => h) (Or.inl ⟨by rfl, ?_⟩) ?_ ?_
      rotate_left
      · intro w'
        go_simp
        with_reducible rfl
      rotate_left
      · simp only [Act.put, List.setIfInBounds_toArray, List.set_cons_zero, List.set_cons_succ, i64_w, i32_w]
        rfl
      refine pure_ (i := 2) (N := some 13) (v := ?_) (a' := ?_) #[true, true, true, false, false, false, false, false, false, false, false, false, false, false, false, false, false, false] rfl rfl (by kernel_rfl) (fun _ _ _ h => h) (Or.inl ⟨by rfl, ?_⟩) ?_ ?_
      rotate_left
      · intro w'
        go_simp
        with_reducible rfl
      rotate_left
      · simp only [Act.put, List.setIfInBounds_toArray, List.set_cons_zero, List.set_cons_succ, i64_w, i32_w]
        rfl
      refine pure_ (i := 4) (N := some 15) (v := ?_) (a' := ?_) #[true, true, true, false, true, false, false, false, false, false, false, false, false, false, false, false, false, false] rfl rfl (by kernel_rfl) (fun _ _ _ h => h) (Or.inl ⟨by rfl, ?_⟩) ?_ ?_
      rotate_left
      · intro w'
        go_simp
        with_reducible rfl
      rotate_left
      · simp only [Act.put, List.setIfInBounds_toArray, List.set_cons_zero, List.set_cons_succ, i64_w, i32_w]
        rfl
      refine pure_ (i := 7) (N := some 18) (v := ?_) (a' := ?_) #[true, true, true, false, true, false, false, true, false, false, false, false, false, false, false, false, false, false] rfl rfl (by kernel_rfl) (fun _ _ _ h => h) (Or.inl ⟨by rfl, ?_⟩) ?_ ?_
      rotate_left
      · intro w'
        go_simp
        with_reducible rfl
      rotate_left
      · simp only [Act.put, List.setIfInBounds_toArray, List.set_cons_zero, List.set_cons_succ, i64_w, i32_w]
        rfl
      refine pure_ (i := 8) (N := some 19) (v := ?_) (a' := ?_) #[true, true, true, false, true, false, false, true, true, false, false, false, false, false, false, false, false, false] rfl rfl (by kernel_rfl) (fun _ _ _ h => h) (Or.inl ⟨by rfl, ?_⟩) ?_ ?_
      rotate_left
      · intro w'
        go_simp
        with_reducible rfl
      rotate_left
      · simp only [Act.put, List.setIfInBounds_toArray, List.set_cons_zero, List.set_cons_succ, i64_w, i32_w]
        rfl
      refine pure_ (i := 9) (N := some 20) (v := ?_) (a' := ?_) #[true, true, true, false, true, false, false, true, true, true, false, false, false, false, false, false, false, false] rfl rfl (by kernel_rfl) (fun _ _ _ h => h) (Or.inl ⟨by rfl, ?_⟩) ?_ ?_
      rotate_left
      · intro w'
        go_simp
        with_reducible rfl
      rotate_left
      · simp only [Act.put, List.setIfInBounds_toArray, List.set_cons_zero, List.set_cons_succ, i64_w, i32_w]
        rfl
      refine pure_ (i := 11) (N := some 22) (v := ?_) (a' := ?_) #[true, true, true, false, true, false, false, true, true, true, false, true, false, false, false, false, false, false] rfl rfl (by kernel_rfl) (fun _ _ _ h => h) (Or.inl ⟨by rfl, ?_⟩) ?_ ?_
      rotate_left
      · intro w'
        go_simp
        with_reducible rfl
      rotate_left
      · simp only [Act.put, List.setIfInBounds_toArray, List.set_cons_zero, List.set_cons_succ, i64_w, i32_w]
        rfl
      refine pure_ (i := 12) (N := some 23) (v := ?_) (a' := ?_) #[true, true, true, false, true, false, false, true, true, true, false, true, true, false, false, false, false, false] rfl rfl (by kernel_rfl) (fun _ _ _ h => h) (Or.inl ⟨by rfl, ?_⟩) ?_ ?_
      rotate_left
      · intro w'
        go_simp
        with_reducible rfl
      rotate_left
      · simp only [Act.put, List.setIfInBounds_toArray, List.set_cons_zero, List.set_cons_succ, i64_w, i32_w]
        rfl
      refine pure_ (i := 13) (N := some 24) (v := ?_) (a' := ?_) #[true, true, true, false, true, false, false, true, true, true, false, true, true, true, false, false, false, false] rfl rfl (by kernel_rfl) (fun _ _ _ h => h) (Or.inl ⟨by rfl, ?_⟩) ?_ ?_
      rotate_left
      · intro w'
        go_simp
        with_reducible rfl
      rotate_left
      · simp only [Act.put, List.setIfInBounds_toArray, List.set_cons_zero, List.set_cons_succ, i64_w, i32_w]
        rfl
      refine take_ (i := 3) (N := some 14) (v := ?_) (a' := ?_) #[true, true, true, true, true, false, false, true, true, true, false, true, true, true, false, false, false, false] rfl rfl (by kernel_rfl) (fun _ _ _ h => h) (Or.inl ⟨by rfl, ?_⟩) hHeld ?_ ?_
      rotate_left
      · rintro w' ⟨s0, s1, s2⟩
        go_simp
        with_reducible rfl
      rotate_left
      · simp only [Act.put, List.setIfInBounds_toArray, List.set_cons_zero, List.set_cons_succ, i64_w, i32_w]
        rfl
      refine pure_ (i := 5) (N := some 16) (v := ?_) (a' := ?_) #[true, true, true, true, true, true, false, true, true, true, false, true, true, true, false, false, false, false] rfl rfl (by kernel_rfl) (fun _ _ _ h => h) (Or.inl ⟨by rfl, ?_⟩) ?_ ?_
      rotate_left
      · intro w'
        go_simp
        with_reducible rfl
      rotate_left
      · simp only [Act.put, List.setIfInBounds_toArray, List.set_cons_zero, List.set_cons_succ, i64_w, i32_w]
        rfl
      refine take_ (i := 6) (N := some 17) (v := ?_) (a' := ?_) #[true, true, true, true, true, true, true, true, true, true, false, true, true, true, false, false, false, false] rfl rfl (by kernel_rfl) (fun _ _ _ h => h) (Or.inl ⟨by rfl, ?_⟩) hHeld ?_ ?_
      rotate_left
      · rintro w' ⟨s0, s1, s2⟩
        go_simp
        with_reducible rfl
      rotate_left
      · simp only [Act.put, List.setIfInBounds_toArray, List.set_cons_zero, List.set_cons_succ, i64_w, i32_w]
        rfl
      refine pure_ (i := 16) (N := some 5) (v := ?_) (a' := ?_) #[true, true, true, true, true, true, true, true, true, true, false, true, true, true, false, false, true, false] rfl rfl (by kernel_rfl) (fun _ _ _ h => h) (Or.inl ⟨by rfl, ?_⟩) ?_ ?_
      rotate_left
      · intro w'
        go_simp
        with_reducible rfl
      rotate_left
      · simp only [Act.put, List.setIfInBounds_toArray, List.set_cons_zero, List.set_cons_succ, i64_w, i32_w]
        rfl
      refine take_ (i := 10) (N := some 21) (v := ?_) (a' := ?_) #[true, true, true, true, true, true, true, true, true, true, true, true, true, true, false, false, true, false] rfl rfl (by kernel_rfl) (fun _ _ _ h => h) (Or.inl ⟨by rfl, ?_⟩) hHeld ?_ ?_
      rotate_left
      · rintro w' ⟨s0, s1, s2⟩
        go_simp
        with_reducible rfl
      rotate_left
      · simp only [Act.put, List.setIfInBounds_toArray, List.set_cons_zero, List.set_cons_succ, i64_w, i32_w]
        rfl
      refine pure_ (i := 14) (N := some 25) (v := ?_) (a' := ?_) #[true, true, true, true, true, true, true, true, true, true, true, true, true, true, true, false, true, false] rfl rfl (by kernel_rfl) (fun _ _ _ h => h) (Or.inl ⟨by rfl, ?_⟩) ?_ ?_
      rotate_left
      · intro w'
        go_simp
        with_reducible rfl
      rotate_left
      · simp only [Act.put, List.setIfInBounds_toArray, List.set_cons_zero, List.set_cons_succ, i64_w, i32_w]
        rfl
      refine take_ (i := 15) (N := some 26) (v := ?_) (a' := ?_) #[true, true, true, true, true, true, true, true, true, true, true, true, true, true, true, true, true, false] rfl rfl (by kernel_rfl) (fun _ _ _ h => h) (Or.inl ⟨by rfl, ?_⟩) hHeld ?_ ?_
      rotate_left
      · rintro w' ⟨s0, s1, s2⟩
        go_simp
        with_reducible rfl
      rotate_left
      · simp only [Act.put, List.setIfInBounds_toArray, List.set_cons_zero, List.set_cons_succ, i64_w, i32_w]
        rfl
      refine pure_ (i := 17) (N := some 6) (v := ?_) (a' := ?_) #[true, true, true, true, true, true, true, true, true, true, true, true, true, true, true, true, true, true] rfl rfl (by kernel_rfl) (fun _ _ _ h => h) (Or.inl ⟨by rfl, ?_⟩) ?_ ?_
      rotate_left
      · intro w'
        go_simp
        with_reducible rfl
      rotate_left
      · simp only [Act.put, List.setIfInBounds_toArray, List.set_cons_zero, List.set_cons_succ, i64_w, i32_w]
        rfl
      refine done_ (by kernel_rfl) ?_
      have HQ1 := Aside0.mk (HQ.out.below (below_drew1 (Below.refl _ _)))
      have HQ3len := Aside0.mk HQ.out.len
      clear hHeld G1 G2 HQ
      go_wp2_with fail
      generalize wr.drew = wj at *
      refine start_ (n := 22) (S := fun w' => w'.cell? ⟨P, 3, none⟩ = some (.slice (some ⟨gd, 0, none⟩) N cd) ∧ Aside0 (Hst w w' P gs cs gd cd N X Y f ys)) (ds := [19, 21]) #[false, false, false, false, false, false, false, false, false, false, false, false, false, false, false, false, false, false, false, false, false, false] (by kernel_rfl) rfl rfl ⟨HQ1.out.ps.cell 3, ⟨HQ1.out.below (below_drew1 (Below.refl _ _))⟩⟩ (fun hHeld => ?_)
      refine pure_ (i := 0) (N := some 27) (v := ?_) (a' := ?_) #[true, false, false, false, false, false, false, false, false, false, false, false, false, false, false, false, false, false, false, false, false, false] rfl rfl (by kernel_rfl) (fun _ _ _ h => h) (Or.inl ⟨by rfl, ?_⟩) ?_ ?_
      rotate_left
      · intro w'
        go_simp
        with_reducible rfl
      rotate_left
      · simp only [Act.put, List.setIfInBounds_toArray, List.set_cons_zero, List.set_cons_succ, i64_w, i32_w]
        rfl
      refine pure_ (i := 1) (N := some 28) (v := ?_) (a' := ?_) #[true, true, false, false, false, false, false, false, false, false, false, false, false, false, false, false, false, false, false, false, false, false] rfl rfl (by kernel_rfl) (fun _ _ _ h => h) (Or.inl ⟨by rfl, ?_⟩) ?_ ?_
      rotate_left
      · intro w'
        go_simp
        with_reducible rfl
      rotate_left
      · simp only [Act.put, List.setIfInBounds_toArray, List.set_cons_zero, List.set_cons_succ, i64_w, i32_w]
        rfl
      refine pure_ (i := 2) (N := some 29) (v := ?_) (a' := ?_) #[true, true, true, false, false, false, false, false, false, false, false, false, false, false, false, false, false, false, false, false, false, false] rfl rfl (by kernel_rfl) (fun _ _ _ h => h) (Or.inl ⟨by rfl, ?_⟩) ?_ ?_
      rotate_left
      · intro w'
        go_simp
        with_reducible rfl
      rotate_left
      · simp only [Act.put, List.setIfInBounds_toArray, List.set_cons_zero, List.set_cons_succ, i64_w, i32_w]
        rfl
      refine pure_ (i := 4) (N := some 31) (v := ?_) (a' := ?_) #[true, true, true, false, true, false, false, false, false, false, false, false, false, false, false, false, false, false, false, false, false, false] rfl rfl (by kernel_rfl) (fun _ _ _ h => h) (Or.inl ⟨by rfl, ?_⟩) ?_ ?_
      rotate_left
      · intro w'
        go_simp
        with_reducible rfl
      rotate_left
      · simp only [Act.put, List.setIfInBounds_toArray, List.set_cons_zero, List.set_cons_succ, i64_w, i32_w]
        rfl
      refine pure_ (i := 5) (N := some 32) (v := ?_) (a' := ?_) #[true, true, true, false, true, true, false, false, false, false, false, false, false, false, false, false, false, false, false, false, false, false] rfl rfl (by kernel_rfl) (fun _ _ _ h => h) (Or.inl ⟨by rfl, ?_⟩) ?_ ?_
      rotate_left
      · intro w'
        go_simp
        with_reducible rfl
      rotate_left
      · simp only [Act.put, List.setIfInBounds_toArray, List.set_cons_zero, List.set_cons_succ, i64_w, i32_w]
        rfl
      refine pure_ (i := 6) (N := some 33) (v := ?_) (a' := ?_) #[true, true, true, false, true, true, true, false, false, false, false, false, false, false, false, false, false, false, false, false, false, false] rfl rfl (by kernel_rfl) (fun _ _ _ h => h) (Or.inl ⟨by rfl, ?_⟩) ?_ ?_
      rotate_left
      · intro w'
        go_simp
        with_reducible rfl
      rotate_left
      · simp only [Act.put, List.setIfInBounds_toArray, List.set_cons_zero, List.set_cons_succ, i64_w, i32_w]
        rfl
      refine pure_ (i := 7) (N := some 34) (v := ?_) (a' := ?_) #[true, true, true, false, true, true, true, true, false, false, false, false, false, false, false, false, false, false, false, false, false, false] rfl rfl (by kernel_rfl) (fun _ _ _ h => h) (Or.inl ⟨by rfl, ?_⟩) ?_ ?_
      rotate_left
      · intro w'
        go_simp
        with_reducible rfl
      rotate_left
      · simp only [Act.put, List.setIfInBounds_toArray, List.set_cons_zero, List.set_cons_succ, i64_w, i32_w]
        rfl
      refine pure_ (i := 9) (N := some 36) (v := ?_) (a' := ?_) #[true, true, true, false, true, true, true, true, false, true, false, false, false, false, false, false, false, false, false, false, false, false] rfl rfl (by kernel_rfl) (fun _ _ _ h => h) (Or.inl ⟨by rfl, ?_⟩) ?_ ?_
      rotate_left
      · intro w'
        go_simp
        with_reducible rfl
      rotate_left
      · simp only [Act.put, List.setIfInBounds_toArray, List.set_cons_zero, List.set_cons_succ, i64_w, i32_w]
        rfl
      refine pure_ (i := 10) (N := some 37) (v := ?_) (a' := ?_) #[true, true, true, false, true, true, true, true, false, true, true, false, false, false, false, false, false, false, false, false, false, false] rfl rfl (by kernel_rfl) (fun _ _ _ h => h) (Or.inl ⟨by rfl, ?_⟩) ?_ ?_
      rotate_left
      · intro w'
        go_simp
        with_reducible rfl
      rotate_left
      · simp only [Act.put, List.setIfInBounds_toArray, List.set_cons_zero, List.set_cons_succ, i64_w, i32_w]
        rfl
      refine pure_ (i := 11) (N := some 38) (v := ?_) (a' := ?_) #[true, true, true, false, true, true, true, true, false, true, true, true, false, false, false, false, false, false, false, false, false, false] rfl rfl (by kernel_rfl) (fun _ _ _ h => h) (Or.inl ⟨by rfl, ?_⟩) ?_ ?_
      rotate_left
      · intro w'
        go_simp
        with_reducible rfl
      rotate_left
      · simp only [Act.put, List.setIfInBounds_toArray, List.set_cons_zero, List.set_cons_succ, i64_w, i32_w]
        rfl
      refine pure_ (i := 12) (N := some 39) (v := ?_) (a' := ?_) #[true, true, true, false, true, true, true, true, false, true, true, true, true, false, false, false, false, false, false, false, false, false] rfl rfl (by kernel_rfl) (fun _ _ _ h => h) (Or.inl ⟨by rfl, ?_⟩) ?_ ?_
      rotate_left
      · intro w'
        go_simp
        with_reducible rfl
      rotate_left
      · simp only [Act.put, List.setIfInBounds_toArray, List.set_cons_zero, List.set_cons_succ, i64_w, i32_w]
        rfl
      refine pure_ (i := 13) (N := some 40) (v := ?_) (a' := ?_) #[true, true, true, false, true, true, true, true, false, true, true, true, true, true, false, false, false, false, false, false, false, false] rfl rfl (by kernel_rfl) (fun _ _ _ h => h) (Or.inl ⟨by rfl, ?_⟩) ?_ ?_
      rotate_left
      · intro w'
        go_simp
        with_reducible rfl
      rotate_left
      · simp only [Act.put, List.setIfInBounds_toArray, List.set_cons_zero, List.set_cons_succ, i64_w, i32_w]
        rfl
      refine pure_ (i := 15) (N := some 42) (v := ?_) (a' := ?_) #[true, true, true, false, true, true, true, true, false, true, true, true, true, true, false, true, false, false, false, false, false, false] rfl rfl (by kernel_rfl) (fun _ _ _ h => h) (Or.inl ⟨by rfl, ?_⟩) ?_ ?_
      rotate_left
      · intro w'
        go_simp
        with_reducible rfl
      rotate_left
      · simp only [Act.put, List.setIfInBounds_toArray, List.set_cons_zero, List.set_cons_succ, i64_w, i32_w]
        rfl
      refine pure_ (i := 16) (N := some 43) (v := ?_) (a' := ?_) #[true, true, true, false, true, true, true, true, false, true, true, true, true, true, false, true, true, false, false, false, false, false] rfl rfl (by kernel_rfl) (fun _ _ _ h => h) (Or.inl ⟨by rfl, ?_⟩) ?_ ?_
      rotate_left
      · intro w'
        go_simp
        with_reducible rfl
      rotate_left
      · simp only [Act.put, List.setIfInBounds_toArray, List.set_cons_zero, List.set_cons_succ, i64_w, i32_w]
        rfl
      refine take_ (i := 3) (N := some 30) (v := ?_) (a' := ?_) #[true, true, true, true, true, true, true, true, false, true, true, true, true, true, false, true, true, false, false, false, false, false] rfl rfl (by kernel_rfl) (fun _ _ _ h => h) (Or.inl ⟨by rfl, ?_⟩) hHeld ?_ ?_
      rotate_left
      · rintro w' ⟨s0, s1⟩
        go_simp
        with_reducible rfl
      rotate_left
      · simp only [Act.put, List.setIfInBounds_toArray, List.set_cons_zero, List.set_cons_succ, i64_w, i32_w]
        rfl
      refine take_ (i := 8) (N := some 35) (v := ?_) (a' := ?_) #[true, true, true, true, true, true, true, true, true, true, true, true, true, true, false, true, true, false, false, false, false, false] rfl rfl (by kernel_rfl) (fun _ _ _ h => h) (Or.inl ⟨by rfl, ?_⟩) hHeld ?_ ?_
      rotate_left
      · rintro w' ⟨s0, s1⟩
        go_simp
        with_reducible rfl
      rotate_left
      · simp only [Act.put, List.setIfInBounds_toArray, List.set_cons_zero, List.set_cons_succ, i64_w, i32_w]
        rfl
      refine one_ (i := 14) (N := some 41) #[true, true, true, true, true, true, true, true, true, true, true, true, true, true, true, true, true, false, false, false, false, false] rfl rfl (by kernel_rfl) (by decide) (fun K hK => ?_)
      refine goes_ Tryd.func107 (by kernel_rfl) rfl #[.int .u64 (fv (f q)), .int .u64 (fv (f t))] (by rfl) rfl rfl (by simp only [List.map_toArray, List.map_cons, List.map_nil]; rfl) ?_
      with_reducible refine (gold_Add.calls _ _ _ _ (gAddF (f q) (f t))).mono ?_
      rintro e w4 ⟨rfl, hb⟩
      refine ⟨_, rfl, ?_⟩
      have nS := hHeld.2.out.below hb
      clear hHeld hb
      refine hK.out _ _ ⟨nS.ps.cell 3, ⟨nS⟩⟩ (fun hHeld => ?_)
      clear hK K
      refine norm_ (a' := ?_) ?_ ?_
      rotate_left
      · show Act.put _ (some 41) _ = _
        simp only [Act.put, List.setIfInBounds_toArray, List.set_cons_zero, List.set_cons_succ, i64_w, i32_w]
        rfl
      refine one_ (i := 17) (N := some 44) #[true, true, true, true, true, true, true, true, true, true, true, true, true, true, true, true, true, true, false, false, false, false] rfl rfl (by kernel_rfl) (by decide) (fun K hK => ?_)
      refine goes_ Tryd.func171 (by kernel_rfl) rfl #[.int .u64 (fv (f q)), .int .u64 (fv (f t))] (by rfl) rfl rfl (by simp only [List.map_toArray, List.map_cons, List.map_nil]; rfl) ?_
      with_reducible refine (gold_Sub.calls _ _ _ _ (gSubF (f q) (f t))).mono ?_
      rintro e w5 ⟨rfl, hb⟩
      refine ⟨_, rfl, ?_⟩
      have nS := hHeld.2.out.below hb
      clear hHeld hb
      refine hK.out _ _ ⟨nS.ps.cell 3, ⟨nS⟩⟩ (fun hHeld => ?_)
      clear hK K
      refine norm_ (a' := ?_) ?_ ?_
      rotate_left
      · show Act.put _ (some 44) _ = _
        simp only [Act.put, List.setIfInBounds_toArray, List.set_cons_zero, List.set_cons_succ, i64_w, i32_w]
        rfl
      refine pure_ (i := 18) (N := some 45) (v := ?_) (a' := ?_) #[true, true, true, true, true, true, true, true, true, true, true, true, true, true, true, true, true, true, true, false, false, false] rfl rfl (by kernel_rfl) (fun _ _ _ h => h) (Or.inl ⟨by rfl, ?_⟩) ?_ ?_
      rotate_left
      · intro w'
        go_simp
        with_reducible rfl
      rotate_left
      · simp only [Act.put, List.setIfInBounds_toArray, List.set_cons_zero, List.set_cons_succ, i64_w, i32_w]
        rfl
      refine last_ (i := 19) (N := none) #[true, true, true, true, true, true, true, true, true, true, true, true, true, true, true, true, true, true, true, true, false, false] rfl rfl (by kernel_rfl) (by decide) (fun K hK => ?_)
      have nS := hHeld.2.out
      have c1 := nS.dst.cell q (by rw [nS.len]; exact QN.out)
      have f1 := nS.dst.frozen q
      have HQ2 := Aside0.mk (nS.put q (fv (f q + f t)))
      clear nS
      refine skip_ (w1 := ?_) (by rfl) rfl ?_ ?_
      rotate_left
      · go_simp
        rfl
      refine hK.out _ _ ?_
      clear hK K
      refine pure_ (i := 20) (N := some 46) (v := ?_) (a' := ?_) #[true, true, true, true, true, true, true, true, true, true, true, true, true, true, true, true, true, true, true, true, true, false] rfl rfl (by kernel_rfl) (fun _ _ _ h => h) (Or.inl ⟨by rfl, ?_⟩) ?_ ?_
      rotate_left
      · intro w'
        go_simp
        with_reducible rfl
      rotate_left
      · simp only [Act.put, List.setIfInBounds_toArray, List.set_cons_zero, List.set_cons_succ, i64_w, i32_w]
        rfl
      refine last_ (i := 21) (N := none) #[true, true, true, true, true, true, true, true, true, true, true, true, true, true, true, true, true, true, true, true, true, true] rfl rfl (by kernel_rfl) (by decide) (fun K hK => ?_)
      have c2 := HQ2.out.dst.cell t (by rw [HQ2.out.len]; exact TN.out)
      have f2 := HQ2.out.dst.frozen t
      have HQ3 := Aside0.mk (HQ2.out.put t (fv (f q - f t)))
      refine skip_ (w1 := ?_) (by rfl) rfl ?_ ?_
      rotate_left
      · go_simp
        rfl
      refine hK.out _ _ ?_
      clear hK K
      refine done_ (by kernel_rfl) ?_
      obtain ⟨we, hwe⟩ : ∃ w', w' = (w5.setCell ⟨gd, q, none⟩ (.int .u64 (fv (f q + f t)))).setCell ⟨gd, t, none⟩ (.int .u64 (fv (f q - f t))) := ⟨_, rfl⟩
      rw [← hwe] at HQ3 ⊢
      clear hwe HQ2 hHeld HQ1
      have HDn := Aside0.mk (HD.out.step h1 (by rw [HQ3len.out]; exact HN.out))
      go_wp2
      go_roundw
      case rel => exact ⟨q + 1, _, by go_num, by omega, HQ3, by rw [Et.out]; exact HDn⟩
      case measure => simp [intOf]; omega
    · obtain rfl : q = s := by omega
      have hqa : decide ((q : Int) < (q : Int)) = false := decide_eq_false (by omega)
      go_wp2_with fail
      have v2 := HQ.out.ps.cell 2
      have v3 := HQ.out.ps.cell 3
      have z2 := HQ.out.ps.frozen 2
      have z3 := HQ.out.ps.frozen 3
      go_region
      go_wp2
      refine bodyPost_end (results_none Tryd.results166 _ _ _) rfl ?_
      have hgP : gd ≠ P := Ne.symm (HQ.out.dst.ne HQ.out.ps (by decide))
      have hgs : gs ≠ P := Ne.symm (HQ.out.src.ne HQ.out.ps (by decide))
      refine ⟨rfl, ys, HQ.out.len, HD.out, ?_, ?_, ?_, ?_⟩
      · exact (((HQ.out.fr.mono (fun k hk => by simp at hk ⊢; exact .inl hk)).set P 2 _ (.inl (by simp))).set P 3 _ (.inl (by simp))).drew
      · exact (((HQ.out.ps.put 2 _).put 3 _)).drew
      · exact ((HQ.out.src.far P 2 _ hgs).far P 3 _ hgs).below (below_drew1 (Below.refl _ _))
      · exact ((HQ.out.dst.far P 2 _ hgP).far P 3 _ hgP).below (below_drew1 (Below.refl _ _))
end Go.Proofs.YtpnkcjnemoompaaDoor.Kern
end
section
namespace Go.Proofs.YtpnkcjnemoompaaDoor.Kern
open Go.RowKit Go.Proofs.YtpnkcjnemoompaaDoor Go.Proofs.YtpnkcjnemoompaaDoor.Ext Go.Proofs.YtpnkcjnemoompaaDoor.PPlan Go.Proofs.YtpnkcjnemoompaaDoor.PFft Go.Proofs.YtpnkcjnemoompaaDoor.Pure Go.Proofs.YtpnkcjnemoompaaDoor.Obj Go.Proofs.YtpnkcjnemoompaaDoor.Fft Go.Proofs.YtpnkcjnemoompaaDoorW.PrintWords Go.Proofs.YtpnkcjnemoompaaDoorW.PrintLast Go.Proofs.YtpnkcjnemoompaaDoorW.PrintMore
set_option linter.unusedVariables false
set_option linter.unusedSimpArgs false
set_option maxRecDepth 100000
theorem k2_calls (b K : Nat) (v0 v1 sh : Value) (w : World) (h : Bk w b 191 [v0, v1, sh, .int .i64 (K : Int)]) : Calls Tryd.prog 164 #[.pointer (some ⟨b, 0, none⟩)] w fun e w' => e = .returned (.int .i64 (K : Int)) ∧ w' = w := by
  have u3 := h.cell 3
  clear h
  go_enter Tryd.func164, Tryd.ntmps164
  go_wp2
  go_ret
  exact ⟨rfl, rfl⟩
set_option maxHeartbeats 4000000 in
theorem new2_calls (x : Nat) (hK : x ≤ 20) (w : World) : Calls Tryd.prog 148 #[.int .i64 (x : Int)] w fun e w' => ∃ b v0 v1 sh, e = .returned (.pointer (some ⟨b, 0, none⟩)) ∧ Bk w' b 191 [v0, v1, sh, .int .i64 (x : Int)] ∧ Below w.heap.size w w' ∧ w.heap.size ≤ b := by
  obtain ⟨n0, t0⟩ := (gTable x hK 0 (.inl rfl)).rounds
  obtain ⟨n1, t1⟩ := (gTable x hK 1 (.inr rfl)).rounds
  obtain ⟨n2, t2⟩ := (gShare x (by omega)).rounds
  obtain ⟨r0, hr0⟩ : ∃ r, r = tb (max (2 ^ x / 2) 1) (pw (rut x 0)) := ⟨_, rfl⟩
  obtain ⟨r1, hr1⟩ : ∃ r, r = tb (max (2 ^ x / 2) 1) (pw (rut x 1)) := ⟨_, rfl⟩
  rw [← hr0] at t0
  rw [← hr1] at t1
  have T0 := Aside0.mk t0
  have T1 := Aside0.mk t1
  have T2 := Aside0.mk t2
  have d1 : decide ((x : Int) < 0) = false := decide_eq_false (by omega)
  have d2 : decide (20 < (x : Int)) = false := decide_eq_false (by omega)
  clear t0 t1 t2 hr0 hr1
  have HB0 := Aside0.mk (below_alloc (Below.refl w.heap.size w) (Obj.cells #[.slice none 0 0, .slice none 0 0, .int .u64 0, .int .i64 (x : Int)] 191))
  have HK0 := Aside0.mk (Bk.new w 191 [.slice none 0 0, .slice none 0 0, .int .u64 0, .int .i64 (x : Int)])
  go_enter Tryd.func148, Tryd.ntmps148
  go_wp2
  go_loopw [14] (fun v14 wr => ∃ (i : Nat) (v0 v1 : Value), v14 = .int .i64 i ∧ i ≤ 2 ∧ Aside0 (Bk wr w.heap.size 191 [v0, v1, .int .u64 0, .int .i64 (x : Int)]) ∧ Aside0 (Below w.heap.size w wr)) (fun v14 _ => 2 - (intOf v14).toNat)
  case atStart => exact ⟨0, _, _, rfl, by omega, HK0, HB0⟩
  case round =>
    clear HK0 HB0
    obtain ⟨i, v0, v1, rfl, hi, HK, HB⟩ := hrel
    by_cases h1 : i < 2
    · rcases (by omega : i = 0 ∨ i = 1) with rfl | rfl
      · go_wp2_with fail
        refine start_ (n := 13) (S := fun w' => Aside0 (Bk w' w.heap.size 191 [v0, v1, .int .u64 0, .int .i64 (x : Int)] ∧ Below w.heap.size w w')) (ds := [12]) #[false, false, false, false, false, false, false, false, false, false, false, false, false] (by kernel_rfl) rfl rfl (⟨HK.out.drew, below_drew1 HB.out⟩) (fun hHeld => ?_)
        refine pure_ (i := 0) (N := some 18) (v := ?_) (a' := ?_) #[true, false, false, false, false, false, false, false, false, false, false, false, false] rfl rfl (by kernel_rfl) (fun _ _ _ h => h) (Or.inl ⟨by rfl, ?_⟩) ?_ ?_
        rotate_left
        · intro w'
          go_simp
          with_reducible rfl
        rotate_left
        · simp only [Act.put, List.setIfInBounds_toArray, List.set_cons_zero, List.set_cons_succ, i64_w, i32_w]
          rfl
        refine pure_ (i := 1) (N := some 19) (v := ?_) (a' := ?_) #[true, true, false, false, false, false, false, false, false, false, false, false, false] rfl rfl (by kernel_rfl) (fun _ _ _ h => h) (Or.inl ⟨by rfl, ?_⟩) ?_ ?_
        rotate_left
        · intro w'
          go_simp
          with_reducible rfl
        rotate_left
        · simp only [Act.put, List.setIfInBounds_toArray, List.set_cons_zero, List.set_cons_succ, i64_w, i32_w]
          rfl
        refine pure_ (i := 2) (N := some 20) (v := ?_) (a' := ?_) #[true, true, true, false, false, false, false, false, false, false, false, false, false] rfl rfl (by kernel_rfl) (fun _ _ _ h => h) (Or.inl ⟨by rfl, ?_⟩) ?_ ?_
        rotate_left
        · intro w'
          go_simp
          with_reducible rfl
        rotate_left
        · simp only [Act.put, List.setIfInBounds_toArray, List.set_cons_zero, List.set_cons_succ, i64_w, i32_w]
          rfl
        refine pure_ (i := 3) (N := some 21) (v := ?_) (a' := ?_) #[true, true, true, true, false, false, false, false, false, false, false, false, false] rfl rfl (by kernel_rfl) (fun _ _ _ h => h) (Or.inl ⟨by rfl, ?_⟩) ?_ ?_
        rotate_left
        · intro w'
          go_simp
          with_reducible rfl
        rotate_left
        · simp only [Act.put, List.setIfInBounds_toArray, List.set_cons_zero, List.set_cons_succ, i64_w, i32_w]
          rfl
        refine pure_ (i := 8) (N := some 25) (v := ?_) (a' := ?_) #[true, true, true, true, false, false, false, false, true, false, false, false, false] rfl rfl (by kernel_rfl) (fun _ _ _ h => h) (Or.inl ⟨by rfl, ?_⟩) ?_ ?_
        rotate_left
        · intro w'
          go_simp
          with_reducible rfl
        rotate_left
        · simp only [Act.put, List.setIfInBounds_toArray, List.set_cons_zero, List.set_cons_succ, i64_w, i32_w]
          rfl
        refine pure_ (i := 9) (N := some 26) (v := ?_) (a' := ?_) #[true, true, true, true, false, false, false, false, true, true, false, false, false] rfl rfl (by kernel_rfl) (fun _ _ _ h => h) (Or.inl ⟨by rfl, ?_⟩) ?_ ?_
        rotate_left
        · intro w'
          go_simp
          with_reducible rfl
        rotate_left
        · simp only [Act.put, List.setIfInBounds_toArray, List.set_cons_zero, List.set_cons_succ, i64_w, i32_w]
          rfl
        refine pure_ (i := 10) (N := some 27) (v := ?_) (a' := ?_) #[true, true, true, true, false, false, false, false, true, true, true, false, false] rfl rfl (by kernel_rfl) (fun _ _ _ h => h) (Or.inl ⟨by rfl, ?_⟩) ?_ ?_
        rotate_left
        · intro w'
          go_simp
          with_reducible rfl
        rotate_left
        · simp only [Act.put, List.setIfInBounds_toArray, List.set_cons_zero, List.set_cons_succ, i64_w, i32_w]
          rfl
        refine one_ (i := 4) (N := some 22) #[true, true, true, true, true, false, false, false, true, true, true, false, false] rfl rfl (by kernel_rfl) (by decide) (fun K hK => ?_)
        refine goes_ Tryd.func162 (by kernel_rfl) rfl #[.int .i64 (x : Int), .int .i64 0] (by rfl) rfl rfl (by simp only [List.map_toArray, List.map_cons, List.map_nil]; rfl) ?_
        with_reducible refine (twid_Table.calls n0 (x : Int) 0 r0 0 _ T0.out).mono ?_
        rintro e w4 ⟨v, rfl, hR, hb⟩
        refine ⟨_, rfl, ?_⟩
        obtain ⟨Av, cv, rfl, _, _⟩ := Kd.R_reads hR
        have nS : Bk w4 w.heap.size 191 [v0, v1, .int .u64 0, .int .i64 (x : Int)] ∧ Below w.heap.size w w4 := ⟨hHeld.out.1.below hb, below_then hHeld.out.2 hHeld.out.2.size hb⟩
        clear hHeld hb hR
        refine hK.out _ _ (⟨nS⟩) (fun hHeld => ?_)
        clear hK K
        refine norm_ (a' := ?_) ?_ ?_
        rotate_left
        · show Act.put _ (some 22) _ = _
          simp only [Act.put, List.setIfInBounds_toArray, List.set_cons_zero, List.set_cons_succ, i64_w, i32_w]
          rfl
        refine pure_ (i := 5) (N := some 17) (v := ?_) (a' := ?_) #[true, true, true, true, true, true, false, false, true, true, true, false, false] rfl rfl (by kernel_rfl) (fun _ _ _ h => h) (Or.inl ⟨by rfl, ?_⟩) ?_ ?_
        rotate_left
        · intro w'
          go_simp
          with_reducible rfl
        rotate_left
        · simp only [Act.put, List.setIfInBounds_toArray, List.set_cons_zero, List.set_cons_succ, i64_w, i32_w]
          rfl
        refine pure_ (i := 6) (N := some 23) (v := ?_) (a' := ?_) #[true, true, true, true, true, true, true, false, true, true, true, false, false] rfl rfl (by kernel_rfl) (fun _ _ _ h => h) (Or.inl ⟨by rfl, ?_⟩) ?_ ?_
        rotate_left
        · intro w'
          go_simp
          with_reducible rfl
        rotate_left
        · simp only [Act.put, List.setIfInBounds_toArray, List.set_cons_zero, List.set_cons_succ, i64_w, i32_w]
          rfl
        refine pure_ (i := 7) (N := some 24) (v := ?_) (a' := ?_) #[true, true, true, true, true, true, true, true, true, true, true, false, false] rfl rfl (by kernel_rfl) (fun _ _ _ h => h) (Or.inl ⟨by rfl, ?_⟩) ?_ ?_
        rotate_left
        · intro w'
          go_simp
          with_reducible rfl
        rotate_left
        · simp only [Act.put, List.setIfInBounds_toArray, List.set_cons_zero, List.set_cons_succ, i64_w, i32_w]
          rfl
        refine pure_ (i := 11) (N := some 28) (v := ?_) (a' := ?_) #[true, true, true, true, true, true, true, true, true, true, true, true, false] rfl rfl (by kernel_rfl) (fun _ _ _ h => h) (Or.inl ⟨by rfl, ?_⟩) ?_ ?_
        rotate_left
        · intro w'
          go_simp
          with_reducible rfl
        rotate_left
        · simp only [Act.put, List.setIfInBounds_toArray, List.set_cons_zero, List.set_cons_succ, i64_w, i32_w]
          rfl
        refine last_ (i := 12) (N := none) #[true, true, true, true, true, true, true, true, true, true, true, true, true] rfl rfl (by kernel_rfl) (by decide) (fun K hK => ?_)
        have c1 := hHeld.out.1.cell 0
        have f1 := hHeld.out.1.frozen 0
        have HK2 := Aside0.mk (hHeld.out.1.put 0 (.slice Av r0.length cv))
        have HB2 := Aside0.mk (below_set hHeld.out.2 (g := w.heap.size) (j := 0) (v := .slice Av r0.length cv) (Nat.le_refl _))
        refine skip_ (w1 := ?_) (by rfl) rfl ?_ ?_
        rotate_left
        · go_simp
          rfl
        refine hK.out _ _ ?_
        clear hK K
        refine done_ (by kernel_rfl) ?_
        clear hHeld
        go_wp2
        go_roundw
        case rel => exact ⟨1, _, v1, by go_num, by omega, HK2, HB2⟩
        case measure => simp [intOf]
      · go_wp2_with fail
        refine start_ (n := 13) (S := fun w' => Aside0 (Bk w' w.heap.size 191 [v0, v1, .int .u64 0, .int .i64 (x : Int)] ∧ Below w.heap.size w w')) (ds := [12]) #[false, false, false, false, false, false, false, false, false, false, false, false, false] (by kernel_rfl) rfl rfl (⟨HK.out.drew, below_drew1 HB.out⟩) (fun hHeld => ?_)
        refine pure_ (i := 0) (N := some 18) (v := ?_) (a' := ?_) #[true, false, false, false, false, false, false, false, false, false, false, false, false] rfl rfl (by kernel_rfl) (fun _ _ _ h => h) (Or.inl ⟨by rfl, ?_⟩) ?_ ?_
        rotate_left
        · intro w'
          go_simp
          with_reducible rfl
        rotate_left
        · simp only [Act.put, List.setIfInBounds_toArray, List.set_cons_zero, List.set_cons_succ, i64_w, i32_w]
          rfl
        refine pure_ (i := 1) (N := some 19) (v := ?_) (a' := ?_) #[true, true, false, false, false, false, false, false, false, false, false, false, false] rfl rfl (by kernel_rfl) (fun _ _ _ h => h) (Or.inl ⟨by rfl, ?_⟩) ?_ ?_
        rotate_left
        · intro w'
          go_simp
          with_reducible rfl
        rotate_left
        · simp only [Act.put, List.setIfInBounds_toArray, List.set_cons_zero, List.set_cons_succ, i64_w, i32_w]
          rfl
        refine pure_ (i := 2) (N := some 20) (v := ?_) (a' := ?_) #[true, true, true, false, false, false, false, false, false, false, false, false, false] rfl rfl (by kernel_rfl) (fun _ _ _ h => h) (Or.inl ⟨by rfl, ?_⟩) ?_ ?_
        rotate_left
        · intro w'
          go_simp
          with_reducible rfl
        rotate_left
        · simp only [Act.put, List.setIfInBounds_toArray, List.set_cons_zero, List.set_cons_succ, i64_w, i32_w]
          rfl
        refine pure_ (i := 3) (N := some 21) (v := ?_) (a' := ?_) #[true, true, true, true, false, false, false, false, false, false, false, false, false] rfl rfl (by kernel_rfl) (fun _ _ _ h => h) (Or.inl ⟨by rfl, ?_⟩) ?_ ?_
        rotate_left
        · intro w'
          go_simp
          with_reducible rfl
        rotate_left
        · simp only [Act.put, List.setIfInBounds_toArray, List.set_cons_zero, List.set_cons_succ, i64_w, i32_w]
          rfl
        refine pure_ (i := 8) (N := some 25) (v := ?_) (a' := ?_) #[true, true, true, true, false, false, false, false, true, false, false, false, false] rfl rfl (by kernel_rfl) (fun _ _ _ h => h) (Or.inl ⟨by rfl, ?_⟩) ?_ ?_
        rotate_left
        · intro w'
          go_simp
          with_reducible rfl
        rotate_left
        · simp only [Act.put, List.setIfInBounds_toArray, List.set_cons_zero, List.set_cons_succ, i64_w, i32_w]
          rfl
        refine pure_ (i := 9) (N := some 26) (v := ?_) (a' := ?_) #[true, true, true, true, false, false, false, false, true, true, false, false, false] rfl rfl (by kernel_rfl) (fun _ _ _ h => h) (Or.inl ⟨by rfl, ?_⟩) ?_ ?_
        rotate_left
        · intro w'
          go_simp
          with_reducible rfl
        rotate_left
        · simp only [Act.put, List.setIfInBounds_toArray, List.set_cons_zero, List.set_cons_succ, i64_w, i32_w]
          rfl
        refine pure_ (i := 10) (N := some 27) (v := ?_) (a' := ?_) #[true, true, true, true, false, false, false, false, true, true, true, false, false] rfl rfl (by kernel_rfl) (fun _ _ _ h => h) (Or.inl ⟨by rfl, ?_⟩) ?_ ?_
        rotate_left
        · intro w'
          go_simp
          with_reducible rfl
        rotate_left
        · simp only [Act.put, List.setIfInBounds_toArray, List.set_cons_zero, List.set_cons_succ, i64_w, i32_w]
          rfl
        refine one_ (i := 4) (N := some 22) #[true, true, true, true, true, false, false, false, true, true, true, false, false] rfl rfl (by kernel_rfl) (by decide) (fun K hK => ?_)
        refine goes_ Tryd.func162 (by kernel_rfl) rfl #[.int .i64 (x : Int), .int .i64 1] (by rfl) rfl rfl (by simp only [List.map_toArray, List.map_cons, List.map_nil]; rfl) ?_
        with_reducible refine (twid_Table.calls n1 (x : Int) 1 r1 0 _ T1.out).mono ?_
        rintro e w4 ⟨v, rfl, hR, hb⟩
        refine ⟨_, rfl, ?_⟩
        obtain ⟨Av, cv, rfl, _, _⟩ := Kd.R_reads hR
        have nS : Bk w4 w.heap.size 191 [v0, v1, .int .u64 0, .int .i64 (x : Int)] ∧ Below w.heap.size w w4 := ⟨hHeld.out.1.below hb, below_then hHeld.out.2 hHeld.out.2.size hb⟩
        clear hHeld hb hR
        refine hK.out _ _ (⟨nS⟩) (fun hHeld => ?_)
        clear hK K
        refine norm_ (a' := ?_) ?_ ?_
        rotate_left
        · show Act.put _ (some 22) _ = _
          simp only [Act.put, List.setIfInBounds_toArray, List.set_cons_zero, List.set_cons_succ, i64_w, i32_w]
          rfl
        refine pure_ (i := 5) (N := some 17) (v := ?_) (a' := ?_) #[true, true, true, true, true, true, false, false, true, true, true, false, false] rfl rfl (by kernel_rfl) (fun _ _ _ h => h) (Or.inl ⟨by rfl, ?_⟩) ?_ ?_
        rotate_left
        · intro w'
          go_simp
          with_reducible rfl
        rotate_left
        · simp only [Act.put, List.setIfInBounds_toArray, List.set_cons_zero, List.set_cons_succ, i64_w, i32_w]
          rfl
        refine pure_ (i := 6) (N := some 23) (v := ?_) (a' := ?_) #[true, true, true, true, true, true, true, false, true, true, true, false, false] rfl rfl (by kernel_rfl) (fun _ _ _ h => h) (Or.inl ⟨by rfl, ?_⟩) ?_ ?_
        rotate_left
        · intro w'
          go_simp
          with_reducible rfl
        rotate_left
        · simp only [Act.put, List.setIfInBounds_toArray, List.set_cons_zero, List.set_cons_succ, i64_w, i32_w]
          rfl
        refine pure_ (i := 7) (N := some 24) (v := ?_) (a' := ?_) #[true, true, true, true, true, true, true, true, true, true, true, false, false] rfl rfl (by kernel_rfl) (fun _ _ _ h => h) (Or.inl ⟨by rfl, ?_⟩) ?_ ?_
        rotate_left
        · intro w'
          go_simp
          with_reducible rfl
        rotate_left
        · simp only [Act.put, List.setIfInBounds_toArray, List.set_cons_zero, List.set_cons_succ, i64_w, i32_w]
          rfl
        refine pure_ (i := 11) (N := some 28) (v := ?_) (a' := ?_) #[true, true, true, true, true, true, true, true, true, true, true, true, false] rfl rfl (by kernel_rfl) (fun _ _ _ h => h) (Or.inl ⟨by rfl, ?_⟩) ?_ ?_
        rotate_left
        · intro w'
          go_simp
          with_reducible rfl
        rotate_left
        · simp only [Act.put, List.setIfInBounds_toArray, List.set_cons_zero, List.set_cons_succ, i64_w, i32_w]
          rfl
        refine last_ (i := 12) (N := none) #[true, true, true, true, true, true, true, true, true, true, true, true, true] rfl rfl (by kernel_rfl) (by decide) (fun K hK => ?_)
        have c1 := hHeld.out.1.cell 1
        have f1 := hHeld.out.1.frozen 1
        have HK2 := Aside0.mk (hHeld.out.1.put 1 (.slice Av r1.length cv))
        have HB2 := Aside0.mk (below_set hHeld.out.2 (g := w.heap.size) (j := 1) (v := .slice Av r1.length cv) (Nat.le_refl _))
        refine skip_ (w1 := ?_) (by rfl) rfl ?_ ?_
        rotate_left
        · go_simp
          rfl
        refine hK.out _ _ ?_
        clear hK K
        refine done_ (by kernel_rfl) ?_
        clear hHeld
        go_wp2
        go_roundw
        case rel => exact ⟨2, v0, _, by go_num, by omega, HK2, HB2⟩
        case measure => simp [intOf]
    · obtain rfl : i = 2 := by omega
      go_wp2_with fail
      with_reducible refine (twid_Share.calls n2 (x : Int) _ 0 _ T2.out).mono ?_
      rintro e w5 ⟨rfl, hb⟩
      have HK5 := Aside0.mk (HK.out.below hb)
      have HB5 := Aside0.mk (below_then HB.out HB.out.size hb)
      have c2 := HK5.out.cell 2
      have f2 := HK5.out.frozen 2
      clear hb HK HB
      go_wp2
      go_ret
      exact ⟨_, v0, v1, _, rfl, HK5.out.put 2 _, below_set HB5.out (Nat.le_refl _), Nat.le_refl _⟩
structure Ker (w : World) (p b g0 c0 g1 c1 K N : Nat) : Prop where
  n : N = 2 ^ K
  k : K ≤ 20
  obj : Bk w p 177 [.pointer (some ⟨b, 0, none⟩), .slice (some ⟨g0, 0, none⟩) N c0, .slice (some ⟨g1, 0, none⟩) N c1, .int .u64 (fv (rut 2 0)), .int .u64 (fv (rut 2 1)), .int .u64 (fv (shf K))]
  sub : ∃ v0 v1 sh, Bk w b 191 [v0, v1, sh, .int .i64 (K : Int)]
  p0 : Mr w g0 c0 (tb N (pw (rut K 0)))
  p1 : Mr w g1 c1 (tb N (pw (rut K 1)))
theorem Ker.fr {w w' : World} {S : List Nat} {p b g0 c0 g1 c1 K N : Nat} (h : Ker w p b g0 c0 g1 c1 K N) (hf : Fr w w' S) (h1 : p ∉ S) (h2 : b ∉ S) (h3 : g0 ∉ S) (h4 : g1 ∉ S) : Ker w' p b g0 c0 g1 c1 K N := by
  obtain ⟨v0, v1, sh, hs⟩ := h.sub
  exact ⟨h.n, h.k, h.obj.fr hf h1, ⟨v0, v1, sh, hs.fr hf h2⟩, h.p0.fr hf h3, h.p1.fr hf h4⟩
theorem Ker.below {w w' : World} {p b g0 c0 g1 c1 K N : Nat} (h : Ker w p b g0 c0 g1 c1 K N) (hb : Below w.heap.size w w') : Ker w' p b g0 c0 g1 c1 K N :=
  h.fr (S := []) (Fr.of_below hb []) (by simp) (by simp) (by simp) (by simp)
structure Kst (w0 w : World) (p b x N : Nat) (v0 v1 : Value) (u0 u1 : Int) : Prop where
  obj : Bk w p 177 [.pointer (some ⟨b, 0, none⟩), v0, v1, .int .u64 u0, .int .u64 u1, .int .u64 0]
  sub : ∃ v0 v1 sh, Bk w b 191 [v0, v1, sh, .int .i64 (x : Int)]
  be : Below w0.heap.size w0 w
  p : w0.heap.size ≤ p
  b : w0.heap.size ≤ b
theorem Kst.below {w0 w w1 : World} {p b x N : Nat} {v0 v1 : Value} {u0 u1 : Int} (h : Kst w0 w p b x N v0 v1 u0 u1) (hb : Below w.heap.size w w1) : Kst w0 w1 p b x N v0 v1 u0 u1 := by
  obtain ⟨s0, s1, sh, hs⟩ := h.sub
  exact ⟨h.obj.below hb, ⟨s0, s1, sh, hs.below hb⟩, below_then h.be h.be.size hb, h.p, h.b⟩
def Pws (w0 w : World) (N : Nat) (v : Value) (f : Nat → F) : Prop := ∃ g c, v = .slice (some ⟨g, 0, none⟩) N c ∧ w0.heap.size ≤ g ∧ Mr w g c (tb N f)
theorem Pws.below {w0 w w1 : World} {N : Nat} {v : Value} {f : Nat → F} (h : Pws w0 w N v f) (hb : Below w.heap.size w w1) : Pws w0 w1 N v f := by
  obtain ⟨g, c, h1, h2, h3⟩ := h
  exact ⟨g, c, h1, h2, h3.below hb⟩
theorem Pws.far {w0 w : World} {N : Nat} {v : Value} {f : Nat → F} (h : Pws w0 w N v f) {p t : Nat} {cs : List Value} (hp : Bk w p t cs) (ht : t ≠ 45) (j : Nat) (u : Value) : Pws w0 (w.setCell ⟨p, j, none⟩ u) N v f := by
  obtain ⟨g, c, h1, h2, h3⟩ := h
  exact ⟨g, c, h1, h2, h3.far p j u (Ne.symm (h3.ne hp ht))⟩
theorem Kst.put {w0 w : World} {p b x N : Nat} {v0 v1 : Value} {u0 u1 : Int} (h : Kst w0 w p b x N v0 v1 u0 u1) (j : Nat) (u : Value) : (∃ s0 s1 sh, Bk (w.setCell ⟨p, j, none⟩ u) b 191 [s0, s1, sh, .int .i64 (x : Int)]) ∧ Below w0.heap.size w0 (w.setCell ⟨p, j, none⟩ u) := by
  obtain ⟨s0, s1, sh, hs⟩ := h.sub
  exact ⟨⟨s0, s1, sh, hs.far j u (hs.ne h.obj (by decide))⟩, below_set h.be h.p⟩
set_option maxHeartbeats 8000000 in
theorem new4_calls (x : Nat) (hx : x ≤ 20) (w : World) : Calls Tryd.prog 126 #[.int .i64 (x : Int)] w fun e w' => ∃ p b g0 c0 g1 c1, e = .returned (.pointer (some ⟨p, 0, none⟩)) ∧ Ker w' p b g0 c0 g1 c1 x (2 ^ x) ∧ Below w.heap.size w w' ∧ w.heap.size ≤ p ∧ w.heap.size ≤ b ∧ w.heap.size ≤ g0 ∧ w.heap.size ≤ g1 := by
  obtain ⟨N, hN⟩ : ∃ N, N = 2 ^ x := ⟨_, rfl⟩
  have hN0 : 0 < N := by rw [hN]; exact Nat.two_pow_pos x
  obtain ⟨n0, t0⟩ := (gWhole x hx 0 (.inl rfl)).rounds
  obtain ⟨n1, t1⟩ := (gWhole x hx 1 (.inr rfl)).rounds
  obtain ⟨n2, t2⟩ := (gShare x (by omega)).rounds
  obtain ⟨n3, t3⟩ := (gUnit 0 (.inl rfl)).rounds
  obtain ⟨n4, t4⟩ := (gUnit 1 (.inr rfl)).rounds
  rw [← hN] at t0 t1 ⊢
  have T0 := Aside0.mk t0
  have T1 := Aside0.mk t1
  have T2 := Aside0.mk t2
  have T3 := Aside0.mk t3
  have T4 := Aside0.mk t4
  have HN := Aside0.mk hN
  have HX := Aside0.mk hx
  clear t0 t1 t2 t3 t4 hN
  go_enter Tryd.func126, Tryd.ntmps126
  go_wp2_with fail
  refine (new2_calls x HX.out _).mono ?_
  rintro e w1 ⟨b, s0, s1, sh, rfl, hbk, hb, hbz⟩
  obtain ⟨p, hp⟩ : ∃ p, p = w1.heap.size := ⟨_, rfl⟩
  obtain ⟨w2, hw2⟩ : ∃ w2, w2 = w1.alloc (.cells #[.pointer (some ⟨b, 0, none⟩), .slice none 0 0, .slice none 0 0, .int .u64 0, .int .u64 0, .int .u64 0] 177) := ⟨_, rfl⟩
  have HS : Aside0 (Kst w w2 p b x N (.slice none 0 0) (.slice none 0 0) 0 0) := ⟨by
    rw [hw2, hp]
    exact ⟨Bk.new w1 177 [.pointer (some ⟨b, 0, none⟩), .slice none 0 0, .slice none 0 0, .int .u64 0, .int .u64 0, .int .u64 0], ⟨s0, s1, sh, hbk.alloc _⟩, below_alloc hb _, hb.size, hbz⟩⟩
  clear hb hbz hbk
  go_wp2
  rw [← hw2, ← hp]
  clear hp hw2
  go_loopw [16] (fun v16 wr => ∃ i : Nat, v16 = .int .i64 i ∧ ((i = 0 ∧ Aside0 (Kst w wr p b x N (.slice none 0 0) (.slice none 0 0) 0 0)) ∨ (i = 1 ∧ ∃ g0 c0, Aside0 (Kst w wr p b x N (.slice (some ⟨g0, 0, none⟩) N c0) (.slice none 0 0) (fv (rut 2 0)) 0) ∧ Aside0 (Mr wr g0 c0 (tb N (pw (rut x 0)))) ∧ Aside0 (w.heap.size ≤ g0)) ∨
    (i = 2 ∧ ∃ g0 c0 g1 c1, Aside0 (Kst w wr p b x N (.slice (some ⟨g0, 0, none⟩) N c0) (.slice (some ⟨g1, 0, none⟩) N c1) (fv (rut 2 0)) (fv (rut 2 1))) ∧ Aside0 (Mr wr g0 c0 (tb N (pw (rut x 0)))) ∧ Aside0 (w.heap.size ≤ g0) ∧ Aside0 (Mr wr g1 c1 (tb N (pw (rut x 1)))) ∧ Aside0 (w.heap.size ≤ g1)))) (fun v16 _ => 2 - (intOf v16).toNat)
  case atStart => exact ⟨0, rfl, .inl ⟨rfl, HS⟩⟩
  case round =>
    clear HS
    obtain ⟨i, rfl, ⟨rfl, HS⟩ | ⟨rfl, g0, c0, HS, HM0, HG0⟩ | ⟨rfl, g0, c0, g1, c1, HS, HM0, HG0, HM1, HG1⟩⟩ := hrel
    · skip
      go_wp2_with fail
      refine start_ (n := 9) (S := fun w' => Aside0 (Kst w w' p b x N (.slice none 0 0) (.slice none 0 0) 0 0)) (ds := [8]) #[false, false, false, false, false, false, false, false, false] (by kernel_rfl) rfl rfl (⟨HS.out.below (below_drew1 (Below.refl _ _))⟩) (fun hHeld => ?_)
      refine pure_ (i := 0) (N := some 19) (v := ?_) (a' := ?_) #[true, false, false, false, false, false, false, false, false] rfl rfl (by kernel_rfl) (fun _ _ _ h => h) (Or.inl ⟨by rfl, ?_⟩) ?_ ?_
      rotate_left
      · intro w'
        go_simp
        with_reducible rfl
      rotate_left
      · simp only [Act.put, List.setIfInBounds_toArray, List.set_cons_zero, List.set_cons_succ, i64_w, i32_w]
        rfl
      refine pure_ (i := 1) (N := some 20) (v := ?_) (a' := ?_) #[true, true, false, false, false, false, false, false, false] rfl rfl (by kernel_rfl) (fun _ _ _ h => h) (Or.inl ⟨by rfl, ?_⟩) ?_ ?_
      rotate_left
      · intro w'
        go_simp
        with_reducible rfl
      rotate_left
      · simp only [Act.put, List.setIfInBounds_toArray, List.set_cons_zero, List.set_cons_succ, i64_w, i32_w]
        rfl
      refine pure_ (i := 2) (N := some 21) (v := ?_) (a' := ?_) #[true, true, true, false, false, false, false, false, false] rfl rfl (by kernel_rfl) (fun _ _ _ h => h) (Or.inl ⟨by rfl, ?_⟩) ?_ ?_
      rotate_left
      · intro w'
        go_simp
        with_reducible rfl
      rotate_left
      · simp only [Act.put, List.setIfInBounds_toArray, List.set_cons_zero, List.set_cons_succ, i64_w, i32_w]
        rfl
      refine pure_ (i := 3) (N := some 22) (v := ?_) (a' := ?_) #[true, true, true, true, false, false, false, false, false] rfl rfl (by kernel_rfl) (fun _ _ _ h => h) (Or.inl ⟨by rfl, ?_⟩) ?_ ?_
      rotate_left
      · intro w'
        go_simp
        with_reducible rfl
      rotate_left
      · simp only [Act.put, List.setIfInBounds_toArray, List.set_cons_zero, List.set_cons_succ, i64_w, i32_w]
        rfl
      refine pure_ (i := 5) (N := some 24) (v := ?_) (a' := ?_) #[true, true, true, true, false, true, false, false, false] rfl rfl (by kernel_rfl) (fun _ _ _ h => h) (Or.inl ⟨by rfl, ?_⟩) ?_ ?_
      rotate_left
      · intro w'
        go_simp
        with_reducible rfl
      rotate_left
      · simp only [Act.put, List.setIfInBounds_toArray, List.set_cons_zero, List.set_cons_succ, i64_w, i32_w]
        rfl
      refine pure_ (i := 6) (N := some 25) (v := ?_) (a' := ?_) #[true, true, true, true, false, true, true, false, false] rfl rfl (by kernel_rfl) (fun _ _ _ h => h) (Or.inl ⟨by rfl, ?_⟩) ?_ ?_
      rotate_left
      · intro w'
        go_simp
        with_reducible rfl
      rotate_left
      · simp only [Act.put, List.setIfInBounds_toArray, List.set_cons_zero, List.set_cons_succ, i64_w, i32_w]
        rfl
      refine one_ (i := 4) (N := some 23) #[true, true, true, true, true, true, true, false, false] rfl rfl (by kernel_rfl) (by decide) (fun K hK => ?_)
      refine goes_ Tryd.func149 (by kernel_rfl) rfl #[.int .i64 (x : Int), .int .i64 0] (by rfl) rfl rfl (by simp only [List.map_toArray, List.map_cons, List.map_nil]; rfl) ?_
      with_reducible refine (kern4_whole.calls n0 (x : Int) 0 _ _ T0.out).mono ?_
      rintro e w4 ⟨v, rfl, hR, hb⟩
      refine ⟨_, rfl, ?_⟩
      obtain ⟨g0, c0, hv, hg, hm⟩ := Mr.of_R hR (by rw [tb_len]; exact hN0)
      rw [tb_len] at hv
      subst hv
      have HM := Aside0.mk hm
      have HG := Aside0.mk (Nat.le_trans hHeld.out.be.size hg)
      have nS : Kst w w4 p b x N (.slice none 0 0) (.slice none 0 0) 0 0 := hHeld.out.below hb
      clear hHeld hb hR hm hg
      refine hK.out _ _ (⟨nS⟩) (fun hHeld => ?_)
      clear hK K
      refine norm_ (a' := ?_) ?_ ?_
      rotate_left
      · show Act.put _ (some 23) _ = _
        simp only [Act.put, List.setIfInBounds_toArray, List.set_cons_zero, List.set_cons_succ, i64_w, i32_w]
        rfl
      refine pure_ (i := 7) (N := some 26) (v := ?_) (a' := ?_) #[true, true, true, true, true, true, true, true, false] rfl rfl (by kernel_rfl) (fun _ _ _ h => h) (Or.inl ⟨by rfl, ?_⟩) ?_ ?_
      rotate_left
      · intro w'
        go_simp
        with_reducible rfl
      rotate_left
      · simp only [Act.put, List.setIfInBounds_toArray, List.set_cons_zero, List.set_cons_succ, i64_w, i32_w]
        rfl
      refine last_ (i := 8) (N := none) #[true, true, true, true, true, true, true, true, true] rfl rfl (by kernel_rfl) (by decide) (fun K hK => ?_)
      have c1_ := hHeld.out.obj.cell 1
      have f1_ := hHeld.out.obj.frozen 1
      have HO := Aside0.mk (hHeld.out.obj.put 1 (.slice (some ⟨g0, 0, none⟩) N c0))
      have HP := Aside0.mk (hHeld.out.put 1 (.slice (some ⟨g0, 0, none⟩) N c0))
      have HM2 := Aside0.mk (HM.out.far p 1 (.slice (some ⟨g0, 0, none⟩) N c0) (Ne.symm (HM.out.ne hHeld.out.obj (by decide))))
      have hz := hHeld.out
      have HZ : Aside0 (w.heap.size ≤ p ∧ w.heap.size ≤ b) := ⟨hz.p, hz.b⟩
      clear hz HM
      refine skip_ (w1 := ?_) (by rfl) rfl ?_ ?_
      rotate_left
      · go_simp
        rfl
      refine hK.out _ _ ?_
      clear hK K
      refine done_ (by kernel_rfl) ?_
      obtain ⟨w5, hw5⟩ : ∃ w5, w5 = w4.setCell ⟨p, 1, none⟩ (.slice (some ⟨g0, 0, none⟩) N c0) := ⟨_, rfl⟩
      rw [← hw5] at HO HP HM2 ⊢
      have HS5 : Aside0 (Kst w w5 p b x N (.slice (some ⟨g0, 0, none⟩) N c0) (.slice none 0 0) 0 0) := ⟨⟨HO.out, HP.out.1, HP.out.2, HZ.out.1, HZ.out.2⟩⟩
      clear hw5 hHeld HO HP HZ
      go_wp2_with fail
      with_reducible refine (kern4_Unit.calls n3 0 _ 0 _ T3.out).mono ?_
      rintro e w6 ⟨rfl, hb⟩
      have HS6 := Aside0.mk (HS5.out.below hb)
      have HM6 := Aside0.mk (HM2.out.below hb)
      have cu := HS6.out.obj.cell 3
      have fu := HS6.out.obj.frozen 3
      clear hb HS5 HM2
      go_wp2
      go_roundw
      case rel => exact ⟨1, by go_num, .inr (.inl ⟨rfl, g0, c0, ⟨⟨HS6.out.obj.put 3 _, (HS6.out.put 3 _).1, (HS6.out.put 3 _).2, HS6.out.p, HS6.out.b⟩⟩, ⟨HM6.out.far p 3 _ (Ne.symm (HM6.out.ne HS6.out.obj (by decide)))⟩, HG⟩)⟩
      case measure => simp [intOf]
    · skip
      go_wp2_with fail
      refine start_ (n := 9) (S := fun w' => Aside0 (Kst w w' p b x N (.slice (some ⟨g0, 0, none⟩) N c0) (.slice none 0 0) (fv (rut 2 0)) 0 ∧ Mr w' g0 c0 (tb N (pw (rut x 0))))) (ds := [8]) #[false, false, false, false, false, false, false, false, false] (by kernel_rfl) rfl rfl (⟨HS.out.below (below_drew1 (Below.refl _ _)), HM0.out.below (below_drew1 (Below.refl _ _))⟩) (fun hHeld => ?_)
      refine pure_ (i := 0) (N := some 19) (v := ?_) (a' := ?_) #[true, false, false, false, false, false, false, false, false] rfl rfl (by kernel_rfl) (fun _ _ _ h => h) (Or.inl ⟨by rfl, ?_⟩) ?_ ?_
      rotate_left
      · intro w'
        go_simp
        with_reducible rfl
      rotate_left
      · simp only [Act.put, List.setIfInBounds_toArray, List.set_cons_zero, List.set_cons_succ, i64_w, i32_w]
        rfl
      refine pure_ (i := 1) (N := some 20) (v := ?_) (a' := ?_) #[true, true, false, false, false, false, false, false, false] rfl rfl (by kernel_rfl) (fun _ _ _ h => h) (Or.inl ⟨by rfl, ?_⟩) ?_ ?_
      rotate_left
      · intro w'
        go_simp
        with_reducible rfl
      rotate_left
      · simp only [Act.put, List.setIfInBounds_toArray, List.set_cons_zero, List.set_cons_succ, i64_w, i32_w]
        rfl
      refine pure_ (i := 2) (N := some 21) (v := ?_) (a' := ?_) #[true, true, true, false, false, false, false, false, false] rfl rfl (by kernel_rfl) (fun _ _ _ h => h) (Or.inl ⟨by rfl, ?_⟩) ?_ ?_
      rotate_left
      · intro w'
        go_simp
        with_reducible rfl
      rotate_left
      · simp only [Act.put, List.setIfInBounds_toArray, List.set_cons_zero, List.set_cons_succ, i64_w, i32_w]
        rfl
      refine pure_ (i := 3) (N := some 22) (v := ?_) (a' := ?_) #[true, true, true, true, false, false, false, false, false] rfl rfl (by kernel_rfl) (fun _ _ _ h => h) (Or.inl ⟨by rfl, ?_⟩) ?_ ?_
      rotate_left
      · intro w'
        go_simp
        with_reducible rfl
      rotate_left
      · simp only [Act.put, List.setIfInBounds_toArray, List.set_cons_zero, List.set_cons_succ, i64_w, i32_w]
        rfl
      refine pure_ (i := 5) (N := some 24) (v := ?_) (a' := ?_) #[true, true, true, true, false, true, false, false, false] rfl rfl (by kernel_rfl) (fun _ _ _ h => h) (Or.inl ⟨by rfl, ?_⟩) ?_ ?_
      rotate_left
      · intro w'
        go_simp
        with_reducible rfl
      rotate_left
      · simp only [Act.put, List.setIfInBounds_toArray, List.set_cons_zero, List.set_cons_succ, i64_w, i32_w]
        rfl
      refine pure_ (i := 6) (N := some 25) (v := ?_) (a' := ?_) #[true, true, true, true, false, true, true, false, false] rfl rfl (by kernel_rfl) (fun _ _ _ h => h) (Or.inl ⟨by rfl, ?_⟩) ?_ ?_
      rotate_left
      · intro w'
        go_simp
        with_reducible rfl
      rotate_left
      · simp only [Act.put, List.setIfInBounds_toArray, List.set_cons_zero, List.set_cons_succ, i64_w, i32_w]
        rfl
      refine one_ (i := 4) (N := some 23) #[true, true, true, true, true, true, true, false, false] rfl rfl (by kernel_rfl) (by decide) (fun K hK => ?_)
      refine goes_ Tryd.func149 (by kernel_rfl) rfl #[.int .i64 (x : Int), .int .i64 1] (by rfl) rfl rfl (by simp only [List.map_toArray, List.map_cons, List.map_nil]; rfl) ?_
      with_reducible refine (kern4_whole.calls n1 (x : Int) 1 _ _ T1.out).mono ?_
      rintro e w4 ⟨v, rfl, hR, hb⟩
      refine ⟨_, rfl, ?_⟩
      obtain ⟨g1, c1, hv, hg, hm⟩ := Mr.of_R hR (by rw [tb_len]; exact hN0)
      rw [tb_len] at hv
      subst hv
      have HM := Aside0.mk hm
      have HG := Aside0.mk (Nat.le_trans hHeld.out.1.be.size hg)
      have nS : Kst w w4 p b x N (.slice (some ⟨g0, 0, none⟩) N c0) (.slice none 0 0) (fv (rut 2 0)) 0 ∧ Mr w4 g0 c0 (tb N (pw (rut x 0))) := ⟨hHeld.out.1.below hb, hHeld.out.2.below hb⟩
      clear hHeld hb hR hm hg
      refine hK.out _ _ (⟨nS⟩) (fun hHeld => ?_)
      clear hK K
      refine norm_ (a' := ?_) ?_ ?_
      rotate_left
      · show Act.put _ (some 23) _ = _
        simp only [Act.put, List.setIfInBounds_toArray, List.set_cons_zero, List.set_cons_succ, i64_w, i32_w]
        rfl
      refine pure_ (i := 7) (N := some 26) (v := ?_) (a' := ?_) #[true, true, true, true, true, true, true, true, false] rfl rfl (by kernel_rfl) (fun _ _ _ h => h) (Or.inl ⟨by rfl, ?_⟩) ?_ ?_
      rotate_left
      · intro w'
        go_simp
        with_reducible rfl
      rotate_left
      · simp only [Act.put, List.setIfInBounds_toArray, List.set_cons_zero, List.set_cons_succ, i64_w, i32_w]
        rfl
      refine last_ (i := 8) (N := none) #[true, true, true, true, true, true, true, true, true] rfl rfl (by kernel_rfl) (by decide) (fun K hK => ?_)
      have c1_ := hHeld.out.1.obj.cell 2
      have f1_ := hHeld.out.1.obj.frozen 2
      have HO := Aside0.mk (hHeld.out.1.obj.put 2 (.slice (some ⟨g1, 0, none⟩) N c1))
      have HP := Aside0.mk (hHeld.out.1.put 2 (.slice (some ⟨g1, 0, none⟩) N c1))
      have HM2 := Aside0.mk (HM.out.far p 2 (.slice (some ⟨g1, 0, none⟩) N c1) (Ne.symm (HM.out.ne hHeld.out.1.obj (by decide))))
      have HM02 := Aside0.mk (hHeld.out.2.far p 2 (.slice (some ⟨g1, 0, none⟩) N c1) (Ne.symm (hHeld.out.2.ne hHeld.out.1.obj (by decide))))
      have hz := hHeld.out.1
      have HZ : Aside0 (w.heap.size ≤ p ∧ w.heap.size ≤ b) := ⟨hz.p, hz.b⟩
      clear hz HM
      refine skip_ (w1 := ?_) (by rfl) rfl ?_ ?_
      rotate_left
      · go_simp
        rfl
      refine hK.out _ _ ?_
      clear hK K
      refine done_ (by kernel_rfl) ?_
      obtain ⟨w5, hw5⟩ : ∃ w5, w5 = w4.setCell ⟨p, 2, none⟩ (.slice (some ⟨g1, 0, none⟩) N c1) := ⟨_, rfl⟩
      rw [← hw5] at HO HP HM2 HM02 ⊢
      have HS5 : Aside0 (Kst w w5 p b x N (.slice (some ⟨g0, 0, none⟩) N c0) (.slice (some ⟨g1, 0, none⟩) N c1) (fv (rut 2 0)) 0) := ⟨⟨HO.out, HP.out.1, HP.out.2, HZ.out.1, HZ.out.2⟩⟩
      clear hw5 hHeld HO HP HZ
      go_wp2_with fail
      with_reducible refine (kern4_Unit.calls n4 1 _ 0 _ T4.out).mono ?_
      rintro e w6 ⟨rfl, hb⟩
      have HS6 := Aside0.mk (HS5.out.below hb)
      have HM6 := Aside0.mk (HM2.out.below hb)
      have HM06 := Aside0.mk (HM02.out.below hb)
      have cu := HS6.out.obj.cell 4
      have fu := HS6.out.obj.frozen 4
      clear hb HS5 HM2
      go_wp2
      go_roundw
      case rel => exact ⟨2, by go_num, .inr (.inr ⟨rfl, g0, c0, g1, c1, ⟨⟨HS6.out.obj.put 4 _, (HS6.out.put 4 _).1, (HS6.out.put 4 _).2, HS6.out.p, HS6.out.b⟩⟩, ⟨HM06.out.far p 4 _ (Ne.symm (HM06.out.ne HS6.out.obj (by decide)))⟩, HG0, ⟨HM6.out.far p 4 _ (Ne.symm (HM6.out.ne HS6.out.obj (by decide)))⟩, HG⟩)⟩
      case measure => simp [intOf]
    · go_wp2_with fail
      with_reducible refine (twid_Share.calls n2 (x : Int) _ 0 _ T2.out).mono ?_
      rintro e w5 ⟨rfl, hb⟩
      have HS5 := Aside0.mk (HS.out.below hb)
      have HM05 := Aside0.mk (HM0.out.below hb)
      have HM15 := Aside0.mk (HM1.out.below hb)
      have c5 := HS5.out.obj.cell 5
      have f5 := HS5.out.obj.frozen 5
      clear hb HS HM0 HM1
      go_wp2
      go_ret
      exact ⟨_, b, g0, c0, g1, c1, rfl, ⟨HN.out, HX.out, HS5.out.obj.put 5 _, (HS5.out.put 5 _).1, HM05.out.far p 5 _ (Ne.symm (HM05.out.ne HS5.out.obj (by decide))), HM15.out.far p 5 _ (Ne.symm (HM15.out.ne HS5.out.obj (by decide)))⟩, (HS5.out.put 5 _).2, HS5.out.p, HS5.out.b, HG0.out, HG1.out⟩
end Go.Proofs.YtpnkcjnemoompaaDoor.Kern
end
section
namespace Go.Proofs.YtpnkcjnemoompaaDoor.Kern
open Go.RowKit Go.Proofs.YtpnkcjnemoompaaDoor Go.Proofs.YtpnkcjnemoompaaDoor.Ext Go.Proofs.YtpnkcjnemoompaaDoor.PPlan Go.Proofs.YtpnkcjnemoompaaDoor.PFft Go.Proofs.YtpnkcjnemoompaaDoor.Pure Go.Proofs.YtpnkcjnemoompaaDoor.Obj Go.Proofs.YtpnkcjnemoompaaDoor.Fft Go.Proofs.YtpnkcjnemoompaaDoorW.PrintWords Go.Proofs.YtpnkcjnemoompaaDoorW.PrintLast Go.Proofs.YtpnkcjnemoompaaDoorW.PrintMore
set_option linter.unusedVariables false
set_option linter.unusedSimpArgs false
set_option maxRecDepth 100000
theorem tb_of_all {N : Nat} {ys : List Int} (hl : ys.length = N) (h : ∀ j, j < N → ∃ x : F, ys.getD j 0 = fv x) : ys = tb N (el ys) := by
  refine list_ext (by rw [tb_len, hl]) (fun i hi => ?_)
  rw [hl] at hi
  rw [tb_get _ hi]
  obtain ⟨x, hx⟩ := h i hi
  unfold el
  rw [hx, fo_fv]
theorem dn_all {s m n N : Nat} {tg : Nat → Nat → Nat → F} {ys : List Int} (h : Dn s m tg ys m 0) (hs : 0 < s) (hn : n = 4 * m) (hN : n * s = N) (j : Nat) (hj : j < N) : ∃ x : F, ys.getD j 0 = fv x := by
  have h1 : j / s < n := (Nat.div_lt_iff_lt_mul hs).2 (by rw [hN]; exact hj)
  have h2 := Nat.mod_lt j hs
  have h3 := Nat.div_add_mod j s
  have h4 : j / s / 4 < m := by omega
  have := h (j / s / 4) (j % s) (j / s % 4) h2 (by omega) h4 (.inl h4)
  rw [show 4 * (j / s / 4) + j / s % 4 = j / s by omega, Nat.add_comm, h3] at this
  exact ⟨_, this⟩
theorem run_quarter {x : Nat} {d : Int} {Y : Nat → F} {m s n N k : Nat} {f : Nat → F} {ys : List Int} (hx : x ≤ 20) (hk : k + 2 ≤ x) (hm : m = 2 ^ k) (hs : s = 2 ^ (x - (k + 2))) (hn : n = 4 * m) (hN : n * s = N) (hY : Stk Y (rut x d) (4 * m) s f) (hl : ys.length = N)
    (h : Dn s m (tgq s m (rut x d) (rut 2 d) f) ys m 0) : ys = tb N (el ys) ∧ Stk Y (rut x d) m (4 * s) (el ys) := by
  have hs0 : 0 < s := by rw [hs]; exact Nat.two_pow_pos _
  refine ⟨tb_of_all hl (dn_all h hs0 hn hN), Stk.quarter hY ?_ ?_⟩
  · have := rd_half x d (by omega) (by omega)
    rw [← this]
    congr 1
    rw [hs, hm, ← Nat.pow_succ', ← Nat.pow_add]
    congr 1; omega
  · intro q hq i hi r hr
    have := h i q r hq hr hi (.inl hi)
    have hu : pw (rut x d) (s * m) = rut 2 d := by
      rw [hs, hm, ← Nat.pow_add, show x - (k + 2) + k = x - 2 by omega, rd_pow x (x - 2) d (by omega) (by omega), show x - (x - 2) = 2 by omega]
    unfold el
    rw [this, fo_fv, hu]; rfl
theorem run_half {x : Nat} {d : Int} {Y : Nat → F} {s N : Nat} {f : Nat → F} {ys : List Int} (hx : x ≤ 20) (h1 : 1 ≤ x) (hs : s = 2 ^ (x - 1)) (hN : N = 2 * s) (hY : Stk Y (rut x d) 2 s f) (hl : ys.length = N) (h : Dh s f ys s) : ys = tb N (el ys) ∧ Stk Y (rut x d) 1 (2 * s) (el ys) := by
  refine ⟨tb_of_all hl fun j hj => ?_, Stk.half hY (by rw [hs]; exact rd_half x d (by omega) (by omega)) (fun q hq => ?_) (fun q hq => ?_)⟩
  · by_cases c : j < s
    · exact ⟨_, (h j c).1⟩
    · have := (h (j - s) (by omega)).2
      rw [show j - s + s = j by omega] at this
      exact ⟨_, this⟩
  · unfold el; rw [(h q hq).1, fo_fv]
  · unfold el; rw [(h q hq).2, fo_fv]
structure Pst (w0 w : World) (P gp cp ga gb N x : Nat) (d : Int) (f : Nat → F) : Prop where
  be : Below w0.heap.size w0 w
  ps : Bk w P 196 [.slice (some ⟨gp, 0, none⟩) N cp, .int .u64 (fv (rut 2 d)), .slice (some ⟨ga, 0, none⟩) N N, .slice (some ⟨gb, 0, none⟩) N N]
  src : Mr w ga N (tb N f)
  dst : ∃ ys, Mr w gb N ys ∧ ys.length = N
  p : w0.heap.size ≤ P
  a : w0.heap.size ≤ ga
  b : w0.heap.size ≤ gb
  ab : ga ≠ gb
theorem Pst.below {w0 w w1 : World} {P gp cp ga gb N x : Nat} {d : Int} {f : Nat → F} (h : Pst w0 w P gp cp ga gb N x d f) (hb : Below w.heap.size w w1) : Pst w0 w1 P gp cp ga gb N x d f := by
  obtain ⟨ys, h1, h2⟩ := h.dst
  exact ⟨below_then h.be h.be.size hb, h.ps.below hb, h.src.below hb, ⟨ys, h1.below hb, h2⟩, h.p, h.a, h.b, h.ab⟩
theorem Fr.be {w0 w w1 : World} {S : List Nat} (h : Below w0.heap.size w0 w) (hf : Fr w w1 S) (hS : ∀ k ∈ S, w0.heap.size ≤ k) : Below w0.heap.size w0 w1 := h.trans (hf.below h.size hS)
theorem shl_n (x : Nat) (hx : x ≤ 20) : shl .i64 1 (IntKind.u64.wrap (x : Int)) = ((2 ^ x : Nat) : Int) := shl_one x (by omega)
theorem shl_spell1 (x : Int) : shl .i64 1 (IntKind.u64.wrap x) = wrap64 (1 * 2 ^ min (IntKind.u64.wrap x).toNat 64) := by
  unfold shl
  rw [show IntKind.i64.bits = 64 from by decide]
  exact i64_w _
set_option maxHeartbeats 16000000 in
theorem plain0 (p b g0 c0 g1 c1 x N g c : Nat) (xs : List Int) (w : World) (hK : Ker w p b g0 c0 g1 c1 x N) (hM : Mr w g c xs) (hl : xs.length = N) (hW : Ws xs) (n0 : g ≠ g0) (n1 : g ≠ g1) :
    Calls Tryd.prog 151 #[.pointer (some ⟨p, 0, none⟩), .slice (some ⟨g, 0, none⟩) N c, .int .i64 0] w fun e w' => e = .returned (.int .i64 0) ∧ Mr w' g c (tb N (dft N (rut x 0) (el xs))) ∧ Fr w w' [g] := by
  obtain ⟨s0, s1, sh, hsub⟩ := hK.sub
  have hN20 : N ≤ 1048576 := by rw [hK.n]; exact pow20 hK.k
  have hN0 : 0 < N := by rw [hK.n]; exact Nat.two_pow_pos x
  have e1 : wrap64 (1 * 2 ^ min (IntKind.u64.wrap (x : Int)).toNat 64) = (N : Int) := by rw [← shl_spell1, shl_n x hK.k, hK.n]
  have e2 : wrap64 (2 ^ min (IntKind.u64.wrap (x : Int)).toNat 64) = (N : Int) := by rw [← e1, Int.one_mul]
  have HK := Aside0.mk hK
  have HM := Aside0.mk hM
  have HS := Aside0.mk hsub
  have HL := Aside0.mk hl
  have HW := Aside0.mk hW
  have q0 := hK.obj.cell 0
  have dd : decide ((0 : Int) < 0) = false := by decide
  have dd2 : decide ((1 : Int) < 0) = false := by decide
  clear hK hM hsub hl hW
  go_enter Tryd.func151, Tryd.ntmps151
  go_wp2_with fail
  with_reducible refine (k2_calls b x s0 s1 sh w HS.out).mono ?_
  rintro e w1 ⟨rfl, rfl⟩
  go_wp2_with fail
  clear q0 e1 e2 dd dd2
  obtain rfl := HL.out
  refine start_ (n := 20) (S := fun w' => w'.cell? ⟨p, 1, none⟩ = some (.slice (some ⟨g0, 0, none⟩) xs.length c0) ∧ w'.cell? ⟨p, 3, none⟩ = some (.int .u64 (fv (rut 2 0))) ∧ Aside0 (Below w1.heap.size w1 w')) (ds := []) #[false, false, false, false, false, false, false, false, false, false, false, false, false, false, false, false, false, false, false, false] (by kernel_rfl) rfl rfl ⟨HK.out.obj.cell 1, HK.out.obj.cell 3, ⟨below_drew1 (Below.refl _ _)⟩⟩ (fun hHeld => ?_)
  refine pure_ (i := 0) (N := some 29) (v := ?_) (a' := ?_) #[true, false, false, false, false, false, false, false, false, false, false, false, false, false, false, false, false, false, false, false] rfl rfl (by kernel_rfl) (fun _ _ _ h => h) (Or.inl ⟨by rfl, ?_⟩) ?_ ?_
  rotate_left
  · intro w'
    go_simp
    with_reducible rfl
  rotate_left
  · simp only [Act.put, List.setIfInBounds_toArray, List.set_cons_zero, List.set_cons_succ, i64_w, i32_w]
    rfl
  refine pure_ (i := 1) (N := some 30) (v := ?_) (a' := ?_) #[true, true, false, false, false, false, false, false, false, false, false, false, false, false, false, false, false, false, false, false] rfl rfl (by kernel_rfl) (fun _ _ _ h => h) (Or.inl ⟨by rfl, ?_⟩) ?_ ?_
  rotate_left
  · intro w'
    go_simp
    with_reducible rfl
  rotate_left
  · simp only [Act.put, List.setIfInBounds_toArray, List.set_cons_zero, List.set_cons_succ, i64_w, i32_w]
    rfl
  refine pure_ (i := 2) (N := some 31) (v := ?_) (a' := ?_) #[true, true, true, false, false, false, false, false, false, false, false, false, false, false, false, false, false, false, false, false] rfl rfl (by kernel_rfl) (fun _ _ _ h => h) (Or.inl ⟨by rfl, ?_⟩) ?_ ?_
  rotate_left
  · intro w'
    go_simp
    with_reducible rfl
  rotate_left
  · simp only [Act.put, List.setIfInBounds_toArray, List.set_cons_zero, List.set_cons_succ, i64_w, i32_w]
    rfl
  refine pure_ (i := 3) (N := some 32) (v := ?_) (a' := ?_) #[true, true, true, true, false, false, false, false, false, false, false, false, false, false, false, false, false, false, false, false] rfl rfl (by kernel_rfl) (fun _ _ _ h => h) (Or.inl ⟨by rfl, ?_⟩) ?_ ?_
  rotate_left
  · intro w'
    go_simp
    with_reducible rfl
  rotate_left
  · simp only [Act.put, List.setIfInBounds_toArray, List.set_cons_zero, List.set_cons_succ, i64_w, i32_w]
    rfl
  refine pure_ (i := 4) (N := some 33) (v := ?_) (a' := ?_) #[true, true, true, true, true, false, false, false, false, false, false, false, false, false, false, false, false, false, false, false] rfl rfl (by kernel_rfl) (fun _ _ _ h => h) (Or.inl ⟨by rfl, ?_⟩) ?_ ?_
  rotate_left
  · intro w'
    go_simp
    with_reducible rfl
  rotate_left
  · simp only [Act.put, List.setIfInBounds_toArray, List.set_cons_zero, List.set_cons_succ, i64_w, i32_w]
    rfl
  refine pure_ (i := 6) (N := some 35) (v := ?_) (a' := ?_) #[true, true, true, true, true, false, true, false, false, false, false, false, false, false, false, false, false, false, false, false] rfl rfl (by kernel_rfl) (fun _ _ _ h => h) (Or.inl ⟨by rfl, ?_⟩) ?_ ?_
  rotate_left
  · intro w'
    go_simp
    with_reducible rfl
  rotate_left
  · simp only [Act.put, List.setIfInBounds_toArray, List.set_cons_zero, List.set_cons_succ, i64_w, i32_w]
    rfl
  refine pure_ (i := 7) (N := some 36) (v := ?_) (a' := ?_) #[true, true, true, true, true, false, true, true, false, false, false, false, false, false, false, false, false, false, false, false] rfl rfl (by kernel_rfl) (fun _ _ _ h => h) (Or.inl ⟨by rfl, ?_⟩) ?_ ?_
  rotate_left
  · intro w'
    go_simp
    with_reducible rfl
  rotate_left
  · simp only [Act.put, List.setIfInBounds_toArray, List.set_cons_zero, List.set_cons_succ, i64_w, i32_w]
    rfl
  refine pure_ (i := 8) (N := some 37) (v := ?_) (a' := ?_) #[true, true, true, true, true, false, true, true, true, false, false, false, false, false, false, false, false, false, false, false] rfl rfl (by kernel_rfl) (fun _ _ _ h => h) (Or.inl ⟨by rfl, ?_⟩) ?_ ?_
  rotate_left
  · intro w'
    go_simp
    with_reducible rfl
  rotate_left
  · simp only [Act.put, List.setIfInBounds_toArray, List.set_cons_zero, List.set_cons_succ, i64_w, i32_w]
    rfl
  refine pure_ (i := 9) (N := some 38) (v := ?_) (a' := ?_) #[true, true, true, true, true, false, true, true, true, true, false, false, false, false, false, false, false, false, false, false] rfl rfl (by kernel_rfl) (fun _ _ _ h => h) (Or.inl ⟨by rfl, ?_⟩) ?_ ?_
  rotate_left
  · intro w'
    go_simp
    with_reducible rfl
  rotate_left
  · simp only [Act.put, List.setIfInBounds_toArray, List.set_cons_zero, List.set_cons_succ, i64_w, i32_w]
    rfl
  refine pure_ (i := 10) (N := some 39) (v := ?_) (a' := ?_) #[true, true, true, true, true, false, true, true, true, true, true, false, false, false, false, false, false, false, false, false] rfl rfl (by kernel_rfl) (fun _ _ _ h => h) (Or.inl ⟨by rfl, ?_⟩) ?_ ?_
  rotate_left
  · intro w'
    go_simp
    with_reducible rfl
  rotate_left
  · simp only [Act.put, List.setIfInBounds_toArray, List.set_cons_zero, List.set_cons_succ, i64_w, i32_w]
    rfl
  refine pure_ (i := 12) (N := some 41) (v := ?_) (a' := ?_) #[true, true, true, true, true, false, true, true, true, true, true, false, true, false, false, false, false, false, false, false] rfl rfl (by kernel_rfl) (fun _ _ _ h => h) (Or.inl ⟨by rfl, ?_⟩) ?_ ?_
  rotate_left
  · intro w'
    go_simp
    with_reducible rfl
  rotate_left
  · simp only [Act.put, List.setIfInBounds_toArray, List.set_cons_zero, List.set_cons_succ, i64_w, i32_w]
    rfl
  refine pure_ (i := 14) (N := some 43) (v := ?_) (a' := ?_) #[true, true, true, true, true, false, true, true, true, true, true, false, true, false, true, false, false, false, false, false] rfl rfl (by kernel_rfl) (fun _ _ _ h => h) (Or.inl ⟨by rfl, ?_⟩) ?_ ?_
  rotate_left
  · intro w'
    go_simp
    with_reducible rfl
  rotate_left
  · simp only [Act.put, List.setIfInBounds_toArray, List.set_cons_zero, List.set_cons_succ, i64_w, i32_w]
    rfl
  refine pure_ (i := 15) (N := some 44) (v := ?_) (a' := ?_) #[true, true, true, true, true, false, true, true, true, true, true, false, true, false, true, true, false, false, false, false] rfl rfl (by kernel_rfl) (fun _ _ _ h => h) (Or.inl ⟨by rfl, ?_⟩) ?_ ?_
  rotate_left
  · intro w'
    go_simp
    with_reducible rfl
  rotate_left
  · simp only [Act.put, List.setIfInBounds_toArray, List.set_cons_zero, List.set_cons_succ, i64_w, i32_w]
    rfl
  refine take_ (i := 5) (N := some 34) (v := ?_) (a' := ?_) #[true, true, true, true, true, true, true, true, true, true, true, false, true, false, true, true, false, false, false, false] rfl rfl (by kernel_rfl) (fun _ _ _ h => h) (Or.inl ⟨by rfl, ?_⟩) hHeld ?_ ?_
  rotate_left
  · rintro w' ⟨s0, s1, s2⟩
    go_simp
    with_reducible rfl
  rotate_left
  · simp only [Act.put, List.setIfInBounds_toArray, List.set_cons_zero, List.set_cons_succ, i64_w, i32_w]
    rfl
  refine take_ (i := 11) (N := some 40) (v := ?_) (a' := ?_) #[true, true, true, true, true, true, true, true, true, true, true, true, true, false, true, true, false, false, false, false] rfl rfl (by kernel_rfl) (fun _ _ _ h => h) (Or.inl ⟨by rfl, ?_⟩) hHeld ?_ ?_
  rotate_left
  · rintro w' ⟨s0, s1, s2⟩
    go_simp
    with_reducible rfl
  rotate_left
  · simp only [Act.put, List.setIfInBounds_toArray, List.set_cons_zero, List.set_cons_succ, i64_w, i32_w]
    rfl
  refine join_ (σ := Nat × Nat) 3 #[true, true, true, true, true, true, true, true, true, true, true, true, true, true, true, true, true, false, false, false] (fun s => [(42, .slice (some ⟨s.1, 0, none⟩) xs.length xs.length), (45, .slice (some ⟨s.2, 0, none⟩) xs.length xs.length)]) (fun s w' => (w'.cell? ⟨p, 1, none⟩ = some (.slice (some ⟨g0, 0, none⟩) xs.length c0) ∧ w'.cell? ⟨p, 3, none⟩ = some (.int .u64 (fv (rut 2 0))) ∧ Aside0 (Below w1.heap.size w1 w')) ∧ Aside0 (Rw w' s.1 (tb xs.length fun i => el xs i * fo 1)) ∧ Aside0 (Rw w' s.2 (List.replicate xs.length 0)) ∧ Aside0 (w1.heap.size ≤ s.1) ∧ Aside0 (w1.heap.size ≤ s.2) ∧ Aside0 (s.1 ≠ s.2)) ?_ ?_
  rotate_left
  · intro hCont
    refine two_ (i := 13) (j := 16) (Ni := some 42) (Nj := some 45) #[true, true, true, true, true, true, true, true, true, true, true, true, true, true, true, true, false, false, false, false] #[true, true, true, true, true, true, true, true, true, true, true, true, true, false, true, true, true, false, false, false] rfl rfl rfl rfl (by kernel_rfl) (by decide) (by decide) (fun K hK => ?_) (fun K hK => ?_)
    · skip
      refine goes_ Tryd.func70 (by kernel_rfl) rfl #[.slice (some ⟨g, 0, none⟩) xs.length c, .int .u64 1] (by rfl) rfl rfl (by simp only [List.map_toArray, List.map_cons, List.map_nil]; rfl) ?_
      with_reducible refine (scale_calls (some ⟨g, 0, none⟩) c xs 1 _ ((In.of_mr HM.out (by omega)).below hHeld.2.2.out) HW.out (by decide) hN20).mono ?_
      rintro e w4 ⟨ga, rfl, hrow, hb, hg⟩
      refine ⟨_, rfl, ?_⟩
      have HA := Aside0.mk hrow
      have HAs := Aside0.mk (Nat.le_trans hHeld.2.2.out.size hg)
      clear hrow hg
      have a0 := pw_cell_below hb hHeld.1
      have a1 := pw_cell_below hb hHeld.2.1
      have aB := below_step hHeld.2.2.out hb
      clear hHeld hb
      refine hK.out _ _ ⟨a0, a1, ⟨aB⟩⟩ (fun hHeld => ?_)
      clear hK K
      refine norm_ (a' := ?_) ?_ ?_
      rotate_left
      · show Act.put _ (some 42) _ = _
        simp only [Act.put, List.setIfInBounds_toArray, List.set_cons_zero, List.set_cons_succ, i64_w, i32_w]
        rfl
      refine one_ (i := 16) (N := some 45) #[true, true, true, true, true, true, true, true, true, true, true, true, true, true, true, true, true, false, false, false] rfl rfl (by kernel_rfl) (by decide) (fun K hK => ?_)
      refine make_step 24 _ _ xs.length (by rfl) rfl rfl rfl rfl (by kernel_rfl) info_u64 (by omega) ?_
      intro w5 hrow hb hsz
      have HAB := Aside0.mk (Nat.ne_of_lt (Bk.lt HA.out))
      have nA := HA.out.below hb
      clear HA
      have HA := Aside0.mk nA
      clear nA
      have HB := Aside0.mk hrow
      have HBs := Aside0.mk hHeld.2.2.out.size
      clear hrow hsz
      have a0 := pw_cell_below hb hHeld.1
      have a1 := pw_cell_below hb hHeld.2.1
      have aB := below_step hHeld.2.2.out hb
      clear hHeld hb
      refine hK.out _ _ ⟨a0, a1, ⟨aB⟩⟩ (fun hHeld => ?_)
      clear hK K
      refine norm_ (a' := ?_) ?_ ?_
      rotate_left
      · show Act.put _ (some 45) _ = _
        simp only [Act.put, List.setIfInBounds_toArray, List.set_cons_zero, List.set_cons_succ, i64_w, i32_w]
        rfl
      exact norm_ (by first | (simp only [putAll, Act.put, List.setIfInBounds_toArray, List.set_cons_zero, List.set_cons_succ]; done) | (simp only [putAll, Act.put, List.setIfInBounds_toArray, List.set_cons_zero, List.set_cons_succ]; rfl)) (hCont (ga, w4.heap.size) _ ⟨hHeld, HA, HB, HAs, HBs, HAB⟩)
    · skip
      refine make_step 24 _ _ xs.length (by rfl) rfl rfl rfl rfl (by kernel_rfl) info_u64 (by omega) ?_
      intro w4 hrow hb hsz
      have HB := Aside0.mk hrow
      have HBs := Aside0.mk hHeld.2.2.out.size
      clear hrow hsz
      have a0 := pw_cell_below hb hHeld.1
      have a1 := pw_cell_below hb hHeld.2.1
      have aB := below_step hHeld.2.2.out hb
      clear hHeld hb
      refine hK.out _ _ ⟨a0, a1, ⟨aB⟩⟩ (fun hHeld => ?_)
      clear hK K
      refine norm_ (a' := ?_) ?_ ?_
      rotate_left
      · show Act.put _ (some 45) _ = _
        simp only [Act.put, List.setIfInBounds_toArray, List.set_cons_zero, List.set_cons_succ, i64_w, i32_w]
        rfl
      refine one_ (i := 13) (N := some 42) #[true, true, true, true, true, true, true, true, true, true, true, true, true, true, true, true, true, false, false, false] rfl rfl (by kernel_rfl) (by decide) (fun K hK => ?_)
      refine goes_ Tryd.func70 (by kernel_rfl) rfl #[.slice (some ⟨g, 0, none⟩) xs.length c, .int .u64 1] (by rfl) rfl rfl (by simp only [List.map_toArray, List.map_cons, List.map_nil]; rfl) ?_
      with_reducible refine (scale_calls (some ⟨g, 0, none⟩) c xs 1 _ ((In.of_mr HM.out (by omega)).below hHeld.2.2.out) HW.out (by decide) hN20).mono ?_
      rintro e w5 ⟨ga, rfl, hrow, hb, hg⟩
      refine ⟨_, rfl, ?_⟩
      have HAB := Aside0.mk (Ne.symm (Nat.ne_of_lt (Nat.lt_of_lt_of_le (Bk.lt HB.out) hg)))
      have nB := HB.out.below hb
      clear HB
      have HB := Aside0.mk nB
      clear nB
      have HA := Aside0.mk hrow
      have HAs := Aside0.mk (Nat.le_trans hHeld.2.2.out.size hg)
      clear hrow hg
      have a0 := pw_cell_below hb hHeld.1
      have a1 := pw_cell_below hb hHeld.2.1
      have aB := below_step hHeld.2.2.out hb
      clear hHeld hb
      refine hK.out _ _ ⟨a0, a1, ⟨aB⟩⟩ (fun hHeld => ?_)
      clear hK K
      refine norm_ (a' := ?_) ?_ ?_
      rotate_left
      · show Act.put _ (some 42) _ = _
        simp only [Act.put, List.setIfInBounds_toArray, List.set_cons_zero, List.set_cons_succ, i64_w, i32_w]
        rfl
      exact norm_ (by first | (simp only [putAll, Act.put, List.setIfInBounds_toArray, List.set_cons_zero, List.set_cons_succ]; done) | (simp only [putAll, Act.put, List.setIfInBounds_toArray, List.set_cons_zero, List.set_cons_succ]; rfl)) (hCont (ga, w1.heap.size) _ ⟨hHeld, HA, HB, HAs, HBs, HAB⟩)
  rintro ⟨ga, gb⟩ w6 ⟨hHeld, HA, HB, HAs, HBs, HAB⟩
  dsimp only at HA HB HAs HBs HAB
  refine norm_ (a' := ?_) ?_ ?_
  rotate_left
  · simp only [putAll, Act.put, List.setIfInBounds_toArray, List.set_cons_zero, List.set_cons_succ]
    rfl
  refine pure_ (i := 17) (N := some 46) (v := ?_) (a' := ?_) #[true, true, true, true, true, true, true, true, true, true, true, true, true, true, true, true, true, true, false, false] rfl rfl (by kernel_rfl) (fun _ _ _ h => h) (Or.inl ⟨by rfl, ?_⟩) ?_ ?_
  rotate_left
  · intro w'
    go_simp
    with_reducible rfl
  rotate_left
  · simp only [Act.put, List.setIfInBounds_toArray, List.set_cons_zero, List.set_cons_succ, i64_w, i32_w]
    rfl
  refine one_ (i := 18) (N := some 47) #[true, true, true, true, true, true, true, true, true, true, true, true, true, true, true, true, true, true, true, false] rfl rfl (by kernel_rfl) (by decide) (fun K hK => ?_)
  refine alloc_step (t := 196) (cs := #[.slice (some ⟨g0, 0, none⟩) xs.length c0, .int .u64 (fv (rut 2 0)), .slice (some ⟨ga, 0, none⟩) xs.length xs.length, .slice (some ⟨gb, 0, none⟩) xs.length xs.length]) (by rfl) rfl ?hr ?_
  case hr => first | (go_simp; done) | (go_simp; rfl)
  intro w7 hP hb hz
  have HP := Aside0.mk hP
  have HPs := Aside0.mk hHeld.2.2.out.size
  have HA7 := Aside0.mk (HA.out.below hb)
  have HB7 := Aside0.mk (HB.out.below hb)
  have a0 := pw_cell_below hb hHeld.1
  have a1 := pw_cell_below hb hHeld.2.1
  have aB := below_step hHeld.2.2.out hb
  clear hHeld hb hz hP HA HB
  refine hK.out _ _ ⟨a0, a1, ⟨aB⟩⟩ (fun hHeld => ?_)
  clear hK K
  refine norm_ (a' := ?_) ?_ ?_
  rotate_left
  · show Act.put _ (some 47) _ = _
    simp only [Act.put, List.setIfInBounds_toArray, List.set_cons_zero, List.set_cons_succ, i64_w, i32_w]
    rfl
  refine pure_ (i := 19) (N := some 7) (v := ?_) (a' := ?_) #[true, true, true, true, true, true, true, true, true, true, true, true, true, true, true, true, true, true, true, true] rfl rfl (by kernel_rfl) (fun _ _ _ h => h) (Or.inl ⟨by rfl, ?_⟩) ?_ ?_
  rotate_left
  · intro w'
    go_simp
    with_reducible rfl
  rotate_left
  · simp only [Act.put, List.setIfInBounds_toArray, List.set_cons_zero, List.set_cons_succ, i64_w, i32_w]
    rfl
  refine done_ (by kernel_rfl) ?_
  obtain ⟨P, hP⟩ : ∃ P, P = w6.heap.size := ⟨_, rfl⟩
  rw [← hP] at HP HPs ⊢
  have HSt : Aside0 (Pst w1 w7 P g0 c0 ga gb xs.length x 0 (el xs)) := ⟨hHeld.2.2.out, HP.out, by
    have h := Mr.of_rw HA7.out
    rw [tb_len, tb_congr (g := el xs) (fun i _ => by rw [fo_one]; grobner)] at h
    exact h, ⟨_, Mr.of_rw HB7.out |> fun h => by rw [List.length_replicate] at h; exact h, List.length_replicate⟩, HPs.out, HAs.out, HBs.out, HAB.out⟩
  clear hHeld hP HP HPs HA7 HB7 HAs HBs HAB
  have HX : Aside0 (x ≤ 20 ∧ xs.length = 2 ^ x) := ⟨HK.out.k, HK.out.n⟩
  have HPW := Aside0.mk HK.out.p0
  have hgp : g0 < w1.heap.size := HK.out.p0.lt
  have HY : Aside0 (Stk (dft xs.length (rut x 0) (el xs)) (rut x 0) xs.length 1 (el xs)) := ⟨Stk.first _ _ _⟩
  go_wp2
  go_loopw [8, 9] (fun v8 v9 wr => ∃ (n s k ga gb : Nat) (f : Nat → F), v8 = .int .i64 n ∧ v9 = .int .i64 s ∧ Aside0 (k ≤ x ∧ n = 2 ^ k ∧ s = 2 ^ (x - k)) ∧ Aside0 (Pst w1 wr P g0 c0 ga gb xs.length x 0 f) ∧ Aside0 (Stk (dft xs.length (rut x 0) (el xs)) (rut x 0) n s f)) (fun v8 _ _ => (intOf v8).toNat)
  case atStart => exact ⟨xs.length, 1, x, ga, gb, el xs, rfl, rfl, ⟨Nat.le_refl _, HX.out.2, by rw [Nat.sub_self]⟩, HSt, HY⟩
  case round =>
    clear HSt HY
    obtain ⟨n, s, k, ga, gb, f, rfl, rfl, HE, HSt, HY⟩ := hrel
    have hns : n * s = xs.length := by
      obtain ⟨h1, h2, h3⟩ := HE.out
      rw [h2, h3, ← Nat.pow_add, show k + (x - k) = x by omega, ← HX.out.2]
    have hs0 : 0 < s := by rw [HE.out.2.2]; exact Nat.two_pow_pos _
    have hnN : n ≤ xs.length := by rw [← hns]; exact Nat.le_mul_of_pos_right _ hs0
    have HNS := Aside0.mk hns
    have HS0 := Aside0.mk hs0
    clear hns hs0
    by_cases h4 : 4 ≤ n
    · have hk2 : 2 ≤ k := by
        rcases (by omega : k = 0 ∨ k = 1 ∨ 2 ≤ k) with q | q | q
        · have := HE.out.2.1; rw [q] at this; omega
        · have := HE.out.2.1; rw [q] at this; omega
        · exact q
      obtain ⟨m, hm⟩ : ∃ m, m = 2 ^ (k - 2) := ⟨_, rfl⟩
      have hn4 : n = 4 * m := by
        rw [HE.out.2.1, hm, show (4 : Nat) = 2 ^ 2 by rfl, ← Nat.pow_add]
        congr 1; omega
      have hm0 : 0 < m := by omega
      have Hn := Aside0.mk hn4
      have Hm := Aside0.mk hm
      have Hm0 := Aside0.mk hm0
      have Hk2 := Aside0.mk hk2
      have hq4 : decide ((4 : Int) ≤ (n : Int)) = true := decide_eq_true (by omega)
      obtain ⟨zs, hz1, hz2⟩ := HSt.out.dst
      have HZ := Aside0.mk hz1
      have HZl := Aside0.mk hz2
      obtain ⟨s4, hs4⟩ : ∃ t, t = 4 * s := ⟨_, rfl⟩
      have hsN : s4 ≤ xs.length := by rw [hs4, ← HNS.out, hn4, Nat.mul_assoc]; exact Nat.mul_le_mul_left _ (Nat.le_mul_of_pos_left _ hm0)
      have HS4 := Aside0.mk hs4
      have hmn : m < n := by omega
      have kd : (n : Int) / 4 = (m : Int) := by omega
      have ks : 4 * (s : Int) = (s4 : Int) := by omega
      obtain ⟨kA, kB⟩ := wrapb kd (by omega)
      obtain ⟨kC, kD⟩ := wrapb ks (by omega)
      clear hm hn4 hm0 hk2 hz1 hz2 hs4 hsN h4
      have HKd := Aside0.mk kd
      have HKs := Aside0.mk ks
      have HkA := Aside0.mk kA
      have HkB := Aside0.mk kB
      have HkC := Aside0.mk kC
      have HkD := Aside0.mk kD
      clear kd ks kA kB kC kD
      go_wp2_with fail
      with_reducible refine (quarter_calls P g0 c0 ga xs.length gb xs.length n m s xs.length (rut x 0) (rut 2 0) f zs _ Hn.out Hm0.out HNS.out hN20 HS0.out HSt.out.ps (HPW.out.below HSt.out.be) HSt.out.src HZ.out HZl.out (by have := HSt.out.b; omega) (Ne.symm HSt.out.ab)).mono ?_
      rintro e w8 ⟨rfl, ys', hl', hD, hf, hps, hs', hd'⟩
      have hrun := run_quarter HX.out.1 (show k - 2 + 2 ≤ x by have := HE.out.1; have := Hk2.out; omega) Hm.out (show s = 2 ^ (x - (k - 2 + 2)) by rw [HE.out.2.2]; congr 1; have := Hk2.out; omega) Hn.out HNS.out (by have := HY.out; rw [Hn.out] at this; exact this) hl' hD
      have HST8 : Aside0 (Pst w1 w8 P g0 c0 gb ga xs.length x 0 (el ys')) := ⟨Fr.be HSt.out.be hf (by
          intro k hk
          simp only [List.mem_cons, List.mem_singleton, List.not_mem_nil, or_false] at hk
          rcases hk with rfl | rfl
          · exact HSt.out.b
          · exact HSt.out.p), hps, by rw [← hrun.1]; exact hd', ⟨_, hs', tb_len _ _⟩, HSt.out.p, HSt.out.b, HSt.out.a, Ne.symm HSt.out.ab⟩
      have HY8 := Aside0.mk hrun.2
      clear hl' hD hf hps hs' hd' hrun HSt HY HZ HZl
      have kA := HkA.out
      have kB := HkB.out
      have kC := HkC.out
      have kD := HkD.out
      go_wp2
      go_roundw
      case rel => exact ⟨m, s4, k - 2, gb, ga, el ys', by first | rfl | (rw [HKd.out]) | (rw [kB]) | (rw [kA]), by first | rfl | (rw [kD]) | (rw [kC]) | (rw [HKs.out]), ⟨by have := HE.out.1; omega, Hm.out, by rw [HS4.out, HE.out.2.2, show (4 : Nat) = 2 ^ 2 by rfl, ← Nat.pow_add]; congr 1; have := HE.out.1; have := Hk2.out; omega⟩, HST8, by rw [HS4.out]; exact HY8⟩
      case measure => simp [intOf]; omega
    · have hq4 : decide ((4 : Int) ≤ (n : Int)) = false := decide_eq_false (by omega)
      have hk1 : k = 0 ∨ k = 1 := by
        rcases (by omega : k = 0 ∨ k = 1 ∨ 2 ≤ k) with q | q | q
        · exact .inl q
        · exact .inr q
        · have h5 := HE.out.2.1
          obtain ⟨j, rfl⟩ : ∃ j, k = j + 2 := ⟨k - 2, by omega⟩
          rw [Nat.pow_succ, Nat.pow_succ] at h5
          have := Nat.two_pow_pos j
          omega
      have hfin : ∀ (wz : World) (gz : Nat) (fz : Nat → F), Stk (dft xs.length (rut x 0) (el xs)) (rut x 0) 1 xs.length fz → tb xs.length fz = tb xs.length (dft xs.length (rut x 0) (el xs)) := fun _ _ fz h => tb_congr fun i hi => (h.last i hi).symm
      have HFin := Aside0.mk hfin
      clear hfin h4
      rcases hk1 with rfl | rfl
      · obtain rfl : n = 1 := HE.out.2.1
        have HSt1 := Aside0.mk (HSt.out.ps)
        have HY1 := Aside0.mk (show Stk (dft xs.length (rut x 0) (el xs)) (rut x 0) 1 xs.length f by have := HY.out; have h := HNS.out; rw [Nat.one_mul] at h; rw [h] at this; exact this)
        have v2 := HSt.out.ps.cell 2
        go_wp2_with ((with_reducible refine gate_builtin (b := .copy) (xs := #[.tmp 65, .tmp 69]) rfl ?_); refine copy_mr rfl (.tmp 65) (.tmp 69) 24 24 rfl Tryd.underlying24 size_u64 g c xs (tb xs.length f) ⟨ga, 0, none⟩ xs.length rfl (by rw [tb_len]; rfl) (HM.out.below HSt.out.be) (tb_len _ _) ?hsrc ?_; (case hsrc => (intro j hj; rw [add_at, Nat.zero_add]; exact HSt.out.src.cell j hj)); intro w9 hm9 hf9; have HM9 := Aside0.mk hm9; have HF9 := Aside0.mk hf9; clear hm9 hf9)
        go_wp2
        go_ret
        exact ⟨rfl, by rw [← HFin.out w9 ga f HY1.out]; exact HM9.out, (Fr.of_below HSt.out.be [g]).trans HF9.out⟩
      · obtain rfl : n = 2 := HE.out.2.1
        obtain ⟨zs, hz1, hz2⟩ := HSt.out.dst
        have HZ := Aside0.mk hz1
        have HZl := Aside0.mk hz2
        clear hz1 hz2
        go_wp2_with fail
        with_reducible refine (half_calls P ga xs.length gb xs.length s xs.length _ _ f zs _ HNS.out.symm hN20 ⟨HSt.out.ps, HSt.out.src, HZ.out, HZl.out, Fr.refl _ _, Ne.symm HSt.out.ab⟩).mono ?_
        rintro e w8 ⟨rfl, ys', hl', hD, hf, hps, hs', hd'⟩
        have hrun := run_half HX.out.1 HE.out.1 HE.out.2.2 HNS.out.symm HY.out hl' hD
        have HB8 := Aside0.mk (Fr.be HSt.out.be hf (by
          intro k hk
          simp only [List.mem_cons, List.mem_singleton, List.not_mem_nil, or_false] at hk
          rcases hk with rfl | rfl
          · exact HSt.out.b
          · exact HSt.out.p))
        have HD8 : Aside0 (Mr w8 gb xs.length (tb xs.length (el ys'))) := ⟨by rw [← hrun.1]; exact hd'⟩
        have HY1 := Aside0.mk (show Stk (dft xs.length (rut x 0) (el xs)) (rut x 0) 1 xs.length (el ys') by have := hrun.2; rw [HNS.out] at this; exact this)
        have v2 := hps.cell 2
        clear hl' hD hf hps hs' hd' hrun
        go_wp2_with ((with_reducible refine gate_builtin (b := .copy) (xs := #[.tmp 65, .tmp 69]) rfl ?_); refine copy_mr rfl (.tmp 65) (.tmp 69) 24 24 rfl Tryd.underlying24 size_u64 g c xs (tb xs.length (el ys')) ⟨gb, 0, none⟩ xs.length rfl (by rw [tb_len]; rfl) (HM.out.below HB8.out) (tb_len _ _) ?hsrc ?_; (case hsrc => (intro j hj; rw [add_at, Nat.zero_add]; exact HD8.out.cell j hj)); intro w9 hm9 hf9; have HM9 := Aside0.mk hm9; have HF9 := Aside0.mk hf9; clear hm9 hf9)
        go_wp2
        go_ret
        exact ⟨rfl, by rw [← HFin.out w9 ga _ HY1.out]; exact HM9.out, (Fr.of_below HB8.out [g]).trans HF9.out⟩
set_option maxHeartbeats 16000000 in
theorem plain1 (p b g0 c0 g1 c1 x N g c : Nat) (xs : List Int) (w : World) (hK : Ker w p b g0 c0 g1 c1 x N) (hM : Mr w g c xs) (hl : xs.length = N) (hW : Ws xs) (n0 : g ≠ g0) (n1 : g ≠ g1) :
    Calls Tryd.prog 151 #[.pointer (some ⟨p, 0, none⟩), .slice (some ⟨g, 0, none⟩) N c, .int .i64 1] w fun e w' => e = .returned (.int .i64 0) ∧ Mr w' g c (tb N (dft N (rut x 1) (el xs))) ∧ Fr w w' [g] := by
  obtain ⟨s0, s1, sh, hsub⟩ := hK.sub
  have hN20 : N ≤ 1048576 := by rw [hK.n]; exact pow20 hK.k
  have hN0 : 0 < N := by rw [hK.n]; exact Nat.two_pow_pos x
  have e1 : wrap64 (1 * 2 ^ min (IntKind.u64.wrap (x : Int)).toNat 64) = (N : Int) := by rw [← shl_spell1, shl_n x hK.k, hK.n]
  have e2 : wrap64 (2 ^ min (IntKind.u64.wrap (x : Int)).toNat 64) = (N : Int) := by rw [← e1, Int.one_mul]
  have HK := Aside0.mk hK
  have HM := Aside0.mk hM
  have HS := Aside0.mk hsub
  have HL := Aside0.mk hl
  have HW := Aside0.mk hW
  have q0 := hK.obj.cell 0
  have dd : decide ((1 : Int) < 0) = false := by decide
  have dd2 : decide ((1 : Int) < 1) = false := by decide
  clear hK hM hsub hl hW
  go_enter Tryd.func151, Tryd.ntmps151
  go_wp2_with fail
  with_reducible refine (k2_calls b x s0 s1 sh w HS.out).mono ?_
  rintro e w1 ⟨rfl, rfl⟩
  go_wp2_with fail
  clear q0 e1 e2 dd dd2
  obtain rfl := HL.out
  refine start_ (n := 20) (S := fun w' => w'.cell? ⟨p, 2, none⟩ = some (.slice (some ⟨g1, 0, none⟩) xs.length c1) ∧ w'.cell? ⟨p, 4, none⟩ = some (.int .u64 (fv (rut 2 1))) ∧ Aside0 (Below w1.heap.size w1 w')) (ds := []) #[false, false, false, false, false, false, false, false, false, false, false, false, false, false, false, false, false, false, false, false] (by kernel_rfl) rfl rfl ⟨HK.out.obj.cell 2, HK.out.obj.cell 4, ⟨below_drew1 (Below.refl _ _)⟩⟩ (fun hHeld => ?_)
  refine pure_ (i := 0) (N := some 29) (v := ?_) (a' := ?_) #[true, false, false, false, false, false, false, false, false, false, false, false, false, false, false, false, false, false, false, false] rfl rfl (by kernel_rfl) (fun _ _ _ h => h) (Or.inl ⟨by rfl, ?_⟩) ?_ ?_
  rotate_left
  · intro w'
    go_simp
    with_reducible rfl
  rotate_left
  · simp only [Act.put, List.setIfInBounds_toArray, List.set_cons_zero, List.set_cons_succ, i64_w, i32_w]
    rfl
  refine pure_ (i := 1) (N := some 30) (v := ?_) (a' := ?_) #[true, true, false, false, false, false, false, false, false, false, false, false, false, false, false, false, false, false, false, false] rfl rfl (by kernel_rfl) (fun _ _ _ h => h) (Or.inl ⟨by rfl, ?_⟩) ?_ ?_
  rotate_left
  · intro w'
    go_simp
    with_reducible rfl
  rotate_left
  · simp only [Act.put, List.setIfInBounds_toArray, List.set_cons_zero, List.set_cons_succ, i64_w, i32_w]
    rfl
  refine pure_ (i := 2) (N := some 31) (v := ?_) (a' := ?_) #[true, true, true, false, false, false, false, false, false, false, false, false, false, false, false, false, false, false, false, false] rfl rfl (by kernel_rfl) (fun _ _ _ h => h) (Or.inl ⟨by rfl, ?_⟩) ?_ ?_
  rotate_left
  · intro w'
    go_simp
    with_reducible rfl
  rotate_left
  · simp only [Act.put, List.setIfInBounds_toArray, List.set_cons_zero, List.set_cons_succ, i64_w, i32_w]
    rfl
  refine pure_ (i := 3) (N := some 32) (v := ?_) (a' := ?_) #[true, true, true, true, false, false, false, false, false, false, false, false, false, false, false, false, false, false, false, false] rfl rfl (by kernel_rfl) (fun _ _ _ h => h) (Or.inl ⟨by rfl, ?_⟩) ?_ ?_
  rotate_left
  · intro w'
    go_simp
    with_reducible rfl
  rotate_left
  · simp only [Act.put, List.setIfInBounds_toArray, List.set_cons_zero, List.set_cons_succ, i64_w, i32_w]
    rfl
  refine pure_ (i := 4) (N := some 33) (v := ?_) (a' := ?_) #[true, true, true, true, true, false, false, false, false, false, false, false, false, false, false, false, false, false, false, false] rfl rfl (by kernel_rfl) (fun _ _ _ h => h) (Or.inl ⟨by rfl, ?_⟩) ?_ ?_
  rotate_left
  · intro w'
    go_simp
    with_reducible rfl
  rotate_left
  · simp only [Act.put, List.setIfInBounds_toArray, List.set_cons_zero, List.set_cons_succ, i64_w, i32_w]
    rfl
  refine pure_ (i := 6) (N := some 35) (v := ?_) (a' := ?_) #[true, true, true, true, true, false, true, false, false, false, false, false, false, false, false, false, false, false, false, false] rfl rfl (by kernel_rfl) (fun _ _ _ h => h) (Or.inl ⟨by rfl, ?_⟩) ?_ ?_
  rotate_left
  · intro w'
    go_simp
    with_reducible rfl
  rotate_left
  · simp only [Act.put, List.setIfInBounds_toArray, List.set_cons_zero, List.set_cons_succ, i64_w, i32_w]
    rfl
  refine pure_ (i := 7) (N := some 36) (v := ?_) (a' := ?_) #[true, true, true, true, true, false, true, true, false, false, false, false, false, false, false, false, false, false, false, false] rfl rfl (by kernel_rfl) (fun _ _ _ h => h) (Or.inl ⟨by rfl, ?_⟩) ?_ ?_
  rotate_left
  · intro w'
    go_simp
    with_reducible rfl
  rotate_left
  · simp only [Act.put, List.setIfInBounds_toArray, List.set_cons_zero, List.set_cons_succ, i64_w, i32_w]
    rfl
  refine pure_ (i := 8) (N := some 37) (v := ?_) (a' := ?_) #[true, true, true, true, true, false, true, true, true, false, false, false, false, false, false, false, false, false, false, false] rfl rfl (by kernel_rfl) (fun _ _ _ h => h) (Or.inl ⟨by rfl, ?_⟩) ?_ ?_
  rotate_left
  · intro w'
    go_simp
    with_reducible rfl
  rotate_left
  · simp only [Act.put, List.setIfInBounds_toArray, List.set_cons_zero, List.set_cons_succ, i64_w, i32_w]
    rfl
  refine pure_ (i := 9) (N := some 38) (v := ?_) (a' := ?_) #[true, true, true, true, true, false, true, true, true, true, false, false, false, false, false, false, false, false, false, false] rfl rfl (by kernel_rfl) (fun _ _ _ h => h) (Or.inl ⟨by rfl, ?_⟩) ?_ ?_
  rotate_left
  · intro w'
    go_simp
    with_reducible rfl
  rotate_left
  · simp only [Act.put, List.setIfInBounds_toArray, List.set_cons_zero, List.set_cons_succ, i64_w, i32_w]
    rfl
  refine pure_ (i := 10) (N := some 39) (v := ?_) (a' := ?_) #[true, true, true, true, true, false, true, true, true, true, true, false, false, false, false, false, false, false, false, false] rfl rfl (by kernel_rfl) (fun _ _ _ h => h) (Or.inl ⟨by rfl, ?_⟩) ?_ ?_
  rotate_left
  · intro w'
    go_simp
    with_reducible rfl
  rotate_left
  · simp only [Act.put, List.setIfInBounds_toArray, List.set_cons_zero, List.set_cons_succ, i64_w, i32_w]
    rfl
  refine pure_ (i := 12) (N := some 41) (v := ?_) (a' := ?_) #[true, true, true, true, true, false, true, true, true, true, true, false, true, false, false, false, false, false, false, false] rfl rfl (by kernel_rfl) (fun _ _ _ h => h) (Or.inl ⟨by rfl, ?_⟩) ?_ ?_
  rotate_left
  · intro w'
    go_simp
    with_reducible rfl
  rotate_left
  · simp only [Act.put, List.setIfInBounds_toArray, List.set_cons_zero, List.set_cons_succ, i64_w, i32_w]
    rfl
  refine pure_ (i := 14) (N := some 43) (v := ?_) (a' := ?_) #[true, true, true, true, true, false, true, true, true, true, true, false, true, false, true, false, false, false, false, false] rfl rfl (by kernel_rfl) (fun _ _ _ h => h) (Or.inl ⟨by rfl, ?_⟩) ?_ ?_
  rotate_left
  · intro w'
    go_simp
    with_reducible rfl
  rotate_left
  · simp only [Act.put, List.setIfInBounds_toArray, List.set_cons_zero, List.set_cons_succ, i64_w, i32_w]
    rfl
  refine pure_ (i := 15) (N := some 44) (v := ?_) (a' := ?_) #[true, true, true, true, true, false, true, true, true, true, true, false, true, false, true, true, false, false, false, false] rfl rfl (by kernel_rfl) (fun _ _ _ h => h) (Or.inl ⟨by rfl, ?_⟩) ?_ ?_
  rotate_left
  · intro w'
    go_simp
    with_reducible rfl
  rotate_left
  · simp only [Act.put, List.setIfInBounds_toArray, List.set_cons_zero, List.set_cons_succ, i64_w, i32_w]
    rfl
  refine take_ (i := 5) (N := some 34) (v := ?_) (a' := ?_) #[true, true, true, true, true, true, true, true, true, true, true, false, true, false, true, true, false, false, false, false] rfl rfl (by kernel_rfl) (fun _ _ _ h => h) (Or.inl ⟨by rfl, ?_⟩) hHeld ?_ ?_
  rotate_left
  · rintro w' ⟨s0, s1, s2⟩
    go_simp
    with_reducible rfl
  rotate_left
  · simp only [Act.put, List.setIfInBounds_toArray, List.set_cons_zero, List.set_cons_succ, i64_w, i32_w]
    rfl
  refine take_ (i := 11) (N := some 40) (v := ?_) (a' := ?_) #[true, true, true, true, true, true, true, true, true, true, true, true, true, false, true, true, false, false, false, false] rfl rfl (by kernel_rfl) (fun _ _ _ h => h) (Or.inl ⟨by rfl, ?_⟩) hHeld ?_ ?_
  rotate_left
  · rintro w' ⟨s0, s1, s2⟩
    go_simp
    with_reducible rfl
  rotate_left
  · simp only [Act.put, List.setIfInBounds_toArray, List.set_cons_zero, List.set_cons_succ, i64_w, i32_w]
    rfl
  refine join_ (σ := Nat × Nat) 3 #[true, true, true, true, true, true, true, true, true, true, true, true, true, true, true, true, true, false, false, false] (fun s => [(42, .slice (some ⟨s.1, 0, none⟩) xs.length xs.length), (45, .slice (some ⟨s.2, 0, none⟩) xs.length xs.length)]) (fun s w' => (w'.cell? ⟨p, 2, none⟩ = some (.slice (some ⟨g1, 0, none⟩) xs.length c1) ∧ w'.cell? ⟨p, 4, none⟩ = some (.int .u64 (fv (rut 2 1))) ∧ Aside0 (Below w1.heap.size w1 w')) ∧ Aside0 (Rw w' s.1 (tb xs.length fun i => el xs i * fo 1)) ∧ Aside0 (Rw w' s.2 (List.replicate xs.length 0)) ∧ Aside0 (w1.heap.size ≤ s.1) ∧ Aside0 (w1.heap.size ≤ s.2) ∧ Aside0 (s.1 ≠ s.2)) ?_ ?_
  rotate_left
  · intro hCont
    refine two_ (i := 13) (j := 16) (Ni := some 42) (Nj := some 45) #[true, true, true, true, true, true, true, true, true, true, true, true, true, true, true, true, false, false, false, false] #[true, true, true, true, true, true, true, true, true, true, true, true, true, false, true, true, true, false, false, false] rfl rfl rfl rfl (by kernel_rfl) (by decide) (by decide) (fun K hK => ?_) (fun K hK => ?_)
    · skip
      refine goes_ Tryd.func70 (by kernel_rfl) rfl #[.slice (some ⟨g, 0, none⟩) xs.length c, .int .u64 1] (by rfl) rfl rfl (by simp only [List.map_toArray, List.map_cons, List.map_nil]; rfl) ?_
      with_reducible refine (scale_calls (some ⟨g, 0, none⟩) c xs 1 _ ((In.of_mr HM.out (by omega)).below hHeld.2.2.out) HW.out (by decide) hN20).mono ?_
      rintro e w4 ⟨ga, rfl, hrow, hb, hg⟩
      refine ⟨_, rfl, ?_⟩
      have HA := Aside0.mk hrow
      have HAs := Aside0.mk (Nat.le_trans hHeld.2.2.out.size hg)
      clear hrow hg
      have a0 := pw_cell_below hb hHeld.1
      have a1 := pw_cell_below hb hHeld.2.1
      have aB := below_step hHeld.2.2.out hb
      clear hHeld hb
      refine hK.out _ _ ⟨a0, a1, ⟨aB⟩⟩ (fun hHeld => ?_)
      clear hK K
      refine norm_ (a' := ?_) ?_ ?_
      rotate_left
      · show Act.put _ (some 42) _ = _
        simp only [Act.put, List.setIfInBounds_toArray, List.set_cons_zero, List.set_cons_succ, i64_w, i32_w]
        rfl
      refine one_ (i := 16) (N := some 45) #[true, true, true, true, true, true, true, true, true, true, true, true, true, true, true, true, true, false, false, false] rfl rfl (by kernel_rfl) (by decide) (fun K hK => ?_)
      refine make_step 24 _ _ xs.length (by rfl) rfl rfl rfl rfl (by kernel_rfl) info_u64 (by omega) ?_
      intro w5 hrow hb hsz
      have HAB := Aside0.mk (Nat.ne_of_lt (Bk.lt HA.out))
      have nA := HA.out.below hb
      clear HA
      have HA := Aside0.mk nA
      clear nA
      have HB := Aside0.mk hrow
      have HBs := Aside0.mk hHeld.2.2.out.size
      clear hrow hsz
      have a0 := pw_cell_below hb hHeld.1
      have a1 := pw_cell_below hb hHeld.2.1
      have aB := below_step hHeld.2.2.out hb
      clear hHeld hb
      refine hK.out _ _ ⟨a0, a1, ⟨aB⟩⟩ (fun hHeld => ?_)
      clear hK K
      refine norm_ (a' := ?_) ?_ ?_
      rotate_left
      · show Act.put _ (some 45) _ = _
        simp only [Act.put, List.setIfInBounds_toArray, List.set_cons_zero, List.set_cons_succ, i64_w, i32_w]
        rfl
      exact norm_ (by first | (simp only [putAll, Act.put, List.setIfInBounds_toArray, List.set_cons_zero, List.set_cons_succ]; done) | (simp only [putAll, Act.put, List.setIfInBounds_toArray, List.set_cons_zero, List.set_cons_succ]; rfl)) (hCont (ga, w4.heap.size) _ ⟨hHeld, HA, HB, HAs, HBs, HAB⟩)
    · skip
      refine make_step 24 _ _ xs.length (by rfl) rfl rfl rfl rfl (by kernel_rfl) info_u64 (by omega) ?_
      intro w4 hrow hb hsz
      have HB := Aside0.mk hrow
      have HBs := Aside0.mk hHeld.2.2.out.size
      clear hrow hsz
      have a0 := pw_cell_below hb hHeld.1
      have a1 := pw_cell_below hb hHeld.2.1
      have aB := below_step hHeld.2.2.out hb
      clear hHeld hb
      refine hK.out _ _ ⟨a0, a1, ⟨aB⟩⟩ (fun hHeld => ?_)
      clear hK K
      refine norm_ (a' := ?_) ?_ ?_
      rotate_left
      · show Act.put _ (some 45) _ = _
        simp only [Act.put, List.setIfInBounds_toArray, List.set_cons_zero, List.set_cons_succ, i64_w, i32_w]
        rfl
      refine one_ (i := 13) (N := some 42) #[true, true, true, true, true, true, true, true, true, true, true, true, true, true, true, true, true, false, false, false] rfl rfl (by kernel_rfl) (by decide) (fun K hK => ?_)
      refine goes_ Tryd.func70 (by kernel_rfl) rfl #[.slice (some ⟨g, 0, none⟩) xs.length c, .int .u64 1] (by rfl) rfl rfl (by simp only [List.map_toArray, List.map_cons, List.map_nil]; rfl) ?_
      with_reducible refine (scale_calls (some ⟨g, 0, none⟩) c xs 1 _ ((In.of_mr HM.out (by omega)).below hHeld.2.2.out) HW.out (by decide) hN20).mono ?_
      rintro e w5 ⟨ga, rfl, hrow, hb, hg⟩
      refine ⟨_, rfl, ?_⟩
      have HAB := Aside0.mk (Ne.symm (Nat.ne_of_lt (Nat.lt_of_lt_of_le (Bk.lt HB.out) hg)))
      have nB := HB.out.below hb
      clear HB
      have HB := Aside0.mk nB
      clear nB
      have HA := Aside0.mk hrow
      have HAs := Aside0.mk (Nat.le_trans hHeld.2.2.out.size hg)
      clear hrow hg
      have a0 := pw_cell_below hb hHeld.1
      have a1 := pw_cell_below hb hHeld.2.1
      have aB := below_step hHeld.2.2.out hb
      clear hHeld hb
      refine hK.out _ _ ⟨a0, a1, ⟨aB⟩⟩ (fun hHeld => ?_)
      clear hK K
      refine norm_ (a' := ?_) ?_ ?_
      rotate_left
      · show Act.put _ (some 42) _ = _
        simp only [Act.put, List.setIfInBounds_toArray, List.set_cons_zero, List.set_cons_succ, i64_w, i32_w]
        rfl
      exact norm_ (by first | (simp only [putAll, Act.put, List.setIfInBounds_toArray, List.set_cons_zero, List.set_cons_succ]; done) | (simp only [putAll, Act.put, List.setIfInBounds_toArray, List.set_cons_zero, List.set_cons_succ]; rfl)) (hCont (ga, w1.heap.size) _ ⟨hHeld, HA, HB, HAs, HBs, HAB⟩)
  rintro ⟨ga, gb⟩ w6 ⟨hHeld, HA, HB, HAs, HBs, HAB⟩
  dsimp only at HA HB HAs HBs HAB
  refine norm_ (a' := ?_) ?_ ?_
  rotate_left
  · simp only [putAll, Act.put, List.setIfInBounds_toArray, List.set_cons_zero, List.set_cons_succ]
    rfl
  refine pure_ (i := 17) (N := some 46) (v := ?_) (a' := ?_) #[true, true, true, true, true, true, true, true, true, true, true, true, true, true, true, true, true, true, false, false] rfl rfl (by kernel_rfl) (fun _ _ _ h => h) (Or.inl ⟨by rfl, ?_⟩) ?_ ?_
  rotate_left
  · intro w'
    go_simp
    with_reducible rfl
  rotate_left
  · simp only [Act.put, List.setIfInBounds_toArray, List.set_cons_zero, List.set_cons_succ, i64_w, i32_w]
    rfl
  refine one_ (i := 18) (N := some 47) #[true, true, true, true, true, true, true, true, true, true, true, true, true, true, true, true, true, true, true, false] rfl rfl (by kernel_rfl) (by decide) (fun K hK => ?_)
  refine alloc_step (t := 196) (cs := #[.slice (some ⟨g1, 0, none⟩) xs.length c1, .int .u64 (fv (rut 2 1)), .slice (some ⟨ga, 0, none⟩) xs.length xs.length, .slice (some ⟨gb, 0, none⟩) xs.length xs.length]) (by rfl) rfl ?hr ?_
  case hr => first | (go_simp; done) | (go_simp; rfl)
  intro w7 hP hb hz
  have HP := Aside0.mk hP
  have HPs := Aside0.mk hHeld.2.2.out.size
  have HA7 := Aside0.mk (HA.out.below hb)
  have HB7 := Aside0.mk (HB.out.below hb)
  have a0 := pw_cell_below hb hHeld.1
  have a1 := pw_cell_below hb hHeld.2.1
  have aB := below_step hHeld.2.2.out hb
  clear hHeld hb hz hP HA HB
  refine hK.out _ _ ⟨a0, a1, ⟨aB⟩⟩ (fun hHeld => ?_)
  clear hK K
  refine norm_ (a' := ?_) ?_ ?_
  rotate_left
  · show Act.put _ (some 47) _ = _
    simp only [Act.put, List.setIfInBounds_toArray, List.set_cons_zero, List.set_cons_succ, i64_w, i32_w]
    rfl
  refine pure_ (i := 19) (N := some 7) (v := ?_) (a' := ?_) #[true, true, true, true, true, true, true, true, true, true, true, true, true, true, true, true, true, true, true, true] rfl rfl (by kernel_rfl) (fun _ _ _ h => h) (Or.inl ⟨by rfl, ?_⟩) ?_ ?_
  rotate_left
  · intro w'
    go_simp
    with_reducible rfl
  rotate_left
  · simp only [Act.put, List.setIfInBounds_toArray, List.set_cons_zero, List.set_cons_succ, i64_w, i32_w]
    rfl
  refine done_ (by kernel_rfl) ?_
  obtain ⟨P, hP⟩ : ∃ P, P = w6.heap.size := ⟨_, rfl⟩
  rw [← hP] at HP HPs ⊢
  have HSt : Aside0 (Pst w1 w7 P g1 c1 ga gb xs.length x 1 (el xs)) := ⟨hHeld.2.2.out, HP.out, by
    have h := Mr.of_rw HA7.out
    rw [tb_len, tb_congr (g := el xs) (fun i _ => by rw [fo_one]; grobner)] at h
    exact h, ⟨_, Mr.of_rw HB7.out |> fun h => by rw [List.length_replicate] at h; exact h, List.length_replicate⟩, HPs.out, HAs.out, HBs.out, HAB.out⟩
  clear hHeld hP HP HPs HA7 HB7 HAs HBs HAB
  have HX : Aside0 (x ≤ 20 ∧ xs.length = 2 ^ x) := ⟨HK.out.k, HK.out.n⟩
  have HPW := Aside0.mk HK.out.p1
  have hgp : g1 < w1.heap.size := HK.out.p1.lt
  have HY : Aside0 (Stk (dft xs.length (rut x 1) (el xs)) (rut x 1) xs.length 1 (el xs)) := ⟨Stk.first _ _ _⟩
  go_wp2
  go_loopw [8, 9] (fun v8 v9 wr => ∃ (n s k ga gb : Nat) (f : Nat → F), v8 = .int .i64 n ∧ v9 = .int .i64 s ∧ Aside0 (k ≤ x ∧ n = 2 ^ k ∧ s = 2 ^ (x - k)) ∧ Aside0 (Pst w1 wr P g1 c1 ga gb xs.length x 1 f) ∧ Aside0 (Stk (dft xs.length (rut x 1) (el xs)) (rut x 1) n s f)) (fun v8 _ _ => (intOf v8).toNat)
  case atStart => exact ⟨xs.length, 1, x, ga, gb, el xs, rfl, rfl, ⟨Nat.le_refl _, HX.out.2, by rw [Nat.sub_self]⟩, HSt, HY⟩
  case round =>
    clear HSt HY
    obtain ⟨n, s, k, ga, gb, f, rfl, rfl, HE, HSt, HY⟩ := hrel
    have hns : n * s = xs.length := by
      obtain ⟨h1, h2, h3⟩ := HE.out
      rw [h2, h3, ← Nat.pow_add, show k + (x - k) = x by omega, ← HX.out.2]
    have hs0 : 0 < s := by rw [HE.out.2.2]; exact Nat.two_pow_pos _
    have hnN : n ≤ xs.length := by rw [← hns]; exact Nat.le_mul_of_pos_right _ hs0
    have HNS := Aside0.mk hns
    have HS0 := Aside0.mk hs0
    clear hns hs0
    by_cases h4 : 4 ≤ n
    · have hk2 : 2 ≤ k := by
        rcases (by omega : k = 0 ∨ k = 1 ∨ 2 ≤ k) with q | q | q
        · have := HE.out.2.1; rw [q] at this; omega
        · have := HE.out.2.1; rw [q] at this; omega
        · exact q
      obtain ⟨m, hm⟩ : ∃ m, m = 2 ^ (k - 2) := ⟨_, rfl⟩
      have hn4 : n = 4 * m := by
        rw [HE.out.2.1, hm, show (4 : Nat) = 2 ^ 2 by rfl, ← Nat.pow_add]
        congr 1; omega
      have hm0 : 0 < m := by omega
      have Hn := Aside0.mk hn4
      have Hm := Aside0.mk hm
      have Hm0 := Aside0.mk hm0
      have Hk2 := Aside0.mk hk2
      have hq4 : decide ((4 : Int) ≤ (n : Int)) = true := decide_eq_true (by omega)
      obtain ⟨zs, hz1, hz2⟩ := HSt.out.dst
      have HZ := Aside0.mk hz1
      have HZl := Aside0.mk hz2
      obtain ⟨s4, hs4⟩ : ∃ t, t = 4 * s := ⟨_, rfl⟩
      have hsN : s4 ≤ xs.length := by rw [hs4, ← HNS.out, hn4, Nat.mul_assoc]; exact Nat.mul_le_mul_left _ (Nat.le_mul_of_pos_left _ hm0)
      have HS4 := Aside0.mk hs4
      have hmn : m < n := by omega
      have kd : (n : Int) / 4 = (m : Int) := by omega
      have ks : 4 * (s : Int) = (s4 : Int) := by omega
      obtain ⟨kA, kB⟩ := wrapb kd (by omega)
      obtain ⟨kC, kD⟩ := wrapb ks (by omega)
      clear hm hn4 hm0 hk2 hz1 hz2 hs4 hsN h4
      have HKd := Aside0.mk kd
      have HKs := Aside0.mk ks
      have HkA := Aside0.mk kA
      have HkB := Aside0.mk kB
      have HkC := Aside0.mk kC
      have HkD := Aside0.mk kD
      clear kd ks kA kB kC kD
      go_wp2_with fail
      with_reducible refine (quarter_calls P g1 c1 ga xs.length gb xs.length n m s xs.length (rut x 1) (rut 2 1) f zs _ Hn.out Hm0.out HNS.out hN20 HS0.out HSt.out.ps (HPW.out.below HSt.out.be) HSt.out.src HZ.out HZl.out (by have := HSt.out.b; omega) (Ne.symm HSt.out.ab)).mono ?_
      rintro e w8 ⟨rfl, ys', hl', hD, hf, hps, hs', hd'⟩
      have hrun := run_quarter HX.out.1 (show k - 2 + 2 ≤ x by have := HE.out.1; have := Hk2.out; omega) Hm.out (show s = 2 ^ (x - (k - 2 + 2)) by rw [HE.out.2.2]; congr 1; have := Hk2.out; omega) Hn.out HNS.out (by have := HY.out; rw [Hn.out] at this; exact this) hl' hD
      have HST8 : Aside0 (Pst w1 w8 P g1 c1 gb ga xs.length x 1 (el ys')) := ⟨Fr.be HSt.out.be hf (by
          intro k hk
          simp only [List.mem_cons, List.mem_singleton, List.not_mem_nil, or_false] at hk
          rcases hk with rfl | rfl
          · exact HSt.out.b
          · exact HSt.out.p), hps, by rw [← hrun.1]; exact hd', ⟨_, hs', tb_len _ _⟩, HSt.out.p, HSt.out.b, HSt.out.a, Ne.symm HSt.out.ab⟩
      have HY8 := Aside0.mk hrun.2
      clear hl' hD hf hps hs' hd' hrun HSt HY HZ HZl
      have kA := HkA.out
      have kB := HkB.out
      have kC := HkC.out
      have kD := HkD.out
      go_wp2
      go_roundw
      case rel => exact ⟨m, s4, k - 2, gb, ga, el ys', by first | rfl | (rw [HKd.out]) | (rw [kB]) | (rw [kA]), by first | rfl | (rw [kD]) | (rw [kC]) | (rw [HKs.out]), ⟨by have := HE.out.1; omega, Hm.out, by rw [HS4.out, HE.out.2.2, show (4 : Nat) = 2 ^ 2 by rfl, ← Nat.pow_add]; congr 1; have := HE.out.1; have := Hk2.out; omega⟩, HST8, by rw [HS4.out]; exact HY8⟩
      case measure => simp [intOf]; omega
    · have hq4 : decide ((4 : Int) ≤ (n : Int)) = false := decide_eq_false (by omega)
      have hk1 : k = 0 ∨ k = 1 := by
        rcases (by omega : k = 0 ∨ k = 1 ∨ 2 ≤ k) with q | q | q
        · exact .inl q
        · exact .inr q
        · have h5 := HE.out.2.1
          obtain ⟨j, rfl⟩ : ∃ j, k = j + 2 := ⟨k - 2, by omega⟩
          rw [Nat.pow_succ, Nat.pow_succ] at h5
          have := Nat.two_pow_pos j
          omega
      have hfin : ∀ (wz : World) (gz : Nat) (fz : Nat → F), Stk (dft xs.length (rut x 1) (el xs)) (rut x 1) 1 xs.length fz → tb xs.length fz = tb xs.length (dft xs.length (rut x 1) (el xs)) := fun _ _ fz h => tb_congr fun i hi => (h.last i hi).symm
      have HFin := Aside0.mk hfin
      clear hfin h4
      rcases hk1 with rfl | rfl
      · obtain rfl : n = 1 := HE.out.2.1
        have HSt1 := Aside0.mk (HSt.out.ps)
        have HY1 := Aside0.mk (show Stk (dft xs.length (rut x 1) (el xs)) (rut x 1) 1 xs.length f by have := HY.out; have h := HNS.out; rw [Nat.one_mul] at h; rw [h] at this; exact this)
        have v2 := HSt.out.ps.cell 2
        go_wp2_with ((with_reducible refine gate_builtin (b := .copy) (xs := #[.tmp 65, .tmp 69]) rfl ?_); refine copy_mr rfl (.tmp 65) (.tmp 69) 24 24 rfl Tryd.underlying24 size_u64 g c xs (tb xs.length f) ⟨ga, 0, none⟩ xs.length rfl (by rw [tb_len]; rfl) (HM.out.below HSt.out.be) (tb_len _ _) ?hsrc ?_; (case hsrc => (intro j hj; rw [add_at, Nat.zero_add]; exact HSt.out.src.cell j hj)); intro w9 hm9 hf9; have HM9 := Aside0.mk hm9; have HF9 := Aside0.mk hf9; clear hm9 hf9)
        go_wp2
        go_ret
        exact ⟨rfl, by rw [← HFin.out w9 ga f HY1.out]; exact HM9.out, (Fr.of_below HSt.out.be [g]).trans HF9.out⟩
      · obtain rfl : n = 2 := HE.out.2.1
        obtain ⟨zs, hz1, hz2⟩ := HSt.out.dst
        have HZ := Aside0.mk hz1
        have HZl := Aside0.mk hz2
        clear hz1 hz2
        go_wp2_with fail
        with_reducible refine (half_calls P ga xs.length gb xs.length s xs.length _ _ f zs _ HNS.out.symm hN20 ⟨HSt.out.ps, HSt.out.src, HZ.out, HZl.out, Fr.refl _ _, Ne.symm HSt.out.ab⟩).mono ?_
        rintro e w8 ⟨rfl, ys', hl', hD, hf, hps, hs', hd'⟩
        have hrun := run_half HX.out.1 HE.out.1 HE.out.2.2 HNS.out.symm HY.out hl' hD
        have HB8 := Aside0.mk (Fr.be HSt.out.be hf (by
          intro k hk
          simp only [List.mem_cons, List.mem_singleton, List.not_mem_nil, or_false] at hk
          rcases hk with rfl | rfl
          · exact HSt.out.b
          · exact HSt.out.p))
        have HD8 : Aside0 (Mr w8 gb xs.length (tb xs.length (el ys'))) := ⟨by rw [← hrun.1]; exact hd'⟩
        have HY1 := Aside0.mk (show Stk (dft xs.length (rut x 1) (el xs)) (rut x 1) 1 xs.length (el ys') by have := hrun.2; rw [HNS.out] at this; exact this)
        have v2 := hps.cell 2
        clear hl' hD hf hps hs' hd' hrun
        go_wp2_with ((with_reducible refine gate_builtin (b := .copy) (xs := #[.tmp 65, .tmp 69]) rfl ?_); refine copy_mr rfl (.tmp 65) (.tmp 69) 24 24 rfl Tryd.underlying24 size_u64 g c xs (tb xs.length (el ys')) ⟨gb, 0, none⟩ xs.length rfl (by rw [tb_len]; rfl) (HM.out.below HB8.out) (tb_len _ _) ?hsrc ?_; (case hsrc => (intro j hj; rw [add_at, Nat.zero_add]; exact HD8.out.cell j hj)); intro w9 hm9 hf9; have HM9 := Aside0.mk hm9; have HF9 := Aside0.mk hf9; clear hm9 hf9)
        go_wp2
        go_ret
        exact ⟨rfl, by rw [← HFin.out w9 ga _ HY1.out]; exact HM9.out, (Fr.of_below HB8.out [g]).trans HF9.out⟩
end Go.Proofs.YtpnkcjnemoompaaDoor.Kern
end
section
namespace Go.Proofs.YtpnkcjnemoompaaDoor.Kern
open Go.RowKit Go.Proofs.YtpnkcjnemoompaaDoor Go.Proofs.YtpnkcjnemoompaaDoor.Ext Go.Proofs.YtpnkcjnemoompaaDoor.PPlan Go.Proofs.YtpnkcjnemoompaaDoor.PFft Go.Proofs.YtpnkcjnemoompaaDoor.Pure Go.Proofs.YtpnkcjnemoompaaDoor.Obj Go.Proofs.YtpnkcjnemoompaaDoor.Fft Go.Proofs.YtpnkcjnemoompaaDoorW.PrintWords Go.Proofs.YtpnkcjnemoompaaDoorW.PrintLast Go.Proofs.YtpnkcjnemoompaaDoorW.PrintMore
set_option linter.unusedVariables false
set_option linter.unusedSimpArgs false
set_option maxRecDepth 100000
theorem Ker.lts {w : World} {p b g0 c0 g1 c1 x N : Nat} (h : Ker w p b g0 c0 g1 c1 x N) : p < w.heap.size ∧ b < w.heap.size ∧ g0 < w.heap.size ∧ g1 < w.heap.size := by
  obtain ⟨s0, s1, sh, hs⟩ := h.sub
  exact ⟨h.obj.lt, hs.lt, h.p0.lt, h.p1.lt⟩
theorem Ker.keep {w w' : World} {p b g0 c0 g1 c1 x N g c : Nat} {xs : List Int} (h : Ker w p b g0 c0 g1 c1 x N) (hM : Mr w g c xs) (n0 : g ≠ g0) (n1 : g ≠ g1) (hf : Fr w w' [g]) : Ker w' p b g0 c0 g1 c1 x N := by
  obtain ⟨s0, s1, sh, hs⟩ := h.sub
  refine h.fr hf ?_ ?_ ?_ ?_
  · simpa using hM.ne h.obj (by decide)
  · simpa using hM.ne hs (by decide)
  · simpa using Ne.symm n0
  · simpa using Ne.symm n1
theorem run0 (p b g0 c0 g1 c1 x N g c : Nat) (xs : List Int) (w : World) (hK : Ker w p b g0 c0 g1 c1 x N) (hM : Mr w g c xs) (hl : xs.length = N) (hW : Ws xs) (n0 : g ≠ g0) (n1 : g ≠ g1) :
    Calls Tryd.prog 127 #[.pointer (some ⟨p, 0, none⟩), .slice (some ⟨g, 0, none⟩) N c, .int .i64 0] w fun e w' => e = .returned (.int .i64 0) ∧ Mr w' g c (tb N (tr x 0 (el xs))) ∧ Fr w w' [g] := by
  have HC := Aside0.mk (plain0 p b g0 c0 g1 c1 x N g c xs w hK hM hl hW n0 n1)
  have e : tb N (tr x 0 (el xs)) = tb N (dft N (rut x 0) (el xs)) := tb_congr fun i _ => by
    unfold tr
    rw [if_neg (by decide), ← hK.n]; grobner
  rw [e]
  clear hK hM hl hW n0 n1 e
  go_enter Tryd.func127, Tryd.ntmps127
  go_wp2_with fail
  refine HC.out.mono ?_
  rintro e w1 ⟨rfl, hm, hf⟩
  have HM := Aside0.mk hm
  have HF := Aside0.mk hf
  clear hm hf
  go_wp2
  go_ret
  exact ⟨rfl, HM.out, HF.out⟩
theorem run1 (p b g0 c0 g1 c1 x N g c : Nat) (xs : List Int) (w : World) (hK : Ker w p b g0 c0 g1 c1 x N) (hM : Mr w g c xs) (hl : xs.length = N) (hW : Ws xs) (n0 : g ≠ g0) (n1 : g ≠ g1) :
    Calls Tryd.prog 127 #[.pointer (some ⟨p, 0, none⟩), .slice (some ⟨g, 0, none⟩) N c, .int .i64 1] w fun e w' => e = .returned (.int .i64 0) ∧ Mr w' g c (tb N (tr x 1 (el xs))) ∧ Fr w w' [g] := by
  have HC := Aside0.mk (plain1 p b g0 c0 g1 c1 x N g c xs w hK hM hl hW n0 n1)
  have hN20 : N ≤ 1048576 := by rw [hK.n]; exact pow20 hK.k
  have e : tb N (tr x 1 (el xs)) = tb N (fun i => el (tb N (dft N (rut x 1) (el xs))) i * fo (fv (shf x))) := tb_congr fun i hi => by
    unfold tr
    rw [if_pos rfl, ← hK.n, el_tb _ hi, fo_fv]
  rw [e]
  have HK := Aside0.mk (fun w' (hf : Fr w w' [g]) => hK.keep hM n0 n1 hf)
  clear hK hM hl hW n0 n1 e
  obtain ⟨ys, hys⟩ : ∃ ys, ys = tb N (dft N (rut x 1) (el xs)) := ⟨_, rfl⟩
  rw [← hys] at HC ⊢
  have hyl : ys.length = N := by rw [hys, tb_len]
  have HWs : Aside0 (Ws ys) := ⟨by rw [hys]; exact tb_ws _ _⟩
  clear hys
  obtain rfl := hyl
  go_enter Tryd.func127, Tryd.ntmps127
  go_wp2_with fail
  refine HC.out.mono ?_
  rintro e w1 ⟨rfl, hm, hf⟩
  have HM := Aside0.mk hm
  have HF := Aside0.mk hf
  have HK1 := Aside0.mk (HK.out w1 hf)
  have u5 := HK1.out.obj.cell 5
  clear hm hf
  go_wp2_with fail
  with_reducible refine (scale_calls (some ⟨g, 0, none⟩) c ys (fv (shf x)) _ (In.of_mr HM.out (by omega)) HWs.out (fv_w _) hN20).mono ?_
  rintro e w2 ⟨gs, rfl, hr, hb, hg⟩
  have HR := Aside0.mk (Mr.of_rw hr)
  have HM2 := Aside0.mk (HM.out.below hb)
  have HF2 := Aside0.mk (HF.out.trans (Fr.of_below hb [g]))
  rw [tb_len] at HR
  clear hr hb hg u5
  go_wp2_with ((with_reducible refine gate_builtin (b := .copy) (xs := #[.tmp 18, .tmp 24]) rfl ?_); refine copy_mr rfl (.tmp 18) (.tmp 24) 24 24 rfl Tryd.underlying24 size_u64 g c ys (tb ys.length fun i => el ys i * fo (fv (shf x))) ⟨gs, 0, none⟩ ys.length rfl (by rw [tb_len]; rfl) HM2.out (tb_len _ _) ?hsrc ?_; (case hsrc => (intro j hj; rw [add_at, Nat.zero_add]; exact HR.out.cell j hj)); intro w9 hm9 hf9; have HM9 := Aside0.mk hm9; have HF9 := Aside0.mk (HF2.out.trans hf9); clear hm9 hf9)
  go_wp2
  go_ret
  exact ⟨rfl, HM9.out, HF9.out⟩
theorem run_calls (p b g0 c0 g1 c1 x N g c : Nat) (xs : List Int) (d : Int) (hd : d = 0 ∨ d = 1) (w : World) (hK : Ker w p b g0 c0 g1 c1 x N) (hM : Mr w g c xs) (hl : xs.length = N) (hW : Ws xs) (n0 : g ≠ g0) (n1 : g ≠ g1) :
    Calls Tryd.prog 127 #[.pointer (some ⟨p, 0, none⟩), .slice (some ⟨g, 0, none⟩) N c, .int .i64 d] w fun e w' => e = .returned (.int .i64 0) ∧ Mr w' g c (tb N (tr x d (el xs))) ∧ Fr w w' [g] := by
  rcases hd with rfl | rfl
  · exact run0 p b g0 c0 g1 c1 x N g c xs w hK hM hl hW n0 n1
  · exact run1 p b g0 c0 g1 c1 x N g c xs w hK hM hl hW n0 n1
end Go.Proofs.YtpnkcjnemoompaaDoor.Kern
end
section
set_option linter.unusedVariables false
set_option linter.unusedSimpArgs false
namespace Go.Proofs.YtpnkcjnemoompaaDoor.Fft
open Go.RowKit Go.Proofs.YtpnkcjnemoompaaDoor Go.Proofs.YtpnkcjnemoompaaDoor.Pure Go.Proofs.YtpnkcjnemoompaaDoor.PPlan Go.Proofs.YtpnkcjnemoompaaDoor.PFft Go.Proofs.YtpnkcjnemoompaaDoor.Ext Go.Proofs.YtpnkcjnemoompaaDoorW.PrintWords Go.Proofs.YtpnkcjnemoompaaDoorW.PrintLast Go.Proofs.YtpnkcjnemoompaaDoorW.PrintMore
def Vg (off step n L : Int) : Prop := 0 ≤ n ∧ n ≤ 1048576 ∧ 1 ≤ step ∧ 0 ≤ off ∧ (n = 0 ∨ off + (n - 1) * step < L)
theorem vgood_yes (off step n L : Int) (h : Vg off step n L) (hL : 0 ≤ L ∧ L ≤ 1048576) : rows_Good.f off step n L = some true := by
  obtain ⟨h1, h2, h3, h4, h5⟩ := h
  unfold rows_Good.f
  rw [if_neg (by omega), if_neg (by omega), if_neg (by omega), if_neg (by omega)]
  by_cases n0 : n = 0
  · rw [if_pos n0]
  · rw [if_neg n0]
    have h6 : off + (n - 1) * step < L := by
      rcases h5 with h5 | h5
      · omega
      · exact h5
    have hnn : 0 ≤ (n - 1) * step := Int.mul_nonneg (by omega) (by omega)
    rw [if_pos (by omega)]
    by_cases n1 : n = 1
    · rw [if_pos n1]
    · rw [if_neg n1]
      have e1 : wrap64 (n - 1) = n - 1 := wrap_i _ (by omega) (by omega)
      have e2 : wrap64 (L - 1) = L - 1 := wrap_i _ (by omega) (by omega)
      have e3 : wrap64 (L - 1 - off) = L - 1 - off := wrap_i _ (by omega) (by omega)
      rw [e1, if_neg (by omega), e2, e3]
      have hd : step ≤ Int.tdiv (L - 1 - off) (n - 1) := by
        rw [Int.tdiv_eq_ediv_of_nonneg (by omega)]
        refine (Int.le_ediv_iff_mul_le (by omega)).2 ?_
        rw [Int.mul_comm]; omega
      have hle : Int.tdiv (L - 1 - off) (n - 1) ≤ L - 1 - off := by
        rw [Int.tdiv_eq_ediv_of_nonneg (by omega)]
        exact Int.ediv_le_self _ (by omega)
      have e4 : wrap64 (Int.tdiv (L - 1 - off) (n - 1)) = Int.tdiv (L - 1 - off) (n - 1) := wrap_i _ (by omega) (by omega)
      rw [e4, decide_eq_true hd]
structure Vn (off step n L : Nat) : Prop where
  hn : n ≤ 1048576
  hs : 1 ≤ step
  lt : ∀ i, i < n → off + i * step < L
theorem Vn.good {off step n L : Nat} (h : Vn off step n L) : Vg off step n L := by
  refine ⟨by omega, by have := h.hn; omega, by have := h.hs; omega, by omega, ?_⟩
  rcases Nat.eq_zero_or_pos n with rfl | hn
  · exact .inl rfl
  · have := h.lt (n - 1) (by omega)
    refine .inr ?_
    have e : ((n : Int) - 1) * (step : Int) = (((n - 1) * step : Nat) : Int) := by rw [Int.natCast_mul]; congr 1; omega
    rw [e]; omega
def gat (l : List Int) (off step n : Nat) : List Int := (List.range n).map fun i => l.getD (off + i * step) 0
theorem gat_len (l : List Int) (off step n : Nat) : (gat l off step n).length = n := by simp [gat]
theorem gat_get (l : List Int) (off step : Nat) {n i : Nat} (h : i < n) : (gat l off step n).getD i 0 = l.getD (off + i * step) 0 := by simp [gat, List.getD, h]
theorem gat_ws {l : List Int} (h : Ws l) (off step n : Nat) : Ws (gat l off step n) := by
  intro i
  by_cases hi : i < n
  · rw [gat_get l off step hi]; exact h _
  · have : (gat l off step n)[i]? = none := List.getElem?_eq_none (by rw [gat_len]; omega)
    rw [List.getD_eq_getElem?_getD, this]; decide
theorem gat_succ (l : List Int) (off step n : Nat) : gat l off step (n + 1) = gat l off step n ++ [l.getD (off + n * step) 0] := by simp [gat, List.range_succ]
theorem el_gat (l : List Int) (off step : Nat) {n i : Nat} (h : i < n) : el (gat l off step n) i = el l (off + i * step) := by unfold el; rw [gat_get l off step h]
def sct (xs : List Int) (off step : Nat) (ws : List Int) : Nat → List Int
  | 0 => xs
  | i + 1 => (sct xs off step ws i).set (off + i * step) (ws.getD i 0)
theorem sct_len (xs : List Int) (off step : Nat) (ws : List Int) (i : Nat) : (sct xs off step ws i).length = xs.length := by
  induction i with
  | zero => rfl
  | succ i ih => rw [sct, List.length_set, ih]
def gfl (l : List Int) (off step n i : Nat) : List Int := gat l off step i ++ List.replicate (n - i) 0
theorem gfl_set (l : List Int) (off step : Nat) {n i : Nat} (h : i < n) : (gfl l off step n i).set i (l.getD (off + i * step) 0) = gfl l off step n (i + 1) := by
  unfold gfl
  rw [List.set_append_right _ _ (by rw [gat_len]; omega), gat_len, Nat.sub_self, gat_succ]
  obtain ⟨m, hm⟩ : ∃ m, n - i = m + 1 := ⟨n - i - 1, by omega⟩
  rw [hm, show n - (i + 1) = m by omega, List.replicate_succ, List.set_cons_zero]
  simp
theorem gfl_len (l : List Int) (off step : Nat) {n i : Nat} (h : i ≤ n) : (gfl l off step n i).length = n := by simp [gfl, gat_len]; omega
end Go.Proofs.YtpnkcjnemoompaaDoor.Fft
end
section
namespace Go.Proofs.YtpnkcjnemoompaaDoor.Kern
open Go.RowKit Go.Proofs.YtpnkcjnemoompaaDoor Go.Proofs.YtpnkcjnemoompaaDoor.Ext Go.Proofs.YtpnkcjnemoompaaDoor.PPlan Go.Proofs.YtpnkcjnemoompaaDoor.PFft Go.Proofs.YtpnkcjnemoompaaDoor.Pure Go.Proofs.YtpnkcjnemoompaaDoor.Obj Go.Proofs.YtpnkcjnemoompaaDoor.Fft Go.Proofs.YtpnkcjnemoompaaDoorW.PrintWords Go.Proofs.YtpnkcjnemoompaaDoorW.PrintLast Go.Proofs.YtpnkcjnemoompaaDoorW.PrintMore
set_option linter.unusedVariables false
set_option linter.unusedSimpArgs false
set_option maxRecDepth 100000
theorem view_num {o s i L t : Nat} (h : t = o + i * s) (hL : t < L) (hL2 : L ≤ 1048576) : (IntKind.i64.wrap ((i : Int) * (s : Int)) = ((i * s : Nat) : Int) ∧ wrap64 ((i : Int) * (s : Int)) = ((i * s : Nat) : Int)) ∧ (IntKind.i64.wrap ((o : Int) + ((i * s : Nat) : Int)) = (t : Int) ∧ wrap64 ((o : Int) + ((i * s : Nat) : Int)) = (t : Int)) :=
  ⟨wrapb (by rw [Int.natCast_mul]) (by omega), wrapb (by rw [h]; omega) (by omega)⟩
set_option maxHeartbeats 4000000 in
theorem gather_yes (A : Option Addr) (c : Nat) (l : List Int) (o s n : Nat) (w : World) (hl : In w A c l) (hv : Vn o s n l.length) (hL : l.length ≤ 1048576) :
    Calls Tryd.prog 37 #[.slice A l.length c, .agg #[.int .i64 (o : Int), .int .i64 (s : Int), .int .i64 (n : Int)]] w fun e w' => ∃ g, e = .returned (.tuple #[.slice (some ⟨g, 0, none⟩) n n, .int .i64 0]) ∧ Rw w' g (gat l o s n) ∧ Below w.heap.size w w' ∧ w.heap.size ≤ g := by
  have HG := Aside0.mk (vgood_yes o s n l.length hv.good ⟨by omega, by omega⟩)
  have HV := Aside0.mk hv
  have HL := Aside0.mk hl
  have hn2 := hv.hn
  have HB := Aside0.mk (below_alloc (Below.refl w.heap.size w) (Obj.cells #[.int .i64 (o : Int), .int .i64 (s : Int), .int .i64 (n : Int)] 58))
  have HK := Aside0.mk (Bk.new w 58 [.int .i64 (o : Int), .int .i64 (s : Int), .int .i64 (n : Int)])
  clear hl hv
  go_enter Tryd.func37, Tryd.ntmps37
  go_wp2_with fail
  with_reducible refine (rows_Good.calls o s n l.length true _ HG.out).mono ?_
  rintro e w1 ⟨rfl, hb⟩
  have HB1 := Aside0.mk (below_then HB.out HB.out.size hb)
  have HK1 := Aside0.mk (HK.out.below hb)
  obtain ⟨bv, hbv⟩ : ∃ b, b = w.heap.size := ⟨_, rfl⟩
  rw [← hbv] at HK1 ⊢
  have HBv : Aside0 (w.heap.size ≤ bv) := ⟨by omega⟩
  have u2 := HK1.out.cell 2
  clear hb HB HK hbv
  go_wp2_with ((with_reducible refine gate_dst (N := 15) rfl ?_); refine make_row rfl 24 (.tmp 14) (.tmp 14) rfl n rfl rfl Tryd.underlying24 info_u64 (by omega) ?_; intro w2 hrow hb hsz; have HR := Aside0.mk (show Rw w2 w1.heap.size (gfl l o s n 0) by unfold gfl; exact hrow); have HB2 := Aside0.mk (below_then HB1.out HB1.out.size hb); have HK2 := Aside0.mk (HK1.out.below hb); clear hrow hb hsz u2)
  have HG0 : Aside0 (w.heap.size ≤ w1.heap.size) := ⟨HB1.out.size⟩
  obtain ⟨g, hg⟩ : ∃ g, g = w1.heap.size := ⟨_, rfl⟩
  rw [← hg] at HR HG0 ⊢
  clear hg HB1 HK1
  go_loopw [18] (fun v18 wr => ∃ i : Nat, v18 = .int .i64 i ∧ i ≤ n ∧ Aside0 (Rw wr g (gfl l o s n i)) ∧ Aside0 (Below w.heap.size w wr) ∧ Aside0 (Bk wr bv 58 [.int .i64 (o : Int), .int .i64 (s : Int), .int .i64 (n : Int)])) (fun v18 _ => n - (intOf v18).toNat)
  case atStart => exact ⟨0, rfl, Nat.zero_le _, HR, HB2, HK2⟩
  case round =>
    clear HR HB2 HK2
    obtain ⟨i, rfl, hi, HR, HB, HK⟩ := hrel
    by_cases h1 : i < n
    · have hia : (i : Int) < (n : Int) := by omega
      have ht := HV.out.lt i h1
      obtain ⟨ad, q, hx⟩ := Kd.at_int (HL.out.below HB.out).r ((o + i * s : Nat) : Int) (by omega) (by omega)
      cases q
      simp only [Int.toNat_natCast] at hx
      rw [rdn] at hx
      obtain ⟨t, htt⟩ : ∃ t, t = o + i * s := ⟨_, rfl⟩
      rw [← htt] at hx ht
      obtain ⟨⟨kA, kB⟩, kC, kD⟩ := view_num htt ht hL
      have HF := Aside0.mk (gfl_set l o s h1)
      rw [← htt] at HF
      have t0 : (0 : Int) ≤ (t : Int) := by omega
      have t1 : (t : Int) < (l.length : Int) := by omega
      obtain ⟨is, his⟩ : ∃ x, x = i * s := ⟨_, rfl⟩
      rw [← his] at kA kB kC kD
      generalize l.getD t 0 = x at *
      have u0 := HK.out.cell 0
      have u1 := HK.out.cell 1
      have u3 := HR.out.cell i (by rw [gfl_len _ _ _ hi]; exact h1)
      have u4 := Bk.frozen HR.out i
      clear htt ht his
      go_wp2
      clear kA kB kC kD
      go_roundw
      case rel => exact ⟨i + 1, by go_num, by omega, ⟨by rw [← HF.out]; exact HR.out.put i x⟩, ⟨HB.out.setCell (p := ⟨g, i, none⟩) HG0.out _⟩, ⟨HK.out.far i _ (HK.out.ne HR.out (by decide))⟩⟩
      case measure => simp [intOf]; omega
    · obtain rfl : i = n := by omega
      have hia : decide ((i : Int) < (i : Int)) = false := decide_eq_false (by omega)
      go_wp2
      go_ret2
      have hr := HR.out
      unfold gfl at hr
      rw [Nat.sub_self, List.replicate_zero, List.append_nil] at hr
      exact ⟨_, rfl, hr, HB.out, HG0.out⟩
end Go.Proofs.YtpnkcjnemoompaaDoor.Kern
end
section
set_option linter.unusedVariables false
set_option linter.unusedSimpArgs false
namespace Go.Proofs.YtpnkcjnemoompaaDoor.Pure
open Go.RowKit Go.Proofs.YtpnkcjnemoompaaDoor Go.Proofs.YtpnkcjnemoompaaDoor.PPlan Go.Proofs.YtpnkcjnemoompaaDoor.Ext Go.Proofs.YtpnkcjnemoompaaDoorW.PrintWords Go.Proofs.YtpnkcjnemoompaaDoorW.PrintLast Go.Proofs.YtpnkcjnemoompaaDoorW.PrintMore
theorem and_pred (k m : Nat) : (2 ^ k * (2 * m + 1)) &&& (2 ^ k * (2 * m + 1) - 1) = 2 ^ k * (2 * m) := by
  have hp := Nat.two_pow_pos k
  have e : 2 ^ k * (2 * m + 1) - 1 = 2 ^ k * (2 * m) + (2 ^ k - 1) := by rw [Nat.mul_add]; omega
  rw [e]
  apply Nat.eq_of_testBit_eq
  intro j
  have h1 := Nat.testBit_two_pow_mul_add (2 * m + 1) hp j
  have h2 := Nat.testBit_two_pow_mul_add (2 * m) (show 2 ^ k - 1 < 2 ^ k by omega) j
  have h3 := Nat.testBit_two_pow_mul_add (2 * m) hp j
  rw [Nat.add_zero] at h1 h3
  rw [Nat.testBit_and, h1, h2, h3]
  by_cases hj : j < k
  · simp [hj]
  · simp only [hj, if_false]
    cases hd : j - k with
    | zero => simp [Nat.testBit_zero]
    | succ d =>
      rw [Nat.testBit_succ, Nat.testBit_succ, show (2 * m + 1) / 2 = m by omega, show 2 * m / 2 = m by omega, Bool.and_self]
theorem odd_part (n : Nat) (h0 : 0 < n) (h : n < 18446744073709551616) : ∃ m, n = 2 ^ Lib.ctz 64 n * (2 * m + 1) ∧ Lib.ctz 64 n < 64 := by
  obtain ⟨m, hm, hk⟩ := Lib.ctzFrom_spec 64 n h0 (by rw [e64]; exact h)
  have e : Lib.ctz 64 n = Lib.ctzFrom 64 n := by simp [Lib.ctz]; omega
  rw [e]; exact ⟨m, hm, hk⟩
theorem pow_inj {a b : Nat} (h : 2 ^ a = 2 ^ b) : a = b := by
  rcases Nat.lt_trichotomy a b with c | c | c
  · have := Nat.pow_lt_pow_right (show 1 < 2 by omega) c; omega
  · exact c
  · have := Nat.pow_lt_pow_right (show 1 < 2 by omega) c; omega
theorem ctz_pow (k : Nat) (hk : k ≤ 62) : Lib.ctz 64 (2 ^ k) = k := by
  have hp : 2 ^ k < 18446744073709551616 := by rw [← e64]; exact Nat.pow_lt_pow_right (by omega) (by omega)
  obtain ⟨m, h1, h2⟩ := odd_part (2 ^ k) (Nat.two_pow_pos k) hp
  generalize Lib.ctz 64 (2 ^ k) = c at *
  rcases Nat.lt_trichotomy c k with h | h | h
  · have e := pow_split (Nat.le_of_lt h)
    rw [e] at h1
    have h3 := Nat.eq_of_mul_eq_mul_left (Nat.two_pow_pos c) h1
    have e2 : 2 ^ (k - c) = 2 * 2 ^ (k - c - 1) := by rw [← Nat.pow_succ']; congr 1; omega
    omega
  · exact h
  · have h3 := Nat.pow_lt_pow_right (show 1 < 2 by omega) h
    have h4 : 2 ^ c * 1 ≤ 2 ^ c * (2 * m + 1) := Nat.mul_le_mul_left _ (by omega)
    omega
theorem fits_yes (k : Nat) (hk : k ≤ 32) : root_Fits.f ((2 ^ k : Nat) : Int) = some ((k : Int), true) := by
  have hp := pow32 hk
  have hp0 := Nat.two_pow_pos k
  unfold root_Fits.f
  have e1 : wrap64 (((2 ^ k : Nat) : Int) - 1) = ((2 ^ k - 1 : Nat) : Int) := by
    generalize 2 ^ k = y at *
    unfold wrap64; omega
  have e2 : 2 ^ k &&& (2 ^ k - 1) = 0 := by have h := and_pred k 0; rw [Nat.mul_zero, Nat.zero_add, Nat.mul_one, Nat.mul_zero] at h; exact h
  have e3 := ctz_pow k (by omega)
  rw [if_neg (by omega), if_neg (by omega), e1, and_i _ _ (by omega) (by omega), e2, if_pos (by rfl), wrap_u _ (by omega) (by omega)]
  unfold bits_TrailingZeros64.f
  rw [if_pos (by omega), Int.toNat_natCast, e3]
  rfl
def Pw (n : Int) (k : Nat) : Prop := k ≤ 32 ∧ n = ((2 ^ k : Nat) : Int)
theorem Pw.uniq {n : Int} {a b : Nat} (h : Pw n a) (k : Pw n b) : a = b := pow_inj (by have := h.2; have := k.2; omega)
theorem fits_no (n : Int) (h : ∀ k, ¬ Pw n k) : root_Fits.f n = some (0, false) := by
  unfold root_Fits.f
  by_cases h1 : n < 1
  · rw [if_pos h1]
  · by_cases h2 : n > 4294967296
    · rw [if_neg h1, if_pos h2]
    · rw [if_neg h1, if_neg h2]
      obtain ⟨x, rfl⟩ := Int.eq_ofNat_of_zero_le (show 0 ≤ n by omega)
      have e1 : wrap64 ((x : Int) - 1) = ((x - 1 : Nat) : Int) := by unfold wrap64; omega
      rw [e1, and_i _ _ (by omega) (by omega)]
      obtain ⟨m, hm, hk⟩ := odd_part x (by omega) (by omega)
      have ha := and_pred (Lib.ctz 64 x) m
      rw [← hm] at ha
      have hp := Nat.two_pow_pos (Lib.ctz 64 x)
      by_cases hm0 : m = 0
      · subst hm0
        rw [Nat.mul_zero, Nat.zero_add, Nat.mul_one] at hm
        have hc : Lib.ctz 64 x ≤ 32 := by
          apply Nat.le_of_not_lt
          intro c
          have h3 := pow_mono (show 33 ≤ Lib.ctz 64 x by omega)
          have e33 : (2 : Nat) ^ 33 = 8589934592 := by decide
          rw [e33, ← hm] at h3
          omega
        exact absurd ⟨hc, by rw [← hm]⟩ (h (Lib.ctz 64 x))
      · have hpos : 0 < 2 ^ Lib.ctz 64 x * (2 * m) := Nat.mul_pos hp (by omega)
        rw [ha, if_neg (by omega)]
theorem pw_cases (n : Int) : (∃ k, Pw n k) ∨ (∀ k, ¬ Pw n k) := by
  by_cases h : ∃ k, Pw n k
  · exact .inl h
  · exact .inr fun k hk => h ⟨k, hk⟩
theorem rfits_loop (n : Int) (d : Nat) : ∀ k : Nat, k + d = 33 →
    ((∃ a, k ≤ a ∧ Pw n a ∧ Ev (fun r => abacistref03_Fits.l0 r n ((2 ^ k : Nat) : Int) (k : Int)) (a : Int)) ∨ ((∀ a, k ≤ a → ¬ Pw n a) ∧ Ev (fun r => abacistref03_Fits.l0 r n ((2 ^ k : Nat) : Int) (k : Int)) (-1))) := by
  induction d with
  | zero =>
    intro k hk
    refine .inr ⟨fun a ha hp => by have := hp.1; omega, Ev.step (f := fun _ => some (-1)) (fun r => ?_) (Ev.now _)⟩
    simp only [abacistref03_Fits.l0]
    rw [if_neg (by omega)]
  | succ d ih =>
    intro k hk
    have hk32 : k ≤ 32 := by omega
    have hp := pow32 hk32
    have e1 : wrap64 (2 * ((2 ^ k : Nat) : Int)) = ((2 ^ (k + 1) : Nat) : Int) := by
      rw [Nat.pow_succ]
      generalize 2 ^ k = y at *
      unfold wrap64; omega
    have e2 : wrap64 ((k : Int) + 1) = ((k + 1 : Nat) : Int) := by unfold wrap64; omega
    by_cases hn : n = ((2 ^ k : Nat) : Int)
    · refine .inl ⟨k, Nat.le_refl _, ⟨hk32, hn⟩, Ev.step (f := fun _ => some (k : Int)) (fun r => ?_) (Ev.now _)⟩
      simp only [abacistref03_Fits.l0]
      rw [if_pos (by omega), if_pos hn]
    · have go : ∀ r, abacistref03_Fits.l0 (r + 1) n ((2 ^ k : Nat) : Int) (k : Int) = abacistref03_Fits.l0 r n ((2 ^ (k + 1) : Nat) : Int) ((k + 1 : Nat) : Int) := by
        intro r
        simp only [abacistref03_Fits.l0]
        rw [if_pos (by omega), if_neg hn, e1, e2]
      rcases ih (k + 1) (by omega) with ⟨a, h1, h2, h3⟩ | ⟨h1, h2⟩
      · exact .inl ⟨a, by omega, h2, Ev.step go h3⟩
      · refine .inr ⟨fun a ha hpa => ?_, Ev.step go h2⟩
        rcases Nat.lt_or_ge k a with c | c
        · exact h1 a c hpa
        · obtain rfl : a = k := by omega
          exact hn hpa.2
theorem rfits_yes (n : Int) (k : Nat) (h : Pw n k) : Ev (fun r => abacistref03_Fits.f r n) (k : Int) := by
  rcases rfits_loop n 33 0 rfl with ⟨a, _, h2, h3⟩ | ⟨h1, _⟩
  · obtain rfl := h2.uniq h
    exact Ev.congr (fun _ => rfl) h3
  · exact absurd h (h1 k (Nat.zero_le _))
theorem rfits_no (n : Int) (h : ∀ k, ¬ Pw n k) : Ev (fun r => abacistref03_Fits.f r n) (-1) := by
  rcases rfits_loop n 33 0 rfl with ⟨a, _, h2, _⟩ | ⟨_, h2⟩
  · exact absurd h2 (h a)
  · exact Ev.congr (fun _ => rfl) h2
end Go.Proofs.YtpnkcjnemoompaaDoor.Pure
end
section
namespace Go.Proofs.YtpnkcjnemoompaaDoor.Kern
open Go.RowKit Go.Proofs.YtpnkcjnemoompaaDoor Go.Proofs.YtpnkcjnemoompaaDoor.Ext Go.Proofs.YtpnkcjnemoompaaDoor.PPlan Go.Proofs.YtpnkcjnemoompaaDoor.PFft Go.Proofs.YtpnkcjnemoompaaDoor.Pure Go.Proofs.YtpnkcjnemoompaaDoor.Obj Go.Proofs.YtpnkcjnemoompaaDoor.Fft Go.Proofs.YtpnkcjnemoompaaDoorW.PrintWords Go.Proofs.YtpnkcjnemoompaaDoorW.PrintLast Go.Proofs.YtpnkcjnemoompaaDoorW.PrintMore
set_option linter.unusedVariables false
set_option linter.unusedSimpArgs false
set_option maxRecDepth 100000
set_option maxHeartbeats 4000000 in
theorem scatter_yes (g c : Nat) (xs : List Int) (B : Option Addr) (d : Nat) (ws : List Int) (o s n : Nat) (w : World) (hM : Mr w g c xs) (hv : Vn o s n xs.length) (hL : xs.length ≤ 1048576) (hn : ws.length = n) (hs : ∀ w', Fr w w' [g] → In w' B d ws) :
    Calls Tryd.prog 38 #[.slice (some ⟨g, 0, none⟩) xs.length c, .agg #[.int .i64 (o : Int), .int .i64 (s : Int), .int .i64 (n : Int)], .slice B n d] w fun e w' => e = .returned (.int .i64 0) ∧ Mr w' g c (sct xs o s ws n) ∧ Fr w w' [g] := by
  have HG := Aside0.mk (vgood_yes o s n xs.length hv.good ⟨by omega, by omega⟩)
  have HV := Aside0.mk hv
  have HM := Aside0.mk hM
  have HS := Aside0.mk hs
  have HN := Aside0.mk hn
  have hn2 := hv.hn
  have hgl : g < w.heap.size := hM.lt
  have HB := Aside0.mk (below_alloc (Below.refl w.heap.size w) (Obj.cells #[.int .i64 (o : Int), .int .i64 (s : Int), .int .i64 (n : Int)] 58))
  have HK := Aside0.mk (Bk.new w 58 [.int .i64 (o : Int), .int .i64 (s : Int), .int .i64 (n : Int)])
  clear hM hv hs hn
  go_enter Tryd.func38, Tryd.ntmps38
  go_wp2_with fail
  with_reducible refine (rows_Good.calls o s n xs.length true _ HG.out).mono ?_
  rintro e w1 ⟨rfl, hb⟩
  have HF1 := Aside0.mk (Fr.of_below (below_then HB.out HB.out.size hb) [g])
  have HM1 := Aside0.mk (HM.out.below (below_then HB.out HB.out.size hb))
  have HK1 := Aside0.mk (HK.out.below hb)
  obtain ⟨bv, hbv⟩ : ∃ b, b = w.heap.size := ⟨_, rfl⟩
  rw [← hbv] at HK1 ⊢
  have u2 := HK1.out.cell 2
  clear hb HB HK hbv
  go_wp2
  clear u2
  go_loopw [23] (fun v23 wr => ∃ i : Nat, v23 = .int .i64 i ∧ i ≤ n ∧ Aside0 (Mr wr g c (sct xs o s ws i)) ∧ Aside0 (Fr w wr [g]) ∧ Aside0 (Bk wr bv 58 [.int .i64 (o : Int), .int .i64 (s : Int), .int .i64 (n : Int)])) (fun v23 _ => n - (intOf v23).toNat)
  case atStart => exact ⟨0, rfl, Nat.zero_le _, HM1, HF1, HK1⟩
  case round =>
    clear HM1 HF1 HK1
    obtain ⟨i, rfl, hi, HR, HF, HK⟩ := hrel
    by_cases h1 : i < n
    · have hia : (i : Int) < (n : Int) := by omega
      have ht := HV.out.lt i h1
      have hnl := HN.out
      obtain ⟨ad, q, hx⟩ := Kd.at_int (HS.out wr HF.out).r (i : Int) (by omega) (by omega)
      cases q
      simp only [Int.toNat_natCast] at hx
      rw [rdn] at hx
      obtain ⟨t, htt⟩ : ∃ t, t = o + i * s := ⟨_, rfl⟩
      rw [← htt] at ht
      have t0 : (0 : Int) ≤ (t : Int) := by omega
      have t1 : (t : Int) < (xs.length : Int) := by omega
      obtain ⟨⟨kA, kB⟩, kC, kD⟩ := view_num htt ht hL
      have HE : Aside0 (sct xs o s ws (i + 1) = (sct xs o s ws i).set t (ws.getD i 0)) := ⟨by rw [htt]; rfl⟩
      obtain ⟨is, his⟩ : ∃ x, x = i * s := ⟨_, rfl⟩
      rw [← his] at kA kB kC kD
      generalize ws.getD i 0 = x at *
      have u0 := HK.out.cell 0
      have u1 := HK.out.cell 1
      have u3 := HR.out.cell t (by rw [sct_len]; exact ht)
      have u4 := HR.out.frozen t
      clear htt ht his hnl
      go_wp2
      clear kA kB kC kD
      go_roundw
      case rel => exact ⟨i + 1, by go_num, by omega, ⟨by rw [HE.out]; exact HR.out.put t x⟩, ⟨HF.out.set g t _ (.inl (by simp))⟩, ⟨HK.out.far t _ (HR.out.ne HK.out (by decide))⟩⟩
      case measure => simp [intOf]; omega
    · obtain rfl : i = n := by omega
      have hia : decide ((i : Int) < (i : Int)) = false := decide_eq_false (by omega)
      go_wp2
      go_ret
      exact ⟨rfl, HR.out, HF.out⟩
theorem kernel_yes (x : Nat) (hx : x ≤ 20) (n : Nat) (hn : n = 2 ^ x) (w : World) (hT : TabOK w) :
    Calls Tryd.prog 102 #[.int .i64 (n : Int)] w fun e w' => ∃ p b g0 c0 g1 c1, e = .returned (.tuple #[.pointer (some ⟨p, 0, none⟩), .int .i64 0]) ∧ Ker w' p b g0 c0 g1 c1 x n ∧ Below w.heap.size w w' ∧ w.heap.size ≤ p ∧ w.heap.size ≤ b ∧ w.heap.size ≤ g0 ∧ w.heap.size ≤ g1 := by
  have hf := Aside0.mk (show root_Fits.f (n : Int) = some ((x : Int), true) by rw [hn]; exact fits_yes x (by omega))
  have d1 : decide (1048576 < (n : Int)) = false := decide_eq_false (by have := pow20 hx; omega)
  have HN := Aside0.mk hn
  have HT := Aside0.mk hT
  have HX := Aside0.mk hx
  clear hn hT
  go_enter Tryd.func102, Tryd.ntmps102
  go_wp2_with fail
  with_reducible refine (root_Fits.calls _ x true _ hf.out HT.out).mono ?_
  rintro e w1 ⟨rfl, hb⟩
  have HB1 := Aside0.mk hb.below
  clear hb
  go_wp2_with fail
  refine (new4_calls x HX.out _).mono ?_
  rintro e w2 ⟨p, b, g0, c0, g1, c1, rfl, hk, hb, l1, l2, l3, l4⟩
  rw [← HN.out] at hk
  have HK := Aside0.mk hk
  have HB2 := Aside0.mk (below_then HB1.out HB1.out.size hb)
  have HLs : Aside0 (w.heap.size ≤ p ∧ w.heap.size ≤ b ∧ w.heap.size ≤ g0 ∧ w.heap.size ≤ g1) := ⟨Nat.le_trans HB1.out.size l1, Nat.le_trans HB1.out.size l2, Nat.le_trans HB1.out.size l3, Nat.le_trans HB1.out.size l4⟩
  clear hk hb l1 l2 l3 l4
  go_wp2
  go_ret2
  exact ⟨p, b, g0, c0, g1, c1, rfl, HK.out, HB2.out, HLs.out⟩
def vrun (xs : List Int) (x : Nat) (d : Int) (o s n : Nat) : List Int := sct xs o s (tb n (tr x d (el (gat xs o s n)))) n
theorem vrun_len (xs : List Int) (x : Nat) (d : Int) (o s n : Nat) : (vrun xs x d o s n).length = xs.length := sct_len _ _ _ _ _
set_option maxHeartbeats 4000000 in
theorem vrun_calls (p b g0 c0 g1 c1 x n g c : Nat) (xs : List Int) (d : Int) (hd : d = 0 ∨ d = 1) (o s : Nat) (w : World) (hK : Ker w p b g0 c0 g1 c1 x n) (hM : Mr w g c xs) (hW : Ws xs) (hv : Vn o s n xs.length) (hL : xs.length ≤ 1048576) (n0 : g ≠ g0) (n1 : g ≠ g1) :
    Calls Tryd.prog 104 #[.pointer (some ⟨p, 0, none⟩), .slice (some ⟨g, 0, none⟩) xs.length c, .agg #[.int .i64 (o : Int), .int .i64 (s : Int), .int .i64 (n : Int)], .int .i64 d] w fun e w' => e = .returned (.int .i64 0) ∧ Mr w' g c (vrun xs x d o s n) ∧ Fr w w' [g] := by
  have HK := Aside0.mk hK
  have HM := Aside0.mk hM
  have HW := Aside0.mk hW
  have HV := Aside0.mk hv
  have HD := Aside0.mk hd
  have hgl : g < w.heap.size := hM.lt
  obtain ⟨q1, q2, q3, q4⟩ := hK.lts
  have HB := Aside0.mk (below_alloc (Below.refl w.heap.size w) (Obj.cells #[.int .i64 (o : Int), .int .i64 (s : Int), .int .i64 (n : Int)] 58))
  have HKv := Aside0.mk (Bk.new w 58 [.int .i64 (o : Int), .int .i64 (s : Int), .int .i64 (n : Int)])
  obtain ⟨bv, hbv⟩ : ∃ b, b = w.heap.size := ⟨_, rfl⟩
  clear hK hM hW hv hd
  go_enter Tryd.func104, Tryd.ntmps104
  go_wp2_with fail
  refine (gather_yes (some ⟨g, 0, none⟩) c xs o s n _ ((In.of_mr HM.out (by omega)).below HB.out) HV.out hL).mono ?_
  rintro e w1 ⟨gg, rfl, hr, hb, hg⟩
  rw [← hbv] at HKv ⊢
  have HB1 := Aside0.mk (below_then HB.out HB.out.size hb)
  have hgg : w.heap.size ≤ gg := by have := HB.out.size; omega
  have HR := Aside0.mk (show Mr w1 gg n (gat xs o s n) by have := Mr.of_rw hr; rw [gat_len] at this; exact this)
  have HKv1 := Aside0.mk (HKv.out.below hb)
  clear hr hb hg HKv hbv
  go_wp2_with fail
  refine (run_calls p b g0 c0 g1 c1 x n gg n (gat xs o s n) d HD.out _ (HK.out.below HB1.out) HR.out (gat_len _ _ _ _) (gat_ws HW.out _ _ _) (by omega) (by omega)).mono ?_
  rintro e w2 ⟨rfl, hm, hf⟩
  have HM2 := Aside0.mk hm
  have HF2 := Aside0.mk hf
  have HKv2 := Aside0.mk (HKv1.out.fr hf (by simpa using (HR.out.ne HKv1.out (by decide))))
  have HB2 := Aside0.mk (HB1.out.trans (hf.below (B := w.heap.size) HB1.out.size (fun k hk => by simp at hk; omega)))
  have u := HKv2.out.cell 0
  have u1 := HKv2.out.cell 1
  have u2 := HKv2.out.cell 2
  clear hm hf HKv1
  go_wp2_with fail
  refine (scatter_yes g c xs (some ⟨gg, 0, none⟩) n (tb n (tr x d (el (gat xs o s n)))) o s n _ (HM.out.below HB2.out) HV.out hL (tb_len _ _) (fun w' hf => In.of_mr (HM2.out.fr hf (by simp; omega)) (by rw [tb_len]; have := HV.out.hn; omega))).mono ?_
  rintro e w3 ⟨rfl, hm, hf⟩
  have HM3 := Aside0.mk hm
  have HF3 := Aside0.mk ((Fr.of_below HB2.out [g]).trans hf)
  clear hm hf u u1 u2
  go_wp2
  go_ret
  exact ⟨rfl, HM3.out, HF3.out⟩
end Go.Proofs.YtpnkcjnemoompaaDoor.Kern
end
section
namespace Go.Proofs.YtpnkcjnemoompaaDoor.Kern
open Go.RowKit Go.Proofs.YtpnkcjnemoompaaDoor Go.Proofs.YtpnkcjnemoompaaDoor.Ext Go.Proofs.YtpnkcjnemoompaaDoor.PPlan Go.Proofs.YtpnkcjnemoompaaDoor.PFft Go.Proofs.YtpnkcjnemoompaaDoor.Pure Go.Proofs.YtpnkcjnemoompaaDoor.Obj Go.Proofs.YtpnkcjnemoompaaDoor.Fft Go.Proofs.YtpnkcjnemoompaaDoorW.PrintWords Go.Proofs.YtpnkcjnemoompaaDoorW.PrintLast Go.Proofs.YtpnkcjnemoompaaDoorW.PrintMore
set_option linter.unusedVariables false
set_option linter.unusedSimpArgs false
set_option maxRecDepth 100000
theorem sct_ws {xs ws : List Int} (h : Ws xs) (hw : Ws ws) (o s : Nat) (i : Nat) : Ws (sct xs o s ws i) := by
  induction i with
  | zero => exact h
  | succ i ih =>
    intro j
    rw [sct]
    by_cases hl : o + i * s < (sct xs o s ws i).length
    · rw [getD_set _ _ _ _ hl]
      split
      · exact hw i
      · exact ih j
    · rw [List.set_eq_of_length_le (by omega)]
      exact ih j
theorem vrun_ws {xs : List Int} (h : Ws xs) (x : Nat) (d : Int) (o s n : Nat) : Ws (vrun xs x d o s n) := sct_ws h (tb_ws _ _) o s n
def vfold (xs : List Int) (x : Nat) (d : Int) (o s : Nat → Nat) (n : Nat) : Nat → List Int
  | 0 => xs
  | i + 1 => vrun (vfold xs x d o s n i) x d (o i) (s i) n
theorem vfold_len (xs : List Int) (x : Nat) (d : Int) (o s : Nat → Nat) (n i : Nat) : (vfold xs x d o s n i).length = xs.length := by
  induction i with
  | zero => rfl
  | succ i ih => rw [vfold, vrun_len, ih]
theorem vfold_ws {xs : List Int} (h : Ws xs) (x : Nat) (d : Int) (o s : Nat → Nat) (n i : Nat) : Ws (vfold xs x d o s n i) := by
  induction i with
  | zero => exact h
  | succ i ih => exact vrun_ws ih _ _ _ _ _
theorem rview_calls (i R C bs : Nat) (w : World) (h : Bk w bs 23 [.int .i64 (R : Int), .int .i64 (C : Int)]) (hm : i * C ≤ 9223372036854775807) :
    Calls Tryd.prog 85 #[.int .i64 (i : Int), .pointer (some ⟨bs, 0, none⟩)] w fun e w' => e = .returned (.agg #[.int .i64 ((i * C : Nat) : Int), .int .i64 1, .int .i64 (C : Int)]) ∧ Below w.heap.size w w' := by
  obtain ⟨z, hz⟩ : ∃ z, z = i * C := ⟨_, rfl⟩
  obtain ⟨kA, kB⟩ := wrapb (show (i : Int) * (C : Int) = (z : Int) by rw [hz, Int.natCast_mul]) (by omega)
  rw [← hz]
  have u1 := h.cell 1
  have hlt := h.lt
  have HZ := Aside0.mk (Bk.new w 58 [.int .i64 0, .int .i64 0, .int .i64 0])
  have HB := Aside0.mk (below_alloc (Below.refl w.heap.size w) (Obj.cells #[.int .i64 0, .int .i64 0, .int .i64 0] 58))
  clear h hz hm
  go_enter Tryd.func85, Tryd.ntmps85
  go_wp2
  refine bodyPost_ret (results_cell_row rfl _ _ w.heap.size 58 #[.int .i64 (z : Int), .int .i64 1, .int .i64 (C : Int)] (0, 0) _ rfl ?_ Tryd.underlying58 rfl (by kernel_rfl)) rfl ⟨rfl, ?_⟩
  · first | exact Bk.new w 58 [_, _, _] | exact ((HZ.out.put 0 _).put 1 _).put 2 _
  · first | exact below_alloc (Below.refl _ _) _ | exact below_set (below_set (below_set HB.out (Nat.le_refl _)) (Nat.le_refl _)) (Nat.le_refl _)
theorem cview_calls (i R C bs : Nat) (w : World) (h : Bk w bs 23 [.int .i64 (R : Int), .int .i64 (C : Int)]) :
    Calls Tryd.prog 86 #[.int .i64 (i : Int), .pointer (some ⟨bs, 0, none⟩)] w fun e w' => e = .returned (.agg #[.int .i64 (i : Int), .int .i64 (C : Int), .int .i64 (R : Int)]) ∧ Below w.heap.size w w' := by
  have u0 := h.cell 0
  have u1 := h.cell 1
  have hlt := h.lt
  have HZ := Aside0.mk (Bk.new w 58 [.int .i64 0, .int .i64 0, .int .i64 0])
  have HB := Aside0.mk (below_alloc (Below.refl w.heap.size w) (Obj.cells #[.int .i64 0, .int .i64 0, .int .i64 0] 58))
  clear h
  go_enter Tryd.func86, Tryd.ntmps86
  go_wp2
  refine bodyPost_ret (results_cell_row rfl _ _ w.heap.size 58 #[.int .i64 (i : Int), .int .i64 (C : Int), .int .i64 (R : Int)] (0, 0) _ rfl ?_ Tryd.underlying58 rfl (by kernel_rfl)) rfl ⟨rfl, ?_⟩
  · first | exact Bk.new w 58 [_, _, _] | exact ((HZ.out.put 0 _).put 1 _).put 2 _
  · first | exact below_alloc (Below.refl _ _) _ | exact below_set (below_set (below_set HB.out (Nat.le_refl _)) (Nat.le_refl _)) (Nat.le_refl _)
set_option maxHeartbeats 8000000 in
theorem allR (R C x g c bs : Nat) (xs : List Int) (d : Int) (hd : d = 0 ∨ d = 1) (hx : x ≤ 20) (hn : C = 2 ^ x) (hC0 : 1 ≤ C) (hl : R * C = xs.length) (hL : xs.length ≤ 1048576) (hW : Ws xs) (w : World) (hM : Mr w g c xs) (hS : Bk w bs 23 [.int .i64 (R : Int), .int .i64 (C : Int)]) (hT : TabOK w) :
    Calls Tryd.prog 84 #[.slice (some ⟨g, 0, none⟩) xs.length c, .int .i64 d, .int .i64 (C : Int), .int .i64 (R : Int), .func (.func 85) #[] #[.pointer (some ⟨bs, 0, none⟩)]] w fun e w' => e = .returned (.int .i64 0) ∧ Mr w' g c (vfold xs x d (fun i => i * C) (fun _ => 1) C R) ∧ Fr w w' [g] := by
  have hvn : ∀ i, i < R → Vn ((fun i => i * C) i) ((fun _ => 1) i) C xs.length := by
    intro i hi
    refine ⟨by have := pow20 hx; omega, Nat.le_refl _, fun j hj => ?_⟩
    have : (i + 1) * C ≤ R * C := Nat.mul_le_mul_right _ hi
    rw [Nat.add_mul, Nat.one_mul] at this
    show i * C + j * 1 < _
    omega
  have HV := Aside0.mk hvn
  have HM := Aside0.mk hM
  have HW := Aside0.mk hW
  have HSb0 := Aside0.mk hS
  have HT := Aside0.mk hT
  have HD := Aside0.mk hd
  have HRC := Aside0.mk (show R * C ≤ 1048576 by omega)
  have hgl : g < w.heap.size := hM.lt
  have hsb : bs ≠ g := hM.ne hS (by decide)
  have HX := Aside0.mk hx
  have HN := Aside0.mk hn
  clear hvn hM hW hS hT hd hl hx hn
  go_enter Tryd.func84, Tryd.ntmps84
  go_wp2_with fail
  refine (kernel_yes x HX.out C HN.out _ HT.out).mono ?_
  rintro e w1 ⟨p, b, g0, c0, g1, c1, rfl, hk, hb, l1, l2, l3, l4⟩
  have HK := Aside0.mk hk
  have HF := Aside0.mk (Fr.of_below hb [g])
  have HM1 := Aside0.mk (show Mr w1 g c (vfold xs x d (fun i => i * C) (fun _ => 1) C 0) from HM.out.below hb)
  have HSb := Aside0.mk (HSb0.out.below hb)
  have n0 : g ≠ g0 := by omega
  have n1 : g ≠ g1 := by omega
  clear hk hb l1 l2 l3 l4 HM HSb0
  go_wp2
  go_loopw [12, 13] (fun v12 v13 wr => ∃ i : Nat, v12 = .int .i64 0 ∧ v13 = .int .i64 i ∧ i ≤ R ∧ Aside0 (Mr wr g c (vfold xs x d (fun i => i * C) (fun _ => 1) C i)) ∧ Aside0 (Fr w wr [g]) ∧ Aside0 (Ker wr p b g0 c0 g1 c1 x C) ∧ Aside0 (Bk wr bs 23 [.int .i64 (R : Int), .int .i64 (C : Int)])) (fun _ v13 _ => R - (intOf v13).toNat)
  case atStart => exact ⟨0, rfl, rfl, Nat.zero_le _, HM1, HF, HK, HSb⟩
  case round =>
    clear HM1 HF HK HSb
    obtain ⟨i, rfl, rfl, hi, HM, HF, HK, HSb⟩ := hrel
    have hib : R ≤ 1048576 := by
      have h1 := HRC.out
      have : R ≤ R * C := Nat.le_mul_of_pos_right _ hC0
      omega
    by_cases h1 : i < R
    · have hia : (i : Int) < (R : Int) := by omega
      go_wp2_with fail
      refine (rview_calls i R C bs _ HSb.out (by have := HRC.out; have : i * C ≤ R * C := Nat.mul_le_mul_right _ (by omega); omega)).mono ?_
      rintro e w2 ⟨rfl, hb⟩
      have HM2 := Aside0.mk (HM.out.below hb)
      have HF2 := Aside0.mk (HF.out.trans (Fr.of_below hb [g]))
      have HK2 := Aside0.mk (HK.out.below hb)
      have HSb2 := Aside0.mk (HSb.out.below hb)
      clear hb HM HF HK HSb
      go_wp2_with fail
      have hr := vrun_calls p b g0 c0 g1 c1 x C g c (vfold xs x d (fun i => i * C) (fun _ => 1) C i) d HD.out ((fun i => i * C) i) ((fun _ => 1) i) _ HK2.out HM2.out (vfold_ws HW.out _ _ _ _ _ _) (by rw [vfold_len]; exact HV.out i h1) (by rw [vfold_len]; exact hL) n0 n1
      rw [vfold_len] at hr
      refine hr.mono ?_
      clear hr
      rintro e w3 ⟨rfl, hm, hf⟩
      have HM3 := Aside0.mk (show Mr w3 g c (vfold xs x d (fun i => i * C) (fun _ => 1) C (i + 1)) from hm)
      have HF3 := Aside0.mk (HF2.out.trans hf)
      have HK3 := Aside0.mk (HK2.out.keep HM2.out n0 n1 hf)
      have HSb3 := Aside0.mk (HSb2.out.fr hf (by simpa using hsb))
      clear hm hf HM2 HF2 HK2 HSb2
      go_wp2
      go_roundw
      case rel => exact ⟨i + 1, rfl, by go_num, by omega, HM3, HF3, HK3, HSb3⟩
      case measure => simp [intOf]; omega
    · obtain rfl : i = R := by omega
      have hia : decide ((i : Int) < (i : Int)) = false := decide_eq_false (by omega)
      go_wp2
      go_ret
      exact ⟨rfl, HM.out, HF.out⟩
set_option maxHeartbeats 8000000 in
theorem allC (R C x g c bs : Nat) (xs : List Int) (d : Int) (hd : d = 0 ∨ d = 1) (hx : x ≤ 20) (hn : R = 2 ^ x) (hC0 : 1 ≤ C) (hl : R * C = xs.length) (hL : xs.length ≤ 1048576) (hW : Ws xs) (w : World) (hM : Mr w g c xs) (hS : Bk w bs 23 [.int .i64 (R : Int), .int .i64 (C : Int)]) (hT : TabOK w) :
    Calls Tryd.prog 84 #[.slice (some ⟨g, 0, none⟩) xs.length c, .int .i64 d, .int .i64 (R : Int), .int .i64 (C : Int), .func (.func 86) #[] #[.pointer (some ⟨bs, 0, none⟩)]] w fun e w' => e = .returned (.int .i64 0) ∧ Mr w' g c (vfold xs x d (fun i => i) (fun _ => C) R C) ∧ Fr w w' [g] := by
  have hvn : ∀ i, i < C → Vn ((fun i => i) i) ((fun _ => C) i) R xs.length := by
    intro i hi
    refine ⟨by have := pow20 hx; omega, hC0, fun j hj => ?_⟩
    have : (j + 1) * C ≤ R * C := Nat.mul_le_mul_right _ hj
    rw [Nat.add_mul, Nat.one_mul] at this
    show i + j * C < _
    omega
  have HV := Aside0.mk hvn
  have HM := Aside0.mk hM
  have HW := Aside0.mk hW
  have HSb0 := Aside0.mk hS
  have HT := Aside0.mk hT
  have HD := Aside0.mk hd
  have HRC := Aside0.mk (show R * C ≤ 1048576 by omega)
  have hgl : g < w.heap.size := hM.lt
  have hsb : bs ≠ g := hM.ne hS (by decide)
  have HX := Aside0.mk hx
  have HN := Aside0.mk hn
  clear hvn hM hW hS hT hd hl hx hn
  go_enter Tryd.func84, Tryd.ntmps84
  go_wp2_with fail
  refine (kernel_yes x HX.out R HN.out _ HT.out).mono ?_
  rintro e w1 ⟨p, b, g0, c0, g1, c1, rfl, hk, hb, l1, l2, l3, l4⟩
  have HK := Aside0.mk hk
  have HF := Aside0.mk (Fr.of_below hb [g])
  have HM1 := Aside0.mk (show Mr w1 g c (vfold xs x d (fun i => i) (fun _ => C) R 0) from HM.out.below hb)
  have HSb := Aside0.mk (HSb0.out.below hb)
  have n0 : g ≠ g0 := by omega
  have n1 : g ≠ g1 := by omega
  clear hk hb l1 l2 l3 l4 HM HSb0
  go_wp2
  go_loopw [12, 13] (fun v12 v13 wr => ∃ i : Nat, v12 = .int .i64 0 ∧ v13 = .int .i64 i ∧ i ≤ C ∧ Aside0 (Mr wr g c (vfold xs x d (fun i => i) (fun _ => C) R i)) ∧ Aside0 (Fr w wr [g]) ∧ Aside0 (Ker wr p b g0 c0 g1 c1 x R) ∧ Aside0 (Bk wr bs 23 [.int .i64 (R : Int), .int .i64 (C : Int)])) (fun _ v13 _ => C - (intOf v13).toNat)
  case atStart => exact ⟨0, rfl, rfl, Nat.zero_le _, HM1, HF, HK, HSb⟩
  case round =>
    clear HM1 HF HK HSb
    obtain ⟨i, rfl, rfl, hi, HM, HF, HK, HSb⟩ := hrel
    have hib : C ≤ 1048576 := by
      have h1 := HRC.out
      have : C ≤ R * C := Nat.le_mul_of_pos_left _ (by have := HN.out; have := Nat.two_pow_pos x; omega)
      omega
    by_cases h1 : i < C
    · have hia : (i : Int) < (C : Int) := by omega
      go_wp2_with fail
      refine (cview_calls i R C bs _ HSb.out).mono ?_
      rintro e w2 ⟨rfl, hb⟩
      have HM2 := Aside0.mk (HM.out.below hb)
      have HF2 := Aside0.mk (HF.out.trans (Fr.of_below hb [g]))
      have HK2 := Aside0.mk (HK.out.below hb)
      have HSb2 := Aside0.mk (HSb.out.below hb)
      clear hb HM HF HK HSb
      go_wp2_with fail
      have hr := vrun_calls p b g0 c0 g1 c1 x R g c (vfold xs x d (fun i => i) (fun _ => C) R i) d HD.out ((fun i => i) i) ((fun _ => C) i) _ HK2.out HM2.out (vfold_ws HW.out _ _ _ _ _ _) (by rw [vfold_len]; exact HV.out i h1) (by rw [vfold_len]; exact hL) n0 n1
      rw [vfold_len] at hr
      refine hr.mono ?_
      clear hr
      rintro e w3 ⟨rfl, hm, hf⟩
      have HM3 := Aside0.mk (show Mr w3 g c (vfold xs x d (fun i => i) (fun _ => C) R (i + 1)) from hm)
      have HF3 := Aside0.mk (HF2.out.trans hf)
      have HK3 := Aside0.mk (HK2.out.keep HM2.out n0 n1 hf)
      have HSb3 := Aside0.mk (HSb2.out.fr hf (by simpa using hsb))
      clear hm hf HM2 HF2 HK2 HSb2
      go_wp2
      go_roundw
      case rel => exact ⟨i + 1, rfl, by go_num, by omega, HM3, HF3, HK3, HSb3⟩
      case measure => simp [intOf]; omega
    · obtain rfl : i = C := by omega
      have hia : decide ((i : Int) < (i : Int)) = false := decide_eq_false (by omega)
      go_wp2
      go_ret
      exact ⟨rfl, HM.out, HF.out⟩
end Go.Proofs.YtpnkcjnemoompaaDoor.Kern
end
section
set_option linter.unusedVariables false
set_option linter.unusedSimpArgs false
namespace Go.Proofs.YtpnkcjnemoompaaDoor.Pure
open Go.RowKit Go.Proofs.YtpnkcjnemoompaaDoor Go.Proofs.YtpnkcjnemoompaaDoor.PPlan Go.Proofs.YtpnkcjnemoompaaDoor.PFft Go.Proofs.YtpnkcjnemoompaaDoor.Ext Go.Proofs.YtpnkcjnemoompaaDoorW.PrintWords Go.Proofs.YtpnkcjnemoompaaDoorW.PrintLast Go.Proofs.YtpnkcjnemoompaaDoorW.PrintMore
def GoodS (r c : Int) : Prop := ∃ a b, a + b ≤ 32 ∧ Pw r a ∧ Pw c b
theorem good_yes (r c : Int) (h : GoodS r c) : shape_Good.f r c = some true := by
  obtain ⟨a, b, h1, h2, h3⟩ := h
  unfold shape_Good.f
  rw [h2.2, h3.2, fits_yes a h2.1, fits_yes b h3.1]
  simp only [Option.bind_some, if_true]
  rw [wrap_i _ (by omega) (by omega), decide_eq_true (by omega)]
theorem good_no (r c : Int) (h : ¬ GoodS r c) : shape_Good.f r c = some false := by
  unfold shape_Good.f
  rcases pw_cases r with ⟨a, ha⟩ | ha
  · rcases pw_cases c with ⟨b, hb⟩ | hb
    · have hab : ¬ a + b ≤ 32 := fun hle => h ⟨a, b, hle, ha, hb⟩
      have h1 := ha.1
      have h2 := hb.1
      rw [ha.2, hb.2, fits_yes a ha.1, fits_yes b hb.1]
      simp only [Option.bind_some, if_true]
      rw [wrap_i _ (by omega) (by omega), decide_eq_false (by omega)]
    · rw [fits_no c hb, ha.2, fits_yes a ha.1]
      simp only [Option.bind_some, if_true, Bool.false_eq_true, if_false]
  · rw [fits_no r ha]
    rcases pw_cases c with ⟨b, hb⟩ | hb
    · rw [hb.2, fits_yes b hb.1]; simp only [Option.bind_some, Bool.false_eq_true, if_false]
    · rw [fits_no c hb]; simp only [Option.bind_some, Bool.false_eq_true, if_false]
theorem rgood_yes (r c : Int) (h : GoodS r c) : Ev (fun k => abacistref06_Good.f k r c) true := by
  obtain ⟨a, b, h1, h2, h3⟩ := h
  refine Ev.bind (rfits_yes r a h2) (Ev.bind (rfits_yes c b h3) (Ev_if (by omega) (Ev_if (by omega) (Ev_eq ?_))))
  rw [wrap_i _ (by omega) (by omega), decide_eq_true (by omega)]
theorem rgood_no (r c : Int) (h : ¬ GoodS r c) : Ev (fun k => abacistref06_Good.f k r c) false := by
  rcases pw_cases r with ⟨a, ha⟩ | ha
  · rcases pw_cases c with ⟨b, hb⟩ | hb
    · have hab : ¬ a + b ≤ 32 := fun hle => h ⟨a, b, hle, ha, hb⟩
      have h1 := ha.1
      have h2 := hb.1
      refine Ev.bind (rfits_yes r a ha) (Ev.bind (rfits_yes c b hb) (Ev_if (by omega) (Ev_if (by omega) (Ev_eq ?_))))
      rw [wrap_i _ (by omega) (by omega), decide_eq_false (by omega)]
    · exact Ev.bind (rfits_yes r a ha) (Ev.bind (rfits_no c hb) (Ev_if (by omega) (Ev_ifn (by omega) (Ev.now _))))
  · rcases pw_cases c with ⟨b, hb⟩ | hb
    · exact Ev.bind (rfits_no r ha) (Ev.bind (rfits_yes c b hb) (Ev_ifn (by omega) (Ev.now _)))
    · exact Ev.bind (rfits_no r ha) (Ev.bind (rfits_no c hb) (Ev_ifn (by omega) (Ev.now _)))
theorem good_ints {R C : Int} (h : GoodS R C) : ∃ a b : Nat, a + b ≤ 32 ∧ R = ((2 ^ a : Nat) : Int) ∧ C = ((2 ^ b : Nat) : Int) := by
  obtain ⟨a, b, hab, ha, hb⟩ := h
  exact ⟨a, b, hab, ha.2, hb.2⟩
theorem size_is (R C : Int) (h : GoodS R C) : shape_Size.f R C = some (R * C) := by
  obtain ⟨a, b, hab, rfl, rfl⟩ := good_ints h
  unfold shape_Size.f
  rw [good_yes _ _ h, Option.bind_some, if_pos rfl, ← Int.natCast_mul, ← Nat.pow_add]
  have := pow32 hab
  rw [wrap_i _ (by generalize 2 ^ (a + b) = y at *; omega) (by generalize 2 ^ (a + b) = y at *; omega)]
theorem direct_is (d : Int) : rows_direction.f d = some (decide (d = 0 ∨ d = 1)) := by
  unfold rows_direction.f
  by_cases h : d = 0
  · rw [if_pos h, decide_eq_true (.inl h)]
  · rw [if_neg h]
    by_cases h1 : d = 1
    · rw [decide_eq_true (.inr h1), h1]; rfl
    · rw [decide_eq_false (by omega)]
      congr 1
      exact beq_eq_false_iff_ne.2 h1
theorem check_j (d : Int) : Ev (fun k => rows_check.j0 k d false) (if d = 0 ∨ d = 1 then 0 else 18) := by
  refine Ev.step (f := fun _ => some (if d = 0 ∨ d = 1 then (0 : Int) else 18)) (fun k => ?_) (Ev.now _)
  simp only [rows_check.j0]
  rw [if_neg (by decide), direct_is, Option.bind_some]
  by_cases h : d = 0 ∨ d = 1
  · rw [decide_eq_true h, if_pos rfl, if_pos h]
  · rw [decide_eq_false h, if_neg (by decide), if_neg h]
theorem check_t (d : Int) : Ev (fun k => rows_check.j0 k d true) 19 := by
  refine Ev.step (f := fun _ => some (19 : Int)) (fun k => ?_) (Ev.now _)
  simp only [rows_check.j0]
  rw [if_pos trivial]
noncomputable def ckw (l : List Int) (R C d : Int) : Int := open Classical in if GoodS R C ∧ R * C = (l.length : Int) then (if d = 0 ∨ d = 1 then 0 else 18) else 19
theorem check_is (l : List Int) (R C d : Int) : Ev (fun k => rows_check.f k l R C d) (ckw l R C d) := by
  unfold rows_check.f ckw
  by_cases h : GoodS R C
  · refine Ev.bind (Ev_eq (good_yes R C h)) (Ev_if rfl (Ev.bind (Ev_eq (size_is R C h)) ?_))
    by_cases h2 : R * C = (l.length : Int)
    · rw [if_pos ⟨h, h2⟩, show ((l.length : Int) != R * C) = false by rw [bne_eq_false_iff_eq]; omega]
      exact check_j d
    · rw [if_neg (fun q => h2 q.2), show ((l.length : Int) != R * C) = true by rw [bne_iff_ne]; omega]
      exact check_t d
  · rw [if_neg (fun q => h q.1)]
    exact Ev.bind (Ev_eq (good_no R C h)) (Ev_ifn (by decide) (check_t d))
end Go.Proofs.YtpnkcjnemoompaaDoor.Pure
end
section
namespace Go.Proofs.YtpnkcjnemoompaaDoor.Kern
open Go.RowKit Go.Proofs.YtpnkcjnemoompaaDoor Go.Proofs.YtpnkcjnemoompaaDoor.Ext Go.Proofs.YtpnkcjnemoompaaDoor.PPlan Go.Proofs.YtpnkcjnemoompaaDoor.PFft Go.Proofs.YtpnkcjnemoompaaDoor.Pure Go.Proofs.YtpnkcjnemoompaaDoor.Obj Go.Proofs.YtpnkcjnemoompaaDoor.Fft Go.Proofs.YtpnkcjnemoompaaDoorW.PrintWords Go.Proofs.YtpnkcjnemoompaaDoorW.PrintLast Go.Proofs.YtpnkcjnemoompaaDoorW.PrintMore
set_option linter.unusedVariables false
set_option linter.unusedSimpArgs false
set_option maxRecDepth 100000
theorem rows_yes (R C a b g c : Nat) (xs : List Int) (d : Int) (hd : d = 0 ∨ d = 1) (ha : R = 2 ^ a) (hb : C = 2 ^ b) (hab : a + b ≤ 20) (hl : R * C = xs.length) (hW : Ws xs) (w : World) (hM : Mr w g c xs) (hT : TabOK w) :
    Calls Tryd.prog 41 #[.slice (some ⟨g, 0, none⟩) xs.length c, .agg #[.int .i64 (R : Int), .int .i64 (C : Int)], .int .i64 d] w fun e w' => e = .returned (.int .i64 0) ∧ Mr w' g c (vfold xs b d (fun i => i * C) (fun _ => 1) C R) ∧ Fr w w' [g] := by
  have hG : GoodS R C := ⟨a, b, by omega, ⟨by omega, by rw [ha]⟩, ⟨by omega, by rw [hb]⟩⟩
  have hL : xs.length ≤ 1048576 := by rw [← hl, ha, hb, ← Nat.pow_add]; exact pow20 hab
  have hC1 : 1 ≤ C := by rw [hb]; exact Nat.two_pow_pos b
  obtain ⟨k, hk⟩ := (check_is xs R C d).rounds
  have h0 : ckw xs R C d = 0 := by
    unfold ckw
    rw [if_pos ⟨hG, by rw [← Int.natCast_mul, hl]⟩, if_pos hd]
  rw [h0] at hk
  have HK := Aside0.mk hk
  have HD := Aside0.mk hd
  have HB := Aside0.mk (below_alloc (Below.refl w.heap.size w) (Obj.cells #[.int .i64 (R : Int), .int .i64 (C : Int)] 23))
  have HS := Aside0.mk (Bk.new w 23 [.int .i64 (R : Int), .int .i64 (C : Int)])
  have HM := Aside0.mk (hM.below HB.out)
  have HT := Aside0.mk (hT.below HB.out)
  have HW := Aside0.mk hW
  have HA := Aside0.mk ha
  have HBb := Aside0.mk hb
  have HLn := Aside0.mk hl
  obtain ⟨bs, hbs⟩ : ∃ z, z = w.heap.size := ⟨_, rfl⟩
  clear hk h0 hG hM hT hW hd ha hb hl
  go_enter Tryd.func41, Tryd.ntmps41
  go_wp2_with fail
  refine (rows_check.calls k (some ⟨g, 0, none⟩) c xs R C d 0 _ (In.of_mr HM.out (by omega)).r (In.of_mr HM.out (by omega)).c HK.out HT.out).mono ?_
  rintro e w1 ⟨rfl, hb⟩
  rw [← hbs] at HS ⊢
  have HB1 := Aside0.mk (below_then HB.out HB.out.size hb)
  have HM1 := Aside0.mk (HM.out.below hb)
  have HS1 := Aside0.mk (HS.out.below hb)
  have HT1 := Aside0.mk (HT.out.below hb)
  have u0 := HS1.out.cell 0
  have u1 := HS1.out.cell 1
  clear hb HM HS HT hbs
  go_wp2_with fail
  clear u0 u1
  refine (allR R C b g c bs xs d HD.out (by omega) HBb.out hC1 HLn.out hL HW.out _ HM1.out HS1.out HT1.out).mono ?_
  rintro e w2 ⟨rfl, hm, hf⟩
  have HM2 := Aside0.mk hm
  have HF2 := Aside0.mk ((Fr.of_below HB1.out [g]).trans hf)
  clear hm hf
  go_wp2
  go_ret
  exact ⟨rfl, HM2.out, HF2.out⟩
theorem cols_yes (R C a b g c : Nat) (xs : List Int) (d : Int) (hd : d = 0 ∨ d = 1) (ha : R = 2 ^ a) (hb : C = 2 ^ b) (hab : a + b ≤ 20) (hl : R * C = xs.length) (hW : Ws xs) (w : World) (hM : Mr w g c xs) (hT : TabOK w) :
    Calls Tryd.prog 42 #[.slice (some ⟨g, 0, none⟩) xs.length c, .agg #[.int .i64 (R : Int), .int .i64 (C : Int)], .int .i64 d] w fun e w' => e = .returned (.int .i64 0) ∧ Mr w' g c (vfold xs a d (fun i => i) (fun _ => C) R C) ∧ Fr w w' [g] := by
  have hG : GoodS R C := ⟨a, b, by omega, ⟨by omega, by rw [ha]⟩, ⟨by omega, by rw [hb]⟩⟩
  have hL : xs.length ≤ 1048576 := by rw [← hl, ha, hb, ← Nat.pow_add]; exact pow20 hab
  have hC1 : 1 ≤ C := by rw [hb]; exact Nat.two_pow_pos b
  obtain ⟨k, hk⟩ := (check_is xs R C d).rounds
  have h0 : ckw xs R C d = 0 := by
    unfold ckw
    rw [if_pos ⟨hG, by rw [← Int.natCast_mul, hl]⟩, if_pos hd]
  rw [h0] at hk
  have HK := Aside0.mk hk
  have HD := Aside0.mk hd
  have HB := Aside0.mk (below_alloc (Below.refl w.heap.size w) (Obj.cells #[.int .i64 (R : Int), .int .i64 (C : Int)] 23))
  have HS := Aside0.mk (Bk.new w 23 [.int .i64 (R : Int), .int .i64 (C : Int)])
  have HM := Aside0.mk (hM.below HB.out)
  have HT := Aside0.mk (hT.below HB.out)
  have HW := Aside0.mk hW
  have HA := Aside0.mk ha
  have HBb := Aside0.mk hb
  have HLn := Aside0.mk hl
  obtain ⟨bs, hbs⟩ : ∃ z, z = w.heap.size := ⟨_, rfl⟩
  clear hk h0 hG hM hT hW hd ha hb hl
  go_enter Tryd.func42, Tryd.ntmps42
  go_wp2_with fail
  refine (rows_check.calls k (some ⟨g, 0, none⟩) c xs R C d 0 _ (In.of_mr HM.out (by omega)).r (In.of_mr HM.out (by omega)).c HK.out HT.out).mono ?_
  rintro e w1 ⟨rfl, hb⟩
  rw [← hbs] at HS ⊢
  have HB1 := Aside0.mk (below_then HB.out HB.out.size hb)
  have HM1 := Aside0.mk (HM.out.below hb)
  have HS1 := Aside0.mk (HS.out.below hb)
  have HT1 := Aside0.mk (HT.out.below hb)
  have u0 := HS1.out.cell 0
  have u1 := HS1.out.cell 1
  clear hb HM HS HT hbs
  go_wp2_with fail
  clear u0 u1
  refine (allC R C a g c bs xs d HD.out (by omega) HA.out hC1 HLn.out hL HW.out _ HM1.out HS1.out HT1.out).mono ?_
  rintro e w2 ⟨rfl, hm, hf⟩
  have HM2 := Aside0.mk hm
  have HF2 := Aside0.mk ((Fr.of_below HB1.out [g]).trans hf)
  clear hm hf
  go_wp2
  go_ret
  exact ⟨rfl, HM2.out, HF2.out⟩
end Go.Proofs.YtpnkcjnemoompaaDoor.Kern
end
section
set_option linter.unusedVariables false
set_option linter.unusedSimpArgs false
namespace Go.Proofs.YtpnkcjnemoompaaDoor.Fft
open Go.RowKit Go.Proofs.YtpnkcjnemoompaaDoor Go.Proofs.YtpnkcjnemoompaaDoor.Pure Go.Proofs.YtpnkcjnemoompaaDoor.PPlan Go.Proofs.YtpnkcjnemoompaaDoor.PFft Go.Proofs.YtpnkcjnemoompaaDoor.Ext Go.Proofs.YtpnkcjnemoompaaDoorW.PrintWords Go.Proofs.YtpnkcjnemoompaaDoorW.PrintLast Go.Proofs.YtpnkcjnemoompaaDoorW.PrintMore
theorem mulc (a b : Nat) (h : a * b ≤ 9223372036854775807) : wrap64 ((a : Int) * (b : Int)) = ((a * b : Nat) : Int) := by
  rw [← Int.natCast_mul, wrap_i _ (by omega) (by omega)]
theorem part_len (l : List Int) (C r : Nat) (h : (r + 1) * C ≤ l.length) : ((l.take ((r + 1) * C)).drop (r * C)).length = C := by
  rw [List.length_drop, List.length_take, Nat.min_eq_left h, Nat.add_mul, Nat.one_mul]; omega
theorem part_get (l : List Int) (C r j : Nat) (h : j < C) : ((l.take ((r + 1) * C)).drop (r * C)).getD j 0 = l.getD (r * C + j) 0 := by
  rw [List.getD_eq_getElem?_getD, List.getD_eq_getElem?_getD, List.getElem?_drop, List.getElem?_take, if_pos (by rw [Nat.add_mul, Nat.one_mul]; omega)]
def tw (l : List Int) (w : F) (C t : Nat) : F := el l t * pw w ((t / C) * (t % C))
theorem tw_at (l : List Int) (w : F) (C r j : Nat) (h : j < C) : tw l w C (r * C + j) = el l (r * C + j) * pw w (r * j) := by
  unfold tw
  rw [Nat.mul_comm r C, Nat.mul_add_div (by omega), Nat.div_eq_of_lt h, Nat.mul_add_mod, Nat.mod_eq_of_lt h, Nat.add_zero]
theorem gTile_l1 (l : List Int) (hl : Ws l) (w : F) (R C r : Nat) (hr : r < R) (hR : R ≤ 1048576) (hRC : R * C = l.length) (hL : l.length ≤ 1048576) (res : List Int × Int) (m : Nat) : ∀ j, j + m = C →
    Ev (fun k => twid_Tile.l0 k l (fv w) (tb ((r + 1) * C) (tw l w C)) (R : Int) ((r + 1 : Nat) : Int) (R : Int) (C : Int) 0 0) res →
    Ev (fun k => twid_Tile.l1 k l (fv w) (tb (r * C + j) (tw l w C)) (fv (pw w r)) (fv (pw w (r * j))) (R : Int) (r : Int) ((l.take ((r + 1) * C)).drop (r * C)) (C : Int) (j : Int) (R : Int) (C : Int) 0 0) res := by
  have hle : (r + 1) * C ≤ l.length := by rw [← hRC]; exact Nat.mul_le_mul_right _ hr
  induction m with
  | zero =>
    intro j hj hres
    obtain rfl : j = C := by omega
    refine Ev.step (fun k => ?_) hres
    simp only [twid_Tile.l1]
    rw [if_neg (by omega), wsucc r (by omega), Nat.add_mul, Nat.one_mul]
  | succ m ih =>
    intro j hj hres
    have hjb : r * C + j < l.length := by rw [Nat.add_mul, Nat.one_mul] at hle; omega
    refine Ev.step (f := fun k => twid_Tile.l1 k l (fv w) (tb (r * C + (j + 1)) (tw l w C)) (fv (pw w r)) (fv (pw w (r * (j + 1)))) (R : Int) (r : Int) ((l.take ((r + 1) * C)).drop (r * C)) (C : Int) ((j + 1 : Nat) : Int) (R : Int) (C : Int) 0 0) (fun k => ?_) (ih (j + 1) (by omega) hres)
    simp only [twid_Tile.l1]
    rw [if_pos (by omega), if_pos (by omega), if_pos (by rw [part_len l C r hle]; omega), rdn, part_get l C r j (by omega), gMul _ _ (hl _) (fv_w _), Option.bind_some, if_pos (by rw [tb_len]; omega), gMulF, Option.bind_some, fo_fv, wsucc j (by omega), ← pw_add, ← Nat.mul_succ, ← Nat.add_assoc, tb_succ, tw_at l w C r j (by omega)]
    rfl
theorem gTile_l0 (l : List Int) (hl : Ws l) (w : F) (R C : Nat) (hR : R ≤ 1048576) (hRC : R * C = l.length) (hL : l.length ≤ 1048576) (m : Nat) : ∀ r, r + m = R →
    Ev (fun k => twid_Tile.l0 k l (fv w) (tb (r * C) (tw l w C)) (R : Int) (r : Int) (R : Int) (C : Int) 0 0) (tb (R * C) (tw l w C), 0) := by
  induction m with
  | zero =>
    intro r hr
    obtain rfl : r = R := by omega
    refine Ev.step (f := fun _ => some _) (fun k => ?_) (Ev.now _)
    simp only [twid_Tile.l0]
    rw [if_neg (by omega)]
  | succ m ih =>
    intro r hr
    have hle : (r + 1) * C ≤ l.length := by rw [← hRC]; exact Nat.mul_le_mul_right _ (by omega)
    have hle2 : r * C ≤ (r + 1) * C := Nat.mul_le_mul_right _ (by omega)
    have e1 : wrap64 ((r : Int) * (C : Int)) = ((r * C : Nat) : Int) := mulc r C (by omega)
    have e2 : wrap64 ((wrap64 ((r : Int) + 1)) * (C : Int)) = (((r + 1) * C : Nat) : Int) := by rw [wsucc r (by omega)]; exact mulc (r + 1) C (by omega)
    have e3 : IntKind.u64.wrap (wrap64 (0 + (r : Int))) = (r : Int) := by rw [Int.zero_add, wrap_i _ (by omega) (by omega), wrap_u _ (by omega) (by omega)]
    have e4 : IntKind.u64.wrap 0 = 0 := rfl
    have c1 : (0 : Int) ≤ ((r * C : Nat) : Int) := by omega
    have c2 : ((r * C : Nat) : Int) ≤ (((r + 1) * C : Nat) : Int) := by omega
    have c3 : (((r + 1) * C : Nat) : Int) ≤ (l.length : Int) := by omega
    refine Ev.step (f := fun k => (gold_Pow.f k (fv w) (r : Int)).bind fun t128 => (gold_Pow.f k t128 0).bind fun t129 => twid_Tile.l1 k l (fv w) (tb (r * C) (tw l w C)) t128 t129 (R : Int) (r : Int) ((l.take ((r + 1) * C)).drop (r * C)) (C : Int) 0 (R : Int) (C : Int) 0 0) (fun k => ?_) ?_
    · simp only [twid_Tile.l0]
      rw [if_pos (by omega)]
      simp only [e1, e2, e3, e4, if_pos c1, if_pos c2, if_pos c3, Int.toNat_natCast, part_len l C r hle]
    · have p1 := gPow (fv w) (r : Int) (fv_w w) ⟨by omega, by omega⟩
      rw [fo_fv, Int.toNat_natCast] at p1
      have p2 := gPow (fv (pw w r)) 0 (fv_w _) ⟨by omega, by omega⟩
      rw [fo_fv, show (0 : Int).toNat = 0 from rfl, pw_zero] at p2
      refine Ev.bind p1 (Ev.bind p2 ?_)
      have := gTile_l1 l hl w R C r (by omega) hR hRC hL _ C 0 (by omega) (ih (r + 1) (by omega))
      rw [Nat.mul_zero, pw_zero, Nat.add_zero] at this
      exact this
theorem inside_zero : twid_inside.f 0 = some true := by decide
theorem gTile (l : List Int) (hl : Ws l) (R C : Nat) (a b : Nat) (ha : R = 2 ^ a) (hb : C = 2 ^ b) (hab : a + b ≤ 20) (hRC : R * C = l.length) (hL : l.length ≤ 1048576) (K : Nat) (hK : K ≤ 32) (d : Int) (hd : d = 0 ∨ d = 1) :
    Ev (fun k => twid_Tile.f k l (R : Int) (C : Int) 0 0 (K : Int) d) (tb (R * C) (tw l (rut K d) C), 0) := by
  have h1 : 1 ≤ C := by rw [hb]; exact Nat.two_pow_pos b
  have h2 : 1 ≤ R := by rw [ha]; exact Nat.two_pow_pos a
  have hR : R ≤ 1048576 := by rw [ha]; exact pow20 (by omega)
  have hC : C ≤ 1048576 := by rw [hb]; exact pow20 (by omega)
  have hG : GoodS R C := ⟨a, b, by omega, ⟨by omega, by rw [ha]⟩, ⟨by omega, by rw [hb]⟩⟩
  clear ha hb
  unfold twid_Tile.f
  refine Ev.bind (gRoot K hK d hd) (Ev_if rfl (Ev.bind (Ev_eq (good_yes _ _ hG)) (Ev_if rfl ?_)))
  rw [mulc R C (by omega), hRC, show ((l.length : Int) != (l.length : Int)) = false by rw [bne_eq_false_iff_eq]]
  refine Ev.step (f := fun k => twid_Tile.l0 k l (fv (rut K d)) [] (R : Int) 0 (R : Int) (C : Int) 0 0) (fun k => ?_) ?_
  · simp only [twid_Tile.j0]
    rw [if_neg (by decide), show twid_reaches.f (R : Int) (C : Int) 0 0 = some true by
      unfold twid_reaches.f
      rw [inside_zero, Option.bind_some, if_pos rfl, Option.bind_some, if_pos rfl, wrap_i _ (by omega) (by omega), wrap_i _ (by omega) (by omega), wrap_i _ (by omega) (by omega), if_pos (by omega), decide_eq_true (by omega)], Option.bind_some, if_pos rfl, if_pos (by omega), if_pos (by rw [Int.toNat_natCast]; omega)]
  · have := gTile_l0 l hl (rut K d) R C hR hRC hL R 0 (by omega)
    rw [Nat.zero_mul, tb_zero, hRC] at this
    exact this
def tl (n : Nat) (g : Nat → Int) : List Int := (List.range n).map g
theorem tl_len (n : Nat) (g : Nat → Int) : (tl n g).length = n := by simp [tl]
theorem tl_zero (g : Nat → Int) : tl 0 g = [] := rfl
theorem tl_succ (n : Nat) (g : Nat → Int) : tl (n + 1) g = tl n g ++ [g n] := by simp [tl, List.range_succ]
theorem tl_get {n : Nat} (g : Nat → Int) {i : Nat} (h : i < n) : (tl n g).getD i 0 = g i := by simp [tl, List.getD, h]
def tps (l : List Int) (R C : Nat) (t : Nat) : Int := l.getD ((t % R) * C + t / R) 0
theorem tps_at (l : List Int) (R C c r : Nat) (h : r < R) : tps l R C (c * R + r) = l.getD (r * C + c) 0 := by
  unfold tps
  rw [Nat.mul_comm c R, Nat.mul_add_mod, Nat.mod_eq_of_lt h, Nat.mul_add_div (by omega), Nat.div_eq_of_lt h, Nat.add_zero]
theorem gTpose_l1 (l : List Int) (R C c : Nat) (hc : c < C) (hC : C ≤ 1048576) (hRC : R * C = l.length) (hL : l.length ≤ 1048576) (res : List Int × Int) (m : Nat) : ∀ r, r + m = R →
    Ev (fun k => shape_Transpose.l0 k l (tl ((c + 1) * R) (tps l R C)) (C : Int) ((c + 1 : Nat) : Int) (R : Int) (C : Int)) res →
    Ev (fun k => shape_Transpose.l1 k l (tl (c * R + r) (tps l R C)) ((r * C + c : Nat) : Int) (C : Int) (c : Int) (R : Int) (C : Int)) res := by
  induction m with
  | zero =>
    intro r hr hres
    obtain rfl : r = R := by omega
    refine Ev.step (fun k => ?_) hres
    simp only [shape_Transpose.l1]
    rw [if_neg (by omega), wsucc c (by omega), Nat.add_mul, Nat.one_mul]
  | succ m ih =>
    intro r hr hres
    have h1 : (r + 1) * C ≤ R * C := Nat.mul_le_mul_right _ (by omega)
    have h2 : (c + 1) * R ≤ C * R := Nat.mul_le_mul_right _ (by omega)
    rw [Nat.mul_comm C R] at h2
    rw [Nat.add_mul, Nat.one_mul] at h1 h2
    refine Ev.step (f := fun k => shape_Transpose.l1 k l (tl (c * R + (r + 1)) (tps l R C)) (((r + 1) * C + c : Nat) : Int) (C : Int) (c : Int) (R : Int) (C : Int)) (fun k => ?_) (ih (r + 1) (by omega) hres)
    simp only [shape_Transpose.l1]
    rw [if_pos (by omega), if_pos (by omega), if_pos (by rw [tl_len]; omega), rdn, ← Nat.add_assoc (c * R), tl_succ, tps_at l R C c r (by omega)]
    rw [wrap_i _ (by omega) (by omega), Nat.add_mul, Nat.one_mul, show (((r * C + c : Nat) : Int) + (C : Int)) = ((r * C + C + c : Nat) : Int) by omega]
theorem gTpose_l0 (l : List Int) (R C : Nat) (hC : C ≤ 1048576) (hRC : R * C = l.length) (hL : l.length ≤ 1048576) (m : Nat) : ∀ c, c + m = C →
    Ev (fun k => shape_Transpose.l0 k l (tl (c * R) (tps l R C)) (C : Int) (c : Int) (R : Int) (C : Int)) (tl (C * R) (tps l R C), 0) := by
  induction m with
  | zero =>
    intro c hc
    obtain rfl : c = C := by omega
    refine Ev.step (f := fun _ => some _) (fun k => ?_) (Ev.now _)
    simp only [shape_Transpose.l0]
    rw [if_neg (by omega)]
  | succ m ih =>
    intro c hc
    have := gTpose_l1 l R C c (by omega) hC hRC hL _ R 0 (by omega) (ih (c + 1) (by omega))
    rw [Nat.zero_mul, Nat.zero_add, Nat.add_zero] at this
    refine Ev.step (fun k => ?_) this
    simp only [shape_Transpose.l0]
    rw [if_pos (by omega)]
theorem gTpose (l : List Int) (R C : Nat) (hG : GoodS R C) (hC : C ≤ 1048576) (hRC : R * C = l.length) (hL : l.length ≤ 1048576) :
    Ev (fun k => shape_Transpose.f k l (R : Int) (C : Int)) (tl (C * R) (tps l R C), 0) := by
  unfold shape_Transpose.f
  refine Ev.bind (a := true) (Ev_eq ?_) (Ev_if rfl (Ev_if (by omega) (Ev_if (by rw [Int.toNat_natCast]; omega) ?_)))
  · unfold shape_fits.f
    rw [good_yes _ _ hG, Option.bind_some, if_pos rfl, size_is _ _ hG, Option.bind_some, ← Int.natCast_mul, hRC, beq_self_eq_true]
  · have := gTpose_l0 l R C hC hRC hL C 0 (by omega)
    rw [Nat.zero_mul, tl_zero] at this
    exact this
end Go.Proofs.YtpnkcjnemoompaaDoor.Fft
end
section
namespace Go.Proofs.YtpnkcjnemoompaaDoor.Kern
open Go.RowKit Go.Proofs.YtpnkcjnemoompaaDoor Go.Proofs.YtpnkcjnemoompaaDoor.Ext Go.Proofs.YtpnkcjnemoompaaDoor.PPlan Go.Proofs.YtpnkcjnemoompaaDoor.PFft Go.Proofs.YtpnkcjnemoompaaDoor.Pure Go.Proofs.YtpnkcjnemoompaaDoor.Obj Go.Proofs.YtpnkcjnemoompaaDoor.Fft Go.Proofs.YtpnkcjnemoompaaDoorW.PrintWords Go.Proofs.YtpnkcjnemoompaaDoorW.PrintLast Go.Proofs.YtpnkcjnemoompaaDoorW.PrintMore
set_option linter.unusedVariables false
set_option linter.unusedSimpArgs false
theorem sct_miss (xs : List Int) (o s : Nat) (ws : List Int) (t : Nat) (n : Nat) (h : ∀ j, j < n → t ≠ o + j * s) : (sct xs o s ws n).getD t 0 = xs.getD t 0 := by
  induction n with
  | zero => rfl
  | succ n ih =>
    show ((sct xs o s ws n).set (o + n * s) (ws.getD n 0)).getD t 0 = _
    rw [List.getD_eq_getElem?_getD, List.getElem?_set_ne (Ne.symm (h n (by omega))), ← List.getD_eq_getElem?_getD]
    exact ih fun j hj => h j (by omega)
theorem sct_hit (xs : List Int) (o s : Nat) (ws : List Int) (hs : 1 ≤ s) (j : Nat) (n : Nat) (hj : j < n) (hin : o + j * s < xs.length) : (sct xs o s ws n).getD (o + j * s) 0 = ws.getD j 0 := by
  induction n with
  | zero => omega
  | succ n ih =>
    show ((sct xs o s ws n).set (o + n * s) (ws.getD n 0)).getD (o + j * s) 0 = _
    by_cases c : j = n
    · subst c
      rw [List.getD_eq_getElem?_getD, List.getElem?_set_self (by rw [sct_len]; exact hin)]
      rfl
    · have hne : o + n * s ≠ o + j * s := by
        intro e
        have : n * s = j * s := by omega
        exact c (Nat.eq_of_mul_eq_mul_right (by omega) this).symm
      rw [List.getD_eq_getElem?_getD, List.getElem?_set_ne hne, ← List.getD_eq_getElem?_getD]
      exact ih (by omega)
theorem vrun_hit (xs : List Int) (x : Nat) (d : Int) (o s n : Nat) (hn : n = 2 ^ x) (hs : 1 ≤ s) (j : Nat) (hj : j < n) (hin : o + j * s < xs.length) : (vrun xs x d o s n).getD (o + j * s) 0 = fv (tr x d (fun i => el xs (o + i * s)) j) := by
  unfold vrun
  rw [sct_hit _ _ _ _ hs j n hj hin, tb_get _ hj]
  exact congrArg fv (tr_congr (fun i hi => el_gat xs o s (by omega)) j)
theorem vrun_miss (xs : List Int) (x : Nat) (d : Int) (o s n : Nat) (t : Nat) (h : ∀ j, j < n → t ≠ o + j * s) : (vrun xs x d o s n).getD t 0 = xs.getD t 0 := sct_miss _ _ _ _ _ _ h
theorem plc_inj {R C r c r' c' : Nat} (hc : c < C) (hc' : c' < C) (h : r * C + c = r' * C + c') : r = r' ∧ c = c' := by
  have h1 : (r * C + c) % C = (r' * C + c') % C := by rw [h]
  have h2 : (r * C + c) / C = (r' * C + c') / C := by rw [h]
  rw [Nat.mul_comm r, Nat.mul_comm r', Nat.mul_add_mod, Nat.mul_add_mod, Nat.mod_eq_of_lt hc, Nat.mod_eq_of_lt hc'] at h1
  rw [Nat.mul_comm r, Nat.mul_comm r', Nat.mul_add_div (by omega), Nat.mul_add_div (by omega), Nat.div_eq_of_lt hc, Nat.div_eq_of_lt hc'] at h2
  exact ⟨h2, h1⟩
theorem plc_lt {R C r c : Nat} (hr : r < R) (hc : c < C) : r * C + c < R * C := by
  have : (r + 1) * C ≤ R * C := Nat.mul_le_mul_right _ hr
  rw [Nat.add_mul, Nat.one_mul] at this
  omega
theorem cols_get (xs : List Int) (a : Nat) (d : Int) (R C : Nat) (hR : R = 2 ^ a) (hl : R * C = xs.length) (i : Nat) (hi : i ≤ C) : ∀ r c, r < R → c < C →
    (vfold xs a d (fun i => i) (fun _ => C) R i).getD (r * C + c) 0 = if c < i then fv (tr a d (fun r' => el xs (r' * C + c)) r) else xs.getD (r * C + c) 0 := by
  induction i with
  | zero => intro r c hr hc; rw [if_neg (by omega)]; rfl
  | succ i ih =>
    intro r c hr hc
    show (vrun (vfold xs a d (fun i => i) (fun _ => C) R i) a d i C R).getD (r * C + c) 0 = _
    by_cases e : c = i
    · subst e
      rw [if_pos (by omega), Nat.add_comm (r * C), vrun_hit _ _ _ _ _ _ hR (by omega) r hr (by rw [vfold_len, ← hl, Nat.add_comm]; exact plc_lt hr hc)]
      refine congrArg fv (tr_congr (fun r' hr' => ?_) r)
      unfold el
      rw [Nat.add_comm c, ih (by omega) r' c (by omega) hc, if_neg (by omega)]
    · rw [vrun_miss _ _ _ _ _ _ _ (fun j hj => by
        intro h
        rw [Nat.add_comm i] at h
        exact e (plc_inj (R := R) hc (by omega) h).2), ih (by omega) r c hr hc]
      by_cases e2 : c < i
      · rw [if_pos e2, if_pos (by omega)]
      · rw [if_neg e2, if_neg (by omega)]
theorem rows_get (xs : List Int) (b : Nat) (d : Int) (R C : Nat) (hC : C = 2 ^ b) (hl : R * C = xs.length) (i : Nat) (hi : i ≤ R) : ∀ r c, r < R → c < C →
    (vfold xs b d (fun i => i * C) (fun _ => 1) C i).getD (r * C + c) 0 = if r < i then fv (tr b d (fun c' => el xs (r * C + c')) c) else xs.getD (r * C + c) 0 := by
  induction i with
  | zero => intro r c hr hc; rw [if_neg (by omega)]; rfl
  | succ i ih =>
    intro r c hr hc
    show (vrun (vfold xs b d (fun i => i * C) (fun _ => 1) C i) b d (i * C) 1 C).getD (r * C + c) 0 = _
    by_cases e : r = i
    · subst e
      have := vrun_hit (vfold xs b d (fun i => i * C) (fun _ => 1) C r) b d (r * C) 1 C hC (by omega) c hc (by rw [vfold_len, ← hl, Nat.mul_one]; exact plc_lt hr hc)
      rw [Nat.mul_one] at this
      rw [if_pos (by omega), this]
      refine congrArg fv (tr_congr (fun c' hc' => ?_) c)
      unfold el
      rw [Nat.mul_one, ih (by omega) r c' hr (by omega), if_neg (by omega)]
    · rw [vrun_miss _ _ _ _ _ _ _ (fun j hj => by
        intro h
        rw [Nat.mul_one] at h
        exact e (plc_inj (R := R) hc hj h).1), ih (by omega) r c hr hc]
      by_cases e2 : r < i
      · rw [if_pos e2, if_pos (by omega)]
      · rw [if_neg e2, if_neg (by omega)]
theorem cols_el (xs : List Int) (a : Nat) (d : Int) (R C : Nat) (hR : R = 2 ^ a) (hl : R * C = xs.length) (r c : Nat) (hr : r < R) (hc : c < C) : el (vfold xs a d (fun i => i) (fun _ => C) R C) (r * C + c) = tr a d (fun r' => el xs (r' * C + c)) r := by
  unfold el
  rw [cols_get xs a d R C hR hl C (Nat.le_refl _) r c hr hc, if_pos hc, fo_fv]
  rfl
theorem rows_at (xs : List Int) (b : Nat) (d : Int) (R C : Nat) (hC : C = 2 ^ b) (hl : R * C = xs.length) (r c : Nat) (hr : r < R) (hc : c < C) : (vfold xs b d (fun i => i * C) (fun _ => 1) C R).getD (r * C + c) 0 = fv (tr b d (fun c' => el xs (r * C + c')) c) := by
  rw [rows_get xs b d R C hC hl R (Nat.le_refl _) r c hr hc, if_pos hr]
theorem dft_mulr (n : Nat) (w : F) (f : Nat → F) (c : F) (j : Nat) : dft n w (fun i => f i * c) j = dft n w f j * c := by
  unfold dft
  rw [← sm_mulr]
  exact sm_congr fun i _ => by grobner
theorem six_law (l : List Int) (a b : Nat) (d : Int) (R C : Nat) (hR : R = 2 ^ a) (hC : C = 2 ^ b) (hab : a + b ≤ 20) (hl : R * C = l.length) :
    tl (C * R) (tps (vfold (tb (R * C) (tw (vfold l a d (fun i => i) (fun _ => C) R C) (rut (a + b) d) C)) b d (fun i => i * C) (fun _ => 1) C R) R C) = tb l.length (tr (a + b) d (el l)) := by
  refine list_ext (by rw [tl_len, tb_len, Nat.mul_comm, hl]) fun t ht => ?_
  rw [tl_len] at ht
  have hR0 : 0 < R := by rw [hR]; exact Nat.two_pow_pos a
  obtain ⟨c', r', hc', hr', rfl⟩ : ∃ c' r', c' < C ∧ r' < R ∧ t = c' * R + r' := ⟨t / R, t % R, by rw [Nat.div_lt_iff_lt_mul hR0]; exact ht, Nat.mod_lt _ hR0, by rw [Nat.mul_comm]; exact (Nat.div_add_mod t R).symm⟩
  have hN : 2 ^ (a + b) = R * C := by rw [Nat.pow_add, hR, hC]
  rw [tl_get _ ht, tps_at _ _ _ _ _ hr', rows_at _ b d R C hC (by rw [tb_len]) r' c' hr' hc', tb_get _ (by rw [← hl, Nat.mul_comm R C]; exact ht)]
  refine congrArg fv ?_
  have e1 : ∀ c, c < 2 ^ b → el (tb (R * C) (tw (vfold l a d (fun i => i) (fun _ => C) R C) (rut (a + b) d) C)) (r' * C + c) = (dft R (rut a d) (fun r => el l (r * C + c)) r' * pw (rut (a + b) d) (r' * c)) * (if d = 1 then shf a else 1) := by
    intro c hc
    rw [el_tb _ (plc_lt hr' (by omega)), tw_at _ _ _ _ _ (by omega), cols_el l a d R C hR hl r' c hr' (by omega)]
    unfold tr
    rw [hR]
    grobner
  rw [tr_congr e1]
  unfold tr
  rw [dft_mulr, hN, six_steps R C (rut (a + b) d) (by rw [← hN]; exact rd_full _ _ (by omega)) (el l) r' c', ← hC]
  have p1 : pw (rut (a + b) d) R = rut b d := by rw [hR, rd_pow (a + b) a d (by omega) (by omega), Nat.add_sub_cancel_left]
  have p2 : pw (rut (a + b) d) C = rut a d := by rw [hC, rd_pow (a + b) b d (by omega) (by omega), Nat.add_sub_cancel]
  rw [p1, p2]
  by_cases hd : d = 1
  · rw [if_pos hd, if_pos hd, if_pos hd, shf_add]
    grobner
  · rw [if_neg hd, if_neg hd, if_neg hd]
    grobner
end Go.Proofs.YtpnkcjnemoompaaDoor.Kern
end
