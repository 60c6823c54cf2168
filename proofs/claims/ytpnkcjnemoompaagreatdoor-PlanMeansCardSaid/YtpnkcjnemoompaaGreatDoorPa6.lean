import Derived.Test.YtpnkcjnemoompaaGreatDoorPa5
import Derived.Test.YtpnkcjnemoompaaGreatDoorProg
import Derived.Below
import Derived.Deep.Draws
import Derived.Deep.AppendLies
import Derived.Maps.AppendAt
import Derived.OwnWalk
import Derived.Laws.BytesArg
import Derived.Laws.MakeOwn
import Derived.Laws.OwnMore
import Derived.Deep.OwnRows
import Derived.Tactics
import Derived.Lib.ConvBytes
import Derived.Laws.Slices
import Derived.WalkKit
import Derived.KernelRfl
import Derived.RowKit3
import Derived.Deep.LoopGhost
import Derived.Deep.QuietTactic
import Derived.BigQuiet
import Derived.WideLaws
import Derived.Deep.DeepCutAuto
import Derived.Deep.CutBlock
import Derived.Deep.RegionHeld3
import Derived.Laws.Rows
import Derived.Lib.AppendStr
import Derived.ArgAppend
import Derived.Laws.IdiomCopy
import Derived.RowKit
import Derived.OrdersHeld
import Derived.Laws.BitsLemmas
import Derived.Laws.CopyOwn
import Derived.Lib.Hide
import Derived.Shelf.Spec.TrailingZeros
import Derived.Lib.LaidTab
import Derived.Shelf.Strings.Builder1
import Derived.Shelf.Strings.Builder2
import Derived.Shelf.Strings.OnBuilder
import Derived.Shelf.Strings.BuilderF
import Derived.Shelf.Strings.BuilderK
import Derived.Shelf.Strings.Builder2Cap
import Derived.Shelf.Strconv.Itoa0
import Derived.Shelf.Strconv.Itoa1
import Derived.Shelf.LaysM
import Derived.Shelf.Strconv.Itoa2
import Derived.Shelf.Strconv.Itoa3
import Derived.Shelf.Bits.Mul64
import Derived.Shelf.Strings.BuilderCap
import Derived.Ground.SlgnProg
import Derived.Shelf.SlicesE.Clone
import Derived.Laws.StructEq
import Derived.Shelf.Spec.BitsCarry
import Derived.Laws.BitsAllLaws
import Derived.OpenShut
import Derived.StillTailTactics
import Derived.Outline
import Derived.RegionTactic
import Derived.ChangeAlike
import Derived.BigRegion
/-! Texts of this claim, joined: KernF, KernG, FldD, KernH, FitsA, KernI, KernJ, ShapeF, KernK, FldE, SixA, PTile, AplP, AplA, AplB. -/
section
namespace Go.Proofs.YtpnkcjnemoompaaGreatDoor.Kern
open Go.RowKit Go.Proofs.YtpnkcjnemoompaaGreatDoor Go.Proofs.YtpnkcjnemoompaaGreatDoor.Ext Go.Proofs.YtpnkcjnemoompaaGreatDoor.PPlan Go.Proofs.YtpnkcjnemoompaaGreatDoor.PFft Go.Proofs.YtpnkcjnemoompaaGreatDoor.Pure Go.Proofs.YtpnkcjnemoompaaGreatDoor.Obj Go.Proofs.YtpnkcjnemoompaaGreatDoor.Fft Go.Proofs.YtpnkcjnemoompaaGreatDoorW.PrintWords Go.Proofs.YtpnkcjnemoompaaGreatDoorW.PrintLast Go.Proofs.YtpnkcjnemoompaaGreatDoorW.PrintMore
set_option linter.unusedVariables false
set_option linter.unusedSimpArgs false
set_option maxRecDepth 100000
theorem tb_of_all {N : Nat} {ys : List Int} (hl : ys.length = N) (h : ∀ j, j < N → ∃ x : F, ys.getD j 0 = fv x) : ys = tb N (el ys) := by
  refine list_ext (by rw [tb_len, hl]) (fun i hi => ?_)
  rw [hl] at hi
  rw [tb_get _ hi]
  obtain ⟨x, hx⟩ := h i hi
  unfold el
  rw [hx, fo_fv]
theorem dn_all {s m n N : Nat} {tg : Nat → Nat → Nat → F} {ys : List Int} (h : Dn s m tg ys m 0) (hs : 0 < s) (hn : n = 4 * m) (hN : n * s = N) (j : Nat) (hj : j < N) : ∃ x : F, ys.getD j 0 = fv x := by
  have h1 : j / s < n := (Nat.div_lt_iff_lt_mul hs).2 (by rw [hN]; exact hj)
  have h2 := Nat.mod_lt j hs
  have h3 := Nat.div_add_mod j s
  have h4 : j / s / 4 < m := by omega
  have := h (j / s / 4) (j % s) (j / s % 4) h2 (by omega) h4 (.inl h4)
  rw [show 4 * (j / s / 4) + j / s % 4 = j / s by omega, Nat.add_comm, h3] at this
  exact ⟨_, this⟩
theorem run_quarter {x : Nat} {d : Int} {Y : Nat → F} {m s n N k : Nat} {f : Nat → F} {ys : List Int} (hx : x ≤ 20) (hk : k + 2 ≤ x) (hm : m = 2 ^ k) (hs : s = 2 ^ (x - (k + 2))) (hn : n = 4 * m) (hN : n * s = N) (hY : Stk Y (rut x d) (4 * m) s f) (hl : ys.length = N)
    (h : Dn s m (tgq s m (rut x d) (rut 2 d) f) ys m 0) : ys = tb N (el ys) ∧ Stk Y (rut x d) m (4 * s) (el ys) := by
  have hs0 : 0 < s := by rw [hs]; exact Nat.two_pow_pos _
  refine ⟨tb_of_all hl (dn_all h hs0 hn hN), Stk.quarter hY ?_ ?_⟩
  · have := rd_half x d (by omega) (by omega)
    rw [← this]
    congr 1
    rw [hs, hm, ← Nat.pow_succ', ← Nat.pow_add]
    congr 1; omega
  · intro q hq i hi r hr
    have := h i q r hq hr hi (.inl hi)
    have hu : pw (rut x d) (s * m) = rut 2 d := by
      rw [hs, hm, ← Nat.pow_add, show x - (k + 2) + k = x - 2 by omega, rd_pow x (x - 2) d (by omega) (by omega), show x - (x - 2) = 2 by omega]
    unfold el
    rw [this, fo_fv, hu]; rfl
theorem run_half {x : Nat} {d : Int} {Y : Nat → F} {s N : Nat} {f : Nat → F} {ys : List Int} (hx : x ≤ 20) (h1 : 1 ≤ x) (hs : s = 2 ^ (x - 1)) (hN : N = 2 * s) (hY : Stk Y (rut x d) 2 s f) (hl : ys.length = N) (h : Dh s f ys s) : ys = tb N (el ys) ∧ Stk Y (rut x d) 1 (2 * s) (el ys) := by
  refine ⟨tb_of_all hl fun j hj => ?_, Stk.half hY (by rw [hs]; exact rd_half x d (by omega) (by omega)) (fun q hq => ?_) (fun q hq => ?_)⟩
  · by_cases c : j < s
    · exact ⟨_, (h j c).1⟩
    · have := (h (j - s) (by omega)).2
      rw [show j - s + s = j by omega] at this
      exact ⟨_, this⟩
  · unfold el; rw [(h q hq).1, fo_fv]
  · unfold el; rw [(h q hq).2, fo_fv]
structure Pst (w0 w : World) (P gp cp ga gb N x : Nat) (d : Int) (f : Nat → F) : Prop where
  be : Below w0.heap.size w0 w
  ps : Bk w P 151 [.slice (some ⟨gp, 0, none⟩) N cp, .int .u64 (fv (rut 2 d)), .slice (some ⟨ga, 0, none⟩) N N, .slice (some ⟨gb, 0, none⟩) N N]
  src : Mr w ga N (tb N f)
  dst : ∃ ys, Mr w gb N ys ∧ ys.length = N
  p : w0.heap.size ≤ P
  a : w0.heap.size ≤ ga
  b : w0.heap.size ≤ gb
  ab : ga ≠ gb
theorem Pst.below {w0 w w1 : World} {P gp cp ga gb N x : Nat} {d : Int} {f : Nat → F} (h : Pst w0 w P gp cp ga gb N x d f) (hb : Below w.heap.size w w1) : Pst w0 w1 P gp cp ga gb N x d f := by
  obtain ⟨ys, h1, h2⟩ := h.dst
  exact ⟨below_then h.be h.be.size hb, h.ps.below hb, h.src.below hb, ⟨ys, h1.below hb, h2⟩, h.p, h.a, h.b, h.ab⟩
theorem Fr.be {w0 w w1 : World} {S : List Nat} (h : Below w0.heap.size w0 w) (hf : Fr w w1 S) (hS : ∀ k ∈ S, w0.heap.size ≤ k) : Below w0.heap.size w0 w1 := h.trans (hf.below h.size hS)
theorem shl_n (x : Nat) (hx : x ≤ 20) : shl .i64 1 (IntKind.u64.wrap (x : Int)) = ((2 ^ x : Nat) : Int) := shl_one x (by omega)
theorem shl_spell1 (x : Int) : shl .i64 1 (IntKind.u64.wrap x) = wrap64 (1 * 2 ^ min (IntKind.u64.wrap x).toNat 64) := by
  unfold shl
  rw [show IntKind.i64.bits = 64 from by decide]
  exact i64_w _
set_option maxHeartbeats 16000000 in
theorem plain0 (p b g0 c0 g1 c1 x N g c : Nat) (xs : List Int) (w : World) (hK : Ker w p b g0 c0 g1 c1 x N) (hM : Mr w g c xs) (hl : xs.length = N) (hW : Ws xs) (n0 : g ≠ g0) (n1 : g ≠ g1) :
    Calls Tryz.prog 103 #[.pointer (some ⟨p, 0, none⟩), .slice (some ⟨g, 0, none⟩) N c, .int .i64 0] w fun e w' => e = .returned (.int .i64 0) ∧ Mr w' g c (tb N (dft N (rut x 0) (el xs))) ∧ Fr w w' [g] := by
  obtain ⟨s0, s1, sh, hsub⟩ := hK.sub
  have hN20 : N ≤ 1048576 := by rw [hK.n]; exact pow20 hK.k
  have hN0 : 0 < N := by rw [hK.n]; exact Nat.two_pow_pos x
  have e1 : wrap64 (1 * 2 ^ min (IntKind.u64.wrap (x : Int)).toNat 64) = (N : Int) := by rw [← shl_spell1, shl_n x hK.k, hK.n]
  have e2 : wrap64 (2 ^ min (IntKind.u64.wrap (x : Int)).toNat 64) = (N : Int) := by rw [← e1, Int.one_mul]
  have HK := Aside0.mk hK
  have HM := Aside0.mk hM
  have HS := Aside0.mk hsub
  have HL := Aside0.mk hl
  have HW := Aside0.mk hW
  have q0 := hK.obj.cell 0
  have dd : decide ((0 : Int) < 0) = false := by decide
  have dd2 : decide ((1 : Int) < 0) = false := by decide
  clear hK hM hsub hl hW
  go_enter Tryz.func103, Tryz.ntmps103
  go_wp2_with fail
  with_reducible refine (k2_calls b x s0 s1 sh w HS.out).mono ?_
  rintro e w1 ⟨rfl, rfl⟩
  go_wp2_with fail
  clear q0 e1 e2 dd dd2
  obtain rfl := HL.out
  refine start_ (n := 20) (S := fun w' => w'.cell? ⟨p, 1, none⟩ = some (.slice (some ⟨g0, 0, none⟩) xs.length c0) ∧ w'.cell? ⟨p, 3, none⟩ = some (.int .u64 (fv (rut 2 0))) ∧ Aside0 (Below w1.heap.size w1 w')) (ds := []) #[false, false, false, false, false, false, false, false, false, false, false, false, false, false, false, false, false, false, false, false] (by kernel_rfl) rfl rfl ⟨HK.out.obj.cell 1, HK.out.obj.cell 3, ⟨below_drew1 (Below.refl _ _)⟩⟩ (fun hHeld => ?_)
  refine pure_ (i := 0) (N := some 29) (v := ?_) (a' := ?_) #[true, false, false, false, false, false, false, false, false, false, false, false, false, false, false, false, false, false, false, false] rfl rfl (by kernel_rfl) (fun _ _ _ h => h) (Or.inl ⟨by rfl, ?_⟩) ?_ ?_
  rotate_left
  · intro w'
    go_simp
    with_reducible rfl
  rotate_left
  · simp only [Act.put, List.setIfInBounds_toArray, List.set_cons_zero, List.set_cons_succ, i64_w, i32_w]
    rfl
  refine pure_ (i := 1) (N := some 30) (v := ?_) (a' := ?_) #[true, true, false, false, false, false, false, false, false, false, false, false, false, false, false, false, false, false, false, false] rfl rfl (by kernel_rfl) (fun _ _ _ h => h) (Or.inl ⟨by rfl, ?_⟩) ?_ ?_
  rotate_left
  · intro w'
    go_simp
    with_reducible rfl
  rotate_left
  · simp only [Act.put, List.setIfInBounds_toArray, List.set_cons_zero, List.set_cons_succ, i64_w, i32_w]
    rfl
  refine pure_ (i := 2) (N := some 31) (v := ?_) (a' := ?_) #[true, true, true, false, false, false, false, false, false, false, false, false, false, false, false, false, false, false, false, false] rfl rfl (by kernel_rfl) (fun _ _ _ h => h) (Or.inl ⟨by rfl, ?_⟩) ?_ ?_
  rotate_left
  · intro w'
    go_simp
    with_reducible rfl
  rotate_left
  · simp only [Act.put, List.setIfInBounds_toArray, List.set_cons_zero, List.set_cons_succ, i64_w, i32_w]
    rfl
  refine pure_ (i := 3) (N := some 32) (v := ?_) (a' := ?_) #[true, true, true, true, false, false, false, false, false, false, false, false, false, false, false, false, false, false, false, false] rfl rfl (by kernel_rfl) (fun _ _ _ h => h) (Or.inl ⟨by rfl, ?_⟩) ?_ ?_
  rotate_left
  · intro w'
    go_simp
    with_reducible rfl
  rotate_left
  · simp only [Act.put, List.setIfInBounds_toArray, List.set_cons_zero, List.set_cons_succ, i64_w, i32_w]
    rfl
  refine pure_ (i := 4) (N := some 33) (v := ?_) (a' := ?_) #[true, true, true, true, true, false, false, false, false, false, false, false, false, false, false, false, false, false, false, false] rfl rfl (by kernel_rfl) (fun _ _ _ h => h) (Or.inl ⟨by rfl, ?_⟩) ?_ ?_
  rotate_left
  · intro w'
    go_simp
    with_reducible rfl
  rotate_left
  · simp only [Act.put, List.setIfInBounds_toArray, List.set_cons_zero, List.set_cons_succ, i64_w, i32_w]
    rfl
  refine pure_ (i := 6) (N := some 35) (v := ?_) (a' := ?_) #[true, true, true, true, true, false, true, false, false, false, false, false, false, false, false, false, false, false, false, false] rfl rfl (by kernel_rfl) (fun _ _ _ h => h) (Or.inl ⟨by rfl, ?_⟩) ?_ ?_
  rotate_left
  · intro w'
    go_simp
    with_reducible rfl
  rotate_left
  · simp only [Act.put, List.setIfInBounds_toArray, List.set_cons_zero, List.set_cons_succ, i64_w, i32_w]
    rfl
  refine pure_ (i := 7) (N := some 36) (v := ?_) (a' := ?_) #[true, true, true, true, true, false, true, true, false, false, false, false, false, false, false, false, false, false, false, false] rfl rfl (by kernel_rfl) (fun _ _ _ h => h) (Or.inl ⟨by rfl, ?_⟩) ?_ ?_
  rotate_left
  · intro w'
    go_simp
    with_reducible rfl
  rotate_left
  · simp only [Act.put, List.setIfInBounds_toArray, List.set_cons_zero, List.set_cons_succ, i64_w, i32_w]
    rfl
  refine pure_ (i := 8) (N := some 37) (v := ?_) (a' := ?_) #[true, true, true, true, true, false, true, true, true, false, false, false, false, false, false, false, false, false, false, false] rfl rfl (by kernel_rfl) (fun _ _ _ h => h) (Or.inl ⟨by rfl, ?_⟩) ?_ ?_
  rotate_left
  · intro w'
    go_simp
    with_reducible rfl
  rotate_left
  · simp only [Act.put, List.setIfInBounds_toArray, List.set_cons_zero, List.set_cons_succ, i64_w, i32_w]
    rfl
  refine pure_ (i := 9) (N := some 38) (v := ?_) (a' := ?_) #[true, true, true, true, true, false, true, true, true, true, false, false, false, false, false, false, false, false, false, false] rfl rfl (by kernel_rfl) (fun _ _ _ h => h) (Or.inl ⟨by rfl, ?_⟩) ?_ ?_
  rotate_left
  · intro w'
    go_simp
    with_reducible rfl
  rotate_left
  · simp only [Act.put, List.setIfInBounds_toArray, List.set_cons_zero, List.set_cons_succ, i64_w, i32_w]
    rfl
  refine pure_ (i := 10) (N := some 39) (v := ?_) (a' := ?_) #[true, true, true, true, true, false, true, true, true, true, true, false, false, false, false, false, false, false, false, false] rfl rfl (by kernel_rfl) (fun _ _ _ h => h) (Or.inl ⟨by rfl, ?_⟩) ?_ ?_
  rotate_left
  · intro w'
    go_simp
    with_reducible rfl
  rotate_left
  · simp only [Act.put, List.setIfInBounds_toArray, List.set_cons_zero, List.set_cons_succ, i64_w, i32_w]
    rfl
  refine pure_ (i := 12) (N := some 41) (v := ?_) (a' := ?_) #[true, true, true, true, true, false, true, true, true, true, true, false, true, false, false, false, false, false, false, false] rfl rfl (by kernel_rfl) (fun _ _ _ h => h) (Or.inl ⟨by rfl, ?_⟩) ?_ ?_
  rotate_left
  · intro w'
    go_simp
    with_reducible rfl
  rotate_left
  · simp only [Act.put, List.setIfInBounds_toArray, List.set_cons_zero, List.set_cons_succ, i64_w, i32_w]
    rfl
  refine pure_ (i := 14) (N := some 43) (v := ?_) (a' := ?_) #[true, true, true, true, true, false, true, true, true, true, true, false, true, false, true, false, false, false, false, false] rfl rfl (by kernel_rfl) (fun _ _ _ h => h) (Or.inl ⟨by rfl, ?_⟩) ?_ ?_
  rotate_left
  · intro w'
    go_simp
    with_reducible rfl
  rotate_left
  · simp only [Act.put, List.setIfInBounds_toArray, List.set_cons_zero, List.set_cons_succ, i64_w, i32_w]
    rfl
  refine pure_ (i := 15) (N := some 44) (v := ?_) (a' := ?_) #[true, true, true, true, true, false, true, true, true, true, true, false, true, false, true, true, false, false, false, false] rfl rfl (by kernel_rfl) (fun _ _ _ h => h) (Or.inl ⟨by rfl, ?_⟩) ?_ ?_
  rotate_left
  · intro w'
    go_simp
    with_reducible rfl
  rotate_left
  · simp only [Act.put, List.setIfInBounds_toArray, List.set_cons_zero, List.set_cons_succ, i64_w, i32_w]
    rfl
  refine take_ (i := 5) (N := some 34) (v := ?_) (a' := ?_) #[true, true, true, true, true, true, true, true, true, true, true, false, true, false, true, true, false, false, false, false] rfl rfl (by kernel_rfl) (fun _ _ _ h => h) (Or.inl ⟨by rfl, ?_⟩) hHeld ?_ ?_
  rotate_left
  · rintro w' ⟨s0, s1, s2⟩
    go_simp
    with_reducible rfl
  rotate_left
  · simp only [Act.put, List.setIfInBounds_toArray, List.set_cons_zero, List.set_cons_succ, i64_w, i32_w]
    rfl
  refine take_ (i := 11) (N := some 40) (v := ?_) (a' := ?_) #[true, true, true, true, true, true, true, true, true, true, true, true, true, false, true, true, false, false, false, false] rfl rfl (by kernel_rfl) (fun _ _ _ h => h) (Or.inl ⟨by rfl, ?_⟩) hHeld ?_ ?_
  rotate_left
  · rintro w' ⟨s0, s1, s2⟩
    go_simp
    with_reducible rfl
  rotate_left
  · simp only [Act.put, List.setIfInBounds_toArray, List.set_cons_zero, List.set_cons_succ, i64_w, i32_w]
    rfl
  refine join_ (σ := Nat × Nat) 3 #[true, true, true, true, true, true, true, true, true, true, true, true, true, true, true, true, true, false, false, false] (fun s => [(42, .slice (some ⟨s.1, 0, none⟩) xs.length xs.length), (45, .slice (some ⟨s.2, 0, none⟩) xs.length xs.length)]) (fun s w' => (w'.cell? ⟨p, 1, none⟩ = some (.slice (some ⟨g0, 0, none⟩) xs.length c0) ∧ w'.cell? ⟨p, 3, none⟩ = some (.int .u64 (fv (rut 2 0))) ∧ Aside0 (Below w1.heap.size w1 w')) ∧ Aside0 (Rw w' s.1 (tb xs.length fun i => el xs i * fo 1)) ∧ Aside0 (Rw w' s.2 (List.replicate xs.length 0)) ∧ Aside0 (w1.heap.size ≤ s.1) ∧ Aside0 (w1.heap.size ≤ s.2) ∧ Aside0 (s.1 ≠ s.2)) ?_ ?_
  rotate_left
  · intro hCont
    refine two_ (i := 13) (j := 16) (Ni := some 42) (Nj := some 45) #[true, true, true, true, true, true, true, true, true, true, true, true, true, true, true, true, false, false, false, false] #[true, true, true, true, true, true, true, true, true, true, true, true, true, false, true, true, true, false, false, false] rfl rfl rfl rfl (by kernel_rfl) (by decide) (by decide) (fun K hK => ?_) (fun K hK => ?_)
    · skip
      refine goes_ Tryz.func44 (by kernel_rfl) rfl #[.slice (some ⟨g, 0, none⟩) xs.length c, .int .u64 1] (by rfl) rfl rfl (by simp only [List.map_toArray, List.map_cons, List.map_nil]; rfl) ?_
      with_reducible refine (scale_calls (some ⟨g, 0, none⟩) c xs 1 _ ((In.of_mr HM.out (by omega)).below hHeld.2.2.out) HW.out (by decide) hN20).mono ?_
      rintro e w4 ⟨ga, rfl, hrow, hb, hg⟩
      refine ⟨_, rfl, ?_⟩
      have HA := Aside0.mk hrow
      have HAs := Aside0.mk (Nat.le_trans hHeld.2.2.out.size hg)
      clear hrow hg
      have a0 := pw_cell_below hb hHeld.1
      have a1 := pw_cell_below hb hHeld.2.1
      have aB := below_step hHeld.2.2.out hb
      clear hHeld hb
      refine hK.out _ _ ⟨a0, a1, ⟨aB⟩⟩ (fun hHeld => ?_)
      clear hK K
      refine norm_ (a' := ?_) ?_ ?_
      rotate_left
      · show Act.put _ (some 42) _ = _
        simp only [Act.put, List.setIfInBounds_toArray, List.set_cons_zero, List.set_cons_succ, i64_w, i32_w]
        rfl
      refine one_ (i := 16) (N := some 45) #[true, true, true, true, true, true, true, true, true, true, true, true, true, true, true, true, true, false, false, false] rfl rfl (by kernel_rfl) (by decide) (fun K hK => ?_)
      refine make_step 22 _ _ xs.length (by rfl) rfl rfl rfl rfl (by kernel_rfl) info_u64 (by omega) ?_
      intro w5 hrow hb hsz
      have HAB := Aside0.mk (Nat.ne_of_lt (Bk.lt HA.out))
      have nA := HA.out.below hb
      clear HA
      have HA := Aside0.mk nA
      clear nA
      have HB := Aside0.mk hrow
      have HBs := Aside0.mk hHeld.2.2.out.size
      clear hrow hsz
      have a0 := pw_cell_below hb hHeld.1
      have a1 := pw_cell_below hb hHeld.2.1
      have aB := below_step hHeld.2.2.out hb
      clear hHeld hb
      refine hK.out _ _ ⟨a0, a1, ⟨aB⟩⟩ (fun hHeld => ?_)
      clear hK K
      refine norm_ (a' := ?_) ?_ ?_
      rotate_left
      · show Act.put _ (some 45) _ = _
        simp only [Act.put, List.setIfInBounds_toArray, List.set_cons_zero, List.set_cons_succ, i64_w, i32_w]
        rfl
      exact norm_ (by first | (simp only [putAll, Act.put, List.setIfInBounds_toArray, List.set_cons_zero, List.set_cons_succ]; done) | (simp only [putAll, Act.put, List.setIfInBounds_toArray, List.set_cons_zero, List.set_cons_succ]; rfl)) (hCont (ga, w4.heap.size) _ ⟨hHeld, HA, HB, HAs, HBs, HAB⟩)
    · skip
      refine make_step 22 _ _ xs.length (by rfl) rfl rfl rfl rfl (by kernel_rfl) info_u64 (by omega) ?_
      intro w4 hrow hb hsz
      have HB := Aside0.mk hrow
      have HBs := Aside0.mk hHeld.2.2.out.size
      clear hrow hsz
      have a0 := pw_cell_below hb hHeld.1
      have a1 := pw_cell_below hb hHeld.2.1
      have aB := below_step hHeld.2.2.out hb
      clear hHeld hb
      refine hK.out _ _ ⟨a0, a1, ⟨aB⟩⟩ (fun hHeld => ?_)
      clear hK K
      refine norm_ (a' := ?_) ?_ ?_
      rotate_left
      · show Act.put _ (some 45) _ = _
        simp only [Act.put, List.setIfInBounds_toArray, List.set_cons_zero, List.set_cons_succ, i64_w, i32_w]
        rfl
      refine one_ (i := 13) (N := some 42) #[true, true, true, true, true, true, true, true, true, true, true, true, true, true, true, true, true, false, false, false] rfl rfl (by kernel_rfl) (by decide) (fun K hK => ?_)
      refine goes_ Tryz.func44 (by kernel_rfl) rfl #[.slice (some ⟨g, 0, none⟩) xs.length c, .int .u64 1] (by rfl) rfl rfl (by simp only [List.map_toArray, List.map_cons, List.map_nil]; rfl) ?_
      with_reducible refine (scale_calls (some ⟨g, 0, none⟩) c xs 1 _ ((In.of_mr HM.out (by omega)).below hHeld.2.2.out) HW.out (by decide) hN20).mono ?_
      rintro e w5 ⟨ga, rfl, hrow, hb, hg⟩
      refine ⟨_, rfl, ?_⟩
      have HAB := Aside0.mk (Ne.symm (Nat.ne_of_lt (Nat.lt_of_lt_of_le (Bk.lt HB.out) hg)))
      have nB := HB.out.below hb
      clear HB
      have HB := Aside0.mk nB
      clear nB
      have HA := Aside0.mk hrow
      have HAs := Aside0.mk (Nat.le_trans hHeld.2.2.out.size hg)
      clear hrow hg
      have a0 := pw_cell_below hb hHeld.1
      have a1 := pw_cell_below hb hHeld.2.1
      have aB := below_step hHeld.2.2.out hb
      clear hHeld hb
      refine hK.out _ _ ⟨a0, a1, ⟨aB⟩⟩ (fun hHeld => ?_)
      clear hK K
      refine norm_ (a' := ?_) ?_ ?_
      rotate_left
      · show Act.put _ (some 42) _ = _
        simp only [Act.put, List.setIfInBounds_toArray, List.set_cons_zero, List.set_cons_succ, i64_w, i32_w]
        rfl
      exact norm_ (by first | (simp only [putAll, Act.put, List.setIfInBounds_toArray, List.set_cons_zero, List.set_cons_succ]; done) | (simp only [putAll, Act.put, List.setIfInBounds_toArray, List.set_cons_zero, List.set_cons_succ]; rfl)) (hCont (ga, w1.heap.size) _ ⟨hHeld, HA, HB, HAs, HBs, HAB⟩)
  rintro ⟨ga, gb⟩ w6 ⟨hHeld, HA, HB, HAs, HBs, HAB⟩
  dsimp only at HA HB HAs HBs HAB
  refine norm_ (a' := ?_) ?_ ?_
  rotate_left
  · simp only [putAll, Act.put, List.setIfInBounds_toArray, List.set_cons_zero, List.set_cons_succ]
    rfl
  refine pure_ (i := 17) (N := some 46) (v := ?_) (a' := ?_) #[true, true, true, true, true, true, true, true, true, true, true, true, true, true, true, true, true, true, false, false] rfl rfl (by kernel_rfl) (fun _ _ _ h => h) (Or.inl ⟨by rfl, ?_⟩) ?_ ?_
  rotate_left
  · intro w'
    go_simp
    with_reducible rfl
  rotate_left
  · simp only [Act.put, List.setIfInBounds_toArray, List.set_cons_zero, List.set_cons_succ, i64_w, i32_w]
    rfl
  refine one_ (i := 18) (N := some 47) #[true, true, true, true, true, true, true, true, true, true, true, true, true, true, true, true, true, true, true, false] rfl rfl (by kernel_rfl) (by decide) (fun K hK => ?_)
  refine alloc_step (t := 151) (cs := #[.slice (some ⟨g0, 0, none⟩) xs.length c0, .int .u64 (fv (rut 2 0)), .slice (some ⟨ga, 0, none⟩) xs.length xs.length, .slice (some ⟨gb, 0, none⟩) xs.length xs.length]) (by rfl) rfl ?hr ?_
  case hr => first | (go_simp; done) | (go_simp; rfl)
  intro w7 hP hb hz
  have HP := Aside0.mk hP
  have HPs := Aside0.mk hHeld.2.2.out.size
  have HA7 := Aside0.mk (HA.out.below hb)
  have HB7 := Aside0.mk (HB.out.below hb)
  have a0 := pw_cell_below hb hHeld.1
  have a1 := pw_cell_below hb hHeld.2.1
  have aB := below_step hHeld.2.2.out hb
  clear hHeld hb hz hP HA HB
  refine hK.out _ _ ⟨a0, a1, ⟨aB⟩⟩ (fun hHeld => ?_)
  clear hK K
  refine norm_ (a' := ?_) ?_ ?_
  rotate_left
  · show Act.put _ (some 47) _ = _
    simp only [Act.put, List.setIfInBounds_toArray, List.set_cons_zero, List.set_cons_succ, i64_w, i32_w]
    rfl
  refine pure_ (i := 19) (N := some 7) (v := ?_) (a' := ?_) #[true, true, true, true, true, true, true, true, true, true, true, true, true, true, true, true, true, true, true, true] rfl rfl (by kernel_rfl) (fun _ _ _ h => h) (Or.inl ⟨by rfl, ?_⟩) ?_ ?_
  rotate_left
  · intro w'
    go_simp
    with_reducible rfl
  rotate_left
  · simp only [Act.put, List.setIfInBounds_toArray, List.set_cons_zero, List.set_cons_succ, i64_w, i32_w]
    rfl
  refine done_ (by kernel_rfl) ?_
  obtain ⟨P, hP⟩ : ∃ P, P = w6.heap.size := ⟨_, rfl⟩
  rw [← hP] at HP HPs ⊢
  have HSt : Aside0 (Pst w1 w7 P g0 c0 ga gb xs.length x 0 (el xs)) := ⟨hHeld.2.2.out, HP.out, by
    have h := Mr.of_rw HA7.out
    rw [tb_len, tb_congr (g := el xs) (fun i _ => by rw [fo_one]; grobner)] at h
    exact h, ⟨_, Mr.of_rw HB7.out |> fun h => by rw [List.length_replicate] at h; exact h, List.length_replicate⟩, HPs.out, HAs.out, HBs.out, HAB.out⟩
  clear hHeld hP HP HPs HA7 HB7 HAs HBs HAB
  have HX : Aside0 (x ≤ 20 ∧ xs.length = 2 ^ x) := ⟨HK.out.k, HK.out.n⟩
  have HPW := Aside0.mk HK.out.p0
  have hgp : g0 < w1.heap.size := HK.out.p0.lt
  have HY : Aside0 (Stk (dft xs.length (rut x 0) (el xs)) (rut x 0) xs.length 1 (el xs)) := ⟨Stk.first _ _ _⟩
  go_wp2
  go_loopw [8, 9] (fun v8 v9 wr => ∃ (n s k ga gb : Nat) (f : Nat → F), v8 = .int .i64 n ∧ v9 = .int .i64 s ∧ Aside0 (k ≤ x ∧ n = 2 ^ k ∧ s = 2 ^ (x - k)) ∧ Aside0 (Pst w1 wr P g0 c0 ga gb xs.length x 0 f) ∧ Aside0 (Stk (dft xs.length (rut x 0) (el xs)) (rut x 0) n s f)) (fun v8 _ _ => (intOf v8).toNat)
  case atStart => exact ⟨xs.length, 1, x, ga, gb, el xs, rfl, rfl, ⟨Nat.le_refl _, HX.out.2, by rw [Nat.sub_self]⟩, HSt, HY⟩
  case round =>
    clear HSt HY
    obtain ⟨n, s, k, ga, gb, f, rfl, rfl, HE, HSt, HY⟩ := hrel
    have hns : n * s = xs.length := by
      obtain ⟨h1, h2, h3⟩ := HE.out
      rw [h2, h3, ← Nat.pow_add, show k + (x - k) = x by omega, ← HX.out.2]
    have hs0 : 0 < s := by rw [HE.out.2.2]; exact Nat.two_pow_pos _
    have hnN : n ≤ xs.length := by rw [← hns]; exact Nat.le_mul_of_pos_right _ hs0
    have HNS := Aside0.mk hns
    have HS0 := Aside0.mk hs0
    clear hns hs0
    by_cases h4 : 4 ≤ n
    · have hk2 : 2 ≤ k := by
        rcases (by omega : k = 0 ∨ k = 1 ∨ 2 ≤ k) with q | q | q
        · have := HE.out.2.1; rw [q] at this; omega
        · have := HE.out.2.1; rw [q] at this; omega
        · exact q
      obtain ⟨m, hm⟩ : ∃ m, m = 2 ^ (k - 2) := ⟨_, rfl⟩
      have hn4 : n = 4 * m := by
        rw [HE.out.2.1, hm, show (4 : Nat) = 2 ^ 2 by rfl, ← Nat.pow_add]
        congr 1; omega
      have hm0 : 0 < m := by omega
      have Hn := Aside0.mk hn4
      have Hm := Aside0.mk hm
      have Hm0 := Aside0.mk hm0
      have Hk2 := Aside0.mk hk2
      have hq4 : decide ((4 : Int) ≤ (n : Int)) = true := decide_eq_true (by omega)
      obtain ⟨zs, hz1, hz2⟩ := HSt.out.dst
      have HZ := Aside0.mk hz1
      have HZl := Aside0.mk hz2
      obtain ⟨s4, hs4⟩ : ∃ t, t = 4 * s := ⟨_, rfl⟩
      have hsN : s4 ≤ xs.length := by rw [hs4, ← HNS.out, hn4, Nat.mul_assoc]; exact Nat.mul_le_mul_left _ (Nat.le_mul_of_pos_left _ hm0)
      have HS4 := Aside0.mk hs4
      have hmn : m < n := by omega
      have kd : (n : Int) / 4 = (m : Int) := by omega
      have ks : 4 * (s : Int) = (s4 : Int) := by omega
      obtain ⟨kA, kB⟩ := wrapb kd (by omega)
      obtain ⟨kC, kD⟩ := wrapb ks (by omega)
      clear hm hn4 hm0 hk2 hz1 hz2 hs4 hsN h4
      have HKd := Aside0.mk kd
      have HKs := Aside0.mk ks
      have HkA := Aside0.mk kA
      have HkB := Aside0.mk kB
      have HkC := Aside0.mk kC
      have HkD := Aside0.mk kD
      clear kd ks kA kB kC kD
      go_wp2_with fail
      with_reducible refine (quarter_calls P g0 c0 ga xs.length gb xs.length n m s xs.length (rut x 0) (rut 2 0) f zs _ Hn.out Hm0.out HNS.out hN20 HS0.out HSt.out.ps (HPW.out.below HSt.out.be) HSt.out.src HZ.out HZl.out (by have := HSt.out.b; omega) (Ne.symm HSt.out.ab)).mono ?_
      rintro e w8 ⟨rfl, ys', hl', hD, hf, hps, hs', hd'⟩
      have hrun := run_quarter HX.out.1 (show k - 2 + 2 ≤ x by have := HE.out.1; have := Hk2.out; omega) Hm.out (show s = 2 ^ (x - (k - 2 + 2)) by rw [HE.out.2.2]; congr 1; have := Hk2.out; omega) Hn.out HNS.out (by have := HY.out; rw [Hn.out] at this; exact this) hl' hD
      have HST8 : Aside0 (Pst w1 w8 P g0 c0 gb ga xs.length x 0 (el ys')) := ⟨Fr.be HSt.out.be hf (by
          intro k hk
          simp only [List.mem_cons, List.mem_singleton, List.not_mem_nil, or_false] at hk
          rcases hk with rfl | rfl
          · exact HSt.out.b
          · exact HSt.out.p), hps, by rw [← hrun.1]; exact hd', ⟨_, hs', tb_len _ _⟩, HSt.out.p, HSt.out.b, HSt.out.a, Ne.symm HSt.out.ab⟩
      have HY8 := Aside0.mk hrun.2
      clear hl' hD hf hps hs' hd' hrun HSt HY HZ HZl
      have kA := HkA.out
      have kB := HkB.out
      have kC := HkC.out
      have kD := HkD.out
      go_wp2
      go_roundw
      case rel => exact ⟨m, s4, k - 2, gb, ga, el ys', by first | rfl | (rw [HKd.out]) | (rw [kB]) | (rw [kA]), by first | rfl | (rw [kD]) | (rw [kC]) | (rw [HKs.out]), ⟨by have := HE.out.1; omega, Hm.out, by rw [HS4.out, HE.out.2.2, show (4 : Nat) = 2 ^ 2 by rfl, ← Nat.pow_add]; congr 1; have := HE.out.1; have := Hk2.out; omega⟩, HST8, by rw [HS4.out]; exact HY8⟩
      case measure => simp [intOf]; omega
    · have hq4 : decide ((4 : Int) ≤ (n : Int)) = false := decide_eq_false (by omega)
      have hk1 : k = 0 ∨ k = 1 := by
        rcases (by omega : k = 0 ∨ k = 1 ∨ 2 ≤ k) with q | q | q
        · exact .inl q
        · exact .inr q
        · have h5 := HE.out.2.1
          obtain ⟨j, rfl⟩ : ∃ j, k = j + 2 := ⟨k - 2, by omega⟩
          rw [Nat.pow_succ, Nat.pow_succ] at h5
          have := Nat.two_pow_pos j
          omega
      have hfin : ∀ (wz : World) (gz : Nat) (fz : Nat → F), Stk (dft xs.length (rut x 0) (el xs)) (rut x 0) 1 xs.length fz → tb xs.length fz = tb xs.length (dft xs.length (rut x 0) (el xs)) := fun _ _ fz h => tb_congr fun i hi => (h.last i hi).symm
      have HFin := Aside0.mk hfin
      clear hfin h4
      rcases hk1 with rfl | rfl
      · obtain rfl : n = 1 := HE.out.2.1
        have HSt1 := Aside0.mk (HSt.out.ps)
        have HY1 := Aside0.mk (show Stk (dft xs.length (rut x 0) (el xs)) (rut x 0) 1 xs.length f by have := HY.out; have h := HNS.out; rw [Nat.one_mul] at h; rw [h] at this; exact this)
        have v2 := HSt.out.ps.cell 2
        go_wp2_with ((with_reducible refine gate_builtin (b := .copy) (xs := #[.tmp 65, .tmp 69]) rfl ?_); refine copy_mr rfl (.tmp 65) (.tmp 69) 22 22 rfl Tryz.underlying22 size_u64 g c xs (tb xs.length f) ⟨ga, 0, none⟩ xs.length rfl (by rw [tb_len]; rfl) (HM.out.below HSt.out.be) (tb_len _ _) ?hsrc ?_; (case hsrc => (intro j hj; rw [add_at, Nat.zero_add]; exact HSt.out.src.cell j hj)); intro w9 hm9 hf9; have HM9 := Aside0.mk hm9; have HF9 := Aside0.mk hf9; clear hm9 hf9)
        go_wp2
        go_ret
        exact ⟨rfl, by rw [← HFin.out w9 ga f HY1.out]; exact HM9.out, (Fr.of_below HSt.out.be [g]).trans HF9.out⟩
      · obtain rfl : n = 2 := HE.out.2.1
        obtain ⟨zs, hz1, hz2⟩ := HSt.out.dst
        have HZ := Aside0.mk hz1
        have HZl := Aside0.mk hz2
        clear hz1 hz2
        go_wp2_with fail
        with_reducible refine (half_calls P ga xs.length gb xs.length s xs.length _ _ f zs _ HNS.out.symm hN20 ⟨HSt.out.ps, HSt.out.src, HZ.out, HZl.out, Fr.refl _ _, Ne.symm HSt.out.ab⟩).mono ?_
        rintro e w8 ⟨rfl, ys', hl', hD, hf, hps, hs', hd'⟩
        have hrun := run_half HX.out.1 HE.out.1 HE.out.2.2 HNS.out.symm HY.out hl' hD
        have HB8 := Aside0.mk (Fr.be HSt.out.be hf (by
          intro k hk
          simp only [List.mem_cons, List.mem_singleton, List.not_mem_nil, or_false] at hk
          rcases hk with rfl | rfl
          · exact HSt.out.b
          · exact HSt.out.p))
        have HD8 : Aside0 (Mr w8 gb xs.length (tb xs.length (el ys'))) := ⟨by rw [← hrun.1]; exact hd'⟩
        have HY1 := Aside0.mk (show Stk (dft xs.length (rut x 0) (el xs)) (rut x 0) 1 xs.length (el ys') by have := hrun.2; rw [HNS.out] at this; exact this)
        have v2 := hps.cell 2
        clear hl' hD hf hps hs' hd' hrun
        go_wp2_with ((with_reducible refine gate_builtin (b := .copy) (xs := #[.tmp 65, .tmp 69]) rfl ?_); refine copy_mr rfl (.tmp 65) (.tmp 69) 22 22 rfl Tryz.underlying22 size_u64 g c xs (tb xs.length (el ys')) ⟨gb, 0, none⟩ xs.length rfl (by rw [tb_len]; rfl) (HM.out.below HB8.out) (tb_len _ _) ?hsrc ?_; (case hsrc => (intro j hj; rw [add_at, Nat.zero_add]; exact HD8.out.cell j hj)); intro w9 hm9 hf9; have HM9 := Aside0.mk hm9; have HF9 := Aside0.mk hf9; clear hm9 hf9)
        go_wp2
        go_ret
        exact ⟨rfl, by rw [← HFin.out w9 ga _ HY1.out]; exact HM9.out, (Fr.of_below HB8.out [g]).trans HF9.out⟩
set_option maxHeartbeats 16000000 in
theorem plain1 (p b g0 c0 g1 c1 x N g c : Nat) (xs : List Int) (w : World) (hK : Ker w p b g0 c0 g1 c1 x N) (hM : Mr w g c xs) (hl : xs.length = N) (hW : Ws xs) (n0 : g ≠ g0) (n1 : g ≠ g1) :
    Calls Tryz.prog 103 #[.pointer (some ⟨p, 0, none⟩), .slice (some ⟨g, 0, none⟩) N c, .int .i64 1] w fun e w' => e = .returned (.int .i64 0) ∧ Mr w' g c (tb N (dft N (rut x 1) (el xs))) ∧ Fr w w' [g] := by
  obtain ⟨s0, s1, sh, hsub⟩ := hK.sub
  have hN20 : N ≤ 1048576 := by rw [hK.n]; exact pow20 hK.k
  have hN0 : 0 < N := by rw [hK.n]; exact Nat.two_pow_pos x
  have e1 : wrap64 (1 * 2 ^ min (IntKind.u64.wrap (x : Int)).toNat 64) = (N : Int) := by rw [← shl_spell1, shl_n x hK.k, hK.n]
  have e2 : wrap64 (2 ^ min (IntKind.u64.wrap (x : Int)).toNat 64) = (N : Int) := by rw [← e1, Int.one_mul]
  have HK := Aside0.mk hK
  have HM := Aside0.mk hM
  have HS := Aside0.mk hsub
  have HL := Aside0.mk hl
  have HW := Aside0.mk hW
  have q0 := hK.obj.cell 0
  have dd : decide ((1 : Int) < 0) = false := by decide
  have dd2 : decide ((1 : Int) < 1) = false := by decide
  clear hK hM hsub hl hW
  go_enter Tryz.func103, Tryz.ntmps103
  go_wp2_with fail
  with_reducible refine (k2_calls b x s0 s1 sh w HS.out).mono ?_
  rintro e w1 ⟨rfl, rfl⟩
  go_wp2_with fail
  clear q0 e1 e2 dd dd2
  obtain rfl := HL.out
  refine start_ (n := 20) (S := fun w' => w'.cell? ⟨p, 2, none⟩ = some (.slice (some ⟨g1, 0, none⟩) xs.length c1) ∧ w'.cell? ⟨p, 4, none⟩ = some (.int .u64 (fv (rut 2 1))) ∧ Aside0 (Below w1.heap.size w1 w')) (ds := []) #[false, false, false, false, false, false, false, false, false, false, false, false, false, false, false, false, false, false, false, false] (by kernel_rfl) rfl rfl ⟨HK.out.obj.cell 2, HK.out.obj.cell 4, ⟨below_drew1 (Below.refl _ _)⟩⟩ (fun hHeld => ?_)
  refine pure_ (i := 0) (N := some 29) (v := ?_) (a' := ?_) #[true, false, false, false, false, false, false, false, false, false, false, false, false, false, false, false, false, false, false, false] rfl rfl (by kernel_rfl) (fun _ _ _ h => h) (Or.inl ⟨by rfl, ?_⟩) ?_ ?_
  rotate_left
  · intro w'
    go_simp
    with_reducible rfl
  rotate_left
  · simp only [Act.put, List.setIfInBounds_toArray, List.set_cons_zero, List.set_cons_succ, i64_w, i32_w]
    rfl
  refine pure_ (i := 1) (N := some 30) (v := ?_) (a' := ?_) #[true, true, false, false, false, false, false, false, false, false, false, false, false, false, false, false, false, false, false, false] rfl rfl (by kernel_rfl) (fun _ _ _ h => h) (Or.inl ⟨by rfl, ?_⟩) ?_ ?_
  rotate_left
  · intro w'
    go_simp
    with_reducible rfl
  rotate_left
  · simp only [Act.put, List.setIfInBounds_toArray, List.set_cons_zero, List.set_cons_succ, i64_w, i32_w]
    rfl
  refine pure_ (i := 2) (N := some 31) (v := ?_) (a' := ?_) #[true, true, true, false, false, false, false, false, false, false, false, false, false, false, false, false, false, false, false, false] rfl rfl (by kernel_rfl) (fun _ _ _ h => h) (Or.inl ⟨by rfl, ?_⟩) ?_ ?_
  rotate_left
  · intro w'
    go_simp
    with_reducible rfl
  rotate_left
  · simp only [Act.put, List.setIfInBounds_toArray, List.set_cons_zero, List.set_cons_succ, i64_w, i32_w]
    rfl
  refine pure_ (i := 3) (N := some 32) (v := ?_) (a' := ?_) #[true, true, true, true, false, false, false, false, false, false, false, false, false, false, false, false, false, false, false, false] rfl rfl (by kernel_rfl) (fun _ _ _ h => h) (Or.inl ⟨by rfl, ?_⟩) ?_ ?_
  rotate_left
  · intro w'
    go_simp
    with_reducible rfl
  rotate_left
  · simp only [Act.put, List.setIfInBounds_toArray, List.set_cons_zero, List.set_cons_succ, i64_w, i32_w]
    rfl
  refine pure_ (i := 4) (N := some 33) (v := ?_) (a' := ?_) #[true, true, true, true, true, false, false, false, false, false, false, false, false, false, false, false, false, false, false, false] rfl rfl (by kernel_rfl) (fun _ _ _ h => h) (Or.inl ⟨by rfl, ?_⟩) ?_ ?_
  rotate_left
  · intro w'
    go_simp
    with_reducible rfl
  rotate_left
  · simp only [Act.put, List.setIfInBounds_toArray, List.set_cons_zero, List.set_cons_succ, i64_w, i32_w]
    rfl
  refine pure_ (i := 6) (N := some 35) (v := ?_) (a' := ?_) #[true, true, true, true, true, false, true, false, false, false, false, false, false, false, false, false, false, false, false, false] rfl rfl (by kernel_rfl) (fun _ _ _ h => h) (Or.inl ⟨by rfl, ?_⟩) ?_ ?_
  rotate_left
  · intro w'
    go_simp
    with_reducible rfl
  rotate_left
  · simp only [Act.put, List.setIfInBounds_toArray, List.set_cons_zero, List.set_cons_succ, i64_w, i32_w]
    rfl
  refine pure_ (i := 7) (N := some 36) (v := ?_) (a' := ?_) #[true, true, true, true, true, false, true, true, false, false, false, false, false, false, false, false, false, false, false, false] rfl rfl (by kernel_rfl) (fun _ _ _ h => h) (Or.inl ⟨by rfl, ?_⟩) ?_ ?_
  rotate_left
  · intro w'
    go_simp
    with_reducible rfl
  rotate_left
  · simp only [Act.put, List.setIfInBounds_toArray, List.set_cons_zero, List.set_cons_succ, i64_w, i32_w]
    rfl
  refine pure_ (i := 8) (N := some 37) (v := ?_) (a' := ?_) #[true, true, true, true, true, false, true, true, true, false, false, false, false, false, false, false, false, false, false, false] rfl rfl (by kernel_rfl) (fun _ _ _ h => h) (Or.inl ⟨by rfl, ?_⟩) ?_ ?_
  rotate_left
  · intro w'
    go_simp
    with_reducible rfl
  rotate_left
  · simp only [Act.put, List.setIfInBounds_toArray, List.set_cons_zero, List.set_cons_succ, i64_w, i32_w]
    rfl
  refine pure_ (i := 9) (N := some 38) (v := ?_) (a' := ?_) #[true, true, true, true, true, false, true, true, true, true, false, false, false, false, false, false, false, false, false, false] rfl rfl (by kernel_rfl) (fun _ _ _ h => h) (Or.inl ⟨by rfl, ?_⟩) ?_ ?_
  rotate_left
  · intro w'
    go_simp
    with_reducible rfl
  rotate_left
  · simp only [Act.put, List.setIfInBounds_toArray, List.set_cons_zero, List.set_cons_succ, i64_w, i32_w]
    rfl
  refine pure_ (i := 10) (N := some 39) (v := ?_) (a' := ?_) #[true, true, true, true, true, false, true, true, true, true, true, false, false, false, false, false, false, false, false, false] rfl rfl (by kernel_rfl) (fun _ _ _ h => h) (Or.inl ⟨by rfl, ?_⟩) ?_ ?_
  rotate_left
  · intro w'
    go_simp
    with_reducible rfl
  rotate_left
  · simp only [Act.put, List.setIfInBounds_toArray, List.set_cons_zero, List.set_cons_succ, i64_w, i32_w]
    rfl
  refine pure_ (i := 12) (N := some 41) (v := ?_) (a' := ?_) #[true, true, true, true, true, false, true, true, true, true, true, false, true, false, false, false, false, false, false, false] rfl rfl (by kernel_rfl) (fun _ _ _ h => h) (Or.inl ⟨by rfl, ?_⟩) ?_ ?_
  rotate_left
  · intro w'
    go_simp
    with_reducible rfl
  rotate_left
  · simp only [Act.put, List.setIfInBounds_toArray, List.set_cons_zero, List.set_cons_succ, i64_w, i32_w]
    rfl
  refine pure_ (i := 14) (N := some 43) (v := ?_) (a' := ?_) #[true, true, true, true, true, false, true, true, true, true, true, false, true, false, true, false, false, false, false, false] rfl rfl (by kernel_rfl) (fun _ _ _ h => h) (Or.inl ⟨by rfl, ?_⟩) ?_ ?_
  rotate_left
  · intro w'
    go_simp
    with_reducible rfl
  rotate_left
  · simp only [Act.put, List.setIfInBounds_toArray, List.set_cons_zero, List.set_cons_succ, i64_w, i32_w]
    rfl
  refine pure_ (i := 15) (N := some 44) (v := ?_) (a' := ?_) #[true, true, true, true, true, false, true, true, true, true, true, false, true, false, true, true, false, false, false, false] rfl rfl (by kernel_rfl) (fun _ _ _ h => h) (Or.inl ⟨by rfl, ?_⟩) ?_ ?_
  rotate_left
  · intro w'
    go_simp
    with_reducible rfl
  rotate_left
  · simp only [Act.put, List.setIfInBounds_toArray, List.set_cons_zero, List.set_cons_succ, i64_w, i32_w]
    rfl
  refine take_ (i := 5) (N := some 34) (v := ?_) (a' := ?_) #[true, true, true, true, true, true, true, true, true, true, true, false, true, false, true, true, false, false, false, false] rfl rfl (by kernel_rfl) (fun _ _ _ h => h) (Or.inl ⟨by rfl, ?_⟩) hHeld ?_ ?_
  rotate_left
  · rintro w' ⟨s0, s1, s2⟩
    go_simp
    with_reducible rfl
  rotate_left
  · simp only [Act.put, List.setIfInBounds_toArray, List.set_cons_zero, List.set_cons_succ, i64_w, i32_w]
    rfl
  refine take_ (i := 11) (N := some 40) (v := ?_) (a' := ?_) #[true, true, true, true, true, true, true, true, true, true, true, true, true, false, true, true, false, false, false, false] rfl rfl (by kernel_rfl) (fun _ _ _ h => h) (Or.inl ⟨by rfl, ?_⟩) hHeld ?_ ?_
  rotate_left
  · rintro w' ⟨s0, s1, s2⟩
    go_simp
    with_reducible rfl
  rotate_left
  · simp only [Act.put, List.setIfInBounds_toArray, List.set_cons_zero, List.set_cons_succ, i64_w, i32_w]
    rfl
  refine join_ (σ := Nat × Nat) 3 #[true, true, true, true, true, true, true, true, true, true, true, true, true, true, true, true, true, false, false, false] (fun s => [(42, .slice (some ⟨s.1, 0, none⟩) xs.length xs.length), (45, .slice (some ⟨s.2, 0, none⟩) xs.length xs.length)]) (fun s w' => (w'.cell? ⟨p, 2, none⟩ = some (.slice (some ⟨g1, 0, none⟩) xs.length c1) ∧ w'.cell? ⟨p, 4, none⟩ = some (.int .u64 (fv (rut 2 1))) ∧ Aside0 (Below w1.heap.size w1 w')) ∧ Aside0 (Rw w' s.1 (tb xs.length fun i => el xs i * fo 1)) ∧ Aside0 (Rw w' s.2 (List.replicate xs.length 0)) ∧ Aside0 (w1.heap.size ≤ s.1) ∧ Aside0 (w1.heap.size ≤ s.2) ∧ Aside0 (s.1 ≠ s.2)) ?_ ?_
  rotate_left
  · intro hCont
    refine two_ (i := 13) (j := 16) (Ni := some 42) (Nj := some 45) #[true, true, true, true, true, true, true, true, true, true, true, true, true, true, true, true, false, false, false, false] #[true, true, true, true, true, true, true, true, true, true, true, true, true, false, true, true, true, false, false, false] rfl rfl rfl rfl (by kernel_rfl) (by decide) (by decide) (fun K hK => ?_) (fun K hK => ?_)
    · skip
      refine goes_ Tryz.func44 (by kernel_rfl) rfl #[.slice (some ⟨g, 0, none⟩) xs.length c, .int .u64 1] (by rfl) rfl rfl (by simp only [List.map_toArray, List.map_cons, List.map_nil]; rfl) ?_
      with_reducible refine (scale_calls (some ⟨g, 0, none⟩) c xs 1 _ ((In.of_mr HM.out (by omega)).below hHeld.2.2.out) HW.out (by decide) hN20).mono ?_
      rintro e w4 ⟨ga, rfl, hrow, hb, hg⟩
      refine ⟨_, rfl, ?_⟩
      have HA := Aside0.mk hrow
      have HAs := Aside0.mk (Nat.le_trans hHeld.2.2.out.size hg)
      clear hrow hg
      have a0 := pw_cell_below hb hHeld.1
      have a1 := pw_cell_below hb hHeld.2.1
      have aB := below_step hHeld.2.2.out hb
      clear hHeld hb
      refine hK.out _ _ ⟨a0, a1, ⟨aB⟩⟩ (fun hHeld => ?_)
      clear hK K
      refine norm_ (a' := ?_) ?_ ?_
      rotate_left
      · show Act.put _ (some 42) _ = _
        simp only [Act.put, List.setIfInBounds_toArray, List.set_cons_zero, List.set_cons_succ, i64_w, i32_w]
        rfl
      refine one_ (i := 16) (N := some 45) #[true, true, true, true, true, true, true, true, true, true, true, true, true, true, true, true, true, false, false, false] rfl rfl (by kernel_rfl) (by decide) (fun K hK => ?_)
      refine make_step 22 _ _ xs.length (by rfl) rfl rfl rfl rfl (by kernel_rfl) info_u64 (by omega) ?_
      intro w5 hrow hb hsz
      have HAB := Aside0.mk (Nat.ne_of_lt (Bk.lt HA.out))
      have nA := HA.out.below hb
      clear HA
      have HA := Aside0.mk nA
      clear nA
      have HB := Aside0.mk hrow
      have HBs := Aside0.mk hHeld.2.2.out.size
      clear hrow hsz
      have a0 := pw_cell_below hb hHeld.1
      have a1 := pw_cell_below hb hHeld.2.1
      have aB := below_step hHeld.2.2.out hb
      clear hHeld hb
      refine hK.out _ _ ⟨a0, a1, ⟨aB⟩⟩ (fun hHeld => ?_)
      clear hK K
      refine norm_ (a' := ?_) ?_ ?_
      rotate_left
      · show Act.put _ (some 45) _ = _
        simp only [Act.put, List.setIfInBounds_toArray, List.set_cons_zero, List.set_cons_succ, i64_w, i32_w]
        rfl
      exact norm_ (by first | (simp only [putAll, Act.put, List.setIfInBounds_toArray, List.set_cons_zero, List.set_cons_succ]; done) | (simp only [putAll, Act.put, List.setIfInBounds_toArray, List.set_cons_zero, List.set_cons_succ]; rfl)) (hCont (ga, w4.heap.size) _ ⟨hHeld, HA, HB, HAs, HBs, HAB⟩)
    · skip
      refine make_step 22 _ _ xs.length (by rfl) rfl rfl rfl rfl (by kernel_rfl) info_u64 (by omega) ?_
      intro w4 hrow hb hsz
      have HB := Aside0.mk hrow
      have HBs := Aside0.mk hHeld.2.2.out.size
      clear hrow hsz
      have a0 := pw_cell_below hb hHeld.1
      have a1 := pw_cell_below hb hHeld.2.1
      have aB := below_step hHeld.2.2.out hb
      clear hHeld hb
      refine hK.out _ _ ⟨a0, a1, ⟨aB⟩⟩ (fun hHeld => ?_)
      clear hK K
      refine norm_ (a' := ?_) ?_ ?_
      rotate_left
      · show Act.put _ (some 45) _ = _
        simp only [Act.put, List.setIfInBounds_toArray, List.set_cons_zero, List.set_cons_succ, i64_w, i32_w]
        rfl
      refine one_ (i := 13) (N := some 42) #[true, true, true, true, true, true, true, true, true, true, true, true, true, true, true, true, true, false, false, false] rfl rfl (by kernel_rfl) (by decide) (fun K hK => ?_)
      refine goes_ Tryz.func44 (by kernel_rfl) rfl #[.slice (some ⟨g, 0, none⟩) xs.length c, .int .u64 1] (by rfl) rfl rfl (by simp only [List.map_toArray, List.map_cons, List.map_nil]; rfl) ?_
      with_reducible refine (scale_calls (some ⟨g, 0, none⟩) c xs 1 _ ((In.of_mr HM.out (by omega)).below hHeld.2.2.out) HW.out (by decide) hN20).mono ?_
      rintro e w5 ⟨ga, rfl, hrow, hb, hg⟩
      refine ⟨_, rfl, ?_⟩
      have HAB := Aside0.mk (Ne.symm (Nat.ne_of_lt (Nat.lt_of_lt_of_le (Bk.lt HB.out) hg)))
      have nB := HB.out.below hb
      clear HB
      have HB := Aside0.mk nB
      clear nB
      have HA := Aside0.mk hrow
      have HAs := Aside0.mk (Nat.le_trans hHeld.2.2.out.size hg)
      clear hrow hg
      have a0 := pw_cell_below hb hHeld.1
      have a1 := pw_cell_below hb hHeld.2.1
      have aB := below_step hHeld.2.2.out hb
      clear hHeld hb
      refine hK.out _ _ ⟨a0, a1, ⟨aB⟩⟩ (fun hHeld => ?_)
      clear hK K
      refine norm_ (a' := ?_) ?_ ?_
      rotate_left
      · show Act.put _ (some 42) _ = _
        simp only [Act.put, List.setIfInBounds_toArray, List.set_cons_zero, List.set_cons_succ, i64_w, i32_w]
        rfl
      exact norm_ (by first | (simp only [putAll, Act.put, List.setIfInBounds_toArray, List.set_cons_zero, List.set_cons_succ]; done) | (simp only [putAll, Act.put, List.setIfInBounds_toArray, List.set_cons_zero, List.set_cons_succ]; rfl)) (hCont (ga, w1.heap.size) _ ⟨hHeld, HA, HB, HAs, HBs, HAB⟩)
  rintro ⟨ga, gb⟩ w6 ⟨hHeld, HA, HB, HAs, HBs, HAB⟩
  dsimp only at HA HB HAs HBs HAB
  refine norm_ (a' := ?_) ?_ ?_
  rotate_left
  · simp only [putAll, Act.put, List.setIfInBounds_toArray, List.set_cons_zero, List.set_cons_succ]
    rfl
  refine pure_ (i := 17) (N := some 46) (v := ?_) (a' := ?_) #[true, true, true, true, true, true, true, true, true, true, true, true, true, true, true, true, true, true, false, false] rfl rfl (by kernel_rfl) (fun _ _ _ h => h) (Or.inl ⟨by rfl, ?_⟩) ?_ ?_
  rotate_left
  · intro w'
    go_simp
    with_reducible rfl
  rotate_left
  · simp only [Act.put, List.setIfInBounds_toArray, List.set_cons_zero, List.set_cons_succ, i64_w, i32_w]
    rfl
  refine one_ (i := 18) (N := some 47) #[true, true, true, true, true, true, true, true, true, true, true, true, true, true, true, true, true, true, true, false] rfl rfl (by kernel_rfl) (by decide) (fun K hK => ?_)
  refine alloc_step (t := 151) (cs := #[.slice (some ⟨g1, 0, none⟩) xs.length c1, .int .u64 (fv (rut 2 1)), .slice (some ⟨ga, 0, none⟩) xs.length xs.length, .slice (some ⟨gb, 0, none⟩) xs.length xs.length]) (by rfl) rfl ?hr ?_
  case hr => first | (go_simp; done) | (go_simp; rfl)
  intro w7 hP hb hz
  have HP := Aside0.mk hP
  have HPs := Aside0.mk hHeld.2.2.out.size
  have HA7 := Aside0.mk (HA.out.below hb)
  have HB7 := Aside0.mk (HB.out.below hb)
  have a0 := pw_cell_below hb hHeld.1
  have a1 := pw_cell_below hb hHeld.2.1
  have aB := below_step hHeld.2.2.out hb
  clear hHeld hb hz hP HA HB
  refine hK.out _ _ ⟨a0, a1, ⟨aB⟩⟩ (fun hHeld => ?_)
  clear hK K
  refine norm_ (a' := ?_) ?_ ?_
  rotate_left
  · show Act.put _ (some 47) _ = _
    simp only [Act.put, List.setIfInBounds_toArray, List.set_cons_zero, List.set_cons_succ, i64_w, i32_w]
    rfl
  refine pure_ (i := 19) (N := some 7) (v := ?_) (a' := ?_) #[true, true, true, true, true, true, true, true, true, true, true, true, true, true, true, true, true, true, true, true] rfl rfl (by kernel_rfl) (fun _ _ _ h => h) (Or.inl ⟨by rfl, ?_⟩) ?_ ?_
  rotate_left
  · intro w'
    go_simp
    with_reducible rfl
  rotate_left
  · simp only [Act.put, List.setIfInBounds_toArray, List.set_cons_zero, List.set_cons_succ, i64_w, i32_w]
    rfl
  refine done_ (by kernel_rfl) ?_
  obtain ⟨P, hP⟩ : ∃ P, P = w6.heap.size := ⟨_, rfl⟩
  rw [← hP] at HP HPs ⊢
  have HSt : Aside0 (Pst w1 w7 P g1 c1 ga gb xs.length x 1 (el xs)) := ⟨hHeld.2.2.out, HP.out, by
    have h := Mr.of_rw HA7.out
    rw [tb_len, tb_congr (g := el xs) (fun i _ => by rw [fo_one]; grobner)] at h
    exact h, ⟨_, Mr.of_rw HB7.out |> fun h => by rw [List.length_replicate] at h; exact h, List.length_replicate⟩, HPs.out, HAs.out, HBs.out, HAB.out⟩
  clear hHeld hP HP HPs HA7 HB7 HAs HBs HAB
  have HX : Aside0 (x ≤ 20 ∧ xs.length = 2 ^ x) := ⟨HK.out.k, HK.out.n⟩
  have HPW := Aside0.mk HK.out.p1
  have hgp : g1 < w1.heap.size := HK.out.p1.lt
  have HY : Aside0 (Stk (dft xs.length (rut x 1) (el xs)) (rut x 1) xs.length 1 (el xs)) := ⟨Stk.first _ _ _⟩
  go_wp2
  go_loopw [8, 9] (fun v8 v9 wr => ∃ (n s k ga gb : Nat) (f : Nat → F), v8 = .int .i64 n ∧ v9 = .int .i64 s ∧ Aside0 (k ≤ x ∧ n = 2 ^ k ∧ s = 2 ^ (x - k)) ∧ Aside0 (Pst w1 wr P g1 c1 ga gb xs.length x 1 f) ∧ Aside0 (Stk (dft xs.length (rut x 1) (el xs)) (rut x 1) n s f)) (fun v8 _ _ => (intOf v8).toNat)
  case atStart => exact ⟨xs.length, 1, x, ga, gb, el xs, rfl, rfl, ⟨Nat.le_refl _, HX.out.2, by rw [Nat.sub_self]⟩, HSt, HY⟩
  case round =>
    clear HSt HY
    obtain ⟨n, s, k, ga, gb, f, rfl, rfl, HE, HSt, HY⟩ := hrel
    have hns : n * s = xs.length := by
      obtain ⟨h1, h2, h3⟩ := HE.out
      rw [h2, h3, ← Nat.pow_add, show k + (x - k) = x by omega, ← HX.out.2]
    have hs0 : 0 < s := by rw [HE.out.2.2]; exact Nat.two_pow_pos _
    have hnN : n ≤ xs.length := by rw [← hns]; exact Nat.le_mul_of_pos_right _ hs0
    have HNS := Aside0.mk hns
    have HS0 := Aside0.mk hs0
    clear hns hs0
    by_cases h4 : 4 ≤ n
    · have hk2 : 2 ≤ k := by
        rcases (by omega : k = 0 ∨ k = 1 ∨ 2 ≤ k) with q | q | q
        · have := HE.out.2.1; rw [q] at this; omega
        · have := HE.out.2.1; rw [q] at this; omega
        · exact q
      obtain ⟨m, hm⟩ : ∃ m, m = 2 ^ (k - 2) := ⟨_, rfl⟩
      have hn4 : n = 4 * m := by
        rw [HE.out.2.1, hm, show (4 : Nat) = 2 ^ 2 by rfl, ← Nat.pow_add]
        congr 1; omega
      have hm0 : 0 < m := by omega
      have Hn := Aside0.mk hn4
      have Hm := Aside0.mk hm
      have Hm0 := Aside0.mk hm0
      have Hk2 := Aside0.mk hk2
      have hq4 : decide ((4 : Int) ≤ (n : Int)) = true := decide_eq_true (by omega)
      obtain ⟨zs, hz1, hz2⟩ := HSt.out.dst
      have HZ := Aside0.mk hz1
      have HZl := Aside0.mk hz2
      obtain ⟨s4, hs4⟩ : ∃ t, t = 4 * s := ⟨_, rfl⟩
      have hsN : s4 ≤ xs.length := by rw [hs4, ← HNS.out, hn4, Nat.mul_assoc]; exact Nat.mul_le_mul_left _ (Nat.le_mul_of_pos_left _ hm0)
      have HS4 := Aside0.mk hs4
      have hmn : m < n := by omega
      have kd : (n : Int) / 4 = (m : Int) := by omega
      have ks : 4 * (s : Int) = (s4 : Int) := by omega
      obtain ⟨kA, kB⟩ := wrapb kd (by omega)
      obtain ⟨kC, kD⟩ := wrapb ks (by omega)
      clear hm hn4 hm0 hk2 hz1 hz2 hs4 hsN h4
      have HKd := Aside0.mk kd
      have HKs := Aside0.mk ks
      have HkA := Aside0.mk kA
      have HkB := Aside0.mk kB
      have HkC := Aside0.mk kC
      have HkD := Aside0.mk kD
      clear kd ks kA kB kC kD
      go_wp2_with fail
      with_reducible refine (quarter_calls P g1 c1 ga xs.length gb xs.length n m s xs.length (rut x 1) (rut 2 1) f zs _ Hn.out Hm0.out HNS.out hN20 HS0.out HSt.out.ps (HPW.out.below HSt.out.be) HSt.out.src HZ.out HZl.out (by have := HSt.out.b; omega) (Ne.symm HSt.out.ab)).mono ?_
      rintro e w8 ⟨rfl, ys', hl', hD, hf, hps, hs', hd'⟩
      have hrun := run_quarter HX.out.1 (show k - 2 + 2 ≤ x by have := HE.out.1; have := Hk2.out; omega) Hm.out (show s = 2 ^ (x - (k - 2 + 2)) by rw [HE.out.2.2]; congr 1; have := Hk2.out; omega) Hn.out HNS.out (by have := HY.out; rw [Hn.out] at this; exact this) hl' hD
      have HST8 : Aside0 (Pst w1 w8 P g1 c1 gb ga xs.length x 1 (el ys')) := ⟨Fr.be HSt.out.be hf (by
          intro k hk
          simp only [List.mem_cons, List.mem_singleton, List.not_mem_nil, or_false] at hk
          rcases hk with rfl | rfl
          · exact HSt.out.b
          · exact HSt.out.p), hps, by rw [← hrun.1]; exact hd', ⟨_, hs', tb_len _ _⟩, HSt.out.p, HSt.out.b, HSt.out.a, Ne.symm HSt.out.ab⟩
      have HY8 := Aside0.mk hrun.2
      clear hl' hD hf hps hs' hd' hrun HSt HY HZ HZl
      have kA := HkA.out
      have kB := HkB.out
      have kC := HkC.out
      have kD := HkD.out
      go_wp2
      go_roundw
      case rel => exact ⟨m, s4, k - 2, gb, ga, el ys', by first | rfl | (rw [HKd.out]) | (rw [kB]) | (rw [kA]), by first | rfl | (rw [kD]) | (rw [kC]) | (rw [HKs.out]), ⟨by have := HE.out.1; omega, Hm.out, by rw [HS4.out, HE.out.2.2, show (4 : Nat) = 2 ^ 2 by rfl, ← Nat.pow_add]; congr 1; have := HE.out.1; have := Hk2.out; omega⟩, HST8, by rw [HS4.out]; exact HY8⟩
      case measure => simp [intOf]; omega
    · have hq4 : decide ((4 : Int) ≤ (n : Int)) = false := decide_eq_false (by omega)
      have hk1 : k = 0 ∨ k = 1 := by
        rcases (by omega : k = 0 ∨ k = 1 ∨ 2 ≤ k) with q | q | q
        · exact .inl q
        · exact .inr q
        · have h5 := HE.out.2.1
          obtain ⟨j, rfl⟩ : ∃ j, k = j + 2 := ⟨k - 2, by omega⟩
          rw [Nat.pow_succ, Nat.pow_succ] at h5
          have := Nat.two_pow_pos j
          omega
      have hfin : ∀ (wz : World) (gz : Nat) (fz : Nat → F), Stk (dft xs.length (rut x 1) (el xs)) (rut x 1) 1 xs.length fz → tb xs.length fz = tb xs.length (dft xs.length (rut x 1) (el xs)) := fun _ _ fz h => tb_congr fun i hi => (h.last i hi).symm
      have HFin := Aside0.mk hfin
      clear hfin h4
      rcases hk1 with rfl | rfl
      · obtain rfl : n = 1 := HE.out.2.1
        have HSt1 := Aside0.mk (HSt.out.ps)
        have HY1 := Aside0.mk (show Stk (dft xs.length (rut x 1) (el xs)) (rut x 1) 1 xs.length f by have := HY.out; have h := HNS.out; rw [Nat.one_mul] at h; rw [h] at this; exact this)
        have v2 := HSt.out.ps.cell 2
        go_wp2_with ((with_reducible refine gate_builtin (b := .copy) (xs := #[.tmp 65, .tmp 69]) rfl ?_); refine copy_mr rfl (.tmp 65) (.tmp 69) 22 22 rfl Tryz.underlying22 size_u64 g c xs (tb xs.length f) ⟨ga, 0, none⟩ xs.length rfl (by rw [tb_len]; rfl) (HM.out.below HSt.out.be) (tb_len _ _) ?hsrc ?_; (case hsrc => (intro j hj; rw [add_at, Nat.zero_add]; exact HSt.out.src.cell j hj)); intro w9 hm9 hf9; have HM9 := Aside0.mk hm9; have HF9 := Aside0.mk hf9; clear hm9 hf9)
        go_wp2
        go_ret
        exact ⟨rfl, by rw [← HFin.out w9 ga f HY1.out]; exact HM9.out, (Fr.of_below HSt.out.be [g]).trans HF9.out⟩
      · obtain rfl : n = 2 := HE.out.2.1
        obtain ⟨zs, hz1, hz2⟩ := HSt.out.dst
        have HZ := Aside0.mk hz1
        have HZl := Aside0.mk hz2
        clear hz1 hz2
        go_wp2_with fail
        with_reducible refine (half_calls P ga xs.length gb xs.length s xs.length _ _ f zs _ HNS.out.symm hN20 ⟨HSt.out.ps, HSt.out.src, HZ.out, HZl.out, Fr.refl _ _, Ne.symm HSt.out.ab⟩).mono ?_
        rintro e w8 ⟨rfl, ys', hl', hD, hf, hps, hs', hd'⟩
        have hrun := run_half HX.out.1 HE.out.1 HE.out.2.2 HNS.out.symm HY.out hl' hD
        have HB8 := Aside0.mk (Fr.be HSt.out.be hf (by
          intro k hk
          simp only [List.mem_cons, List.mem_singleton, List.not_mem_nil, or_false] at hk
          rcases hk with rfl | rfl
          · exact HSt.out.b
          · exact HSt.out.p))
        have HD8 : Aside0 (Mr w8 gb xs.length (tb xs.length (el ys'))) := ⟨by rw [← hrun.1]; exact hd'⟩
        have HY1 := Aside0.mk (show Stk (dft xs.length (rut x 1) (el xs)) (rut x 1) 1 xs.length (el ys') by have := hrun.2; rw [HNS.out] at this; exact this)
        have v2 := hps.cell 2
        clear hl' hD hf hps hs' hd' hrun
        go_wp2_with ((with_reducible refine gate_builtin (b := .copy) (xs := #[.tmp 65, .tmp 69]) rfl ?_); refine copy_mr rfl (.tmp 65) (.tmp 69) 22 22 rfl Tryz.underlying22 size_u64 g c xs (tb xs.length (el ys')) ⟨gb, 0, none⟩ xs.length rfl (by rw [tb_len]; rfl) (HM.out.below HB8.out) (tb_len _ _) ?hsrc ?_; (case hsrc => (intro j hj; rw [add_at, Nat.zero_add]; exact HD8.out.cell j hj)); intro w9 hm9 hf9; have HM9 := Aside0.mk hm9; have HF9 := Aside0.mk hf9; clear hm9 hf9)
        go_wp2
        go_ret
        exact ⟨rfl, by rw [← HFin.out w9 ga _ HY1.out]; exact HM9.out, (Fr.of_below HB8.out [g]).trans HF9.out⟩
end Go.Proofs.YtpnkcjnemoompaaGreatDoor.Kern
end
section
namespace Go.Proofs.YtpnkcjnemoompaaGreatDoor.Kern
open Go.RowKit Go.Proofs.YtpnkcjnemoompaaGreatDoor Go.Proofs.YtpnkcjnemoompaaGreatDoor.Ext Go.Proofs.YtpnkcjnemoompaaGreatDoor.PPlan Go.Proofs.YtpnkcjnemoompaaGreatDoor.PFft Go.Proofs.YtpnkcjnemoompaaGreatDoor.Pure Go.Proofs.YtpnkcjnemoompaaGreatDoor.Obj Go.Proofs.YtpnkcjnemoompaaGreatDoor.Fft Go.Proofs.YtpnkcjnemoompaaGreatDoorW.PrintWords Go.Proofs.YtpnkcjnemoompaaGreatDoorW.PrintLast Go.Proofs.YtpnkcjnemoompaaGreatDoorW.PrintMore
set_option linter.unusedVariables false
set_option linter.unusedSimpArgs false
set_option maxRecDepth 100000
theorem Ker.lts {w : World} {p b g0 c0 g1 c1 x N : Nat} (h : Ker w p b g0 c0 g1 c1 x N) : p < w.heap.size ∧ b < w.heap.size ∧ g0 < w.heap.size ∧ g1 < w.heap.size := by
  obtain ⟨s0, s1, sh, hs⟩ := h.sub
  exact ⟨h.obj.lt, hs.lt, h.p0.lt, h.p1.lt⟩
theorem Ker.keep {w w' : World} {p b g0 c0 g1 c1 x N g c : Nat} {xs : List Int} (h : Ker w p b g0 c0 g1 c1 x N) (hM : Mr w g c xs) (n0 : g ≠ g0) (n1 : g ≠ g1) (hf : Fr w w' [g]) : Ker w' p b g0 c0 g1 c1 x N := by
  obtain ⟨s0, s1, sh, hs⟩ := h.sub
  refine h.fr hf ?_ ?_ ?_ ?_
  · simpa using hM.ne h.obj (by decide)
  · simpa using hM.ne hs (by decide)
  · simpa using Ne.symm n0
  · simpa using Ne.symm n1
theorem run0 (p b g0 c0 g1 c1 x N g c : Nat) (xs : List Int) (w : World) (hK : Ker w p b g0 c0 g1 c1 x N) (hM : Mr w g c xs) (hl : xs.length = N) (hW : Ws xs) (n0 : g ≠ g0) (n1 : g ≠ g1) :
    Calls Tryz.prog 93 #[.pointer (some ⟨p, 0, none⟩), .slice (some ⟨g, 0, none⟩) N c, .int .i64 0] w fun e w' => e = .returned (.int .i64 0) ∧ Mr w' g c (tb N (tr x 0 (el xs))) ∧ Fr w w' [g] := by
  have HC := Aside0.mk (plain0 p b g0 c0 g1 c1 x N g c xs w hK hM hl hW n0 n1)
  have e : tb N (tr x 0 (el xs)) = tb N (dft N (rut x 0) (el xs)) := tb_congr fun i _ => by
    unfold tr
    rw [if_neg (by decide), ← hK.n]; grobner
  rw [e]
  clear hK hM hl hW n0 n1 e
  go_enter Tryz.func93, Tryz.ntmps93
  go_wp2_with fail
  refine HC.out.mono ?_
  rintro e w1 ⟨rfl, hm, hf⟩
  have HM := Aside0.mk hm
  have HF := Aside0.mk hf
  clear hm hf
  go_wp2
  go_ret
  exact ⟨rfl, HM.out, HF.out⟩
theorem run1 (p b g0 c0 g1 c1 x N g c : Nat) (xs : List Int) (w : World) (hK : Ker w p b g0 c0 g1 c1 x N) (hM : Mr w g c xs) (hl : xs.length = N) (hW : Ws xs) (n0 : g ≠ g0) (n1 : g ≠ g1) :
    Calls Tryz.prog 93 #[.pointer (some ⟨p, 0, none⟩), .slice (some ⟨g, 0, none⟩) N c, .int .i64 1] w fun e w' => e = .returned (.int .i64 0) ∧ Mr w' g c (tb N (tr x 1 (el xs))) ∧ Fr w w' [g] := by
  have HC := Aside0.mk (plain1 p b g0 c0 g1 c1 x N g c xs w hK hM hl hW n0 n1)
  have hN20 : N ≤ 1048576 := by rw [hK.n]; exact pow20 hK.k
  have e : tb N (tr x 1 (el xs)) = tb N (fun i => el (tb N (dft N (rut x 1) (el xs))) i * fo (fv (shf x))) := tb_congr fun i hi => by
    unfold tr
    rw [if_pos rfl, ← hK.n, el_tb _ hi, fo_fv]
  rw [e]
  have HK := Aside0.mk (fun w' (hf : Fr w w' [g]) => hK.keep hM n0 n1 hf)
  clear hK hM hl hW n0 n1 e
  obtain ⟨ys, hys⟩ : ∃ ys, ys = tb N (dft N (rut x 1) (el xs)) := ⟨_, rfl⟩
  rw [← hys] at HC ⊢
  have hyl : ys.length = N := by rw [hys, tb_len]
  have HWs : Aside0 (Ws ys) := ⟨by rw [hys]; exact tb_ws _ _⟩
  clear hys
  obtain rfl := hyl
  go_enter Tryz.func93, Tryz.ntmps93
  go_wp2_with fail
  refine HC.out.mono ?_
  rintro e w1 ⟨rfl, hm, hf⟩
  have HM := Aside0.mk hm
  have HF := Aside0.mk hf
  have HK1 := Aside0.mk (HK.out w1 hf)
  have u5 := HK1.out.obj.cell 5
  clear hm hf
  go_wp2_with fail
  with_reducible refine (scale_calls (some ⟨g, 0, none⟩) c ys (fv (shf x)) _ (In.of_mr HM.out (by omega)) HWs.out (fv_w _) hN20).mono ?_
  rintro e w2 ⟨gs, rfl, hr, hb, hg⟩
  have HR := Aside0.mk (Mr.of_rw hr)
  have HM2 := Aside0.mk (HM.out.below hb)
  have HF2 := Aside0.mk (HF.out.trans (Fr.of_below hb [g]))
  rw [tb_len] at HR
  clear hr hb hg u5
  go_wp2_with ((with_reducible refine gate_builtin (b := .copy) (xs := #[.tmp 18, .tmp 24]) rfl ?_); refine copy_mr rfl (.tmp 18) (.tmp 24) 22 22 rfl Tryz.underlying22 size_u64 g c ys (tb ys.length fun i => el ys i * fo (fv (shf x))) ⟨gs, 0, none⟩ ys.length rfl (by rw [tb_len]; rfl) HM2.out (tb_len _ _) ?hsrc ?_; (case hsrc => (intro j hj; rw [add_at, Nat.zero_add]; exact HR.out.cell j hj)); intro w9 hm9 hf9; have HM9 := Aside0.mk hm9; have HF9 := Aside0.mk (HF2.out.trans hf9); clear hm9 hf9)
  go_wp2
  go_ret
  exact ⟨rfl, HM9.out, HF9.out⟩
theorem run_calls (p b g0 c0 g1 c1 x N g c : Nat) (xs : List Int) (d : Int) (hd : d = 0 ∨ d = 1) (w : World) (hK : Ker w p b g0 c0 g1 c1 x N) (hM : Mr w g c xs) (hl : xs.length = N) (hW : Ws xs) (n0 : g ≠ g0) (n1 : g ≠ g1) :
    Calls Tryz.prog 93 #[.pointer (some ⟨p, 0, none⟩), .slice (some ⟨g, 0, none⟩) N c, .int .i64 d] w fun e w' => e = .returned (.int .i64 0) ∧ Mr w' g c (tb N (tr x d (el xs))) ∧ Fr w w' [g] := by
  rcases hd with rfl | rfl
  · exact run0 p b g0 c0 g1 c1 x N g c xs w hK hM hl hW n0 n1
  · exact run1 p b g0 c0 g1 c1 x N g c xs w hK hM hl hW n0 n1
end Go.Proofs.YtpnkcjnemoompaaGreatDoor.Kern
end
section
set_option linter.unusedVariables false
set_option linter.unusedSimpArgs false
namespace Go.Proofs.YtpnkcjnemoompaaGreatDoor.Fft
open Go.RowKit Go.Proofs.YtpnkcjnemoompaaGreatDoor Go.Proofs.YtpnkcjnemoompaaGreatDoor.Pure Go.Proofs.YtpnkcjnemoompaaGreatDoor.PPlan Go.Proofs.YtpnkcjnemoompaaGreatDoor.PFft Go.Proofs.YtpnkcjnemoompaaGreatDoor.Ext Go.Proofs.YtpnkcjnemoompaaGreatDoorW.PrintWords Go.Proofs.YtpnkcjnemoompaaGreatDoorW.PrintLast Go.Proofs.YtpnkcjnemoompaaGreatDoorW.PrintMore
def Vg (off step n L : Int) : Prop := 0 ≤ n ∧ n ≤ 1048576 ∧ 1 ≤ step ∧ 0 ≤ off ∧ (n = 0 ∨ off + (n - 1) * step < L)
theorem vgood_yes (off step n L : Int) (h : Vg off step n L) (hL : 0 ≤ L ∧ L ≤ 1048576) : rows_Good.f off step n L = some true := by
  obtain ⟨h1, h2, h3, h4, h5⟩ := h
  unfold rows_Good.f
  rw [if_neg (by omega), if_neg (by omega), if_neg (by omega), if_neg (by omega)]
  by_cases n0 : n = 0
  · rw [if_pos n0]
  · rw [if_neg n0]
    have h6 : off + (n - 1) * step < L := by
      rcases h5 with h5 | h5
      · omega
      · exact h5
    have hnn : 0 ≤ (n - 1) * step := Int.mul_nonneg (by omega) (by omega)
    rw [if_pos (by omega)]
    by_cases n1 : n = 1
    · rw [if_pos n1]
    · rw [if_neg n1]
      have e1 : wrap64 (n - 1) = n - 1 := wrap_i _ (by omega) (by omega)
      have e2 : wrap64 (L - 1) = L - 1 := wrap_i _ (by omega) (by omega)
      have e3 : wrap64 (L - 1 - off) = L - 1 - off := wrap_i _ (by omega) (by omega)
      rw [e1, if_neg (by omega), e2, e3]
      have hd : step ≤ Int.tdiv (L - 1 - off) (n - 1) := by
        rw [Int.tdiv_eq_ediv_of_nonneg (by omega)]
        refine (Int.le_ediv_iff_mul_le (by omega)).2 ?_
        rw [Int.mul_comm]; omega
      have hle : Int.tdiv (L - 1 - off) (n - 1) ≤ L - 1 - off := by
        rw [Int.tdiv_eq_ediv_of_nonneg (by omega)]
        exact Int.ediv_le_self _ (by omega)
      have e4 : wrap64 (Int.tdiv (L - 1 - off) (n - 1)) = Int.tdiv (L - 1 - off) (n - 1) := wrap_i _ (by omega) (by omega)
      rw [e4, decide_eq_true hd]
structure Vn (off step n L : Nat) : Prop where
  hn : n ≤ 1048576
  hs : 1 ≤ step
  lt : ∀ i, i < n → off + i * step < L
theorem Vn.good {off step n L : Nat} (h : Vn off step n L) : Vg off step n L := by
  refine ⟨by omega, by have := h.hn; omega, by have := h.hs; omega, by omega, ?_⟩
  rcases Nat.eq_zero_or_pos n with rfl | hn
  · exact .inl rfl
  · have := h.lt (n - 1) (by omega)
    refine .inr ?_
    have e : ((n : Int) - 1) * (step : Int) = (((n - 1) * step : Nat) : Int) := by rw [Int.natCast_mul]; congr 1; omega
    rw [e]; omega
def gat (l : List Int) (off step n : Nat) : List Int := (List.range n).map fun i => l.getD (off + i * step) 0
theorem gat_len (l : List Int) (off step n : Nat) : (gat l off step n).length = n := by simp [gat]
theorem gat_get (l : List Int) (off step : Nat) {n i : Nat} (h : i < n) : (gat l off step n).getD i 0 = l.getD (off + i * step) 0 := by simp [gat, List.getD, h]
theorem gat_ws {l : List Int} (h : Ws l) (off step n : Nat) : Ws (gat l off step n) := by
  intro i
  by_cases hi : i < n
  · rw [gat_get l off step hi]; exact h _
  · have : (gat l off step n)[i]? = none := List.getElem?_eq_none (by rw [gat_len]; omega)
    rw [List.getD_eq_getElem?_getD, this]; decide
theorem gat_succ (l : List Int) (off step n : Nat) : gat l off step (n + 1) = gat l off step n ++ [l.getD (off + n * step) 0] := by simp [gat, List.range_succ]
theorem el_gat (l : List Int) (off step : Nat) {n i : Nat} (h : i < n) : el (gat l off step n) i = el l (off + i * step) := by unfold el; rw [gat_get l off step h]
def sct (xs : List Int) (off step : Nat) (ws : List Int) : Nat → List Int
  | 0 => xs
  | i + 1 => (sct xs off step ws i).set (off + i * step) (ws.getD i 0)
theorem sct_len (xs : List Int) (off step : Nat) (ws : List Int) (i : Nat) : (sct xs off step ws i).length = xs.length := by
  induction i with
  | zero => rfl
  | succ i ih => rw [sct, List.length_set, ih]
def gfl (l : List Int) (off step n i : Nat) : List Int := gat l off step i ++ List.replicate (n - i) 0
theorem gfl_set (l : List Int) (off step : Nat) {n i : Nat} (h : i < n) : (gfl l off step n i).set i (l.getD (off + i * step) 0) = gfl l off step n (i + 1) := by
  unfold gfl
  rw [List.set_append_right _ _ (by rw [gat_len]; omega), gat_len, Nat.sub_self, gat_succ]
  obtain ⟨m, hm⟩ : ∃ m, n - i = m + 1 := ⟨n - i - 1, by omega⟩
  rw [hm, show n - (i + 1) = m by omega, List.replicate_succ, List.set_cons_zero]
  simp
theorem gfl_len (l : List Int) (off step : Nat) {n i : Nat} (h : i ≤ n) : (gfl l off step n i).length = n := by simp [gfl, gat_len]; omega
end Go.Proofs.YtpnkcjnemoompaaGreatDoor.Fft
end
section
namespace Go.Proofs.YtpnkcjnemoompaaGreatDoor.Kern
open Go.RowKit Go.Proofs.YtpnkcjnemoompaaGreatDoor Go.Proofs.YtpnkcjnemoompaaGreatDoor.Ext Go.Proofs.YtpnkcjnemoompaaGreatDoor.PPlan Go.Proofs.YtpnkcjnemoompaaGreatDoor.PFft Go.Proofs.YtpnkcjnemoompaaGreatDoor.Pure Go.Proofs.YtpnkcjnemoompaaGreatDoor.Obj Go.Proofs.YtpnkcjnemoompaaGreatDoor.Fft Go.Proofs.YtpnkcjnemoompaaGreatDoorW.PrintWords Go.Proofs.YtpnkcjnemoompaaGreatDoorW.PrintLast Go.Proofs.YtpnkcjnemoompaaGreatDoorW.PrintMore
set_option linter.unusedVariables false
set_option linter.unusedSimpArgs false
set_option maxRecDepth 100000
theorem view_num {o s i L t : Nat} (h : t = o + i * s) (hL : t < L) (hL2 : L ≤ 1048576) : (IntKind.i64.wrap ((i : Int) * (s : Int)) = ((i * s : Nat) : Int) ∧ wrap64 ((i : Int) * (s : Int)) = ((i * s : Nat) : Int)) ∧ (IntKind.i64.wrap ((o : Int) + ((i * s : Nat) : Int)) = (t : Int) ∧ wrap64 ((o : Int) + ((i * s : Nat) : Int)) = (t : Int)) :=
  ⟨wrapb (by rw [Int.natCast_mul]) (by omega), wrapb (by rw [h]; omega) (by omega)⟩
set_option maxHeartbeats 4000000 in
theorem gather_yes (A : Option Addr) (c : Nat) (l : List Int) (o s n : Nat) (w : World) (hl : In w A c l) (hv : Vn o s n l.length) (hL : l.length ≤ 1048576) :
    Calls Tryz.prog 92 #[.slice A l.length c, .agg #[.int .i64 (o : Int), .int .i64 (s : Int), .int .i64 (n : Int)]] w fun e w' => ∃ g, e = .returned (.tuple #[.slice (some ⟨g, 0, none⟩) n n, .int .i64 0]) ∧ Rw w' g (gat l o s n) ∧ Below w.heap.size w w' ∧ w.heap.size ≤ g := by
  have HG := Aside0.mk (vgood_yes o s n l.length hv.good ⟨by omega, by omega⟩)
  have HV := Aside0.mk hv
  have HL := Aside0.mk hl
  have hn2 := hv.hn
  have HB := Aside0.mk (below_alloc (Below.refl w.heap.size w) (Obj.cells #[.int .i64 (o : Int), .int .i64 (s : Int), .int .i64 (n : Int)] 97))
  have HK := Aside0.mk (Bk.new w 97 [.int .i64 (o : Int), .int .i64 (s : Int), .int .i64 (n : Int)])
  clear hl hv
  go_enter Tryz.func92, Tryz.ntmps92
  go_wp2_with fail
  with_reducible refine (rows_Good.calls o s n l.length true _ HG.out).mono ?_
  rintro e w1 ⟨rfl, hb⟩
  have HB1 := Aside0.mk (below_then HB.out HB.out.size hb)
  have HK1 := Aside0.mk (HK.out.below hb)
  obtain ⟨bv, hbv⟩ : ∃ b, b = w.heap.size := ⟨_, rfl⟩
  rw [← hbv] at HK1 ⊢
  have HBv : Aside0 (w.heap.size ≤ bv) := ⟨by omega⟩
  have u2 := HK1.out.cell 2
  clear hb HB HK hbv
  go_wp2_with ((with_reducible refine gate_dst (N := 15) rfl ?_); refine make_row rfl 22 (.tmp 14) (.tmp 14) rfl n rfl rfl Tryz.underlying22 info_u64 (by omega) ?_; intro w2 hrow hb hsz; have HR := Aside0.mk (show Rw w2 w1.heap.size (gfl l o s n 0) by unfold gfl; exact hrow); have HB2 := Aside0.mk (below_then HB1.out HB1.out.size hb); have HK2 := Aside0.mk (HK1.out.below hb); clear hrow hb hsz u2)
  have HG0 : Aside0 (w.heap.size ≤ w1.heap.size) := ⟨HB1.out.size⟩
  obtain ⟨g, hg⟩ : ∃ g, g = w1.heap.size := ⟨_, rfl⟩
  rw [← hg] at HR HG0 ⊢
  clear hg HB1 HK1
  go_loopw [18] (fun v18 wr => ∃ i : Nat, v18 = .int .i64 i ∧ i ≤ n ∧ Aside0 (Rw wr g (gfl l o s n i)) ∧ Aside0 (Below w.heap.size w wr) ∧ Aside0 (Bk wr bv 97 [.int .i64 (o : Int), .int .i64 (s : Int), .int .i64 (n : Int)])) (fun v18 _ => n - (intOf v18).toNat)
  case atStart => exact ⟨0, rfl, Nat.zero_le _, HR, HB2, HK2⟩
  case round =>
    clear HR HB2 HK2
    obtain ⟨i, rfl, hi, HR, HB, HK⟩ := hrel
    by_cases h1 : i < n
    · have hia : (i : Int) < (n : Int) := by omega
      have ht := HV.out.lt i h1
      obtain ⟨ad, q, hx⟩ := Kd.at_int (HL.out.below HB.out).r ((o + i * s : Nat) : Int) (by omega) (by omega)
      cases q
      simp only [Int.toNat_natCast] at hx
      rw [rdn] at hx
      obtain ⟨t, htt⟩ : ∃ t, t = o + i * s := ⟨_, rfl⟩
      rw [← htt] at hx ht
      obtain ⟨⟨kA, kB⟩, kC, kD⟩ := view_num htt ht hL
      have HF := Aside0.mk (gfl_set l o s h1)
      rw [← htt] at HF
      have t0 : (0 : Int) ≤ (t : Int) := by omega
      have t1 : (t : Int) < (l.length : Int) := by omega
      obtain ⟨is, his⟩ : ∃ x, x = i * s := ⟨_, rfl⟩
      rw [← his] at kA kB kC kD
      generalize l.getD t 0 = x at *
      have u0 := HK.out.cell 0
      have u1 := HK.out.cell 1
      have u3 := HR.out.cell i (by rw [gfl_len _ _ _ hi]; exact h1)
      have u4 := Bk.frozen HR.out i
      clear htt ht his
      go_wp2
      clear kA kB kC kD
      go_roundw
      case rel => exact ⟨i + 1, by go_num, by omega, ⟨by rw [← HF.out]; exact HR.out.put i x⟩, ⟨HB.out.setCell (p := ⟨g, i, none⟩) HG0.out _⟩, ⟨HK.out.far i _ (HK.out.ne HR.out (by decide))⟩⟩
      case measure => simp [intOf]; omega
    · obtain rfl : i = n := by omega
      have hia : decide ((i : Int) < (i : Int)) = false := decide_eq_false (by omega)
      go_wp2
      go_ret2
      have hr := HR.out
      unfold gfl at hr
      rw [Nat.sub_self, List.replicate_zero, List.append_nil] at hr
      exact ⟨_, rfl, hr, HB.out, HG0.out⟩
end Go.Proofs.YtpnkcjnemoompaaGreatDoor.Kern
end
section
set_option linter.unusedVariables false
set_option linter.unusedSimpArgs false
namespace Go.Proofs.YtpnkcjnemoompaaGreatDoor.Pure
open Go.RowKit Go.Proofs.YtpnkcjnemoompaaGreatDoor Go.Proofs.YtpnkcjnemoompaaGreatDoor.PPlan Go.Proofs.YtpnkcjnemoompaaGreatDoor.Ext Go.Proofs.YtpnkcjnemoompaaGreatDoorW.PrintWords Go.Proofs.YtpnkcjnemoompaaGreatDoorW.PrintLast Go.Proofs.YtpnkcjnemoompaaGreatDoorW.PrintMore
theorem and_pred (k m : Nat) : (2 ^ k * (2 * m + 1)) &&& (2 ^ k * (2 * m + 1) - 1) = 2 ^ k * (2 * m) := by
  have hp := Nat.two_pow_pos k
  have e : 2 ^ k * (2 * m + 1) - 1 = 2 ^ k * (2 * m) + (2 ^ k - 1) := by rw [Nat.mul_add]; omega
  rw [e]
  apply Nat.eq_of_testBit_eq
  intro j
  have h1 := Nat.testBit_two_pow_mul_add (2 * m + 1) hp j
  have h2 := Nat.testBit_two_pow_mul_add (2 * m) (show 2 ^ k - 1 < 2 ^ k by omega) j
  have h3 := Nat.testBit_two_pow_mul_add (2 * m) hp j
  rw [Nat.add_zero] at h1 h3
  rw [Nat.testBit_and, h1, h2, h3]
  by_cases hj : j < k
  · simp [hj]
  · simp only [hj, if_false]
    cases hd : j - k with
    | zero => simp [Nat.testBit_zero]
    | succ d =>
      rw [Nat.testBit_succ, Nat.testBit_succ, show (2 * m + 1) / 2 = m by omega, show 2 * m / 2 = m by omega, Bool.and_self]
theorem odd_part (n : Nat) (h0 : 0 < n) (h : n < 18446744073709551616) : ∃ m, n = 2 ^ Lib.ctz 64 n * (2 * m + 1) ∧ Lib.ctz 64 n < 64 := by
  obtain ⟨m, hm, hk⟩ := Lib.ctzFrom_spec 64 n h0 (by rw [e64]; exact h)
  have e : Lib.ctz 64 n = Lib.ctzFrom 64 n := by simp [Lib.ctz]; omega
  rw [e]; exact ⟨m, hm, hk⟩
theorem pow_inj {a b : Nat} (h : 2 ^ a = 2 ^ b) : a = b := by
  rcases Nat.lt_trichotomy a b with c | c | c
  · have := Nat.pow_lt_pow_right (show 1 < 2 by omega) c; omega
  · exact c
  · have := Nat.pow_lt_pow_right (show 1 < 2 by omega) c; omega
theorem ctz_pow (k : Nat) (hk : k ≤ 62) : Lib.ctz 64 (2 ^ k) = k := by
  have hp : 2 ^ k < 18446744073709551616 := by rw [← e64]; exact Nat.pow_lt_pow_right (by omega) (by omega)
  obtain ⟨m, h1, h2⟩ := odd_part (2 ^ k) (Nat.two_pow_pos k) hp
  generalize Lib.ctz 64 (2 ^ k) = c at *
  rcases Nat.lt_trichotomy c k with h | h | h
  · have e := pow_split (Nat.le_of_lt h)
    rw [e] at h1
    have h3 := Nat.eq_of_mul_eq_mul_left (Nat.two_pow_pos c) h1
    have e2 : 2 ^ (k - c) = 2 * 2 ^ (k - c - 1) := by rw [← Nat.pow_succ']; congr 1; omega
    omega
  · exact h
  · have h3 := Nat.pow_lt_pow_right (show 1 < 2 by omega) h
    have h4 : 2 ^ c * 1 ≤ 2 ^ c * (2 * m + 1) := Nat.mul_le_mul_left _ (by omega)
    omega
theorem fits_yes (k : Nat) (hk : k ≤ 32) : root_Fits.f ((2 ^ k : Nat) : Int) = some ((k : Int), true) := by
  have hp := pow32 hk
  have hp0 := Nat.two_pow_pos k
  unfold root_Fits.f
  have e1 : wrap64 (((2 ^ k : Nat) : Int) - 1) = ((2 ^ k - 1 : Nat) : Int) := by
    generalize 2 ^ k = y at *
    unfold wrap64; omega
  have e2 : 2 ^ k &&& (2 ^ k - 1) = 0 := by have h := and_pred k 0; rw [Nat.mul_zero, Nat.zero_add, Nat.mul_one, Nat.mul_zero] at h; exact h
  have e3 := ctz_pow k (by omega)
  rw [if_neg (by omega), if_neg (by omega), e1, and_i _ _ (by omega) (by omega), e2, if_pos (by rfl), wrap_u _ (by omega) (by omega)]
  unfold bits_TrailingZeros64.f
  rw [if_pos (by omega), Int.toNat_natCast, e3]
  rfl
def Pw (n : Int) (k : Nat) : Prop := k ≤ 32 ∧ n = ((2 ^ k : Nat) : Int)
theorem Pw.uniq {n : Int} {a b : Nat} (h : Pw n a) (k : Pw n b) : a = b := pow_inj (by have := h.2; have := k.2; omega)
theorem fits_no (n : Int) (h : ∀ k, ¬ Pw n k) : root_Fits.f n = some (0, false) := by
  unfold root_Fits.f
  by_cases h1 : n < 1
  · rw [if_pos h1]
  · by_cases h2 : n > 4294967296
    · rw [if_neg h1, if_pos h2]
    · rw [if_neg h1, if_neg h2]
      obtain ⟨x, rfl⟩ := Int.eq_ofNat_of_zero_le (show 0 ≤ n by omega)
      have e1 : wrap64 ((x : Int) - 1) = ((x - 1 : Nat) : Int) := by unfold wrap64; omega
      rw [e1, and_i _ _ (by omega) (by omega)]
      obtain ⟨m, hm, hk⟩ := odd_part x (by omega) (by omega)
      have ha := and_pred (Lib.ctz 64 x) m
      rw [← hm] at ha
      have hp := Nat.two_pow_pos (Lib.ctz 64 x)
      by_cases hm0 : m = 0
      · subst hm0
        rw [Nat.mul_zero, Nat.zero_add, Nat.mul_one] at hm
        have hc : Lib.ctz 64 x ≤ 32 := by
          apply Nat.le_of_not_lt
          intro c
          have h3 := pow_mono (show 33 ≤ Lib.ctz 64 x by omega)
          have e33 : (2 : Nat) ^ 33 = 8589934592 := by decide
          rw [e33, ← hm] at h3
          omega
        exact absurd ⟨hc, by rw [← hm]⟩ (h (Lib.ctz 64 x))
      · have hpos : 0 < 2 ^ Lib.ctz 64 x * (2 * m) := Nat.mul_pos hp (by omega)
        rw [ha, if_neg (by omega)]
theorem pw_cases (n : Int) : (∃ k, Pw n k) ∨ (∀ k, ¬ Pw n k) := by
  by_cases h : ∃ k, Pw n k
  · exact .inl h
  · exact .inr fun k hk => h ⟨k, hk⟩
theorem rfits_loop (n : Int) (d : Nat) : ∀ k : Nat, k + d = 33 →
    ((∃ a, k ≤ a ∧ Pw n a ∧ Ev (fun r => abacistref03_Fits.l0 r n ((2 ^ k : Nat) : Int) (k : Int)) (a : Int)) ∨ ((∀ a, k ≤ a → ¬ Pw n a) ∧ Ev (fun r => abacistref03_Fits.l0 r n ((2 ^ k : Nat) : Int) (k : Int)) (-1))) := by
  induction d with
  | zero =>
    intro k hk
    refine .inr ⟨fun a ha hp => by have := hp.1; omega, Ev.step (f := fun _ => some (-1)) (fun r => ?_) (Ev.now _)⟩
    simp only [abacistref03_Fits.l0]
    rw [if_neg (by omega)]
  | succ d ih =>
    intro k hk
    have hk32 : k ≤ 32 := by omega
    have hp := pow32 hk32
    have e1 : wrap64 (2 * ((2 ^ k : Nat) : Int)) = ((2 ^ (k + 1) : Nat) : Int) := by
      rw [Nat.pow_succ]
      generalize 2 ^ k = y at *
      unfold wrap64; omega
    have e2 : wrap64 ((k : Int) + 1) = ((k + 1 : Nat) : Int) := by unfold wrap64; omega
    by_cases hn : n = ((2 ^ k : Nat) : Int)
    · refine .inl ⟨k, Nat.le_refl _, ⟨hk32, hn⟩, Ev.step (f := fun _ => some (k : Int)) (fun r => ?_) (Ev.now _)⟩
      simp only [abacistref03_Fits.l0]
      rw [if_pos (by omega), if_pos hn]
    · have go : ∀ r, abacistref03_Fits.l0 (r + 1) n ((2 ^ k : Nat) : Int) (k : Int) = abacistref03_Fits.l0 r n ((2 ^ (k + 1) : Nat) : Int) ((k + 1 : Nat) : Int) := by
        intro r
        simp only [abacistref03_Fits.l0]
        rw [if_pos (by omega), if_neg hn, e1, e2]
      rcases ih (k + 1) (by omega) with ⟨a, h1, h2, h3⟩ | ⟨h1, h2⟩
      · exact .inl ⟨a, by omega, h2, Ev.step go h3⟩
      · refine .inr ⟨fun a ha hpa => ?_, Ev.step go h2⟩
        rcases Nat.lt_or_ge k a with c | c
        · exact h1 a c hpa
        · obtain rfl : a = k := by omega
          exact hn hpa.2
theorem rfits_yes (n : Int) (k : Nat) (h : Pw n k) : Ev (fun r => abacistref03_Fits.f r n) (k : Int) := by
  rcases rfits_loop n 33 0 rfl with ⟨a, _, h2, h3⟩ | ⟨h1, _⟩
  · obtain rfl := h2.uniq h
    exact Ev.congr (fun _ => rfl) h3
  · exact absurd h (h1 k (Nat.zero_le _))
theorem rfits_no (n : Int) (h : ∀ k, ¬ Pw n k) : Ev (fun r => abacistref03_Fits.f r n) (-1) := by
  rcases rfits_loop n 33 0 rfl with ⟨a, _, h2, _⟩ | ⟨_, h2⟩
  · exact absurd h2 (h a)
  · exact Ev.congr (fun _ => rfl) h2
end Go.Proofs.YtpnkcjnemoompaaGreatDoor.Pure
end
section
namespace Go.Proofs.YtpnkcjnemoompaaGreatDoor.Kern
open Go.RowKit Go.Proofs.YtpnkcjnemoompaaGreatDoor Go.Proofs.YtpnkcjnemoompaaGreatDoor.Ext Go.Proofs.YtpnkcjnemoompaaGreatDoor.PPlan Go.Proofs.YtpnkcjnemoompaaGreatDoor.PFft Go.Proofs.YtpnkcjnemoompaaGreatDoor.Pure Go.Proofs.YtpnkcjnemoompaaGreatDoor.Obj Go.Proofs.YtpnkcjnemoompaaGreatDoor.Fft Go.Proofs.YtpnkcjnemoompaaGreatDoorW.PrintWords Go.Proofs.YtpnkcjnemoompaaGreatDoorW.PrintLast Go.Proofs.YtpnkcjnemoompaaGreatDoorW.PrintMore
set_option linter.unusedVariables false
set_option linter.unusedSimpArgs false
set_option maxRecDepth 100000
set_option maxHeartbeats 4000000 in
theorem scatter_yes (g c : Nat) (xs : List Int) (B : Option Addr) (d : Nat) (ws : List Int) (o s n : Nat) (w : World) (hM : Mr w g c xs) (hv : Vn o s n xs.length) (hL : xs.length ≤ 1048576) (hn : ws.length = n) (hs : ∀ w', Fr w w' [g] → In w' B d ws) :
    Calls Tryz.prog 94 #[.slice (some ⟨g, 0, none⟩) xs.length c, .agg #[.int .i64 (o : Int), .int .i64 (s : Int), .int .i64 (n : Int)], .slice B n d] w fun e w' => e = .returned (.int .i64 0) ∧ Mr w' g c (sct xs o s ws n) ∧ Fr w w' [g] := by
  have HG := Aside0.mk (vgood_yes o s n xs.length hv.good ⟨by omega, by omega⟩)
  have HV := Aside0.mk hv
  have HM := Aside0.mk hM
  have HS := Aside0.mk hs
  have HN := Aside0.mk hn
  have hn2 := hv.hn
  have hgl : g < w.heap.size := hM.lt
  have HB := Aside0.mk (below_alloc (Below.refl w.heap.size w) (Obj.cells #[.int .i64 (o : Int), .int .i64 (s : Int), .int .i64 (n : Int)] 97))
  have HK := Aside0.mk (Bk.new w 97 [.int .i64 (o : Int), .int .i64 (s : Int), .int .i64 (n : Int)])
  clear hM hv hs hn
  go_enter Tryz.func94, Tryz.ntmps94
  go_wp2_with fail
  with_reducible refine (rows_Good.calls o s n xs.length true _ HG.out).mono ?_
  rintro e w1 ⟨rfl, hb⟩
  have HF1 := Aside0.mk (Fr.of_below (below_then HB.out HB.out.size hb) [g])
  have HM1 := Aside0.mk (HM.out.below (below_then HB.out HB.out.size hb))
  have HK1 := Aside0.mk (HK.out.below hb)
  obtain ⟨bv, hbv⟩ : ∃ b, b = w.heap.size := ⟨_, rfl⟩
  rw [← hbv] at HK1 ⊢
  have u2 := HK1.out.cell 2
  clear hb HB HK hbv
  go_wp2
  clear u2
  go_loopw [23] (fun v23 wr => ∃ i : Nat, v23 = .int .i64 i ∧ i ≤ n ∧ Aside0 (Mr wr g c (sct xs o s ws i)) ∧ Aside0 (Fr w wr [g]) ∧ Aside0 (Bk wr bv 97 [.int .i64 (o : Int), .int .i64 (s : Int), .int .i64 (n : Int)])) (fun v23 _ => n - (intOf v23).toNat)
  case atStart => exact ⟨0, rfl, Nat.zero_le _, HM1, HF1, HK1⟩
  case round =>
    clear HM1 HF1 HK1
    obtain ⟨i, rfl, hi, HR, HF, HK⟩ := hrel
    by_cases h1 : i < n
    · have hia : (i : Int) < (n : Int) := by omega
      have ht := HV.out.lt i h1
      have hnl := HN.out
      obtain ⟨ad, q, hx⟩ := Kd.at_int (HS.out wr HF.out).r (i : Int) (by omega) (by omega)
      cases q
      simp only [Int.toNat_natCast] at hx
      rw [rdn] at hx
      obtain ⟨t, htt⟩ : ∃ t, t = o + i * s := ⟨_, rfl⟩
      rw [← htt] at ht
      have t0 : (0 : Int) ≤ (t : Int) := by omega
      have t1 : (t : Int) < (xs.length : Int) := by omega
      obtain ⟨⟨kA, kB⟩, kC, kD⟩ := view_num htt ht hL
      have HE : Aside0 (sct xs o s ws (i + 1) = (sct xs o s ws i).set t (ws.getD i 0)) := ⟨by rw [htt]; rfl⟩
      obtain ⟨is, his⟩ : ∃ x, x = i * s := ⟨_, rfl⟩
      rw [← his] at kA kB kC kD
      generalize ws.getD i 0 = x at *
      have u0 := HK.out.cell 0
      have u1 := HK.out.cell 1
      have u3 := HR.out.cell t (by rw [sct_len]; exact ht)
      have u4 := HR.out.frozen t
      clear htt ht his hnl
      go_wp2
      clear kA kB kC kD
      go_roundw
      case rel => exact ⟨i + 1, by go_num, by omega, ⟨by rw [HE.out]; exact HR.out.put t x⟩, ⟨HF.out.set g t _ (.inl (by simp))⟩, ⟨HK.out.far t _ (HR.out.ne HK.out (by decide))⟩⟩
      case measure => simp [intOf]; omega
    · obtain rfl : i = n := by omega
      have hia : decide ((i : Int) < (i : Int)) = false := decide_eq_false (by omega)
      go_wp2
      go_ret
      exact ⟨rfl, HR.out, HF.out⟩
theorem kernel_yes (x : Nat) (hx : x ≤ 20) (n : Nat) (hn : n = 2 ^ x) (w : World) (hT : TabOK w) :
    Calls Tryz.prog 77 #[.int .i64 (n : Int)] w fun e w' => ∃ p b g0 c0 g1 c1, e = .returned (.tuple #[.pointer (some ⟨p, 0, none⟩), .int .i64 0]) ∧ Ker w' p b g0 c0 g1 c1 x n ∧ Below w.heap.size w w' ∧ w.heap.size ≤ p ∧ w.heap.size ≤ b ∧ w.heap.size ≤ g0 ∧ w.heap.size ≤ g1 := by
  have hf := Aside0.mk (show root_Fits.f (n : Int) = some ((x : Int), true) by rw [hn]; exact fits_yes x (by omega))
  have d1 : decide (1048576 < (n : Int)) = false := decide_eq_false (by have := pow20 hx; omega)
  have HN := Aside0.mk hn
  have HT := Aside0.mk hT
  have HX := Aside0.mk hx
  clear hn hT
  go_enter Tryz.func77, Tryz.ntmps77
  go_wp2_with fail
  with_reducible refine (root_Fits.calls _ x true _ hf.out HT.out).mono ?_
  rintro e w1 ⟨rfl, hb⟩
  have HB1 := Aside0.mk hb.below
  clear hb
  go_wp2_with fail
  refine (new4_calls x HX.out _).mono ?_
  rintro e w2 ⟨p, b, g0, c0, g1, c1, rfl, hk, hb, l1, l2, l3, l4⟩
  rw [← HN.out] at hk
  have HK := Aside0.mk hk
  have HB2 := Aside0.mk (below_then HB1.out HB1.out.size hb)
  have HLs : Aside0 (w.heap.size ≤ p ∧ w.heap.size ≤ b ∧ w.heap.size ≤ g0 ∧ w.heap.size ≤ g1) := ⟨Nat.le_trans HB1.out.size l1, Nat.le_trans HB1.out.size l2, Nat.le_trans HB1.out.size l3, Nat.le_trans HB1.out.size l4⟩
  clear hk hb l1 l2 l3 l4
  go_wp2
  go_ret2
  exact ⟨p, b, g0, c0, g1, c1, rfl, HK.out, HB2.out, HLs.out⟩
def vrun (xs : List Int) (x : Nat) (d : Int) (o s n : Nat) : List Int := sct xs o s (tb n (tr x d (el (gat xs o s n)))) n
theorem vrun_len (xs : List Int) (x : Nat) (d : Int) (o s n : Nat) : (vrun xs x d o s n).length = xs.length := sct_len _ _ _ _ _
set_option maxHeartbeats 4000000 in
theorem vrun_calls (p b g0 c0 g1 c1 x n g c : Nat) (xs : List Int) (d : Int) (hd : d = 0 ∨ d = 1) (o s : Nat) (w : World) (hK : Ker w p b g0 c0 g1 c1 x n) (hM : Mr w g c xs) (hW : Ws xs) (hv : Vn o s n xs.length) (hL : xs.length ≤ 1048576) (n0 : g ≠ g0) (n1 : g ≠ g1) :
    Calls Tryz.prog 78 #[.pointer (some ⟨p, 0, none⟩), .slice (some ⟨g, 0, none⟩) xs.length c, .agg #[.int .i64 (o : Int), .int .i64 (s : Int), .int .i64 (n : Int)], .int .i64 d] w fun e w' => e = .returned (.int .i64 0) ∧ Mr w' g c (vrun xs x d o s n) ∧ Fr w w' [g] := by
  have HK := Aside0.mk hK
  have HM := Aside0.mk hM
  have HW := Aside0.mk hW
  have HV := Aside0.mk hv
  have HD := Aside0.mk hd
  have hgl : g < w.heap.size := hM.lt
  obtain ⟨q1, q2, q3, q4⟩ := hK.lts
  have HB := Aside0.mk (below_alloc (Below.refl w.heap.size w) (Obj.cells #[.int .i64 (o : Int), .int .i64 (s : Int), .int .i64 (n : Int)] 97))
  have HKv := Aside0.mk (Bk.new w 97 [.int .i64 (o : Int), .int .i64 (s : Int), .int .i64 (n : Int)])
  obtain ⟨bv, hbv⟩ : ∃ b, b = w.heap.size := ⟨_, rfl⟩
  clear hK hM hW hv hd
  go_enter Tryz.func78, Tryz.ntmps78
  go_wp2_with fail
  refine (gather_yes (some ⟨g, 0, none⟩) c xs o s n _ ((In.of_mr HM.out (by omega)).below HB.out) HV.out hL).mono ?_
  rintro e w1 ⟨gg, rfl, hr, hb, hg⟩
  rw [← hbv] at HKv ⊢
  have HB1 := Aside0.mk (below_then HB.out HB.out.size hb)
  have hgg : w.heap.size ≤ gg := by have := HB.out.size; omega
  have HR := Aside0.mk (show Mr w1 gg n (gat xs o s n) by have := Mr.of_rw hr; rw [gat_len] at this; exact this)
  have HKv1 := Aside0.mk (HKv.out.below hb)
  clear hr hb hg HKv hbv
  go_wp2_with fail
  refine (run_calls p b g0 c0 g1 c1 x n gg n (gat xs o s n) d HD.out _ (HK.out.below HB1.out) HR.out (gat_len _ _ _ _) (gat_ws HW.out _ _ _) (by omega) (by omega)).mono ?_
  rintro e w2 ⟨rfl, hm, hf⟩
  have HM2 := Aside0.mk hm
  have HF2 := Aside0.mk hf
  have HKv2 := Aside0.mk (HKv1.out.fr hf (by simpa using (HR.out.ne HKv1.out (by decide))))
  have HB2 := Aside0.mk (HB1.out.trans (hf.below (B := w.heap.size) HB1.out.size (fun k hk => by simp at hk; omega)))
  have u := HKv2.out.cell 0
  have u1 := HKv2.out.cell 1
  have u2 := HKv2.out.cell 2
  clear hm hf HKv1
  go_wp2_with fail
  refine (scatter_yes g c xs (some ⟨gg, 0, none⟩) n (tb n (tr x d (el (gat xs o s n)))) o s n _ (HM.out.below HB2.out) HV.out hL (tb_len _ _) (fun w' hf => In.of_mr (HM2.out.fr hf (by simp; omega)) (by rw [tb_len]; have := HV.out.hn; omega))).mono ?_
  rintro e w3 ⟨rfl, hm, hf⟩
  have HM3 := Aside0.mk hm
  have HF3 := Aside0.mk ((Fr.of_below HB2.out [g]).trans hf)
  clear hm hf u u1 u2
  go_wp2
  go_ret
  exact ⟨rfl, HM3.out, HF3.out⟩
end Go.Proofs.YtpnkcjnemoompaaGreatDoor.Kern
end
section
namespace Go.Proofs.YtpnkcjnemoompaaGreatDoor.Kern
open Go.RowKit Go.Proofs.YtpnkcjnemoompaaGreatDoor Go.Proofs.YtpnkcjnemoompaaGreatDoor.Ext Go.Proofs.YtpnkcjnemoompaaGreatDoor.PPlan Go.Proofs.YtpnkcjnemoompaaGreatDoor.PFft Go.Proofs.YtpnkcjnemoompaaGreatDoor.Pure Go.Proofs.YtpnkcjnemoompaaGreatDoor.Obj Go.Proofs.YtpnkcjnemoompaaGreatDoor.Fft Go.Proofs.YtpnkcjnemoompaaGreatDoorW.PrintWords Go.Proofs.YtpnkcjnemoompaaGreatDoorW.PrintLast Go.Proofs.YtpnkcjnemoompaaGreatDoorW.PrintMore
set_option linter.unusedVariables false
set_option linter.unusedSimpArgs false
set_option maxRecDepth 100000
theorem sct_ws {xs ws : List Int} (h : Ws xs) (hw : Ws ws) (o s : Nat) (i : Nat) : Ws (sct xs o s ws i) := by
  induction i with
  | zero => exact h
  | succ i ih =>
    intro j
    rw [sct]
    by_cases hl : o + i * s < (sct xs o s ws i).length
    · rw [getD_set _ _ _ _ hl]
      split
      · exact hw i
      · exact ih j
    · rw [List.set_eq_of_length_le (by omega)]
      exact ih j
theorem vrun_ws {xs : List Int} (h : Ws xs) (x : Nat) (d : Int) (o s n : Nat) : Ws (vrun xs x d o s n) := sct_ws h (tb_ws _ _) o s n
def vfold (xs : List Int) (x : Nat) (d : Int) (o s : Nat → Nat) (n : Nat) : Nat → List Int
  | 0 => xs
  | i + 1 => vrun (vfold xs x d o s n i) x d (o i) (s i) n
theorem vfold_len (xs : List Int) (x : Nat) (d : Int) (o s : Nat → Nat) (n i : Nat) : (vfold xs x d o s n i).length = xs.length := by
  induction i with
  | zero => rfl
  | succ i ih => rw [vfold, vrun_len, ih]
theorem vfold_ws {xs : List Int} (h : Ws xs) (x : Nat) (d : Int) (o s : Nat → Nat) (n i : Nat) : Ws (vfold xs x d o s n i) := by
  induction i with
  | zero => exact h
  | succ i ih => exact vrun_ws ih _ _ _ _ _
theorem rview_calls (i R C bs : Nat) (w : World) (h : Bk w bs 32 [.int .i64 (R : Int), .int .i64 (C : Int)]) (hm : i * C ≤ 9223372036854775807) :
    Calls Tryz.prog 61 #[.int .i64 (i : Int), .pointer (some ⟨bs, 0, none⟩)] w fun e w' => e = .returned (.agg #[.int .i64 ((i * C : Nat) : Int), .int .i64 1, .int .i64 (C : Int)]) ∧ Below w.heap.size w w' := by
  obtain ⟨z, hz⟩ : ∃ z, z = i * C := ⟨_, rfl⟩
  obtain ⟨kA, kB⟩ := wrapb (show (i : Int) * (C : Int) = (z : Int) by rw [hz, Int.natCast_mul]) (by omega)
  rw [← hz]
  have u1 := h.cell 1
  have hlt := h.lt
  have HZ := Aside0.mk (Bk.new w 97 [.int .i64 0, .int .i64 0, .int .i64 0])
  have HB := Aside0.mk (below_alloc (Below.refl w.heap.size w) (Obj.cells #[.int .i64 0, .int .i64 0, .int .i64 0] 97))
  clear h hz hm
  go_enter Tryz.func61, Tryz.ntmps61
  go_wp2
  refine bodyPost_ret (results_cell_row rfl _ _ w.heap.size 97 #[.int .i64 (z : Int), .int .i64 1, .int .i64 (C : Int)] (0, 0) _ rfl ?_ Tryz.underlying97 rfl (by kernel_rfl)) rfl ⟨rfl, ?_⟩
  · first | exact Bk.new w 97 [_, _, _] | exact ((HZ.out.put 0 _).put 1 _).put 2 _
  · first | exact below_alloc (Below.refl _ _) _ | exact below_set (below_set (below_set HB.out (Nat.le_refl _)) (Nat.le_refl _)) (Nat.le_refl _)
set_option maxHeartbeats 8000000 in
theorem allR (R C x g c bs : Nat) (xs : List Int) (d : Int) (hd : d = 0 ∨ d = 1) (hx : x ≤ 20) (hn : C = 2 ^ x) (hC0 : 1 ≤ C) (hl : R * C = xs.length) (hL : xs.length ≤ 1048576) (hW : Ws xs) (w : World) (hM : Mr w g c xs) (hS : Bk w bs 32 [.int .i64 (R : Int), .int .i64 (C : Int)]) (hT : TabOK w) :
    Calls Tryz.prog 60 #[.slice (some ⟨g, 0, none⟩) xs.length c, .int .i64 d, .int .i64 (C : Int), .int .i64 (R : Int), .func (.func 61) #[] #[.pointer (some ⟨bs, 0, none⟩)]] w fun e w' => e = .returned (.int .i64 0) ∧ Mr w' g c (vfold xs x d (fun i => i * C) (fun _ => 1) C R) ∧ Fr w w' [g] := by
  have hvn : ∀ i, i < R → Vn ((fun i => i * C) i) ((fun _ => 1) i) C xs.length := by
    intro i hi
    refine ⟨by have := pow20 hx; omega, Nat.le_refl _, fun j hj => ?_⟩
    have : (i + 1) * C ≤ R * C := Nat.mul_le_mul_right _ hi
    rw [Nat.add_mul, Nat.one_mul] at this
    show i * C + j * 1 < _
    omega
  have HV := Aside0.mk hvn
  have HM := Aside0.mk hM
  have HW := Aside0.mk hW
  have HSb0 := Aside0.mk hS
  have HT := Aside0.mk hT
  have HD := Aside0.mk hd
  have HRC := Aside0.mk (show R * C ≤ 1048576 by omega)
  have hgl : g < w.heap.size := hM.lt
  have hsb : bs ≠ g := hM.ne hS (by decide)
  have HX := Aside0.mk hx
  have HN := Aside0.mk hn
  clear hvn hM hW hS hT hd hl hx hn
  go_enter Tryz.func60, Tryz.ntmps60
  go_wp2_with fail
  refine (kernel_yes x HX.out C HN.out _ HT.out).mono ?_
  rintro e w1 ⟨p, b, g0, c0, g1, c1, rfl, hk, hb, l1, l2, l3, l4⟩
  have HK := Aside0.mk hk
  have HF := Aside0.mk (Fr.of_below hb [g])
  have HM1 := Aside0.mk (show Mr w1 g c (vfold xs x d (fun i => i * C) (fun _ => 1) C 0) from HM.out.below hb)
  have HSb := Aside0.mk (HSb0.out.below hb)
  have n0 : g ≠ g0 := by omega
  have n1 : g ≠ g1 := by omega
  clear hk hb l1 l2 l3 l4 HM HSb0
  go_wp2
  go_loopw [12, 13] (fun v12 v13 wr => ∃ i : Nat, v12 = .int .i64 0 ∧ v13 = .int .i64 i ∧ i ≤ R ∧ Aside0 (Mr wr g c (vfold xs x d (fun i => i * C) (fun _ => 1) C i)) ∧ Aside0 (Fr w wr [g]) ∧ Aside0 (Ker wr p b g0 c0 g1 c1 x C) ∧ Aside0 (Bk wr bs 32 [.int .i64 (R : Int), .int .i64 (C : Int)])) (fun _ v13 _ => R - (intOf v13).toNat)
  case atStart => exact ⟨0, rfl, rfl, Nat.zero_le _, HM1, HF, HK, HSb⟩
  case round =>
    clear HM1 HF HK HSb
    obtain ⟨i, rfl, rfl, hi, HM, HF, HK, HSb⟩ := hrel
    have hib : R ≤ 1048576 := by
      have h1 := HRC.out
      have : R ≤ R * C := Nat.le_mul_of_pos_right _ hC0
      omega
    by_cases h1 : i < R
    · have hia : (i : Int) < (R : Int) := by omega
      go_wp2_with fail
      refine (rview_calls i R C bs _ HSb.out (by have := HRC.out; have : i * C ≤ R * C := Nat.mul_le_mul_right _ (by omega); omega)).mono ?_
      rintro e w2 ⟨rfl, hb⟩
      have HM2 := Aside0.mk (HM.out.below hb)
      have HF2 := Aside0.mk (HF.out.trans (Fr.of_below hb [g]))
      have HK2 := Aside0.mk (HK.out.below hb)
      have HSb2 := Aside0.mk (HSb.out.below hb)
      clear hb HM HF HK HSb
      go_wp2_with fail
      have hr := vrun_calls p b g0 c0 g1 c1 x C g c (vfold xs x d (fun i => i * C) (fun _ => 1) C i) d HD.out ((fun i => i * C) i) ((fun _ => 1) i) _ HK2.out HM2.out (vfold_ws HW.out _ _ _ _ _ _) (by rw [vfold_len]; exact HV.out i h1) (by rw [vfold_len]; exact hL) n0 n1
      rw [vfold_len] at hr
      refine hr.mono ?_
      clear hr
      rintro e w3 ⟨rfl, hm, hf⟩
      have HM3 := Aside0.mk (show Mr w3 g c (vfold xs x d (fun i => i * C) (fun _ => 1) C (i + 1)) from hm)
      have HF3 := Aside0.mk (HF2.out.trans hf)
      have HK3 := Aside0.mk (HK2.out.keep HM2.out n0 n1 hf)
      have HSb3 := Aside0.mk (HSb2.out.fr hf (by simpa using hsb))
      clear hm hf HM2 HF2 HK2 HSb2
      go_wp2
      go_roundw
      case rel => exact ⟨i + 1, rfl, by go_num, by omega, HM3, HF3, HK3, HSb3⟩
      case measure => simp [intOf]; omega
    · obtain rfl : i = R := by omega
      have hia : decide ((i : Int) < (i : Int)) = false := decide_eq_false (by omega)
      go_wp2
      go_ret
      exact ⟨rfl, HM.out, HF.out⟩
end Go.Proofs.YtpnkcjnemoompaaGreatDoor.Kern
end
section
set_option linter.unusedVariables false
set_option linter.unusedSimpArgs false
namespace Go.Proofs.YtpnkcjnemoompaaGreatDoor.Pure
open Go.RowKit Go.Proofs.YtpnkcjnemoompaaGreatDoor Go.Proofs.YtpnkcjnemoompaaGreatDoor.PPlan Go.Proofs.YtpnkcjnemoompaaGreatDoor.PFft Go.Proofs.YtpnkcjnemoompaaGreatDoor.Ext Go.Proofs.YtpnkcjnemoompaaGreatDoorW.PrintWords Go.Proofs.YtpnkcjnemoompaaGreatDoorW.PrintLast Go.Proofs.YtpnkcjnemoompaaGreatDoorW.PrintMore
def GoodS (r c : Int) : Prop := ∃ a b, a + b ≤ 32 ∧ Pw r a ∧ Pw c b
theorem good_yes (r c : Int) (h : GoodS r c) : shape_Good.f r c = some true := by
  obtain ⟨a, b, h1, h2, h3⟩ := h
  unfold shape_Good.f
  rw [h2.2, h3.2, fits_yes a h2.1, fits_yes b h3.1]
  simp only [Option.bind_some, if_true]
  rw [wrap_i _ (by omega) (by omega), decide_eq_true (by omega)]
theorem good_no (r c : Int) (h : ¬ GoodS r c) : shape_Good.f r c = some false := by
  unfold shape_Good.f
  rcases pw_cases r with ⟨a, ha⟩ | ha
  · rcases pw_cases c with ⟨b, hb⟩ | hb
    · have hab : ¬ a + b ≤ 32 := fun hle => h ⟨a, b, hle, ha, hb⟩
      have h1 := ha.1
      have h2 := hb.1
      rw [ha.2, hb.2, fits_yes a ha.1, fits_yes b hb.1]
      simp only [Option.bind_some, if_true]
      rw [wrap_i _ (by omega) (by omega), decide_eq_false (by omega)]
    · rw [fits_no c hb, ha.2, fits_yes a ha.1]
      simp only [Option.bind_some, if_true, Bool.false_eq_true, if_false]
  · rw [fits_no r ha]
    rcases pw_cases c with ⟨b, hb⟩ | hb
    · rw [hb.2, fits_yes b hb.1]; simp only [Option.bind_some, Bool.false_eq_true, if_false]
    · rw [fits_no c hb]; simp only [Option.bind_some, Bool.false_eq_true, if_false]
theorem rgood_yes (r c : Int) (h : GoodS r c) : Ev (fun k => abacistref06_Good.f k r c) true := by
  obtain ⟨a, b, h1, h2, h3⟩ := h
  refine Ev.bind (rfits_yes r a h2) (Ev.bind (rfits_yes c b h3) (Ev_if (by omega) (Ev_if (by omega) (Ev_eq ?_))))
  rw [wrap_i _ (by omega) (by omega), decide_eq_true (by omega)]
theorem rgood_no (r c : Int) (h : ¬ GoodS r c) : Ev (fun k => abacistref06_Good.f k r c) false := by
  rcases pw_cases r with ⟨a, ha⟩ | ha
  · rcases pw_cases c with ⟨b, hb⟩ | hb
    · have hab : ¬ a + b ≤ 32 := fun hle => h ⟨a, b, hle, ha, hb⟩
      have h1 := ha.1
      have h2 := hb.1
      refine Ev.bind (rfits_yes r a ha) (Ev.bind (rfits_yes c b hb) (Ev_if (by omega) (Ev_if (by omega) (Ev_eq ?_))))
      rw [wrap_i _ (by omega) (by omega), decide_eq_false (by omega)]
    · exact Ev.bind (rfits_yes r a ha) (Ev.bind (rfits_no c hb) (Ev_if (by omega) (Ev_ifn (by omega) (Ev.now _))))
  · rcases pw_cases c with ⟨b, hb⟩ | hb
    · exact Ev.bind (rfits_no r ha) (Ev.bind (rfits_yes c b hb) (Ev_ifn (by omega) (Ev.now _)))
    · exact Ev.bind (rfits_no r ha) (Ev.bind (rfits_no c hb) (Ev_ifn (by omega) (Ev.now _)))
theorem good_ints {R C : Int} (h : GoodS R C) : ∃ a b : Nat, a + b ≤ 32 ∧ R = ((2 ^ a : Nat) : Int) ∧ C = ((2 ^ b : Nat) : Int) := by
  obtain ⟨a, b, hab, ha, hb⟩ := h
  exact ⟨a, b, hab, ha.2, hb.2⟩
theorem size_is (R C : Int) (h : GoodS R C) : shape_Size.f R C = some (R * C) := by
  obtain ⟨a, b, hab, rfl, rfl⟩ := good_ints h
  unfold shape_Size.f
  rw [good_yes _ _ h, Option.bind_some, if_pos rfl, ← Int.natCast_mul, ← Nat.pow_add]
  have := pow32 hab
  rw [wrap_i _ (by generalize 2 ^ (a + b) = y at *; omega) (by generalize 2 ^ (a + b) = y at *; omega)]
theorem direct_is (d : Int) : rows_direction.f d = some (decide (d = 0 ∨ d = 1)) := by
  unfold rows_direction.f
  by_cases h : d = 0
  · rw [if_pos h, decide_eq_true (.inl h)]
  · rw [if_neg h]
    by_cases h1 : d = 1
    · rw [decide_eq_true (.inr h1), h1]; rfl
    · rw [decide_eq_false (by omega)]
      congr 1
      exact beq_eq_false_iff_ne.2 h1
theorem check_j (d : Int) : Ev (fun k => rows_check.j0 k d false) (if d = 0 ∨ d = 1 then 0 else 18) := by
  refine Ev.step (f := fun _ => some (if d = 0 ∨ d = 1 then (0 : Int) else 18)) (fun k => ?_) (Ev.now _)
  simp only [rows_check.j0]
  rw [if_neg (by decide), direct_is, Option.bind_some]
  by_cases h : d = 0 ∨ d = 1
  · rw [decide_eq_true h, if_pos rfl, if_pos h]
  · rw [decide_eq_false h, if_neg (by decide), if_neg h]
theorem check_t (d : Int) : Ev (fun k => rows_check.j0 k d true) 19 := by
  refine Ev.step (f := fun _ => some (19 : Int)) (fun k => ?_) (Ev.now _)
  simp only [rows_check.j0]
  rw [if_pos trivial]
noncomputable def ckw (l : List Int) (R C d : Int) : Int := open Classical in if GoodS R C ∧ R * C = (l.length : Int) then (if d = 0 ∨ d = 1 then 0 else 18) else 19
theorem check_is (l : List Int) (R C d : Int) : Ev (fun k => rows_check.f k l R C d) (ckw l R C d) := by
  unfold rows_check.f ckw
  by_cases h : GoodS R C
  · refine Ev.bind (Ev_eq (good_yes R C h)) (Ev_if rfl (Ev.bind (Ev_eq (size_is R C h)) ?_))
    by_cases h2 : R * C = (l.length : Int)
    · rw [if_pos ⟨h, h2⟩, show ((l.length : Int) != R * C) = false by rw [bne_eq_false_iff_eq]; omega]
      exact check_j d
    · rw [if_neg (fun q => h2 q.2), show ((l.length : Int) != R * C) = true by rw [bne_iff_ne]; omega]
      exact check_t d
  · rw [if_neg (fun q => h q.1)]
    exact Ev.bind (Ev_eq (good_no R C h)) (Ev_ifn (by decide) (check_t d))
end Go.Proofs.YtpnkcjnemoompaaGreatDoor.Pure
end
section
namespace Go.Proofs.YtpnkcjnemoompaaGreatDoor.Kern
open Go.RowKit Go.Proofs.YtpnkcjnemoompaaGreatDoor Go.Proofs.YtpnkcjnemoompaaGreatDoor.Ext Go.Proofs.YtpnkcjnemoompaaGreatDoor.PPlan Go.Proofs.YtpnkcjnemoompaaGreatDoor.PFft Go.Proofs.YtpnkcjnemoompaaGreatDoor.Pure Go.Proofs.YtpnkcjnemoompaaGreatDoor.Obj Go.Proofs.YtpnkcjnemoompaaGreatDoor.Fft Go.Proofs.YtpnkcjnemoompaaGreatDoorW.PrintWords Go.Proofs.YtpnkcjnemoompaaGreatDoorW.PrintLast Go.Proofs.YtpnkcjnemoompaaGreatDoorW.PrintMore
set_option linter.unusedVariables false
set_option linter.unusedSimpArgs false
set_option maxRecDepth 100000
theorem rows_yes (R C a b g c : Nat) (xs : List Int) (d : Int) (hd : d = 0 ∨ d = 1) (ha : R = 2 ^ a) (hb : C = 2 ^ b) (hab : a + b ≤ 20) (hl : R * C = xs.length) (hW : Ws xs) (w : World) (hM : Mr w g c xs) (hT : TabOK w) :
    Calls Tryz.prog 42 #[.slice (some ⟨g, 0, none⟩) xs.length c, .agg #[.int .i64 (R : Int), .int .i64 (C : Int)], .int .i64 d] w fun e w' => e = .returned (.int .i64 0) ∧ Mr w' g c (vfold xs b d (fun i => i * C) (fun _ => 1) C R) ∧ Fr w w' [g] := by
  have hG : GoodS R C := ⟨a, b, by omega, ⟨by omega, by rw [ha]⟩, ⟨by omega, by rw [hb]⟩⟩
  have hL : xs.length ≤ 1048576 := by rw [← hl, ha, hb, ← Nat.pow_add]; exact pow20 hab
  have hC1 : 1 ≤ C := by rw [hb]; exact Nat.two_pow_pos b
  obtain ⟨k, hk⟩ := (check_is xs R C d).rounds
  have h0 : ckw xs R C d = 0 := by
    unfold ckw
    rw [if_pos ⟨hG, by rw [← Int.natCast_mul, hl]⟩, if_pos hd]
  rw [h0] at hk
  have HK := Aside0.mk hk
  have HD := Aside0.mk hd
  have HB := Aside0.mk (below_alloc (Below.refl w.heap.size w) (Obj.cells #[.int .i64 (R : Int), .int .i64 (C : Int)] 32))
  have HS := Aside0.mk (Bk.new w 32 [.int .i64 (R : Int), .int .i64 (C : Int)])
  have HM := Aside0.mk (hM.below HB.out)
  have HT := Aside0.mk (hT.below HB.out)
  have HW := Aside0.mk hW
  have HA := Aside0.mk ha
  have HBb := Aside0.mk hb
  have HLn := Aside0.mk hl
  obtain ⟨bs, hbs⟩ : ∃ z, z = w.heap.size := ⟨_, rfl⟩
  clear hk h0 hG hM hT hW hd ha hb hl
  go_enter Tryz.func42, Tryz.ntmps42
  go_wp2_with fail
  refine (rows_check.calls k (some ⟨g, 0, none⟩) c xs R C d 0 _ (In.of_mr HM.out (by omega)).r (In.of_mr HM.out (by omega)).c HK.out HT.out).mono ?_
  rintro e w1 ⟨rfl, hb⟩
  rw [← hbs] at HS ⊢
  have HB1 := Aside0.mk (below_then HB.out HB.out.size hb)
  have HM1 := Aside0.mk (HM.out.below hb)
  have HS1 := Aside0.mk (HS.out.below hb)
  have HT1 := Aside0.mk (HT.out.below hb)
  have u0 := HS1.out.cell 0
  have u1 := HS1.out.cell 1
  clear hb HM HS HT hbs
  go_wp2_with fail
  clear u0 u1
  refine (allR R C b g c bs xs d HD.out (by omega) HBb.out hC1 HLn.out hL HW.out _ HM1.out HS1.out HT1.out).mono ?_
  rintro e w2 ⟨rfl, hm, hf⟩
  have HM2 := Aside0.mk hm
  have HF2 := Aside0.mk ((Fr.of_below HB1.out [g]).trans hf)
  clear hm hf
  go_wp2
  go_ret
  exact ⟨rfl, HM2.out, HF2.out⟩
end Go.Proofs.YtpnkcjnemoompaaGreatDoor.Kern
end
section
set_option linter.unusedVariables false
set_option linter.unusedSimpArgs false
namespace Go.Proofs.YtpnkcjnemoompaaGreatDoor.Fft
open Go.RowKit Go.Proofs.YtpnkcjnemoompaaGreatDoor Go.Proofs.YtpnkcjnemoompaaGreatDoor.Pure Go.Proofs.YtpnkcjnemoompaaGreatDoor.PPlan Go.Proofs.YtpnkcjnemoompaaGreatDoor.PFft Go.Proofs.YtpnkcjnemoompaaGreatDoor.Ext Go.Proofs.YtpnkcjnemoompaaGreatDoorW.PrintWords Go.Proofs.YtpnkcjnemoompaaGreatDoorW.PrintLast Go.Proofs.YtpnkcjnemoompaaGreatDoorW.PrintMore
theorem mulc (a b : Nat) (h : a * b ≤ 9223372036854775807) : wrap64 ((a : Int) * (b : Int)) = ((a * b : Nat) : Int) := by
  rw [← Int.natCast_mul, wrap_i _ (by omega) (by omega)]
theorem part_len (l : List Int) (C r : Nat) (h : (r + 1) * C ≤ l.length) : ((l.take ((r + 1) * C)).drop (r * C)).length = C := by
  rw [List.length_drop, List.length_take, Nat.min_eq_left h, Nat.add_mul, Nat.one_mul]; omega
theorem part_get (l : List Int) (C r j : Nat) (h : j < C) : ((l.take ((r + 1) * C)).drop (r * C)).getD j 0 = l.getD (r * C + j) 0 := by
  rw [List.getD_eq_getElem?_getD, List.getD_eq_getElem?_getD, List.getElem?_drop, List.getElem?_take, if_pos (by rw [Nat.add_mul, Nat.one_mul]; omega)]
def tw (l : List Int) (w : F) (C t : Nat) : F := el l t * pw w ((t / C) * (t % C))
theorem tw_at (l : List Int) (w : F) (C r j : Nat) (h : j < C) : tw l w C (r * C + j) = el l (r * C + j) * pw w (r * j) := by
  unfold tw
  rw [Nat.mul_comm r C, Nat.mul_add_div (by omega), Nat.div_eq_of_lt h, Nat.mul_add_mod, Nat.mod_eq_of_lt h, Nat.add_zero]
theorem gTile_l1 (l : List Int) (hl : Ws l) (w : F) (R C r : Nat) (hr : r < R) (hR : R ≤ 1048576) (hRC : R * C = l.length) (hL : l.length ≤ 1048576) (res : List Int × Int) (m : Nat) : ∀ j, j + m = C →
    Ev (fun k => twid_Tile.l0 k l (fv w) (tb ((r + 1) * C) (tw l w C)) (R : Int) ((r + 1 : Nat) : Int) (R : Int) (C : Int) 0 0) res →
    Ev (fun k => twid_Tile.l1 k l (fv w) (tb (r * C + j) (tw l w C)) (fv (pw w r)) (fv (pw w (r * j))) (R : Int) (r : Int) ((l.take ((r + 1) * C)).drop (r * C)) (C : Int) (j : Int) (R : Int) (C : Int) 0 0) res := by
  have hle : (r + 1) * C ≤ l.length := by rw [← hRC]; exact Nat.mul_le_mul_right _ hr
  induction m with
  | zero =>
    intro j hj hres
    obtain rfl : j = C := by omega
    refine Ev.step (fun k => ?_) hres
    simp only [twid_Tile.l1]
    rw [if_neg (by omega), wsucc r (by omega), Nat.add_mul, Nat.one_mul]
  | succ m ih =>
    intro j hj hres
    have hjb : r * C + j < l.length := by rw [Nat.add_mul, Nat.one_mul] at hle; omega
    refine Ev.step (f := fun k => twid_Tile.l1 k l (fv w) (tb (r * C + (j + 1)) (tw l w C)) (fv (pw w r)) (fv (pw w (r * (j + 1)))) (R : Int) (r : Int) ((l.take ((r + 1) * C)).drop (r * C)) (C : Int) ((j + 1 : Nat) : Int) (R : Int) (C : Int) 0 0) (fun k => ?_) (ih (j + 1) (by omega) hres)
    simp only [twid_Tile.l1]
    rw [if_pos (by omega), if_pos (by omega), if_pos (by rw [part_len l C r hle]; omega), rdn, part_get l C r j (by omega), gMul _ _ (hl _) (fv_w _), Option.bind_some, if_pos (by rw [tb_len]; omega), gMulF, Option.bind_some, fo_fv, wsucc j (by omega), ← pw_add, ← Nat.mul_succ, ← Nat.add_assoc, tb_succ, tw_at l w C r j (by omega)]
    rfl
theorem gTile_l0 (l : List Int) (hl : Ws l) (w : F) (R C : Nat) (hR : R ≤ 1048576) (hRC : R * C = l.length) (hL : l.length ≤ 1048576) (m : Nat) : ∀ r, r + m = R →
    Ev (fun k => twid_Tile.l0 k l (fv w) (tb (r * C) (tw l w C)) (R : Int) (r : Int) (R : Int) (C : Int) 0 0) (tb (R * C) (tw l w C), 0) := by
  induction m with
  | zero =>
    intro r hr
    obtain rfl : r = R := by omega
    refine Ev.step (f := fun _ => some _) (fun k => ?_) (Ev.now _)
    simp only [twid_Tile.l0]
    rw [if_neg (by omega)]
  | succ m ih =>
    intro r hr
    have hle : (r + 1) * C ≤ l.length := by rw [← hRC]; exact Nat.mul_le_mul_right _ (by omega)
    have hle2 : r * C ≤ (r + 1) * C := Nat.mul_le_mul_right _ (by omega)
    have e1 : wrap64 ((r : Int) * (C : Int)) = ((r * C : Nat) : Int) := mulc r C (by omega)
    have e2 : wrap64 ((wrap64 ((r : Int) + 1)) * (C : Int)) = (((r + 1) * C : Nat) : Int) := by rw [wsucc r (by omega)]; exact mulc (r + 1) C (by omega)
    have e3 : IntKind.u64.wrap (wrap64 (0 + (r : Int))) = (r : Int) := by rw [Int.zero_add, wrap_i _ (by omega) (by omega), wrap_u _ (by omega) (by omega)]
    have e4 : IntKind.u64.wrap 0 = 0 := rfl
    have c1 : (0 : Int) ≤ ((r * C : Nat) : Int) := by omega
    have c2 : ((r * C : Nat) : Int) ≤ (((r + 1) * C : Nat) : Int) := by omega
    have c3 : (((r + 1) * C : Nat) : Int) ≤ (l.length : Int) := by omega
    refine Ev.step (f := fun k => (gold_Pow.f k (fv w) (r : Int)).bind fun t128 => (gold_Pow.f k t128 0).bind fun t129 => twid_Tile.l1 k l (fv w) (tb (r * C) (tw l w C)) t128 t129 (R : Int) (r : Int) ((l.take ((r + 1) * C)).drop (r * C)) (C : Int) 0 (R : Int) (C : Int) 0 0) (fun k => ?_) ?_
    · simp only [twid_Tile.l0]
      rw [if_pos (by omega)]
      simp only [e1, e2, e3, e4, if_pos c1, if_pos c2, if_pos c3, Int.toNat_natCast, part_len l C r hle]
    · have p1 := gPow (fv w) (r : Int) (fv_w w) ⟨by omega, by omega⟩
      rw [fo_fv, Int.toNat_natCast] at p1
      have p2 := gPow (fv (pw w r)) 0 (fv_w _) ⟨by omega, by omega⟩
      rw [fo_fv, show (0 : Int).toNat = 0 from rfl, pw_zero] at p2
      refine Ev.bind p1 (Ev.bind p2 ?_)
      have := gTile_l1 l hl w R C r (by omega) hR hRC hL _ C 0 (by omega) (ih (r + 1) (by omega))
      rw [Nat.mul_zero, pw_zero, Nat.add_zero] at this
      exact this
theorem inside_zero : twid_inside.f 0 = some true := by decide
theorem gTile (l : List Int) (hl : Ws l) (R C : Nat) (a b : Nat) (ha : R = 2 ^ a) (hb : C = 2 ^ b) (hab : a + b ≤ 20) (hRC : R * C = l.length) (hL : l.length ≤ 1048576) (K : Nat) (hK : K ≤ 32) (d : Int) (hd : d = 0 ∨ d = 1) :
    Ev (fun k => twid_Tile.f k l (R : Int) (C : Int) 0 0 (K : Int) d) (tb (R * C) (tw l (rut K d) C), 0) := by
  have h1 : 1 ≤ C := by rw [hb]; exact Nat.two_pow_pos b
  have h2 : 1 ≤ R := by rw [ha]; exact Nat.two_pow_pos a
  have hR : R ≤ 1048576 := by rw [ha]; exact pow20 (by omega)
  have hC : C ≤ 1048576 := by rw [hb]; exact pow20 (by omega)
  have hG : GoodS R C := ⟨a, b, by omega, ⟨by omega, by rw [ha]⟩, ⟨by omega, by rw [hb]⟩⟩
  clear ha hb
  unfold twid_Tile.f
  refine Ev.bind (gRoot K hK d hd) (Ev_if rfl (Ev.bind (Ev_eq (good_yes _ _ hG)) (Ev_if rfl ?_)))
  rw [mulc R C (by omega), hRC, show ((l.length : Int) != (l.length : Int)) = false by rw [bne_eq_false_iff_eq]]
  refine Ev.step (f := fun k => twid_Tile.l0 k l (fv (rut K d)) [] (R : Int) 0 (R : Int) (C : Int) 0 0) (fun k => ?_) ?_
  · simp only [twid_Tile.j0]
    rw [if_neg (by decide), show twid_reaches.f (R : Int) (C : Int) 0 0 = some true by
      unfold twid_reaches.f
      rw [inside_zero, Option.bind_some, if_pos rfl, Option.bind_some, if_pos rfl, wrap_i _ (by omega) (by omega), wrap_i _ (by omega) (by omega), wrap_i _ (by omega) (by omega), if_pos (by omega), decide_eq_true (by omega)], Option.bind_some, if_pos rfl, if_pos (by omega), if_pos (by rw [Int.toNat_natCast]; omega)]
  · have := gTile_l0 l hl (rut K d) R C hR hRC hL R 0 (by omega)
    rw [Nat.zero_mul, tb_zero, hRC] at this
    exact this
def tl (n : Nat) (g : Nat → Int) : List Int := (List.range n).map g
theorem tl_len (n : Nat) (g : Nat → Int) : (tl n g).length = n := by simp [tl]
theorem tl_zero (g : Nat → Int) : tl 0 g = [] := rfl
theorem tl_succ (n : Nat) (g : Nat → Int) : tl (n + 1) g = tl n g ++ [g n] := by simp [tl, List.range_succ]
theorem tl_get {n : Nat} (g : Nat → Int) {i : Nat} (h : i < n) : (tl n g).getD i 0 = g i := by simp [tl, List.getD, h]
def tps (l : List Int) (R C : Nat) (t : Nat) : Int := l.getD ((t % R) * C + t / R) 0
theorem tps_at (l : List Int) (R C c r : Nat) (h : r < R) : tps l R C (c * R + r) = l.getD (r * C + c) 0 := by
  unfold tps
  rw [Nat.mul_comm c R, Nat.mul_add_mod, Nat.mod_eq_of_lt h, Nat.mul_add_div (by omega), Nat.div_eq_of_lt h, Nat.add_zero]
theorem gTpose_l1 (l : List Int) (R C c : Nat) (hc : c < C) (hC : C ≤ 1048576) (hRC : R * C = l.length) (hL : l.length ≤ 1048576) (res : List Int × Int) (m : Nat) : ∀ r, r + m = R →
    Ev (fun k => shape_Transpose.l0 k l (tl ((c + 1) * R) (tps l R C)) (C : Int) ((c + 1 : Nat) : Int) (R : Int) (C : Int)) res →
    Ev (fun k => shape_Transpose.l1 k l (tl (c * R + r) (tps l R C)) ((r * C + c : Nat) : Int) (C : Int) (c : Int) (R : Int) (C : Int)) res := by
  induction m with
  | zero =>
    intro r hr hres
    obtain rfl : r = R := by omega
    refine Ev.step (fun k => ?_) hres
    simp only [shape_Transpose.l1]
    rw [if_neg (by omega), wsucc c (by omega), Nat.add_mul, Nat.one_mul]
  | succ m ih =>
    intro r hr hres
    have h1 : (r + 1) * C ≤ R * C := Nat.mul_le_mul_right _ (by omega)
    have h2 : (c + 1) * R ≤ C * R := Nat.mul_le_mul_right _ (by omega)
    rw [Nat.mul_comm C R] at h2
    rw [Nat.add_mul, Nat.one_mul] at h1 h2
    refine Ev.step (f := fun k => shape_Transpose.l1 k l (tl (c * R + (r + 1)) (tps l R C)) (((r + 1) * C + c : Nat) : Int) (C : Int) (c : Int) (R : Int) (C : Int)) (fun k => ?_) (ih (r + 1) (by omega) hres)
    simp only [shape_Transpose.l1]
    rw [if_pos (by omega), if_pos (by omega), if_pos (by rw [tl_len]; omega), rdn, ← Nat.add_assoc (c * R), tl_succ, tps_at l R C c r (by omega)]
    rw [wrap_i _ (by omega) (by omega), Nat.add_mul, Nat.one_mul, show (((r * C + c : Nat) : Int) + (C : Int)) = ((r * C + C + c : Nat) : Int) by omega]
theorem gTpose_l0 (l : List Int) (R C : Nat) (hC : C ≤ 1048576) (hRC : R * C = l.length) (hL : l.length ≤ 1048576) (m : Nat) : ∀ c, c + m = C →
    Ev (fun k => shape_Transpose.l0 k l (tl (c * R) (tps l R C)) (C : Int) (c : Int) (R : Int) (C : Int)) (tl (C * R) (tps l R C), 0) := by
  induction m with
  | zero =>
    intro c hc
    obtain rfl : c = C := by omega
    refine Ev.step (f := fun _ => some _) (fun k => ?_) (Ev.now _)
    simp only [shape_Transpose.l0]
    rw [if_neg (by omega)]
  | succ m ih =>
    intro c hc
    have := gTpose_l1 l R C c (by omega) hC hRC hL _ R 0 (by omega) (ih (c + 1) (by omega))
    rw [Nat.zero_mul, Nat.zero_add, Nat.add_zero] at this
    refine Ev.step (fun k => ?_) this
    simp only [shape_Transpose.l0]
    rw [if_pos (by omega)]
theorem gTpose (l : List Int) (R C : Nat) (hG : GoodS R C) (hC : C ≤ 1048576) (hRC : R * C = l.length) (hL : l.length ≤ 1048576) :
    Ev (fun k => shape_Transpose.f k l (R : Int) (C : Int)) (tl (C * R) (tps l R C), 0) := by
  unfold shape_Transpose.f
  refine Ev.bind (a := true) (Ev_eq ?_) (Ev_if rfl (Ev_if (by omega) (Ev_if (by rw [Int.toNat_natCast]; omega) ?_)))
  · unfold shape_fits.f
    rw [good_yes _ _ hG, Option.bind_some, if_pos rfl, size_is _ _ hG, Option.bind_some, ← Int.natCast_mul, hRC, beq_self_eq_true]
  · have := gTpose_l0 l R C hC hRC hL C 0 (by omega)
    rw [Nat.zero_mul, tl_zero] at this
    exact this
end Go.Proofs.YtpnkcjnemoompaaGreatDoor.Fft
end
section
namespace Go.Proofs.YtpnkcjnemoompaaGreatDoor.Kern
open Go.RowKit Go.Proofs.YtpnkcjnemoompaaGreatDoor Go.Proofs.YtpnkcjnemoompaaGreatDoor.Ext Go.Proofs.YtpnkcjnemoompaaGreatDoor.PPlan Go.Proofs.YtpnkcjnemoompaaGreatDoor.PFft Go.Proofs.YtpnkcjnemoompaaGreatDoor.Pure Go.Proofs.YtpnkcjnemoompaaGreatDoor.Obj Go.Proofs.YtpnkcjnemoompaaGreatDoor.Fft Go.Proofs.YtpnkcjnemoompaaGreatDoorW.PrintWords Go.Proofs.YtpnkcjnemoompaaGreatDoorW.PrintLast Go.Proofs.YtpnkcjnemoompaaGreatDoorW.PrintMore
set_option linter.unusedVariables false
set_option linter.unusedSimpArgs false
theorem sct_miss (xs : List Int) (o s : Nat) (ws : List Int) (t : Nat) (n : Nat) (h : ∀ j, j < n → t ≠ o + j * s) : (sct xs o s ws n).getD t 0 = xs.getD t 0 := by
  induction n with
  | zero => rfl
  | succ n ih =>
    show ((sct xs o s ws n).set (o + n * s) (ws.getD n 0)).getD t 0 = _
    rw [List.getD_eq_getElem?_getD, List.getElem?_set_ne (Ne.symm (h n (by omega))), ← List.getD_eq_getElem?_getD]
    exact ih fun j hj => h j (by omega)
theorem sct_hit (xs : List Int) (o s : Nat) (ws : List Int) (hs : 1 ≤ s) (j : Nat) (n : Nat) (hj : j < n) (hin : o + j * s < xs.length) : (sct xs o s ws n).getD (o + j * s) 0 = ws.getD j 0 := by
  induction n with
  | zero => omega
  | succ n ih =>
    show ((sct xs o s ws n).set (o + n * s) (ws.getD n 0)).getD (o + j * s) 0 = _
    by_cases c : j = n
    · subst c
      rw [List.getD_eq_getElem?_getD, List.getElem?_set_self (by rw [sct_len]; exact hin)]
      rfl
    · have hne : o + n * s ≠ o + j * s := by
        intro e
        have : n * s = j * s := by omega
        exact c (Nat.eq_of_mul_eq_mul_right (by omega) this).symm
      rw [List.getD_eq_getElem?_getD, List.getElem?_set_ne hne, ← List.getD_eq_getElem?_getD]
      exact ih (by omega)
theorem vrun_hit (xs : List Int) (x : Nat) (d : Int) (o s n : Nat) (hn : n = 2 ^ x) (hs : 1 ≤ s) (j : Nat) (hj : j < n) (hin : o + j * s < xs.length) : (vrun xs x d o s n).getD (o + j * s) 0 = fv (tr x d (fun i => el xs (o + i * s)) j) := by
  unfold vrun
  rw [sct_hit _ _ _ _ hs j n hj hin, tb_get _ hj]
  exact congrArg fv (tr_congr (fun i hi => el_gat xs o s (by omega)) j)
theorem vrun_miss (xs : List Int) (x : Nat) (d : Int) (o s n : Nat) (t : Nat) (h : ∀ j, j < n → t ≠ o + j * s) : (vrun xs x d o s n).getD t 0 = xs.getD t 0 := sct_miss _ _ _ _ _ _ h
theorem plc_inj {R C r c r' c' : Nat} (hc : c < C) (hc' : c' < C) (h : r * C + c = r' * C + c') : r = r' ∧ c = c' := by
  have h1 : (r * C + c) % C = (r' * C + c') % C := by rw [h]
  have h2 : (r * C + c) / C = (r' * C + c') / C := by rw [h]
  rw [Nat.mul_comm r, Nat.mul_comm r', Nat.mul_add_mod, Nat.mul_add_mod, Nat.mod_eq_of_lt hc, Nat.mod_eq_of_lt hc'] at h1
  rw [Nat.mul_comm r, Nat.mul_comm r', Nat.mul_add_div (by omega), Nat.mul_add_div (by omega), Nat.div_eq_of_lt hc, Nat.div_eq_of_lt hc'] at h2
  exact ⟨h2, h1⟩
theorem plc_lt {R C r c : Nat} (hr : r < R) (hc : c < C) : r * C + c < R * C := by
  have : (r + 1) * C ≤ R * C := Nat.mul_le_mul_right _ hr
  rw [Nat.add_mul, Nat.one_mul] at this
  omega
theorem rows_get (xs : List Int) (b : Nat) (d : Int) (R C : Nat) (hC : C = 2 ^ b) (hl : R * C = xs.length) (i : Nat) (hi : i ≤ R) : ∀ r c, r < R → c < C →
    (vfold xs b d (fun i => i * C) (fun _ => 1) C i).getD (r * C + c) 0 = if r < i then fv (tr b d (fun c' => el xs (r * C + c')) c) else xs.getD (r * C + c) 0 := by
  induction i with
  | zero => intro r c hr hc; rw [if_neg (by omega)]; rfl
  | succ i ih =>
    intro r c hr hc
    show (vrun (vfold xs b d (fun i => i * C) (fun _ => 1) C i) b d (i * C) 1 C).getD (r * C + c) 0 = _
    by_cases e : r = i
    · subst e
      have := vrun_hit (vfold xs b d (fun i => i * C) (fun _ => 1) C r) b d (r * C) 1 C hC (by omega) c hc (by rw [vfold_len, ← hl, Nat.mul_one]; exact plc_lt hr hc)
      rw [Nat.mul_one] at this
      rw [if_pos (by omega), this]
      refine congrArg fv (tr_congr (fun c' hc' => ?_) c)
      unfold el
      rw [Nat.mul_one, ih (by omega) r c' hr (by omega), if_neg (by omega)]
    · rw [vrun_miss _ _ _ _ _ _ _ (fun j hj => by
        intro h
        rw [Nat.mul_one] at h
        exact e (plc_inj (R := R) hc hj h).1), ih (by omega) r c hr hc]
      by_cases e2 : r < i
      · rw [if_pos e2, if_pos (by omega)]
      · rw [if_neg e2, if_neg (by omega)]
theorem rows_at (xs : List Int) (b : Nat) (d : Int) (R C : Nat) (hC : C = 2 ^ b) (hl : R * C = xs.length) (r c : Nat) (hr : r < R) (hc : c < C) : (vfold xs b d (fun i => i * C) (fun _ => 1) C R).getD (r * C + c) 0 = fv (tr b d (fun c' => el xs (r * C + c')) c) := by
  rw [rows_get xs b d R C hC hl R (Nat.le_refl _) r c hr hc, if_pos hr]
end Go.Proofs.YtpnkcjnemoompaaGreatDoor.Kern
end
section
namespace Go.Proofs.YtpnkcjnemoompaaGreatDoor.PFft
open Go.RowKit Go.Proofs.YtpnkcjnemoompaaGreatDoor.Ext Go.Proofs.YtpnkcjnemoompaaGreatDoor.PPlan Go.Proofs.YtpnkcjnemoompaaGreatDoorW.PrintWords Go.Proofs.YtpnkcjnemoompaaGreatDoorW.PrintLast Go.Proofs.YtpnkcjnemoompaaGreatDoorW.PrintMore
attribute [local go_sem] max2_int min2_int max_two min_two max_three min_three max_four min_four   -- for this text's walks alone
set_option linter.unusedVariables false
set_option linter.unusedSimpArgs false
set_option maxHeartbeats 8000000 in
set_option maxRecDepth 100000 in
theorem twid_Tile.calls (k : Nat) (A0 : Option Addr) (c0 : Nat) (l0 : List Int) (a1_0 : Int) (a1_1 : Int) (a1_2 : Int) (a1_3 : Int) (a2 : Int) (a3 : Int) (r1 : List Int) (r2 : Int) (w : World) (hr0 : Kd.C (Kd.int .u64) w A0 l0.length l0) (hc0 : l0.length ≤ c0) (h : twid_Tile.f k l0 a1_0 a1_1 a1_2 a1_3 a2 a3 = some (r1, r2)) (hT : TabOK w) :
    Calls Tryz.prog 43 #[.slice A0 l0.length c0, .agg #[.int .i64 a1_0, .int .i64 a1_1, .int .i64 a1_2, .int .i64 a1_3], .int .i64 a2, .int .i64 a3] w fun e w' => ∃ v0_ : Value, e = .returned (.tuple #[v0_, .int .i64 r2]) ∧ Kd.R (Kd.int .u64) 33 w' w.heap.size (fun _ => True) v0_ r1 ∧ Below w.heap.size w w' := by
  have hu79 := Tryz.underlying79
  have hu32 := Tryz.underlying32
  have HR0 := Aside0.mk hr0
  have HC0 := Aside0.mk hc0
  clear hr0 hc0
  have HB := Aside0.mk (Below.refl w.heap.size w)
  have H : ((twid_Root.f k a2 a3).bind fun bt121 => (if bt121.2 = 0 then ((shape_Good.f a1_0 a1_1).bind fun t123 => (if t123 = true then (twid_Tile.j0 k l0 bt121.1 ((l0.length : Int) != (wrap64 (a1_0 * a1_1))) a1_0 a1_1 a1_2 a1_3) else (twid_Tile.j0 k l0 bt121.1 true a1_0 a1_1 a1_2 a1_3))) else (some (([] : List Int), bt121.2)))) = some (r1, r2) := h
  clear h
  replace H := Option.bind_eq_some_iff.mp H
  obtain ⟨⟨t121, t122⟩, A50, H⟩ := H
  replace H : (if t122 = 0 then ((shape_Good.f a1_0 a1_1).bind fun t123 => (if t123 = true then (twid_Tile.j0 k l0 t121 ((l0.length : Int) != (wrap64 (a1_0 * a1_1))) a1_0 a1_1 a1_2 a1_3) else (twid_Tile.j0 k l0 t121 true a1_0 a1_1 a1_2 a1_3))) else (some (([] : List Int), t122))) = some (r1, r2) := H
  have A5 := Aside0.mk A50
  clear A50
  by_cases c6 : t122 = 0
  · rw [if_pos c6] at H
    have c6b0 : (t122 == 0) = true := beq_iff_eq.mpr c6
    have c6b1 : (t122 != 0) = false := bne_eq_false_iff_eq.mpr c6
    clear c6
    have HC7 := Aside0.mk H
    clear H
    go_enter Tryz.func43, Tryz.ntmps43
    go_upto_region 4 with (first | ((with_reducible refine gate_dst (N := 5) rfl ?_); (try (refine gate_guard (by rfl) ?_; dsimp only)); refine box_event ?hg (N := 5) ?hd (cs := #[.int .i64 a1_0, .int .i64 a1_1, .int .i64 a1_2, .int .i64 a1_3]) (t := 79) ?hr ?_; (case hd => rfl); (case hg => rfl); (case hr => first | (go_simp; done) | (go_simp; rfl)); intro gb120 hg w8 hbox hb; have n0_ := Aside0.mk (below_step (by repeat (first | (with_reducible first | exact HB.out | apply below_alloc | apply pw_below_drewN | apply below_drew1) | exact HB.out)) hb); have n1_ := Aside0.mk (hbox); have n2_ := Aside0.mk ((by rw [hg]; exact (below_size (by repeat (first | (with_reducible first | exact HB.out | apply below_alloc | apply pw_below_drewN | apply below_drew1) | exact HB.out))) : w.heap.size ≤ gb120)); have n3_ := Aside0.mk ((by rw [hg]; exact (below_size (by repeat (first | (with_reducible first | exact HB.out | apply below_alloc | apply pw_below_drewN | apply below_drew1) | exact HB.out))) : w.heap.size ≤ gb120)); clear HB; have HB := n0_; have BK120 := n1_; have GW120 := n2_; have GE120 := n3_; clear n0_ n1_ n2_ n3_; clear hb hbox hg) | ((with_reducible refine gate_callee (f := 62) rfl ?_); refine goesL_ (some 21) rfl rfl Tryz.func62 (by kernel_rfl) rfl #[.int .i64 a2, .int .i64 a3] rfl (by (try simp only [List.map_toArray, List.map_cons, List.map_nil]); first | done | rfl | (simp only [List.length_drop, List.length_take]; rfl)) ?_; (with_reducible refine (twid_Root.calls k a2 a3 t121 t122 _ A5.out).mono ?_); rintro e w9 ⟨rfl, hb⟩; refine ⟨_, rfl, ?_⟩; have n0_ := Aside0.mk (blk_below (g := gb120) (o := .cells #[.int .i64 a1_0, .int .i64 a1_1, .int .i64 a1_2, .int .i64 a1_3] 79 (0, 0)) (by (with_reducible repeat (first | refine blk_drewN ?_ _ | refine blk_drew ?_ | refine blk_alloc ?_ _)); exact BK120.out) hb); have n1_ := Aside0.mk (below_step (by repeat (first | (with_reducible first | exact HB.out | apply below_alloc | apply pw_below_drewN | apply below_drew1 | refine below_set ?_ GE120.out) | exact HB.out)) hb); clear BK120; clear HB; have BK120 := n0_; have HB := n1_; clear n0_ n1_; (try clear hb); (try clear hb2); (try clear hk); (try clear hi)))
    (try simp only [Act.put, List.setIfInBounds_toArray, List.set_cons_zero, List.set_cons_succ])
    go_cut [28] (fun v28 wc => ∃ (kq : Nat) (x28_6 : Bool), v28 = .bool x28_6 ∧ Aside0 (twid_Tile.j0 kq l0 t121 x28_6 a1_0 a1_1 a1_2 a1_3 = some (r1, r2)) ∧ Aside0 (kq ≤ k) ∧ Aside0 (wc.heap[gb120]? = some (.cells #[.int .i64 a1_0, .int .i64 a1_1, .int .i64 a1_2, .int .i64 a1_3] 79 (0, 0))) ∧ Aside0 (Below w.heap.size w wc))
    case first =>
      have H := HC7.out
      clear HC7
      replace H := Option.bind_eq_some_iff.mp H
      obtain ⟨t123, A100, H⟩ := H
      replace H : (if t123 = true then (twid_Tile.j0 k l0 t121 ((l0.length : Int) != (wrap64 (a1_0 * a1_1))) a1_0 a1_1 a1_2 a1_3) else (twid_Tile.j0 k l0 t121 true a1_0 a1_1 a1_2 a1_3)) = some (r1, r2) := H
      have A10 := Aside0.mk A100
      clear A100
      by_cases c11 : t123 = true
      · subst c11
        have H1 : (twid_Tile.j0 k l0 t121 ((l0.length : Int) != (wrap64 (a1_0 * a1_1))) a1_0 a1_1 a1_2 a1_3) = some (r1, r2) := by rw [if_pos rfl] at H; exact H
        clear H
        have H := H1
        clear H1
        have H' := Aside0.mk H
        clear H
        have hcz12_0 : w9.cell? ⟨gb120, 0, none⟩ = some (.int .i64 a1_0) := (blk_cell BK120.out 0).trans rfl
        have hcz12_1 : w9.cell? ⟨gb120, 1, none⟩ = some (.int .i64 a1_1) := (blk_cell BK120.out 1).trans rfl
        have hcz12_2 : w9.cell? ⟨gb120, 2, none⟩ = some (.int .i64 a1_2) := (blk_cell BK120.out 2).trans rfl
        have hcz12_3 : w9.cell? ⟨gb120, 3, none⟩ = some (.int .i64 a1_3) := (blk_cell BK120.out 3).trans rfl
        have hfz12_0 := blk_frozen BK120.out 0
        have hfz12_1 := blk_frozen BK120.out 1
        have hfz12_2 := blk_frozen BK120.out 2
        have hfz12_3 := blk_frozen BK120.out 3
        go_wp2_with (first | ((with_reducible refine gate_callee (f := 21) rfl ?_); refine goesL_ (some 31) rfl rfl Tryz.func21 (by kernel_rfl) rfl #[.agg #[.int .i64 a1_0, .int .i64 a1_1]] rfl (by (try simp only [List.map_toArray, List.map_cons, List.map_nil]); first | done | rfl | (simp only [List.length_drop, List.length_take]; rfl)) ?_; (with_reducible refine (shape_Good.calls a1_0 a1_1 true _ A10.out (TabOK.below hT (by repeat (first | (with_reducible first | exact HB.out | apply below_alloc | apply pw_below_drewN | apply below_drew1 | refine below_set ?_ GE120.out) | exact HB.out)))).mono ?_); rintro e w13 ⟨rfl, hb⟩; refine ⟨_, rfl, ?_⟩; have n0_ := Aside0.mk (blk_below (g := gb120) (o := .cells #[.int .i64 a1_0, .int .i64 a1_1, .int .i64 a1_2, .int .i64 a1_3] 79 (0, 0)) (by (with_reducible repeat (first | refine blk_drewN ?_ _ | refine blk_drew ?_ | refine blk_alloc ?_ _)); exact BK120.out) hb); have n1_ := Aside0.mk (below_step (by repeat (first | (with_reducible first | exact HB.out | apply below_alloc | apply pw_below_drewN | apply below_drew1 | refine below_set ?_ GE120.out) | exact HB.out)) hb); clear BK120; clear HB; have BK120 := n0_; have HB := n1_; clear n0_ n1_; (try clear hb); (try clear hb2); (try clear hk); (try clear hi); have hcz14_0 : w13.cell? ⟨gb120, 0, none⟩ = some (.int .i64 a1_0) := (blk_cell BK120.out 0).trans rfl; have hcz14_1 : w13.cell? ⟨gb120, 1, none⟩ = some (.int .i64 a1_1) := (blk_cell BK120.out 1).trans rfl; have hcz14_2 : w13.cell? ⟨gb120, 2, none⟩ = some (.int .i64 a1_2) := (blk_cell BK120.out 2).trans rfl; have hcz14_3 : w13.cell? ⟨gb120, 3, none⟩ = some (.int .i64 a1_3) := (blk_cell BK120.out 3).trans rfl; have hfz14_0 := blk_frozen BK120.out 0; have hfz14_1 := blk_frozen BK120.out 1; have hfz14_2 := blk_frozen BK120.out 2; have hfz14_3 := blk_frozen BK120.out 3))
        go_meet
        case rel => exact ⟨_, (((l0.length : Int) != (wrap64 (a1_0 * a1_1)))), (by first | rfl | (simp; done) | (simp [*]; done)), H', ⟨by first | omega | exact Nat.le_refl _⟩, ⟨by (with_reducible repeat (first | refine blk_drewN ?_ _ | refine blk_drew ?_ | refine blk_alloc ?_ _)); exact BK120.out⟩, ⟨by repeat (first | (with_reducible first | exact HB.out | apply below_alloc | apply pw_below_drewN | apply below_drew1 | refine below_set ?_ GE120.out) | exact HB.out)⟩⟩
      · replace c11 := Bool.eq_false_iff.mpr c11
        subst c11
        have H1 : (twid_Tile.j0 k l0 t121 true a1_0 a1_1 a1_2 a1_3) = some (r1, r2) := by rw [if_neg (show ¬ (false = true) by decide)] at H; exact H
        clear H
        have H := H1
        clear H1
        have H' := Aside0.mk H
        clear H
        have hcz15_0 : w9.cell? ⟨gb120, 0, none⟩ = some (.int .i64 a1_0) := (blk_cell BK120.out 0).trans rfl
        have hcz15_1 : w9.cell? ⟨gb120, 1, none⟩ = some (.int .i64 a1_1) := (blk_cell BK120.out 1).trans rfl
        have hcz15_2 : w9.cell? ⟨gb120, 2, none⟩ = some (.int .i64 a1_2) := (blk_cell BK120.out 2).trans rfl
        have hcz15_3 : w9.cell? ⟨gb120, 3, none⟩ = some (.int .i64 a1_3) := (blk_cell BK120.out 3).trans rfl
        have hfz15_0 := blk_frozen BK120.out 0
        have hfz15_1 := blk_frozen BK120.out 1
        have hfz15_2 := blk_frozen BK120.out 2
        have hfz15_3 := blk_frozen BK120.out 3
        go_wp2_with (first | ((with_reducible refine gate_callee (f := 21) rfl ?_); refine goesL_ (some 31) rfl rfl Tryz.func21 (by kernel_rfl) rfl #[.agg #[.int .i64 a1_0, .int .i64 a1_1]] rfl (by (try simp only [List.map_toArray, List.map_cons, List.map_nil]); first | done | rfl | (simp only [List.length_drop, List.length_take]; rfl)) ?_; (with_reducible refine (shape_Good.calls a1_0 a1_1 false _ A10.out (TabOK.below hT (by repeat (first | (with_reducible first | exact HB.out | apply below_alloc | apply pw_below_drewN | apply below_drew1 | refine below_set ?_ GE120.out) | exact HB.out)))).mono ?_); rintro e w16 ⟨rfl, hb⟩; refine ⟨_, rfl, ?_⟩; have n0_ := Aside0.mk (blk_below (g := gb120) (o := .cells #[.int .i64 a1_0, .int .i64 a1_1, .int .i64 a1_2, .int .i64 a1_3] 79 (0, 0)) (by (with_reducible repeat (first | refine blk_drewN ?_ _ | refine blk_drew ?_ | refine blk_alloc ?_ _)); exact BK120.out) hb); have n1_ := Aside0.mk (below_step (by repeat (first | (with_reducible first | exact HB.out | apply below_alloc | apply pw_below_drewN | apply below_drew1 | refine below_set ?_ GE120.out) | exact HB.out)) hb); clear BK120; clear HB; have BK120 := n0_; have HB := n1_; clear n0_ n1_; (try clear hb); (try clear hb2); (try clear hk); (try clear hi)))
        go_meet
        case rel => exact ⟨_, (true), (by first | rfl | (simp; done) | (simp [*]; done)), H', ⟨by first | omega | exact Nat.le_refl _⟩, ⟨by (with_reducible repeat (first | refine blk_drewN ?_ _ | refine blk_drew ?_ | refine blk_alloc ?_ _)); exact BK120.out⟩, ⟨by repeat (first | (with_reducible first | exact HB.out | apply below_alloc | apply pw_below_drewN | apply below_drew1 | refine below_set ?_ GE120.out) | exact HB.out)⟩⟩
    case rest =>
      clear HC7
      try clear c1
      try clear c2
      try clear p2
      try clear c4
      try clear c6
      try clear c6b0
      try clear c6b1
      try clear p6
      try clear c11
      try clear hcz12_0
      try clear hcz12_1
      try clear hcz12_2
      try clear hcz12_3
      try clear hcz14_0
      try clear hcz14_1
      try clear hcz14_2
      try clear hcz14_3
      try clear hcz15_0
      try clear hcz15_1
      try clear hcz15_2
      try clear hcz15_3
      try clear hfz12_0
      try clear hfz12_1
      try clear hfz12_2
      try clear hfz12_3
      try clear hfz14_0
      try clear hfz14_1
      try clear hfz14_2
      try clear hfz14_3
      try clear hfz15_0
      try clear hfz15_1
      try clear hfz15_2
      try clear hfz15_3
      obtain ⟨kq, x28_6, rfl, HA, HJ6, BK120, HB⟩ := hcut
      cases kq with
      | zero => exact absurd HA.out (by simp [twid_Tile.j0])
      | succ kj6 =>
        have H := HA.out
        clear HA
        simp only [twid_Tile.j0] at H
        by_cases c17 : x28_6 = true
        · subst c17
          have H1 : (some (([] : List Int), 19)) = some (r1, r2) := by rw [if_pos rfl] at H; exact H
          clear H
          have H := H1
          clear H1
          simp only [Option.some.injEq, Prod.mk.injEq] at H
          obtain ⟨rfl, rfl⟩ := H
          go_wp2
          go_ret2
          exact ⟨_, by first | rfl | (simp [errW_none, errW_some] <;> rfl) | (simp [*, errW_none, errW_some] <;> rfl), by first | exact Kd.R_nil _ _ _ _ _ | exact Kd.N_nil _ _ _ _ _ | exact Kd.V_nil _ _ _ _ _ | exact Kd.Q_nil _ _ _ _ _ | exact Kd.S_nil _ _ _ _ _, by repeat (first | (with_reducible first | exact HB.out | apply below_alloc | apply pw_below_drewN | apply below_drew1 | refine below_set ?_ GE120.out) | exact HB.out)⟩
        · replace c17 := Bool.eq_false_iff.mpr c17
          subst c17
          have H1 : ((twid_reaches.f a1_0 a1_1 a1_2 a1_3).bind fun t124 => (if t124 = true then (if 0 ≤ (l0.length : Int) then (if ((l0.length : Int) : Int).toNat ≤ 35184372088832 then (twid_Tile.l0 kj6 l0 t121 (([] : List Int)) a1_0 0 a1_0 a1_1 a1_2 a1_3) else (none)) else (none)) else (some (([] : List Int), 2)))) = some (r1, r2) := by rw [if_neg (show ¬ (false = true) by decide)] at H; exact H
          clear H
          have H := H1
          clear H1
          replace H := Option.bind_eq_some_iff.mp H
          obtain ⟨t124, A180, H⟩ := H
          replace H : (if t124 = true then (if 0 ≤ (l0.length : Int) then (if ((l0.length : Int) : Int).toNat ≤ 35184372088832 then (twid_Tile.l0 kj6 l0 t121 (([] : List Int)) a1_0 0 a1_0 a1_1 a1_2 a1_3) else (none)) else (none)) else (some (([] : List Int), 2))) = some (r1, r2) := H
          have A18 := Aside0.mk A180
          clear A180
          by_cases c19 : t124 = true
          · subst c19
            have H1 : (if 0 ≤ (l0.length : Int) then (if ((l0.length : Int) : Int).toNat ≤ 35184372088832 then (twid_Tile.l0 kj6 l0 t121 (([] : List Int)) a1_0 0 a1_0 a1_1 a1_2 a1_3) else (none)) else (none)) = some (r1, r2) := by rw [if_pos rfl] at H; exact H
            clear H
            have H := H1
            clear H1
            by_cases c20 : 0 ≤ (l0.length : Int)
            · rw [if_pos c20] at H
              have c20b0 := eq_true c20
              have c20b1 : decide (0 ≤ (l0.length : Int)) = true := decide_eq_true c20
              clear c20
              by_cases c21 : ((l0.length : Int) : Int).toNat ≤ 35184372088832
              · rw [if_pos c21] at H
                have c21b0 := eq_true c21
                have c21b1 : decide (((l0.length : Int) : Int).toNat ≤ 35184372088832) = true := decide_eq_true c21
                clear c21
                obtain ⟨y125, hy125⟩ : ∃ y_ : List Int, y_ = (([] : List Int)) := ⟨_, rfl⟩
                replace H : (twid_Tile.l0 kj6 l0 t121 y125 a1_0 0 a1_0 a1_1 a1_2 a1_3) = some (r1, r2) := by first | (rw [hy125]; with_reducible exact H) | (have H2_ := (Option.bind_some _ _).symm.trans H; rw [hy125]; with_reducible exact H2_) | (have H2_ := (Option.bind_some _ _).symm.trans H; with_reducible exact H2_) | with_reducible exact H | (rw [hy125]; exact H) | exact H
                have Ny125 := Aside0.mk hy125
                clear hy125
                have H' := Aside0.mk H
                clear H
                have hcz22_0 : wc.cell? ⟨gb120, 0, none⟩ = some (.int .i64 a1_0) := (blk_cell BK120.out 0).trans rfl
                have hcz22_1 : wc.cell? ⟨gb120, 1, none⟩ = some (.int .i64 a1_1) := (blk_cell BK120.out 1).trans rfl
                have hcz22_2 : wc.cell? ⟨gb120, 2, none⟩ = some (.int .i64 a1_2) := (blk_cell BK120.out 2).trans rfl
                have hcz22_3 : wc.cell? ⟨gb120, 3, none⟩ = some (.int .i64 a1_3) := (blk_cell BK120.out 3).trans rfl
                have hfz22_0 := blk_frozen BK120.out 0
                have hfz22_1 := blk_frozen BK120.out 1
                have hfz22_2 := blk_frozen BK120.out 2
                have hfz22_3 := blk_frozen BK120.out 3
                go_wp2_with (first | ((with_reducible refine gate_callee (f := 63) rfl ?_); refine goesL_ (some 47) rfl rfl Tryz.func63 (by kernel_rfl) rfl #[.agg #[.int .i64 a1_0, .int .i64 a1_1, .int .i64 a1_2, .int .i64 a1_3]] rfl (by (try simp only [List.map_toArray, List.map_cons, List.map_nil]); first | done | rfl | (simp only [List.length_drop, List.length_take]; rfl)) ?_; (with_reducible refine (twid_reaches.calls a1_0 a1_1 a1_2 a1_3 true _ A18.out).mono ?_); rintro e w23 ⟨rfl, hb⟩; refine ⟨_, rfl, ?_⟩; have n0_ := Aside0.mk (blk_below (g := gb120) (o := .cells #[.int .i64 a1_0, .int .i64 a1_1, .int .i64 a1_2, .int .i64 a1_3] 79 (0, 0)) (by (with_reducible repeat (first | refine blk_drewN ?_ _ | refine blk_drew ?_ | refine blk_alloc ?_ _)); exact BK120.out) hb); have n1_ := Aside0.mk (below_step (by repeat (first | (with_reducible first | exact HB.out | apply below_alloc | apply pw_below_drewN | apply below_drew1 | refine below_set ?_ GE120.out) | exact HB.out)) hb); clear BK120; clear HB; have BK120 := n0_; have HB := n1_; clear n0_ n1_; (try clear hb); (try clear hb2); (try clear hk); (try clear hi)) | ((with_reducible refine gate_dst (N := 51) rfl ?_); (try (refine gate_guard (by rfl) ?_; dsimp only)); refine KdR_makecap (Kd.int .u64) _ 33 rfl (N := 51) rfl 22 _ _ rfl (l0.length : Int) rfl rfl Tryz.underlying22 (.int .u64 0) 8 info33 rfl (by decide) (by omega) 0 (ok := fun _ => True) (okp := fun _ => True) rfl (fun _ hk => hk) trivial (of_decide_eq_true (by first | (with_reducible assumption) | assumption)) (Nat.le_trans (Nat.mul_le_mul_right _ (of_decide_eq_true (by first | (with_reducible assumption) | assumption) : (l0.length : Int).toNat ≤ 35184372088832)) (by omega)) (Below.refl _ _) (Nat.le_refl _) ?_; intro v126 w24 ho25 hb hg_ hnew_; clear hg_ hnew_; (first | rw [← Ny125.out] at ho25 | (simp only [Int.reduceToNat] at ho25; rw [← Ny125.out] at ho25)); have n0_ := Aside0.mk (Kd.R_lower ho25 (below_size (by repeat (first | (with_reducible first | exact HB.out | apply below_alloc | apply pw_below_drewN | apply below_drew1 | refine below_set ?_ GE120.out) | exact HB.out)))); have n1_ := Aside0.mk (blk_below (g := gb120) (o := .cells #[.int .i64 a1_0, .int .i64 a1_1, .int .i64 a1_2, .int .i64 a1_3] 79 (0, 0)) (by (with_reducible repeat (first | refine blk_drewN ?_ _ | refine blk_drew ?_ | refine blk_alloc ?_ _)); exact BK120.out) hb); have n2_ := Aside0.mk (below_step (by repeat (first | (with_reducible first | exact HB.out | apply below_alloc | apply pw_below_drewN | apply below_drew1 | refine below_set ?_ GE120.out) | exact HB.out)) hb); clear BK120; clear HB; have HO127 := n0_; have BK120 := n1_; have HB := n2_; clear n0_ n1_ n2_; clear hb ho25; have hcz26_0 : w24.cell? ⟨gb120, 0, none⟩ = some (.int .i64 a1_0) := (blk_cell BK120.out 0).trans rfl; have hcz26_1 : w24.cell? ⟨gb120, 1, none⟩ = some (.int .i64 a1_1) := (blk_cell BK120.out 1).trans rfl; have hcz26_2 : w24.cell? ⟨gb120, 2, none⟩ = some (.int .i64 a1_2) := (blk_cell BK120.out 2).trans rfl; have hcz26_3 : w24.cell? ⟨gb120, 3, none⟩ = some (.int .i64 a1_3) := (blk_cell BK120.out 3).trans rfl; have hfz26_0 := blk_frozen BK120.out 0; have hfz26_1 := blk_frozen BK120.out 1; have hfz26_2 := blk_frozen BK120.out 2; have hfz26_3 := blk_frozen BK120.out 3))
                go_loopg [12, 55] kj6 (fun kq v12 v55 w' => ∃ (x12_2 : List Int) (x55_2 : Int), v55 = .int .i64 x55_2 ∧ Aside0 (twid_Tile.l0 kq l0 t121 x12_2 a1_0 x55_2 a1_0 a1_1 a1_2 a1_3 = some (r1, r2)) ∧ Aside0 (kq ≤ kj6) ∧ Aside0 (Kd.R (Kd.int .u64) 33 w' w.heap.size (fun _ => True) v12 x12_2) ∧ Aside0 (w'.heap[gb120]? = some (.cells #[.int .i64 a1_0, .int .i64 a1_1, .int .i64 a1_2, .int .i64 a1_3] 79 (0, 0))) ∧ Aside0 (Below w.heap.size w w'))
                case atStart => exact ⟨(y125), (0), (by first | rfl | (simp; done) | (simp [*]; done)), H', ⟨Nat.le_refl _⟩, ⟨by (with_reducible repeat (first | apply Kd.R_alloc | apply Kd.R_drewN | apply Kd.R_drew)); exact HO127.out⟩, ⟨by (with_reducible repeat (first | refine blk_drewN ?_ _ | refine blk_drew ?_ | refine blk_alloc ?_ _)); exact BK120.out⟩, ⟨by repeat (first | (with_reducible first | exact HB.out | apply below_alloc | apply pw_below_drewN | apply below_drew1 | refine below_set ?_ GE120.out) | exact HB.out)⟩⟩
                case round =>
                  clear H'
                  try clear c1
                  try clear c2
                  try clear p2
                  try clear c4
                  try clear c6
                  try clear c6b0
                  try clear c6b1
                  try clear p6
                  try clear c11
                  try clear c17
                  try clear c19
                  try clear c20
                  try clear c20b0
                  try clear c20b1
                  try clear c21
                  try clear c21b0
                  try clear c21b1
                  try clear hcz12_0
                  try clear hcz12_1
                  try clear hcz12_2
                  try clear hcz12_3
                  try clear hcz14_0
                  try clear hcz14_1
                  try clear hcz14_2
                  try clear hcz14_3
                  try clear hcz15_0
                  try clear hcz15_1
                  try clear hcz15_2
                  try clear hcz15_3
                  try clear hcz22_0
                  try clear hcz22_1
                  try clear hcz22_2
                  try clear hcz22_3
                  try clear hcz26_0
                  try clear hcz26_1
                  try clear hcz26_2
                  try clear hcz26_3
                  try clear hfz12_0
                  try clear hfz12_1
                  try clear hfz12_2
                  try clear hfz12_3
                  try clear hfz14_0
                  try clear hfz14_1
                  try clear hfz14_2
                  try clear hfz14_3
                  try clear hfz15_0
                  try clear hfz15_1
                  try clear hfz15_2
                  try clear hfz15_3
                  try clear hfz22_0
                  try clear hfz22_1
                  try clear hfz22_2
                  try clear hfz22_3
                  try clear hfz26_0
                  try clear hfz26_1
                  try clear hfz26_2
                  try clear hfz26_3
                  try clear p2
                  try clear p6
                  obtain ⟨x12_2, x55_2, rfl, HA, HK2, HO_12, BK120, HB⟩ := hrel
                  cases gk with
                  | zero => exact absurd HA.out (by simp [twid_Tile.l0])
                  | succ k2 =>
                    have H := HA.out
                    clear HA
                    simp only [twid_Tile.l0] at H
                    by_cases c27 : x55_2 < a1_0
                    · rw [if_pos c27] at H
                      have c27b0 : decide (x55_2 < a1_0) = true := decide_eq_true c27
                      clear c27
                      replace H := Option.bind_eq_some_iff.mp H
                      obtain ⟨t128, A280, H⟩ := H
                      replace H : ((gold_Pow.f k2 t128 (IntKind.u64.wrap (a1_3))).bind fun t129 => (if 0 ≤ (wrap64 (x55_2 * a1_1)) then (if (wrap64 (x55_2 * a1_1)) ≤ (wrap64 ((wrap64 (x55_2 + 1)) * a1_1)) then (if (wrap64 ((wrap64 (x55_2 + 1)) * a1_1)) ≤ (l0.length : Int) then (twid_Tile.l1 k2 l0 t121 x12_2 t128 t129 a1_0 x55_2 ((l0.take ((wrap64 ((wrap64 (x55_2 + 1)) * a1_1)) : Int).toNat).drop ((wrap64 (x55_2 * a1_1)) : Int).toNat) (((l0.take ((wrap64 ((wrap64 (x55_2 + 1)) * a1_1)) : Int).toNat).drop ((wrap64 (x55_2 * a1_1)) : Int).toNat).length : Int) 0 a1_0 a1_1 a1_2 a1_3) else (none)) else (none)) else (none))) = some (r1, r2) := H
                      have A28 := Aside0.mk A280
                      clear A280
                      replace H := Option.bind_eq_some_iff.mp H
                      obtain ⟨t129, A290, H⟩ := H
                      replace H : (if 0 ≤ (wrap64 (x55_2 * a1_1)) then (if (wrap64 (x55_2 * a1_1)) ≤ (wrap64 ((wrap64 (x55_2 + 1)) * a1_1)) then (if (wrap64 ((wrap64 (x55_2 + 1)) * a1_1)) ≤ (l0.length : Int) then (twid_Tile.l1 k2 l0 t121 x12_2 t128 t129 a1_0 x55_2 ((l0.take ((wrap64 ((wrap64 (x55_2 + 1)) * a1_1)) : Int).toNat).drop ((wrap64 (x55_2 * a1_1)) : Int).toNat) (((l0.take ((wrap64 ((wrap64 (x55_2 + 1)) * a1_1)) : Int).toNat).drop ((wrap64 (x55_2 * a1_1)) : Int).toNat).length : Int) 0 a1_0 a1_1 a1_2 a1_3) else (none)) else (none)) else (none)) = some (r1, r2) := H
                      have A29 := Aside0.mk A290
                      clear A290
                      obtain ⟨ji30, hji30⟩ : ∃ j_ : Int, (wrap64 (x55_2 * a1_1)) = j_ := ⟨_, rfl⟩
                      replace H : (if 0 ≤ (ji30) then (if (ji30) ≤ (wrap64 ((wrap64 (x55_2 + 1)) * a1_1)) then (if (wrap64 ((wrap64 (x55_2 + 1)) * a1_1)) ≤ (l0.length : Int) then (twid_Tile.l1 k2 l0 t121 x12_2 t128 t129 a1_0 x55_2 ((l0.take ((wrap64 ((wrap64 (x55_2 + 1)) * a1_1)) : Int).toNat).drop ((ji30) : Int).toNat) (((l0.take ((wrap64 ((wrap64 (x55_2 + 1)) * a1_1)) : Int).toNat).drop ((ji30) : Int).toNat).length : Int) 0 a1_0 a1_1 a1_2 a1_3) else (none)) else (none)) else (none)) = some (r1, r2) := by first | (rw [hji30] at H; exact H) | (simp only [hji30] at H ⊢; exact H)
                      (try rw [hji30] at A28)
                      (try rw [hji30] at A29)
                      have hji30w : (IntKind.i64.wrap (x55_2 * a1_1)) = ji30 := (i64_w _).trans hji30
                      by_cases c31 : 0 ≤ (ji30)
                      · rw [if_pos c31] at H
                        have c31b0 := eq_true c31
                        have c31b1 : decide (0 ≤ (ji30)) = true := decide_eq_true c31
                        clear c31
                        by_cases c32 : (ji30) ≤ (wrap64 ((wrap64 (x55_2 + 1)) * a1_1))
                        · rw [if_pos c32] at H
                          have c32b0 := eq_true c32
                          have c32b1 : decide ((ji30) ≤ (wrap64 ((wrap64 (x55_2 + 1)) * a1_1))) = true := decide_eq_true c32
                          by_cases c33 : (wrap64 ((wrap64 (x55_2 + 1)) * a1_1)) ≤ (l0.length : Int)
                          · rw [if_pos c33] at H
                            have c33b0 := eq_true c33
                            have c33b1 : decide ((wrap64 ((wrap64 (x55_2 + 1)) * a1_1)) ≤ (l0.length : Int)) = true := decide_eq_true c33
                            have hlnx : (((l0.take ((wrap64 ((wrap64 (x55_2 + 1)) * a1_1)) : Int).toNat).drop ((ji30) : Int).toNat).length : Int) = (((((wrap64 ((wrap64 (x55_2 + 1)) * a1_1)) : Int).toNat - ((ji30) : Int).toNat : Nat)) : Int) := by rw [List.length_drop, List.length_take, Nat.min_eq_left (Int.toNat_le.mpr c33)]
                            have H' := Aside0.mk H
                            clear H
                            have hcz34_0 : wr.cell? ⟨gb120, 0, none⟩ = some (.int .i64 a1_0) := (blk_cell BK120.out 0).trans rfl
                            have hcz34_1 : wr.cell? ⟨gb120, 1, none⟩ = some (.int .i64 a1_1) := (blk_cell BK120.out 1).trans rfl
                            have hcz34_2 : wr.cell? ⟨gb120, 2, none⟩ = some (.int .i64 a1_2) := (blk_cell BK120.out 2).trans rfl
                            have hcz34_3 : wr.cell? ⟨gb120, 3, none⟩ = some (.int .i64 a1_3) := (blk_cell BK120.out 3).trans rfl
                            have hfz34_0 := blk_frozen BK120.out 0
                            have hfz34_1 := blk_frozen BK120.out 1
                            have hfz34_2 := blk_frozen BK120.out 2
                            have hfz34_3 := blk_frozen BK120.out 3
                            go_wp2_with (first | ((with_reducible refine gate_callee (f := 64) rfl ?_); refine goesL_ (some 64) rfl rfl Tryz.func64 (by kernel_rfl) rfl #[.int .u64 t121, .int .u64 (IntKind.u64.wrap (wrap64 (a1_2 + x55_2)))] rfl (by (try simp only [List.map_toArray, List.map_cons, List.map_nil]); first | done | rfl | (simp only [List.length_drop, List.length_take]; rfl)) ?_; (with_reducible refine (gold_Pow.calls k2 t121 (IntKind.u64.wrap (wrap64 (a1_2 + x55_2))) t128 _ A28.out).mono ?_); rintro e w35 ⟨rfl, hb⟩; refine ⟨_, rfl, ?_⟩; have n0_ := Aside0.mk (Kd.R_below (by (with_reducible repeat (first | apply Kd.R_alloc | apply Kd.R_drewN | apply Kd.R_drew)); exact HO_12.out) hb); have n1_ := Aside0.mk (blk_below (g := gb120) (o := .cells #[.int .i64 a1_0, .int .i64 a1_1, .int .i64 a1_2, .int .i64 a1_3] 79 (0, 0)) (by (with_reducible repeat (first | refine blk_drewN ?_ _ | refine blk_drew ?_ | refine blk_alloc ?_ _)); exact BK120.out) hb); have n2_ := Aside0.mk (below_step (by repeat (first | (with_reducible first | exact HB.out | apply below_alloc | apply pw_below_drewN | apply below_drew1 | refine below_set ?_ GE120.out) | exact HB.out)) hb); clear HO_12; clear BK120; clear HB; have HO_12 := n0_; have BK120 := n1_; have HB := n2_; clear n0_ n1_ n2_; (try clear hb); (try clear hb2); (try clear hk); (try clear hi); have hcz36_0 : w35.cell? ⟨gb120, 0, none⟩ = some (.int .i64 a1_0) := (blk_cell BK120.out 0).trans rfl; have hcz36_1 : w35.cell? ⟨gb120, 1, none⟩ = some (.int .i64 a1_1) := (blk_cell BK120.out 1).trans rfl; have hcz36_2 : w35.cell? ⟨gb120, 2, none⟩ = some (.int .i64 a1_2) := (blk_cell BK120.out 2).trans rfl; have hcz36_3 : w35.cell? ⟨gb120, 3, none⟩ = some (.int .i64 a1_3) := (blk_cell BK120.out 3).trans rfl; have hfz36_0 := blk_frozen BK120.out 0; have hfz36_1 := blk_frozen BK120.out 1; have hfz36_2 := blk_frozen BK120.out 2; have hfz36_3 := blk_frozen BK120.out 3) | ((with_reducible refine gate_callee (f := 64) rfl ?_); refine goesL_ (some 69) rfl rfl Tryz.func64 (by kernel_rfl) rfl #[.int .u64 t128, .int .u64 (IntKind.u64.wrap (a1_3))] rfl (by (try simp only [List.map_toArray, List.map_cons, List.map_nil]); first | done | rfl | (simp only [List.length_drop, List.length_take]; rfl)) ?_; (with_reducible refine (gold_Pow.calls k2 t128 (IntKind.u64.wrap (a1_3)) t129 _ A29.out).mono ?_); rintro e w37 ⟨rfl, hb⟩; refine ⟨_, rfl, ?_⟩; have n0_ := Aside0.mk (Kd.R_below (by (with_reducible repeat (first | apply Kd.R_alloc | apply Kd.R_drewN | apply Kd.R_drew)); exact HO_12.out) hb); have n1_ := Aside0.mk (blk_below (g := gb120) (o := .cells #[.int .i64 a1_0, .int .i64 a1_1, .int .i64 a1_2, .int .i64 a1_3] 79 (0, 0)) (by (with_reducible repeat (first | refine blk_drewN ?_ _ | refine blk_drew ?_ | refine blk_alloc ?_ _)); exact BK120.out) hb); have n2_ := Aside0.mk (below_step (by repeat (first | (with_reducible first | exact HB.out | apply below_alloc | apply pw_below_drewN | apply below_drew1 | refine below_set ?_ GE120.out) | exact HB.out)) hb); clear HO_12; clear BK120; clear HB; have HO_12 := n0_; have BK120 := n1_; have HB := n2_; clear n0_ n1_ n2_; (try clear hb); (try clear hb2); (try clear hk); (try clear hi); have hcz38_0 : w37.cell? ⟨gb120, 0, none⟩ = some (.int .i64 a1_0) := (blk_cell BK120.out 0).trans rfl; have hcz38_1 : w37.cell? ⟨gb120, 1, none⟩ = some (.int .i64 a1_1) := (blk_cell BK120.out 1).trans rfl; have hcz38_2 : w37.cell? ⟨gb120, 2, none⟩ = some (.int .i64 a1_2) := (blk_cell BK120.out 2).trans rfl; have hcz38_3 : w37.cell? ⟨gb120, 3, none⟩ = some (.int .i64 a1_3) := (blk_cell BK120.out 3).trans rfl; have hfz38_0 := blk_frozen BK120.out 0; have hfz38_1 := blk_frozen BK120.out 1; have hfz38_2 := blk_frozen BK120.out 2; have hfz38_3 := blk_frozen BK120.out 3; obtain ⟨i039, hi039, _, hsz39, _⟩ := info_parts info33; obtain ⟨A39, hcut39, hA39, hC39⟩ := print_mid_of (P := Tryz.prog) (Value.int .u64) 0 22 33 .i64 .i64 Tryz.underlying22 hi039 hsz39 A0 c0 l0 (ji30) (wrap64 ((wrap64 (x55_2 + 1)) * a1_1)) (of_decide_eq_true (by first | (with_reducible assumption) | assumption)) (by first | omega | exact of_decide_eq_true (by first | (with_reducible assumption) | assumption)) (of_decide_eq_true (by first | (with_reducible assumption) | assumption)) HC0.out; have HR130 := Aside0.mk (Kd.C_of_reads (h1 := fun _ => rfl) (hA39 _ (Kd.reads_of_C HR0.out))); have HC130 := Aside0.mk hC39; clear hA39 hC39 hi039 hsz39))
                            go_loopg [12, 15, 84] k2 (fun kq v12 v15 v84 w' => ∃ (x12_3 : List Int) (x15_3 : Int) (x84_3 : Int), v15 = .int .u64 x15_3 ∧ v84 = .int .i64 x84_3 ∧ Aside0 (twid_Tile.l1 kq l0 t121 x12_3 t128 x15_3 a1_0 x55_2 ((l0.take ((wrap64 ((wrap64 (x55_2 + 1)) * a1_1)) : Int).toNat).drop ((ji30) : Int).toNat) (((l0.take ((wrap64 ((wrap64 (x55_2 + 1)) * a1_1)) : Int).toNat).drop ((ji30) : Int).toNat).length : Int) x84_3 a1_0 a1_1 a1_2 a1_3 = some (r1, r2)) ∧ Aside0 (kq ≤ k2) ∧ Aside0 (Kd.R (Kd.int .u64) 33 w' w.heap.size (fun _ => True) v12 x12_3) ∧ Aside0 (w'.heap[gb120]? = some (.cells #[.int .i64 a1_0, .int .i64 a1_1, .int .i64 a1_2, .int .i64 a1_3] 79 (0, 0))) ∧ Aside0 (Below w.heap.size w w'))
                            case atStart => exact ⟨(x12_2), (t129), (0), (by first | rfl | (simp; done) | (simp [*]; done)), (by first | rfl | (simp; done) | (simp [*]; done)), H', ⟨Nat.le_refl _⟩, ⟨by (with_reducible repeat (first | apply Kd.R_alloc | apply Kd.R_drewN | apply Kd.R_drew)); exact HO_12.out⟩, ⟨by (with_reducible repeat (first | refine blk_drewN ?_ _ | refine blk_drew ?_ | refine blk_alloc ?_ _)); exact BK120.out⟩, ⟨by repeat (first | (with_reducible first | exact HB.out | apply below_alloc | apply pw_below_drewN | apply below_drew1 | refine below_set ?_ GE120.out) | exact HB.out)⟩⟩
                            case round =>
                              clear H'
                              try clear c1
                              try clear c2
                              try clear p2
                              try clear c3
                              try clear c4
                              try clear c6
                              try clear c6b0
                              try clear c6b1
                              try clear p6
                              try clear c11
                              try clear c17
                              try clear c19
                              try clear c20
                              try clear c20b0
                              try clear c20b1
                              try clear c21
                              try clear c21b0
                              try clear c21b1
                              try clear c27
                              try clear c27b0
                              try clear c31
                              try clear c31b0
                              try clear c31b1
                              try clear c32
                              try clear c32b0
                              try clear c32b1
                              try clear c33
                              try clear c33b0
                              try clear c33b1
                              try clear hcz12_0
                              try clear hcz12_1
                              try clear hcz12_2
                              try clear hcz12_3
                              try clear hcz14_0
                              try clear hcz14_1
                              try clear hcz14_2
                              try clear hcz14_3
                              try clear hcz15_0
                              try clear hcz15_1
                              try clear hcz15_2
                              try clear hcz15_3
                              try clear hcz22_0
                              try clear hcz22_1
                              try clear hcz22_2
                              try clear hcz22_3
                              try clear hcz26_0
                              try clear hcz26_1
                              try clear hcz26_2
                              try clear hcz26_3
                              try clear hcz34_0
                              try clear hcz34_1
                              try clear hcz34_2
                              try clear hcz34_3
                              try clear hcz36_0
                              try clear hcz36_1
                              try clear hcz36_2
                              try clear hcz36_3
                              try clear hcz38_0
                              try clear hcz38_1
                              try clear hcz38_2
                              try clear hcz38_3
                              try clear hfz12_0
                              try clear hfz12_1
                              try clear hfz12_2
                              try clear hfz12_3
                              try clear hfz14_0
                              try clear hfz14_1
                              try clear hfz14_2
                              try clear hfz14_3
                              try clear hfz15_0
                              try clear hfz15_1
                              try clear hfz15_2
                              try clear hfz15_3
                              try clear hfz22_0
                              try clear hfz22_1
                              try clear hfz22_2
                              try clear hfz22_3
                              try clear hfz26_0
                              try clear hfz26_1
                              try clear hfz26_2
                              try clear hfz26_3
                              try clear hfz34_0
                              try clear hfz34_1
                              try clear hfz34_2
                              try clear hfz34_3
                              try clear hfz36_0
                              try clear hfz36_1
                              try clear hfz36_2
                              try clear hfz36_3
                              try clear hfz38_0
                              try clear hfz38_1
                              try clear hfz38_2
                              try clear hfz38_3
                              try clear p2
                              try clear p6
                              obtain ⟨x12_3, x15_3, x84_3, rfl, rfl, HA, HK3, HO_12, BK120, HB⟩ := hrel
                              cases gk with
                              | zero => exact absurd HA.out (by simp [twid_Tile.l1])
                              | succ k3 =>
                                have H := HA.out
                                clear HA
                                simp only [twid_Tile.l1] at H
                                by_cases c40 : x84_3 < (((l0.take ((wrap64 ((wrap64 (x55_2 + 1)) * a1_1)) : Int).toNat).drop ((ji30) : Int).toNat).length : Int)
                                · rw [if_pos c40] at H
                                  have c40b0 : decide (x84_3 < (((l0.take ((wrap64 ((wrap64 (x55_2 + 1)) * a1_1)) : Int).toNat).drop ((ji30) : Int).toNat).length : Int)) = true := decide_eq_true c40
                                  have c40x : decide (x84_3 < (((((wrap64 ((wrap64 (x55_2 + 1)) * a1_1)) : Int).toNat - ((ji30) : Int).toNat : Nat)) : Int)) = true := by rw [← hlnx]; exact c40b0
                                  clear c40
                                  by_cases c41 : 0 ≤ x84_3
                                  · rw [if_pos c41] at H
                                    have c41b0 : decide (0 ≤ x84_3) = true := decide_eq_true c41
                                    clear c41
                                    by_cases c42 : x84_3 < (((l0.take ((wrap64 ((wrap64 (x55_2 + 1)) * a1_1)) : Int).toNat).drop ((ji30) : Int).toNat).length : Int)
                                    · rw [if_pos c42] at H
                                      have c42b0 : decide (x84_3 < (((l0.take ((wrap64 ((wrap64 (x55_2 + 1)) * a1_1)) : Int).toNat).drop ((ji30) : Int).toNat).length : Int)) = true := decide_eq_true c42
                                      clear c42
                                      replace H := Option.bind_eq_some_iff.mp H
                                      obtain ⟨t132, A430, H⟩ := H
                                      replace H : (if x12_3.length < 17592186044416 then ((gold_Mul.f x15_3 t128).bind fun t136 => (twid_Tile.l1 k3 l0 t121 (x12_3 ++ [t132]) t128 t136 a1_0 x55_2 ((l0.take ((wrap64 ((wrap64 (x55_2 + 1)) * a1_1)) : Int).toNat).drop ((ji30) : Int).toNat) (((l0.take ((wrap64 ((wrap64 (x55_2 + 1)) * a1_1)) : Int).toNat).drop ((ji30) : Int).toNat).length : Int) (wrap64 (x84_3 + 1)) a1_0 a1_1 a1_2 a1_3)) else (none)) = some (r1, r2) := H
                                      have A43 := Aside0.mk A430
                                      clear A430
                                      by_cases c44 : x12_3.length < 17592186044416
                                      · rw [if_pos c44] at H
                                        have LMc44 := Aside0.mk c44
                                        clear c44
                                        obtain ⟨y133, hy133⟩ : ∃ y_ : List Int, y_ = (x12_3 ++ [t132]) := ⟨_, rfl⟩
                                        replace H : ((gold_Mul.f x15_3 t128).bind fun t136 => (twid_Tile.l1 k3 l0 t121 y133 t128 t136 a1_0 x55_2 ((l0.take ((wrap64 ((wrap64 (x55_2 + 1)) * a1_1)) : Int).toNat).drop ((ji30) : Int).toNat) (((l0.take ((wrap64 ((wrap64 (x55_2 + 1)) * a1_1)) : Int).toNat).drop ((ji30) : Int).toNat).length : Int) (wrap64 (x84_3 + 1)) a1_0 a1_1 a1_2 a1_3)) = some (r1, r2) := by first | (rw [hy133]; with_reducible exact H) | (have H2_ := (Option.bind_some _ _).symm.trans H; rw [hy133]; with_reducible exact H2_) | (have H2_ := (Option.bind_some _ _).symm.trans H; with_reducible exact H2_) | with_reducible exact H | (rw [hy133]; exact H) | exact H
                                        have Ny133 := Aside0.mk hy133
                                        clear hy133
                                        replace H := Option.bind_eq_some_iff.mp H
                                        obtain ⟨t136, A450, H⟩ := H
                                        replace H : (twid_Tile.l1 k3 l0 t121 y133 t128 t136 a1_0 x55_2 ((l0.take ((wrap64 ((wrap64 (x55_2 + 1)) * a1_1)) : Int).toNat).drop ((ji30) : Int).toNat) (((l0.take ((wrap64 ((wrap64 (x55_2 + 1)) * a1_1)) : Int).toNat).drop ((ji30) : Int).toNat).length : Int) (wrap64 (x84_3 + 1)) a1_0 a1_1 a1_2 a1_3) = some (r1, r2) := H
                                        have A45 := Aside0.mk A450
                                        clear A450
                                        have H' := Aside0.mk H
                                        clear H
                                        have p131 : 0 ≤ (x84_3 : Int) := of_decide_eq_true (by first | (with_reducible assumption) | assumption)
                                        have q131 : x84_3 < (((l0.take ((wrap64 ((wrap64 (x55_2 + 1)) * a1_1)) : Int).toNat).drop ((ji30) : Int).toNat).length : Int) := of_decide_eq_true (by first | (with_reducible assumption) | assumption)
                                        obtain ⟨ad131, e131, hx131_0⟩ := Kd.at_int HR130.out x84_3 p131 q131
                                        cases e131
                                        replace hx131_0 := (HB.out.cell (World.block_lt_of_cell? w _ hx131_0)).trans hx131_0
                                        replace p131 := eq_true p131
                                        replace q131 := eq_true q131
                                        have q131x : (x84_3 < (((((wrap64 ((wrap64 (x55_2 + 1)) * a1_1)) : Int).toNat - ((ji30) : Int).toNat : Nat)) : Int)) = True := by rw [← hlnx]; exact q131
                                        go_wp2_with (first | ((with_reducible refine gate_callee (f := 65) rfl ?_); refine goesL_ (some 91) rfl rfl Tryz.func65 (by kernel_rfl) rfl #[.int .u64 (rd ((l0.take ((wrap64 ((wrap64 (x55_2 + 1)) * a1_1)) : Int).toNat).drop ((ji30) : Int).toNat) x84_3), .int .u64 x15_3] rfl (by (try simp only [List.map_toArray, List.map_cons, List.map_nil]); first | done | (simp only [hji30]; rfl) | rfl | (simp only [List.length_drop, List.length_take]; rfl)) ?_; (with_reducible refine (gold_Mul.calls (rd ((l0.take ((wrap64 ((wrap64 (x55_2 + 1)) * a1_1)) : Int).toNat).drop ((ji30) : Int).toNat) x84_3) x15_3 t132 _ A43.out).mono ?_); rintro e w46 ⟨rfl, hb⟩; refine ⟨_, rfl, ?_⟩; have n0_ := Aside0.mk (Kd.R_below (by (with_reducible repeat (first | apply Kd.R_alloc | apply Kd.R_drewN | apply Kd.R_drew)); exact HO_12.out) hb); have n1_ := Aside0.mk (blk_below (g := gb120) (o := .cells #[.int .i64 a1_0, .int .i64 a1_1, .int .i64 a1_2, .int .i64 a1_3] 79 (0, 0)) (by (with_reducible repeat (first | refine blk_drewN ?_ _ | refine blk_drew ?_ | refine blk_alloc ?_ _)); exact BK120.out) hb); have n2_ := Aside0.mk (below_step (by repeat (first | (with_reducible first | exact HB.out | apply below_alloc | apply pw_below_drewN | apply below_drew1 | refine below_set ?_ GE120.out) | exact HB.out)) hb); clear HO_12; clear BK120; clear HB; have HO_12 := n0_; have BK120 := n1_; have HB := n2_; clear n0_ n1_ n2_; (try clear hb); (try clear hb2); (try clear hk); (try clear hi)) | ((with_reducible refine gate_builtin (b := .append) (xs := #[.tmp 88, .tmp 92]) rfl ?_); (try (refine gate_guard (by rfl) ?_; dsimp only)); at_builtin; refine Kd.R_append (Kd.int .u64) (w0 := w) w.heap.size rfl (.tmp 88) (.tmp 92) 22 33 (.int .u64 0) 8 rfl Tryz.underlying22 info33 rfl (by decide) (by omega) u12 x12_3 t132 [.int .u64 t132] (fun _ => True) (fun _ => False) rfl rfl ?aP (fun _ hk => hk.elim) ?aF ?aO ?aB ?aS ?aL ?_; (case aP => exact rfl); (case aB => exact (by repeat (first | (with_reducible first | exact HB.out | apply below_alloc | apply pw_below_drewN | apply below_drew1 | refine below_set ?_ GE120.out) | exact HB.out))); (case aF => exact (fun _ _ => trivial)); (case aO => exact (by (with_reducible repeat (first | apply Kd.R_alloc | apply Kd.R_drewN | apply Kd.R_drew)); exact HO_12.out)); (case aS => exact (below_size (by repeat (first | (with_reducible first | exact HB.out | apply below_alloc | apply pw_below_drewN | apply below_drew1 | refine below_set ?_ GE120.out) | exact HB.out)))); (case aL => have := LMc44.out; omega); intro v134 w47 ho hb hg hat; rw [← Ny133.out] at ho; have n0_ := Aside0.mk (blk_grown (g := gb120) (o := .cells #[.int .i64 a1_0, .int .i64 a1_1, .int .i64 a1_2, .int .i64 a1_3] 79 (0, 0)) (by (with_reducible repeat (first | refine blk_drewN ?_ _ | refine blk_drew ?_ | refine blk_alloc ?_ _)); exact BK120.out) hg (Kd.R_ne HO_12.out BK120.out (by decide))); have n1_ := Aside0.mk (hb); have n2_ := Aside0.mk (ho); clear BK120; clear HB; clear HO_12; have BK120 := n0_; have HB := n1_; have HO135 := n2_; clear n0_ n1_ n2_; clear ho hb hg hat) | ((with_reducible refine gate_callee (f := 65) rfl ?_); refine goesL_ (some 96) rfl rfl Tryz.func65 (by kernel_rfl) rfl #[.int .u64 x15_3, .int .u64 t128] rfl (by (try simp only [List.map_toArray, List.map_cons, List.map_nil]); first | done | rfl | (simp only [List.length_drop, List.length_take]; rfl)) ?_; (with_reducible refine (gold_Mul.calls x15_3 t128 t136 _ A45.out).mono ?_); rintro e w48 ⟨rfl, hb⟩; refine ⟨_, rfl, ?_⟩; have n0_ := Aside0.mk (Kd.R_below (by (with_reducible repeat (first | apply Kd.R_alloc | apply Kd.R_drewN | apply Kd.R_drew)); exact HO135.out) hb); have n1_ := Aside0.mk (blk_below (g := gb120) (o := .cells #[.int .i64 a1_0, .int .i64 a1_1, .int .i64 a1_2, .int .i64 a1_3] 79 (0, 0)) (by (with_reducible repeat (first | refine blk_drewN ?_ _ | refine blk_drew ?_ | refine blk_alloc ?_ _)); exact BK120.out) hb); have n2_ := Aside0.mk (below_step (by repeat (first | (with_reducible first | exact HB.out | apply below_alloc | apply pw_below_drewN | apply below_drew1 | refine below_set ?_ GE120.out) | exact HB.out)) hb); clear HO135; clear BK120; clear HB; have HO135 := n0_; have BK120 := n1_; have HB := n2_; clear n0_ n1_ n2_; (try clear hb); (try clear hb2); (try clear hk); (try clear hi)))
                                        go_roundg k3
                                        case measure => have := HJ6.out; have := HK2.out; have := HK3.out; omega
                                        case rel => exact ⟨(y133), (t136), (wrap64 (x84_3 + 1)), (by first | rfl | (simp; done) | (simp [*]; done)), (by first | rfl | (simp; done) | (simp [*]; done)), H', ⟨by have := HJ6.out; have := HK2.out; have := HK3.out; omega⟩, ⟨by (with_reducible repeat (first | apply Kd.R_alloc | apply Kd.R_drewN | apply Kd.R_drew)); exact HO135.out⟩, ⟨by (with_reducible repeat (first | refine blk_drewN ?_ _ | refine blk_drew ?_ | refine blk_alloc ?_ _)); exact BK120.out⟩, ⟨by repeat (first | (with_reducible first | exact HB.out | apply below_alloc | apply pw_below_drewN | apply below_drew1 | refine below_set ?_ GE120.out) | exact HB.out)⟩⟩
                                      · rw [if_neg c44] at H
                                        exact absurd H (by simp)
                                    · rw [if_neg c42] at H
                                      exact absurd H (by simp)
                                  · rw [if_neg c41] at H
                                    exact absurd H (by simp)
                                · rw [if_neg c40] at H
                                  have c40b0 : decide (x84_3 < (((l0.take ((wrap64 ((wrap64 (x55_2 + 1)) * a1_1)) : Int).toNat).drop ((ji30) : Int).toNat).length : Int)) = false := decide_eq_false c40
                                  have c40x : decide (x84_3 < (((((wrap64 ((wrap64 (x55_2 + 1)) * a1_1)) : Int).toNat - ((ji30) : Int).toNat : Nat)) : Int)) = false := by rw [← hlnx]; exact c40b0
                                  clear c40
                                  have H' := Aside0.mk H
                                  clear H
                                  go_wp2
                                  go_roundg k3
                                  case measure => have := HJ6.out; have := HK2.out; have := HK3.out; omega
                                  case rel => exact ⟨(x12_3), (wrap64 (x55_2 + 1)), (by first | rfl | (simp; done) | (simp [*]; done)), H', ⟨by have := HJ6.out; have := HK2.out; have := HK3.out; omega⟩, ⟨by (with_reducible repeat (first | apply Kd.R_alloc | apply Kd.R_drewN | apply Kd.R_drew)); exact HO_12.out⟩, ⟨by (with_reducible repeat (first | refine blk_drewN ?_ _ | refine blk_drew ?_ | refine blk_alloc ?_ _)); exact BK120.out⟩, ⟨by repeat (first | (with_reducible first | exact HB.out | apply below_alloc | apply pw_below_drewN | apply below_drew1 | refine below_set ?_ GE120.out) | exact HB.out)⟩⟩
                          · rw [if_neg c33] at H
                            exact absurd H (by simp)
                        · rw [if_neg c32] at H
                          exact absurd H (by simp)
                      · rw [if_neg c31] at H
                        exact absurd H (by simp)
                    · rw [if_neg c27] at H
                      have c27b0 : decide (x55_2 < a1_0) = false := decide_eq_false c27
                      clear c27
                      simp only [Option.some.injEq, Prod.mk.injEq] at H
                      obtain ⟨rfl, rfl⟩ := H
                      go_wp2
                      go_ret2
                      exact ⟨_, by first | rfl | (simp [errW_none, errW_some] <;> rfl) | (simp [*, errW_none, errW_some] <;> rfl), by (with_reducible repeat (first | apply Kd.R_alloc | apply Kd.R_drewN | apply Kd.R_drew)); exact HO_12.out, by repeat (first | (with_reducible first | exact HB.out | apply below_alloc | apply pw_below_drewN | apply below_drew1 | refine below_set ?_ GE120.out) | exact HB.out)⟩
              · rw [if_neg c21] at H
                exact absurd H (by simp)
            · rw [if_neg c20] at H
              exact absurd H (by simp)
          · replace c19 := Bool.eq_false_iff.mpr c19
            subst c19
            have H1 : (some (([] : List Int), 2)) = some (r1, r2) := by rw [if_neg (show ¬ (false = true) by decide)] at H; exact H
            clear H
            have H := H1
            clear H1
            simp only [Option.some.injEq, Prod.mk.injEq] at H
            obtain ⟨rfl, rfl⟩ := H
            have hcz49_0 : wc.cell? ⟨gb120, 0, none⟩ = some (.int .i64 a1_0) := (blk_cell BK120.out 0).trans rfl
            have hcz49_1 : wc.cell? ⟨gb120, 1, none⟩ = some (.int .i64 a1_1) := (blk_cell BK120.out 1).trans rfl
            have hcz49_2 : wc.cell? ⟨gb120, 2, none⟩ = some (.int .i64 a1_2) := (blk_cell BK120.out 2).trans rfl
            have hcz49_3 : wc.cell? ⟨gb120, 3, none⟩ = some (.int .i64 a1_3) := (blk_cell BK120.out 3).trans rfl
            have hfz49_0 := blk_frozen BK120.out 0
            have hfz49_1 := blk_frozen BK120.out 1
            have hfz49_2 := blk_frozen BK120.out 2
            have hfz49_3 := blk_frozen BK120.out 3
            go_wp2_with (first | ((with_reducible refine gate_callee (f := 63) rfl ?_); refine goesL_ (some 47) rfl rfl Tryz.func63 (by kernel_rfl) rfl #[.agg #[.int .i64 a1_0, .int .i64 a1_1, .int .i64 a1_2, .int .i64 a1_3]] rfl (by (try simp only [List.map_toArray, List.map_cons, List.map_nil]); first | done | rfl | (simp only [List.length_drop, List.length_take]; rfl)) ?_; (with_reducible refine (twid_reaches.calls a1_0 a1_1 a1_2 a1_3 false _ A18.out).mono ?_); rintro e w50 ⟨rfl, hb⟩; refine ⟨_, rfl, ?_⟩; have n0_ := Aside0.mk (blk_below (g := gb120) (o := .cells #[.int .i64 a1_0, .int .i64 a1_1, .int .i64 a1_2, .int .i64 a1_3] 79 (0, 0)) (by (with_reducible repeat (first | refine blk_drewN ?_ _ | refine blk_drew ?_ | refine blk_alloc ?_ _)); exact BK120.out) hb); have n1_ := Aside0.mk (below_step (by repeat (first | (with_reducible first | exact HB.out | apply below_alloc | apply pw_below_drewN | apply below_drew1 | refine below_set ?_ GE120.out) | exact HB.out)) hb); clear BK120; clear HB; have BK120 := n0_; have HB := n1_; clear n0_ n1_; (try clear hb); (try clear hb2); (try clear hk); (try clear hi)))
            go_ret2
            exact ⟨_, by first | rfl | (simp [errW_none, errW_some] <;> rfl) | (simp [*, errW_none, errW_some] <;> rfl), by first | exact Kd.R_nil _ _ _ _ _ | exact Kd.N_nil _ _ _ _ _ | exact Kd.V_nil _ _ _ _ _ | exact Kd.Q_nil _ _ _ _ _ | exact Kd.S_nil _ _ _ _ _, by repeat (first | (with_reducible first | exact HB.out | apply below_alloc | apply pw_below_drewN | apply below_drew1 | refine below_set ?_ GE120.out) | exact HB.out)⟩
  · rw [if_neg c6] at H
    have c6b0 : (t122 == 0) = false := beq_eq_false_iff_ne.mpr c6
    have c6b1 : (t122 != 0) = true := bne_iff_ne.mpr c6
    simp only [Option.some.injEq, Prod.mk.injEq] at H
    obtain ⟨rfl, rfl⟩ := H
    go_enter Tryz.func43, Tryz.ntmps43
    go_wp2_with (first | ((with_reducible refine gate_dst (N := 5) rfl ?_); (try (refine gate_guard (by rfl) ?_; dsimp only)); refine box_event ?hg (N := 5) ?hd (cs := #[.int .i64 a1_0, .int .i64 a1_1, .int .i64 a1_2, .int .i64 a1_3]) (t := 79) ?hr ?_; (case hd => rfl); (case hg => rfl); (case hr => first | (go_simp; done) | (go_simp; rfl)); intro gb120 hg w51 hbox hb; have n0_ := Aside0.mk (below_step (by repeat (first | (with_reducible first | exact HB.out | apply below_alloc | apply pw_below_drewN | apply below_drew1) | exact HB.out)) hb); have n1_ := Aside0.mk (hbox); have n2_ := Aside0.mk ((by rw [hg]; exact (below_size (by repeat (first | (with_reducible first | exact HB.out | apply below_alloc | apply pw_below_drewN | apply below_drew1) | exact HB.out))) : w.heap.size ≤ gb120)); have n3_ := Aside0.mk ((by rw [hg]; exact (below_size (by repeat (first | (with_reducible first | exact HB.out | apply below_alloc | apply pw_below_drewN | apply below_drew1) | exact HB.out))) : w.heap.size ≤ gb120)); clear HB; have HB := n0_; have BK120 := n1_; have GW120 := n2_; have GE120 := n3_; clear n0_ n1_ n2_ n3_; clear hb hbox hg) | ((with_reducible refine gate_callee (f := 62) rfl ?_); refine goesL_ (some 21) rfl rfl Tryz.func62 (by kernel_rfl) rfl #[.int .i64 a2, .int .i64 a3] rfl (by (try simp only [List.map_toArray, List.map_cons, List.map_nil]); first | done | rfl | (simp only [List.length_drop, List.length_take]; rfl)) ?_; (with_reducible refine (twid_Root.calls k a2 a3 t121 t122 _ A5.out).mono ?_); rintro e w52 ⟨rfl, hb⟩; refine ⟨_, rfl, ?_⟩; have n0_ := Aside0.mk (blk_below (g := gb120) (o := .cells #[.int .i64 a1_0, .int .i64 a1_1, .int .i64 a1_2, .int .i64 a1_3] 79 (0, 0)) (by (with_reducible repeat (first | refine blk_drewN ?_ _ | refine blk_drew ?_ | refine blk_alloc ?_ _)); exact BK120.out) hb); have n1_ := Aside0.mk (below_step (by repeat (first | (with_reducible first | exact HB.out | apply below_alloc | apply pw_below_drewN | apply below_drew1 | refine below_set ?_ GE120.out) | exact HB.out)) hb); clear BK120; clear HB; have BK120 := n0_; have HB := n1_; clear n0_ n1_; (try clear hb); (try clear hb2); (try clear hk); (try clear hi)))
    go_ret2
    exact ⟨_, by first | rfl | (simp [errW_none, errW_some] <;> rfl) | (simp [*, errW_none, errW_some] <;> rfl), by first | exact Kd.R_nil _ _ _ _ _ | exact Kd.N_nil _ _ _ _ _ | exact Kd.V_nil _ _ _ _ _ | exact Kd.Q_nil _ _ _ _ _ | exact Kd.S_nil _ _ _ _ _, by repeat (first | (with_reducible first | exact HB.out | apply below_alloc | apply pw_below_drewN | apply below_drew1 | refine below_set ?_ GE120.out) | exact HB.out)⟩
end Go.Proofs.YtpnkcjnemoompaaGreatDoor.PFft
end
section
set_option linter.unusedVariables false
set_option linter.unusedSimpArgs false
namespace Go.Proofs.YtpnkcjnemoompaaGreatDoor.Fft
open Go.RowKit Go.Proofs.YtpnkcjnemoompaaGreatDoor Go.Proofs.YtpnkcjnemoompaaGreatDoor.Pure Go.Proofs.YtpnkcjnemoompaaGreatDoor.PPlan Go.Proofs.YtpnkcjnemoompaaGreatDoor.PFft Go.Proofs.YtpnkcjnemoompaaGreatDoor.Ext Go.Proofs.YtpnkcjnemoompaaGreatDoorW.PrintWords Go.Proofs.YtpnkcjnemoompaaGreatDoorW.PrintLast Go.Proofs.YtpnkcjnemoompaaGreatDoorW.PrintMore
theorem plc1 {C r c r' c' : Nat} (hc : c < C) (hc' : c' < C) (h : r * C + c = r' * C + c') : r = r' ∧ c = c' := by
  have h0 : 0 < C := by omega
  have e1 : (r * C + c) / C = r := by rw [Nat.mul_comm, Nat.mul_add_div h0, Nat.div_eq_of_lt hc, Nat.add_zero]
  have e2 : (r' * C + c') / C = r' := by rw [Nat.mul_comm, Nat.mul_add_div h0, Nat.div_eq_of_lt hc', Nat.add_zero]
  have : r = r' := by rw [← e1, ← e2, h]
  subst this
  exact ⟨rfl, by omega⟩
theorem plc2 {R C r c : Nat} (hr : r < R) (hc : c < C) : r * C + c < R * C := by
  have : (r + 1) * C ≤ R * C := Nat.mul_le_mul_right _ hr
  rw [Nat.add_mul, Nat.one_mul] at this
  omega
theorem set_at (o : List Int) (i j : Nat) (v : Int) (h : i < o.length) : (o.set i v).getD j 0 = if i = j then v else o.getD j 0 := by
  rw [List.getD_eq_getElem?_getD, List.getD_eq_getElem?_getD, List.getElem?_set]
  by_cases e : i = j
  · rw [if_pos e, if_pos e, if_pos h]; rfl
  · rw [if_neg e, if_neg e]
theorem pix (r C c : Nat) (h : r * C + c ≤ 1099511627776) : wrap64 ((wrap64 ((r : Int) * (C : Int))) + (c : Int)) = ((r * C + c : Nat) : Int) := by
  have h1 : r * C ≤ 9223372036854775807 := by omega
  have h2 : (0 : Int) ≤ ((r * C + c : Nat) : Int) ∧ ((r * C + c : Nat) : Int) ≤ 9223372036854775807 := by omega
  rw [mulc r C h1, ← Int.natCast_add]
  exact wrap_i _ (by omega) h2.2
theorem rTpose_l1 (l : List Int) (R C r : Nat) (hr : r < R) (hR : R ≤ 1048576) (hC : C ≤ 1048576) (hRC : R * C = l.length) (hL : l.length ≤ 1048576) (res : List Int) (m : Nat) : ∀ (c : Nat) (o : List Int), c + m = C → o.length = l.length →
    (∀ r' c', r' < R → c' < C → (r' < r ∨ r' = r ∧ c' < c) → o.getD (c' * R + r') 0 = l.getD (r' * C + c') 0) →
    (∀ o' : List Int, o'.length = l.length → (∀ r' c', r' < R → c' < C → r' < r + 1 → o'.getD (c' * R + r') 0 = l.getD (r' * C + c') 0) → Ev (fun k => abacistref06_Transpose.l0 k l o' ((r + 1 : Nat) : Int) (R : Int) (C : Int)) res) →
    Ev (fun k => abacistref06_Transpose.l1 k l o (r : Int) (c : Int) (R : Int) (C : Int)) res := by
  induction m with
  | zero =>
    intro c o hc ho hi hres
    obtain rfl : c = C := by omega
    refine Ev.step (fun k => ?_) (hres o ho fun r' c' h1 h2 h3 => hi r' c' h1 h2 (by omega))
    simp only [abacistref06_Transpose.l1]
    rw [if_neg (by omega), wsucc r (by omega)]
  | succ m ih =>
    intro c o hc ho hi hres
    have h1 : r * C + c < R * C := plc2 hr (by omega)
    have h2 : c * R + r < C * R := plc2 (by omega) hr
    rw [Nat.mul_comm C R] at h2
    have k1 : r * C + c ≤ 1099511627776 := by omega
    have k2 : c * R + r ≤ 1099511627776 := by omega
    have k3 : (c : Int) < (C : Int) := by omega
    have k4 : (0 : Int) ≤ ((r * C + c : Nat) : Int) := by omega
    have k5 : ((r * C + c : Nat) : Int) < (l.length : Int) := by omega
    have k6 : (0 : Int) ≤ ((c * R + r : Nat) : Int) := by omega
    have k7 : ((c * R + r : Nat) : Int) < (o.length : Int) := by omega
    have k8 : c < 4611686018427387904 := by omega
    have k9 : c * R + r < o.length := by omega
    refine Ev.step (f := fun k => abacistref06_Transpose.l1 k l (o.set (c * R + r) (l.getD (r * C + c) 0)) (r : Int) ((c + 1 : Nat) : Int) (R : Int) (C : Int)) (fun k => ?_) (ih (c + 1) _ (by omega) (by rw [List.length_set]; exact ho) (fun r' c' g1 g2 g3 => ?_) hres)
    · simp only [abacistref06_Transpose.l1]
      rw [if_pos k3, pix r C c k1, pix c R r k2, if_pos k4, if_pos k5, if_pos k6, if_pos k7, Int.toNat_natCast, rdn, wsucc c k8]
    · rw [set_at _ _ _ _ k9]
      by_cases e : c * R + r = c' * R + r'
      · obtain ⟨rfl, rfl⟩ := plc1 hr g1 e
        rw [if_pos e]
      · rw [if_neg e]
        refine hi r' c' g1 g2 ?_
        rcases g3 with g3 | ⟨rfl, g3⟩
        · exact .inl g3
        · refine .inr ⟨rfl, ?_⟩
          rcases Nat.lt_or_ge c' c with g4 | g4
          · exact g4
          · exact absurd (by rw [show c' = c by omega]) e
theorem rTpose_l0 (l : List Int) (R C : Nat) (hR : R ≤ 1048576) (hC : C ≤ 1048576) (hRC : R * C = l.length) (hL : l.length ≤ 1048576) (m : Nat) : ∀ (r : Nat) (o : List Int), r + m = R → o.length = l.length →
    (∀ r' c', r' < R → c' < C → r' < r → o.getD (c' * R + r') 0 = l.getD (r' * C + c') 0) →
    Ev (fun k => abacistref06_Transpose.l0 k l o (r : Int) (R : Int) (C : Int)) (tl (C * R) (tps l R C)) := by
  induction m with
  | zero =>
    intro r o hr ho hi
    obtain rfl : r = R := by omega
    refine Ev.step (f := fun _ => some _) (fun k => ?_) (Ev.now _)
    simp only [abacistref06_Transpose.l0]
    rw [if_neg (by omega)]
    refine congrArg some (list_ext (by rw [tl_len, ho, ← hRC, Nat.mul_comm]) fun t ht => ?_)
    rw [ho, ← hRC, Nat.mul_comm] at ht
    have h0 : 0 < r := by rcases Nat.eq_zero_or_pos r with e | e; (subst e; simp at ht); exact e
    have e : t = t / r * r + t % r := by rw [Nat.mul_comm]; exact (Nat.div_add_mod t r).symm
    have hq : t / r < C := by rw [Nat.div_lt_iff_lt_mul h0]; exact ht
    have hm := Nat.mod_lt t h0
    rw [tl_get _ ht, e, tps_at _ _ _ _ _ hm, hi (t % r) (t / r) hm hq hm]
  | succ m ih =>
    intro r o hr ho hi
    refine Ev.step (fun k => ?_) (rTpose_l1 l R C r (by omega) hR hC hRC hL _ C 0 o (by omega) ho (fun r' c' g1 g2 g3 => hi r' c' g1 g2 (by omega)) (fun o' h1 h2 => ih (r + 1) o' (by omega) h1 h2))
    simp only [abacistref06_Transpose.l0]
    rw [if_pos (by omega)]
    rfl
theorem rTpose (l : List Int) (R C : Nat) (hR : R ≤ 1048576) (hC : C ≤ 1048576) (hRC : R * C = l.length) (hL : l.length ≤ 1048576) : Ev (fun k => abacistref06_Transpose.f k l (R : Int) (C : Int)) (tl (C * R) (tps l R C)) := by
  unfold abacistref06_Transpose.f
  refine Ev.bind (Ev_eq rfl) (Ev_if (by simp only [List.length_nil]; omega) ?_)
  rw [List.nil_append]
  exact rTpose_l0 l R C hR hC hRC hL R 0 l (by omega) rfl (fun _ _ _ _ h => absurd h (Nat.not_lt_zero _))
def pv (l : List Int) (C b : Nat) (d T s : Int) (t : Nat) : F := dft C (rut b d) (fun c' => el l (t / C * C + c')) (t % C) * fo s * (if 0 ≤ T then pw (rut T.toNat d) ((t / C) * (t % C)) else 1)
theorem pv_at (l : List Int) (C b : Nat) (d T s : Int) (r j : Nat) (h : j < C) : pv l C b d T s (r * C + j) = dft C (rut b d) (fun c' => el l (r * C + c')) j * fo s * (if 0 ≤ T then pw (rut T.toNat d) (r * j) else 1) := by
  unfold pv
  have e1 : (r * C + j) / C = r := by rw [Nat.mul_comm r C, Nat.mul_add_div (by omega), Nat.div_eq_of_lt h, Nat.add_zero]
  have e2 : (r * C + j) % C = j := by rw [Nat.mul_comm r C, Nat.mul_add_mod, Nat.mod_eq_of_lt h]
  rw [e1, e2]
theorem rRows_l1 (l : List Int) (b : Nat) (R C r : Nat) (hr : r < R) (hR : R ≤ 1048576) (hC : C ≤ 1048576) (hRC : R * C = l.length) (hL : l.length ≤ 1048576) (d T s : Int) (hd : d = 0 ∨ d = 1) (hT : T ≤ 32) (hs : W64 s) (res : List Int) (m : Nat) : ∀ j, j + m = C →
    Ev (fun k => abacistref24_Rows.l0 k l (tb ((r + 1) * C) (pv l C b d T s)) (b : Int) ((r + 1 : Nat) : Int) (R : Int) (C : Int) d T s) res →
    Ev (fun k => abacistref24_Rows.l1 k l (tb (r * C + j) (pv l C b d T s)) (b : Int) (r : Int) (tb C (dft C (rut b d) (fun c' => el l (r * C + c')))) (j : Int) (R : Int) (C : Int) d T s) res := by
  have hle : (r + 1) * C ≤ l.length := by rw [← hRC]; exact Nat.mul_le_mul_right _ hr
  obtain ⟨g, hg⟩ : ∃ g, g = dft C (rut b d) (fun c' => el l (r * C + c')) := ⟨_, rfl⟩
  have hpv : ∀ j, j < C → pv l C b d T s (r * C + j) = g j * fo s * (if 0 ≤ T then pw (rut T.toNat d) (r * j) else 1) := by
    intro j hj
    rw [pv_at _ _ _ _ _ _ _ _ hj, hg]
  rw [← hg]
  induction m with
  | zero =>
    intro j hj hres
    obtain rfl : j = C := by omega
    refine Ev.step (fun k => ?_) hres
    simp only [abacistref24_Rows.l1]
    rw [if_neg (by rw [tb_len]; omega), wsucc r (by omega), Nat.add_mul, Nat.one_mul]
  | succ m ih =>
    intro j hj hres
    have hjb : r * C + j < l.length := by rw [Nat.add_mul, Nat.one_mul] at hle; omega
    have hp := hpv j (by omega)
    have hrj : r * j ≤ 1048576 * 1048576 := Nat.mul_le_mul (by omega) (by omega)
    have k1 : r * j ≤ 9223372036854775807 := by omega
    have k2 : (0 : Int) ≤ ((r * j : Nat) : Int) := by omega
    have k3 : ((r * j : Nat) : Int) ≤ 18446744073709551615 := by omega
    have k3' : ((r * j : Nat) : Int) < 18446744073709551616 := by omega
    have k4 : (j : Int) < ((tb C g).length : Int) := by rw [tb_len]; omega
    have k5 : (0 : Int) ≤ (j : Int) := by omega
    have k6 : j < C := by omega
    have k7 : j < 4611686018427387904 := by omega
    have k8 : (tb (r * C + j) (pv l C b d T s)).length < 17592186044416 := by rw [tb_len]; omega
    have m1 := rMul (fv (g j)) s (fv_range _).1 hs
    rw [fo_fv] at m1
    have nx := ih (j + 1) (by omega) hres
    rw [← Nat.add_assoc, tb_succ, hp] at nx
    refine Ev.step (f := fun k => (abacistref02_Mul.f k (fv (g j)) s).bind fun t => if T ≥ 0 then ((abacistref08_Root.f k T d).bind fun t2 => (abacistref02_Pow.f k t2 ((r * j : Nat) : Int)).bind fun t3 => (abacistref02_Mul.f k t t3).bind fun t4 => abacistref24_Rows.l1 k l (tb (r * C + j) (pv l C b d T s) ++ [t4]) (b : Int) (r : Int) (tb C g) ((j + 1 : Nat) : Int) (R : Int) (C : Int) d T s) else abacistref24_Rows.l1 k l (tb (r * C + j) (pv l C b d T s) ++ [t]) (b : Int) (r : Int) (tb C g) ((j + 1 : Nat) : Int) (R : Int) (C : Int) d T s) (fun k => ?_) (Ev.bind m1 ?_)
    · simp only [abacistref24_Rows.l1]
      rw [if_pos k4, if_pos k5, rdn, tb_get g k6, mulc r j k1, wrap_u _ k2 k3', wsucc j k7]
      simp only [if_pos k8]
    · by_cases hT0 : 0 ≤ T
      · rw [if_pos hT0] at nx
        obtain ⟨K, rfl⟩ := Int.eq_ofNat_of_zero_le hT0
        have kK : K ≤ 32 := by omega
        have p1 := rPow (fv (rut K d)) ((r * j : Nat) : Int) (fv_range _).1 ⟨k2, k3'⟩
        rw [fo_fv, Int.toNat_natCast] at p1
        rw [Int.toNat_natCast] at nx
        exact Ev_if hT0 (Ev.bind (r8Root K kK d hd) (Ev.bind p1 (Ev.bind (rMulF (g j * fo s) (pw (rut K d) (r * j))) nx)))
      · rw [if_neg hT0] at nx
        refine Ev_ifn hT0 ?_
        rw [show g j * fo s * 1 = g j * fo s by grobner] at nx
        exact nx
theorem rRows_l0 (l : List Int) (hl : Ws l) (b : Nat) (hb : b ≤ 32) (R C : Nat) (hCb : C = 2 ^ b) (hR : R ≤ 1048576) (hC : C ≤ 1048576) (hRC : R * C = l.length) (hL : l.length ≤ 1048576) (d T s : Int) (hd : d = 0 ∨ d = 1) (hT : T ≤ 32) (hs : W64 s) (m : Nat) : ∀ r, r + m = R →
    Ev (fun k => abacistref24_Rows.l0 k l (tb (r * C) (pv l C b d T s)) (b : Int) (r : Int) (R : Int) (C : Int) d T s) (tb (R * C) (pv l C b d T s)) := by
  clear hCb
  induction m with
  | zero =>
    intro r hr
    obtain rfl : r = R := by omega
    refine Ev.step (f := fun _ => some _) (fun k => ?_) (Ev.now _)
    simp only [abacistref24_Rows.l0]
    rw [if_neg (by omega)]
  | succ m ih =>
    intro r hr
    have hle : (r + 1) * C ≤ l.length := by rw [← hRC]; exact Nat.mul_le_mul_right _ (by omega)
    have hle2 : r * C ≤ (r + 1) * C := Nat.mul_le_mul_right _ (by omega)
    have c1 : (0 : Int) ≤ ((r * C : Nat) : Int) := by omega
    have c2 : ((r * C : Nat) : Int) ≤ (((r + 1) * C : Nat) : Int) := by omega
    have c3 : (((r + 1) * C : Nat) : Int) ≤ (l.length : Int) := by omega
    obtain ⟨pt, hpt⟩ : ∃ z, z = (l.take ((r + 1) * C)).drop (r * C) := ⟨_, rfl⟩
    have hpl : pt.length = C := by rw [hpt]; exact part_len l C r hle
    have hpw : Ws pt := by
      intro i
      rw [hpt]
      rcases Nat.lt_or_ge i C with h | h
      · rw [part_get l C r i h]; exact hl _
      · rw [List.getD_eq_getElem?_getD, List.getElem?_eq_none (by rw [part_len l C r hle]; exact h)]; exact ⟨by decide, by decide⟩
    have hD := rDft pt hpw b hb d hd (by omega)
    rw [hpl] at hD
    have hrow : tb C (dft C (rut b d) (el pt)) = tb C (dft C (rut b d) (fun c' => el l (r * C + c'))) := tb_congr fun i _ => dft_congr (fun c hc => by unfold el; rw [hpt, part_get l C r c hc]) i
    rw [hrow] at hD
    refine Ev.step (f := fun k => (abacistref08_Dft.f k pt (b : Int) d).bind fun t => abacistref24_Rows.l1 k l (tb (r * C) (pv l C b d T s)) (b : Int) (r : Int) t 0 (R : Int) (C : Int) d T s) (fun k => ?_) (Ev.bind hD ?_)
    · have k1 : (r : Int) < (R : Int) := by omega
      have k2 : r < 4611686018427387904 := by omega
      have k3 : r * C ≤ 9223372036854775807 := by omega
      have k4 : (r + 1) * C ≤ 9223372036854775807 := by omega
      have e1 : wrap64 ((r : Int) * (C : Int)) = ((r * C : Nat) : Int) := mulc r C k3
      have e2 : wrap64 ((wrap64 ((r : Int) + 1)) * (C : Int)) = (((r + 1) * C : Nat) : Int) := by rw [wsucc r k2]; exact mulc (r + 1) C k4
      simp only [abacistref24_Rows.l0]
      rw [if_pos k1]
      simp only [e1, e2, if_pos c1, if_pos c2, if_pos c3, Int.toNat_natCast, hpt]
    · have := rRows_l1 l b R C r (by omega) hR hC hRC hL d T s hd hT hs _ C 0 (by omega) (ih (r + 1) (by omega))
      rw [Nat.add_zero] at this
      exact this
theorem rRows (l : List Int) (hl : Ws l) (b : Nat) (hb : b ≤ 32) (R C : Nat) (hCb : C = 2 ^ b) (hR : R ≤ 1048576) (hC : C ≤ 1048576) (hRC : R * C = l.length) (hL : l.length ≤ 1048576) (d T s : Int) (hd : d = 0 ∨ d = 1) (hT : T ≤ 32) (hs : W64 s) :
    Ev (fun k => abacistref24_Rows.f k l (R : Int) (C : Int) d T s) (tb l.length (pv l C b d T s)) := by
  unfold abacistref24_Rows.f
  refine Ev.bind (rfits_yes (C : Int) b ⟨hb, by rw [hCb]⟩) ?_
  have := rRows_l0 l hl b hb R C hCb hR hC hRC hL d T s hd hT hs R 0 (by omega)
  rw [Nat.zero_mul, tb_zero, hRC] at this
  exact this
end Go.Proofs.YtpnkcjnemoompaaGreatDoor.Fft
end
section
namespace Go.Proofs.YtpnkcjnemoompaaGreatDoor.Kern
open Go.RowKit Go.Proofs.YtpnkcjnemoompaaGreatDoor Go.Proofs.YtpnkcjnemoompaaGreatDoor.Ext Go.Proofs.YtpnkcjnemoompaaGreatDoor.PPlan Go.Proofs.YtpnkcjnemoompaaGreatDoor.PFft Go.Proofs.YtpnkcjnemoompaaGreatDoor.Pure Go.Proofs.YtpnkcjnemoompaaGreatDoor.Obj Go.Proofs.YtpnkcjnemoompaaGreatDoor.Fft Go.Proofs.YtpnkcjnemoompaaGreatDoorW.PrintWords Go.Proofs.YtpnkcjnemoompaaGreatDoorW.PrintLast Go.Proofs.YtpnkcjnemoompaaGreatDoorW.PrintMore
set_option linter.unusedVariables false
set_option linter.unusedSimpArgs false
set_option maxRecDepth 100000
set_option linter.unusedVariables false
set_option maxHeartbeats 2000000 in
theorem clone_in (A : Option Addr) (c : Nat) (l : List Int) (w : World) (h : In w A c l) (hp : 0 < l.length) (hL : l.length ≤ 1048576) :
    Calls Tryz.prog 41 #[.slice A l.length c] w fun e w' => ∃ g d, e = .returned (.slice (some ⟨g, 0, none⟩) l.length d) ∧ Mr w' g d l ∧ Below w.heap.size w w' ∧ w.heap.size ≤ g := by
  obtain ⟨ad, q, hx⟩ := Kd.at_int h.r 0 (by omega) (by omega)
  subst q
  clear hx
  have HL := Aside0.mk h
  have q22 : ∀ (w : World) (a : Option Addr) (n c n' c' : Nat), (binOp .eql 22 (.slice a n c) (.slice none n' c')).run Tryz.prog w = .ok (.bool a.isNone) w := fun w a n c n' c' => Lib.run_eql_slice_nil w _ _ a n c n' c' Tryz.underlying22
  clear h
  go_enter Tryz.func41, Tryz.ntmps41
  go_wp2_with (first | ((with_reducible refine gate_dst (N := 5) rfl ?_); refine Kd.R_lit (Kd.int .u64) _ 33 ?hg (N := 5) ?hd (xs := []) (inner := []) (ok := fun _ => True) (okp := fun _ => True) ?hr ?hp (fun _ hk => hk) trivial (Below.refl _ _) (Nat.le_refl _) (by simp) ?_; (case hd => rfl); (case hg => rfl); (case hr => first | (go_simp; done) | (go_simp; rfl)); (case hp => exact (Reps.none _ _)); intro v5 w5 ho hb hg_ hnew_; have HOx := Aside0.mk ho; have HBx := Aside0.mk hb; clear hg_ hnew_ ho hb) | ((with_reducible refine gate_builtin (b := .append) (xs := #[.tmp 5, .tmp 6]) rfl ?_); at_builtin; refine Kd.R_append_rows (Kd.int .u64) (w0 := w) w.heap.size rfl (.tmp 5) (.tmp 6) 22 33 (.int .u64 0) 8 rfl Tryz.underlying22 info33 rfl (by decide) (by omega) v5 [] (l) _ _ _ (fun _ => True) (fun _ => False) rfl rfl ?aO ?aR (fun _ _ h => h) (fun _ h => h.elim) ?aF ?aB ?aS ?aL ?_; (case aR => exact (Kd.C_below (HL.out.r) HBx.out)); (case aB => exact HBx.out); (case aF => exact (fun _ _ => trivial)); (case aO => exact HOx.out); (case aS => exact HBx.out.size); (case aL => (simp only [List.length_nil]; omega)); intro v6 w6 ho2 hb2 hg_ hat_; rw [List.nil_append] at ho2; clear hg_ hat_; clear HOx HBx; obtain ⟨gm, cm, hv, hgm, hmm⟩ := Mr.of_R ho2 hp; subst hv; have HGm := Aside0.mk hgm; have HMm := Aside0.mk hmm; have HB6 := Aside0.mk hb2; clear hgm hmm hb2 ho2))
  go_ret
  exact ⟨gm, cm, rfl, HMm.out, HB6.out, HGm.out⟩
def wr0 (l : List Int) (R C b : Nat) (d : Int) : List Int := vfold l b d (fun i => i * C) (fun _ => 1) C R
def wr1 (l : List Int) (R C b : Nat) (d T : Int) : List Int := if 0 ≤ T then tb (R * C) (tw (wr0 l R C b d) (rut T.toNat d) C) else wr0 l R C b d
def wr2 (l : List Int) (R C b : Nat) (d T : Int) : List Int := if d = 1 then tb l.length (fun i => el (wr1 l R C b d T) i * fo (C : Int)) else wr1 l R C b d T
def wres (l : List Int) (R C b : Nat) (d T s : Int) : List Int := tb l.length (fun i => el (wr2 l R C b d T) i * fo s)
theorem wres_len (l : List Int) (R C b : Nat) (d T s : Int) : (wres l R C b d T s).length = l.length := tb_len _ _
theorem wres_is (l : List Int) (R C b : Nat) (hb : C = 2 ^ b) (hl : R * C = l.length) (d T s : Int) : wres l R C b d T s = tb l.length (pv l C b d T s) := by
  refine tb_congr fun t ht => ?_
  have hC0 : 0 < C := by rw [hb]; exact Nat.two_pow_pos b
  obtain ⟨r, c, hr, hc, rfl⟩ : ∃ r c, r < R ∧ c < C ∧ t = r * C + c := ⟨t / C, t % C, by rw [Nat.div_lt_iff_lt_mul hC0, hl]; exact ht, Nat.mod_lt _ hC0, by rw [Nat.mul_comm]; exact (Nat.div_add_mod t C).symm⟩
  have e0 : el (wr0 l R C b d) (r * C + c) = tr b d (fun c' => el l (r * C + c')) c := by
    unfold wr0
    unfold el
    rw [rows_at l b d R C hb hl r c hr hc, fo_fv]
    rfl
  have e1 : el (wr1 l R C b d T) (r * C + c) = tr b d (fun c' => el l (r * C + c')) c * (if 0 ≤ T then pw (rut T.toNat d) (r * c) else 1) := by
    unfold wr1
    by_cases h : 0 ≤ T
    · rw [if_pos h, if_pos h, el_tb _ (by rw [hl]; exact ht), tw_at _ _ _ _ _ hc, e0]
    · rw [if_neg h, if_neg h, e0]
      grobner
  have e2 : el (wr2 l R C b d T) (r * C + c) = dft C (rut b d) (fun c' => el l (r * C + c')) c * (if 0 ≤ T then pw (rut T.toNat d) (r * c) else 1) := by
    unfold wr2
    by_cases h : d = 1
    · rw [if_pos h, el_tb _ ht, e1]
      have hs := shf_is b
      have hn : fo (C : Int) = pw 2 b := by rw [← nf_two b, ← hb]; rfl
      unfold tr
      rw [if_pos h, hn, ← hb]
      generalize dft C (rut b d) (fun c' => el l (r * C + c')) c = x at *
      generalize (if 0 ≤ T then pw (rut T.toNat d) (r * c) else 1) = y at *
      generalize pw 2 b = z at *
      generalize shf b = u at *
      grobner
    · rw [if_neg h, e1]
      unfold tr
      rw [if_neg h, ← hb]
      grobner
  rw [e2, pv_at _ _ _ _ _ _ _ _ hc]
  grobner
end Go.Proofs.YtpnkcjnemoompaaGreatDoor.Kern
end
section
namespace Go.Proofs.YtpnkcjnemoompaaGreatDoor.Kern
open Go.RowKit Go.Proofs.YtpnkcjnemoompaaGreatDoor Go.Proofs.YtpnkcjnemoompaaGreatDoor.Ext Go.Proofs.YtpnkcjnemoompaaGreatDoor.PPlan Go.Proofs.YtpnkcjnemoompaaGreatDoor.PFft Go.Proofs.YtpnkcjnemoompaaGreatDoor.Pure Go.Proofs.YtpnkcjnemoompaaGreatDoor.Obj Go.Proofs.YtpnkcjnemoompaaGreatDoor.Fft Go.Proofs.YtpnkcjnemoompaaGreatDoorW.PrintWords Go.Proofs.YtpnkcjnemoompaaGreatDoorW.PrintLast Go.Proofs.YtpnkcjnemoompaaGreatDoorW.PrintMore
set_option linter.unusedVariables false
set_option linter.unusedSimpArgs false
set_option maxRecDepth 100000
set_option maxHeartbeats 4000000 in
theorem work_0f (R C a b : Nat) (A : Option Addr) (c : Nat) (l : List Int) (T s K F O : Int) (hT0 : T = -1) (hs : W64 s) (ha : R = 2 ^ a) (hb : C = 2 ^ b) (hab : a + b ≤ 20) (hl : R * C = l.length) (hW : Ws l) (w : World) (hI : In w A c l) (hT : TabOK w) :
    Calls Tryz.prog 24 #[.slice A l.length c, .agg #[.int .i64 (R : Int), .int .i64 (C : Int), .int .i64 0, .int .i64 T, .int .u64 s, .int .i64 K, .int .i64 F, .int .i64 O]] w fun e w' => ∃ g c', e = .returned (.tuple #[.slice (some ⟨g, 0, none⟩) l.length c', .int .i64 0]) ∧ Mr w' g c' (wres l R C b 0 T s) ∧ Below w.heap.size w w' := by
  subst hT0
  have hL : l.length ≤ 1048576 := by rw [← hl, ha, hb, ← Nat.pow_add]; exact pow20 hab
  have hp : 0 < l.length := by rw [← hl, ha, hb, ← Nat.pow_add]; exact Nat.two_pow_pos _
  have hC1 : C ≤ 1048576 := by rw [hb]; exact pow20 (by omega)
  have hd : (0 : Int) = 0 ∨ (0 : Int) = 1 := by decide
  obtain ⟨m0, hm0⟩ : ∃ z, z = vfold l b 0 (fun i => i * C) (fun _ => 1) C R := ⟨_, rfl⟩
  have hm0l : m0.length = l.length := by rw [hm0]; exact vfold_len _ _ _ _ _ _ _
  have hm0w : Ws m0 := by rw [hm0]; exact vfold_ws hW _ _ _ _ _ _
  have hres : tb m0.length (fun i => el m0 i * fo s) = wres l R C b 0 (-1) s := by
    unfold wres wr2 wr1 wr0
    rw [if_neg (show ¬ (0 : Int) ≤ -1 by decide), ← hm0, if_neg (by decide), hm0l]
  have HB := Aside0.mk (below_alloc (Below.refl w.heap.size w) (Obj.cells #[.int .i64 (R : Int), .int .i64 (C : Int), .int .i64 0, .int .i64 (-1), .int .u64 s, .int .i64 K, .int .i64 F, .int .i64 O] 37))
  have HS := Aside0.mk (Bk.new w 37 [.int .i64 (R : Int), .int .i64 (C : Int), .int .i64 0, .int .i64 (-1), .int .u64 s, .int .i64 K, .int .i64 F, .int .i64 O])
  have HL := Aside0.mk (hI.below HB.out)
  have HT := Aside0.mk hT
  have HW := Aside0.mk hW
  have HA := Aside0.mk ha
  have HBb := Aside0.mk hb
  have HAB := Aside0.mk hab
  have HLn := Aside0.mk hl
  have HM0 := Aside0.mk hm0
  have HR := Aside0.mk hres
  have HSs := Aside0.mk hs
  have HWm0 := Aside0.mk hm0w
  have u0 := HS.out.cell 0
  have u1 := HS.out.cell 1
  have u2 := HS.out.cell 2
  have u3 := HS.out.cell 3
  have u4 := HS.out.cell 4
  obtain ⟨bs, hbs⟩ : ∃ z, z = w.heap.size := ⟨_, rfl⟩
  have hbg : w.heap.size ≤ bs := by omega
  have c1 : decide ((C : Int) > 1048576) = false := decide_eq_false (by omega)
  have c2 : decide ((1048576 : Int) < (C : Int)) = false := decide_eq_false (by omega)
  clear hI hT hW ha hb hab hl hm0 hres hs hm0w
  go_enter Tryz.func24, Tryz.ntmps24
  go_wp2_with fail
  clear u0 u1 u2 u3 u4
  with_reducible refine (clone_in A c l _ HL.out hp hL).mono ?_
  rintro e w1 ⟨g, cg, rfl, hm, hb, hg⟩
  rw [← hbs] at HS ⊢
  clear hbs
  have HB1 := Aside0.mk (below_then HB.out HB.out.size hb)
  have HS1 := Aside0.mk (HS.out.below hb)
  have HG := Aside0.mk (show w.heap.size ≤ g by have := HB.out.size; omega)
  have HN := Aside0.mk (show bs ≠ g by have := HS.out.lt; omega)
  have HM := Aside0.mk hm
  clear hm hb hg HB HS HL
  have u0 := HS1.out.cell 0
  have u1 := HS1.out.cell 1
  have u2 := HS1.out.cell 2
  have u3 := HS1.out.cell 3
  have u4 := HS1.out.cell 4
  go_wp2_with fail
  clear u0 u1 u2 u3 u4
  with_reducible refine (rows_yes R C a b g cg l 0 (.inl rfl) HA.out HBb.out HAB.out HLn.out HW.out _ HM.out (HT.out.below HB1.out)).mono ?_
  rintro e w2 ⟨rfl, hm, hf⟩
  rw [← HM0.out] at hm
  have HB2 := Aside0.mk (HB1.out.trans (hf.below (B := w.heap.size) HB1.out.size (by simpa using HG.out)))
  have HM2 := Aside0.mk hm
  have HS2 := Aside0.mk (HS1.out.fr hf (by simpa using HN.out))
  clear hm hf HB1 HS1 HM
  have u0 := HS2.out.cell 0
  have u1 := HS2.out.cell 1
  have u2 := HS2.out.cell 2
  have u3 := HS2.out.cell 3
  have u4 := HS2.out.cell 4
  go_wp2_with fail
  clear u0 u1 u2 u3 u4
  have ht := scale_calls (some ⟨g, 0, none⟩) cg m0 s _ (In.of_mr HM2.out (by omega)) HWm0.out HSs.out (by omega)
  rw [HR.out, hm0l] at ht
  with_reducible refine ht.mono ?_
  clear ht
  rintro e w5 ⟨gz, rfl, hr, hb, hgz⟩
  have HB5 := Aside0.mk (below_then HB2.out HB2.out.size hb)
  have hm5 := Mr.of_rw hr
  rw [wres_len] at hm5
  have HM5 := Aside0.mk hm5
  clear hm5 hr hb hgz
  go_wp2_with fail
  refine bodyPost_ret (v := .tuple #[.slice (some ⟨gz, 0, none⟩) l.length l.length, .int .i64 0]) (by simp [results, Tryz.results24, go_sem]) rfl ?_
  exact ⟨gz, _, rfl, HM5.out, HB5.out⟩
set_option maxHeartbeats 4000000 in
theorem work_0t (R C a b : Nat) (A : Option Addr) (c : Nat) (l : List Int) (T s K F O : Int) (hT0 : 0 ≤ T) (hT2 : T ≤ 32) (hs : W64 s) (ha : R = 2 ^ a) (hb : C = 2 ^ b) (hab : a + b ≤ 20) (hl : R * C = l.length) (hW : Ws l) (w : World) (hI : In w A c l) (hT : TabOK w) :
    Calls Tryz.prog 24 #[.slice A l.length c, .agg #[.int .i64 (R : Int), .int .i64 (C : Int), .int .i64 0, .int .i64 T, .int .u64 s, .int .i64 K, .int .i64 F, .int .i64 O]] w fun e w' => ∃ g c', e = .returned (.tuple #[.slice (some ⟨g, 0, none⟩) l.length c', .int .i64 0]) ∧ Mr w' g c' (wres l R C b 0 T s) ∧ Below w.heap.size w w' := by
  have hL : l.length ≤ 1048576 := by rw [← hl, ha, hb, ← Nat.pow_add]; exact pow20 hab
  have hp : 0 < l.length := by rw [← hl, ha, hb, ← Nat.pow_add]; exact Nat.two_pow_pos _
  have hC1 : C ≤ 1048576 := by rw [hb]; exact pow20 (by omega)
  have hd : (0 : Int) = 0 ∨ (0 : Int) = 1 := by decide
  obtain ⟨m0, hm0⟩ : ∃ z, z = vfold l b 0 (fun i => i * C) (fun _ => 1) C R := ⟨_, rfl⟩
  have hm0l : m0.length = l.length := by rw [hm0]; exact vfold_len _ _ _ _ _ _ _
  have hm0w : Ws m0 := by rw [hm0]; exact vfold_ws hW _ _ _ _ _ _
  obtain ⟨q, rfl⟩ := Int.eq_ofNat_of_zero_le hT0
  obtain ⟨kt, hkt⟩ := (gTile m0 hm0w R C a b ha hb hab (by rw [hm0l, hl]) (by rw [hm0l]; exact hL) q (by omega) 0 hd).rounds
  obtain ⟨m1, hm1⟩ : ∃ z, z = tb (R * C) (tw m0 (rut q 0) C) := ⟨_, rfl⟩
  have hm1l : m1.length = l.length := by rw [hm1, tb_len, hl]
  have hm1w : Ws m1 := by rw [hm1]; exact tb_ws _ _
  rw [← hm1] at hkt
  have hres : tb m1.length (fun i => el m1 i * fo s) = wres l R C b 0 (q : Int) s := by
    unfold wres wr2 wr1 wr0
    rw [if_pos (show (0 : Int) ≤ (q : Int) by omega), Int.toNat_natCast, ← hm0, ← hm1, if_neg (by decide), hm1l]
  have HB := Aside0.mk (below_alloc (Below.refl w.heap.size w) (Obj.cells #[.int .i64 (R : Int), .int .i64 (C : Int), .int .i64 0, .int .i64 (q : Int), .int .u64 s, .int .i64 K, .int .i64 F, .int .i64 O] 37))
  have HS := Aside0.mk (Bk.new w 37 [.int .i64 (R : Int), .int .i64 (C : Int), .int .i64 0, .int .i64 (q : Int), .int .u64 s, .int .i64 K, .int .i64 F, .int .i64 O])
  have HL := Aside0.mk (hI.below HB.out)
  have HT := Aside0.mk hT
  have HW := Aside0.mk hW
  have HA := Aside0.mk ha
  have HBb := Aside0.mk hb
  have HAB := Aside0.mk hab
  have HLn := Aside0.mk hl
  have HM0 := Aside0.mk hm0
  have HR := Aside0.mk hres
  have HSs := Aside0.mk hs
  have HWm1 := Aside0.mk hm1w
  have u0 := HS.out.cell 0
  have u1 := HS.out.cell 1
  have u2 := HS.out.cell 2
  have u3 := HS.out.cell 3
  have u4 := HS.out.cell 4
  obtain ⟨bs, hbs⟩ : ∃ z, z = w.heap.size := ⟨_, rfl⟩
  have hbg : w.heap.size ≤ bs := by omega
  have c1 : decide ((C : Int) > 1048576) = false := decide_eq_false (by omega)
  have c2 : decide ((1048576 : Int) < (C : Int)) = false := decide_eq_false (by omega)
  have HKT := Aside0.mk hkt
  have t1 : decide ((q : Int) < -1) = false := decide_eq_false (by omega)
  have t2 : decide ((q : Int) > 32) = false := decide_eq_false (by omega)
  have t3 : decide ((32 : Int) < (q : Int)) = false := decide_eq_false (by omega)
  have t4 : decide ((q : Int) ≥ 0) = true := decide_eq_true (by omega)
  have t5 : decide ((0 : Int) ≤ (q : Int)) = true := decide_eq_true (by omega)
  clear hI hT hW ha hb hab hl hm0 hres hs hm0w hm1 hm1w hkt
  go_enter Tryz.func24, Tryz.ntmps24
  go_wp2_with fail
  clear u0 u1 u2 u3 u4
  with_reducible refine (clone_in A c l _ HL.out hp hL).mono ?_
  rintro e w1 ⟨g, cg, rfl, hm, hb, hg⟩
  rw [← hbs] at HS ⊢
  clear hbs
  have HB1 := Aside0.mk (below_then HB.out HB.out.size hb)
  have HS1 := Aside0.mk (HS.out.below hb)
  have HG := Aside0.mk (show w.heap.size ≤ g by have := HB.out.size; omega)
  have HN := Aside0.mk (show bs ≠ g by have := HS.out.lt; omega)
  have HM := Aside0.mk hm
  clear hm hb hg HB HS HL
  have u0 := HS1.out.cell 0
  have u1 := HS1.out.cell 1
  have u2 := HS1.out.cell 2
  have u3 := HS1.out.cell 3
  have u4 := HS1.out.cell 4
  go_wp2_with fail
  clear u0 u1 u2 u3 u4
  with_reducible refine (rows_yes R C a b g cg l 0 (.inl rfl) HA.out HBb.out HAB.out HLn.out HW.out _ HM.out (HT.out.below HB1.out)).mono ?_
  rintro e w2 ⟨rfl, hm, hf⟩
  rw [← HM0.out] at hm
  have HB2 := Aside0.mk (HB1.out.trans (hf.below (B := w.heap.size) HB1.out.size (by simpa using HG.out)))
  have HM2 := Aside0.mk hm
  have HS2 := Aside0.mk (HS1.out.fr hf (by simpa using HN.out))
  clear hm hf HB1 HS1 HM
  have u0 := HS2.out.cell 0
  have u1 := HS2.out.cell 1
  have u2 := HS2.out.cell 2
  have u3 := HS2.out.cell 3
  have u4 := HS2.out.cell 4
  go_wp2_with fail
  clear u0 u1 u2 u3 u4
  have ht := twid_Tile.calls kt (some ⟨g, 0, none⟩) cg m0 (R : Int) (C : Int) 0 0 (q : Int) 0 m1 0 _ (In.of_mr HM2.out (by omega)).r (In.of_mr HM2.out (by omega)).c HKT.out (HT.out.below HB2.out)
  rw [hm0l] at ht
  with_reducible refine ht.mono ?_
  clear ht
  rintro e w3 ⟨v, rfl, hr, hb⟩
  obtain ⟨gt, ct, hv, hgt, hmt⟩ := Mr.of_R hr (by omega)
  subst hv
  rw [hm1l]
  have HB3 := Aside0.mk (below_then HB2.out HB2.out.size hb)
  have HM3 := Aside0.mk hmt
  have HS3 := Aside0.mk (HS2.out.below hb)
  clear hr hb hgt hmt HB2 HM2 HS2
  have u0 := HS3.out.cell 0
  have u1 := HS3.out.cell 1
  have u2 := HS3.out.cell 2
  have u3 := HS3.out.cell 3
  have u4 := HS3.out.cell 4
  go_wp2_with fail
  clear u0 u1 u2 u3 u4
  have ht := scale_calls (some ⟨gt, 0, none⟩) ct m1 s _ (In.of_mr HM3.out (by omega)) HWm1.out HSs.out (by omega)
  rw [HR.out, hm1l] at ht
  with_reducible refine ht.mono ?_
  clear ht
  rintro e w5 ⟨gz, rfl, hr, hb, hgz⟩
  have HB5 := Aside0.mk (below_then HB3.out HB3.out.size hb)
  have hm5 := Mr.of_rw hr
  rw [wres_len] at hm5
  have HM5 := Aside0.mk hm5
  clear hm5 hr hb hgz
  go_wp2_with fail
  refine bodyPost_ret (v := .tuple #[.slice (some ⟨gz, 0, none⟩) l.length l.length, .int .i64 0]) (by simp [results, Tryz.results24, go_sem]) rfl ?_
  exact ⟨gz, _, rfl, HM5.out, HB5.out⟩
set_option maxHeartbeats 4000000 in
theorem work_1f (R C a b : Nat) (A : Option Addr) (c : Nat) (l : List Int) (T s K F O : Int) (hT0 : T = -1) (hs : W64 s) (ha : R = 2 ^ a) (hb : C = 2 ^ b) (hab : a + b ≤ 20) (hl : R * C = l.length) (hW : Ws l) (w : World) (hI : In w A c l) (hT : TabOK w) :
    Calls Tryz.prog 24 #[.slice A l.length c, .agg #[.int .i64 (R : Int), .int .i64 (C : Int), .int .i64 1, .int .i64 T, .int .u64 s, .int .i64 K, .int .i64 F, .int .i64 O]] w fun e w' => ∃ g c', e = .returned (.tuple #[.slice (some ⟨g, 0, none⟩) l.length c', .int .i64 0]) ∧ Mr w' g c' (wres l R C b 1 T s) ∧ Below w.heap.size w w' := by
  subst hT0
  have hL : l.length ≤ 1048576 := by rw [← hl, ha, hb, ← Nat.pow_add]; exact pow20 hab
  have hp : 0 < l.length := by rw [← hl, ha, hb, ← Nat.pow_add]; exact Nat.two_pow_pos _
  have hC1 : C ≤ 1048576 := by rw [hb]; exact pow20 (by omega)
  have hd : (1 : Int) = 0 ∨ (1 : Int) = 1 := by decide
  obtain ⟨m0, hm0⟩ : ∃ z, z = vfold l b 1 (fun i => i * C) (fun _ => 1) C R := ⟨_, rfl⟩
  have hm0l : m0.length = l.length := by rw [hm0]; exact vfold_len _ _ _ _ _ _ _
  have hm0w : Ws m0 := by rw [hm0]; exact vfold_ws hW _ _ _ _ _ _
  obtain ⟨m2, hm2⟩ : ∃ z, z = tb m0.length (fun i => el m0 i * fo (C : Int)) := ⟨_, rfl⟩
  have hm2l : m2.length = l.length := by rw [hm2, tb_len, hm0l]
  have hm2w : Ws m2 := by rw [hm2]; exact tb_ws _ _
  have hres : tb m2.length (fun i => el m2 i * fo s) = wres l R C b 1 (-1) s := by
    unfold wres wr2 wr1 wr0
    rw [if_neg (show ¬ (0 : Int) ≤ -1 by decide), ← hm0, if_pos rfl, ← hm0l, ← hm2, hm2l, ← hm0l]
  have HB := Aside0.mk (below_alloc (Below.refl w.heap.size w) (Obj.cells #[.int .i64 (R : Int), .int .i64 (C : Int), .int .i64 1, .int .i64 (-1), .int .u64 s, .int .i64 K, .int .i64 F, .int .i64 O] 37))
  have HS := Aside0.mk (Bk.new w 37 [.int .i64 (R : Int), .int .i64 (C : Int), .int .i64 1, .int .i64 (-1), .int .u64 s, .int .i64 K, .int .i64 F, .int .i64 O])
  have HL := Aside0.mk (hI.below HB.out)
  have HT := Aside0.mk hT
  have HW := Aside0.mk hW
  have HA := Aside0.mk ha
  have HBb := Aside0.mk hb
  have HAB := Aside0.mk hab
  have HLn := Aside0.mk hl
  have HM0 := Aside0.mk hm0
  have HR := Aside0.mk hres
  have HSs := Aside0.mk hs
  have HWm2 := Aside0.mk hm2w
  have u0 := HS.out.cell 0
  have u1 := HS.out.cell 1
  have u2 := HS.out.cell 2
  have u3 := HS.out.cell 3
  have u4 := HS.out.cell 4
  obtain ⟨bs, hbs⟩ : ∃ z, z = w.heap.size := ⟨_, rfl⟩
  have hbg : w.heap.size ≤ bs := by omega
  have c1 : decide ((C : Int) > 1048576) = false := decide_eq_false (by omega)
  have c2 : decide ((1048576 : Int) < (C : Int)) = false := decide_eq_false (by omega)
  have HWl := Aside0.mk hm0w
  have hcw : IntKind.u64.wrap (C : Int) = (C : Int) := wrap_u _ (by omega) (by omega)
  have hcW : W64 (C : Int) := ⟨by omega, by omega⟩
  clear hI hT hW ha hb hab hl hm0 hres hs hm0w hm2w
  go_enter Tryz.func24, Tryz.ntmps24
  go_wp2_with fail
  clear u0 u1 u2 u3 u4
  with_reducible refine (clone_in A c l _ HL.out hp hL).mono ?_
  rintro e w1 ⟨g, cg, rfl, hm, hb, hg⟩
  rw [← hbs] at HS ⊢
  clear hbs
  have HB1 := Aside0.mk (below_then HB.out HB.out.size hb)
  have HS1 := Aside0.mk (HS.out.below hb)
  have HG := Aside0.mk (show w.heap.size ≤ g by have := HB.out.size; omega)
  have HN := Aside0.mk (show bs ≠ g by have := HS.out.lt; omega)
  have HM := Aside0.mk hm
  clear hm hb hg HB HS HL
  have u0 := HS1.out.cell 0
  have u1 := HS1.out.cell 1
  have u2 := HS1.out.cell 2
  have u3 := HS1.out.cell 3
  have u4 := HS1.out.cell 4
  go_wp2_with fail
  clear u0 u1 u2 u3 u4
  with_reducible refine (rows_yes R C a b g cg l 1 (.inr rfl) HA.out HBb.out HAB.out HLn.out HW.out _ HM.out (HT.out.below HB1.out)).mono ?_
  rintro e w2 ⟨rfl, hm, hf⟩
  rw [← HM0.out] at hm
  have HB2 := Aside0.mk (HB1.out.trans (hf.below (B := w.heap.size) HB1.out.size (by simpa using HG.out)))
  have HM2 := Aside0.mk hm
  have HS2 := Aside0.mk (HS1.out.fr hf (by simpa using HN.out))
  clear hm hf HB1 HS1 HM
  have u0 := HS2.out.cell 0
  have u1 := HS2.out.cell 1
  have u2 := HS2.out.cell 2
  have u3 := HS2.out.cell 3
  have u4 := HS2.out.cell 4
  go_wp2_with fail
  clear u0 u1 u2 u3 u4
  try rw [hcw]
  have ht := scale_calls (some ⟨g, 0, none⟩) cg m0 (C : Int) _ (In.of_mr HM2.out (by omega)) HWl.out hcW (by omega)
  rw [hm0l] at ht
  with_reducible refine ht.mono ?_
  clear ht
  rintro e w4 ⟨gs, rfl, hr, hb, hgs⟩
  rw [← hm0l, ← hm2] at hr
  have HB4 := Aside0.mk (below_then HB2.out HB2.out.size hb)
  have HM4 := Aside0.mk (Mr.of_rw hr)
  rw [hm2l] at HM4
  have HS4 := Aside0.mk (HS2.out.below hb)
  clear hr hb hgs HB2 HM2 HS2
  have u0 := HS4.out.cell 0
  have u1 := HS4.out.cell 1
  have u2 := HS4.out.cell 2
  have u3 := HS4.out.cell 3
  have u4 := HS4.out.cell 4
  go_wp2_with fail
  clear u0 u1 u2 u3 u4
  have ht := scale_calls (some ⟨gs, 0, none⟩) l.length m2 s _ (In.of_mr HM4.out (by omega)) HWm2.out HSs.out (by omega)
  rw [HR.out, hm2l] at ht
  with_reducible refine ht.mono ?_
  clear ht
  rintro e w5 ⟨gz, rfl, hr, hb, hgz⟩
  have HB5 := Aside0.mk (below_then HB4.out HB4.out.size hb)
  have hm5 := Mr.of_rw hr
  rw [wres_len] at hm5
  have HM5 := Aside0.mk hm5
  clear hm5 hr hb hgz
  go_wp2_with fail
  refine bodyPost_ret (v := .tuple #[.slice (some ⟨gz, 0, none⟩) l.length l.length, .int .i64 0]) (by simp [results, Tryz.results24, go_sem]) rfl ?_
  exact ⟨gz, _, rfl, HM5.out, HB5.out⟩
set_option maxHeartbeats 4000000 in
theorem work_1t (R C a b : Nat) (A : Option Addr) (c : Nat) (l : List Int) (T s K F O : Int) (hT0 : 0 ≤ T) (hT2 : T ≤ 32) (hs : W64 s) (ha : R = 2 ^ a) (hb : C = 2 ^ b) (hab : a + b ≤ 20) (hl : R * C = l.length) (hW : Ws l) (w : World) (hI : In w A c l) (hT : TabOK w) :
    Calls Tryz.prog 24 #[.slice A l.length c, .agg #[.int .i64 (R : Int), .int .i64 (C : Int), .int .i64 1, .int .i64 T, .int .u64 s, .int .i64 K, .int .i64 F, .int .i64 O]] w fun e w' => ∃ g c', e = .returned (.tuple #[.slice (some ⟨g, 0, none⟩) l.length c', .int .i64 0]) ∧ Mr w' g c' (wres l R C b 1 T s) ∧ Below w.heap.size w w' := by
  have hL : l.length ≤ 1048576 := by rw [← hl, ha, hb, ← Nat.pow_add]; exact pow20 hab
  have hp : 0 < l.length := by rw [← hl, ha, hb, ← Nat.pow_add]; exact Nat.two_pow_pos _
  have hC1 : C ≤ 1048576 := by rw [hb]; exact pow20 (by omega)
  have hd : (1 : Int) = 0 ∨ (1 : Int) = 1 := by decide
  obtain ⟨m0, hm0⟩ : ∃ z, z = vfold l b 1 (fun i => i * C) (fun _ => 1) C R := ⟨_, rfl⟩
  have hm0l : m0.length = l.length := by rw [hm0]; exact vfold_len _ _ _ _ _ _ _
  have hm0w : Ws m0 := by rw [hm0]; exact vfold_ws hW _ _ _ _ _ _
  obtain ⟨q, rfl⟩ := Int.eq_ofNat_of_zero_le hT0
  obtain ⟨kt, hkt⟩ := (gTile m0 hm0w R C a b ha hb hab (by rw [hm0l, hl]) (by rw [hm0l]; exact hL) q (by omega) 1 hd).rounds
  obtain ⟨m1, hm1⟩ : ∃ z, z = tb (R * C) (tw m0 (rut q 1) C) := ⟨_, rfl⟩
  have hm1l : m1.length = l.length := by rw [hm1, tb_len, hl]
  have hm1w : Ws m1 := by rw [hm1]; exact tb_ws _ _
  rw [← hm1] at hkt
  obtain ⟨m2, hm2⟩ : ∃ z, z = tb m1.length (fun i => el m1 i * fo (C : Int)) := ⟨_, rfl⟩
  have hm2l : m2.length = l.length := by rw [hm2, tb_len, hm1l]
  have hm2w : Ws m2 := by rw [hm2]; exact tb_ws _ _
  have hres : tb m2.length (fun i => el m2 i * fo s) = wres l R C b 1 (q : Int) s := by
    unfold wres wr2 wr1 wr0
    rw [if_pos (show (0 : Int) ≤ (q : Int) by omega), Int.toNat_natCast, ← hm0, ← hm1, if_pos rfl, ← hm1l, ← hm2, hm2l, ← hm1l]
  have HB := Aside0.mk (below_alloc (Below.refl w.heap.size w) (Obj.cells #[.int .i64 (R : Int), .int .i64 (C : Int), .int .i64 1, .int .i64 (q : Int), .int .u64 s, .int .i64 K, .int .i64 F, .int .i64 O] 37))
  have HS := Aside0.mk (Bk.new w 37 [.int .i64 (R : Int), .int .i64 (C : Int), .int .i64 1, .int .i64 (q : Int), .int .u64 s, .int .i64 K, .int .i64 F, .int .i64 O])
  have HL := Aside0.mk (hI.below HB.out)
  have HT := Aside0.mk hT
  have HW := Aside0.mk hW
  have HA := Aside0.mk ha
  have HBb := Aside0.mk hb
  have HAB := Aside0.mk hab
  have HLn := Aside0.mk hl
  have HM0 := Aside0.mk hm0
  have HR := Aside0.mk hres
  have HSs := Aside0.mk hs
  have HWm2 := Aside0.mk hm2w
  have u0 := HS.out.cell 0
  have u1 := HS.out.cell 1
  have u2 := HS.out.cell 2
  have u3 := HS.out.cell 3
  have u4 := HS.out.cell 4
  obtain ⟨bs, hbs⟩ : ∃ z, z = w.heap.size := ⟨_, rfl⟩
  have hbg : w.heap.size ≤ bs := by omega
  have c1 : decide ((C : Int) > 1048576) = false := decide_eq_false (by omega)
  have c2 : decide ((1048576 : Int) < (C : Int)) = false := decide_eq_false (by omega)
  have HWl := Aside0.mk hm1w
  have hcw : IntKind.u64.wrap (C : Int) = (C : Int) := wrap_u _ (by omega) (by omega)
  have hcW : W64 (C : Int) := ⟨by omega, by omega⟩
  have HKT := Aside0.mk hkt
  have t1 : decide ((q : Int) < -1) = false := decide_eq_false (by omega)
  have t2 : decide ((q : Int) > 32) = false := decide_eq_false (by omega)
  have t3 : decide ((32 : Int) < (q : Int)) = false := decide_eq_false (by omega)
  have t4 : decide ((q : Int) ≥ 0) = true := decide_eq_true (by omega)
  have t5 : decide ((0 : Int) ≤ (q : Int)) = true := decide_eq_true (by omega)
  clear hI hT hW ha hb hab hl hm0 hres hs hm0w hm1 hm1w hkt hm2w
  go_enter Tryz.func24, Tryz.ntmps24
  go_wp2_with fail
  clear u0 u1 u2 u3 u4
  with_reducible refine (clone_in A c l _ HL.out hp hL).mono ?_
  rintro e w1 ⟨g, cg, rfl, hm, hb, hg⟩
  rw [← hbs] at HS ⊢
  clear hbs
  have HB1 := Aside0.mk (below_then HB.out HB.out.size hb)
  have HS1 := Aside0.mk (HS.out.below hb)
  have HG := Aside0.mk (show w.heap.size ≤ g by have := HB.out.size; omega)
  have HN := Aside0.mk (show bs ≠ g by have := HS.out.lt; omega)
  have HM := Aside0.mk hm
  clear hm hb hg HB HS HL
  have u0 := HS1.out.cell 0
  have u1 := HS1.out.cell 1
  have u2 := HS1.out.cell 2
  have u3 := HS1.out.cell 3
  have u4 := HS1.out.cell 4
  go_wp2_with fail
  clear u0 u1 u2 u3 u4
  with_reducible refine (rows_yes R C a b g cg l 1 (.inr rfl) HA.out HBb.out HAB.out HLn.out HW.out _ HM.out (HT.out.below HB1.out)).mono ?_
  rintro e w2 ⟨rfl, hm, hf⟩
  rw [← HM0.out] at hm
  have HB2 := Aside0.mk (HB1.out.trans (hf.below (B := w.heap.size) HB1.out.size (by simpa using HG.out)))
  have HM2 := Aside0.mk hm
  have HS2 := Aside0.mk (HS1.out.fr hf (by simpa using HN.out))
  clear hm hf HB1 HS1 HM
  have u0 := HS2.out.cell 0
  have u1 := HS2.out.cell 1
  have u2 := HS2.out.cell 2
  have u3 := HS2.out.cell 3
  have u4 := HS2.out.cell 4
  go_wp2_with fail
  clear u0 u1 u2 u3 u4
  have ht := twid_Tile.calls kt (some ⟨g, 0, none⟩) cg m0 (R : Int) (C : Int) 0 0 (q : Int) 1 m1 0 _ (In.of_mr HM2.out (by omega)).r (In.of_mr HM2.out (by omega)).c HKT.out (HT.out.below HB2.out)
  rw [hm0l] at ht
  with_reducible refine ht.mono ?_
  clear ht
  rintro e w3 ⟨v, rfl, hr, hb⟩
  obtain ⟨gt, ct, hv, hgt, hmt⟩ := Mr.of_R hr (by omega)
  subst hv
  rw [hm1l]
  have HB3 := Aside0.mk (below_then HB2.out HB2.out.size hb)
  have HM3 := Aside0.mk hmt
  have HS3 := Aside0.mk (HS2.out.below hb)
  clear hr hb hgt hmt HB2 HM2 HS2
  have u0 := HS3.out.cell 0
  have u1 := HS3.out.cell 1
  have u2 := HS3.out.cell 2
  have u3 := HS3.out.cell 3
  have u4 := HS3.out.cell 4
  go_wp2_with fail
  clear u0 u1 u2 u3 u4
  try rw [hcw]
  have ht := scale_calls (some ⟨gt, 0, none⟩) ct m1 (C : Int) _ (In.of_mr HM3.out (by omega)) HWl.out hcW (by omega)
  rw [hm1l] at ht
  with_reducible refine ht.mono ?_
  clear ht
  rintro e w4 ⟨gs, rfl, hr, hb, hgs⟩
  rw [← hm1l, ← hm2] at hr
  have HB4 := Aside0.mk (below_then HB3.out HB3.out.size hb)
  have HM4 := Aside0.mk (Mr.of_rw hr)
  rw [hm2l] at HM4
  have HS4 := Aside0.mk (HS3.out.below hb)
  clear hr hb hgs HB3 HM3 HS3
  have u0 := HS4.out.cell 0
  have u1 := HS4.out.cell 1
  have u2 := HS4.out.cell 2
  have u3 := HS4.out.cell 3
  have u4 := HS4.out.cell 4
  go_wp2_with fail
  clear u0 u1 u2 u3 u4
  have ht := scale_calls (some ⟨gs, 0, none⟩) l.length m2 s _ (In.of_mr HM4.out (by omega)) HWm2.out HSs.out (by omega)
  rw [HR.out, hm2l] at ht
  with_reducible refine ht.mono ?_
  clear ht
  rintro e w5 ⟨gz, rfl, hr, hb, hgz⟩
  have HB5 := Aside0.mk (below_then HB4.out HB4.out.size hb)
  have hm5 := Mr.of_rw hr
  rw [wres_len] at hm5
  have HM5 := Aside0.mk hm5
  clear hm5 hr hb hgz
  go_wp2_with fail
  refine bodyPost_ret (v := .tuple #[.slice (some ⟨gz, 0, none⟩) l.length l.length, .int .i64 0]) (by simp [results, Tryz.results24, go_sem]) rfl ?_
  exact ⟨gz, _, rfl, HM5.out, HB5.out⟩
end Go.Proofs.YtpnkcjnemoompaaGreatDoor.Kern
end
