import Derived.Test.YtpnkcjnemoompaaDoorGz4
import Derived.Test.YtpnkcjnemoompaaDoorProg
import Derived.Below
import Derived.Deep.Draws
import Derived.Deep.AppendLies
import Derived.Maps.AppendAt
import Derived.OwnWalk
import Derived.Laws.BytesArg
import Derived.Laws.MakeOwn
import Derived.Laws.OwnMore
import Derived.Deep.OwnRows
import Derived.Tactics
import Derived.Lib.ConvBytes
import Derived.Laws.Slices
import Derived.WalkKit
import Derived.KernelRfl
import Derived.RowKit3
import Derived.Deep.LoopGhost
import Derived.Deep.QuietTactic
import Derived.BigQuiet
import Derived.WideLaws
import Derived.Deep.DeepCutAuto
import Derived.Deep.CutBlock
import Derived.Deep.RegionHeld3
import Derived.Laws.Rows
import Derived.Lib.AppendStr
import Derived.ArgAppend
import Derived.Laws.IdiomCopy
import Derived.RowKit
import Derived.OrdersHeld
import Derived.Laws.BitsLemmas
import Derived.Laws.CopyOwn
import Derived.Lib.Hide
import Derived.Shelf.Spec.TrailingZeros
import Derived.Lib.LaidTab
import Derived.Shelf.Strings.Builder1
import Derived.Shelf.Strings.Builder2
import Derived.Shelf.Strings.OnBuilder
import Derived.Shelf.Strings.BuilderF
import Derived.Shelf.Strings.BuilderK
import Derived.Shelf.Strings.Builder2Cap
import Derived.Shelf.Strconv.Itoa0
import Derived.Shelf.Strconv.Itoa1
import Derived.Shelf.LaysM
import Derived.Shelf.Strconv.Itoa2
import Derived.Shelf.Strconv.Itoa3
import Derived.Shelf.Bits.Mul64
import Derived.Shelf.Strings.BuilderCap
import Derived.Ground.SlgnProg
import Derived.Shelf.SlicesE.Clone
import Derived.Ground.SlgfProg
import Derived.Shelf.SlicesE.IndexFunc
import Derived.Laws.StructEq
import Derived.Shelf.Spec.BitsCarry
import Derived.Laws.BitsAllLaws
import Derived.OpenShut
import Derived.StillTailTactics
import Derived.Outline
import Derived.RegionTactic
import Derived.ChangeAlike
import Derived.BigRegion
/-! Texts of this claim, joined: KernF, KernG, FldD, KernH, FitsA, KernI, KernJ, ShapeF, KernK, FldE, SixA, RowA, SameA, RowB, GrdA, FftC, GrdB, GrdC, GrdD, GrdE, GrdF. -/
section
namespace Go.Proofs.YtpnkcjnemoompaaDoor.Kern
open Go.RowKit Go.Proofs.YtpnkcjnemoompaaDoor Go.Proofs.YtpnkcjnemoompaaDoor.Ext Go.Proofs.YtpnkcjnemoompaaDoor.PPlan Go.Proofs.YtpnkcjnemoompaaDoor.PFft Go.Proofs.YtpnkcjnemoompaaDoor.Pure Go.Proofs.YtpnkcjnemoompaaDoor.Obj Go.Proofs.YtpnkcjnemoompaaDoor.Fft Go.Proofs.YtpnkcjnemoompaaDoorW.PrintWords Go.Proofs.YtpnkcjnemoompaaDoorW.PrintLast Go.Proofs.YtpnkcjnemoompaaDoorW.PrintMore
set_option linter.unusedVariables false
set_option linter.unusedSimpArgs false
set_option maxRecDepth 100000
theorem tb_of_all {N : Nat} {ys : List Int} (hl : ys.length = N) (h : ∀ j, j < N → ∃ x : F, ys.getD j 0 = fv x) : ys = tb N (el ys) := by
  refine list_ext (by rw [tb_len, hl]) (fun i hi => ?_)
  rw [hl] at hi
  rw [tb_get _ hi]
  obtain ⟨x, hx⟩ := h i hi
  unfold el
  rw [hx, fo_fv]
theorem dn_all {s m n N : Nat} {tg : Nat → Nat → Nat → F} {ys : List Int} (h : Dn s m tg ys m 0) (hs : 0 < s) (hn : n = 4 * m) (hN : n * s = N) (j : Nat) (hj : j < N) : ∃ x : F, ys.getD j 0 = fv x := by
  have h1 : j / s < n := (Nat.div_lt_iff_lt_mul hs).2 (by rw [hN]; exact hj)
  have h2 := Nat.mod_lt j hs
  have h3 := Nat.div_add_mod j s
  have h4 : j / s / 4 < m := by omega
  have := h (j / s / 4) (j % s) (j / s % 4) h2 (by omega) h4 (.inl h4)
  rw [show 4 * (j / s / 4) + j / s % 4 = j / s by omega, Nat.add_comm, h3] at this
  exact ⟨_, this⟩
theorem run_quarter {x : Nat} {d : Int} {Y : Nat → F} {m s n N k : Nat} {f : Nat → F} {ys : List Int} (hx : x ≤ 20) (hk : k + 2 ≤ x) (hm : m = 2 ^ k) (hs : s = 2 ^ (x - (k + 2))) (hn : n = 4 * m) (hN : n * s = N) (hY : Stk Y (rut x d) (4 * m) s f) (hl : ys.length = N)
    (h : Dn s m (tgq s m (rut x d) (rut 2 d) f) ys m 0) : ys = tb N (el ys) ∧ Stk Y (rut x d) m (4 * s) (el ys) := by
  have hs0 : 0 < s := by rw [hs]; exact Nat.two_pow_pos _
  refine ⟨tb_of_all hl (dn_all h hs0 hn hN), Stk.quarter hY ?_ ?_⟩
  · have := rd_half x d (by omega) (by omega)
    rw [← this]
    congr 1
    rw [hs, hm, ← Nat.pow_succ', ← Nat.pow_add]
    congr 1; omega
  · intro q hq i hi r hr
    have := h i q r hq hr hi (.inl hi)
    have hu : pw (rut x d) (s * m) = rut 2 d := by
      rw [hs, hm, ← Nat.pow_add, show x - (k + 2) + k = x - 2 by omega, rd_pow x (x - 2) d (by omega) (by omega), show x - (x - 2) = 2 by omega]
    unfold el
    rw [this, fo_fv, hu]; rfl
theorem run_half {x : Nat} {d : Int} {Y : Nat → F} {s N : Nat} {f : Nat → F} {ys : List Int} (hx : x ≤ 20) (h1 : 1 ≤ x) (hs : s = 2 ^ (x - 1)) (hN : N = 2 * s) (hY : Stk Y (rut x d) 2 s f) (hl : ys.length = N) (h : Dh s f ys s) : ys = tb N (el ys) ∧ Stk Y (rut x d) 1 (2 * s) (el ys) := by
  refine ⟨tb_of_all hl fun j hj => ?_, Stk.half hY (by rw [hs]; exact rd_half x d (by omega) (by omega)) (fun q hq => ?_) (fun q hq => ?_)⟩
  · by_cases c : j < s
    · exact ⟨_, (h j c).1⟩
    · have := (h (j - s) (by omega)).2
      rw [show j - s + s = j by omega] at this
      exact ⟨_, this⟩
  · unfold el; rw [(h q hq).1, fo_fv]
  · unfold el; rw [(h q hq).2, fo_fv]
structure Pst (w0 w : World) (P gp cp ga gb N x : Nat) (d : Int) (f : Nat → F) : Prop where
  be : Below w0.heap.size w0 w
  ps : Bk w P 196 [.slice (some ⟨gp, 0, none⟩) N cp, .int .u64 (fv (rut 2 d)), .slice (some ⟨ga, 0, none⟩) N N, .slice (some ⟨gb, 0, none⟩) N N]
  src : Mr w ga N (tb N f)
  dst : ∃ ys, Mr w gb N ys ∧ ys.length = N
  p : w0.heap.size ≤ P
  a : w0.heap.size ≤ ga
  b : w0.heap.size ≤ gb
  ab : ga ≠ gb
theorem Pst.below {w0 w w1 : World} {P gp cp ga gb N x : Nat} {d : Int} {f : Nat → F} (h : Pst w0 w P gp cp ga gb N x d f) (hb : Below w.heap.size w w1) : Pst w0 w1 P gp cp ga gb N x d f := by
  obtain ⟨ys, h1, h2⟩ := h.dst
  exact ⟨below_then h.be h.be.size hb, h.ps.below hb, h.src.below hb, ⟨ys, h1.below hb, h2⟩, h.p, h.a, h.b, h.ab⟩
theorem Fr.be {w0 w w1 : World} {S : List Nat} (h : Below w0.heap.size w0 w) (hf : Fr w w1 S) (hS : ∀ k ∈ S, w0.heap.size ≤ k) : Below w0.heap.size w0 w1 := h.trans (hf.below h.size hS)
theorem shl_n (x : Nat) (hx : x ≤ 20) : shl .i64 1 (IntKind.u64.wrap (x : Int)) = ((2 ^ x : Nat) : Int) := shl_one x (by omega)
theorem shl_spell1 (x : Int) : shl .i64 1 (IntKind.u64.wrap x) = wrap64 (1 * 2 ^ min (IntKind.u64.wrap x).toNat 64) := by
  unfold shl
  rw [show IntKind.i64.bits = 64 from by decide]
  exact i64_w _
set_option maxHeartbeats 16000000 in
theorem plain0 (p b g0 c0 g1 c1 x N g c : Nat) (xs : List Int) (w : World) (hK : Ker w p b g0 c0 g1 c1 x N) (hM : Mr w g c xs) (hl : xs.length = N) (hW : Ws xs) (n0 : g ≠ g0) (n1 : g ≠ g1) :
    Calls Tryd.prog 151 #[.pointer (some ⟨p, 0, none⟩), .slice (some ⟨g, 0, none⟩) N c, .int .i64 0] w fun e w' => e = .returned (.int .i64 0) ∧ Mr w' g c (tb N (dft N (rut x 0) (el xs))) ∧ Fr w w' [g] := by
  obtain ⟨s0, s1, sh, hsub⟩ := hK.sub
  have hN20 : N ≤ 1048576 := by rw [hK.n]; exact pow20 hK.k
  have hN0 : 0 < N := by rw [hK.n]; exact Nat.two_pow_pos x
  have e1 : wrap64 (1 * 2 ^ min (IntKind.u64.wrap (x : Int)).toNat 64) = (N : Int) := by rw [← shl_spell1, shl_n x hK.k, hK.n]
  have e2 : wrap64 (2 ^ min (IntKind.u64.wrap (x : Int)).toNat 64) = (N : Int) := by rw [← e1, Int.one_mul]
  have HK := Aside0.mk hK
  have HM := Aside0.mk hM
  have HS := Aside0.mk hsub
  have HL := Aside0.mk hl
  have HW := Aside0.mk hW
  have q0 := hK.obj.cell 0
  have dd : decide ((0 : Int) < 0) = false := by decide
  have dd2 : decide ((1 : Int) < 0) = false := by decide
  clear hK hM hsub hl hW
  go_enter Tryd.func151, Tryd.ntmps151
  go_wp2_with fail
  with_reducible refine (k2_calls b x s0 s1 sh w HS.out).mono ?_
  rintro e w1 ⟨rfl, rfl⟩
  go_wp2_with fail
  clear q0 e1 e2 dd dd2
  obtain rfl := HL.out
  refine start_ (n := 20) (S := fun w' => w'.cell? ⟨p, 1, none⟩ = some (.slice (some ⟨g0, 0, none⟩) xs.length c0) ∧ w'.cell? ⟨p, 3, none⟩ = some (.int .u64 (fv (rut 2 0))) ∧ Aside0 (Below w1.heap.size w1 w')) (ds := []) #[false, false, false, false, false, false, false, false, false, false, false, false, false, false, false, false, false, false, false, false] (by kernel_rfl) rfl rfl ⟨HK.out.obj.cell 1, HK.out.obj.cell 3, ⟨below_drew1 (Below.refl _ _)⟩⟩ (fun hHeld => ?_)
  refine pure_ (i := 0) (N := some 29) (v := ?_) (a' := ?_) #[true, false, false, false, false, false, false, false, false, false, false, false, false, false, false, false, false, false, false, false] rfl rfl (by kernel_rfl) (fun _ _ _ h => h) (Or.inl ⟨by rfl, ?_⟩) ?_ ?_
  rotate_left
  · intro w'
    go_simp
    with_reducible rfl
  rotate_left
  · simp only [Act.put, List.setIfInBounds_toArray, List.set_cons_zero, List.set_cons_succ, i64_w, i32_w]
    rfl
  refine pure_ (i := 1) (N := some 30) (v := ?_) (a' := ?_) #[true, true, false, false, false, false, false, false, false, false, false, false, false, false, false, false, false, false, false, false] rfl rfl (by kernel_rfl) (fun _ _ _ h => h) (Or.inl ⟨by rfl, ?_⟩) ?_ ?_
  rotate_left
  · intro w'
    go_simp
    with_reducible rfl
  rotate_left
  · simp only [Act.put, List.setIfInBounds_toArray, List.set_cons_zero, List.set_cons_succ, i64_w, i32_w]
    rfl
  refine pure_ (i := 2) (N := some 31) (v := ?_) (a' := ?_) #[true, true, true, false, false, false, false, false, false, false, false, false, false, false, false, false, false, false, false, false] rfl rfl (by kernel_rfl) (fun _ _ _ h => h) (Or.inl ⟨by rfl, ?_⟩) ?_ ?_
  rotate_left
  · intro w'
    go_simp
    with_reducible rfl
  rotate_left
  · simp only [Act.put, List.setIfInBounds_toArray, List.set_cons_zero, List.set_cons_succ, i64_w, i32_w]
    rfl
  refine pure_ (i := 3) (N := some 32) (v := ?_) (a' := ?_) #[true, true, true, true, false, false, false, false, false, false, false, false, false, false, false, false, false, false, false, false] rfl rfl (by kernel_rfl) (fun _ _ _ h => h) (Or.inl ⟨by rfl, ?_⟩) ?_ ?_
  rotate_left
  · intro w'
    go_simp
    with_reducible rfl
  rotate_left
  · simp only [Act.put, List.setIfInBounds_toArray, List.set_cons_zero, List.set_cons_succ, i64_w, i32_w]
    rfl
  refine pure_ (i := 4) (N := some 33) (v := ?_) (a' := ?_) #[true, true, true, true, true, false, false, false, false, false, false, false, false, false, false, false, false, false, false, false] rfl rfl (by kernel_rfl) (fun _ _ _ h => h) (Or.inl ⟨by rfl, ?_⟩) ?_ ?_
  rotate_left
  · intro w'
    go_simp
    with_reducible rfl
  rotate_left
  · simp only [Act.put, List.setIfInBounds_toArray, List.set_cons_zero, List.set_cons_succ, i64_w, i32_w]
    rfl
  refine pure_ (i := 6) (N := some 35) (v := ?_) (a' := ?_) #[true, true, true, true, true, false, true, false, false, false, false, false, false, false, false, false, false, false, false, false] rfl rfl (by kernel_rfl) (fun _ _ _ h => h) (Or.inl ⟨by rfl, ?_⟩) ?_ ?_
  rotate_left
  · intro w'
    go_simp
    with_reducible rfl
  rotate_left
  · simp only [Act.put, List.setIfInBounds_toArray, List.set_cons_zero, List.set_cons_succ, i64_w, i32_w]
    rfl
  refine pure_ (i := 7) (N := some 36) (v := ?_) (a' := ?_) #[true, true, true, true, true, false, true, true, false, false, false, false, false, false, false, false, false, false, false, false] rfl rfl (by kernel_rfl) (fun _ _ _ h => h) (Or.inl ⟨by rfl, ?_⟩) ?_ ?_
  rotate_left
  · intro w'
    go_simp
    with_reducible rfl
  rotate_left
  · simp only [Act.put, List.setIfInBounds_toArray, List.set_cons_zero, List.set_cons_succ, i64_w, i32_w]
    rfl
  refine pure_ (i := 8) (N := some 37) (v := ?_) (a' := ?_) #[true, true, true, true, true, false, true, true, true, false, false, false, false, false, false, false, false, false, false, false] rfl rfl (by kernel_rfl) (fun _ _ _ h => h) (Or.inl ⟨by rfl, ?_⟩) ?_ ?_
  rotate_left
  · intro w'
    go_simp
    with_reducible rfl
  rotate_left
  · simp only [Act.put, List.setIfInBounds_toArray, List.set_cons_zero, List.set_cons_succ, i64_w, i32_w]
    rfl
  refine pure_ (i := 9) (N := some 38) (v := ?_) (a' := ?_) #[true, true, true, true, true, false, true, true, true, true, false, false, false, false, false, false, false, false, false, false] rfl rfl (by kernel_rfl) (fun _ _ _ h => h) (Or.inl ⟨by rfl, ?_⟩) ?_ ?_
  rotate_left
  · intro w'
    go_simp
    with_reducible rfl
  rotate_left
  · simp only [Act.put, List.setIfInBounds_toArray, List.set_cons_zero, List.set_cons_succ, i64_w, i32_w]
    rfl
  refine pure_ (i := 10) (N := some 39) (v := ?_) (a' := ?_) #[true, true, true, true, true, false, true, true, true, true, true, false, false, false, false, false, false, false, false, false] rfl rfl (by kernel_rfl) (fun _ _ _ h => h) (Or.inl ⟨by rfl, ?_⟩) ?_ ?_
  rotate_left
  · intro w'
    go_simp
    with_reducible rfl
  rotate_left
  · simp only [Act.put, List.setIfInBounds_toArray, List.set_cons_zero, List.set_cons_succ, i64_w, i32_w]
    rfl
  refine pure_ (i := 12) (N := some 41) (v := ?_) (a' := ?_) #[true, true, true, true, true, false, true, true, true, true, true, false, true, false, false, false, false, false, false, false] rfl rfl (by kernel_rfl) (fun _ _ _ h => h) (Or.inl ⟨by rfl, ?_⟩) ?_ ?_
  rotate_left
  · intro w'
    go_simp
    with_reducible rfl
  rotate_left
  · simp only [Act.put, List.setIfInBounds_toArray, List.set_cons_zero, List.set_cons_succ, i64_w, i32_w]
    rfl
  refine pure_ (i := 14) (N := some 43) (v := ?_) (a' := ?_) #[true, true, true, true, true, false, true, true, true, true, true, false, true, false, true, false, false, false, false, false] rfl rfl (by kernel_rfl) (fun _ _ _ h => h) (Or.inl ⟨by rfl, ?_⟩) ?_ ?_
  rotate_left
  · intro w'
    go_simp
    with_reducible rfl
  rotate_left
  · simp only [Act.put, List.setIfInBounds_toArray, List.set_cons_zero, List.set_cons_succ, i64_w, i32_w]
    rfl
  refine pure_ (i := 15) (N := some 44) (v := ?_) (a' := ?_) #[true, true, true, true, true, false, true, true, true, true, true, false, true, false, true, true, false, false, false, false] rfl rfl (by kernel_rfl) (fun _ _ _ h => h) (Or.inl ⟨by rfl, ?_⟩) ?_ ?_
  rotate_left
  · intro w'
    go_simp
    with_reducible rfl
  rotate_left
  · simp only [Act.put, List.setIfInBounds_toArray, List.set_cons_zero, List.set_cons_succ, i64_w, i32_w]
    rfl
  refine take_ (i := 5) (N := some 34) (v := ?_) (a' := ?_) #[true, true, true, true, true, true, true, true, true, true, true, false, true, false, true, true, false, false, false, false] rfl rfl (by kernel_rfl) (fun _ _ _ h => h) (Or.inl ⟨by rfl, ?_⟩) hHeld ?_ ?_
  rotate_left
  · rintro w' ⟨s0, s1, s2⟩
    go_simp
    with_reducible rfl
  rotate_left
  · simp only [Act.put, List.setIfInBounds_toArray, List.set_cons_zero, List.set_cons_succ, i64_w, i32_w]
    rfl
  refine take_ (i := 11) (N := some 40) (v := ?_) (a' := ?_) #[true, true, true, true, true, true, true, true, true, true, true, true, true, false, true, true, false, false, false, false] rfl rfl (by kernel_rfl) (fun _ _ _ h => h) (Or.inl ⟨by rfl, ?_⟩) hHeld ?_ ?_
  rotate_left
  · rintro w' ⟨s0, s1, s2⟩
    go_simp
    with_reducible rfl
  rotate_left
  · simp only [Act.put, List.setIfInBounds_toArray, List.set_cons_zero, List.set_cons_succ, i64_w, i32_w]
    rfl
  refine join_ (σ := Nat × Nat) 3 #[true, true, true, true, true, true, true, true, true, true, true, true, true, true, true, true, true, false, false, false] (fun s => [(42, .slice (some ⟨s.1, 0, none⟩) xs.length xs.length), (45, .slice (some ⟨s.2, 0, none⟩) xs.length xs.length)]) (fun s w' => (w'.cell? ⟨p, 1, none⟩ = some (.slice (some ⟨g0, 0, none⟩) xs.length c0) ∧ w'.cell? ⟨p, 3, none⟩ = some (.int .u64 (fv (rut 2 0))) ∧ Aside0 (Below w1.heap.size w1 w')) ∧ Aside0 (Rw w' s.1 (tb xs.length fun i => el xs i * fo 1)) ∧ Aside0 (Rw w' s.2 (List.replicate xs.length 0)) ∧ Aside0 (w1.heap.size ≤ s.1) ∧ Aside0 (w1.heap.size ≤ s.2) ∧ Aside0 (s.1 ≠ s.2)) ?_ ?_
  rotate_left
  · intro hCont
    refine two_ (i := 13) (j := 16) (Ni := some 42) (Nj := some 45) #[true, true, true, true, true, true, true, true, true, true, true, true, true, true, true, true, false, false, false, false] #[true, true, true, true, true, true, true, true, true, true, true, true, true, false, true, true, true, false, false, false] rfl rfl rfl rfl (by kernel_rfl) (by decide) (by decide) (fun K hK => ?_) (fun K hK => ?_)
    · skip
      refine goes_ Tryd.func70 (by kernel_rfl) rfl #[.slice (some ⟨g, 0, none⟩) xs.length c, .int .u64 1] (by rfl) rfl rfl (by simp only [List.map_toArray, List.map_cons, List.map_nil]; rfl) ?_
      with_reducible refine (scale_calls (some ⟨g, 0, none⟩) c xs 1 _ ((In.of_mr HM.out (by omega)).below hHeld.2.2.out) HW.out (by decide) hN20).mono ?_
      rintro e w4 ⟨ga, rfl, hrow, hb, hg⟩
      refine ⟨_, rfl, ?_⟩
      have HA := Aside0.mk hrow
      have HAs := Aside0.mk (Nat.le_trans hHeld.2.2.out.size hg)
      clear hrow hg
      have a0 := pw_cell_below hb hHeld.1
      have a1 := pw_cell_below hb hHeld.2.1
      have aB := below_step hHeld.2.2.out hb
      clear hHeld hb
      refine hK.out _ _ ⟨a0, a1, ⟨aB⟩⟩ (fun hHeld => ?_)
      clear hK K
      refine norm_ (a' := ?_) ?_ ?_
      rotate_left
      · show Act.put _ (some 42) _ = _
        simp only [Act.put, List.setIfInBounds_toArray, List.set_cons_zero, List.set_cons_succ, i64_w, i32_w]
        rfl
      refine one_ (i := 16) (N := some 45) #[true, true, true, true, true, true, true, true, true, true, true, true, true, true, true, true, true, false, false, false] rfl rfl (by kernel_rfl) (by decide) (fun K hK => ?_)
      refine make_step 24 _ _ xs.length (by rfl) rfl rfl rfl rfl (by kernel_rfl) info_u64 (by omega) ?_
      intro w5 hrow hb hsz
      have HAB := Aside0.mk (Nat.ne_of_lt (Bk.lt HA.out))
      have nA := HA.out.below hb
      clear HA
      have HA := Aside0.mk nA
      clear nA
      have HB := Aside0.mk hrow
      have HBs := Aside0.mk hHeld.2.2.out.size
      clear hrow hsz
      have a0 := pw_cell_below hb hHeld.1
      have a1 := pw_cell_below hb hHeld.2.1
      have aB := below_step hHeld.2.2.out hb
      clear hHeld hb
      refine hK.out _ _ ⟨a0, a1, ⟨aB⟩⟩ (fun hHeld => ?_)
      clear hK K
      refine norm_ (a' := ?_) ?_ ?_
      rotate_left
      · show Act.put _ (some 45) _ = _
        simp only [Act.put, List.setIfInBounds_toArray, List.set_cons_zero, List.set_cons_succ, i64_w, i32_w]
        rfl
      exact norm_ (by first | (simp only [putAll, Act.put, List.setIfInBounds_toArray, List.set_cons_zero, List.set_cons_succ]; done) | (simp only [putAll, Act.put, List.setIfInBounds_toArray, List.set_cons_zero, List.set_cons_succ]; rfl)) (hCont (ga, w4.heap.size) _ ⟨hHeld, HA, HB, HAs, HBs, HAB⟩)
    · skip
      refine make_step 24 _ _ xs.length (by rfl) rfl rfl rfl rfl (by kernel_rfl) info_u64 (by omega) ?_
      intro w4 hrow hb hsz
      have HB := Aside0.mk hrow
      have HBs := Aside0.mk hHeld.2.2.out.size
      clear hrow hsz
      have a0 := pw_cell_below hb hHeld.1
      have a1 := pw_cell_below hb hHeld.2.1
      have aB := below_step hHeld.2.2.out hb
      clear hHeld hb
      refine hK.out _ _ ⟨a0, a1, ⟨aB⟩⟩ (fun hHeld => ?_)
      clear hK K
      refine norm_ (a' := ?_) ?_ ?_
      rotate_left
      · show Act.put _ (some 45) _ = _
        simp only [Act.put, List.setIfInBounds_toArray, List.set_cons_zero, List.set_cons_succ, i64_w, i32_w]
        rfl
      refine one_ (i := 13) (N := some 42) #[true, true, true, true, true, true, true, true, true, true, true, true, true, true, true, true, true, false, false, false] rfl rfl (by kernel_rfl) (by decide) (fun K hK => ?_)
      refine goes_ Tryd.func70 (by kernel_rfl) rfl #[.slice (some ⟨g, 0, none⟩) xs.length c, .int .u64 1] (by rfl) rfl rfl (by simp only [List.map_toArray, List.map_cons, List.map_nil]; rfl) ?_
      with_reducible refine (scale_calls (some ⟨g, 0, none⟩) c xs 1 _ ((In.of_mr HM.out (by omega)).below hHeld.2.2.out) HW.out (by decide) hN20).mono ?_
      rintro e w5 ⟨ga, rfl, hrow, hb, hg⟩
      refine ⟨_, rfl, ?_⟩
      have HAB := Aside0.mk (Ne.symm (Nat.ne_of_lt (Nat.lt_of_lt_of_le (Bk.lt HB.out) hg)))
      have nB := HB.out.below hb
      clear HB
      have HB := Aside0.mk nB
      clear nB
      have HA := Aside0.mk hrow
      have HAs := Aside0.mk (Nat.le_trans hHeld.2.2.out.size hg)
      clear hrow hg
      have a0 := pw_cell_below hb hHeld.1
      have a1 := pw_cell_below hb hHeld.2.1
      have aB := below_step hHeld.2.2.out hb
      clear hHeld hb
      refine hK.out _ _ ⟨a0, a1, ⟨aB⟩⟩ (fun hHeld => ?_)
      clear hK K
      refine norm_ (a' := ?_) ?_ ?_
      rotate_left
      · show Act.put _ (some 42) _ = _
        simp only [Act.put, List.setIfInBounds_toArray, List.set_cons_zero, List.set_cons_succ, i64_w, i32_w]
        rfl
      exact norm_ (by first | (simp only [putAll, Act.put, List.setIfInBounds_toArray, List.set_cons_zero, List.set_cons_succ]; done) | (simp only [putAll, Act.put, List.setIfInBounds_toArray, List.set_cons_zero, List.set_cons_succ]; rfl)) (hCont (ga, w1.heap.size) _ ⟨hHeld, HA, HB, HAs, HBs, HAB⟩)
  rintro ⟨ga, gb⟩ w6 ⟨hHeld, HA, HB, HAs, HBs, HAB⟩
  dsimp only at HA HB HAs HBs HAB
  refine norm_ (a' := ?_) ?_ ?_
  rotate_left
  · simp only [putAll, Act.put, List.setIfInBounds_toArray, List.set_cons_zero, List.set_cons_succ]
    rfl
  refine pure_ (i := 17) (N := some 46) (v := ?_) (a' := ?_) #[true, true, true, true, true, true, true, true, true, true, true, true, true, true, true, true, true, true, false, false] rfl rfl (by kernel_rfl) (fun _ _ _ h => h) (Or.inl ⟨by rfl, ?_⟩) ?_ ?_
  rotate_left
  · intro w'
    go_simp
    with_reducible rfl
  rotate_left
  · simp only [Act.put, List.setIfInBounds_toArray, List.set_cons_zero, List.set_cons_succ, i64_w, i32_w]
    rfl
  refine one_ (i := 18) (N := some 47) #[true, true, true, true, true, true, true, true, true, true, true, true, true, true, true, true, true, true, true, false] rfl rfl (by kernel_rfl) (by decide) (fun K hK => ?_)
  refine alloc_step (t := 196) (cs := #[.slice (some ⟨g0, 0, none⟩) xs.length c0, .int .u64 (fv (rut 2 0)), .slice (some ⟨ga, 0, none⟩) xs.length xs.length, .slice (some ⟨gb, 0, none⟩) xs.length xs.length]) (by rfl) rfl ?hr ?_
  case hr => first | (go_simp; done) | (go_simp; rfl)
  intro w7 hP hb hz
  have HP := Aside0.mk hP
  have HPs := Aside0.mk hHeld.2.2.out.size
  have HA7 := Aside0.mk (HA.out.below hb)
  have HB7 := Aside0.mk (HB.out.below hb)
  have a0 := pw_cell_below hb hHeld.1
  have a1 := pw_cell_below hb hHeld.2.1
  have aB := below_step hHeld.2.2.out hb
  clear hHeld hb hz hP HA HB
  refine hK.out _ _ ⟨a0, a1, ⟨aB⟩⟩ (fun hHeld => ?_)
  clear hK K
  refine norm_ (a' := ?_) ?_ ?_
  rotate_left
  · show Act.put _ (some 47) _ = _
    simp only [Act.put, List.setIfInBounds_toArray, List.set_cons_zero, List.set_cons_succ, i64_w, i32_w]
    rfl
  refine pure_ (i := 19) (N := some 7) (v := ?_) (a' := ?_) #[true, true, true, true, true, true, true, true, true, true, true, true, true, true, true, true, true, true, true, true] rfl rfl (by kernel_rfl) (fun _ _ _ h => h) (Or.inl ⟨by rfl, ?_⟩) ?_ ?_
  rotate_left
  · intro w'
    go_simp
    with_reducible rfl
  rotate_left
  · simp only [Act.put, List.setIfInBounds_toArray, List.set_cons_zero, List.set_cons_succ, i64_w, i32_w]
    rfl
  refine done_ (by kernel_rfl) ?_
  obtain ⟨P, hP⟩ : ∃ P, P = w6.heap.size := ⟨_, rfl⟩
  rw [← hP] at HP HPs ⊢
  have HSt : Aside0 (Pst w1 w7 P g0 c0 ga gb xs.length x 0 (el xs)) := ⟨hHeld.2.2.out, HP.out, by
    have h := Mr.of_rw HA7.out
    rw [tb_len, tb_congr (g := el xs) (fun i _ => by rw [fo_one]; grobner)] at h
    exact h, ⟨_, Mr.of_rw HB7.out |> fun h => by rw [List.length_replicate] at h; exact h, List.length_replicate⟩, HPs.out, HAs.out, HBs.out, HAB.out⟩
  clear hHeld hP HP HPs HA7 HB7 HAs HBs HAB
  have HX : Aside0 (x ≤ 20 ∧ xs.length = 2 ^ x) := ⟨HK.out.k, HK.out.n⟩
  have HPW := Aside0.mk HK.out.p0
  have hgp : g0 < w1.heap.size := HK.out.p0.lt
  have HY : Aside0 (Stk (dft xs.length (rut x 0) (el xs)) (rut x 0) xs.length 1 (el xs)) := ⟨Stk.first _ _ _⟩
  go_wp2
  go_loopw [8, 9] (fun v8 v9 wr => ∃ (n s k ga gb : Nat) (f : Nat → F), v8 = .int .i64 n ∧ v9 = .int .i64 s ∧ Aside0 (k ≤ x ∧ n = 2 ^ k ∧ s = 2 ^ (x - k)) ∧ Aside0 (Pst w1 wr P g0 c0 ga gb xs.length x 0 f) ∧ Aside0 (Stk (dft xs.length (rut x 0) (el xs)) (rut x 0) n s f)) (fun v8 _ _ => (intOf v8).toNat)
  case atStart => exact ⟨xs.length, 1, x, ga, gb, el xs, rfl, rfl, ⟨Nat.le_refl _, HX.out.2, by rw [Nat.sub_self]⟩, HSt, HY⟩
  case round =>
    clear HSt HY
    obtain ⟨n, s, k, ga, gb, f, rfl, rfl, HE, HSt, HY⟩ := hrel
    have hns : n * s = xs.length := by
      obtain ⟨h1, h2, h3⟩ := HE.out
      rw [h2, h3, ← Nat.pow_add, show k + (x - k) = x by omega, ← HX.out.2]
    have hs0 : 0 < s := by rw [HE.out.2.2]; exact Nat.two_pow_pos _
    have hnN : n ≤ xs.length := by rw [← hns]; exact Nat.le_mul_of_pos_right _ hs0
    have HNS := Aside0.mk hns
    have HS0 := Aside0.mk hs0
    clear hns hs0
    by_cases h4 : 4 ≤ n
    · have hk2 : 2 ≤ k := by
        rcases (by omega : k = 0 ∨ k = 1 ∨ 2 ≤ k) with q | q | q
        · have := HE.out.2.1; rw [q] at this; omega
        · have := HE.out.2.1; rw [q] at this; omega
        · exact q
      obtain ⟨m, hm⟩ : ∃ m, m = 2 ^ (k - 2) := ⟨_, rfl⟩
      have hn4 : n = 4 * m := by
        rw [HE.out.2.1, hm, show (4 : Nat) = 2 ^ 2 by rfl, ← Nat.pow_add]
        congr 1; omega
      have hm0 : 0 < m := by omega
      have Hn := Aside0.mk hn4
      have Hm := Aside0.mk hm
      have Hm0 := Aside0.mk hm0
      have Hk2 := Aside0.mk hk2
      have hq4 : decide ((4 : Int) ≤ (n : Int)) = true := decide_eq_true (by omega)
      obtain ⟨zs, hz1, hz2⟩ := HSt.out.dst
      have HZ := Aside0.mk hz1
      have HZl := Aside0.mk hz2
      obtain ⟨s4, hs4⟩ : ∃ t, t = 4 * s := ⟨_, rfl⟩
      have hsN : s4 ≤ xs.length := by rw [hs4, ← HNS.out, hn4, Nat.mul_assoc]; exact Nat.mul_le_mul_left _ (Nat.le_mul_of_pos_left _ hm0)
      have HS4 := Aside0.mk hs4
      have hmn : m < n := by omega
      have kd : (n : Int) / 4 = (m : Int) := by omega
      have ks : 4 * (s : Int) = (s4 : Int) := by omega
      obtain ⟨kA, kB⟩ := wrapb kd (by omega)
      obtain ⟨kC, kD⟩ := wrapb ks (by omega)
      clear hm hn4 hm0 hk2 hz1 hz2 hs4 hsN h4
      have HKd := Aside0.mk kd
      have HKs := Aside0.mk ks
      have HkA := Aside0.mk kA
      have HkB := Aside0.mk kB
      have HkC := Aside0.mk kC
      have HkD := Aside0.mk kD
      clear kd ks kA kB kC kD
      go_wp2_with fail
      with_reducible refine (quarter_calls P g0 c0 ga xs.length gb xs.length n m s xs.length (rut x 0) (rut 2 0) f zs _ Hn.out Hm0.out HNS.out hN20 HS0.out HSt.out.ps (HPW.out.below HSt.out.be) HSt.out.src HZ.out HZl.out (by have := HSt.out.b; omega) (Ne.symm HSt.out.ab)).mono ?_
      rintro e w8 ⟨rfl, ys', hl', hD, hf, hps, hs', hd'⟩
      have hrun := run_quarter HX.out.1 (show k - 2 + 2 ≤ x by have := HE.out.1; have := Hk2.out; omega) Hm.out (show s = 2 ^ (x - (k - 2 + 2)) by rw [HE.out.2.2]; congr 1; have := Hk2.out; omega) Hn.out HNS.out (by have := HY.out; rw [Hn.out] at this; exact this) hl' hD
      have HST8 : Aside0 (Pst w1 w8 P g0 c0 gb ga xs.length x 0 (el ys')) := ⟨Fr.be HSt.out.be hf (by
          intro k hk
          simp only [List.mem_cons, List.mem_singleton, List.not_mem_nil, or_false] at hk
          rcases hk with rfl | rfl
          · exact HSt.out.b
          · exact HSt.out.p), hps, by rw [← hrun.1]; exact hd', ⟨_, hs', tb_len _ _⟩, HSt.out.p, HSt.out.b, HSt.out.a, Ne.symm HSt.out.ab⟩
      have HY8 := Aside0.mk hrun.2
      clear hl' hD hf hps hs' hd' hrun HSt HY HZ HZl
      have kA := HkA.out
      have kB := HkB.out
      have kC := HkC.out
      have kD := HkD.out
      go_wp2
      go_roundw
      case rel => exact ⟨m, s4, k - 2, gb, ga, el ys', by first | rfl | (rw [HKd.out]) | (rw [kB]) | (rw [kA]), by first | rfl | (rw [kD]) | (rw [kC]) | (rw [HKs.out]), ⟨by have := HE.out.1; omega, Hm.out, by rw [HS4.out, HE.out.2.2, show (4 : Nat) = 2 ^ 2 by rfl, ← Nat.pow_add]; congr 1; have := HE.out.1; have := Hk2.out; omega⟩, HST8, by rw [HS4.out]; exact HY8⟩
      case measure => simp [intOf]; omega
    · have hq4 : decide ((4 : Int) ≤ (n : Int)) = false := decide_eq_false (by omega)
      have hk1 : k = 0 ∨ k = 1 := by
        rcases (by omega : k = 0 ∨ k = 1 ∨ 2 ≤ k) with q | q | q
        · exact .inl q
        · exact .inr q
        · have h5 := HE.out.2.1
          obtain ⟨j, rfl⟩ : ∃ j, k = j + 2 := ⟨k - 2, by omega⟩
          rw [Nat.pow_succ, Nat.pow_succ] at h5
          have := Nat.two_pow_pos j
          omega
      have hfin : ∀ (wz : World) (gz : Nat) (fz : Nat → F), Stk (dft xs.length (rut x 0) (el xs)) (rut x 0) 1 xs.length fz → tb xs.length fz = tb xs.length (dft xs.length (rut x 0) (el xs)) := fun _ _ fz h => tb_congr fun i hi => (h.last i hi).symm
      have HFin := Aside0.mk hfin
      clear hfin h4
      rcases hk1 with rfl | rfl
      · obtain rfl : n = 1 := HE.out.2.1
        have HSt1 := Aside0.mk (HSt.out.ps)
        have HY1 := Aside0.mk (show Stk (dft xs.length (rut x 0) (el xs)) (rut x 0) 1 xs.length f by have := HY.out; have h := HNS.out; rw [Nat.one_mul] at h; rw [h] at this; exact this)
        have v2 := HSt.out.ps.cell 2
        go_wp2_with ((with_reducible refine gate_builtin (b := .copy) (xs := #[.tmp 65, .tmp 69]) rfl ?_); refine copy_mr rfl (.tmp 65) (.tmp 69) 24 24 rfl Tryd.underlying24 size_u64 g c xs (tb xs.length f) ⟨ga, 0, none⟩ xs.length rfl (by rw [tb_len]; rfl) (HM.out.below HSt.out.be) (tb_len _ _) ?hsrc ?_; (case hsrc => (intro j hj; rw [add_at, Nat.zero_add]; exact HSt.out.src.cell j hj)); intro w9 hm9 hf9; have HM9 := Aside0.mk hm9; have HF9 := Aside0.mk hf9; clear hm9 hf9)
        go_wp2
        go_ret
        exact ⟨rfl, by rw [← HFin.out w9 ga f HY1.out]; exact HM9.out, (Fr.of_below HSt.out.be [g]).trans HF9.out⟩
      · obtain rfl : n = 2 := HE.out.2.1
        obtain ⟨zs, hz1, hz2⟩ := HSt.out.dst
        have HZ := Aside0.mk hz1
        have HZl := Aside0.mk hz2
        clear hz1 hz2
        go_wp2_with fail
        with_reducible refine (half_calls P ga xs.length gb xs.length s xs.length _ _ f zs _ HNS.out.symm hN20 ⟨HSt.out.ps, HSt.out.src, HZ.out, HZl.out, Fr.refl _ _, Ne.symm HSt.out.ab⟩).mono ?_
        rintro e w8 ⟨rfl, ys', hl', hD, hf, hps, hs', hd'⟩
        have hrun := run_half HX.out.1 HE.out.1 HE.out.2.2 HNS.out.symm HY.out hl' hD
        have HB8 := Aside0.mk (Fr.be HSt.out.be hf (by
          intro k hk
          simp only [List.mem_cons, List.mem_singleton, List.not_mem_nil, or_false] at hk
          rcases hk with rfl | rfl
          · exact HSt.out.b
          · exact HSt.out.p))
        have HD8 : Aside0 (Mr w8 gb xs.length (tb xs.length (el ys'))) := ⟨by rw [← hrun.1]; exact hd'⟩
        have HY1 := Aside0.mk (show Stk (dft xs.length (rut x 0) (el xs)) (rut x 0) 1 xs.length (el ys') by have := hrun.2; rw [HNS.out] at this; exact this)
        have v2 := hps.cell 2
        clear hl' hD hf hps hs' hd' hrun
        go_wp2_with ((with_reducible refine gate_builtin (b := .copy) (xs := #[.tmp 65, .tmp 69]) rfl ?_); refine copy_mr rfl (.tmp 65) (.tmp 69) 24 24 rfl Tryd.underlying24 size_u64 g c xs (tb xs.length (el ys')) ⟨gb, 0, none⟩ xs.length rfl (by rw [tb_len]; rfl) (HM.out.below HB8.out) (tb_len _ _) ?hsrc ?_; (case hsrc => (intro j hj; rw [add_at, Nat.zero_add]; exact HD8.out.cell j hj)); intro w9 hm9 hf9; have HM9 := Aside0.mk hm9; have HF9 := Aside0.mk hf9; clear hm9 hf9)
        go_wp2
        go_ret
        exact ⟨rfl, by rw [← HFin.out w9 ga _ HY1.out]; exact HM9.out, (Fr.of_below HB8.out [g]).trans HF9.out⟩
set_option maxHeartbeats 16000000 in
theorem plain1 (p b g0 c0 g1 c1 x N g c : Nat) (xs : List Int) (w : World) (hK : Ker w p b g0 c0 g1 c1 x N) (hM : Mr w g c xs) (hl : xs.length = N) (hW : Ws xs) (n0 : g ≠ g0) (n1 : g ≠ g1) :
    Calls Tryd.prog 151 #[.pointer (some ⟨p, 0, none⟩), .slice (some ⟨g, 0, none⟩) N c, .int .i64 1] w fun e w' => e = .returned (.int .i64 0) ∧ Mr w' g c (tb N (dft N (rut x 1) (el xs))) ∧ Fr w w' [g] := by
  obtain ⟨s0, s1, sh, hsub⟩ := hK.sub
  have hN20 : N ≤ 1048576 := by rw [hK.n]; exact pow20 hK.k
  have hN0 : 0 < N := by rw [hK.n]; exact Nat.two_pow_pos x
  have e1 : wrap64 (1 * 2 ^ min (IntKind.u64.wrap (x : Int)).toNat 64) = (N : Int) := by rw [← shl_spell1, shl_n x hK.k, hK.n]
  have e2 : wrap64 (2 ^ min (IntKind.u64.wrap (x : Int)).toNat 64) = (N : Int) := by rw [← e1, Int.one_mul]
  have HK := Aside0.mk hK
  have HM := Aside0.mk hM
  have HS := Aside0.mk hsub
  have HL := Aside0.mk hl
  have HW := Aside0.mk hW
  have q0 := hK.obj.cell 0
  have dd : decide ((1 : Int) < 0) = false := by decide
  have dd2 : decide ((1 : Int) < 1) = false := by decide
  clear hK hM hsub hl hW
  go_enter Tryd.func151, Tryd.ntmps151
  go_wp2_with fail
  with_reducible refine (k2_calls b x s0 s1 sh w HS.out).mono ?_
  rintro e w1 ⟨rfl, rfl⟩
  go_wp2_with fail
  clear q0 e1 e2 dd dd2
  obtain rfl := HL.out
  refine start_ (n := 20) (S := fun w' => w'.cell? ⟨p, 2, none⟩ = some (.slice (some ⟨g1, 0, none⟩) xs.length c1) ∧ w'.cell? ⟨p, 4, none⟩ = some (.int .u64 (fv (rut 2 1))) ∧ Aside0 (Below w1.heap.size w1 w')) (ds := []) #[false, false, false, false, false, false, false, false, false, false, false, false, false, false, false, false, false, false, false, false] (by kernel_rfl) rfl rfl ⟨HK.out.obj.cell 2, HK.out.obj.cell 4, ⟨below_drew1 (Below.refl _ _)⟩⟩ (fun hHeld => ?_)
  refine pure_ (i := 0) (N := some 29) (v := ?_) (a' := ?_) #[true, false, false, false, false, false, false, false, false, false, false, false, false, false, false, false, false, false, false, false] rfl rfl (by kernel_rfl) (fun _ _ _ h => h) (Or.inl ⟨by rfl, ?_⟩) ?_ ?_
  rotate_left
  · intro w'
    go_simp
    with_reducible rfl
  rotate_left
  · simp only [Act.put, List.setIfInBounds_toArray, List.set_cons_zero, List.set_cons_succ, i64_w, i32_w]
    rfl
  refine pure_ (i := 1) (N := some 30) (v := ?_) (a' := ?_) #[true, true, false, false, false, false, false, false, false, false, false, false, false, false, false, false, false, false, false, false] rfl rfl (by kernel_rfl) (fun _ _ _ h => h) (Or.inl ⟨by rfl, ?_⟩) ?_ ?_
  rotate_left
  · intro w'
    go_simp
    with_reducible rfl
  rotate_left
  · simp only [Act.put, List.setIfInBounds_toArray, List.set_cons_zero, List.set_cons_succ, i64_w, i32_w]
    rfl
  refine pure_ (i := 2) (N := some 31) (v := ?_) (a' := ?_) #[true, true, true, false, false, false, false, false, false, false, false, false, false, false, false, false, false, false, false, false] rfl rfl (by kernel_rfl) (fun _ _ _ h => h) (Or.inl ⟨by rfl, ?_⟩) ?_ ?_
  rotate_left
  · intro w'
    go_simp
    with_reducible rfl
  rotate_left
  · simp only [Act.put, List.setIfInBounds_toArray, List.set_cons_zero, List.set_cons_succ, i64_w, i32_w]
    rfl
  refine pure_ (i := 3) (N := some 32) (v := ?_) (a' := ?_) #[true, true, true, true, false, false, false, false, false, false, false, false, false, false, false, false, false, false, false, false] rfl rfl (by kernel_rfl) (fun _ _ _ h => h) (Or.inl ⟨by rfl, ?_⟩) ?_ ?_
  rotate_left
  · intro w'
    go_simp
    with_reducible rfl
  rotate_left
  · simp only [Act.put, List.setIfInBounds_toArray, List.set_cons_zero, List.set_cons_succ, i64_w, i32_w]
    rfl
  refine pure_ (i := 4) (N := some 33) (v := ?_) (a' := ?_) #[true, true, true, true, true, false, false, false, false, false, false, false, false, false, false, false, false, false, false, false] rfl rfl (by kernel_rfl) (fun _ _ _ h => h) (Or.inl ⟨by rfl, ?_⟩) ?_ ?_
  rotate_left
  · intro w'
    go_simp
    with_reducible rfl
  rotate_left
  · simp only [Act.put, List.setIfInBounds_toArray, List.set_cons_zero, List.set_cons_succ, i64_w, i32_w]
    rfl
  refine pure_ (i := 6) (N := some 35) (v := ?_) (a' := ?_) #[true, true, true, true, true, false, true, false, false, false, false, false, false, false, false, false, false, false, false, false] rfl rfl (by kernel_rfl) (fun _ _ _ h => h) (Or.inl ⟨by rfl, ?_⟩) ?_ ?_
  rotate_left
  · intro w'
    go_simp
    with_reducible rfl
  rotate_left
  · simp only [Act.put, List.setIfInBounds_toArray, List.set_cons_zero, List.set_cons_succ, i64_w, i32_w]
    rfl
  refine pure_ (i := 7) (N := some 36) (v := ?_) (a' := ?_) #[true, true, true, true, true, false, true, true, false, false, false, false, false, false, false, false, false, false, false, false] rfl rfl (by kernel_rfl) (fun _ _ _ h => h) (Or.inl ⟨by rfl, ?_⟩) ?_ ?_
  rotate_left
  · intro w'
    go_simp
    with_reducible rfl
  rotate_left
  · simp only [Act.put, List.setIfInBounds_toArray, List.set_cons_zero, List.set_cons_succ, i64_w, i32_w]
    rfl
  refine pure_ (i := 8) (N := some 37) (v := ?_) (a' := ?_) #[true, true, true, true, true, false, true, true, true, false, false, false, false, false, false, false, false, false, false, false] rfl rfl (by kernel_rfl) (fun _ _ _ h => h) (Or.inl ⟨by rfl, ?_⟩) ?_ ?_
  rotate_left
  · intro w'
    go_simp
    with_reducible rfl
  rotate_left
  · simp only [Act.put, List.setIfInBounds_toArray, List.set_cons_zero, List.set_cons_succ, i64_w, i32_w]
    rfl
  refine pure_ (i := 9) (N := some 38) (v := ?_) (a' := ?_) #[true, true, true, true, true, false, true, true, true, true, false, false, false, false, false, false, false, false, false, false] rfl rfl (by kernel_rfl) (fun _ _ _ h => h) (Or.inl ⟨by rfl, ?_⟩) ?_ ?_
  rotate_left
  · intro w'
    go_simp
    with_reducible rfl
  rotate_left
  · simp only [Act.put, List.setIfInBounds_toArray, List.set_cons_zero, List.set_cons_succ, i64_w, i32_w]
    rfl
  refine pure_ (i := 10) (N := some 39) (v := ?_) (a' := ?_) #[true, true, true, true, true, false, true, true, true, true, true, false, false, false, false, false, false, false, false, false] rfl rfl (by kernel_rfl) (fun _ _ _ h => h) (Or.inl ⟨by rfl, ?_⟩) ?_ ?_
  rotate_left
  · intro w'
    go_simp
    with_reducible rfl
  rotate_left
  · simp only [Act.put, List.setIfInBounds_toArray, List.set_cons_zero, List.set_cons_succ, i64_w, i32_w]
    rfl
  refine pure_ (i := 12) (N := some 41) (v := ?_) (a' := ?_) #[true, true, true, true, true, false, true, true, true, true, true, false, true, false, false, false, false, false, false, false] rfl rfl (by kernel_rfl) (fun _ _ _ h => h) (Or.inl ⟨by rfl, ?_⟩) ?_ ?_
  rotate_left
  · intro w'
    go_simp
    with_reducible rfl
  rotate_left
  · simp only [Act.put, List.setIfInBounds_toArray, List.set_cons_zero, List.set_cons_succ, i64_w, i32_w]
    rfl
  refine pure_ (i := 14) (N := some 43) (v := ?_) (a' := ?_) #[true, true, true, true, true, false, true, true, true, true, true, false, true, false, true, false, false, false, false, false] rfl rfl (by kernel_rfl) (fun _ _ _ h => h) (Or.inl ⟨by rfl, ?_⟩) ?_ ?_
  rotate_left
  · intro w'
    go_simp
    with_reducible rfl
  rotate_left
  · simp only [Act.put, List.setIfInBounds_toArray, List.set_cons_zero, List.set_cons_succ, i64_w, i32_w]
    rfl
  refine pure_ (i := 15) (N := some 44) (v := ?_) (a' := ?_) #[true, true, true, true, true, false, true, true, true, true, true, false, true, false, true, true, false, false, false, false] rfl rfl (by kernel_rfl) (fun _ _ _ h => h) (Or.inl ⟨by rfl, ?_⟩) ?_ ?_
  rotate_left
  · intro w'
    go_simp
    with_reducible rfl
  rotate_left
  · simp only [Act.put, List.setIfInBounds_toArray, List.set_cons_zero, List.set_cons_succ, i64_w, i32_w]
    rfl
  refine take_ (i := 5) (N := some 34) (v := ?_) (a' := ?_) #[true, true, true, true, true, true, true, true, true, true, true, false, true, false, true, true, false, false, false, false] rfl rfl (by kernel_rfl) (fun _ _ _ h => h) (Or.inl ⟨by rfl, ?_⟩) hHeld ?_ ?_
  rotate_left
  · rintro w' ⟨s0, s1, s2⟩
    go_simp
    with_reducible rfl
  rotate_left
  · simp only [Act.put, List.setIfInBounds_toArray, List.set_cons_zero, List.set_cons_succ, i64_w, i32_w]
    rfl
  refine take_ (i := 11) (N := some 40) (v := ?_) (a' := ?_) #[true, true, true, true, true, true, true, true, true, true, true, true, true, false, true, true, false, false, false, false] rfl rfl (by kernel_rfl) (fun _ _ _ h => h) (Or.inl ⟨by rfl, ?_⟩) hHeld ?_ ?_
  rotate_left
  · rintro w' ⟨s0, s1, s2⟩
    go_simp
    with_reducible rfl
  rotate_left
  · simp only [Act.put, List.setIfInBounds_toArray, List.set_cons_zero, List.set_cons_succ, i64_w, i32_w]
    rfl
  refine join_ (σ := Nat × Nat) 3 #[true, true, true, true, true, true, true, true, true, true, true, true, true, true, true, true, true, false, false, false] (fun s => [(42, .slice (some ⟨s.1, 0, none⟩) xs.length xs.length), (45, .slice (some ⟨s.2, 0, none⟩) xs.length xs.length)]) (fun s w' => (w'.cell? ⟨p, 2, none⟩ = some (.slice (some ⟨g1, 0, none⟩) xs.length c1) ∧ w'.cell? ⟨p, 4, none⟩ = some (.int .u64 (fv (rut 2 1))) ∧ Aside0 (Below w1.heap.size w1 w')) ∧ Aside0 (Rw w' s.1 (tb xs.length fun i => el xs i * fo 1)) ∧ Aside0 (Rw w' s.2 (List.replicate xs.length 0)) ∧ Aside0 (w1.heap.size ≤ s.1) ∧ Aside0 (w1.heap.size ≤ s.2) ∧ Aside0 (s.1 ≠ s.2)) ?_ ?_
  rotate_left
  · intro hCont
    refine two_ (i := 13) (j := 16) (Ni := some 42) (Nj := some 45) #[true, true, true, true, true, true, true, true, true, true, true, true, true, true, true, true, false, false, false, false] #[true, true, true, true, true, true, true, true, true, true, true, true, true, false, true, true, true, false, false, false] rfl rfl rfl rfl (by kernel_rfl) (by decide) (by decide) (fun K hK => ?_) (fun K hK => ?_)
    · skip
      refine goes_ Tryd.func70 (by kernel_rfl) rfl #[.slice (some ⟨g, 0, none⟩) xs.length c, .int .u64 1] (by rfl) rfl rfl (by simp only [List.map_toArray, List.map_cons, List.map_nil]; rfl) ?_
      with_reducible refine (scale_calls (some ⟨g, 0, none⟩) c xs 1 _ ((In.of_mr HM.out (by omega)).below hHeld.2.2.out) HW.out (by decide) hN20).mono ?_
      rintro e w4 ⟨ga, rfl, hrow, hb, hg⟩
      refine ⟨_, rfl, ?_⟩
      have HA := Aside0.mk hrow
      have HAs := Aside0.mk (Nat.le_trans hHeld.2.2.out.size hg)
      clear hrow hg
      have a0 := pw_cell_below hb hHeld.1
      have a1 := pw_cell_below hb hHeld.2.1
      have aB := below_step hHeld.2.2.out hb
      clear hHeld hb
      refine hK.out _ _ ⟨a0, a1, ⟨aB⟩⟩ (fun hHeld => ?_)
      clear hK K
      refine norm_ (a' := ?_) ?_ ?_
      rotate_left
      · show Act.put _ (some 42) _ = _
        simp only [Act.put, List.setIfInBounds_toArray, List.set_cons_zero, List.set_cons_succ, i64_w, i32_w]
        rfl
      refine one_ (i := 16) (N := some 45) #[true, true, true, true, true, true, true, true, true, true, true, true, true, true, true, true, true, false, false, false] rfl rfl (by kernel_rfl) (by decide) (fun K hK => ?_)
      refine make_step 24 _ _ xs.length (by rfl) rfl rfl rfl rfl (by kernel_rfl) info_u64 (by omega) ?_
      intro w5 hrow hb hsz
      have HAB := Aside0.mk (Nat.ne_of_lt (Bk.lt HA.out))
      have nA := HA.out.below hb
      clear HA
      have HA := Aside0.mk nA
      clear nA
      have HB := Aside0.mk hrow
      have HBs := Aside0.mk hHeld.2.2.out.size
      clear hrow hsz
      have a0 := pw_cell_below hb hHeld.1
      have a1 := pw_cell_below hb hHeld.2.1
      have aB := below_step hHeld.2.2.out hb
      clear hHeld hb
      refine hK.out _ _ ⟨a0, a1, ⟨aB⟩⟩ (fun hHeld => ?_)
      clear hK K
      refine norm_ (a' := ?_) ?_ ?_
      rotate_left
      · show Act.put _ (some 45) _ = _
        simp only [Act.put, List.setIfInBounds_toArray, List.set_cons_zero, List.set_cons_succ, i64_w, i32_w]
        rfl
      exact norm_ (by first | (simp only [putAll, Act.put, List.setIfInBounds_toArray, List.set_cons_zero, List.set_cons_succ]; done) | (simp only [putAll, Act.put, List.setIfInBounds_toArray, List.set_cons_zero, List.set_cons_succ]; rfl)) (hCont (ga, w4.heap.size) _ ⟨hHeld, HA, HB, HAs, HBs, HAB⟩)
    · skip
      refine make_step 24 _ _ xs.length (by rfl) rfl rfl rfl rfl (by kernel_rfl) info_u64 (by omega) ?_
      intro w4 hrow hb hsz
      have HB := Aside0.mk hrow
      have HBs := Aside0.mk hHeld.2.2.out.size
      clear hrow hsz
      have a0 := pw_cell_below hb hHeld.1
      have a1 := pw_cell_below hb hHeld.2.1
      have aB := below_step hHeld.2.2.out hb
      clear hHeld hb
      refine hK.out _ _ ⟨a0, a1, ⟨aB⟩⟩ (fun hHeld => ?_)
      clear hK K
      refine norm_ (a' := ?_) ?_ ?_
      rotate_left
      · show Act.put _ (some 45) _ = _
        simp only [Act.put, List.setIfInBounds_toArray, List.set_cons_zero, List.set_cons_succ, i64_w, i32_w]
        rfl
      refine one_ (i := 13) (N := some 42) #[true, true, true, true, true, true, true, true, true, true, true, true, true, true, true, true, true, false, false, false] rfl rfl (by kernel_rfl) (by decide) (fun K hK => ?_)
      refine goes_ Tryd.func70 (by kernel_rfl) rfl #[.slice (some ⟨g, 0, none⟩) xs.length c, .int .u64 1] (by rfl) rfl rfl (by simp only [List.map_toArray, List.map_cons, List.map_nil]; rfl) ?_
      with_reducible refine (scale_calls (some ⟨g, 0, none⟩) c xs 1 _ ((In.of_mr HM.out (by omega)).below hHeld.2.2.out) HW.out (by decide) hN20).mono ?_
      rintro e w5 ⟨ga, rfl, hrow, hb, hg⟩
      refine ⟨_, rfl, ?_⟩
      have HAB := Aside0.mk (Ne.symm (Nat.ne_of_lt (Nat.lt_of_lt_of_le (Bk.lt HB.out) hg)))
      have nB := HB.out.below hb
      clear HB
      have HB := Aside0.mk nB
      clear nB
      have HA := Aside0.mk hrow
      have HAs := Aside0.mk (Nat.le_trans hHeld.2.2.out.size hg)
      clear hrow hg
      have a0 := pw_cell_below hb hHeld.1
      have a1 := pw_cell_below hb hHeld.2.1
      have aB := below_step hHeld.2.2.out hb
      clear hHeld hb
      refine hK.out _ _ ⟨a0, a1, ⟨aB⟩⟩ (fun hHeld => ?_)
      clear hK K
      refine norm_ (a' := ?_) ?_ ?_
      rotate_left
      · show Act.put _ (some 42) _ = _
        simp only [Act.put, List.setIfInBounds_toArray, List.set_cons_zero, List.set_cons_succ, i64_w, i32_w]
        rfl
      exact norm_ (by first | (simp only [putAll, Act.put, List.setIfInBounds_toArray, List.set_cons_zero, List.set_cons_succ]; done) | (simp only [putAll, Act.put, List.setIfInBounds_toArray, List.set_cons_zero, List.set_cons_succ]; rfl)) (hCont (ga, w1.heap.size) _ ⟨hHeld, HA, HB, HAs, HBs, HAB⟩)
  rintro ⟨ga, gb⟩ w6 ⟨hHeld, HA, HB, HAs, HBs, HAB⟩
  dsimp only at HA HB HAs HBs HAB
  refine norm_ (a' := ?_) ?_ ?_
  rotate_left
  · simp only [putAll, Act.put, List.setIfInBounds_toArray, List.set_cons_zero, List.set_cons_succ]
    rfl
  refine pure_ (i := 17) (N := some 46) (v := ?_) (a' := ?_) #[true, true, true, true, true, true, true, true, true, true, true, true, true, true, true, true, true, true, false, false] rfl rfl (by kernel_rfl) (fun _ _ _ h => h) (Or.inl ⟨by rfl, ?_⟩) ?_ ?_
  rotate_left
  · intro w'
    go_simp
    with_reducible rfl
  rotate_left
  · simp only [Act.put, List.setIfInBounds_toArray, List.set_cons_zero, List.set_cons_succ, i64_w, i32_w]
    rfl
  refine one_ (i := 18) (N := some 47) #[true, true, true, true, true, true, true, true, true, true, true, true, true, true, true, true, true, true, true, false] rfl rfl (by kernel_rfl) (by decide) (fun K hK => ?_)
  refine alloc_step (t := 196) (cs := #[.slice (some ⟨g1, 0, none⟩) xs.length c1, .int .u64 (fv (rut 2 1)), .slice (some ⟨ga, 0, none⟩) xs.length xs.length, .slice (some ⟨gb, 0, none⟩) xs.length xs.length]) (by rfl) rfl ?hr ?_
  case hr => first | (go_simp; done) | (go_simp; rfl)
  intro w7 hP hb hz
  have HP := Aside0.mk hP
  have HPs := Aside0.mk hHeld.2.2.out.size
  have HA7 := Aside0.mk (HA.out.below hb)
  have HB7 := Aside0.mk (HB.out.below hb)
  have a0 := pw_cell_below hb hHeld.1
  have a1 := pw_cell_below hb hHeld.2.1
  have aB := below_step hHeld.2.2.out hb
  clear hHeld hb hz hP HA HB
  refine hK.out _ _ ⟨a0, a1, ⟨aB⟩⟩ (fun hHeld => ?_)
  clear hK K
  refine norm_ (a' := ?_) ?_ ?_
  rotate_left
  · show Act.put _ (some 47) _ = _
    simp only [Act.put, List.setIfInBounds_toArray, List.set_cons_zero, List.set_cons_succ, i64_w, i32_w]
    rfl
  refine pure_ (i := 19) (N := some 7) (v := ?_) (a' := ?_) #[true, true, true, true, true, true, true, true, true, true, true, true, true, true, true, true, true, true, true, true] rfl rfl (by kernel_rfl) (fun _ _ _ h => h) (Or.inl ⟨by rfl, ?_⟩) ?_ ?_
  rotate_left
  · intro w'
    go_simp
    with_reducible rfl
  rotate_left
  · simp only [Act.put, List.setIfInBounds_toArray, List.set_cons_zero, List.set_cons_succ, i64_w, i32_w]
    rfl
  refine done_ (by kernel_rfl) ?_
  obtain ⟨P, hP⟩ : ∃ P, P = w6.heap.size := ⟨_, rfl⟩
  rw [← hP] at HP HPs ⊢
  have HSt : Aside0 (Pst w1 w7 P g1 c1 ga gb xs.length x 1 (el xs)) := ⟨hHeld.2.2.out, HP.out, by
    have h := Mr.of_rw HA7.out
    rw [tb_len, tb_congr (g := el xs) (fun i _ => by rw [fo_one]; grobner)] at h
    exact h, ⟨_, Mr.of_rw HB7.out |> fun h => by rw [List.length_replicate] at h; exact h, List.length_replicate⟩, HPs.out, HAs.out, HBs.out, HAB.out⟩
  clear hHeld hP HP HPs HA7 HB7 HAs HBs HAB
  have HX : Aside0 (x ≤ 20 ∧ xs.length = 2 ^ x) := ⟨HK.out.k, HK.out.n⟩
  have HPW := Aside0.mk HK.out.p1
  have hgp : g1 < w1.heap.size := HK.out.p1.lt
  have HY : Aside0 (Stk (dft xs.length (rut x 1) (el xs)) (rut x 1) xs.length 1 (el xs)) := ⟨Stk.first _ _ _⟩
  go_wp2
  go_loopw [8, 9] (fun v8 v9 wr => ∃ (n s k ga gb : Nat) (f : Nat → F), v8 = .int .i64 n ∧ v9 = .int .i64 s ∧ Aside0 (k ≤ x ∧ n = 2 ^ k ∧ s = 2 ^ (x - k)) ∧ Aside0 (Pst w1 wr P g1 c1 ga gb xs.length x 1 f) ∧ Aside0 (Stk (dft xs.length (rut x 1) (el xs)) (rut x 1) n s f)) (fun v8 _ _ => (intOf v8).toNat)
  case atStart => exact ⟨xs.length, 1, x, ga, gb, el xs, rfl, rfl, ⟨Nat.le_refl _, HX.out.2, by rw [Nat.sub_self]⟩, HSt, HY⟩
  case round =>
    clear HSt HY
    obtain ⟨n, s, k, ga, gb, f, rfl, rfl, HE, HSt, HY⟩ := hrel
    have hns : n * s = xs.length := by
      obtain ⟨h1, h2, h3⟩ := HE.out
      rw [h2, h3, ← Nat.pow_add, show k + (x - k) = x by omega, ← HX.out.2]
    have hs0 : 0 < s := by rw [HE.out.2.2]; exact Nat.two_pow_pos _
    have hnN : n ≤ xs.length := by rw [← hns]; exact Nat.le_mul_of_pos_right _ hs0
    have HNS := Aside0.mk hns
    have HS0 := Aside0.mk hs0
    clear hns hs0
    by_cases h4 : 4 ≤ n
    · have hk2 : 2 ≤ k := by
        rcases (by omega : k = 0 ∨ k = 1 ∨ 2 ≤ k) with q | q | q
        · have := HE.out.2.1; rw [q] at this; omega
        · have := HE.out.2.1; rw [q] at this; omega
        · exact q
      obtain ⟨m, hm⟩ : ∃ m, m = 2 ^ (k - 2) := ⟨_, rfl⟩
      have hn4 : n = 4 * m := by
        rw [HE.out.2.1, hm, show (4 : Nat) = 2 ^ 2 by rfl, ← Nat.pow_add]
        congr 1; omega
      have hm0 : 0 < m := by omega
      have Hn := Aside0.mk hn4
      have Hm := Aside0.mk hm
      have Hm0 := Aside0.mk hm0
      have Hk2 := Aside0.mk hk2
      have hq4 : decide ((4 : Int) ≤ (n : Int)) = true := decide_eq_true (by omega)
      obtain ⟨zs, hz1, hz2⟩ := HSt.out.dst
      have HZ := Aside0.mk hz1
      have HZl := Aside0.mk hz2
      obtain ⟨s4, hs4⟩ : ∃ t, t = 4 * s := ⟨_, rfl⟩
      have hsN : s4 ≤ xs.length := by rw [hs4, ← HNS.out, hn4, Nat.mul_assoc]; exact Nat.mul_le_mul_left _ (Nat.le_mul_of_pos_left _ hm0)
      have HS4 := Aside0.mk hs4
      have hmn : m < n := by omega
      have kd : (n : Int) / 4 = (m : Int) := by omega
      have ks : 4 * (s : Int) = (s4 : Int) := by omega
      obtain ⟨kA, kB⟩ := wrapb kd (by omega)
      obtain ⟨kC, kD⟩ := wrapb ks (by omega)
      clear hm hn4 hm0 hk2 hz1 hz2 hs4 hsN h4
      have HKd := Aside0.mk kd
      have HKs := Aside0.mk ks
      have HkA := Aside0.mk kA
      have HkB := Aside0.mk kB
      have HkC := Aside0.mk kC
      have HkD := Aside0.mk kD
      clear kd ks kA kB kC kD
      go_wp2_with fail
      with_reducible refine (quarter_calls P g1 c1 ga xs.length gb xs.length n m s xs.length (rut x 1) (rut 2 1) f zs _ Hn.out Hm0.out HNS.out hN20 HS0.out HSt.out.ps (HPW.out.below HSt.out.be) HSt.out.src HZ.out HZl.out (by have := HSt.out.b; omega) (Ne.symm HSt.out.ab)).mono ?_
      rintro e w8 ⟨rfl, ys', hl', hD, hf, hps, hs', hd'⟩
      have hrun := run_quarter HX.out.1 (show k - 2 + 2 ≤ x by have := HE.out.1; have := Hk2.out; omega) Hm.out (show s = 2 ^ (x - (k - 2 + 2)) by rw [HE.out.2.2]; congr 1; have := Hk2.out; omega) Hn.out HNS.out (by have := HY.out; rw [Hn.out] at this; exact this) hl' hD
      have HST8 : Aside0 (Pst w1 w8 P g1 c1 gb ga xs.length x 1 (el ys')) := ⟨Fr.be HSt.out.be hf (by
          intro k hk
          simp only [List.mem_cons, List.mem_singleton, List.not_mem_nil, or_false] at hk
          rcases hk with rfl | rfl
          · exact HSt.out.b
          · exact HSt.out.p), hps, by rw [← hrun.1]; exact hd', ⟨_, hs', tb_len _ _⟩, HSt.out.p, HSt.out.b, HSt.out.a, Ne.symm HSt.out.ab⟩
      have HY8 := Aside0.mk hrun.2
      clear hl' hD hf hps hs' hd' hrun HSt HY HZ HZl
      have kA := HkA.out
      have kB := HkB.out
      have kC := HkC.out
      have kD := HkD.out
      go_wp2
      go_roundw
      case rel => exact ⟨m, s4, k - 2, gb, ga, el ys', by first | rfl | (rw [HKd.out]) | (rw [kB]) | (rw [kA]), by first | rfl | (rw [kD]) | (rw [kC]) | (rw [HKs.out]), ⟨by have := HE.out.1; omega, Hm.out, by rw [HS4.out, HE.out.2.2, show (4 : Nat) = 2 ^ 2 by rfl, ← Nat.pow_add]; congr 1; have := HE.out.1; have := Hk2.out; omega⟩, HST8, by rw [HS4.out]; exact HY8⟩
      case measure => simp [intOf]; omega
    · have hq4 : decide ((4 : Int) ≤ (n : Int)) = false := decide_eq_false (by omega)
      have hk1 : k = 0 ∨ k = 1 := by
        rcases (by omega : k = 0 ∨ k = 1 ∨ 2 ≤ k) with q | q | q
        · exact .inl q
        · exact .inr q
        · have h5 := HE.out.2.1
          obtain ⟨j, rfl⟩ : ∃ j, k = j + 2 := ⟨k - 2, by omega⟩
          rw [Nat.pow_succ, Nat.pow_succ] at h5
          have := Nat.two_pow_pos j
          omega
      have hfin : ∀ (wz : World) (gz : Nat) (fz : Nat → F), Stk (dft xs.length (rut x 1) (el xs)) (rut x 1) 1 xs.length fz → tb xs.length fz = tb xs.length (dft xs.length (rut x 1) (el xs)) := fun _ _ fz h => tb_congr fun i hi => (h.last i hi).symm
      have HFin := Aside0.mk hfin
      clear hfin h4
      rcases hk1 with rfl | rfl
      · obtain rfl : n = 1 := HE.out.2.1
        have HSt1 := Aside0.mk (HSt.out.ps)
        have HY1 := Aside0.mk (show Stk (dft xs.length (rut x 1) (el xs)) (rut x 1) 1 xs.length f by have := HY.out; have h := HNS.out; rw [Nat.one_mul] at h; rw [h] at this; exact this)
        have v2 := HSt.out.ps.cell 2
        go_wp2_with ((with_reducible refine gate_builtin (b := .copy) (xs := #[.tmp 65, .tmp 69]) rfl ?_); refine copy_mr rfl (.tmp 65) (.tmp 69) 24 24 rfl Tryd.underlying24 size_u64 g c xs (tb xs.length f) ⟨ga, 0, none⟩ xs.length rfl (by rw [tb_len]; rfl) (HM.out.below HSt.out.be) (tb_len _ _) ?hsrc ?_; (case hsrc => (intro j hj; rw [add_at, Nat.zero_add]; exact HSt.out.src.cell j hj)); intro w9 hm9 hf9; have HM9 := Aside0.mk hm9; have HF9 := Aside0.mk hf9; clear hm9 hf9)
        go_wp2
        go_ret
        exact ⟨rfl, by rw [← HFin.out w9 ga f HY1.out]; exact HM9.out, (Fr.of_below HSt.out.be [g]).trans HF9.out⟩
      · obtain rfl : n = 2 := HE.out.2.1
        obtain ⟨zs, hz1, hz2⟩ := HSt.out.dst
        have HZ := Aside0.mk hz1
        have HZl := Aside0.mk hz2
        clear hz1 hz2
        go_wp2_with fail
        with_reducible refine (half_calls P ga xs.length gb xs.length s xs.length _ _ f zs _ HNS.out.symm hN20 ⟨HSt.out.ps, HSt.out.src, HZ.out, HZl.out, Fr.refl _ _, Ne.symm HSt.out.ab⟩).mono ?_
        rintro e w8 ⟨rfl, ys', hl', hD, hf, hps, hs', hd'⟩
        have hrun := run_half HX.out.1 HE.out.1 HE.out.2.2 HNS.out.symm HY.out hl' hD
        have HB8 := Aside0.mk (Fr.be HSt.out.be hf (by
          intro k hk
          simp only [List.mem_cons, List.mem_singleton, List.not_mem_nil, or_false] at hk
          rcases hk with rfl | rfl
          · exact HSt.out.b
          · exact HSt.out.p))
        have HD8 : Aside0 (Mr w8 gb xs.length (tb xs.length (el ys'))) := ⟨by rw [← hrun.1]; exact hd'⟩
        have HY1 := Aside0.mk (show Stk (dft xs.length (rut x 1) (el xs)) (rut x 1) 1 xs.length (el ys') by have := hrun.2; rw [HNS.out] at this; exact this)
        have v2 := hps.cell 2
        clear hl' hD hf hps hs' hd' hrun
        go_wp2_with ((with_reducible refine gate_builtin (b := .copy) (xs := #[.tmp 65, .tmp 69]) rfl ?_); refine copy_mr rfl (.tmp 65) (.tmp 69) 24 24 rfl Tryd.underlying24 size_u64 g c xs (tb xs.length (el ys')) ⟨gb, 0, none⟩ xs.length rfl (by rw [tb_len]; rfl) (HM.out.below HB8.out) (tb_len _ _) ?hsrc ?_; (case hsrc => (intro j hj; rw [add_at, Nat.zero_add]; exact HD8.out.cell j hj)); intro w9 hm9 hf9; have HM9 := Aside0.mk hm9; have HF9 := Aside0.mk hf9; clear hm9 hf9)
        go_wp2
        go_ret
        exact ⟨rfl, by rw [← HFin.out w9 ga _ HY1.out]; exact HM9.out, (Fr.of_below HB8.out [g]).trans HF9.out⟩
end Go.Proofs.YtpnkcjnemoompaaDoor.Kern
end
section
namespace Go.Proofs.YtpnkcjnemoompaaDoor.Kern
open Go.RowKit Go.Proofs.YtpnkcjnemoompaaDoor Go.Proofs.YtpnkcjnemoompaaDoor.Ext Go.Proofs.YtpnkcjnemoompaaDoor.PPlan Go.Proofs.YtpnkcjnemoompaaDoor.PFft Go.Proofs.YtpnkcjnemoompaaDoor.Pure Go.Proofs.YtpnkcjnemoompaaDoor.Obj Go.Proofs.YtpnkcjnemoompaaDoor.Fft Go.Proofs.YtpnkcjnemoompaaDoorW.PrintWords Go.Proofs.YtpnkcjnemoompaaDoorW.PrintLast Go.Proofs.YtpnkcjnemoompaaDoorW.PrintMore
set_option linter.unusedVariables false
set_option linter.unusedSimpArgs false
set_option maxRecDepth 100000
theorem Ker.lts {w : World} {p b g0 c0 g1 c1 x N : Nat} (h : Ker w p b g0 c0 g1 c1 x N) : p < w.heap.size ∧ b < w.heap.size ∧ g0 < w.heap.size ∧ g1 < w.heap.size := by
  obtain ⟨s0, s1, sh, hs⟩ := h.sub
  exact ⟨h.obj.lt, hs.lt, h.p0.lt, h.p1.lt⟩
theorem Ker.keep {w w' : World} {p b g0 c0 g1 c1 x N g c : Nat} {xs : List Int} (h : Ker w p b g0 c0 g1 c1 x N) (hM : Mr w g c xs) (n0 : g ≠ g0) (n1 : g ≠ g1) (hf : Fr w w' [g]) : Ker w' p b g0 c0 g1 c1 x N := by
  obtain ⟨s0, s1, sh, hs⟩ := h.sub
  refine h.fr hf ?_ ?_ ?_ ?_
  · simpa using hM.ne h.obj (by decide)
  · simpa using hM.ne hs (by decide)
  · simpa using Ne.symm n0
  · simpa using Ne.symm n1
theorem run0 (p b g0 c0 g1 c1 x N g c : Nat) (xs : List Int) (w : World) (hK : Ker w p b g0 c0 g1 c1 x N) (hM : Mr w g c xs) (hl : xs.length = N) (hW : Ws xs) (n0 : g ≠ g0) (n1 : g ≠ g1) :
    Calls Tryd.prog 127 #[.pointer (some ⟨p, 0, none⟩), .slice (some ⟨g, 0, none⟩) N c, .int .i64 0] w fun e w' => e = .returned (.int .i64 0) ∧ Mr w' g c (tb N (tr x 0 (el xs))) ∧ Fr w w' [g] := by
  have HC := Aside0.mk (plain0 p b g0 c0 g1 c1 x N g c xs w hK hM hl hW n0 n1)
  have e : tb N (tr x 0 (el xs)) = tb N (dft N (rut x 0) (el xs)) := tb_congr fun i _ => by
    unfold tr
    rw [if_neg (by decide), ← hK.n]; grobner
  rw [e]
  clear hK hM hl hW n0 n1 e
  go_enter Tryd.func127, Tryd.ntmps127
  go_wp2_with fail
  refine HC.out.mono ?_
  rintro e w1 ⟨rfl, hm, hf⟩
  have HM := Aside0.mk hm
  have HF := Aside0.mk hf
  clear hm hf
  go_wp2
  go_ret
  exact ⟨rfl, HM.out, HF.out⟩
theorem run1 (p b g0 c0 g1 c1 x N g c : Nat) (xs : List Int) (w : World) (hK : Ker w p b g0 c0 g1 c1 x N) (hM : Mr w g c xs) (hl : xs.length = N) (hW : Ws xs) (n0 : g ≠ g0) (n1 : g ≠ g1) :
    Calls Tryd.prog 127 #[.pointer (some ⟨p, 0, none⟩), .slice (some ⟨g, 0, none⟩) N c, .int .i64 1] w fun e w' => e = .returned (.int .i64 0) ∧ Mr w' g c (tb N (tr x 1 (el xs))) ∧ Fr w w' [g] := by
  have HC := Aside0.mk (plain1 p b g0 c0 g1 c1 x N g c xs w hK hM hl hW n0 n1)
  have hN20 : N ≤ 1048576 := by rw [hK.n]; exact pow20 hK.k
  have e : tb N (tr x 1 (el xs)) = tb N (fun i => el (tb N (dft N (rut x 1) (el xs))) i * fo (fv (shf x))) := tb_congr fun i hi => by
    unfold tr
    rw [if_pos rfl, ← hK.n, el_tb _ hi, fo_fv]
  rw [e]
  have HK := Aside0.mk (fun w' (hf : Fr w w' [g]) => hK.keep hM n0 n1 hf)
  clear hK hM hl hW n0 n1 e
  obtain ⟨ys, hys⟩ : ∃ ys, ys = tb N (dft N (rut x 1) (el xs)) := ⟨_, rfl⟩
  rw [← hys] at HC ⊢
  have hyl : ys.length = N := by rw [hys, tb_len]
  have HWs : Aside0 (Ws ys) := ⟨by rw [hys]; exact tb_ws _ _⟩
  clear hys
  obtain rfl := hyl
  go_enter Tryd.func127, Tryd.ntmps127
  go_wp2_with fail
  refine HC.out.mono ?_
  rintro e w1 ⟨rfl, hm, hf⟩
  have HM := Aside0.mk hm
  have HF := Aside0.mk hf
  have HK1 := Aside0.mk (HK.out w1 hf)
  have u5 := HK1.out.obj.cell 5
  clear hm hf
  go_wp2_with fail
  with_reducible refine (scale_calls (some ⟨g, 0, none⟩) c ys (fv (shf x)) _ (In.of_mr HM.out (by omega)) HWs.out (fv_w _) hN20).mono ?_
  rintro e w2 ⟨gs, rfl, hr, hb, hg⟩
  have HR := Aside0.mk (Mr.of_rw hr)
  have HM2 := Aside0.mk (HM.out.below hb)
  have HF2 := Aside0.mk (HF.out.trans (Fr.of_below hb [g]))
  rw [tb_len] at HR
  clear hr hb hg u5
  go_wp2_with ((with_reducible refine gate_builtin (b := .copy) (xs := #[.tmp 18, .tmp 24]) rfl ?_); refine copy_mr rfl (.tmp 18) (.tmp 24) 24 24 rfl Tryd.underlying24 size_u64 g c ys (tb ys.length fun i => el ys i * fo (fv (shf x))) ⟨gs, 0, none⟩ ys.length rfl (by rw [tb_len]; rfl) HM2.out (tb_len _ _) ?hsrc ?_; (case hsrc => (intro j hj; rw [add_at, Nat.zero_add]; exact HR.out.cell j hj)); intro w9 hm9 hf9; have HM9 := Aside0.mk hm9; have HF9 := Aside0.mk (HF2.out.trans hf9); clear hm9 hf9)
  go_wp2
  go_ret
  exact ⟨rfl, HM9.out, HF9.out⟩
theorem run_calls (p b g0 c0 g1 c1 x N g c : Nat) (xs : List Int) (d : Int) (hd : d = 0 ∨ d = 1) (w : World) (hK : Ker w p b g0 c0 g1 c1 x N) (hM : Mr w g c xs) (hl : xs.length = N) (hW : Ws xs) (n0 : g ≠ g0) (n1 : g ≠ g1) :
    Calls Tryd.prog 127 #[.pointer (some ⟨p, 0, none⟩), .slice (some ⟨g, 0, none⟩) N c, .int .i64 d] w fun e w' => e = .returned (.int .i64 0) ∧ Mr w' g c (tb N (tr x d (el xs))) ∧ Fr w w' [g] := by
  rcases hd with rfl | rfl
  · exact run0 p b g0 c0 g1 c1 x N g c xs w hK hM hl hW n0 n1
  · exact run1 p b g0 c0 g1 c1 x N g c xs w hK hM hl hW n0 n1
end Go.Proofs.YtpnkcjnemoompaaDoor.Kern
end
section
set_option linter.unusedVariables false
set_option linter.unusedSimpArgs false
namespace Go.Proofs.YtpnkcjnemoompaaDoor.Fft
open Go.RowKit Go.Proofs.YtpnkcjnemoompaaDoor Go.Proofs.YtpnkcjnemoompaaDoor.Pure Go.Proofs.YtpnkcjnemoompaaDoor.PPlan Go.Proofs.YtpnkcjnemoompaaDoor.PFft Go.Proofs.YtpnkcjnemoompaaDoor.Ext Go.Proofs.YtpnkcjnemoompaaDoorW.PrintWords Go.Proofs.YtpnkcjnemoompaaDoorW.PrintLast Go.Proofs.YtpnkcjnemoompaaDoorW.PrintMore
def Vg (off step n L : Int) : Prop := 0 ≤ n ∧ n ≤ 1048576 ∧ 1 ≤ step ∧ 0 ≤ off ∧ (n = 0 ∨ off + (n - 1) * step < L)
theorem vgood_yes (off step n L : Int) (h : Vg off step n L) (hL : 0 ≤ L ∧ L ≤ 1048576) : rows_Good.f off step n L = some true := by
  obtain ⟨h1, h2, h3, h4, h5⟩ := h
  unfold rows_Good.f
  rw [if_neg (by omega), if_neg (by omega), if_neg (by omega), if_neg (by omega)]
  by_cases n0 : n = 0
  · rw [if_pos n0]
  · rw [if_neg n0]
    have h6 : off + (n - 1) * step < L := by
      rcases h5 with h5 | h5
      · omega
      · exact h5
    have hnn : 0 ≤ (n - 1) * step := Int.mul_nonneg (by omega) (by omega)
    rw [if_pos (by omega)]
    by_cases n1 : n = 1
    · rw [if_pos n1]
    · rw [if_neg n1]
      have e1 : wrap64 (n - 1) = n - 1 := wrap_i _ (by omega) (by omega)
      have e2 : wrap64 (L - 1) = L - 1 := wrap_i _ (by omega) (by omega)
      have e3 : wrap64 (L - 1 - off) = L - 1 - off := wrap_i _ (by omega) (by omega)
      rw [e1, if_neg (by omega), e2, e3]
      have hd : step ≤ Int.tdiv (L - 1 - off) (n - 1) := by
        rw [Int.tdiv_eq_ediv_of_nonneg (by omega)]
        refine (Int.le_ediv_iff_mul_le (by omega)).2 ?_
        rw [Int.mul_comm]; omega
      have hle : Int.tdiv (L - 1 - off) (n - 1) ≤ L - 1 - off := by
        rw [Int.tdiv_eq_ediv_of_nonneg (by omega)]
        exact Int.ediv_le_self _ (by omega)
      have e4 : wrap64 (Int.tdiv (L - 1 - off) (n - 1)) = Int.tdiv (L - 1 - off) (n - 1) := wrap_i _ (by omega) (by omega)
      rw [e4, decide_eq_true hd]
structure Vn (off step n L : Nat) : Prop where
  hn : n ≤ 1048576
  hs : 1 ≤ step
  lt : ∀ i, i < n → off + i * step < L
theorem Vn.good {off step n L : Nat} (h : Vn off step n L) : Vg off step n L := by
  refine ⟨by omega, by have := h.hn; omega, by have := h.hs; omega, by omega, ?_⟩
  rcases Nat.eq_zero_or_pos n with rfl | hn
  · exact .inl rfl
  · have := h.lt (n - 1) (by omega)
    refine .inr ?_
    have e : ((n : Int) - 1) * (step : Int) = (((n - 1) * step : Nat) : Int) := by rw [Int.natCast_mul]; congr 1; omega
    rw [e]; omega
def gat (l : List Int) (off step n : Nat) : List Int := (List.range n).map fun i => l.getD (off + i * step) 0
theorem gat_len (l : List Int) (off step n : Nat) : (gat l off step n).length = n := by simp [gat]
theorem gat_get (l : List Int) (off step : Nat) {n i : Nat} (h : i < n) : (gat l off step n).getD i 0 = l.getD (off + i * step) 0 := by simp [gat, List.getD, h]
theorem gat_ws {l : List Int} (h : Ws l) (off step n : Nat) : Ws (gat l off step n) := by
  intro i
  by_cases hi : i < n
  · rw [gat_get l off step hi]; exact h _
  · have : (gat l off step n)[i]? = none := List.getElem?_eq_none (by rw [gat_len]; omega)
    rw [List.getD_eq_getElem?_getD, this]; decide
theorem gat_succ (l : List Int) (off step n : Nat) : gat l off step (n + 1) = gat l off step n ++ [l.getD (off + n * step) 0] := by simp [gat, List.range_succ]
theorem el_gat (l : List Int) (off step : Nat) {n i : Nat} (h : i < n) : el (gat l off step n) i = el l (off + i * step) := by unfold el; rw [gat_get l off step h]
def sct (xs : List Int) (off step : Nat) (ws : List Int) : Nat → List Int
  | 0 => xs
  | i + 1 => (sct xs off step ws i).set (off + i * step) (ws.getD i 0)
theorem sct_len (xs : List Int) (off step : Nat) (ws : List Int) (i : Nat) : (sct xs off step ws i).length = xs.length := by
  induction i with
  | zero => rfl
  | succ i ih => rw [sct, List.length_set, ih]
def gfl (l : List Int) (off step n i : Nat) : List Int := gat l off step i ++ List.replicate (n - i) 0
theorem gfl_set (l : List Int) (off step : Nat) {n i : Nat} (h : i < n) : (gfl l off step n i).set i (l.getD (off + i * step) 0) = gfl l off step n (i + 1) := by
  unfold gfl
  rw [List.set_append_right _ _ (by rw [gat_len]; omega), gat_len, Nat.sub_self, gat_succ]
  obtain ⟨m, hm⟩ : ∃ m, n - i = m + 1 := ⟨n - i - 1, by omega⟩
  rw [hm, show n - (i + 1) = m by omega, List.replicate_succ, List.set_cons_zero]
  simp
theorem gfl_len (l : List Int) (off step : Nat) {n i : Nat} (h : i ≤ n) : (gfl l off step n i).length = n := by simp [gfl, gat_len]; omega
end Go.Proofs.YtpnkcjnemoompaaDoor.Fft
end
section
namespace Go.Proofs.YtpnkcjnemoompaaDoor.Kern
open Go.RowKit Go.Proofs.YtpnkcjnemoompaaDoor Go.Proofs.YtpnkcjnemoompaaDoor.Ext Go.Proofs.YtpnkcjnemoompaaDoor.PPlan Go.Proofs.YtpnkcjnemoompaaDoor.PFft Go.Proofs.YtpnkcjnemoompaaDoor.Pure Go.Proofs.YtpnkcjnemoompaaDoor.Obj Go.Proofs.YtpnkcjnemoompaaDoor.Fft Go.Proofs.YtpnkcjnemoompaaDoorW.PrintWords Go.Proofs.YtpnkcjnemoompaaDoorW.PrintLast Go.Proofs.YtpnkcjnemoompaaDoorW.PrintMore
set_option linter.unusedVariables false
set_option linter.unusedSimpArgs false
set_option maxRecDepth 100000
theorem view_num {o s i L t : Nat} (h : t = o + i * s) (hL : t < L) (hL2 : L ≤ 1048576) : (IntKind.i64.wrap ((i : Int) * (s : Int)) = ((i * s : Nat) : Int) ∧ wrap64 ((i : Int) * (s : Int)) = ((i * s : Nat) : Int)) ∧ (IntKind.i64.wrap ((o : Int) + ((i * s : Nat) : Int)) = (t : Int) ∧ wrap64 ((o : Int) + ((i * s : Nat) : Int)) = (t : Int)) :=
  ⟨wrapb (by rw [Int.natCast_mul]) (by omega), wrapb (by rw [h]; omega) (by omega)⟩
set_option maxHeartbeats 4000000 in
theorem gather_yes (A : Option Addr) (c : Nat) (l : List Int) (o s n : Nat) (w : World) (hl : In w A c l) (hv : Vn o s n l.length) (hL : l.length ≤ 1048576) :
    Calls Tryd.prog 37 #[.slice A l.length c, .agg #[.int .i64 (o : Int), .int .i64 (s : Int), .int .i64 (n : Int)]] w fun e w' => ∃ g, e = .returned (.tuple #[.slice (some ⟨g, 0, none⟩) n n, .int .i64 0]) ∧ Rw w' g (gat l o s n) ∧ Below w.heap.size w w' ∧ w.heap.size ≤ g := by
  have HG := Aside0.mk (vgood_yes o s n l.length hv.good ⟨by omega, by omega⟩)
  have HV := Aside0.mk hv
  have HL := Aside0.mk hl
  have hn2 := hv.hn
  have HB := Aside0.mk (below_alloc (Below.refl w.heap.size w) (Obj.cells #[.int .i64 (o : Int), .int .i64 (s : Int), .int .i64 (n : Int)] 58))
  have HK := Aside0.mk (Bk.new w 58 [.int .i64 (o : Int), .int .i64 (s : Int), .int .i64 (n : Int)])
  clear hl hv
  go_enter Tryd.func37, Tryd.ntmps37
  go_wp2_with fail
  with_reducible refine (rows_Good.calls o s n l.length true _ HG.out).mono ?_
  rintro e w1 ⟨rfl, hb⟩
  have HB1 := Aside0.mk (below_then HB.out HB.out.size hb)
  have HK1 := Aside0.mk (HK.out.below hb)
  obtain ⟨bv, hbv⟩ : ∃ b, b = w.heap.size := ⟨_, rfl⟩
  rw [← hbv] at HK1 ⊢
  have HBv : Aside0 (w.heap.size ≤ bv) := ⟨by omega⟩
  have u2 := HK1.out.cell 2
  clear hb HB HK hbv
  go_wp2_with ((with_reducible refine gate_dst (N := 15) rfl ?_); refine make_row rfl 24 (.tmp 14) (.tmp 14) rfl n rfl rfl Tryd.underlying24 info_u64 (by omega) ?_; intro w2 hrow hb hsz; have HR := Aside0.mk (show Rw w2 w1.heap.size (gfl l o s n 0) by unfold gfl; exact hrow); have HB2 := Aside0.mk (below_then HB1.out HB1.out.size hb); have HK2 := Aside0.mk (HK1.out.below hb); clear hrow hb hsz u2)
  have HG0 : Aside0 (w.heap.size ≤ w1.heap.size) := ⟨HB1.out.size⟩
  obtain ⟨g, hg⟩ : ∃ g, g = w1.heap.size := ⟨_, rfl⟩
  rw [← hg] at HR HG0 ⊢
  clear hg HB1 HK1
  go_loopw [18] (fun v18 wr => ∃ i : Nat, v18 = .int .i64 i ∧ i ≤ n ∧ Aside0 (Rw wr g (gfl l o s n i)) ∧ Aside0 (Below w.heap.size w wr) ∧ Aside0 (Bk wr bv 58 [.int .i64 (o : Int), .int .i64 (s : Int), .int .i64 (n : Int)])) (fun v18 _ => n - (intOf v18).toNat)
  case atStart => exact ⟨0, rfl, Nat.zero_le _, HR, HB2, HK2⟩
  case round =>
    clear HR HB2 HK2
    obtain ⟨i, rfl, hi, HR, HB, HK⟩ := hrel
    by_cases h1 : i < n
    · have hia : (i : Int) < (n : Int) := by omega
      have ht := HV.out.lt i h1
      obtain ⟨ad, q, hx⟩ := Kd.at_int (HL.out.below HB.out).r ((o + i * s : Nat) : Int) (by omega) (by omega)
      cases q
      simp only [Int.toNat_natCast] at hx
      rw [rdn] at hx
      obtain ⟨t, htt⟩ : ∃ t, t = o + i * s := ⟨_, rfl⟩
      rw [← htt] at hx ht
      obtain ⟨⟨kA, kB⟩, kC, kD⟩ := view_num htt ht hL
      have HF := Aside0.mk (gfl_set l o s h1)
      rw [← htt] at HF
      have t0 : (0 : Int) ≤ (t : Int) := by omega
      have t1 : (t : Int) < (l.length : Int) := by omega
      obtain ⟨is, his⟩ : ∃ x, x = i * s := ⟨_, rfl⟩
      rw [← his] at kA kB kC kD
      generalize l.getD t 0 = x at *
      have u0 := HK.out.cell 0
      have u1 := HK.out.cell 1
      have u3 := HR.out.cell i (by rw [gfl_len _ _ _ hi]; exact h1)
      have u4 := Bk.frozen HR.out i
      clear htt ht his
      go_wp2
      clear kA kB kC kD
      go_roundw
      case rel => exact ⟨i + 1, by go_num, by omega, ⟨by rw [← HF.out]; exact HR.out.put i x⟩, ⟨HB.out.setCell (p := ⟨g, i, none⟩) HG0.out _⟩, ⟨HK.out.far i _ (HK.out.ne HR.out (by decide))⟩⟩
      case measure => simp [intOf]; omega
    · obtain rfl : i = n := by omega
      have hia : decide ((i : Int) < (i : Int)) = false := decide_eq_false (by omega)
      go_wp2
      go_ret2
      have hr := HR.out
      unfold gfl at hr
      rw [Nat.sub_self, List.replicate_zero, List.append_nil] at hr
      exact ⟨_, rfl, hr, HB.out, HG0.out⟩
end Go.Proofs.YtpnkcjnemoompaaDoor.Kern
end
section
set_option linter.unusedVariables false
set_option linter.unusedSimpArgs false
namespace Go.Proofs.YtpnkcjnemoompaaDoor.Pure
open Go.RowKit Go.Proofs.YtpnkcjnemoompaaDoor Go.Proofs.YtpnkcjnemoompaaDoor.PPlan Go.Proofs.YtpnkcjnemoompaaDoor.Ext Go.Proofs.YtpnkcjnemoompaaDoorW.PrintWords Go.Proofs.YtpnkcjnemoompaaDoorW.PrintLast Go.Proofs.YtpnkcjnemoompaaDoorW.PrintMore
theorem and_pred (k m : Nat) : (2 ^ k * (2 * m + 1)) &&& (2 ^ k * (2 * m + 1) - 1) = 2 ^ k * (2 * m) := by
  have hp := Nat.two_pow_pos k
  have e : 2 ^ k * (2 * m + 1) - 1 = 2 ^ k * (2 * m) + (2 ^ k - 1) := by rw [Nat.mul_add]; omega
  rw [e]
  apply Nat.eq_of_testBit_eq
  intro j
  have h1 := Nat.testBit_two_pow_mul_add (2 * m + 1) hp j
  have h2 := Nat.testBit_two_pow_mul_add (2 * m) (show 2 ^ k - 1 < 2 ^ k by omega) j
  have h3 := Nat.testBit_two_pow_mul_add (2 * m) hp j
  rw [Nat.add_zero] at h1 h3
  rw [Nat.testBit_and, h1, h2, h3]
  by_cases hj : j < k
  · simp [hj]
  · simp only [hj, if_false]
    cases hd : j - k with
    | zero => simp [Nat.testBit_zero]
    | succ d =>
      rw [Nat.testBit_succ, Nat.testBit_succ, show (2 * m + 1) / 2 = m by omega, show 2 * m / 2 = m by omega, Bool.and_self]
theorem odd_part (n : Nat) (h0 : 0 < n) (h : n < 18446744073709551616) : ∃ m, n = 2 ^ Lib.ctz 64 n * (2 * m + 1) ∧ Lib.ctz 64 n < 64 := by
  obtain ⟨m, hm, hk⟩ := Lib.ctzFrom_spec 64 n h0 (by rw [e64]; exact h)
  have e : Lib.ctz 64 n = Lib.ctzFrom 64 n := by simp [Lib.ctz]; omega
  rw [e]; exact ⟨m, hm, hk⟩
theorem pow_inj {a b : Nat} (h : 2 ^ a = 2 ^ b) : a = b := by
  rcases Nat.lt_trichotomy a b with c | c | c
  · have := Nat.pow_lt_pow_right (show 1 < 2 by omega) c; omega
  · exact c
  · have := Nat.pow_lt_pow_right (show 1 < 2 by omega) c; omega
theorem ctz_pow (k : Nat) (hk : k ≤ 62) : Lib.ctz 64 (2 ^ k) = k := by
  have hp : 2 ^ k < 18446744073709551616 := by rw [← e64]; exact Nat.pow_lt_pow_right (by omega) (by omega)
  obtain ⟨m, h1, h2⟩ := odd_part (2 ^ k) (Nat.two_pow_pos k) hp
  generalize Lib.ctz 64 (2 ^ k) = c at *
  rcases Nat.lt_trichotomy c k with h | h | h
  · have e := pow_split (Nat.le_of_lt h)
    rw [e] at h1
    have h3 := Nat.eq_of_mul_eq_mul_left (Nat.two_pow_pos c) h1
    have e2 : 2 ^ (k - c) = 2 * 2 ^ (k - c - 1) := by rw [← Nat.pow_succ']; congr 1; omega
    omega
  · exact h
  · have h3 := Nat.pow_lt_pow_right (show 1 < 2 by omega) h
    have h4 : 2 ^ c * 1 ≤ 2 ^ c * (2 * m + 1) := Nat.mul_le_mul_left _ (by omega)
    omega
theorem fits_yes (k : Nat) (hk : k ≤ 32) : root_Fits.f ((2 ^ k : Nat) : Int) = some ((k : Int), true) := by
  have hp := pow32 hk
  have hp0 := Nat.two_pow_pos k
  unfold root_Fits.f
  have e1 : wrap64 (((2 ^ k : Nat) : Int) - 1) = ((2 ^ k - 1 : Nat) : Int) := by
    generalize 2 ^ k = y at *
    unfold wrap64; omega
  have e2 : 2 ^ k &&& (2 ^ k - 1) = 0 := by have h := and_pred k 0; rw [Nat.mul_zero, Nat.zero_add, Nat.mul_one, Nat.mul_zero] at h; exact h
  have e3 := ctz_pow k (by omega)
  rw [if_neg (by omega), if_neg (by omega), e1, and_i _ _ (by omega) (by omega), e2, if_pos (by rfl), wrap_u _ (by omega) (by omega)]
  unfold bits_TrailingZeros64.f
  rw [if_pos (by omega), Int.toNat_natCast, e3]
  rfl
def Pw (n : Int) (k : Nat) : Prop := k ≤ 32 ∧ n = ((2 ^ k : Nat) : Int)
theorem Pw.uniq {n : Int} {a b : Nat} (h : Pw n a) (k : Pw n b) : a = b := pow_inj (by have := h.2; have := k.2; omega)
theorem fits_no (n : Int) (h : ∀ k, ¬ Pw n k) : root_Fits.f n = some (0, false) := by
  unfold root_Fits.f
  by_cases h1 : n < 1
  · rw [if_pos h1]
  · by_cases h2 : n > 4294967296
    · rw [if_neg h1, if_pos h2]
    · rw [if_neg h1, if_neg h2]
      obtain ⟨x, rfl⟩ := Int.eq_ofNat_of_zero_le (show 0 ≤ n by omega)
      have e1 : wrap64 ((x : Int) - 1) = ((x - 1 : Nat) : Int) := by unfold wrap64; omega
      rw [e1, and_i _ _ (by omega) (by omega)]
      obtain ⟨m, hm, hk⟩ := odd_part x (by omega) (by omega)
      have ha := and_pred (Lib.ctz 64 x) m
      rw [← hm] at ha
      have hp := Nat.two_pow_pos (Lib.ctz 64 x)
      by_cases hm0 : m = 0
      · subst hm0
        rw [Nat.mul_zero, Nat.zero_add, Nat.mul_one] at hm
        have hc : Lib.ctz 64 x ≤ 32 := by
          apply Nat.le_of_not_lt
          intro c
          have h3 := pow_mono (show 33 ≤ Lib.ctz 64 x by omega)
          have e33 : (2 : Nat) ^ 33 = 8589934592 := by decide
          rw [e33, ← hm] at h3
          omega
        exact absurd ⟨hc, by rw [← hm]⟩ (h (Lib.ctz 64 x))
      · have hpos : 0 < 2 ^ Lib.ctz 64 x * (2 * m) := Nat.mul_pos hp (by omega)
        rw [ha, if_neg (by omega)]
theorem pw_cases (n : Int) : (∃ k, Pw n k) ∨ (∀ k, ¬ Pw n k) := by
  by_cases h : ∃ k, Pw n k
  · exact .inl h
  · exact .inr fun k hk => h ⟨k, hk⟩
theorem rfits_loop (n : Int) (d : Nat) : ∀ k : Nat, k + d = 33 →
    ((∃ a, k ≤ a ∧ Pw n a ∧ Ev (fun r => abacistref03_Fits.l0 r n ((2 ^ k : Nat) : Int) (k : Int)) (a : Int)) ∨ ((∀ a, k ≤ a → ¬ Pw n a) ∧ Ev (fun r => abacistref03_Fits.l0 r n ((2 ^ k : Nat) : Int) (k : Int)) (-1))) := by
  induction d with
  | zero =>
    intro k hk
    refine .inr ⟨fun a ha hp => by have := hp.1; omega, Ev.step (f := fun _ => some (-1)) (fun r => ?_) (Ev.now _)⟩
    simp only [abacistref03_Fits.l0]
    rw [if_neg (by omega)]
  | succ d ih =>
    intro k hk
    have hk32 : k ≤ 32 := by omega
    have hp := pow32 hk32
    have e1 : wrap64 (2 * ((2 ^ k : Nat) : Int)) = ((2 ^ (k + 1) : Nat) : Int) := by
      rw [Nat.pow_succ]
      generalize 2 ^ k = y at *
      unfold wrap64; omega
    have e2 : wrap64 ((k : Int) + 1) = ((k + 1 : Nat) : Int) := by unfold wrap64; omega
    by_cases hn : n = ((2 ^ k : Nat) : Int)
    · refine .inl ⟨k, Nat.le_refl _, ⟨hk32, hn⟩, Ev.step (f := fun _ => some (k : Int)) (fun r => ?_) (Ev.now _)⟩
      simp only [abacistref03_Fits.l0]
      rw [if_pos (by omega), if_pos hn]
    · have go : ∀ r, abacistref03_Fits.l0 (r + 1) n ((2 ^ k : Nat) : Int) (k : Int) = abacistref03_Fits.l0 r n ((2 ^ (k + 1) : Nat) : Int) ((k + 1 : Nat) : Int) := by
        intro r
        simp only [abacistref03_Fits.l0]
        rw [if_pos (by omega), if_neg hn, e1, e2]
      rcases ih (k + 1) (by omega) with ⟨a, h1, h2, h3⟩ | ⟨h1, h2⟩
      · exact .inl ⟨a, by omega, h2, Ev.step go h3⟩
      · refine .inr ⟨fun a ha hpa => ?_, Ev.step go h2⟩
        rcases Nat.lt_or_ge k a with c | c
        · exact h1 a c hpa
        · obtain rfl : a = k := by omega
          exact hn hpa.2
theorem rfits_yes (n : Int) (k : Nat) (h : Pw n k) : Ev (fun r => abacistref03_Fits.f r n) (k : Int) := by
  rcases rfits_loop n 33 0 rfl with ⟨a, _, h2, h3⟩ | ⟨h1, _⟩
  · obtain rfl := h2.uniq h
    exact Ev.congr (fun _ => rfl) h3
  · exact absurd h (h1 k (Nat.zero_le _))
theorem rfits_no (n : Int) (h : ∀ k, ¬ Pw n k) : Ev (fun r => abacistref03_Fits.f r n) (-1) := by
  rcases rfits_loop n 33 0 rfl with ⟨a, _, h2, _⟩ | ⟨_, h2⟩
  · exact absurd h2 (h a)
  · exact Ev.congr (fun _ => rfl) h2
end Go.Proofs.YtpnkcjnemoompaaDoor.Pure
end
section
namespace Go.Proofs.YtpnkcjnemoompaaDoor.Kern
open Go.RowKit Go.Proofs.YtpnkcjnemoompaaDoor Go.Proofs.YtpnkcjnemoompaaDoor.Ext Go.Proofs.YtpnkcjnemoompaaDoor.PPlan Go.Proofs.YtpnkcjnemoompaaDoor.PFft Go.Proofs.YtpnkcjnemoompaaDoor.Pure Go.Proofs.YtpnkcjnemoompaaDoor.Obj Go.Proofs.YtpnkcjnemoompaaDoor.Fft Go.Proofs.YtpnkcjnemoompaaDoorW.PrintWords Go.Proofs.YtpnkcjnemoompaaDoorW.PrintLast Go.Proofs.YtpnkcjnemoompaaDoorW.PrintMore
set_option linter.unusedVariables false
set_option linter.unusedSimpArgs false
set_option maxRecDepth 100000
set_option maxHeartbeats 4000000 in
theorem scatter_yes (g c : Nat) (xs : List Int) (B : Option Addr) (d : Nat) (ws : List Int) (o s n : Nat) (w : World) (hM : Mr w g c xs) (hv : Vn o s n xs.length) (hL : xs.length ≤ 1048576) (hn : ws.length = n) (hs : ∀ w', Fr w w' [g] → In w' B d ws) :
    Calls Tryd.prog 38 #[.slice (some ⟨g, 0, none⟩) xs.length c, .agg #[.int .i64 (o : Int), .int .i64 (s : Int), .int .i64 (n : Int)], .slice B n d] w fun e w' => e = .returned (.int .i64 0) ∧ Mr w' g c (sct xs o s ws n) ∧ Fr w w' [g] := by
  have HG := Aside0.mk (vgood_yes o s n xs.length hv.good ⟨by omega, by omega⟩)
  have HV := Aside0.mk hv
  have HM := Aside0.mk hM
  have HS := Aside0.mk hs
  have HN := Aside0.mk hn
  have hn2 := hv.hn
  have hgl : g < w.heap.size := hM.lt
  have HB := Aside0.mk (below_alloc (Below.refl w.heap.size w) (Obj.cells #[.int .i64 (o : Int), .int .i64 (s : Int), .int .i64 (n : Int)] 58))
  have HK := Aside0.mk (Bk.new w 58 [.int .i64 (o : Int), .int .i64 (s : Int), .int .i64 (n : Int)])
  clear hM hv hs hn
  go_enter Tryd.func38, Tryd.ntmps38
  go_wp2_with fail
  with_reducible refine (rows_Good.calls o s n xs.length true _ HG.out).mono ?_
  rintro e w1 ⟨rfl, hb⟩
  have HF1 := Aside0.mk (Fr.of_below (below_then HB.out HB.out.size hb) [g])
  have HM1 := Aside0.mk (HM.out.below (below_then HB.out HB.out.size hb))
  have HK1 := Aside0.mk (HK.out.below hb)
  obtain ⟨bv, hbv⟩ : ∃ b, b = w.heap.size := ⟨_, rfl⟩
  rw [← hbv] at HK1 ⊢
  have u2 := HK1.out.cell 2
  clear hb HB HK hbv
  go_wp2
  clear u2
  go_loopw [23] (fun v23 wr => ∃ i : Nat, v23 = .int .i64 i ∧ i ≤ n ∧ Aside0 (Mr wr g c (sct xs o s ws i)) ∧ Aside0 (Fr w wr [g]) ∧ Aside0 (Bk wr bv 58 [.int .i64 (o : Int), .int .i64 (s : Int), .int .i64 (n : Int)])) (fun v23 _ => n - (intOf v23).toNat)
  case atStart => exact ⟨0, rfl, Nat.zero_le _, HM1, HF1, HK1⟩
  case round =>
    clear HM1 HF1 HK1
    obtain ⟨i, rfl, hi, HR, HF, HK⟩ := hrel
    by_cases h1 : i < n
    · have hia : (i : Int) < (n : Int) := by omega
      have ht := HV.out.lt i h1
      have hnl := HN.out
      obtain ⟨ad, q, hx⟩ := Kd.at_int (HS.out wr HF.out).r (i : Int) (by omega) (by omega)
      cases q
      simp only [Int.toNat_natCast] at hx
      rw [rdn] at hx
      obtain ⟨t, htt⟩ : ∃ t, t = o + i * s := ⟨_, rfl⟩
      rw [← htt] at ht
      have t0 : (0 : Int) ≤ (t : Int) := by omega
      have t1 : (t : Int) < (xs.length : Int) := by omega
      obtain ⟨⟨kA, kB⟩, kC, kD⟩ := view_num htt ht hL
      have HE : Aside0 (sct xs o s ws (i + 1) = (sct xs o s ws i).set t (ws.getD i 0)) := ⟨by rw [htt]; rfl⟩
      obtain ⟨is, his⟩ : ∃ x, x = i * s := ⟨_, rfl⟩
      rw [← his] at kA kB kC kD
      generalize ws.getD i 0 = x at *
      have u0 := HK.out.cell 0
      have u1 := HK.out.cell 1
      have u3 := HR.out.cell t (by rw [sct_len]; exact ht)
      have u4 := HR.out.frozen t
      clear htt ht his hnl
      go_wp2
      clear kA kB kC kD
      go_roundw
      case rel => exact ⟨i + 1, by go_num, by omega, ⟨by rw [HE.out]; exact HR.out.put t x⟩, ⟨HF.out.set g t _ (.inl (by simp))⟩, ⟨HK.out.far t _ (HR.out.ne HK.out (by decide))⟩⟩
      case measure => simp [intOf]; omega
    · obtain rfl : i = n := by omega
      have hia : decide ((i : Int) < (i : Int)) = false := decide_eq_false (by omega)
      go_wp2
      go_ret
      exact ⟨rfl, HR.out, HF.out⟩
theorem kernel_yes (x : Nat) (hx : x ≤ 20) (n : Nat) (hn : n = 2 ^ x) (w : World) (hT : TabOK w) :
    Calls Tryd.prog 102 #[.int .i64 (n : Int)] w fun e w' => ∃ p b g0 c0 g1 c1, e = .returned (.tuple #[.pointer (some ⟨p, 0, none⟩), .int .i64 0]) ∧ Ker w' p b g0 c0 g1 c1 x n ∧ Below w.heap.size w w' ∧ w.heap.size ≤ p ∧ w.heap.size ≤ b ∧ w.heap.size ≤ g0 ∧ w.heap.size ≤ g1 := by
  have hf := Aside0.mk (show root_Fits.f (n : Int) = some ((x : Int), true) by rw [hn]; exact fits_yes x (by omega))
  have d1 : decide (1048576 < (n : Int)) = false := decide_eq_false (by have := pow20 hx; omega)
  have HN := Aside0.mk hn
  have HT := Aside0.mk hT
  have HX := Aside0.mk hx
  clear hn hT
  go_enter Tryd.func102, Tryd.ntmps102
  go_wp2_with fail
  with_reducible refine (root_Fits.calls _ x true _ hf.out HT.out).mono ?_
  rintro e w1 ⟨rfl, hb⟩
  have HB1 := Aside0.mk hb.below
  clear hb
  go_wp2_with fail
  refine (new4_calls x HX.out _).mono ?_
  rintro e w2 ⟨p, b, g0, c0, g1, c1, rfl, hk, hb, l1, l2, l3, l4⟩
  rw [← HN.out] at hk
  have HK := Aside0.mk hk
  have HB2 := Aside0.mk (below_then HB1.out HB1.out.size hb)
  have HLs : Aside0 (w.heap.size ≤ p ∧ w.heap.size ≤ b ∧ w.heap.size ≤ g0 ∧ w.heap.size ≤ g1) := ⟨Nat.le_trans HB1.out.size l1, Nat.le_trans HB1.out.size l2, Nat.le_trans HB1.out.size l3, Nat.le_trans HB1.out.size l4⟩
  clear hk hb l1 l2 l3 l4
  go_wp2
  go_ret2
  exact ⟨p, b, g0, c0, g1, c1, rfl, HK.out, HB2.out, HLs.out⟩
def vrun (xs : List Int) (x : Nat) (d : Int) (o s n : Nat) : List Int := sct xs o s (tb n (tr x d (el (gat xs o s n)))) n
theorem vrun_len (xs : List Int) (x : Nat) (d : Int) (o s n : Nat) : (vrun xs x d o s n).length = xs.length := sct_len _ _ _ _ _
set_option maxHeartbeats 4000000 in
theorem vrun_calls (p b g0 c0 g1 c1 x n g c : Nat) (xs : List Int) (d : Int) (hd : d = 0 ∨ d = 1) (o s : Nat) (w : World) (hK : Ker w p b g0 c0 g1 c1 x n) (hM : Mr w g c xs) (hW : Ws xs) (hv : Vn o s n xs.length) (hL : xs.length ≤ 1048576) (n0 : g ≠ g0) (n1 : g ≠ g1) :
    Calls Tryd.prog 104 #[.pointer (some ⟨p, 0, none⟩), .slice (some ⟨g, 0, none⟩) xs.length c, .agg #[.int .i64 (o : Int), .int .i64 (s : Int), .int .i64 (n : Int)], .int .i64 d] w fun e w' => e = .returned (.int .i64 0) ∧ Mr w' g c (vrun xs x d o s n) ∧ Fr w w' [g] := by
  have HK := Aside0.mk hK
  have HM := Aside0.mk hM
  have HW := Aside0.mk hW
  have HV := Aside0.mk hv
  have HD := Aside0.mk hd
  have hgl : g < w.heap.size := hM.lt
  obtain ⟨q1, q2, q3, q4⟩ := hK.lts
  have HB := Aside0.mk (below_alloc (Below.refl w.heap.size w) (Obj.cells #[.int .i64 (o : Int), .int .i64 (s : Int), .int .i64 (n : Int)] 58))
  have HKv := Aside0.mk (Bk.new w 58 [.int .i64 (o : Int), .int .i64 (s : Int), .int .i64 (n : Int)])
  obtain ⟨bv, hbv⟩ : ∃ b, b = w.heap.size := ⟨_, rfl⟩
  clear hK hM hW hv hd
  go_enter Tryd.func104, Tryd.ntmps104
  go_wp2_with fail
  refine (gather_yes (some ⟨g, 0, none⟩) c xs o s n _ ((In.of_mr HM.out (by omega)).below HB.out) HV.out hL).mono ?_
  rintro e w1 ⟨gg, rfl, hr, hb, hg⟩
  rw [← hbv] at HKv ⊢
  have HB1 := Aside0.mk (below_then HB.out HB.out.size hb)
  have hgg : w.heap.size ≤ gg := by have := HB.out.size; omega
  have HR := Aside0.mk (show Mr w1 gg n (gat xs o s n) by have := Mr.of_rw hr; rw [gat_len] at this; exact this)
  have HKv1 := Aside0.mk (HKv.out.below hb)
  clear hr hb hg HKv hbv
  go_wp2_with fail
  refine (run_calls p b g0 c0 g1 c1 x n gg n (gat xs o s n) d HD.out _ (HK.out.below HB1.out) HR.out (gat_len _ _ _ _) (gat_ws HW.out _ _ _) (by omega) (by omega)).mono ?_
  rintro e w2 ⟨rfl, hm, hf⟩
  have HM2 := Aside0.mk hm
  have HF2 := Aside0.mk hf
  have HKv2 := Aside0.mk (HKv1.out.fr hf (by simpa using (HR.out.ne HKv1.out (by decide))))
  have HB2 := Aside0.mk (HB1.out.trans (hf.below (B := w.heap.size) HB1.out.size (fun k hk => by simp at hk; omega)))
  have u := HKv2.out.cell 0
  have u1 := HKv2.out.cell 1
  have u2 := HKv2.out.cell 2
  clear hm hf HKv1
  go_wp2_with fail
  refine (scatter_yes g c xs (some ⟨gg, 0, none⟩) n (tb n (tr x d (el (gat xs o s n)))) o s n _ (HM.out.below HB2.out) HV.out hL (tb_len _ _) (fun w' hf => In.of_mr (HM2.out.fr hf (by simp; omega)) (by rw [tb_len]; have := HV.out.hn; omega))).mono ?_
  rintro e w3 ⟨rfl, hm, hf⟩
  have HM3 := Aside0.mk hm
  have HF3 := Aside0.mk ((Fr.of_below HB2.out [g]).trans hf)
  clear hm hf u u1 u2
  go_wp2
  go_ret
  exact ⟨rfl, HM3.out, HF3.out⟩
end Go.Proofs.YtpnkcjnemoompaaDoor.Kern
end
section
namespace Go.Proofs.YtpnkcjnemoompaaDoor.Kern
open Go.RowKit Go.Proofs.YtpnkcjnemoompaaDoor Go.Proofs.YtpnkcjnemoompaaDoor.Ext Go.Proofs.YtpnkcjnemoompaaDoor.PPlan Go.Proofs.YtpnkcjnemoompaaDoor.PFft Go.Proofs.YtpnkcjnemoompaaDoor.Pure Go.Proofs.YtpnkcjnemoompaaDoor.Obj Go.Proofs.YtpnkcjnemoompaaDoor.Fft Go.Proofs.YtpnkcjnemoompaaDoorW.PrintWords Go.Proofs.YtpnkcjnemoompaaDoorW.PrintLast Go.Proofs.YtpnkcjnemoompaaDoorW.PrintMore
set_option linter.unusedVariables false
set_option linter.unusedSimpArgs false
set_option maxRecDepth 100000
theorem sct_ws {xs ws : List Int} (h : Ws xs) (hw : Ws ws) (o s : Nat) (i : Nat) : Ws (sct xs o s ws i) := by
  induction i with
  | zero => exact h
  | succ i ih =>
    intro j
    rw [sct]
    by_cases hl : o + i * s < (sct xs o s ws i).length
    · rw [getD_set _ _ _ _ hl]
      split
      · exact hw i
      · exact ih j
    · rw [List.set_eq_of_length_le (by omega)]
      exact ih j
theorem vrun_ws {xs : List Int} (h : Ws xs) (x : Nat) (d : Int) (o s n : Nat) : Ws (vrun xs x d o s n) := sct_ws h (tb_ws _ _) o s n
def vfold (xs : List Int) (x : Nat) (d : Int) (o s : Nat → Nat) (n : Nat) : Nat → List Int
  | 0 => xs
  | i + 1 => vrun (vfold xs x d o s n i) x d (o i) (s i) n
theorem vfold_len (xs : List Int) (x : Nat) (d : Int) (o s : Nat → Nat) (n i : Nat) : (vfold xs x d o s n i).length = xs.length := by
  induction i with
  | zero => rfl
  | succ i ih => rw [vfold, vrun_len, ih]
theorem vfold_ws {xs : List Int} (h : Ws xs) (x : Nat) (d : Int) (o s : Nat → Nat) (n i : Nat) : Ws (vfold xs x d o s n i) := by
  induction i with
  | zero => exact h
  | succ i ih => exact vrun_ws ih _ _ _ _ _
theorem rview_calls (i R C bs : Nat) (w : World) (h : Bk w bs 23 [.int .i64 (R : Int), .int .i64 (C : Int)]) (hm : i * C ≤ 9223372036854775807) :
    Calls Tryd.prog 85 #[.int .i64 (i : Int), .pointer (some ⟨bs, 0, none⟩)] w fun e w' => e = .returned (.agg #[.int .i64 ((i * C : Nat) : Int), .int .i64 1, .int .i64 (C : Int)]) ∧ Below w.heap.size w w' := by
  obtain ⟨z, hz⟩ : ∃ z, z = i * C := ⟨_, rfl⟩
  obtain ⟨kA, kB⟩ := wrapb (show (i : Int) * (C : Int) = (z : Int) by rw [hz, Int.natCast_mul]) (by omega)
  rw [← hz]
  have u1 := h.cell 1
  have hlt := h.lt
  have HZ := Aside0.mk (Bk.new w 58 [.int .i64 0, .int .i64 0, .int .i64 0])
  have HB := Aside0.mk (below_alloc (Below.refl w.heap.size w) (Obj.cells #[.int .i64 0, .int .i64 0, .int .i64 0] 58))
  clear h hz hm
  go_enter Tryd.func85, Tryd.ntmps85
  go_wp2
  refine bodyPost_ret (results_cell_row rfl _ _ w.heap.size 58 #[.int .i64 (z : Int), .int .i64 1, .int .i64 (C : Int)] (0, 0) _ rfl ?_ Tryd.underlying58 rfl (by kernel_rfl)) rfl ⟨rfl, ?_⟩
  · first | exact Bk.new w 58 [_, _, _] | exact ((HZ.out.put 0 _).put 1 _).put 2 _
  · first | exact below_alloc (Below.refl _ _) _ | exact below_set (below_set (below_set HB.out (Nat.le_refl _)) (Nat.le_refl _)) (Nat.le_refl _)
theorem cview_calls (i R C bs : Nat) (w : World) (h : Bk w bs 23 [.int .i64 (R : Int), .int .i64 (C : Int)]) :
    Calls Tryd.prog 86 #[.int .i64 (i : Int), .pointer (some ⟨bs, 0, none⟩)] w fun e w' => e = .returned (.agg #[.int .i64 (i : Int), .int .i64 (C : Int), .int .i64 (R : Int)]) ∧ Below w.heap.size w w' := by
  have u0 := h.cell 0
  have u1 := h.cell 1
  have hlt := h.lt
  have HZ := Aside0.mk (Bk.new w 58 [.int .i64 0, .int .i64 0, .int .i64 0])
  have HB := Aside0.mk (below_alloc (Below.refl w.heap.size w) (Obj.cells #[.int .i64 0, .int .i64 0, .int .i64 0] 58))
  clear h
  go_enter Tryd.func86, Tryd.ntmps86
  go_wp2
  refine bodyPost_ret (results_cell_row rfl _ _ w.heap.size 58 #[.int .i64 (i : Int), .int .i64 (C : Int), .int .i64 (R : Int)] (0, 0) _ rfl ?_ Tryd.underlying58 rfl (by kernel_rfl)) rfl ⟨rfl, ?_⟩
  · first | exact Bk.new w 58 [_, _, _] | exact ((HZ.out.put 0 _).put 1 _).put 2 _
  · first | exact below_alloc (Below.refl _ _) _ | exact below_set (below_set (below_set HB.out (Nat.le_refl _)) (Nat.le_refl _)) (Nat.le_refl _)
set_option maxHeartbeats 8000000 in
theorem allR (R C x g c bs : Nat) (xs : List Int) (d : Int) (hd : d = 0 ∨ d = 1) (hx : x ≤ 20) (hn : C = 2 ^ x) (hC0 : 1 ≤ C) (hl : R * C = xs.length) (hL : xs.length ≤ 1048576) (hW : Ws xs) (w : World) (hM : Mr w g c xs) (hS : Bk w bs 23 [.int .i64 (R : Int), .int .i64 (C : Int)]) (hT : TabOK w) :
    Calls Tryd.prog 84 #[.slice (some ⟨g, 0, none⟩) xs.length c, .int .i64 d, .int .i64 (C : Int), .int .i64 (R : Int), .func (.func 85) #[] #[.pointer (some ⟨bs, 0, none⟩)]] w fun e w' => e = .returned (.int .i64 0) ∧ Mr w' g c (vfold xs x d (fun i => i * C) (fun _ => 1) C R) ∧ Fr w w' [g] := by
  have hvn : ∀ i, i < R → Vn ((fun i => i * C) i) ((fun _ => 1) i) C xs.length := by
    intro i hi
    refine ⟨by have := pow20 hx; omega, Nat.le_refl _, fun j hj => ?_⟩
    have : (i + 1) * C ≤ R * C := Nat.mul_le_mul_right _ hi
    rw [Nat.add_mul, Nat.one_mul] at this
    show i * C + j * 1 < _
    omega
  have HV := Aside0.mk hvn
  have HM := Aside0.mk hM
  have HW := Aside0.mk hW
  have HSb0 := Aside0.mk hS
  have HT := Aside0.mk hT
  have HD := Aside0.mk hd
  have HRC := Aside0.mk (show R * C ≤ 1048576 by omega)
  have hgl : g < w.heap.size := hM.lt
  have hsb : bs ≠ g := hM.ne hS (by decide)
  have HX := Aside0.mk hx
  have HN := Aside0.mk hn
  clear hvn hM hW hS hT hd hl hx hn
  go_enter Tryd.func84, Tryd.ntmps84
  go_wp2_with fail
  refine (kernel_yes x HX.out C HN.out _ HT.out).mono ?_
  rintro e w1 ⟨p, b, g0, c0, g1, c1, rfl, hk, hb, l1, l2, l3, l4⟩
  have HK := Aside0.mk hk
  have HF := Aside0.mk (Fr.of_below hb [g])
  have HM1 := Aside0.mk (show Mr w1 g c (vfold xs x d (fun i => i * C) (fun _ => 1) C 0) from HM.out.below hb)
  have HSb := Aside0.mk (HSb0.out.below hb)
  have n0 : g ≠ g0 := by omega
  have n1 : g ≠ g1 := by omega
  clear hk hb l1 l2 l3 l4 HM HSb0
  go_wp2
  go_loopw [12, 13] (fun v12 v13 wr => ∃ i : Nat, v12 = .int .i64 0 ∧ v13 = .int .i64 i ∧ i ≤ R ∧ Aside0 (Mr wr g c (vfold xs x d (fun i => i * C) (fun _ => 1) C i)) ∧ Aside0 (Fr w wr [g]) ∧ Aside0 (Ker wr p b g0 c0 g1 c1 x C) ∧ Aside0 (Bk wr bs 23 [.int .i64 (R : Int), .int .i64 (C : Int)])) (fun _ v13 _ => R - (intOf v13).toNat)
  case atStart => exact ⟨0, rfl, rfl, Nat.zero_le _, HM1, HF, HK, HSb⟩
  case round =>
    clear HM1 HF HK HSb
    obtain ⟨i, rfl, rfl, hi, HM, HF, HK, HSb⟩ := hrel
    have hib : R ≤ 1048576 := by
      have h1 := HRC.out
      have : R ≤ R * C := Nat.le_mul_of_pos_right _ hC0
      omega
    by_cases h1 : i < R
    · have hia : (i : Int) < (R : Int) := by omega
      go_wp2_with fail
      refine (rview_calls i R C bs _ HSb.out (by have := HRC.out; have : i * C ≤ R * C := Nat.mul_le_mul_right _ (by omega); omega)).mono ?_
      rintro e w2 ⟨rfl, hb⟩
      have HM2 := Aside0.mk (HM.out.below hb)
      have HF2 := Aside0.mk (HF.out.trans (Fr.of_below hb [g]))
      have HK2 := Aside0.mk (HK.out.below hb)
      have HSb2 := Aside0.mk (HSb.out.below hb)
      clear hb HM HF HK HSb
      go_wp2_with fail
      have hr := vrun_calls p b g0 c0 g1 c1 x C g c (vfold xs x d (fun i => i * C) (fun _ => 1) C i) d HD.out ((fun i => i * C) i) ((fun _ => 1) i) _ HK2.out HM2.out (vfold_ws HW.out _ _ _ _ _ _) (by rw [vfold_len]; exact HV.out i h1) (by rw [vfold_len]; exact hL) n0 n1
      rw [vfold_len] at hr
      refine hr.mono ?_
      clear hr
      rintro e w3 ⟨rfl, hm, hf⟩
      have HM3 := Aside0.mk (show Mr w3 g c (vfold xs x d (fun i => i * C) (fun _ => 1) C (i + 1)) from hm)
      have HF3 := Aside0.mk (HF2.out.trans hf)
      have HK3 := Aside0.mk (HK2.out.keep HM2.out n0 n1 hf)
      have HSb3 := Aside0.mk (HSb2.out.fr hf (by simpa using hsb))
      clear hm hf HM2 HF2 HK2 HSb2
      go_wp2
      go_roundw
      case rel => exact ⟨i + 1, rfl, by go_num, by omega, HM3, HF3, HK3, HSb3⟩
      case measure => simp [intOf]; omega
    · obtain rfl : i = R := by omega
      have hia : decide ((i : Int) < (i : Int)) = false := decide_eq_false (by omega)
      go_wp2
      go_ret
      exact ⟨rfl, HM.out, HF.out⟩
set_option maxHeartbeats 8000000 in
theorem allC (R C x g c bs : Nat) (xs : List Int) (d : Int) (hd : d = 0 ∨ d = 1) (hx : x ≤ 20) (hn : R = 2 ^ x) (hC0 : 1 ≤ C) (hl : R * C = xs.length) (hL : xs.length ≤ 1048576) (hW : Ws xs) (w : World) (hM : Mr w g c xs) (hS : Bk w bs 23 [.int .i64 (R : Int), .int .i64 (C : Int)]) (hT : TabOK w) :
    Calls Tryd.prog 84 #[.slice (some ⟨g, 0, none⟩) xs.length c, .int .i64 d, .int .i64 (R : Int), .int .i64 (C : Int), .func (.func 86) #[] #[.pointer (some ⟨bs, 0, none⟩)]] w fun e w' => e = .returned (.int .i64 0) ∧ Mr w' g c (vfold xs x d (fun i => i) (fun _ => C) R C) ∧ Fr w w' [g] := by
  have hvn : ∀ i, i < C → Vn ((fun i => i) i) ((fun _ => C) i) R xs.length := by
    intro i hi
    refine ⟨by have := pow20 hx; omega, hC0, fun j hj => ?_⟩
    have : (j + 1) * C ≤ R * C := Nat.mul_le_mul_right _ hj
    rw [Nat.add_mul, Nat.one_mul] at this
    show i + j * C < _
    omega
  have HV := Aside0.mk hvn
  have HM := Aside0.mk hM
  have HW := Aside0.mk hW
  have HSb0 := Aside0.mk hS
  have HT := Aside0.mk hT
  have HD := Aside0.mk hd
  have HRC := Aside0.mk (show R * C ≤ 1048576 by omega)
  have hgl : g < w.heap.size := hM.lt
  have hsb : bs ≠ g := hM.ne hS (by decide)
  have HX := Aside0.mk hx
  have HN := Aside0.mk hn
  clear hvn hM hW hS hT hd hl hx hn
  go_enter Tryd.func84, Tryd.ntmps84
  go_wp2_with fail
  refine (kernel_yes x HX.out R HN.out _ HT.out).mono ?_
  rintro e w1 ⟨p, b, g0, c0, g1, c1, rfl, hk, hb, l1, l2, l3, l4⟩
  have HK := Aside0.mk hk
  have HF := Aside0.mk (Fr.of_below hb [g])
  have HM1 := Aside0.mk (show Mr w1 g c (vfold xs x d (fun i => i) (fun _ => C) R 0) from HM.out.below hb)
  have HSb := Aside0.mk (HSb0.out.below hb)
  have n0 : g ≠ g0 := by omega
  have n1 : g ≠ g1 := by omega
  clear hk hb l1 l2 l3 l4 HM HSb0
  go_wp2
  go_loopw [12, 13] (fun v12 v13 wr => ∃ i : Nat, v12 = .int .i64 0 ∧ v13 = .int .i64 i ∧ i ≤ C ∧ Aside0 (Mr wr g c (vfold xs x d (fun i => i) (fun _ => C) R i)) ∧ Aside0 (Fr w wr [g]) ∧ Aside0 (Ker wr p b g0 c0 g1 c1 x R) ∧ Aside0 (Bk wr bs 23 [.int .i64 (R : Int), .int .i64 (C : Int)])) (fun _ v13 _ => C - (intOf v13).toNat)
  case atStart => exact ⟨0, rfl, rfl, Nat.zero_le _, HM1, HF, HK, HSb⟩
  case round =>
    clear HM1 HF HK HSb
    obtain ⟨i, rfl, rfl, hi, HM, HF, HK, HSb⟩ := hrel
    have hib : C ≤ 1048576 := by
      have h1 := HRC.out
      have : C ≤ R * C := Nat.le_mul_of_pos_left _ (by have := HN.out; have := Nat.two_pow_pos x; omega)
      omega
    by_cases h1 : i < C
    · have hia : (i : Int) < (C : Int) := by omega
      go_wp2_with fail
      refine (cview_calls i R C bs _ HSb.out).mono ?_
      rintro e w2 ⟨rfl, hb⟩
      have HM2 := Aside0.mk (HM.out.below hb)
      have HF2 := Aside0.mk (HF.out.trans (Fr.of_below hb [g]))
      have HK2 := Aside0.mk (HK.out.below hb)
      have HSb2 := Aside0.mk (HSb.out.below hb)
      clear hb HM HF HK HSb
      go_wp2_with fail
      have hr := vrun_calls p b g0 c0 g1 c1 x R g c (vfold xs x d (fun i => i) (fun _ => C) R i) d HD.out ((fun i => i) i) ((fun _ => C) i) _ HK2.out HM2.out (vfold_ws HW.out _ _ _ _ _ _) (by rw [vfold_len]; exact HV.out i h1) (by rw [vfold_len]; exact hL) n0 n1
      rw [vfold_len] at hr
      refine hr.mono ?_
      clear hr
      rintro e w3 ⟨rfl, hm, hf⟩
      have HM3 := Aside0.mk (show Mr w3 g c (vfold xs x d (fun i => i) (fun _ => C) R (i + 1)) from hm)
      have HF3 := Aside0.mk (HF2.out.trans hf)
      have HK3 := Aside0.mk (HK2.out.keep HM2.out n0 n1 hf)
      have HSb3 := Aside0.mk (HSb2.out.fr hf (by simpa using hsb))
      clear hm hf HM2 HF2 HK2 HSb2
      go_wp2
      go_roundw
      case rel => exact ⟨i + 1, rfl, by go_num, by omega, HM3, HF3, HK3, HSb3⟩
      case measure => simp [intOf]; omega
    · obtain rfl : i = C := by omega
      have hia : decide ((i : Int) < (i : Int)) = false := decide_eq_false (by omega)
      go_wp2
      go_ret
      exact ⟨rfl, HM.out, HF.out⟩
end Go.Proofs.YtpnkcjnemoompaaDoor.Kern
end
section
set_option linter.unusedVariables false
set_option linter.unusedSimpArgs false
namespace Go.Proofs.YtpnkcjnemoompaaDoor.Pure
open Go.RowKit Go.Proofs.YtpnkcjnemoompaaDoor Go.Proofs.YtpnkcjnemoompaaDoor.PPlan Go.Proofs.YtpnkcjnemoompaaDoor.PFft Go.Proofs.YtpnkcjnemoompaaDoor.Ext Go.Proofs.YtpnkcjnemoompaaDoorW.PrintWords Go.Proofs.YtpnkcjnemoompaaDoorW.PrintLast Go.Proofs.YtpnkcjnemoompaaDoorW.PrintMore
def GoodS (r c : Int) : Prop := ∃ a b, a + b ≤ 32 ∧ Pw r a ∧ Pw c b
theorem good_yes (r c : Int) (h : GoodS r c) : shape_Good.f r c = some true := by
  obtain ⟨a, b, h1, h2, h3⟩ := h
  unfold shape_Good.f
  rw [h2.2, h3.2, fits_yes a h2.1, fits_yes b h3.1]
  simp only [Option.bind_some, if_true]
  rw [wrap_i _ (by omega) (by omega), decide_eq_true (by omega)]
theorem good_no (r c : Int) (h : ¬ GoodS r c) : shape_Good.f r c = some false := by
  unfold shape_Good.f
  rcases pw_cases r with ⟨a, ha⟩ | ha
  · rcases pw_cases c with ⟨b, hb⟩ | hb
    · have hab : ¬ a + b ≤ 32 := fun hle => h ⟨a, b, hle, ha, hb⟩
      have h1 := ha.1
      have h2 := hb.1
      rw [ha.2, hb.2, fits_yes a ha.1, fits_yes b hb.1]
      simp only [Option.bind_some, if_true]
      rw [wrap_i _ (by omega) (by omega), decide_eq_false (by omega)]
    · rw [fits_no c hb, ha.2, fits_yes a ha.1]
      simp only [Option.bind_some, if_true, Bool.false_eq_true, if_false]
  · rw [fits_no r ha]
    rcases pw_cases c with ⟨b, hb⟩ | hb
    · rw [hb.2, fits_yes b hb.1]; simp only [Option.bind_some, Bool.false_eq_true, if_false]
    · rw [fits_no c hb]; simp only [Option.bind_some, Bool.false_eq_true, if_false]
theorem rgood_yes (r c : Int) (h : GoodS r c) : Ev (fun k => abacistref06_Good.f k r c) true := by
  obtain ⟨a, b, h1, h2, h3⟩ := h
  refine Ev.bind (rfits_yes r a h2) (Ev.bind (rfits_yes c b h3) (Ev_if (by omega) (Ev_if (by omega) (Ev_eq ?_))))
  rw [wrap_i _ (by omega) (by omega), decide_eq_true (by omega)]
theorem rgood_no (r c : Int) (h : ¬ GoodS r c) : Ev (fun k => abacistref06_Good.f k r c) false := by
  rcases pw_cases r with ⟨a, ha⟩ | ha
  · rcases pw_cases c with ⟨b, hb⟩ | hb
    · have hab : ¬ a + b ≤ 32 := fun hle => h ⟨a, b, hle, ha, hb⟩
      have h1 := ha.1
      have h2 := hb.1
      refine Ev.bind (rfits_yes r a ha) (Ev.bind (rfits_yes c b hb) (Ev_if (by omega) (Ev_if (by omega) (Ev_eq ?_))))
      rw [wrap_i _ (by omega) (by omega), decide_eq_false (by omega)]
    · exact Ev.bind (rfits_yes r a ha) (Ev.bind (rfits_no c hb) (Ev_if (by omega) (Ev_ifn (by omega) (Ev.now _))))
  · rcases pw_cases c with ⟨b, hb⟩ | hb
    · exact Ev.bind (rfits_no r ha) (Ev.bind (rfits_yes c b hb) (Ev_ifn (by omega) (Ev.now _)))
    · exact Ev.bind (rfits_no r ha) (Ev.bind (rfits_no c hb) (Ev_ifn (by omega) (Ev.now _)))
theorem good_ints {R C : Int} (h : GoodS R C) : ∃ a b : Nat, a + b ≤ 32 ∧ R = ((2 ^ a : Nat) : Int) ∧ C = ((2 ^ b : Nat) : Int) := by
  obtain ⟨a, b, hab, ha, hb⟩ := h
  exact ⟨a, b, hab, ha.2, hb.2⟩
theorem size_is (R C : Int) (h : GoodS R C) : shape_Size.f R C = some (R * C) := by
  obtain ⟨a, b, hab, rfl, rfl⟩ := good_ints h
  unfold shape_Size.f
  rw [good_yes _ _ h, Option.bind_some, if_pos rfl, ← Int.natCast_mul, ← Nat.pow_add]
  have := pow32 hab
  rw [wrap_i _ (by generalize 2 ^ (a + b) = y at *; omega) (by generalize 2 ^ (a + b) = y at *; omega)]
theorem direct_is (d : Int) : rows_direction.f d = some (decide (d = 0 ∨ d = 1)) := by
  unfold rows_direction.f
  by_cases h : d = 0
  · rw [if_pos h, decide_eq_true (.inl h)]
  · rw [if_neg h]
    by_cases h1 : d = 1
    · rw [decide_eq_true (.inr h1), h1]; rfl
    · rw [decide_eq_false (by omega)]
      congr 1
      exact beq_eq_false_iff_ne.2 h1
theorem check_j (d : Int) : Ev (fun k => rows_check.j0 k d false) (if d = 0 ∨ d = 1 then 0 else 18) := by
  refine Ev.step (f := fun _ => some (if d = 0 ∨ d = 1 then (0 : Int) else 18)) (fun k => ?_) (Ev.now _)
  simp only [rows_check.j0]
  rw [if_neg (by decide), direct_is, Option.bind_some]
  by_cases h : d = 0 ∨ d = 1
  · rw [decide_eq_true h, if_pos rfl, if_pos h]
  · rw [decide_eq_false h, if_neg (by decide), if_neg h]
theorem check_t (d : Int) : Ev (fun k => rows_check.j0 k d true) 19 := by
  refine Ev.step (f := fun _ => some (19 : Int)) (fun k => ?_) (Ev.now _)
  simp only [rows_check.j0]
  rw [if_pos trivial]
noncomputable def ckw (l : List Int) (R C d : Int) : Int := open Classical in if GoodS R C ∧ R * C = (l.length : Int) then (if d = 0 ∨ d = 1 then 0 else 18) else 19
theorem check_is (l : List Int) (R C d : Int) : Ev (fun k => rows_check.f k l R C d) (ckw l R C d) := by
  unfold rows_check.f ckw
  by_cases h : GoodS R C
  · refine Ev.bind (Ev_eq (good_yes R C h)) (Ev_if rfl (Ev.bind (Ev_eq (size_is R C h)) ?_))
    by_cases h2 : R * C = (l.length : Int)
    · rw [if_pos ⟨h, h2⟩, show ((l.length : Int) != R * C) = false by rw [bne_eq_false_iff_eq]; omega]
      exact check_j d
    · rw [if_neg (fun q => h2 q.2), show ((l.length : Int) != R * C) = true by rw [bne_iff_ne]; omega]
      exact check_t d
  · rw [if_neg (fun q => h q.1)]
    exact Ev.bind (Ev_eq (good_no R C h)) (Ev_ifn (by decide) (check_t d))
end Go.Proofs.YtpnkcjnemoompaaDoor.Pure
end
section
namespace Go.Proofs.YtpnkcjnemoompaaDoor.Kern
open Go.RowKit Go.Proofs.YtpnkcjnemoompaaDoor Go.Proofs.YtpnkcjnemoompaaDoor.Ext Go.Proofs.YtpnkcjnemoompaaDoor.PPlan Go.Proofs.YtpnkcjnemoompaaDoor.PFft Go.Proofs.YtpnkcjnemoompaaDoor.Pure Go.Proofs.YtpnkcjnemoompaaDoor.Obj Go.Proofs.YtpnkcjnemoompaaDoor.Fft Go.Proofs.YtpnkcjnemoompaaDoorW.PrintWords Go.Proofs.YtpnkcjnemoompaaDoorW.PrintLast Go.Proofs.YtpnkcjnemoompaaDoorW.PrintMore
set_option linter.unusedVariables false
set_option linter.unusedSimpArgs false
set_option maxRecDepth 100000
theorem rows_yes (R C a b g c : Nat) (xs : List Int) (d : Int) (hd : d = 0 ∨ d = 1) (ha : R = 2 ^ a) (hb : C = 2 ^ b) (hab : a + b ≤ 20) (hl : R * C = xs.length) (hW : Ws xs) (w : World) (hM : Mr w g c xs) (hT : TabOK w) :
    Calls Tryd.prog 41 #[.slice (some ⟨g, 0, none⟩) xs.length c, .agg #[.int .i64 (R : Int), .int .i64 (C : Int)], .int .i64 d] w fun e w' => e = .returned (.int .i64 0) ∧ Mr w' g c (vfold xs b d (fun i => i * C) (fun _ => 1) C R) ∧ Fr w w' [g] := by
  have hG : GoodS R C := ⟨a, b, by omega, ⟨by omega, by rw [ha]⟩, ⟨by omega, by rw [hb]⟩⟩
  have hL : xs.length ≤ 1048576 := by rw [← hl, ha, hb, ← Nat.pow_add]; exact pow20 hab
  have hC1 : 1 ≤ C := by rw [hb]; exact Nat.two_pow_pos b
  obtain ⟨k, hk⟩ := (check_is xs R C d).rounds
  have h0 : ckw xs R C d = 0 := by
    unfold ckw
    rw [if_pos ⟨hG, by rw [← Int.natCast_mul, hl]⟩, if_pos hd]
  rw [h0] at hk
  have HK := Aside0.mk hk
  have HD := Aside0.mk hd
  have HB := Aside0.mk (below_alloc (Below.refl w.heap.size w) (Obj.cells #[.int .i64 (R : Int), .int .i64 (C : Int)] 23))
  have HS := Aside0.mk (Bk.new w 23 [.int .i64 (R : Int), .int .i64 (C : Int)])
  have HM := Aside0.mk (hM.below HB.out)
  have HT := Aside0.mk (hT.below HB.out)
  have HW := Aside0.mk hW
  have HA := Aside0.mk ha
  have HBb := Aside0.mk hb
  have HLn := Aside0.mk hl
  obtain ⟨bs, hbs⟩ : ∃ z, z = w.heap.size := ⟨_, rfl⟩
  clear hk h0 hG hM hT hW hd ha hb hl
  go_enter Tryd.func41, Tryd.ntmps41
  go_wp2_with fail
  refine (rows_check.calls k (some ⟨g, 0, none⟩) c xs R C d 0 _ (In.of_mr HM.out (by omega)).r (In.of_mr HM.out (by omega)).c HK.out HT.out).mono ?_
  rintro e w1 ⟨rfl, hb⟩
  rw [← hbs] at HS ⊢
  have HB1 := Aside0.mk (below_then HB.out HB.out.size hb)
  have HM1 := Aside0.mk (HM.out.below hb)
  have HS1 := Aside0.mk (HS.out.below hb)
  have HT1 := Aside0.mk (HT.out.below hb)
  have u0 := HS1.out.cell 0
  have u1 := HS1.out.cell 1
  clear hb HM HS HT hbs
  go_wp2_with fail
  clear u0 u1
  refine (allR R C b g c bs xs d HD.out (by omega) HBb.out hC1 HLn.out hL HW.out _ HM1.out HS1.out HT1.out).mono ?_
  rintro e w2 ⟨rfl, hm, hf⟩
  have HM2 := Aside0.mk hm
  have HF2 := Aside0.mk ((Fr.of_below HB1.out [g]).trans hf)
  clear hm hf
  go_wp2
  go_ret
  exact ⟨rfl, HM2.out, HF2.out⟩
theorem cols_yes (R C a b g c : Nat) (xs : List Int) (d : Int) (hd : d = 0 ∨ d = 1) (ha : R = 2 ^ a) (hb : C = 2 ^ b) (hab : a + b ≤ 20) (hl : R * C = xs.length) (hW : Ws xs) (w : World) (hM : Mr w g c xs) (hT : TabOK w) :
    Calls Tryd.prog 42 #[.slice (some ⟨g, 0, none⟩) xs.length c, .agg #[.int .i64 (R : Int), .int .i64 (C : Int)], .int .i64 d] w fun e w' => e = .returned (.int .i64 0) ∧ Mr w' g c (vfold xs a d (fun i => i) (fun _ => C) R C) ∧ Fr w w' [g] := by
  have hG : GoodS R C := ⟨a, b, by omega, ⟨by omega, by rw [ha]⟩, ⟨by omega, by rw [hb]⟩⟩
  have hL : xs.length ≤ 1048576 := by rw [← hl, ha, hb, ← Nat.pow_add]; exact pow20 hab
  have hC1 : 1 ≤ C := by rw [hb]; exact Nat.two_pow_pos b
  obtain ⟨k, hk⟩ := (check_is xs R C d).rounds
  have h0 : ckw xs R C d = 0 := by
    unfold ckw
    rw [if_pos ⟨hG, by rw [← Int.natCast_mul, hl]⟩, if_pos hd]
  rw [h0] at hk
  have HK := Aside0.mk hk
  have HD := Aside0.mk hd
  have HB := Aside0.mk (below_alloc (Below.refl w.heap.size w) (Obj.cells #[.int .i64 (R : Int), .int .i64 (C : Int)] 23))
  have HS := Aside0.mk (Bk.new w 23 [.int .i64 (R : Int), .int .i64 (C : Int)])
  have HM := Aside0.mk (hM.below HB.out)
  have HT := Aside0.mk (hT.below HB.out)
  have HW := Aside0.mk hW
  have HA := Aside0.mk ha
  have HBb := Aside0.mk hb
  have HLn := Aside0.mk hl
  obtain ⟨bs, hbs⟩ : ∃ z, z = w.heap.size := ⟨_, rfl⟩
  clear hk h0 hG hM hT hW hd ha hb hl
  go_enter Tryd.func42, Tryd.ntmps42
  go_wp2_with fail
  refine (rows_check.calls k (some ⟨g, 0, none⟩) c xs R C d 0 _ (In.of_mr HM.out (by omega)).r (In.of_mr HM.out (by omega)).c HK.out HT.out).mono ?_
  rintro e w1 ⟨rfl, hb⟩
  rw [← hbs] at HS ⊢
  have HB1 := Aside0.mk (below_then HB.out HB.out.size hb)
  have HM1 := Aside0.mk (HM.out.below hb)
  have HS1 := Aside0.mk (HS.out.below hb)
  have HT1 := Aside0.mk (HT.out.below hb)
  have u0 := HS1.out.cell 0
  have u1 := HS1.out.cell 1
  clear hb HM HS HT hbs
  go_wp2_with fail
  clear u0 u1
  refine (allC R C a g c bs xs d HD.out (by omega) HA.out hC1 HLn.out hL HW.out _ HM1.out HS1.out HT1.out).mono ?_
  rintro e w2 ⟨rfl, hm, hf⟩
  have HM2 := Aside0.mk hm
  have HF2 := Aside0.mk ((Fr.of_below HB1.out [g]).trans hf)
  clear hm hf
  go_wp2
  go_ret
  exact ⟨rfl, HM2.out, HF2.out⟩
end Go.Proofs.YtpnkcjnemoompaaDoor.Kern
end
section
set_option linter.unusedVariables false
set_option linter.unusedSimpArgs false
namespace Go.Proofs.YtpnkcjnemoompaaDoor.Fft
open Go.RowKit Go.Proofs.YtpnkcjnemoompaaDoor Go.Proofs.YtpnkcjnemoompaaDoor.Pure Go.Proofs.YtpnkcjnemoompaaDoor.PPlan Go.Proofs.YtpnkcjnemoompaaDoor.PFft Go.Proofs.YtpnkcjnemoompaaDoor.Ext Go.Proofs.YtpnkcjnemoompaaDoorW.PrintWords Go.Proofs.YtpnkcjnemoompaaDoorW.PrintLast Go.Proofs.YtpnkcjnemoompaaDoorW.PrintMore
theorem mulc (a b : Nat) (h : a * b ≤ 9223372036854775807) : wrap64 ((a : Int) * (b : Int)) = ((a * b : Nat) : Int) := by
  rw [← Int.natCast_mul, wrap_i _ (by omega) (by omega)]
def tl (n : Nat) (g : Nat → Int) : List Int := (List.range n).map g
theorem tl_len (n : Nat) (g : Nat → Int) : (tl n g).length = n := by simp [tl]
theorem tl_zero (g : Nat → Int) : tl 0 g = [] := rfl
theorem tl_succ (n : Nat) (g : Nat → Int) : tl (n + 1) g = tl n g ++ [g n] := by simp [tl, List.range_succ]
theorem tl_get {n : Nat} (g : Nat → Int) {i : Nat} (h : i < n) : (tl n g).getD i 0 = g i := by simp [tl, List.getD, h]
def tps (l : List Int) (R C : Nat) (t : Nat) : Int := l.getD ((t % R) * C + t / R) 0
theorem tps_at (l : List Int) (R C c r : Nat) (h : r < R) : tps l R C (c * R + r) = l.getD (r * C + c) 0 := by
  unfold tps
  rw [Nat.mul_comm c R, Nat.mul_add_mod, Nat.mod_eq_of_lt h, Nat.mul_add_div (by omega), Nat.div_eq_of_lt h, Nat.add_zero]
theorem gTpose_l1 (l : List Int) (R C c : Nat) (hc : c < C) (hC : C ≤ 1048576) (hRC : R * C = l.length) (hL : l.length ≤ 1048576) (res : List Int × Int) (m : Nat) : ∀ r, r + m = R →
    Ev (fun k => shape_Transpose.l0 k l (tl ((c + 1) * R) (tps l R C)) (C : Int) ((c + 1 : Nat) : Int) (R : Int) (C : Int)) res →
    Ev (fun k => shape_Transpose.l1 k l (tl (c * R + r) (tps l R C)) ((r * C + c : Nat) : Int) (C : Int) (c : Int) (R : Int) (C : Int)) res := by
  induction m with
  | zero =>
    intro r hr hres
    obtain rfl : r = R := by omega
    refine Ev.step (fun k => ?_) hres
    simp only [shape_Transpose.l1]
    rw [if_neg (by omega), wsucc c (by omega), Nat.add_mul, Nat.one_mul]
  | succ m ih =>
    intro r hr hres
    have h1 : (r + 1) * C ≤ R * C := Nat.mul_le_mul_right _ (by omega)
    have h2 : (c + 1) * R ≤ C * R := Nat.mul_le_mul_right _ (by omega)
    rw [Nat.mul_comm C R] at h2
    rw [Nat.add_mul, Nat.one_mul] at h1 h2
    refine Ev.step (f := fun k => shape_Transpose.l1 k l (tl (c * R + (r + 1)) (tps l R C)) (((r + 1) * C + c : Nat) : Int) (C : Int) (c : Int) (R : Int) (C : Int)) (fun k => ?_) (ih (r + 1) (by omega) hres)
    simp only [shape_Transpose.l1]
    rw [if_pos (by omega), if_pos (by omega), if_pos (by rw [tl_len]; omega), rdn, ← Nat.add_assoc (c * R), tl_succ, tps_at l R C c r (by omega)]
    rw [wrap_i _ (by omega) (by omega), Nat.add_mul, Nat.one_mul, show (((r * C + c : Nat) : Int) + (C : Int)) = ((r * C + C + c : Nat) : Int) by omega]
theorem gTpose_l0 (l : List Int) (R C : Nat) (hC : C ≤ 1048576) (hRC : R * C = l.length) (hL : l.length ≤ 1048576) (m : Nat) : ∀ c, c + m = C →
    Ev (fun k => shape_Transpose.l0 k l (tl (c * R) (tps l R C)) (C : Int) (c : Int) (R : Int) (C : Int)) (tl (C * R) (tps l R C), 0) := by
  induction m with
  | zero =>
    intro c hc
    obtain rfl : c = C := by omega
    refine Ev.step (f := fun _ => some _) (fun k => ?_) (Ev.now _)
    simp only [shape_Transpose.l0]
    rw [if_neg (by omega)]
  | succ m ih =>
    intro c hc
    have := gTpose_l1 l R C c (by omega) hC hRC hL _ R 0 (by omega) (ih (c + 1) (by omega))
    rw [Nat.zero_mul, Nat.zero_add, Nat.add_zero] at this
    refine Ev.step (fun k => ?_) this
    simp only [shape_Transpose.l0]
    rw [if_pos (by omega)]
theorem gTpose (l : List Int) (R C : Nat) (hG : GoodS R C) (hC : C ≤ 1048576) (hRC : R * C = l.length) (hL : l.length ≤ 1048576) :
    Ev (fun k => shape_Transpose.f k l (R : Int) (C : Int)) (tl (C * R) (tps l R C), 0) := by
  unfold shape_Transpose.f
  refine Ev.bind (a := true) (Ev_eq ?_) (Ev_if rfl (Ev_if (by omega) (Ev_if (by rw [Int.toNat_natCast]; omega) ?_)))
  · unfold shape_fits.f
    rw [good_yes _ _ hG, Option.bind_some, if_pos rfl, size_is _ _ hG, Option.bind_some, ← Int.natCast_mul, hRC, beq_self_eq_true]
  · have := gTpose_l0 l R C hC hRC hL C 0 (by omega)
    rw [Nat.zero_mul, tl_zero] at this
    exact this
end Go.Proofs.YtpnkcjnemoompaaDoor.Fft
end
section
namespace Go.Proofs.YtpnkcjnemoompaaDoor.Kern
open Go.RowKit Go.Proofs.YtpnkcjnemoompaaDoor Go.Proofs.YtpnkcjnemoompaaDoor.Ext Go.Proofs.YtpnkcjnemoompaaDoor.PPlan Go.Proofs.YtpnkcjnemoompaaDoor.PFft Go.Proofs.YtpnkcjnemoompaaDoor.Pure Go.Proofs.YtpnkcjnemoompaaDoor.Obj Go.Proofs.YtpnkcjnemoompaaDoor.Fft Go.Proofs.YtpnkcjnemoompaaDoorW.PrintWords Go.Proofs.YtpnkcjnemoompaaDoorW.PrintLast Go.Proofs.YtpnkcjnemoompaaDoorW.PrintMore
set_option linter.unusedVariables false
set_option linter.unusedSimpArgs false
theorem sct_miss (xs : List Int) (o s : Nat) (ws : List Int) (t : Nat) (n : Nat) (h : ∀ j, j < n → t ≠ o + j * s) : (sct xs o s ws n).getD t 0 = xs.getD t 0 := by
  induction n with
  | zero => rfl
  | succ n ih =>
    show ((sct xs o s ws n).set (o + n * s) (ws.getD n 0)).getD t 0 = _
    rw [List.getD_eq_getElem?_getD, List.getElem?_set_ne (Ne.symm (h n (by omega))), ← List.getD_eq_getElem?_getD]
    exact ih fun j hj => h j (by omega)
theorem sct_hit (xs : List Int) (o s : Nat) (ws : List Int) (hs : 1 ≤ s) (j : Nat) (n : Nat) (hj : j < n) (hin : o + j * s < xs.length) : (sct xs o s ws n).getD (o + j * s) 0 = ws.getD j 0 := by
  induction n with
  | zero => omega
  | succ n ih =>
    show ((sct xs o s ws n).set (o + n * s) (ws.getD n 0)).getD (o + j * s) 0 = _
    by_cases c : j = n
    · subst c
      rw [List.getD_eq_getElem?_getD, List.getElem?_set_self (by rw [sct_len]; exact hin)]
      rfl
    · have hne : o + n * s ≠ o + j * s := by
        intro e
        have : n * s = j * s := by omega
        exact c (Nat.eq_of_mul_eq_mul_right (by omega) this).symm
      rw [List.getD_eq_getElem?_getD, List.getElem?_set_ne hne, ← List.getD_eq_getElem?_getD]
      exact ih (by omega)
theorem vrun_hit (xs : List Int) (x : Nat) (d : Int) (o s n : Nat) (hn : n = 2 ^ x) (hs : 1 ≤ s) (j : Nat) (hj : j < n) (hin : o + j * s < xs.length) : (vrun xs x d o s n).getD (o + j * s) 0 = fv (tr x d (fun i => el xs (o + i * s)) j) := by
  unfold vrun
  rw [sct_hit _ _ _ _ hs j n hj hin, tb_get _ hj]
  exact congrArg fv (tr_congr (fun i hi => el_gat xs o s (by omega)) j)
theorem vrun_miss (xs : List Int) (x : Nat) (d : Int) (o s n : Nat) (t : Nat) (h : ∀ j, j < n → t ≠ o + j * s) : (vrun xs x d o s n).getD t 0 = xs.getD t 0 := sct_miss _ _ _ _ _ _ h
theorem plc_inj {R C r c r' c' : Nat} (hc : c < C) (hc' : c' < C) (h : r * C + c = r' * C + c') : r = r' ∧ c = c' := by
  have h1 : (r * C + c) % C = (r' * C + c') % C := by rw [h]
  have h2 : (r * C + c) / C = (r' * C + c') / C := by rw [h]
  rw [Nat.mul_comm r, Nat.mul_comm r', Nat.mul_add_mod, Nat.mul_add_mod, Nat.mod_eq_of_lt hc, Nat.mod_eq_of_lt hc'] at h1
  rw [Nat.mul_comm r, Nat.mul_comm r', Nat.mul_add_div (by omega), Nat.mul_add_div (by omega), Nat.div_eq_of_lt hc, Nat.div_eq_of_lt hc'] at h2
  exact ⟨h2, h1⟩
theorem plc_lt {R C r c : Nat} (hr : r < R) (hc : c < C) : r * C + c < R * C := by
  have : (r + 1) * C ≤ R * C := Nat.mul_le_mul_right _ hr
  rw [Nat.add_mul, Nat.one_mul] at this
  omega
theorem cols_get (xs : List Int) (a : Nat) (d : Int) (R C : Nat) (hR : R = 2 ^ a) (hl : R * C = xs.length) (i : Nat) (hi : i ≤ C) : ∀ r c, r < R → c < C →
    (vfold xs a d (fun i => i) (fun _ => C) R i).getD (r * C + c) 0 = if c < i then fv (tr a d (fun r' => el xs (r' * C + c)) r) else xs.getD (r * C + c) 0 := by
  induction i with
  | zero => intro r c hr hc; rw [if_neg (by omega)]; rfl
  | succ i ih =>
    intro r c hr hc
    show (vrun (vfold xs a d (fun i => i) (fun _ => C) R i) a d i C R).getD (r * C + c) 0 = _
    by_cases e : c = i
    · subst e
      rw [if_pos (by omega), Nat.add_comm (r * C), vrun_hit _ _ _ _ _ _ hR (by omega) r hr (by rw [vfold_len, ← hl, Nat.add_comm]; exact plc_lt hr hc)]
      refine congrArg fv (tr_congr (fun r' hr' => ?_) r)
      unfold el
      rw [Nat.add_comm c, ih (by omega) r' c (by omega) hc, if_neg (by omega)]
    · rw [vrun_miss _ _ _ _ _ _ _ (fun j hj => by
        intro h
        rw [Nat.add_comm i] at h
        exact e (plc_inj (R := R) hc (by omega) h).2), ih (by omega) r c hr hc]
      by_cases e2 : c < i
      · rw [if_pos e2, if_pos (by omega)]
      · rw [if_neg e2, if_neg (by omega)]
theorem rows_get (xs : List Int) (b : Nat) (d : Int) (R C : Nat) (hC : C = 2 ^ b) (hl : R * C = xs.length) (i : Nat) (hi : i ≤ R) : ∀ r c, r < R → c < C →
    (vfold xs b d (fun i => i * C) (fun _ => 1) C i).getD (r * C + c) 0 = if r < i then fv (tr b d (fun c' => el xs (r * C + c')) c) else xs.getD (r * C + c) 0 := by
  induction i with
  | zero => intro r c hr hc; rw [if_neg (by omega)]; rfl
  | succ i ih =>
    intro r c hr hc
    show (vrun (vfold xs b d (fun i => i * C) (fun _ => 1) C i) b d (i * C) 1 C).getD (r * C + c) 0 = _
    by_cases e : r = i
    · subst e
      have := vrun_hit (vfold xs b d (fun i => i * C) (fun _ => 1) C r) b d (r * C) 1 C hC (by omega) c hc (by rw [vfold_len, ← hl, Nat.mul_one]; exact plc_lt hr hc)
      rw [Nat.mul_one] at this
      rw [if_pos (by omega), this]
      refine congrArg fv (tr_congr (fun c' hc' => ?_) c)
      unfold el
      rw [Nat.mul_one, ih (by omega) r c' hr (by omega), if_neg (by omega)]
    · rw [vrun_miss _ _ _ _ _ _ _ (fun j hj => by
        intro h
        rw [Nat.mul_one] at h
        exact e (plc_inj (R := R) hc hj h).1), ih (by omega) r c hr hc]
      by_cases e2 : r < i
      · rw [if_pos e2, if_pos (by omega)]
      · rw [if_neg e2, if_neg (by omega)]
theorem rows_at (xs : List Int) (b : Nat) (d : Int) (R C : Nat) (hC : C = 2 ^ b) (hl : R * C = xs.length) (r c : Nat) (hr : r < R) (hc : c < C) : (vfold xs b d (fun i => i * C) (fun _ => 1) C R).getD (r * C + c) 0 = fv (tr b d (fun c' => el xs (r * C + c')) c) := by
  rw [rows_get xs b d R C hC hl R (Nat.le_refl _) r c hr hc, if_pos hr]
end Go.Proofs.YtpnkcjnemoompaaDoor.Kern
end
section
namespace Go.Proofs.YtpnkcjnemoompaaDoor.Kern
open Go.RowKit Go.Proofs.YtpnkcjnemoompaaDoor Go.Proofs.YtpnkcjnemoompaaDoor.Ext Go.Proofs.YtpnkcjnemoompaaDoor.PPlan Go.Proofs.YtpnkcjnemoompaaDoor.PFft Go.Proofs.YtpnkcjnemoompaaDoor.Pure Go.Proofs.YtpnkcjnemoompaaDoor.Obj Go.Proofs.YtpnkcjnemoompaaDoor.Fft Go.Proofs.YtpnkcjnemoompaaDoorW.PrintWords Go.Proofs.YtpnkcjnemoompaaDoorW.PrintLast Go.Proofs.YtpnkcjnemoompaaDoorW.PrintMore
set_option linter.unusedVariables false
set_option linter.unusedSimpArgs false
set_option maxRecDepth 100000
theorem one_ws : Ws [1, 0, 0, 0] := Ws.of (by decide)
end Go.Proofs.YtpnkcjnemoompaaDoor.Kern
end
section
set_option linter.unusedVariables false
set_option linter.unusedSimpArgs false
namespace Go.Proofs.YtpnkcjnemoompaaDoor.Pure
open Go.RowKit Go.Proofs.YtpnkcjnemoompaaDoor Go.Proofs.YtpnkcjnemoompaaDoor.PPlan Go.Proofs.YtpnkcjnemoompaaDoor.PFft Go.Proofs.YtpnkcjnemoompaaDoor.Ext Go.Proofs.YtpnkcjnemoompaaDoorW.PrintWords Go.Proofs.YtpnkcjnemoompaaDoorW.PrintLast Go.Proofs.YtpnkcjnemoompaaDoorW.PrintMore
theorem rd_nat (l : List Int) (i : Nat) : rd l (i : Int) = l.getD i 0 := by unfold rd; rw [Int.toNat_natCast]
theorem next_i (i n : Nat) (h : i < n) (hn : n ≤ 9223372036854775807) : wrap64 ((i : Int) + 1) = ((i + 1 : Nat) : Int) := by unfold wrap64; omega
theorem getD_lt (l : List Int) (i : Nat) (h : i < l.length) : l.getD i 0 = l[i] := by simp [List.getD, h]
theorem same_loop (a b : List Int) (hl : a.length = b.length) (hn : a.length ≤ 9223372036854775807) (d : Nat) : ∀ i : Nat, i + d = a.length → (∀ j, j < i → a.getD j 0 = b.getD j 0) →
    Ev (fun k => abacistref04_Same.l0 k a b (i : Int)) (decide (a = b)) := by
  induction d with
  | zero =>
    intro i hi hj
    refine Ev.step (f := fun _ => some true) (fun k => ?_) ?_
    · simp only [abacistref04_Same.l0]
      rw [if_neg (by omega)]
    · have e : a = b := List.ext_getElem hl fun j h1 h2 => by
        have := hj j (by omega)
        rw [getD_lt _ _ h1, getD_lt _ _ h2] at this
        exact this
      rw [decide_eq_true e]
      exact Ev.now _
  | succ d ih =>
    intro i hi hj
    have e1 := next_i i a.length (by omega) hn
    by_cases c : a.getD i 0 = b.getD i 0
    · refine Ev.step (f := fun k => abacistref04_Same.l0 k a b ((i + 1 : Nat) : Int)) (fun k => ?_) (ih (i + 1) (by omega) fun j hj2 => ?_)
      · simp only [abacistref04_Same.l0]
        rw [if_pos (by omega), if_pos (by omega), if_pos (by omega), rd_nat, rd_nat, if_pos c, e1]
      · by_cases c2 : j = i
        · subst c2; exact c
        · exact hj j (by omega)
    · refine Ev.step (f := fun _ => some false) (fun k => ?_) ?_
      · simp only [abacistref04_Same.l0]
        rw [if_pos (by omega), if_pos (by omega), if_pos (by omega), rd_nat, rd_nat, if_neg c]
      · rw [decide_eq_false (fun h => c (by rw [h]))]
        exact Ev.now _
theorem same_ (a b : List Int) (hn : a.length ≤ 9223372036854775807) : Ev (fun k => abacistref04_Same.f k a b) (decide (a = b)) := by
  unfold abacistref04_Same.f
  by_cases c : a.length = b.length
  · exact Ev_if (by omega) (same_loop a b c hn a.length 0 (by omega) fun j h => by omega)
  · refine Ev_ifn (by omega) ?_
    rw [decide_eq_false (fun h => c (by rw [h]))]
    exact Ev.now _
theorem same_yes (a b : List Int) (hn : a.length ≤ 9223372036854775807) (h : a = b) : Ev (fun k => abacistref04_Same.f k a b) true := by
  have := same_ a b hn
  rwa [decide_eq_true h] at this
end Go.Proofs.YtpnkcjnemoompaaDoor.Pure
end
section
namespace Go.Proofs.YtpnkcjnemoompaaDoor.Kern
open Go.RowKit Go.Proofs.YtpnkcjnemoompaaDoor Go.Proofs.YtpnkcjnemoompaaDoor.Ext Go.Proofs.YtpnkcjnemoompaaDoor.PPlan Go.Proofs.YtpnkcjnemoompaaDoor.PFft Go.Proofs.YtpnkcjnemoompaaDoor.Pure Go.Proofs.YtpnkcjnemoompaaDoor.Obj Go.Proofs.YtpnkcjnemoompaaDoor.Fft Go.Proofs.YtpnkcjnemoompaaDoorW.PrintWords Go.Proofs.YtpnkcjnemoompaaDoorW.PrintLast Go.Proofs.YtpnkcjnemoompaaDoorW.PrintMore
set_option linter.unusedVariables false
set_option linter.unusedSimpArgs false
set_option maxRecDepth 100000
theorem In.of {w : World} {a : Option Addr} {len cap : Nat} {z : List Int} (h : (a = none ∧ len = 0 ∧ cap = 0 ∧ z = []) ∨ ∃ x, a = some x ∧ len ≤ cap ∧ cap ≤ maxLen ∧ z.length = cap ∧ (∀ i, i < z.length → w.cell? (x.add i) = some (.int .u64 (z.getD i 0))) ∧ ∀ n ∈ z, (Lit.int .u64 n).wf = true) : ∃ l : List Int, len = l.length ∧ In w a cap l ∧ Ws l := by
  obtain ⟨l, rfl, hr, hm, hw, hc⟩ := ReadsInt.ofRowC h
  exact ⟨l, rfl, ⟨Kd.C_of_reads (d := (0 : Int)) (h1 := fun _ => rfl) hr, hc⟩, Ws.of hw⟩
theorem In.drawn {w w' : World} {A : Option Addr} {c : Nat} {l : List Int} (h : In w A c l) (hd : Drawn0 w w') : In w' A c l := h.below hd.below
theorem same_calls (A B : Option Addr) (c c' : Nat) (a b : List Int) (w : World) (ha : In w A c a) (hb : In w B c' b) (hn : a.length ≤ 1048576) (h : a = b) :
    Calls Tryd.prog 19 #[.slice A a.length c, .slice B b.length c'] w fun e w' => e = .returned (.bool true) ∧ Drawn0 w w' := by
  obtain ⟨k, hk⟩ := (same_yes a b (by omega) h).rounds
  exact abacistref04_Same.calls k A c a B c' b true w ha.r ha.c hb.r hb.c hk
end Go.Proofs.YtpnkcjnemoompaaDoor.Kern
end
section
namespace Go.Proofs.YtpnkcjnemoompaaDoor.Grid
open Go.RowKit Go.Proofs.YtpnkcjnemoompaaDoor Go.Proofs.YtpnkcjnemoompaaDoor.Ext Go.Proofs.YtpnkcjnemoompaaDoor.PPlan Go.Proofs.YtpnkcjnemoompaaDoor.PFft Go.Proofs.YtpnkcjnemoompaaDoor.Pure Go.Proofs.YtpnkcjnemoompaaDoor.Obj Go.Proofs.YtpnkcjnemoompaaDoor.Fft Go.Proofs.YtpnkcjnemoompaaDoor.Kern Go.Proofs.YtpnkcjnemoompaaDoorW.PrintWords Go.Proofs.YtpnkcjnemoompaaDoorW.PrintLast Go.Proofs.YtpnkcjnemoompaaDoorW.PrintMore
set_option linter.unusedVariables false
set_option linter.unusedSimpArgs false
set_option maxRecDepth 100000
theorem Mr.drw {w : World} {g c : Nat} {xs : List Int} (h : Mr w g c xs) : Mr w.drew g c xs := Mr.below h (below_drew1 (Below.refl _ _))
structure Gd (w : World) (p g c : Nat) (R C : Int) (xs : List Int) : Prop where
  obj : Bk w p 35 [.int .i64 R, .int .i64 C, .slice (some ⟨g, 0, none⟩) xs.length c]
  row : Mr w g c xs
theorem Gd.fr {w w' : World} {S : List Nat} {p g c : Nat} {R C : Int} {xs : List Int} (h : Gd w p g c R C xs) (hf : Fr w w' S) (h1 : p ∉ S) (h2 : g ∉ S) : Gd w' p g c R C xs := ⟨h.obj.fr hf h1, h.row.fr hf h2⟩
theorem Gd.below {w w' : World} {p g c : Nat} {R C : Int} {xs : List Int} (h : Gd w p g c R C xs) (hb : Below w.heap.size w w') : Gd w' p g c R C xs := ⟨h.obj.below hb, h.row.below hb⟩
theorem Gd.drew {w : World} {p g c : Nat} {R C : Int} {xs : List Int} (h : Gd w p g c R C xs) : Gd w.drew p g c R C xs := h.below (below_drew1 (Below.refl _ _))
theorem Gd.lp {w : World} {p g c : Nat} {R C : Int} {xs : List Int} (h : Gd w p g c R C xs) : p < w.heap.size := h.obj.lt
theorem Gd.lg {w : World} {p g c : Nat} {R C : Int} {xs : List Int} (h : Gd w p g c R C xs) : g < w.heap.size := h.row.lt
theorem Gd.ne {w : World} {p g c : Nat} {R C : Int} {xs : List Int} (h : Gd w p g c R C xs) : p ≠ g := h.row.ne h.obj (by decide)
theorem Gd.c0 {w : World} {p g c : Nat} {R C : Int} {xs : List Int} (h : Gd w p g c R C xs) : w.cell? ⟨p, 0, none⟩ = some (.int .i64 R) := h.obj.cell 0
theorem Gd.c1 {w : World} {p g c : Nat} {R C : Int} {xs : List Int} (h : Gd w p g c R C xs) : w.cell? ⟨p, 1, none⟩ = some (.int .i64 C) := h.obj.cell 1
theorem Gd.c2 {w : World} {p g c : Nat} {R C : Int} {xs : List Int} (h : Gd w p g c R C xs) : w.cell? ⟨p, 2, none⟩ = some (.slice (some ⟨g, 0, none⟩) xs.length c) := h.obj.cell 2
structure Apart (p g q h : Nat) : Prop where
  pq : p ≠ q
  gh : g ≠ h
  ph : p ≠ h
  gq : g ≠ q
def can (l : List Int) : List Int := tb l.length fun i => el l i * fo 1
theorem can_is (l : List Int) : can l = tb l.length (el l) := tb_congr fun i _ => by rw [fo_one]; grobner
theorem can_len (l : List Int) : (can l).length = l.length := tb_len _ _
theorem can_ws (l : List Int) : Ws (can l) := tb_ws _ _
set_option maxHeartbeats 4000000 in
theorem gnew_yes (A : Option Addr) (c : Nat) (l : List Int) (R C : Int) (w : World) (hl : In w A c l) (hW : Ws l) (hL : l.length ≤ 1048576) (hp : 0 < l.length) (hg : GoodS R C) (hs : R * C = (l.length : Int)) (hT : TabOK w) :
    Calls Tryd.prog 16 #[.agg #[.int .i64 R, .int .i64 C], .slice A l.length c] w fun e w' => ∃ p g cg, e = .returned (.tuple #[.pointer (some ⟨p, 0, none⟩), .int .i64 0]) ∧ Gd w' p g cg R C (can l) ∧ Below w.heap.size w w' ∧ w.heap.size ≤ p ∧ w.heap.size ≤ g := by
  have HT0 := Aside0.mk hT
  have HB0 := Aside0.mk (below_alloc (Below.refl w.heap.size w) (Obj.cells #[.int .i64 R, .int .i64 C] 23))
  have HS0 := Aside0.mk (Bk.new w 23 [.int .i64 R, .int .i64 C])
  have HLw := Aside0.mk hl
  have HG := Aside0.mk (good_yes R C hg)
  have hz := size_is R C hg
  rw [hs] at hz
  have HZ := Aside0.mk hz
  obtain ⟨k, hk⟩ := (gScale l hW 1 ⟨by decide, by decide⟩ hL).rounds
  have HK := Aside0.mk (show twid_Scale.f k l 1 = some (can l) from hk)
  have d1 : ((l.length : Int) != (l.length : Int)) = false := by simp
  have d2 : decide ((1048576 : Int) < (l.length : Int)) = false := decide_eq_false (by omega)
  have hcl := can_len l
  obtain ⟨bs, hbs⟩ : ∃ z, z = w.heap.size := ⟨_, rfl⟩
  have hbg : w.heap.size ≤ bs := by omega
  clear hT hl hW hg hs hz hk
  go_enter Tryd.func16, Tryd.ntmps16
  go_wp2_with fail
  with_reducible refine (shape_Good.calls R C true _ HG.out (HT0.out.below HB0.out)).mono ?_
  rintro e w1 ⟨rfl, hb⟩
  rw [← hbs] at HS0 ⊢
  clear hbs
  have HB1 := Aside0.mk (below_then HB0.out HB0.out.size hb)
  have HS1 := Aside0.mk (HS0.out.below hb)
  have v0 := HS1.out.cell 0
  have v1 := HS1.out.cell 1
  clear hb HB0 HS0
  go_wp2_with fail
  clear v0 v1
  with_reducible refine (shape_Size.calls R C (l.length : Int) _ HZ.out (HT0.out.below HB1.out)).mono ?_
  rintro e w2 ⟨rfl, hb⟩
  have HB2 := Aside0.mk (below_then HB1.out HB1.out.size hb)
  have HS2 := Aside0.mk (HS1.out.below hb)
  clear hb HB1 HS1
  go_wp2_with fail
  refine start_ (n := 8) (S := fun w' => w'.cell? ⟨bs, 0, none⟩ = some (.int .i64 R) ∧ w'.cell? ⟨bs, 1, none⟩ = some (.int .i64 C) ∧ Aside0 (Below w.heap.size w w' ∧ Bk w' bs 23 [.int .i64 R, .int .i64 C])) (ds := []) #[false, false, false, false, false, false, false, false] (by kernel_rfl) rfl rfl ⟨HS2.out.drew.cell 0, HS2.out.drew.cell 1, ⟨below_drew1 HB2.out, HS2.out.drew⟩⟩ (fun hHeld => ?_)
  refine pure_ (i := 2) (N := some 23) (v := ?_) (a' := ?_) #[false, false, true, false, false, false, false, false] rfl rfl (by kernel_rfl) (fun _ _ _ h => h) (Or.inl ⟨by rfl, ?_⟩) ?_ ?_
  rotate_left
  · intro w'
    go_simp
    with_reducible rfl
  rotate_left
  · simp only [Act.put, List.setIfInBounds_toArray, List.set_cons_zero, List.set_cons_succ, i64_w, i32_w]
    rfl
  refine take_ (i := 0) (N := some 21) (v := ?_) (a' := ?_) #[true, false, true, false, false, false, false, false] rfl rfl (by kernel_rfl) (fun _ _ _ h => h) (Or.inl ⟨by rfl, ?_⟩) hHeld ?_ ?_
  rotate_left
  · rintro w' ⟨s0, s1, s2⟩
    go_simp
    with_reducible rfl
  rotate_left
  · simp only [Act.put, List.setIfInBounds_toArray, List.set_cons_zero, List.set_cons_succ, i64_w, i32_w]
    rfl
  refine pure_ (i := 1) (N := some 22) (v := ?_) (a' := ?_) #[true, true, true, false, false, false, false, false] rfl rfl (by kernel_rfl) (fun _ _ _ h => h) (Or.inl ⟨by rfl, ?_⟩) ?_ ?_
  rotate_left
  · intro w'
    go_simp
    with_reducible rfl
  rotate_left
  · simp only [Act.put, List.setIfInBounds_toArray, List.set_cons_zero, List.set_cons_succ, i64_w, i32_w]
    rfl
  refine one_ (i := 3) (N := some 24) #[true, true, true, true, false, false, false, false] rfl rfl (by kernel_rfl) (by decide) (fun K hK => ?_)
  refine goes_ Tryd.func70 (by kernel_rfl) rfl #[.slice A l.length c, .int .u64 1] (by rfl) rfl rfl (by simp only [List.map_toArray, List.map_cons, List.map_nil]; rfl) ?_
  with_reducible refine (twid_Scale.calls k A c l 1 (can l) _ (HLw.out.below hHeld.2.2.out.1).r (HLw.out.below hHeld.2.2.out.1).c HK.out).mono ?_
  rintro e w3 ⟨v, rfl, hR, hb⟩
  refine ⟨_, rfl, ?_⟩
  obtain ⟨g, cg, hv, hge, hm⟩ := Mr.of_R hR (by rw [hcl]; exact hp)
  subst hv
  have HM3 := Aside0.mk hm
  have HB3 := Aside0.mk (below_then hHeld.2.2.out.1 hHeld.2.2.out.1.size hb)
  have HS3 := Aside0.mk (hHeld.2.2.out.2.below hb)
  have HGe := Aside0.mk (show w.heap.size ≤ g by have := hHeld.2.2.out.1.size; omega)
  clear hHeld hR hb hge hm
  refine hK.out _ _ ⟨HS3.out.cell 0, HS3.out.cell 1, ⟨HB3.out, HS3.out⟩⟩ (fun hHeld => ?_)
  clear hK K
  refine norm_ (a' := ?_) ?_ ?_
  rotate_left
  · show Act.put _ (some 24) _ = _
    simp only [Act.put, List.setIfInBounds_toArray, List.set_cons_zero, List.set_cons_succ, i64_w, i32_w]
    rfl
  refine pure_ (i := 4) (N := some 25) (v := ?_) (a' := ?_) #[true, true, true, true, true, false, false, false] rfl rfl (by kernel_rfl) (fun _ _ _ h => h) (Or.inl ⟨by rfl, ?_⟩) ?_ ?_
  rotate_left
  · intro w'
    go_simp
    with_reducible rfl
  rotate_left
  · simp only [Act.put, List.setIfInBounds_toArray, List.set_cons_zero, List.set_cons_succ, i64_w, i32_w]
    rfl
  refine one_ (i := 5) (N := some 26) #[true, true, true, true, true, true, false, false] rfl rfl (by kernel_rfl) (by decide) (fun K hK => ?_)
  refine value_ (w1 := ?_) (v := ?_) (by rfl) rfl ?_ ?_
  rotate_left 2
  · go_simp
    constructor
    · rfl
    · rfl
  have HG4 : Aside0 (Gd (w3.alloc (Obj.cells #[.int .i64 R, .int .i64 C, .slice (some ⟨g, 0, none⟩) l.length cg] 35)) w3.heap.size g cg R C (can l)) := ⟨by rw [hcl]; exact Bk.new w3 35 [.int .i64 R, .int .i64 C, .slice (some ⟨g, 0, none⟩) l.length cg], HM3.out.below (below_alloc (Below.refl _ _) _)⟩
  have HB4 := Aside0.mk (below_alloc HB3.out (Obj.cells #[.int .i64 R, .int .i64 C, .slice (some ⟨g, 0, none⟩) l.length cg] 35))
  have HS4 := Aside0.mk (HS3.out.below (below_alloc (Below.refl _ _) (Obj.cells #[.int .i64 R, .int .i64 C, .slice (some ⟨g, 0, none⟩) l.length cg] 35)))
  clear hHeld
  refine hK.out _ _ ⟨HS4.out.cell 0, HS4.out.cell 1, ⟨HB4.out, HS4.out⟩⟩ (fun hHeld => ?_)
  clear hK K
  refine norm_ (a' := ?_) ?_ ?_
  rotate_left
  · show Act.put _ (some 26) _ = _
    simp only [Act.put, List.setIfInBounds_toArray, List.set_cons_zero, List.set_cons_succ, i64_w, i32_w]
    rfl
  refine pure_ (i := 6) (N := some 4) (v := ?_) (a' := ?_) #[true, true, true, true, true, true, true, false] rfl rfl (by kernel_rfl) (fun _ _ _ h => h) (Or.inl ⟨by rfl, ?_⟩) ?_ ?_
  rotate_left
  · intro w'
    go_simp
    with_reducible rfl
  rotate_left
  · simp only [Act.put, List.setIfInBounds_toArray, List.set_cons_zero, List.set_cons_succ, i64_w, i32_w]
    rfl
  refine pure_ (i := 7) (N := some 5) (v := ?_) (a' := ?_) #[true, true, true, true, true, true, true, true] rfl rfl (by kernel_rfl) (fun _ _ _ h => h) (Or.inl ⟨by rfl, ?_⟩) ?_ ?_
  rotate_left
  · intro w'
    go_simp
    with_reducible rfl
  rotate_left
  · simp only [Act.put, List.setIfInBounds_toArray, List.set_cons_zero, List.set_cons_succ, i64_w, i32_w]
    rfl
  refine done_ (by kernel_rfl) ?_
  clear hHeld
  go_wp2
  go_ret2
  exact ⟨_, _, _, rfl, HG4.out, HB4.out, HB3.out.size, HGe.out⟩
theorem gshape (p g c : Nat) (R C : Int) (xs : List Int) (w : World) (h : Gd w p g c R C xs) :
    Calls Tryd.prog 18 #[.pointer (some ⟨p, 0, none⟩)] w fun e w' => e = .returned (.agg #[.int .i64 R, .int .i64 C]) ∧ Below w.heap.size w w' := by
  have c0 := h.c0
  have c1 := h.c1
  have hlt := h.lp
  clear h
  go_enter Tryd.func18, Tryd.ntmps18
  go_wp2
  refine bodyPost_ret (v := .agg #[.int .i64 R, .int .i64 C]) (by simp [results, Tryd.results18, go_sem]) rfl ⟨rfl, ?_⟩
  exact below_alloc (Below.refl _ _) _
theorem clone_calls (g c : Nat) (xs : List Int) (w : World) (h : Mr w g c xs) (hp : 0 < xs.length) (hL : xs.length ≤ 1048576) :
    Calls Tryd.prog 71 #[.slice (some ⟨g, 0, none⟩) xs.length c] w fun e w' => ∃ h d, e = .returned (.slice (some ⟨h, 0, none⟩) xs.length d) ∧ Mr w' h d xs ∧ Below w.heap.size w w' ∧ w.heap.size ≤ h := by
  obtain ⟨i0, hi, hzz⟩ := Option.map_eq_some_iff.1 info_u64
  simp only [Prod.mk.injEq] at hzz
  obtain ⟨hz0, hz1, hz2⟩ := hzz
  have hc := Lay.slices_Clone i0 (.int .u64 0) 1 8 hi hz0 hz1 hz2 rfl (by decide) (fun _ => rfl) g 0 xs.length c (nums .u64 xs) w (by rw [nums_length, Nat.mul_one]) (by simp [maxLen]; omega) (by omega) (fun j u hj => by
    have hjl : j < xs.length := by
      have := (List.getElem?_eq_some_iff.1 hj).1
      rwa [nums_length] at this
    rw [Nat.zero_add, h.cell j hjl]
    rw [nums_at xs j hjl] at hj
    exact hj) (fun u hu => by
    obtain ⟨x, _, rfl⟩ := List.mem_map.1 hu
    rfl)
  refine hc.mono ?_
  rintro e w1 ⟨v, rfl, ho, hn, hb⟩
  obtain ⟨g1, c1, hv, hg1, hm⟩ := Mr.of_R (Kd.R_of_own (enc := Value.int .u64) (h1 := fun _ => rfl) (ok := fun _ => True) (xs := xs) ho (fun _ _ => trivial)) hp
  subst hv
  exact ⟨g1, c1, rfl, hm, hb, hg1⟩
theorem gwords (p g c : Nat) (R C : Int) (xs : List Int) (w : World) (h : Gd w p g c R C xs) (hp : 0 < xs.length) (hL : xs.length ≤ 1048576) :
    Calls Tryd.prog 20 #[.pointer (some ⟨p, 0, none⟩)] w fun e w' => ∃ h d, e = .returned (.slice (some ⟨h, 0, none⟩) xs.length d) ∧ Mr w' h d xs ∧ Below w.heap.size w w' ∧ w.heap.size ≤ h := by
  have c2 := h.c2
  have HX := Aside0.mk h.row
  clear h
  go_enter Tryd.func20, Tryd.ntmps20
  go_wp2_with fail
  with_reducible refine (clone_calls g c xs _ HX.out hp hL).mono ?_
  rintro e w1 ⟨g1, c1, rfl, hm, hb, hg⟩
  have HM1 := Aside0.mk hm
  have HB1 := Aside0.mk hb
  clear hm hb c2
  go_wp2
  go_ret
  exact ⟨_, _, rfl, HM1.out, HB1.out, hg⟩
end Go.Proofs.YtpnkcjnemoompaaDoor.Grid
end
section
namespace Go.Proofs.YtpnkcjnemoompaaDoor.Fft
set_option linter.unusedVariables false
set_option linter.unusedSimpArgs false
def tq (K : Nat) (d : Int) (f : Nat → F) (j : Nat) : F := dft (2 ^ K) (rut K d) f j * (if d = 1 then shf K else 1)
theorem tq_congr {K : Nat} {d : Int} {f g : Nat → F} (h : ∀ i, i < 2 ^ K → f i = g i) (j : Nat) : tq K d f j = tq K d g j := by unfold tq; rw [dft_congr h]
theorem tq_swap (a b : Nat) (d e : Int) (G : Nat → Nat → F) (i j : Nat) : tq b d (fun c => tq a e (fun r => G r c) i) j = tq a e (fun r => tq b d (fun c => G r c) j) i := by
  unfold tq dft
  have l : ∀ c, (sm (2 ^ a) fun r => G r c * pw (rut a e) (r * i)) * (if e = 1 then shf a else 1) * pw (rut b d) (c * j) = sm (2 ^ a) fun r => G r c * pw (rut a e) (r * i) * ((if e = 1 then shf a else 1) * pw (rut b d) (c * j)) := by
    intro c; rw [sm_mulr]; grobner
  have r : ∀ r, (sm (2 ^ b) fun c => G r c * pw (rut b d) (c * j)) * (if d = 1 then shf b else 1) * pw (rut a e) (r * i) = sm (2 ^ b) fun c => G r c * pw (rut b d) (c * j) * ((if d = 1 then shf b else 1) * pw (rut a e) (r * i)) := by
    intro r; rw [sm_mulr]; grobner
  rw [sm_congr (fun c _ => l c), sm_congr (fun r' _ => r r'), sm_swap, ← sm_mulr, ← sm_mulr]
  refine sm_congr fun r _ => ?_
  rw [← sm_mulr, ← sm_mulr]
  refine sm_congr fun c _ => ?_
  grobner
def t2 (a b : Nat) (d : Int) (f : Nat → F) (t : Nat) : F := tq a d (fun r => tq b d (fun c => f (r * 2 ^ b + c)) (t % 2 ^ b)) (t / 2 ^ b)
theorem dm (b r c : Nat) (h : c < 2 ^ b) : (r * 2 ^ b + c) / 2 ^ b = r ∧ (r * 2 ^ b + c) % 2 ^ b = c := by
  have h0 : 0 < 2 ^ b := Nat.two_pow_pos b
  rw [Nat.mul_comm]
  exact ⟨by rw [Nat.mul_add_div h0, Nat.div_eq_of_lt h, Nat.add_zero], by rw [Nat.mul_add_mod, Nat.mod_eq_of_lt h]⟩
theorem t2_at (a b : Nat) (d : Int) (f : Nat → F) (i j : Nat) (h : j < 2 ^ b) : t2 a b d f (i * 2 ^ b + j) = tq a d (fun r => tq b d (fun c => f (r * 2 ^ b + c)) j) i := by
  unfold t2
  obtain ⟨h1, h2⟩ := dm b i j h
  rw [h1, h2]
theorem plc (a b r c : Nat) (hr : r < 2 ^ a) (hc : c < 2 ^ b) : r * 2 ^ b + c < 2 ^ (a + b) := by
  rw [Nat.pow_add]
  have : (r + 1) * 2 ^ b ≤ 2 ^ a * 2 ^ b := Nat.mul_le_mul_right _ hr
  rw [Nat.add_mul, Nat.one_mul] at this
  omega
theorem parts (a b t : Nat) (h : t < 2 ^ (a + b)) : t / 2 ^ b < 2 ^ a ∧ t % 2 ^ b < 2 ^ b ∧ t / 2 ^ b * 2 ^ b + t % 2 ^ b = t := by
  have h0 : 0 < 2 ^ b := Nat.two_pow_pos b
  refine ⟨?_, Nat.mod_lt _ h0, by rw [Nat.mul_comm]; exact Nat.div_add_mod t _⟩
  rw [Nat.pow_add] at h
  exact (Nat.div_lt_iff_lt_mul h0).2 h
theorem t2_congr {a b : Nat} {d : Int} {f g : Nat → F} (h : ∀ i, i < 2 ^ (a + b) → f i = g i) (t : Nat) : t2 a b d f t = t2 a b d g t := by
  unfold t2
  exact tq_congr (fun r hr => tq_congr (fun c hc => h _ (plc a b r c hr hc)) _) _
theorem t2_sum (a b : Nat) (d : Int) (f : Nat → F) (t : Nat) :
    t2 a b d f t = sm (2 ^ (a + b)) (fun s => f s * (pw (rut a d) (t / 2 ^ b * (s / 2 ^ b)) * pw (rut b d) (t % 2 ^ b * (s % 2 ^ b)))) * (if d = 1 then shf (a + b) else 1) := by
  rw [Nat.pow_add, sm_rows, ← sm_mulr]
  unfold t2 tq dft
  rw [← sm_mulr]
  refine sm_congr fun r _ => ?_
  have e : (if d = 1 then shf (a + b) else 1) = (if d = 1 then shf b else 1) * (if d = 1 then shf a else (1 : F)) := by
    by_cases h : d = 1
    · simp only [if_pos h]; rw [shf_add]; grobner
    · simp only [if_neg h]; grobner
  rw [e]
  simp only []
  rw [← sm_mulr, ← sm_mulr, ← sm_mulr, ← sm_mulr]
  refine sm_congr fun c hc => ?_
  obtain ⟨e1, e2⟩ := dm b r c hc
  rw [e1, e2, Nat.mul_comm (t / 2 ^ b) r, Nat.mul_comm (t % 2 ^ b) c]
  grobner
theorem t2_turn (a b : Nat) (d : Int) (f g : Nat → F) (h : ∀ r c, r < 2 ^ a → c < 2 ^ b → g (c * 2 ^ a + r) = f (r * 2 ^ b + c)) (r c : Nat) (hr : r < 2 ^ a) (hc : c < 2 ^ b) :
    t2 b a d g (c * 2 ^ a + r) = t2 a b d f (r * 2 ^ b + c) := by
  rw [t2_at b a d g c r hr, t2_at a b d f r c hc]
  rw [tq_congr (g := fun c' => tq a d (fun r' => f (r' * 2 ^ b + c')) r) (fun c' hc' => tq_congr (fun r' hr' => h r' c' hr' hc') _)]
  exact tq_swap a b d d (fun r' c' => f (r' * 2 ^ b + c')) r c
theorem dft_twice (k : Nat) (w : F) (hw : 0 < k → pw w (2 ^ (k - 1)) = -1) (f : Nat → F) (j : Nat) (hj : j < 2 ^ k) : dft (2 ^ k) w (dft (2 ^ k) w f) j = f ((2 ^ k - j) % 2 ^ k) * pw 2 k := by
  have h0 : 0 < 2 ^ k := Nat.two_pow_pos k
  unfold dft
  have e1 : ∀ i, (sm (2 ^ k) fun s => f s * pw w (s * i)) * pw w (i * j) = sm (2 ^ k) fun s => f s * pw w (i * (s + j)) := by
    intro i
    rw [← sm_mulr]
    refine sm_congr fun s _ => ?_
    rw [Nat.mul_add, pw_add, Nat.mul_comm i s]
    grobner
  rw [sm_congr (fun i _ => e1 i), sm_swap]
  have e2 : ∀ s, (sm (2 ^ k) fun i => f s * pw w (i * (s + j))) = f s * (if (s + j) % 2 ^ k = 0 then pw 2 k else 0) := by
    intro s
    rw [sm_mull, sum_pows k w hw]
  rw [sm_congr (fun s _ => e2 s)]
  rw [sm_pick (2 ^ k) ((2 ^ k - j) % 2 ^ k) (Nat.mod_lt _ h0) _ (fun s hs hne => ?_)]
  · rw [if_pos]
    by_cases h : j = 0
    · subst h; rw [Nat.sub_zero, Nat.mod_self]; rw [Nat.zero_add, Nat.zero_mod]
    · rw [Nat.mod_eq_of_lt (show 2 ^ k - j < 2 ^ k by omega), show 2 ^ k - j + j = 2 ^ k by omega, Nat.mod_self]
  · rw [if_neg]
    · grobner
    · intro h
      apply hne
      by_cases hj0 : j = 0
      · subst hj0
        rw [Nat.sub_zero, Nat.mod_self]
        rwa [Nat.add_zero, Nat.mod_eq_of_lt hs] at h
      · rw [Nat.mod_eq_of_lt (show 2 ^ k - j < 2 ^ k by omega)]
        by_cases h3 : s + j < 2 ^ k
        · rw [Nat.mod_eq_of_lt h3] at h; omega
        · rw [Nat.mod_eq_sub_mod (by omega), Nat.mod_eq_of_lt (by omega)] at h; omega
theorem tq_twice (K : Nat) (hK : K ≤ 32) (f : Nat → F) (j : Nat) (hj : j < 2 ^ K) : tq K 0 (tq K 0 f) j = f ((2 ^ K - j) % 2 ^ K) * pw 2 K := by
  unfold tq
  rw [if_neg (by decide)]
  rw [dft_congr (g := dft (2 ^ K) (rut K 0) f) (fun i _ => by grobner), dft_twice K _ (fun h => rd_half K 0 h hK) f j hj]
  grobner
def flp (a b t : Nat) : Nat := (2 ^ a - t / 2 ^ b) % 2 ^ a * 2 ^ b + (2 ^ b - t % 2 ^ b) % 2 ^ b
theorem tq_mulr (K : Nat) (d : Int) (f : Nat → F) (c : F) (j : Nat) : tq K d (fun i => f i * c) j = tq K d f j * c := by
  unfold tq dft
  have : (sm (2 ^ K) fun i => f i * c * pw (rut K d) (i * j)) = (sm (2 ^ K) fun i => f i * pw (rut K d) (i * j)) * c := by
    rw [← sm_mulr]
    exact sm_congr fun i _ => by grobner
  rw [this]
  grobner
theorem t2_twice (a b : Nat) (hab : a + b ≤ 32) (f : Nat → F) (t : Nat) (ht : t < 2 ^ (a + b)) : t2 a b 0 (t2 a b 0 f) t = f (flp a b t) * pw 2 (a + b) := by
  obtain ⟨h1, h2, h3⟩ := parts a b t ht
  unfold t2
  rw [tq_congr (g := fun r => tq a 0 (fun r' => f (r' * 2 ^ b + (2 ^ b - t % 2 ^ b) % 2 ^ b)) r * pw 2 b)]
  · rw [tq_mulr, tq_twice a (by omega) _ _ h1, pw_add]
    unfold flp
    grobner
  · intro r hr
    rw [tq_congr (g := fun c => tq a 0 (fun r' => tq b 0 (fun c' => f (r' * 2 ^ b + c')) c) r)]
    · rw [tq_swap a b 0 0 (fun r' c => tq b 0 (fun c' => f (r' * 2 ^ b + c')) c) r (t % 2 ^ b), ← tq_mulr]
      exact tq_congr (fun r' _ => tq_twice b (by omega) (fun c' => f (r' * 2 ^ b + c')) _ h2) _
    · intro c hc
      obtain ⟨e1, e2⟩ := dm b r c hc
      rw [e1, e2]
end Go.Proofs.YtpnkcjnemoompaaDoor.Fft
end
section
namespace Go.Proofs.YtpnkcjnemoompaaDoor.Grid
open Go.RowKit Go.Proofs.YtpnkcjnemoompaaDoor Go.Proofs.YtpnkcjnemoompaaDoor.Ext Go.Proofs.YtpnkcjnemoompaaDoor.PPlan Go.Proofs.YtpnkcjnemoompaaDoor.PFft Go.Proofs.YtpnkcjnemoompaaDoor.Pure Go.Proofs.YtpnkcjnemoompaaDoor.Obj Go.Proofs.YtpnkcjnemoompaaDoor.Fft Go.Proofs.YtpnkcjnemoompaaDoor.Kern Go.Proofs.YtpnkcjnemoompaaDoorW.PrintWords Go.Proofs.YtpnkcjnemoompaaDoorW.PrintLast Go.Proofs.YtpnkcjnemoompaaDoorW.PrintMore
set_option linter.unusedVariables false
set_option linter.unusedSimpArgs false
set_option maxRecDepth 100000
theorem two_ways (xs : List Int) (R C a b : Nat) (d : Int) (ha : R = 2 ^ a) (hb : C = 2 ^ b) (hl : R * C = xs.length) :
    vfold (vfold xs b d (fun i => i * C) (fun _ => 1) C R) a d (fun i => i) (fun _ => C) R C = tb xs.length (t2 a b d (el xs)) := by
  have hN : 2 ^ (a + b) = xs.length := by rw [Nat.pow_add, ← ha, ← hb, hl]
  refine list_ext (by rw [vfold_len, vfold_len, tb_len]) fun t ht => ?_
  rw [vfold_len, vfold_len] at ht
  obtain ⟨h1, h2, h3⟩ := parts a b t (by rw [hN]; exact ht)
  rw [← ha, ← hb] at h1
  rw [← hb] at h2 h3
  rw [tb_get _ ht]
  have hl2 : R * C = (vfold xs b d (fun i => i * C) (fun _ => 1) C R).length := by rw [vfold_len, hl]
  conv => lhs; rw [← h3]
  rw [cols_get _ a d R C ha hl2 C (Nat.le_refl _) (t / C) (t % C) h1 h2, if_pos h2]
  refine congrArg fv ?_
  unfold t2
  rw [← hb]
  refine tr_congr (fun r hr => ?_) _
  rw [← ha] at hr
  unfold el
  rw [rows_at xs b d R C hb hl r (t % C) hr h2, fo_fv]
  rfl
theorem tab_fr {w w' : World} {S : List Nat} (h : TabOK w) (hf : Fr w w' S) (h1 : 1 ∉ S) : TabOK w' := ⟨fun j hj => by
  have hc := h.out j hj
  have hlt : 1 < w.heap.size := World.block_lt_of_cell? w _ hc
  rw [World.cell?_of_block (w := w) (a := ⟨1, j, none⟩) (hf.block 1 hlt h1)]
  exact hc⟩
theorem tab_ne {w : World} {g c : Nat} {xs : List Int} (h : TabOK w) (hM : Mr w g c xs) (h0 : 0 < xs.length) : 1 ≠ g := by
  intro e
  have h1 := h.out 0 (by decide)
  have h2 := hM.cell 0 h0
  rw [← e, h1] at h2
  simp at h2
theorem tab_fr1 {w w' : World} {g c : Nat} {xs : List Int} (h : TabOK w) (hM : Mr w g c xs) (h0 : 0 < xs.length) (hf : Fr w w' [g]) : TabOK w' := tab_fr h hf (by simpa using tab_ne h hM h0)
set_option maxHeartbeats 8000000 in
theorem gtrans_yes (R C a b p g c : Nat) (xs : List Int) (d : Int) (hd : d = 0 ∨ d = 1) (ha : R = 2 ^ a) (hb : C = 2 ^ b) (hab : a + b ≤ 20) (hl : R * C = xs.length) (hW : Ws xs) (w : World) (hG : Gd w p g c (R : Int) (C : Int) xs) (hT : TabOK w) :
    Calls Tryd.prog 22 #[.pointer (some ⟨p, 0, none⟩), .int .i64 d] w fun e w' => e = .returned (.int .i64 0) ∧ Gd w' p g c (R : Int) (C : Int) (tb xs.length (t2 a b d (el xs))) ∧ Fr w w' [g] := by
  have hlaw := two_ways xs R C a b d ha hb hl
  have hl2 : (vfold xs b d (fun i => i * C) (fun _ => 1) C R).length = xs.length := vfold_len _ _ _ _ _ _ _
  have hw2 : Ws (vfold xs b d (fun i => i * C) (fun _ => 1) C R) := vfold_ws hW _ _ _ _ _ _
  obtain ⟨m, hm⟩ : ∃ z, z = vfold xs b d (fun i => i * C) (fun _ => 1) C R := ⟨_, rfl⟩
  rw [← hm] at hlaw hl2 hw2
  obtain ⟨z, hz⟩ : ∃ z, z = tb xs.length (t2 a b d (el xs)) := ⟨_, rfl⟩
  have hzl : z.length = xs.length := by rw [hz, tb_len]
  rw [← hz] at hlaw ⊢
  have HLaw := Aside0.mk hlaw
  have HM := Aside0.mk hm
  have HW2 := Aside0.mk hw2
  have HD := Aside0.mk hd
  have HA := Aside0.mk ha
  have HBb := Aside0.mk hb
  have HAB := Aside0.mk hab
  have HL := Aside0.mk hl
  have HL2 := Aside0.mk (show R * C = m.length by rw [hl2, hl])
  have HW := Aside0.mk hW
  have HG0 := Aside0.mk hG
  have HT0 := Aside0.mk hT
  have HNe := Aside0.mk hG.ne
  have hp0 : 0 < xs.length := by rw [← hl, ha, hb, ← Nat.pow_add]; exact Nat.two_pow_pos _
  clear hlaw hm hw2 hd ha hb hab hl hW hT hz
  clear hG
  go_enter Tryd.func22, Tryd.ntmps22
  go_wp2_with fail
  refine start_ (n := 12) (S := fun w' => w'.cell? ⟨p, 0, none⟩ = some (.int .i64 (R : Int)) ∧ w'.cell? ⟨p, 1, none⟩ = some (.int .i64 (C : Int)) ∧ w'.cell? ⟨p, 2, none⟩ = some (.slice (some ⟨g, 0, none⟩) xs.length c) ∧ Aside0 (TabOK w')) (ds := []) #[false, false, false, false, false, false, false, false, false, false, false, false] (by kernel_rfl) rfl rfl ⟨HG0.out.drew.c0, HG0.out.drew.c1, HG0.out.drew.c2, ⟨HT0.out.below (below_drew1 (Below.refl _ _))⟩⟩ (fun hHeld => ?_)
  refine pure_ (i := 0) (N := some 6) (v := ?_) (a' := ?_) #[true, false, false, false, false, false, false, false, false, false, false, false] rfl rfl (by kernel_rfl) (fun _ _ _ h => h) (Or.inl ⟨by rfl, ?_⟩) ?_ ?_
  rotate_left
  · intro w'
    go_simp
    with_reducible rfl
  rotate_left
  · simp only [Act.put, List.setIfInBounds_toArray, List.set_cons_zero, List.set_cons_succ, i64_w, i32_w]
    rfl
  refine pure_ (i := 1) (N := some 7) (v := ?_) (a' := ?_) #[true, true, false, false, false, false, false, false, false, false, false, false] rfl rfl (by kernel_rfl) (fun _ _ _ h => h) (Or.inl ⟨by rfl, ?_⟩) ?_ ?_
  rotate_left
  · intro w'
    go_simp
    with_reducible rfl
  rotate_left
  · simp only [Act.put, List.setIfInBounds_toArray, List.set_cons_zero, List.set_cons_succ, i64_w, i32_w]
    rfl
  refine pure_ (i := 2) (N := some 8) (v := ?_) (a' := ?_) #[true, true, true, false, false, false, false, false, false, false, false, false] rfl rfl (by kernel_rfl) (fun _ _ _ h => h) (Or.inl ⟨by rfl, ?_⟩) ?_ ?_
  rotate_left
  · intro w'
    go_simp
    with_reducible rfl
  rotate_left
  · simp only [Act.put, List.setIfInBounds_toArray, List.set_cons_zero, List.set_cons_succ, i64_w, i32_w]
    rfl
  refine pure_ (i := 4) (N := some 10) (v := ?_) (a' := ?_) #[true, true, true, false, true, false, false, false, false, false, false, false] rfl rfl (by kernel_rfl) (fun _ _ _ h => h) (Or.inl ⟨by rfl, ?_⟩) ?_ ?_
  rotate_left
  · intro w'
    go_simp
    with_reducible rfl
  rotate_left
  · simp only [Act.put, List.setIfInBounds_toArray, List.set_cons_zero, List.set_cons_succ, i64_w, i32_w]
    rfl
  refine pure_ (i := 5) (N := some 11) (v := ?_) (a' := ?_) #[true, true, true, false, true, true, false, false, false, false, false, false] rfl rfl (by kernel_rfl) (fun _ _ _ h => h) (Or.inl ⟨by rfl, ?_⟩) ?_ ?_
  rotate_left
  · intro w'
    go_simp
    with_reducible rfl
  rotate_left
  · simp only [Act.put, List.setIfInBounds_toArray, List.set_cons_zero, List.set_cons_succ, i64_w, i32_w]
    rfl
  refine pure_ (i := 6) (N := some 12) (v := ?_) (a' := ?_) #[true, true, true, false, true, true, true, false, false, false, false, false] rfl rfl (by kernel_rfl) (fun _ _ _ h => h) (Or.inl ⟨by rfl, ?_⟩) ?_ ?_
  rotate_left
  · intro w'
    go_simp
    with_reducible rfl
  rotate_left
  · simp only [Act.put, List.setIfInBounds_toArray, List.set_cons_zero, List.set_cons_succ, i64_w, i32_w]
    rfl
  refine pure_ (i := 7) (N := some 13) (v := ?_) (a' := ?_) #[true, true, true, false, true, true, true, true, false, false, false, false] rfl rfl (by kernel_rfl) (fun _ _ _ h => h) (Or.inl ⟨by rfl, ?_⟩) ?_ ?_
  rotate_left
  · intro w'
    go_simp
    with_reducible rfl
  rotate_left
  · simp only [Act.put, List.setIfInBounds_toArray, List.set_cons_zero, List.set_cons_succ, i64_w, i32_w]
    rfl
  refine pure_ (i := 9) (N := some 15) (v := ?_) (a' := ?_) #[true, true, true, false, true, true, true, true, false, true, false, false] rfl rfl (by kernel_rfl) (fun _ _ _ h => h) (Or.inl ⟨by rfl, ?_⟩) ?_ ?_
  rotate_left
  · intro w'
    go_simp
    with_reducible rfl
  rotate_left
  · simp only [Act.put, List.setIfInBounds_toArray, List.set_cons_zero, List.set_cons_succ, i64_w, i32_w]
    rfl
  refine take_ (i := 3) (N := some 9) (v := ?_) (a' := ?_) #[true, true, true, true, true, true, true, true, false, true, false, false] rfl rfl (by kernel_rfl) (fun _ _ _ h => h) (Or.inl ⟨by rfl, ?_⟩) hHeld ?_ ?_
  rotate_left
  · rintro w' ⟨s0, s1, s2, s3⟩
    go_simp
    with_reducible rfl
  rotate_left
  · simp only [Act.put, List.setIfInBounds_toArray, List.set_cons_zero, List.set_cons_succ, i64_w, i32_w]
    rfl
  refine take_ (i := 8) (N := some 14) (v := ?_) (a' := ?_) #[true, true, true, true, true, true, true, true, true, true, false, false] rfl rfl (by kernel_rfl) (fun _ _ _ h => h) (Or.inl ⟨by rfl, ?_⟩) hHeld ?_ ?_
  rotate_left
  · rintro w' ⟨s0, s1, s2, s3⟩
    go_simp
    with_reducible rfl
  rotate_left
  · simp only [Act.put, List.setIfInBounds_toArray, List.set_cons_zero, List.set_cons_succ, i64_w, i32_w]
    rfl
  refine one_ (i := 10) (N := some 16) #[true, true, true, true, true, true, true, true, true, true, true, false] rfl rfl (by kernel_rfl) (by decide) (fun K hK => ?_)
  refine goes_ Tryd.func41 (by kernel_rfl) rfl #[.slice (some ⟨g, 0, none⟩) xs.length c, .agg #[.int .i64 (R : Int), .int .i64 (C : Int)], .int .i64 d] (by rfl) rfl rfl (by simp only [List.map_toArray, List.map_cons, List.map_nil]; rfl) ?_
  with_reducible refine (rows_yes R C a b g c xs d HD.out HA.out HBb.out HAB.out HL.out HW.out _ (Mr.drw HG0.out.row) hHeld.2.2.2.out).mono ?_
  rintro e w2 ⟨rfl, hm2, hf2⟩
  refine ⟨_, rfl, ?_⟩
  rw [← HM.out] at hm2
  have HO2 := Aside0.mk (HG0.out.obj.drew.fr hf2 (by simpa using HNe.out))
  have HM2 := Aside0.mk hm2
  have HF2 := Aside0.mk ((Fr.refl w [g]).drew.trans hf2)
  have HT2 := Aside0.mk (tab_fr1 hHeld.2.2.2.out (Mr.drw HG0.out.row) hp0 hf2)
  clear hHeld hm2 hf2
  refine hK.out _ _ ⟨HO2.out.cell 0, HO2.out.cell 1, HO2.out.cell 2, HT2⟩ (fun hHeld => ?_)
  clear hK K
  refine norm_ (a' := ?_) ?_ ?_
  rotate_left
  · show Act.put _ (some 16) _ = _
    simp only [Act.put, List.setIfInBounds_toArray, List.set_cons_zero, List.set_cons_succ, i64_w, i32_w]
    rfl
  refine pure_ (i := 11) (N := some 5) (v := ?_) (a' := ?_) #[true, true, true, true, true, true, true, true, true, true, true, true] rfl rfl (by kernel_rfl) (fun _ _ _ h => h) (Or.inl ⟨by rfl, ?_⟩) ?_ ?_
  rotate_left
  · intro w'
    go_simp
    with_reducible rfl
  rotate_left
  · simp only [Act.put, List.setIfInBounds_toArray, List.set_cons_zero, List.set_cons_succ, i64_w, i32_w]
    rfl
  refine done_ (by kernel_rfl) ?_
  clear hHeld
  go_wp2_with fail
  refine start_ (n := 12) (S := fun w' => w'.cell? ⟨p, 0, none⟩ = some (.int .i64 (R : Int)) ∧ w'.cell? ⟨p, 1, none⟩ = some (.int .i64 (C : Int)) ∧ w'.cell? ⟨p, 2, none⟩ = some (.slice (some ⟨g, 0, none⟩) xs.length c) ∧ Aside0 (TabOK w')) (ds := []) #[false, false, false, false, false, false, false, false, false, false, false, false] (by kernel_rfl) rfl rfl ⟨HO2.out.drew.cell 0, HO2.out.drew.cell 1, HO2.out.drew.cell 2, ⟨HT2.out.below (below_drew1 (Below.refl _ _))⟩⟩ (fun hHeld => ?_)
  refine pure_ (i := 0) (N := some 19) (v := ?_) (a' := ?_) #[true, false, false, false, false, false, false, false, false, false, false, false] rfl rfl (by kernel_rfl) (fun _ _ _ h => h) (Or.inl ⟨by rfl, ?_⟩) ?_ ?_
  rotate_left
  · intro w'
    go_simp
    with_reducible rfl
  rotate_left
  · simp only [Act.put, List.setIfInBounds_toArray, List.set_cons_zero, List.set_cons_succ, i64_w, i32_w]
    rfl
  refine pure_ (i := 1) (N := some 20) (v := ?_) (a' := ?_) #[true, true, false, false, false, false, false, false, false, false, false, false] rfl rfl (by kernel_rfl) (fun _ _ _ h => h) (Or.inl ⟨by rfl, ?_⟩) ?_ ?_
  rotate_left
  · intro w'
    go_simp
    with_reducible rfl
  rotate_left
  · simp only [Act.put, List.setIfInBounds_toArray, List.set_cons_zero, List.set_cons_succ, i64_w, i32_w]
    rfl
  refine pure_ (i := 2) (N := some 21) (v := ?_) (a' := ?_) #[true, true, true, false, false, false, false, false, false, false, false, false] rfl rfl (by kernel_rfl) (fun _ _ _ h => h) (Or.inl ⟨by rfl, ?_⟩) ?_ ?_
  rotate_left
  · intro w'
    go_simp
    with_reducible rfl
  rotate_left
  · simp only [Act.put, List.setIfInBounds_toArray, List.set_cons_zero, List.set_cons_succ, i64_w, i32_w]
    rfl
  refine pure_ (i := 4) (N := some 23) (v := ?_) (a' := ?_) #[true, true, true, false, true, false, false, false, false, false, false, false] rfl rfl (by kernel_rfl) (fun _ _ _ h => h) (Or.inl ⟨by rfl, ?_⟩) ?_ ?_
  rotate_left
  · intro w'
    go_simp
    with_reducible rfl
  rotate_left
  · simp only [Act.put, List.setIfInBounds_toArray, List.set_cons_zero, List.set_cons_succ, i64_w, i32_w]
    rfl
  refine pure_ (i := 5) (N := some 24) (v := ?_) (a' := ?_) #[true, true, true, false, true, true, false, false, false, false, false, false] rfl rfl (by kernel_rfl) (fun _ _ _ h => h) (Or.inl ⟨by rfl, ?_⟩) ?_ ?_
  rotate_left
  · intro w'
    go_simp
    with_reducible rfl
  rotate_left
  · simp only [Act.put, List.setIfInBounds_toArray, List.set_cons_zero, List.set_cons_succ, i64_w, i32_w]
    rfl
  refine pure_ (i := 6) (N := some 25) (v := ?_) (a' := ?_) #[true, true, true, false, true, true, true, false, false, false, false, false] rfl rfl (by kernel_rfl) (fun _ _ _ h => h) (Or.inl ⟨by rfl, ?_⟩) ?_ ?_
  rotate_left
  · intro w'
    go_simp
    with_reducible rfl
  rotate_left
  · simp only [Act.put, List.setIfInBounds_toArray, List.set_cons_zero, List.set_cons_succ, i64_w, i32_w]
    rfl
  refine pure_ (i := 7) (N := some 26) (v := ?_) (a' := ?_) #[true, true, true, false, true, true, true, true, false, false, false, false] rfl rfl (by kernel_rfl) (fun _ _ _ h => h) (Or.inl ⟨by rfl, ?_⟩) ?_ ?_
  rotate_left
  · intro w'
    go_simp
    with_reducible rfl
  rotate_left
  · simp only [Act.put, List.setIfInBounds_toArray, List.set_cons_zero, List.set_cons_succ, i64_w, i32_w]
    rfl
  refine pure_ (i := 9) (N := some 28) (v := ?_) (a' := ?_) #[true, true, true, false, true, true, true, true, false, true, false, false] rfl rfl (by kernel_rfl) (fun _ _ _ h => h) (Or.inl ⟨by rfl, ?_⟩) ?_ ?_
  rotate_left
  · intro w'
    go_simp
    with_reducible rfl
  rotate_left
  · simp only [Act.put, List.setIfInBounds_toArray, List.set_cons_zero, List.set_cons_succ, i64_w, i32_w]
    rfl
  refine take_ (i := 3) (N := some 22) (v := ?_) (a' := ?_) #[true, true, true, true, true, true, true, true, false, true, false, false] rfl rfl (by kernel_rfl) (fun _ _ _ h => h) (Or.inl ⟨by rfl, ?_⟩) hHeld ?_ ?_
  rotate_left
  · rintro w' ⟨s0, s1, s2, s3⟩
    go_simp
    with_reducible rfl
  rotate_left
  · simp only [Act.put, List.setIfInBounds_toArray, List.set_cons_zero, List.set_cons_succ, i64_w, i32_w]
    rfl
  refine take_ (i := 8) (N := some 27) (v := ?_) (a' := ?_) #[true, true, true, true, true, true, true, true, true, true, false, false] rfl rfl (by kernel_rfl) (fun _ _ _ h => h) (Or.inl ⟨by rfl, ?_⟩) hHeld ?_ ?_
  rotate_left
  · rintro w' ⟨s0, s1, s2, s3⟩
    go_simp
    with_reducible rfl
  rotate_left
  · simp only [Act.put, List.setIfInBounds_toArray, List.set_cons_zero, List.set_cons_succ, i64_w, i32_w]
    rfl
  refine one_ (i := 10) (N := some 29) #[true, true, true, true, true, true, true, true, true, true, true, false] rfl rfl (by kernel_rfl) (by decide) (fun K hK => ?_)
  have hc := cols_yes R C a b g c m d HD.out HA.out HBb.out HAB.out HL2.out HW2.out _ (Mr.drw HM2.out) hHeld.2.2.2.out
  rw [hl2] at hc
  refine goes_ Tryd.func42 (by kernel_rfl) rfl #[.slice (some ⟨g, 0, none⟩) xs.length c, .agg #[.int .i64 (R : Int), .int .i64 (C : Int)], .int .i64 d] (by rfl) rfl rfl (by simp only [List.map_toArray, List.map_cons, List.map_nil]; rfl) ?_
  with_reducible refine (hc).mono ?_
  rintro e w3 ⟨rfl, hm3, hf3⟩
  refine ⟨_, rfl, ?_⟩
  clear hc
  rw [HLaw.out] at hm3
  have HO3 := Aside0.mk (HO2.out.drew.fr hf3 (by simpa using HNe.out))
  have HM3 := Aside0.mk hm3
  have HF3 := Aside0.mk (HF2.out.drew.trans hf3)
  have HT3 := Aside0.mk (tab_fr1 hHeld.2.2.2.out (Mr.drw HM2.out) (by rw [hl2]; exact hp0) hf3)
  clear hHeld hm3 hf3
  refine hK.out _ _ ⟨HO3.out.cell 0, HO3.out.cell 1, HO3.out.cell 2, HT3⟩ (fun hHeld => ?_)
  clear hK K
  refine norm_ (a' := ?_) ?_ ?_
  rotate_left
  · show Act.put _ (some 29) _ = _
    simp only [Act.put, List.setIfInBounds_toArray, List.set_cons_zero, List.set_cons_succ, i64_w, i32_w]
    rfl
  refine pure_ (i := 11) (N := some 5) (v := ?_) (a' := ?_) #[true, true, true, true, true, true, true, true, true, true, true, true] rfl rfl (by kernel_rfl) (fun _ _ _ h => h) (Or.inl ⟨by rfl, ?_⟩) ?_ ?_
  rotate_left
  · intro w'
    go_simp
    with_reducible rfl
  rotate_left
  · simp only [Act.put, List.setIfInBounds_toArray, List.set_cons_zero, List.set_cons_succ, i64_w, i32_w]
    rfl
  refine done_ (by kernel_rfl) ?_
  clear hHeld
  go_wp2
  go_ret
  exact ⟨rfl, ⟨by rw [hzl]; exact HO3.out, HM3.out⟩, HF3.out⟩
end Go.Proofs.YtpnkcjnemoompaaDoor.Grid
end
section
namespace Go.Proofs.YtpnkcjnemoompaaDoor.Grid
open Go.RowKit Go.Proofs.YtpnkcjnemoompaaDoor Go.Proofs.YtpnkcjnemoompaaDoor.Ext Go.Proofs.YtpnkcjnemoompaaDoor.PPlan Go.Proofs.YtpnkcjnemoompaaDoor.PFft Go.Proofs.YtpnkcjnemoompaaDoor.Pure Go.Proofs.YtpnkcjnemoompaaDoor.Obj Go.Proofs.YtpnkcjnemoompaaDoor.Fft Go.Proofs.YtpnkcjnemoompaaDoor.Kern Go.Proofs.YtpnkcjnemoompaaDoorW.PrintWords Go.Proofs.YtpnkcjnemoompaaDoorW.PrintLast Go.Proofs.YtpnkcjnemoompaaDoorW.PrintMore
set_option linter.unusedVariables false
set_option linter.unusedSimpArgs false
set_option maxRecDepth 100000
theorem eqA23 (d : Nat) (w : World) (x0 y0 x1 y1 : Int) :
    (Op.equalIn (d + 2) 23 (.agg #[.int .i64 x0, .int .i64 x1]) (.agg #[.int .i64 y0, .int .i64 y1])).run Tryd.prog w = .ok (x0 == y0 && (x1 == y1)) w := by
  refine eqA_of Tryd.underlying23 (by kernel_rfl) ?_
  refine eqf_cons (by rfl) (by go_simp; rfl) (by go_simp; rfl) (by go_simp) ?_
  exact eqf_last (by rfl) (by go_simp; rfl) (by go_simp; rfl) (by go_simp)
attribute [local go_sem high] eqA23
end Go.Proofs.YtpnkcjnemoompaaDoor.Grid
end
section
namespace Go.Proofs.YtpnkcjnemoompaaDoor.Grid
open Go.RowKit Go.Proofs.YtpnkcjnemoompaaDoor Go.Proofs.YtpnkcjnemoompaaDoor.Ext Go.Proofs.YtpnkcjnemoompaaDoor.PPlan Go.Proofs.YtpnkcjnemoompaaDoor.PFft Go.Proofs.YtpnkcjnemoompaaDoor.Pure Go.Proofs.YtpnkcjnemoompaaDoor.Obj Go.Proofs.YtpnkcjnemoompaaDoor.Fft Go.Proofs.YtpnkcjnemoompaaDoor.Kern Go.Proofs.YtpnkcjnemoompaaDoorW.PrintWords Go.Proofs.YtpnkcjnemoompaaDoorW.PrintLast Go.Proofs.YtpnkcjnemoompaaDoorW.PrintMore
set_option linter.unusedVariables false
set_option linter.unusedSimpArgs false
set_option maxRecDepth 100000
def upto (xs : List Int) (f : Nat → Int) : Nat → List Int
  | 0 => xs
  | i + 1 => (upto xs f i).set i (f i)
structure Tm (w0 w : World) (p g c q h d : Nat) (R C : Int) (n : Nat) (xs ys : List Int) : Prop where
  obj : Bk w p 35 [.int .i64 R, .int .i64 C, .slice (some ⟨g, 0, none⟩) n c]
  row : Mr w g c xs
  ob2 : Bk w q 35 [.int .i64 R, .int .i64 C, .slice (some ⟨h, 0, none⟩) n d]
  ro2 : Mr w h d ys
  fr : Fr w0 w [g]
theorem Tm.below {w0 w w' : World} {p g c q h d : Nat} {R C : Int} {n : Nat} {xs ys : List Int} (k : Tm w0 w p g c q h d R C n xs ys) (hb : Below w.heap.size w w') : Tm w0 w' p g c q h d R C n xs ys :=
  ⟨k.obj.below hb, k.row.below hb, k.ob2.below hb, k.ro2.below hb, k.fr.trans (Fr.of_below hb [g])⟩
theorem Tm.drew {w0 w : World} {p g c q h d : Nat} {R C : Int} {n : Nat} {xs ys : List Int} (k : Tm w0 w p g c q h d R C n xs ys) : Tm w0 w.drew p g c q h d R C n xs ys := k.below (below_drew1 (Below.refl _ _))
theorem Tm.put {w0 w : World} {p g c q h d : Nat} {R C : Int} {n : Nat} {xs ys : List Int} (k : Tm w0 w p g c q h d R C n xs ys) (hgh : g ≠ h) (i : Nat) (x : Int) : Tm w0 (w.setCell ⟨g, i, none⟩ (.int .u64 x)) p g c q h d R C n (xs.set i x) ys :=
  ⟨k.obj.far i _ (k.row.ne k.obj (by decide)), k.row.put i x, k.ob2.far i _ (k.row.ne k.ob2 (by decide)), k.ro2.far g i _ (Ne.symm hgh), k.fr.set g i _ (.inl (by simp))⟩
end Go.Proofs.YtpnkcjnemoompaaDoor.Grid
end
section
namespace Go.Proofs.YtpnkcjnemoompaaDoor.Grid
open Go.RowKit Go.Proofs.YtpnkcjnemoompaaDoor Go.Proofs.YtpnkcjnemoompaaDoor.Ext Go.Proofs.YtpnkcjnemoompaaDoor.PPlan Go.Proofs.YtpnkcjnemoompaaDoor.PFft Go.Proofs.YtpnkcjnemoompaaDoor.Pure Go.Proofs.YtpnkcjnemoompaaDoor.Obj Go.Proofs.YtpnkcjnemoompaaDoor.Fft Go.Proofs.YtpnkcjnemoompaaDoor.Kern Go.Proofs.YtpnkcjnemoompaaDoorW.PrintWords Go.Proofs.YtpnkcjnemoompaaDoorW.PrintLast Go.Proofs.YtpnkcjnemoompaaDoorW.PrintMore
set_option linter.unusedVariables false
set_option linter.unusedSimpArgs false
set_option maxRecDepth 100000
set_option maxHeartbeats 8000000 in
theorem gturn (R C : Nat) (p g c : Nat) (xs : List Int) (hG : GoodS (R : Int) (C : Int)) (hC : C ≤ 1048576) (hl : R * C = xs.length) (hp : 0 < xs.length) (hL : xs.length ≤ 1048576) (w : World) (hg : Gd w p g c (R : Int) (C : Int) xs) (hT : TabOK w) :
    Calls Tryd.prog 50 #[.pointer (some ⟨p, 0, none⟩)] w fun e w' => e = .returned (.tuple #[]) ∧ ∃ h d, Gd w' p h d (C : Int) (R : Int) (tl (C * R) (tps xs R C)) ∧ Fr w w' [p] ∧ w.heap.size ≤ h := by
  obtain ⟨k, hk⟩ := (gTpose xs R C hG hC hl hL).rounds
  obtain ⟨z, hz⟩ : ∃ z, z = tl (C * R) (tps xs R C) := ⟨_, rfl⟩
  have hzl : z.length = xs.length := by rw [hz, tl_len, Nat.mul_comm, hl]
  rw [← hz] at hk ⊢
  have HK := Aside0.mk hk
  have HG0 := Aside0.mk hg
  have HT0 := Aside0.mk hT
  have HTu := Aside0.mk (show shape_Turned.f (R : Int) (C : Int) = some ((C : Int), (R : Int)) from rfl)
  have hpl := hg.lp
  clear hk hz hG hl hg hT
  go_enter Tryd.func50, Tryd.ntmps50
  go_wp2_with fail
  refine start_ (n := 17) (S := fun w' => w'.cell? ⟨p, 0, none⟩ = some (.int .i64 (R : Int)) ∧ w'.cell? ⟨p, 1, none⟩ = some (.int .i64 (C : Int)) ∧ w'.cell? ⟨p, 2, none⟩ = some (.slice (some ⟨g, 0, none⟩) xs.length c) ∧ Aside0 (Gd w' p g c (R : Int) (C : Int) xs ∧ Below w.heap.size w w')) (ds := [16]) #[false, false, false, false, false, false, false, false, false, false, false, false, false, false, false, false, false] (by kernel_rfl) rfl rfl ⟨HG0.out.drew.c0, HG0.out.drew.c1, HG0.out.drew.c2, ⟨HG0.out.drew, below_drew1 (Below.refl _ _)⟩⟩ (fun hHeld => ?_)
  refine pure_ (i := 0) (N := some 3) (v := ?_) (a' := ?_) #[true, false, false, false, false, false, false, false, false, false, false, false, false, false, false, false, false] rfl rfl (by kernel_rfl) (fun _ _ _ h => h) (Or.inl ⟨by rfl, ?_⟩) ?_ ?_
  rotate_left
  · intro w'
    go_simp
    with_reducible rfl
  rotate_left
  · simp only [Act.put, List.setIfInBounds_toArray, List.set_cons_zero, List.set_cons_succ, i64_w, i32_w]
    rfl
  refine pure_ (i := 1) (N := some 4) (v := ?_) (a' := ?_) #[true, true, false, false, false, false, false, false, false, false, false, false, false, false, false, false, false] rfl rfl (by kernel_rfl) (fun _ _ _ h => h) (Or.inl ⟨by rfl, ?_⟩) ?_ ?_
  rotate_left
  · intro w'
    go_simp
    with_reducible rfl
  rotate_left
  · simp only [Act.put, List.setIfInBounds_toArray, List.set_cons_zero, List.set_cons_succ, i64_w, i32_w]
    rfl
  refine pure_ (i := 2) (N := some 5) (v := ?_) (a' := ?_) #[true, true, true, false, false, false, false, false, false, false, false, false, false, false, false, false, false] rfl rfl (by kernel_rfl) (fun _ _ _ h => h) (Or.inl ⟨by rfl, ?_⟩) ?_ ?_
  rotate_left
  · intro w'
    go_simp
    with_reducible rfl
  rotate_left
  · simp only [Act.put, List.setIfInBounds_toArray, List.set_cons_zero, List.set_cons_succ, i64_w, i32_w]
    rfl
  refine pure_ (i := 3) (N := some 6) (v := ?_) (a' := ?_) #[true, true, true, true, false, false, false, false, false, false, false, false, false, false, false, false, false] rfl rfl (by kernel_rfl) (fun _ _ _ h => h) (Or.inl ⟨by rfl, ?_⟩) ?_ ?_
  rotate_left
  · intro w'
    go_simp
    with_reducible rfl
  rotate_left
  · simp only [Act.put, List.setIfInBounds_toArray, List.set_cons_zero, List.set_cons_succ, i64_w, i32_w]
    rfl
  refine pure_ (i := 5) (N := some 8) (v := ?_) (a' := ?_) #[true, true, true, true, false, true, false, false, false, false, false, false, false, false, false, false, false] rfl rfl (by kernel_rfl) (fun _ _ _ h => h) (Or.inl ⟨by rfl, ?_⟩) ?_ ?_
  rotate_left
  · intro w'
    go_simp
    with_reducible rfl
  rotate_left
  · simp only [Act.put, List.setIfInBounds_toArray, List.set_cons_zero, List.set_cons_succ, i64_w, i32_w]
    rfl
  refine pure_ (i := 6) (N := some 9) (v := ?_) (a' := ?_) #[true, true, true, true, false, true, true, false, false, false, false, false, false, false, false, false, false] rfl rfl (by kernel_rfl) (fun _ _ _ h => h) (Or.inl ⟨by rfl, ?_⟩) ?_ ?_
  rotate_left
  · intro w'
    go_simp
    with_reducible rfl
  rotate_left
  · simp only [Act.put, List.setIfInBounds_toArray, List.set_cons_zero, List.set_cons_succ, i64_w, i32_w]
    rfl
  refine pure_ (i := 7) (N := some 10) (v := ?_) (a' := ?_) #[true, true, true, true, false, true, true, true, false, false, false, false, false, false, false, false, false] rfl rfl (by kernel_rfl) (fun _ _ _ h => h) (Or.inl ⟨by rfl, ?_⟩) ?_ ?_
  rotate_left
  · intro w'
    go_simp
    with_reducible rfl
  rotate_left
  · simp only [Act.put, List.setIfInBounds_toArray, List.set_cons_zero, List.set_cons_succ, i64_w, i32_w]
    rfl
  refine pure_ (i := 8) (N := some 11) (v := ?_) (a' := ?_) #[true, true, true, true, false, true, true, true, true, false, false, false, false, false, false, false, false] rfl rfl (by kernel_rfl) (fun _ _ _ h => h) (Or.inl ⟨by rfl, ?_⟩) ?_ ?_
  rotate_left
  · intro w'
    go_simp
    with_reducible rfl
  rotate_left
  · simp only [Act.put, List.setIfInBounds_toArray, List.set_cons_zero, List.set_cons_succ, i64_w, i32_w]
    rfl
  refine take_ (i := 4) (N := some 7) (v := ?_) (a' := ?_) #[true, true, true, true, true, true, true, true, true, false, false, false, false, false, false, false, false] rfl rfl (by kernel_rfl) (fun _ _ _ h => h) (Or.inl ⟨by rfl, ?_⟩) hHeld ?_ ?_
  rotate_left
  · rintro w' ⟨s0, s1, s2, s3⟩
    go_simp
    with_reducible rfl
  rotate_left
  · simp only [Act.put, List.setIfInBounds_toArray, List.set_cons_zero, List.set_cons_succ, i64_w, i32_w]
    rfl
  refine take_ (i := 9) (N := some 12) (v := ?_) (a' := ?_) #[true, true, true, true, true, true, true, true, true, true, false, false, false, false, false, false, false] rfl rfl (by kernel_rfl) (fun _ _ _ h => h) (Or.inl ⟨by rfl, ?_⟩) hHeld ?_ ?_
  rotate_left
  · rintro w' ⟨s0, s1, s2, s3⟩
    go_simp
    with_reducible rfl
  rotate_left
  · simp only [Act.put, List.setIfInBounds_toArray, List.set_cons_zero, List.set_cons_succ, i64_w, i32_w]
    rfl
  refine one_ (i := 10) (N := some 13) #[true, true, true, true, true, true, true, true, true, true, true, false, false, false, false, false, false] rfl rfl (by kernel_rfl) (by decide) (fun K hK => ?_)
  refine goes_ Tryd.func89 (by kernel_rfl) rfl #[.slice (some ⟨g, 0, none⟩) xs.length c, .agg #[.int .i64 (R : Int), .int .i64 (C : Int)]] (by rfl) rfl rfl (by simp only [List.map_toArray, List.map_cons, List.map_nil]; rfl) ?_
  with_reducible refine (shape_Transpose.calls k (some ⟨g, 0, none⟩) c xs (R : Int) (C : Int) z 0 _ (In.of_mr hHeld.2.2.2.out.1.row (by omega)).r (In.of_mr hHeld.2.2.2.out.1.row (by omega)).c HK.out (HT0.out.below hHeld.2.2.2.out.2)).mono ?_
  rintro e w2 ⟨v, rfl, hR, hb⟩
  refine ⟨_, rfl, ?_⟩
  obtain ⟨h, d, hv, hge, hm⟩ := Mr.of_R hR (by rw [hzl]; exact hp)
  subst hv
  rw [hzl]
  have HG2 := Aside0.mk (hHeld.2.2.2.out.1.below hb)
  have HB2 := Aside0.mk (below_then hHeld.2.2.2.out.2 hHeld.2.2.2.out.2.size hb)
  have HM2 := Aside0.mk hm
  have HGe := Aside0.mk (show w.heap.size ≤ h by have := hHeld.2.2.2.out.2.size; omega)
  clear hHeld hR hb hge hm
  refine hK.out _ _ ⟨HG2.out.c0, HG2.out.c1, HG2.out.c2, ⟨HG2.out, HB2.out⟩⟩ (fun hHeld => ?_)
  clear hK K
  refine norm_ (a' := ?_) ?_ ?_
  rotate_left
  · show Act.put _ (some 13) _ = _
    simp only [Act.put, List.setIfInBounds_toArray, List.set_cons_zero, List.set_cons_succ, i64_w, i32_w]
    rfl
  refine pure_ (i := 11) (N := some 2) (v := ?_) (a' := ?_) #[true, true, true, true, true, true, true, true, true, true, true, true, false, false, false, false, false] rfl rfl (by kernel_rfl) (fun _ _ _ h => h) (Or.inl ⟨by rfl, ?_⟩) ?_ ?_
  rotate_left
  · intro w'
    go_simp
    with_reducible rfl
  rotate_left
  · simp only [Act.put, List.setIfInBounds_toArray, List.set_cons_zero, List.set_cons_succ, i64_w, i32_w]
    rfl
  refine pure_ (i := 12) (N := some 14) (v := ?_) (a' := ?_) #[true, true, true, true, true, true, true, true, true, true, true, true, true, false, false, false, false] rfl rfl (by kernel_rfl) (fun _ _ _ h => h) (Or.inl ⟨by rfl, ?_⟩) ?_ ?_
  rotate_left
  · intro w'
    go_simp
    with_reducible rfl
  rotate_left
  · simp only [Act.put, List.setIfInBounds_toArray, List.set_cons_zero, List.set_cons_succ, i64_w, i32_w]
    rfl
  refine pure_ (i := 13) (N := some 15) (v := ?_) (a' := ?_) #[true, true, true, true, true, true, true, true, true, true, true, true, true, true, false, false, false] rfl rfl (by kernel_rfl) (fun _ _ _ h => h) (Or.inl ⟨by rfl, ?_⟩) ?_ ?_
  rotate_left
  · intro w'
    go_simp
    with_reducible rfl
  rotate_left
  · simp only [Act.put, List.setIfInBounds_toArray, List.set_cons_zero, List.set_cons_succ, i64_w, i32_w]
    rfl
  refine pure_ (i := 14) (N := some 16) (v := ?_) (a' := ?_) #[true, true, true, true, true, true, true, true, true, true, true, true, true, true, true, false, false] rfl rfl (by kernel_rfl) (fun _ _ _ h => h) (Or.inl ⟨by rfl, ?_⟩) ?_ ?_
  rotate_left
  · intro w'
    go_simp
    with_reducible rfl
  rotate_left
  · simp only [Act.put, List.setIfInBounds_toArray, List.set_cons_zero, List.set_cons_succ, i64_w, i32_w]
    rfl
  refine pure_ (i := 15) (N := some 17) (v := ?_) (a' := ?_) #[true, true, true, true, true, true, true, true, true, true, true, true, true, true, true, true, false] rfl rfl (by kernel_rfl) (fun _ _ _ h => h) (Or.inl ⟨by rfl, ?_⟩) ?_ ?_
  rotate_left
  · intro w'
    go_simp
    with_reducible rfl
  rotate_left
  · simp only [Act.put, List.setIfInBounds_toArray, List.set_cons_zero, List.set_cons_succ, i64_w, i32_w]
    rfl
  refine last_ (i := 16) (N := none) #[true, true, true, true, true, true, true, true, true, true, true, true, true, true, true, true, true] rfl rfl (by kernel_rfl) (by decide) (fun K hK => ?_)
  have c2 := hHeld.2.2.1
  have f2 := hHeld.2.2.2.out.1.obj.frozen 2
  have HO3 := Aside0.mk (HG2.out.obj.put 2 (.slice (some ⟨h, 0, none⟩) xs.length d))
  have HM3 := Aside0.mk (HM2.out.far p 2 (.slice (some ⟨h, 0, none⟩) xs.length d) (Ne.symm (HM2.out.ne HG2.out.obj (by decide))))
  have HF3 := Aside0.mk ((Fr.of_below HB2.out [p]).set p 2 (.slice (some ⟨h, 0, none⟩) xs.length d) (.inl (by simp)))
  refine skip_ (w1 := ?_) (by rfl) rfl ?_ ?_
  rotate_left
  · go_simp
    rfl
  refine hK.out _ _ ?_
  clear hK K
  refine done_ (by kernel_rfl) ?_
  clear hHeld HG2 HB2 HM2
  have u0 := HO3.out.cell 0
  have u1 := HO3.out.cell 1
  go_wp2_with fail
  clear u0 u1
  with_reducible refine (shape_Turned.calls (R : Int) (C : Int) (C : Int) (R : Int) _ HTu.out).mono ?_
  rintro e w4 ⟨rfl, hb⟩
  have HO4 := Aside0.mk (HO3.out.below hb)
  have HM4 := Aside0.mk (HM3.out.below hb)
  have HF4 := Aside0.mk (HF3.out.trans (Fr.of_below hb [p]))
  clear hb HO3 HM3 HF3
  have u0 := HO4.out.cell 0
  have u1 := HO4.out.cell 1
  have z0 := HO4.out.frozen 0
  have z1 := HO4.out.frozen 1
  go_wp2
  refine bodyPost_end (results_none Tryd.results50 _ _ _) rfl ?_
  have hph : h ≠ p := Ne.symm (HM4.out.ne HO4.out (by decide))
  refine ⟨rfl, h, d, ⟨?_, (HM4.out.far p 0 _ hph).far p 1 _ hph⟩, (HF4.out.set p 0 _ (.inl (by simp))).set p 1 _ (.inl (by simp)), HGe.out⟩
  rw [hzl]
  exact (HO4.out.put 0 _).put 1 _
end Go.Proofs.YtpnkcjnemoompaaDoor.Grid
end
section
namespace Go.Proofs.YtpnkcjnemoompaaDoor.Grid
open Go.RowKit Go.Proofs.YtpnkcjnemoompaaDoor Go.Proofs.YtpnkcjnemoompaaDoor.Ext Go.Proofs.YtpnkcjnemoompaaDoor.PPlan Go.Proofs.YtpnkcjnemoompaaDoor.PFft Go.Proofs.YtpnkcjnemoompaaDoor.Pure Go.Proofs.YtpnkcjnemoompaaDoor.Obj Go.Proofs.YtpnkcjnemoompaaDoor.Fft Go.Proofs.YtpnkcjnemoompaaDoor.Kern Go.Proofs.YtpnkcjnemoompaaDoorW.PrintWords Go.Proofs.YtpnkcjnemoompaaDoorW.PrintLast Go.Proofs.YtpnkcjnemoompaaDoorW.PrintMore
set_option linter.unusedVariables false
set_option linter.unusedSimpArgs false
set_option maxRecDepth 100000
theorem mask (a : Nat) (ha : a ≤ 20) (n : Int) : Go.bits .and .i64 n (((2 ^ a - 1 : Nat)) : Int) = n % ((2 ^ a : Nat) : Int) := by
  have h0 : 0 < 2 ^ a := Nat.two_pow_pos a
  have h1 : 2 ^ a ≤ 1048576 := pow20 ha
  have h2 : (BitVec.ofInt 64 ((2 ^ a - 1 : Nat) : Int)).toNat = 2 ^ a - 1 := by
    rw [BitVec.toNat_ofInt]
    have hm : 2 ^ a - 1 < 1048576 := by omega
    clear h0 h1
    generalize 2 ^ a - 1 = m at *
    have : ((m : Nat) : Int) % ((2 ^ 64 : Nat) : Int) = (m : Int) := by rw [show (2 : Nat) ^ 64 = 18446744073709551616 by decide]; omega
    rw [this]
    rfl
  have key : (BitVec.ofInt 64 n &&& BitVec.ofInt 64 ((2 ^ a - 1 : Nat) : Int)).toNat = (n % ((2 ^ 64 : Nat) : Int)).toNat % 2 ^ a := by
    rw [BitVec.toNat_and, h2, BitVec.toNat_ofInt, Nat.and_two_pow_sub_one_eq_mod]
  show IntKind.i64.wrap ((BitVec.ofInt 64 n &&& BitVec.ofInt 64 ((2 ^ a - 1 : Nat) : Int)).toNat : Nat) = _
  rw [key, IntKind.wrap_i64]
  have hd : ((2 ^ a : Nat) : Int) ∣ ((2 ^ 64 : Nat) : Int) := Int.natCast_dvd_natCast.2 (Nat.pow_dvd_pow 2 (by omega))
  have e1 : n % ((2 ^ 64 : Nat) : Int) % ((2 ^ a : Nat) : Int) = n % ((2 ^ a : Nat) : Int) := Int.emod_emod_of_dvd n hd
  rw [← e1]
  have hn : 0 ≤ n % ((2 ^ 64 : Nat) : Int) := Int.emod_nonneg _ (by decide)
  generalize n % ((2 ^ 64 : Nat) : Int) = z at *
  obtain ⟨k, rfl⟩ := Int.eq_ofNat_of_zero_le hn
  rw [Int.toNat_natCast]
  have h3 : k % 2 ^ a < 2 ^ a := Nat.mod_lt _ h0
  rw [← Int.natCast_emod]
  generalize k % 2 ^ a = m at *
  omega
def plc (bs xs : List Int) (T : Nat → Nat) : Nat → List Int
  | 0 => bs
  | i + 1 => (plc bs xs T i).set (T i) (xs.getD i 0)
theorem plc_len (bs xs : List Int) (T : Nat → Nat) (i : Nat) : (plc bs xs T i).length = bs.length := by
  induction i with
  | zero => rfl
  | succ i ih => rw [plc, List.length_set, ih]
theorem plc_get (bs xs : List Int) (T S : Nat → Nat) (n : Nat) (hn : bs.length = n) (h1 : ∀ t, t < n → T t < n ∧ S (T t) = t) (h2 : ∀ j, j < n → T (S j) = j) (i : Nat) (hi : i ≤ n) : ∀ j, j < n → (plc bs xs T i).getD j 0 = if S j < i then xs.getD (S j) 0 else bs.getD j 0 := by
  induction i with
  | zero => intro j hj; rw [if_neg (by omega)]; rfl
  | succ i ih =>
    intro j hj
    have h3 := ih (by omega) j hj
    rw [plc, List.getD_eq_getElem?_getD]
    by_cases e : T i = j
    · have e2 : S j = i := by rw [← e]; exact (h1 i (by omega)).2
      rw [e, List.getElem?_set_self (by rw [plc_len, hn]; exact hj), e2, if_pos (by omega)]
      rfl
    · have e2 : S j ≠ i := fun q => e (by rw [← q]; exact h2 j hj)
      rw [List.getElem?_set_ne e, ← List.getD_eq_getElem?_getD, h3]
      by_cases h4 : S j < i
      · rw [if_pos h4, if_pos (by omega)]
      · rw [if_neg h4, if_neg (by omega)]
theorem plc_all (bs xs : List Int) (T S : Nat → Nat) (n : Nat) (hn : bs.length = n) (h1 : ∀ t, t < n → T t < n ∧ S (T t) = t) (h2 : ∀ j, j < n → S j < n ∧ T (S j) = j) : plc bs xs T n = tl n (fun j => xs.getD (S j) 0) := by
  refine list_ext (by rw [plc_len, tl_len, hn]) fun j hj => ?_
  rw [plc_len, hn] at hj
  rw [plc_get bs xs T S n hn h1 (fun j hj => (h2 j hj).2) n (Nat.le_refl _) j hj, if_pos (h2 j hj).1, tl_get _ hj]
def mvp (a b u v t : Nat) : Nat := (t / 2 ^ b + u) % 2 ^ a * 2 ^ b + (t % 2 ^ b + v) % 2 ^ b
theorem mv1 (n r u : Nat) (h : r < n) (hu : u ≤ n) : ((r + u) % n + (n - u)) % n = r := by
  rw [Nat.mod_add_mod, show r + u + (n - u) = r + n by omega, Nat.add_mod_right, Nat.mod_eq_of_lt h]
theorem mvp_lt (a b u v t : Nat) : mvp a b u v t < 2 ^ (a + b) := Fft.plc a b _ _ (Nat.mod_lt _ (Nat.two_pow_pos a)) (Nat.mod_lt _ (Nat.two_pow_pos b))
theorem mvp_back (a b u v t : Nat) (hu : u ≤ 2 ^ a) (hv : v ≤ 2 ^ b) (ht : t < 2 ^ (a + b)) : mvp a b (2 ^ a - u) (2 ^ b - v) (mvp a b u v t) = t := by
  obtain ⟨h1, h2, h3⟩ := parts a b t ht
  obtain ⟨e1, e2⟩ := dm b ((t / 2 ^ b + u) % 2 ^ a) ((t % 2 ^ b + v) % 2 ^ b) (Nat.mod_lt _ (Nat.two_pow_pos b))
  unfold mvp
  rw [e1, e2, mv1 _ _ _ h1 hu, mv1 _ _ _ h2 hv, h3]
theorem mvp_forth (a b u v t : Nat) (hu : u ≤ 2 ^ a) (hv : v ≤ 2 ^ b) (ht : t < 2 ^ (a + b)) : mvp a b u v (mvp a b (2 ^ a - u) (2 ^ b - v) t) = t := by
  have h := mvp_back a b (2 ^ a - u) (2 ^ b - v) t (Nat.sub_le _ _) (Nat.sub_le _ _) ht
  rwa [Nat.sub_sub_self hu, Nat.sub_sub_self hv] at h
theorem fl1 (n r : Nat) (h : r < n) : (n - (n - r) % n) % n = r := by
  rcases Nat.eq_zero_or_pos r with rfl | h0
  · rw [Nat.sub_zero, Nat.mod_self, Nat.sub_zero, Nat.mod_self]
  · rw [Nat.mod_eq_of_lt (show n - r < n by omega), show n - (n - r) = r by omega, Nat.mod_eq_of_lt h]
theorem flp_lt (a b t : Nat) : flp a b t < 2 ^ (a + b) := Fft.plc a b _ _ (Nat.mod_lt _ (Nat.two_pow_pos a)) (Nat.mod_lt _ (Nat.two_pow_pos b))
theorem flp_back (a b t : Nat) (ht : t < 2 ^ (a + b)) : flp a b (flp a b t) = t := by
  obtain ⟨h1, h2, h3⟩ := parts a b t ht
  obtain ⟨e1, e2⟩ := dm b ((2 ^ a - t / 2 ^ b) % 2 ^ a) ((2 ^ b - t % 2 ^ b) % 2 ^ b) (Nat.mod_lt _ (Nat.two_pow_pos b))
  unfold flp
  rw [e1, e2, fl1 _ _ h1, fl1 _ _ h2, h3]
theorem round_num (R C r c t : Nat) (hR : 1 ≤ R) (hC : 1 ≤ C) (bR : R ≤ 1048576) (bC : C ≤ 1048576) (ht : t = r * C + c) (bt : t ≤ 1048576) : ∃ R1 C1 rc : Nat, R1 = R - 1 ∧ C1 = C - 1 ∧ (IntKind.i64.wrap ((R : Int) - 1) = (R1 : Int) ∧ wrap64 ((R : Int) - 1) = (R1 : Int)) ∧ (IntKind.i64.wrap ((C : Int) - 1) = (C1 : Int) ∧ wrap64 ((C : Int) - 1) = (C1 : Int)) ∧ (IntKind.i64.wrap ((r : Int) * (C : Int)) = (rc : Int) ∧ wrap64 ((r : Int) * (C : Int)) = (rc : Int)) ∧ (IntKind.i64.wrap ((rc : Int) + (c : Int)) = (t : Int) ∧ wrap64 ((rc : Int) + (c : Int)) = (t : Int)) := by
  have e1 : (R : Int) - 1 = ((R - 1 : Nat) : Int) := by omega
  have e2 : (C : Int) - 1 = ((C - 1 : Nat) : Int) := by omega
  have e3 : (r : Int) * (C : Int) = ((r * C : Nat) : Int) := by rw [Int.natCast_mul]
  have e4 : ((r * C : Nat) : Int) + (c : Int) = (t : Int) := by rw [ht, Int.natCast_add]
  have b1 : R - 1 ≤ 9223372036854775807 := by omega
  have b2 : C - 1 ≤ 9223372036854775807 := by omega
  have b3 : r * C ≤ 9223372036854775807 := by omega
  have b4 : t ≤ 9223372036854775807 := by omega
  exact ⟨R - 1, C - 1, r * C, rfl, rfl, wrapb e1 b1, wrapb e2 b2, wrapb e3 b3, wrapb e4 b4⟩
set_option maxHeartbeats 4000000 in
theorem ground (p R C r c t : Nat) (x y : Int) (hR : 1 ≤ R) (hC : 1 ≤ C) (bR : R ≤ 1048576) (bC : C ≤ 1048576) (hx : Go.bits .and .i64 x ((R - 1 : Nat) : Int) = (r : Int)) (hy : Go.bits .and .i64 y ((C - 1 : Nat) : Int) = (c : Int)) (ht : t = r * C + c) (bt : t ≤ 1048576) (w : World) (h0 : w.cell? ⟨p, 0, none⟩ = some (.int .i64 (R : Int))) (h1 : w.cell? ⟨p, 1, none⟩ = some (.int .i64 (C : Int))) :
    Calls Tryd.prog 93 #[.pointer (some ⟨p, 0, none⟩), .int .i64 x, .int .i64 y] w fun e w' => e = .returned (.int .i64 (t : Int)) ∧ Below w.heap.size w w' := by
  have HB := Aside0.mk (Below.refl w.heap.size w)
  obtain ⟨R1, C1, rc, hR1, hC1, ⟨kA, kB⟩, ⟨kC, kD⟩, ⟨kE, kF⟩, ⟨kG, kH⟩⟩ := round_num R C r c t hR hC bR bC ht bt
  rw [← hR1] at hx
  rw [← hC1] at hy
  clear hR1 hC1 ht hR hC bR bC bt
  go_enter Tryd.func93, Tryd.ntmps93
  go_wp2_with fail
  refine start_ (n := 18) (S := fun w' => w'.cell? ⟨p, 0, none⟩ = some (.int .i64 (R : Int)) ∧ w'.cell? ⟨p, 1, none⟩ = some (.int .i64 (C : Int)) ∧ Aside0 (Below w.heap.size w w')) (ds := []) #[false, false, false, false, false, false, false, false, false, false, false, false, false, false, false, false, false, false] (by kernel_rfl) rfl rfl ⟨h0, h1, ⟨below_drew1 HB.out⟩⟩ (fun hHeld => ?_)
  refine pure_ (i := 0) (N := some 7) (v := ?_) (a' := ?_) #[true, false, false, false, false, false, false, false, false, false, false, false, false, false, false, false, false, false] rfl rfl (by kernel_rfl) (fun _ _ _ h => h) (Or.inl ⟨by rfl, ?_⟩) ?_ ?_
  rotate_left
  · intro w'
    go_simp
    with_reducible rfl
  rotate_left
  · simp only [Act.put, List.setIfInBounds_toArray, List.set_cons_zero, List.set_cons_succ, i64_w, i32_w]
    rfl
  refine pure_ (i := 1) (N := some 8) (v := ?_) (a' := ?_) #[true, true, false, false, false, false, false, false, false, false, false, false, false, false, false, false, false, false] rfl rfl (by kernel_rfl) (fun _ _ _ h => h) (Or.inl ⟨by rfl, ?_⟩) ?_ ?_
  rotate_left
  · intro w'
    go_simp
    with_reducible rfl
  rotate_left
  · simp only [Act.put, List.setIfInBounds_toArray, List.set_cons_zero, List.set_cons_succ, i64_w, i32_w]
    rfl
  refine pure_ (i := 2) (N := some 9) (v := ?_) (a' := ?_) #[true, true, true, false, false, false, false, false, false, false, false, false, false, false, false, false, false, false] rfl rfl (by kernel_rfl) (fun _ _ _ h => h) (Or.inl ⟨by rfl, ?_⟩) ?_ ?_
  rotate_left
  · intro w'
    go_simp
    with_reducible rfl
  rotate_left
  · simp only [Act.put, List.setIfInBounds_toArray, List.set_cons_zero, List.set_cons_succ, i64_w, i32_w]
    rfl
  refine pure_ (i := 3) (N := some 10) (v := ?_) (a' := ?_) #[true, true, true, true, false, false, false, false, false, false, false, false, false, false, false, false, false, false] rfl rfl (by kernel_rfl) (fun _ _ _ h => h) (Or.inl ⟨by rfl, ?_⟩) ?_ ?_
  rotate_left
  · intro w'
    go_simp
    with_reducible rfl
  rotate_left
  · simp only [Act.put, List.setIfInBounds_toArray, List.set_cons_zero, List.set_cons_succ, i64_w, i32_w]
    rfl
  refine pure_ (i := 4) (N := some 11) (v := ?_) (a' := ?_) #[true, true, true, true, true, false, false, false, false, false, false, false, false, false, false, false, false, false] rfl rfl (by kernel_rfl) (fun _ _ _ h => h) (Or.inl ⟨by rfl, ?_⟩) ?_ ?_
  rotate_left
  · intro w'
    go_simp
    with_reducible rfl
  rotate_left
  · simp only [Act.put, List.setIfInBounds_toArray, List.set_cons_zero, List.set_cons_succ, i64_w, i32_w]
    rfl
  refine pure_ (i := 8) (N := some 15) (v := ?_) (a' := ?_) #[true, true, true, true, true, false, false, false, true, false, false, false, false, false, false, false, false, false] rfl rfl (by kernel_rfl) (fun _ _ _ h => h) (Or.inl ⟨by rfl, ?_⟩) ?_ ?_
  rotate_left
  · intro w'
    go_simp
    with_reducible rfl
  rotate_left
  · simp only [Act.put, List.setIfInBounds_toArray, List.set_cons_zero, List.set_cons_succ, i64_w, i32_w]
    rfl
  refine pure_ (i := 9) (N := some 16) (v := ?_) (a' := ?_) #[true, true, true, true, true, false, false, false, true, true, false, false, false, false, false, false, false, false] rfl rfl (by kernel_rfl) (fun _ _ _ h => h) (Or.inl ⟨by rfl, ?_⟩) ?_ ?_
  rotate_left
  · intro w'
    go_simp
    with_reducible rfl
  rotate_left
  · simp only [Act.put, List.setIfInBounds_toArray, List.set_cons_zero, List.set_cons_succ, i64_w, i32_w]
    rfl
  refine pure_ (i := 10) (N := some 17) (v := ?_) (a' := ?_) #[true, true, true, true, true, false, false, false, true, true, true, false, false, false, false, false, false, false] rfl rfl (by kernel_rfl) (fun _ _ _ h => h) (Or.inl ⟨by rfl, ?_⟩) ?_ ?_
  rotate_left
  · intro w'
    go_simp
    with_reducible rfl
  rotate_left
  · simp only [Act.put, List.setIfInBounds_toArray, List.set_cons_zero, List.set_cons_succ, i64_w, i32_w]
    rfl
  refine pure_ (i := 11) (N := some 18) (v := ?_) (a' := ?_) #[true, true, true, true, true, false, false, false, true, true, true, true, false, false, false, false, false, false] rfl rfl (by kernel_rfl) (fun _ _ _ h => h) (Or.inl ⟨by rfl, ?_⟩) ?_ ?_
  rotate_left
  · intro w'
    go_simp
    with_reducible rfl
  rotate_left
  · simp only [Act.put, List.setIfInBounds_toArray, List.set_cons_zero, List.set_cons_succ, i64_w, i32_w]
    rfl
  refine pure_ (i := 12) (N := some 19) (v := ?_) (a' := ?_) #[true, true, true, true, true, false, false, false, true, true, true, true, true, false, false, false, false, false] rfl rfl (by kernel_rfl) (fun _ _ _ h => h) (Or.inl ⟨by rfl, ?_⟩) ?_ ?_
  rotate_left
  · intro w'
    go_simp
    with_reducible rfl
  rotate_left
  · simp only [Act.put, List.setIfInBounds_toArray, List.set_cons_zero, List.set_cons_succ, i64_w, i32_w]
    rfl
  refine take_ (i := 5) (N := some 12) (v := ?_) (a' := ?_) #[true, true, true, true, true, true, false, false, true, true, true, true, true, false, false, false, false, false] rfl rfl (by kernel_rfl) (fun _ _ _ h => h) (Or.inl ⟨by rfl, ?_⟩) hHeld ?_ ?_
  rotate_left
  · rintro w' ⟨s0, s1, s2⟩
    go_simp
    with_reducible rfl
  rotate_left
  · simp only [Act.put, List.setIfInBounds_toArray, List.set_cons_zero, List.set_cons_succ, i64_w, i32_w]
    rfl
  refine pure_ (i := 6) (N := some 13) (v := ?_) (a' := ?_) #[true, true, true, true, true, true, true, false, true, true, true, true, true, false, false, false, false, false] rfl rfl (by kernel_rfl) (fun _ _ _ h => h) (Or.inl ⟨by rfl, ?_⟩) ?_ ?_
  rotate_left
  · intro w'
    go_simp
    with_reducible rfl
  rotate_left
  · simp only [Act.put, List.setIfInBounds_toArray, List.set_cons_zero, List.set_cons_succ, i64_w, i32_w]
    rfl
  refine pure_ (i := 7) (N := some 14) (v := ?_) (a' := ?_) #[true, true, true, true, true, true, true, true, true, true, true, true, true, false, false, false, false, false] rfl rfl (by kernel_rfl) (fun _ _ _ h => h) (Or.inl ⟨by rfl, ?_⟩) ?_ ?_
  rotate_left
  · intro w'
    go_simp
    with_reducible rfl
  rotate_left
  · simp only [Act.put, List.setIfInBounds_toArray, List.set_cons_zero, List.set_cons_succ, i64_w, i32_w]
    rfl
  refine pure_ (i := 16) (N := some 1) (v := ?_) (a' := ?_) #[true, true, true, true, true, true, true, true, true, true, true, true, true, false, false, false, true, false] rfl rfl (by kernel_rfl) (fun _ _ _ h => h) (Or.inl ⟨by rfl, ?_⟩) ?_ ?_
  rotate_left
  · intro w'
    go_simp
    with_reducible rfl
  rotate_left
  · simp only [Act.put, List.setIfInBounds_toArray, List.set_cons_zero, List.set_cons_succ, i64_w, i32_w]
    rfl
  refine take_ (i := 13) (N := some 20) (v := ?_) (a' := ?_) #[true, true, true, true, true, true, true, true, true, true, true, true, true, true, false, false, true, false] rfl rfl (by kernel_rfl) (fun _ _ _ h => h) (Or.inl ⟨by rfl, ?_⟩) hHeld ?_ ?_
  rotate_left
  · rintro w' ⟨s0, s1, s2⟩
    go_simp
    with_reducible rfl
  rotate_left
  · simp only [Act.put, List.setIfInBounds_toArray, List.set_cons_zero, List.set_cons_succ, i64_w, i32_w]
    rfl
  refine pure_ (i := 14) (N := some 21) (v := ?_) (a' := ?_) #[true, true, true, true, true, true, true, true, true, true, true, true, true, true, true, false, true, false] rfl rfl (by kernel_rfl) (fun _ _ _ h => h) (Or.inl ⟨by rfl, ?_⟩) ?_ ?_
  rotate_left
  · intro w'
    go_simp
    with_reducible rfl
  rotate_left
  · simp only [Act.put, List.setIfInBounds_toArray, List.set_cons_zero, List.set_cons_succ, i64_w, i32_w]
    rfl
  refine pure_ (i := 15) (N := some 22) (v := ?_) (a' := ?_) #[true, true, true, true, true, true, true, true, true, true, true, true, true, true, true, true, true, false] rfl rfl (by kernel_rfl) (fun _ _ _ h => h) (Or.inl ⟨by rfl, ?_⟩) ?_ ?_
  rotate_left
  · intro w'
    go_simp
    with_reducible rfl
  rotate_left
  · simp only [Act.put, List.setIfInBounds_toArray, List.set_cons_zero, List.set_cons_succ, i64_w, i32_w]
    rfl
  refine pure_ (i := 17) (N := some 2) (v := ?_) (a' := ?_) #[true, true, true, true, true, true, true, true, true, true, true, true, true, true, true, true, true, true] rfl rfl (by kernel_rfl) (fun _ _ _ h => h) (Or.inl ⟨by rfl, ?_⟩) ?_ ?_
  rotate_left
  · intro w'
    go_simp
    with_reducible rfl
  rotate_left
  · simp only [Act.put, List.setIfInBounds_toArray, List.set_cons_zero, List.set_cons_succ, i64_w, i32_w]
    rfl
  refine done_ (by kernel_rfl) ?_
  have HB2 := hHeld.2.2
  have u1 := hHeld.2.1
  clear hHeld
  go_wp2
  go_ret
  exact ⟨rfl, HB2.out⟩
theorem move_num (a b R C r c u v : Nat) (ha : R = 2 ^ a) (hb : C = 2 ^ b) (hab : a + b ≤ 20) (hu : u ≤ R) (hv : v ≤ C) (hr : r < R) (hc : c < C) : mvp a b u v (r * C + c) = (r + u) % R * C + (c + v) % C ∧ Go.bits .and .i64 ((r + u : Nat) : Int) ((R - 1 : Nat) : Int) = (((r + u) % R : Nat) : Int) ∧ Go.bits .and .i64 ((c + v : Nat) : Int) ((C - 1 : Nat) : Int) = (((c + v) % C : Nat) : Int) ∧ 1 ≤ R ∧ 1 ≤ C ∧ R ≤ 1048576 ∧ C ≤ 1048576 ∧ mvp a b u v (r * C + c) ≤ 1048576 ∧ (IntKind.i64.wrap ((r : Int) + (u : Int)) = ((r + u : Nat) : Int) ∧ wrap64 ((r : Int) + (u : Int)) = ((r + u : Nat) : Int)) ∧ (IntKind.i64.wrap ((c : Int) + (v : Int)) = ((c + v : Nat) : Int) ∧ wrap64 ((c : Int) + (v : Int)) = ((c + v : Nat) : Int)) := by
  have hR0 : 1 ≤ R := by omega
  have hC0 : 1 ≤ C := by omega
  have bR : R ≤ 1048576 := by rw [ha]; exact pow20 (by omega)
  have bC : C ≤ 1048576 := by rw [hb]; exact pow20 (by omega)
  have hcc : c < 2 ^ b := by omega
  have bt : mvp a b u v (r * C + c) ≤ 1048576 := Nat.le_of_lt (Nat.lt_of_lt_of_le (mvp_lt a b u v _) (pow20 hab))
  have e1 : (r : Int) + (u : Int) = ((r + u : Nat) : Int) := by omega
  have e2 : (c : Int) + (v : Int) = ((c + v : Nat) : Int) := by omega
  have b1 : r + u ≤ 9223372036854775807 := by omega
  have b2 : c + v ≤ 9223372036854775807 := by omega
  have m1 := mask a (by omega) ((r + u : Nat) : Int)
  have m2 := mask b (by omega) ((c + v : Nat) : Int)
  rw [← ha, ← Int.natCast_emod] at m1
  rw [← hb, ← Int.natCast_emod] at m2
  refine ⟨?_, m1, m2, hR0, hC0, bR, bC, bt, wrapb e1 b1, wrapb e2 b2⟩
  obtain ⟨d1, d2⟩ := dm b r c hcc
  unfold mvp
  rw [hb, d1, d2, ha]
set_option maxHeartbeats 4000000 in
theorem move_calls (a b R C p g cg r c b0 b1 b2 u v : Nat) (xs : List Int) (ha : R = 2 ^ a) (hb : C = 2 ^ b) (hab : a + b ≤ 20) (hu : u ≤ R) (hv : v ≤ C) (hr : r < R) (hc : c < C) (w : World) (hG : Gd w p g cg (R : Int) (C : Int) xs) (h0 : Bk w b0 26 [.pointer (some ⟨p, 0, none⟩)]) (h1 : Bk w b1 3 [.int .i64 (u : Int)]) (h2 : Bk w b2 3 [.int .i64 (v : Int)]) :
    Calls Tryd.prog 92 #[.int .i64 (r : Int), .int .i64 (c : Int), .pointer (some ⟨b0, 0, none⟩), .pointer (some ⟨b1, 0, none⟩), .pointer (some ⟨b2, 0, none⟩)] w fun e w' => e = .returned (.int .i64 ((mvp a b u v (r * C + c) : Nat) : Int)) ∧ Below w.heap.size w w' := by
  obtain ⟨hm, hx, hy, hR1, hC1, bR, bC, bt, ⟨kA, kB⟩, kC, kD⟩ := move_num a b R C r c u v ha hb hab hu hv hr hc
  obtain ⟨x, hxe⟩ : ∃ z, z = r + u := ⟨_, rfl⟩
  obtain ⟨y, hye⟩ : ∃ z, z = c + v := ⟨_, rfl⟩
  obtain ⟨t, hte⟩ : ∃ z, z = mvp a b u v (r * C + c) := ⟨_, rfl⟩
  rw [← hxe] at hm hx kA kB
  rw [← hye] at hm hy kC kD
  rw [← hte] at hm bt ⊢
  have HM := Aside0.mk hm
  have HX := Aside0.mk hx
  have HY := Aside0.mk hy
  have HG0 := Aside0.mk hG
  have c0 := h0.cell 0
  have c1 := h1.cell 0
  have c2 := h2.cell 0
  clear hm hx hy hG hxe hye hte ha hb hab hu hv
  clear h0 h1 h2
  go_enter Tryd.func92, Tryd.ntmps92
  go_wp2_with fail
  refine start_ (n := 11) (S := fun w' => w'.cell? ⟨b0, 0, none⟩ = some (.pointer (some ⟨p, 0, none⟩)) ∧ w'.cell? ⟨b1, 0, none⟩ = some (.int .i64 (u : Int)) ∧ w'.cell? ⟨b2, 0, none⟩ = some (.int .i64 (v : Int)) ∧ Aside0 (Gd w' p g cg (R : Int) (C : Int) xs ∧ Below w.heap.size w w')) (ds := []) #[false, false, false, false, false, false, false, false, false, false, false] (by kernel_rfl) rfl rfl ⟨c0, c1, c2, ⟨HG0.out.drew, below_drew1 (Below.refl _ _)⟩⟩ (fun hHeld => ?_)
  refine pure_ (i := 3) (N := some 11) (v := ?_) (a' := ?_) #[false, false, false, true, false, false, false, false, false, false, false] rfl rfl (by kernel_rfl) (fun _ _ _ h => h) (Or.inl ⟨by rfl, ?_⟩) ?_ ?_
  rotate_left
  · intro w'
    go_simp
    with_reducible rfl
  rotate_left
  · simp only [Act.put, List.setIfInBounds_toArray, List.set_cons_zero, List.set_cons_succ, i64_w, i32_w]
    rfl
  refine pure_ (i := 6) (N := some 14) (v := ?_) (a' := ?_) #[false, false, false, true, false, false, true, false, false, false, false] rfl rfl (by kernel_rfl) (fun _ _ _ h => h) (Or.inl ⟨by rfl, ?_⟩) ?_ ?_
  rotate_left
  · intro w'
    go_simp
    with_reducible rfl
  rotate_left
  · simp only [Act.put, List.setIfInBounds_toArray, List.set_cons_zero, List.set_cons_succ, i64_w, i32_w]
    rfl
  refine take_ (i := 0) (N := some 8) (v := ?_) (a' := ?_) #[true, false, false, true, false, false, true, false, false, false, false] rfl rfl (by kernel_rfl) (fun _ _ _ h => h) (Or.inl ⟨by rfl, ?_⟩) hHeld ?_ ?_
  rotate_left
  · rintro w' ⟨s0, s1, s2, s3⟩
    go_simp
    with_reducible rfl
  rotate_left
  · simp only [Act.put, List.setIfInBounds_toArray, List.set_cons_zero, List.set_cons_succ, i64_w, i32_w]
    rfl
  refine pure_ (i := 1) (N := some 9) (v := ?_) (a' := ?_) #[true, true, false, true, false, false, true, false, false, false, false] rfl rfl (by kernel_rfl) (fun _ _ _ h => h) (Or.inl ⟨by rfl, ?_⟩) ?_ ?_
  rotate_left
  · intro w'
    go_simp
    with_reducible rfl
  rotate_left
  · simp only [Act.put, List.setIfInBounds_toArray, List.set_cons_zero, List.set_cons_succ, i64_w, i32_w]
    rfl
  refine pure_ (i := 2) (N := some 10) (v := ?_) (a' := ?_) #[true, true, true, true, false, false, true, false, false, false, false] rfl rfl (by kernel_rfl) (fun _ _ _ h => h) (Or.inl ⟨by rfl, ?_⟩) ?_ ?_
  rotate_left
  · intro w'
    go_simp
    with_reducible rfl
  rotate_left
  · simp only [Act.put, List.setIfInBounds_toArray, List.set_cons_zero, List.set_cons_succ, i64_w, i32_w]
    rfl
  refine take_ (i := 4) (N := some 12) (v := ?_) (a' := ?_) #[true, true, true, true, true, false, true, false, false, false, false] rfl rfl (by kernel_rfl) (fun _ _ _ h => h) (Or.inl ⟨by rfl, ?_⟩) hHeld ?_ ?_
  rotate_left
  · rintro w' ⟨s0, s1, s2, s3⟩
    go_simp
    with_reducible rfl
  rotate_left
  · simp only [Act.put, List.setIfInBounds_toArray, List.set_cons_zero, List.set_cons_succ, i64_w, i32_w]
    rfl
  refine pure_ (i := 5) (N := some 13) (v := ?_) (a' := ?_) #[true, true, true, true, true, true, true, false, false, false, false] rfl rfl (by kernel_rfl) (fun _ _ _ h => h) (Or.inl ⟨by rfl, ?_⟩) ?_ ?_
  rotate_left
  · intro w'
    go_simp
    with_reducible rfl
  rotate_left
  · simp only [Act.put, List.setIfInBounds_toArray, List.set_cons_zero, List.set_cons_succ, i64_w, i32_w]
    rfl
  refine take_ (i := 7) (N := some 15) (v := ?_) (a' := ?_) #[true, true, true, true, true, true, true, true, false, false, false] rfl rfl (by kernel_rfl) (fun _ _ _ h => h) (Or.inl ⟨by rfl, ?_⟩) hHeld ?_ ?_
  rotate_left
  · rintro w' ⟨s0, s1, s2, s3⟩
    go_simp
    with_reducible rfl
  rotate_left
  · simp only [Act.put, List.setIfInBounds_toArray, List.set_cons_zero, List.set_cons_succ, i64_w, i32_w]
    rfl
  refine pure_ (i := 8) (N := some 16) (v := ?_) (a' := ?_) #[true, true, true, true, true, true, true, true, true, false, false] rfl rfl (by kernel_rfl) (fun _ _ _ h => h) (Or.inl ⟨by rfl, ?_⟩) ?_ ?_
  rotate_left
  · intro w'
    go_simp
    with_reducible rfl
  rotate_left
  · simp only [Act.put, List.setIfInBounds_toArray, List.set_cons_zero, List.set_cons_succ, i64_w, i32_w]
    rfl
  refine one_ (i := 9) (N := some 17) #[true, true, true, true, true, true, true, true, true, true, false] rfl rfl (by kernel_rfl) (by decide) (fun K hK => ?_)
  refine goes_ Tryd.func93 (by kernel_rfl) rfl #[.pointer (some ⟨p, 0, none⟩), .int .i64 (x : Int), .int .i64 (y : Int)] (by rfl) rfl rfl (by simp only [List.map_toArray, List.map_cons, List.map_nil]; rfl) ?_
  with_reducible refine (ground p R C (x % R) (y % C) t (x : Int) (y : Int) hR1 hC1 bR bC HX.out HY.out HM.out bt _ hHeld.2.2.2.out.1.c0 hHeld.2.2.2.out.1.c1).mono ?_
  rintro e w2 ⟨rfl, hb⟩
  refine ⟨_, rfl, ?_⟩
  have HG2 := Aside0.mk (hHeld.2.2.2.out.1.below hb)
  have HB2 := Aside0.mk (below_then hHeld.2.2.2.out.2 hHeld.2.2.2.out.2.size hb)
  have n0 := pw_cell_below hb hHeld.1
  have n1 := pw_cell_below hb hHeld.2.1
  have n2 := pw_cell_below hb hHeld.2.2.1
  clear hHeld hb
  refine hK.out _ _ ⟨n0, n1, n2, ⟨HG2.out, HB2.out⟩⟩ (fun hHeld => ?_)
  clear hK K
  refine norm_ (a' := ?_) ?_ ?_
  rotate_left
  · show Act.put _ (some 17) _ = _
    simp only [Act.put, List.setIfInBounds_toArray, List.set_cons_zero, List.set_cons_succ, i64_w, i32_w]
    rfl
  refine pure_ (i := 10) (N := some 7) (v := ?_) (a' := ?_) #[true, true, true, true, true, true, true, true, true, true, true] rfl rfl (by kernel_rfl) (fun _ _ _ h => h) (Or.inl ⟨by rfl, ?_⟩) ?_ ?_
  rotate_left
  · intro w'
    go_simp
    with_reducible rfl
  rotate_left
  · simp only [Act.put, List.setIfInBounds_toArray, List.set_cons_zero, List.set_cons_succ, i64_w, i32_w]
    rfl
  refine done_ (by kernel_rfl) ?_
  clear hHeld
  go_wp2
  go_ret
  exact ⟨rfl, HB2.out⟩
theorem flip_num (a b R C r c : Nat) (ha : R = 2 ^ a) (hb : C = 2 ^ b) (hab : a + b ≤ 20) (hr : r < R) (hc : c < C) : flp a b (r * C + c) = (R - r) % R * C + (C - c) % C ∧ Go.bits .and .i64 ((R - r : Nat) : Int) ((R - 1 : Nat) : Int) = (((R - r) % R : Nat) : Int) ∧ Go.bits .and .i64 ((C - c : Nat) : Int) ((C - 1 : Nat) : Int) = (((C - c) % C : Nat) : Int) ∧ 1 ≤ R ∧ 1 ≤ C ∧ R ≤ 1048576 ∧ C ≤ 1048576 ∧ flp a b (r * C + c) ≤ 1048576 ∧ (IntKind.i64.wrap ((R : Int) - (r : Int)) = ((R - r : Nat) : Int) ∧ wrap64 ((R : Int) - (r : Int)) = ((R - r : Nat) : Int)) ∧ (IntKind.i64.wrap ((C : Int) - (c : Int)) = ((C - c : Nat) : Int) ∧ wrap64 ((C : Int) - (c : Int)) = ((C - c : Nat) : Int)) := by
  have hR0 : 1 ≤ R := by omega
  have hC0 : 1 ≤ C := by omega
  have bR : R ≤ 1048576 := by rw [ha]; exact pow20 (by omega)
  have bC : C ≤ 1048576 := by rw [hb]; exact pow20 (by omega)
  have hcc : c < 2 ^ b := by omega
  have bt : flp a b (r * C + c) ≤ 1048576 := Nat.le_of_lt (Nat.lt_of_lt_of_le (flp_lt a b _) (pow20 hab))
  have e1 : (R : Int) - (r : Int) = ((R - r : Nat) : Int) := by omega
  have e2 : (C : Int) - (c : Int) = ((C - c : Nat) : Int) := by omega
  have b1 : R - r ≤ 9223372036854775807 := by omega
  have b2 : C - c ≤ 9223372036854775807 := by omega
  have m1 := mask a (by omega) ((R - r : Nat) : Int)
  have m2 := mask b (by omega) ((C - c : Nat) : Int)
  rw [← ha, ← Int.natCast_emod] at m1
  rw [← hb, ← Int.natCast_emod] at m2
  refine ⟨?_, m1, m2, hR0, hC0, bR, bC, bt, wrapb e1 b1, wrapb e2 b2⟩
  obtain ⟨d1, d2⟩ := dm b r c hcc
  unfold flp
  rw [hb, d1, d2, ha]
set_option maxHeartbeats 4000000 in
theorem flip_calls (a b R C p g cg r c b0 : Nat) (xs : List Int) (ha : R = 2 ^ a) (hb : C = 2 ^ b) (hab : a + b ≤ 20) (hr : r < R) (hc : c < C) (w : World) (hG : Gd w p g cg (R : Int) (C : Int) xs) (h0 : Bk w b0 26 [.pointer (some ⟨p, 0, none⟩)]) :
    Calls Tryd.prog 94 #[.int .i64 (r : Int), .int .i64 (c : Int), .pointer (some ⟨b0, 0, none⟩)] w fun e w' => e = .returned (.int .i64 ((flp a b (r * C + c) : Nat) : Int)) ∧ Below w.heap.size w w' := by
  obtain ⟨hm, hx, hy, hR1, hC1, bR, bC, bt, ⟨kA, kB⟩, kC, kD⟩ := flip_num a b R C r c ha hb hab hr hc
  obtain ⟨x, hxe⟩ : ∃ z, z = R - r := ⟨_, rfl⟩
  obtain ⟨y, hye⟩ : ∃ z, z = C - c := ⟨_, rfl⟩
  obtain ⟨t, hte⟩ : ∃ z, z = flp a b (r * C + c) := ⟨_, rfl⟩
  rw [← hxe] at hm hx kA kB
  rw [← hye] at hm hy kC kD
  rw [← hte] at hm bt ⊢
  have HM := Aside0.mk hm
  have HX := Aside0.mk hx
  have HY := Aside0.mk hy
  have HG0 := Aside0.mk hG
  have c0 := h0.cell 0
  have d0 := hG.c0
  have d1 := hG.c1
  clear hm hx hy hG hxe hye hte ha hb hab
  clear h0
  go_enter Tryd.func94, Tryd.ntmps94
  go_wp2_with fail
  refine start_ (n := 21) (S := fun w' => w'.cell? ⟨b0, 0, none⟩ = some (.pointer (some ⟨p, 0, none⟩)) ∧ w'.cell? ⟨p, 0, none⟩ = some (.int .i64 (R : Int)) ∧ w'.cell? ⟨p, 1, none⟩ = some (.int .i64 (C : Int)) ∧ Aside0 (Gd w' p g cg (R : Int) (C : Int) xs ∧ Below w.heap.size w w')) (ds := []) #[false, false, false, false, false, false, false, false, false, false, false, false, false, false, false, false, false, false, false, false, false] (by kernel_rfl) rfl rfl ⟨c0, d0, d1, ⟨HG0.out.drew, below_drew1 (Below.refl _ _)⟩⟩ (fun hHeld => ?_)
  refine pure_ (i := 9) (N := some 15) (v := ?_) (a' := ?_) #[false, false, false, false, false, false, false, false, false, true, false, false, false, false, false, false, false, false, false, false, false] rfl rfl (by kernel_rfl) (fun _ _ _ h => h) (Or.inl ⟨by rfl, ?_⟩) ?_ ?_
  rotate_left
  · intro w'
    go_simp
    with_reducible rfl
  rotate_left
  · simp only [Act.put, List.setIfInBounds_toArray, List.set_cons_zero, List.set_cons_succ, i64_w, i32_w]
    rfl
  refine pure_ (i := 17) (N := some 23) (v := ?_) (a' := ?_) #[false, false, false, false, false, false, false, false, false, true, false, false, false, false, false, false, false, true, false, false, false] rfl rfl (by kernel_rfl) (fun _ _ _ h => h) (Or.inl ⟨by rfl, ?_⟩) ?_ ?_
  rotate_left
  · intro w'
    go_simp
    with_reducible rfl
  rotate_left
  · simp only [Act.put, List.setIfInBounds_toArray, List.set_cons_zero, List.set_cons_succ, i64_w, i32_w]
    rfl
  refine take_ (i := 0) (N := some 6) (v := ?_) (a' := ?_) #[true, false, false, false, false, false, false, false, false, true, false, false, false, false, false, false, false, true, false, false, false] rfl rfl (by kernel_rfl) (fun _ _ _ h => h) (Or.inl ⟨by rfl, ?_⟩) hHeld ?_ ?_
  rotate_left
  · rintro w' ⟨s0, s1, s2, s3⟩
    go_simp
    with_reducible rfl
  rotate_left
  · simp only [Act.put, List.setIfInBounds_toArray, List.set_cons_zero, List.set_cons_succ, i64_w, i32_w]
    rfl
  refine pure_ (i := 1) (N := some 7) (v := ?_) (a' := ?_) #[true, true, false, false, false, false, false, false, false, true, false, false, false, false, false, false, false, true, false, false, false] rfl rfl (by kernel_rfl) (fun _ _ _ h => h) (Or.inl ⟨by rfl, ?_⟩) ?_ ?_
  rotate_left
  · intro w'
    go_simp
    with_reducible rfl
  rotate_left
  · simp only [Act.put, List.setIfInBounds_toArray, List.set_cons_zero, List.set_cons_succ, i64_w, i32_w]
    rfl
  refine pure_ (i := 2) (N := some 8) (v := ?_) (a' := ?_) #[true, true, true, false, false, false, false, false, false, true, false, false, false, false, false, false, false, true, false, false, false] rfl rfl (by kernel_rfl) (fun _ _ _ h => h) (Or.inl ⟨by rfl, ?_⟩) ?_ ?_
  rotate_left
  · intro w'
    go_simp
    with_reducible rfl
  rotate_left
  · simp only [Act.put, List.setIfInBounds_toArray, List.set_cons_zero, List.set_cons_succ, i64_w, i32_w]
    rfl
  refine take_ (i := 3) (N := some 9) (v := ?_) (a' := ?_) #[true, true, true, true, false, false, false, false, false, true, false, false, false, false, false, false, false, true, false, false, false] rfl rfl (by kernel_rfl) (fun _ _ _ h => h) (Or.inl ⟨by rfl, ?_⟩) hHeld ?_ ?_
  rotate_left
  · rintro w' ⟨s0, s1, s2, s3⟩
    go_simp
    with_reducible rfl
  rotate_left
  · simp only [Act.put, List.setIfInBounds_toArray, List.set_cons_zero, List.set_cons_succ, i64_w, i32_w]
    rfl
  refine pure_ (i := 4) (N := some 10) (v := ?_) (a' := ?_) #[true, true, true, true, true, false, false, false, false, true, false, false, false, false, false, false, false, true, false, false, false] rfl rfl (by kernel_rfl) (fun _ _ _ h => h) (Or.inl ⟨by rfl, ?_⟩) ?_ ?_
  rotate_left
  · intro w'
    go_simp
    with_reducible rfl
  rotate_left
  · simp only [Act.put, List.setIfInBounds_toArray, List.set_cons_zero, List.set_cons_succ, i64_w, i32_w]
    rfl
  refine pure_ (i := 5) (N := some 11) (v := ?_) (a' := ?_) #[true, true, true, true, true, true, false, false, false, true, false, false, false, false, false, false, false, true, false, false, false] rfl rfl (by kernel_rfl) (fun _ _ _ h => h) (Or.inl ⟨by rfl, ?_⟩) ?_ ?_
  rotate_left
  · intro w'
    go_simp
    with_reducible rfl
  rotate_left
  · simp only [Act.put, List.setIfInBounds_toArray, List.set_cons_zero, List.set_cons_succ, i64_w, i32_w]
    rfl
  refine pure_ (i := 6) (N := some 12) (v := ?_) (a' := ?_) #[true, true, true, true, true, true, true, false, false, true, false, false, false, false, false, false, false, true, false, false, false] rfl rfl (by kernel_rfl) (fun _ _ _ h => h) (Or.inl ⟨by rfl, ?_⟩) ?_ ?_
  rotate_left
  · intro w'
    go_simp
    with_reducible rfl
  rotate_left
  · simp only [Act.put, List.setIfInBounds_toArray, List.set_cons_zero, List.set_cons_succ, i64_w, i32_w]
    rfl
  refine pure_ (i := 7) (N := some 13) (v := ?_) (a' := ?_) #[true, true, true, true, true, true, true, true, false, true, false, false, false, false, false, false, false, true, false, false, false] rfl rfl (by kernel_rfl) (fun _ _ _ h => h) (Or.inl ⟨by rfl, ?_⟩) ?_ ?_
  rotate_left
  · intro w'
    go_simp
    with_reducible rfl
  rotate_left
  · simp only [Act.put, List.setIfInBounds_toArray, List.set_cons_zero, List.set_cons_succ, i64_w, i32_w]
    rfl
  refine take_ (i := 8) (N := some 14) (v := ?_) (a' := ?_) #[true, true, true, true, true, true, true, true, true, true, false, false, false, false, false, false, false, true, false, false, false] rfl rfl (by kernel_rfl) (fun _ _ _ h => h) (Or.inl ⟨by rfl, ?_⟩) hHeld ?_ ?_
  rotate_left
  · rintro w' ⟨s0, s1, s2, s3⟩
    go_simp
    with_reducible rfl
  rotate_left
  · simp only [Act.put, List.setIfInBounds_toArray, List.set_cons_zero, List.set_cons_succ, i64_w, i32_w]
    rfl
  refine pure_ (i := 10) (N := some 16) (v := ?_) (a' := ?_) #[true, true, true, true, true, true, true, true, true, true, true, false, false, false, false, false, false, true, false, false, false] rfl rfl (by kernel_rfl) (fun _ _ _ h => h) (Or.inl ⟨by rfl, ?_⟩) ?_ ?_
  rotate_left
  · intro w'
    go_simp
    with_reducible rfl
  rotate_left
  · simp only [Act.put, List.setIfInBounds_toArray, List.set_cons_zero, List.set_cons_succ, i64_w, i32_w]
    rfl
  refine take_ (i := 11) (N := some 17) (v := ?_) (a' := ?_) #[true, true, true, true, true, true, true, true, true, true, true, true, false, false, false, false, false, true, false, false, false] rfl rfl (by kernel_rfl) (fun _ _ _ h => h) (Or.inl ⟨by rfl, ?_⟩) hHeld ?_ ?_
  rotate_left
  · rintro w' ⟨s0, s1, s2, s3⟩
    go_simp
    with_reducible rfl
  rotate_left
  · simp only [Act.put, List.setIfInBounds_toArray, List.set_cons_zero, List.set_cons_succ, i64_w, i32_w]
    rfl
  refine pure_ (i := 12) (N := some 18) (v := ?_) (a' := ?_) #[true, true, true, true, true, true, true, true, true, true, true, true, true, false, false, false, false, true, false, false, false] rfl rfl (by kernel_rfl) (fun _ _ _ h => h) (Or.inl ⟨by rfl, ?_⟩) ?_ ?_
  rotate_left
  · intro w'
    go_simp
    with_reducible rfl
  rotate_left
  · simp only [Act.put, List.setIfInBounds_toArray, List.set_cons_zero, List.set_cons_succ, i64_w, i32_w]
    rfl
  refine pure_ (i := 13) (N := some 19) (v := ?_) (a' := ?_) #[true, true, true, true, true, true, true, true, true, true, true, true, true, true, false, false, false, true, false, false, false] rfl rfl (by kernel_rfl) (fun _ _ _ h => h) (Or.inl ⟨by rfl, ?_⟩) ?_ ?_
  rotate_left
  · intro w'
    go_simp
    with_reducible rfl
  rotate_left
  · simp only [Act.put, List.setIfInBounds_toArray, List.set_cons_zero, List.set_cons_succ, i64_w, i32_w]
    rfl
  refine pure_ (i := 14) (N := some 20) (v := ?_) (a' := ?_) #[true, true, true, true, true, true, true, true, true, true, true, true, true, true, true, false, false, true, false, false, false] rfl rfl (by kernel_rfl) (fun _ _ _ h => h) (Or.inl ⟨by rfl, ?_⟩) ?_ ?_
  rotate_left
  · intro w'
    go_simp
    with_reducible rfl
  rotate_left
  · simp only [Act.put, List.setIfInBounds_toArray, List.set_cons_zero, List.set_cons_succ, i64_w, i32_w]
    rfl
  refine pure_ (i := 15) (N := some 21) (v := ?_) (a' := ?_) #[true, true, true, true, true, true, true, true, true, true, true, true, true, true, true, true, false, true, false, false, false] rfl rfl (by kernel_rfl) (fun _ _ _ h => h) (Or.inl ⟨by rfl, ?_⟩) ?_ ?_
  rotate_left
  · intro w'
    go_simp
    with_reducible rfl
  rotate_left
  · simp only [Act.put, List.setIfInBounds_toArray, List.set_cons_zero, List.set_cons_succ, i64_w, i32_w]
    rfl
  refine take_ (i := 16) (N := some 22) (v := ?_) (a' := ?_) #[true, true, true, true, true, true, true, true, true, true, true, true, true, true, true, true, true, true, false, false, false] rfl rfl (by kernel_rfl) (fun _ _ _ h => h) (Or.inl ⟨by rfl, ?_⟩) hHeld ?_ ?_
  rotate_left
  · rintro w' ⟨s0, s1, s2, s3⟩
    go_simp
    with_reducible rfl
  rotate_left
  · simp only [Act.put, List.setIfInBounds_toArray, List.set_cons_zero, List.set_cons_succ, i64_w, i32_w]
    rfl
  refine pure_ (i := 18) (N := some 24) (v := ?_) (a' := ?_) #[true, true, true, true, true, true, true, true, true, true, true, true, true, true, true, true, true, true, true, false, false] rfl rfl (by kernel_rfl) (fun _ _ _ h => h) (Or.inl ⟨by rfl, ?_⟩) ?_ ?_
  rotate_left
  · intro w'
    go_simp
    with_reducible rfl
  rotate_left
  · simp only [Act.put, List.setIfInBounds_toArray, List.set_cons_zero, List.set_cons_succ, i64_w, i32_w]
    rfl
  refine one_ (i := 19) (N := some 25) #[true, true, true, true, true, true, true, true, true, true, true, true, true, true, true, true, true, true, true, true, false] rfl rfl (by kernel_rfl) (by decide) (fun K hK => ?_)
  refine goes_ Tryd.func93 (by kernel_rfl) rfl #[.pointer (some ⟨p, 0, none⟩), .int .i64 (x : Int), .int .i64 (y : Int)] (by rfl) rfl rfl (by simp only [List.map_toArray, List.map_cons, List.map_nil]; rfl) ?_
  with_reducible refine (ground p R C (x % R) (y % C) t (x : Int) (y : Int) hR1 hC1 bR bC HX.out HY.out HM.out bt _ hHeld.2.2.2.out.1.c0 hHeld.2.2.2.out.1.c1).mono ?_
  rintro e w2 ⟨rfl, hb⟩
  refine ⟨_, rfl, ?_⟩
  have HG2 := Aside0.mk (hHeld.2.2.2.out.1.below hb)
  have HB2 := Aside0.mk (below_then hHeld.2.2.2.out.2 hHeld.2.2.2.out.2.size hb)
  have n0 := pw_cell_below hb hHeld.1
  have n1 := pw_cell_below hb hHeld.2.1
  have n2 := pw_cell_below hb hHeld.2.2.1
  clear hHeld hb
  refine hK.out _ _ ⟨n0, n1, n2, ⟨HG2.out, HB2.out⟩⟩ (fun hHeld => ?_)
  clear hK K
  refine norm_ (a' := ?_) ?_ ?_
  rotate_left
  · show Act.put _ (some 25) _ = _
    simp only [Act.put, List.setIfInBounds_toArray, List.set_cons_zero, List.set_cons_succ, i64_w, i32_w]
    rfl
  refine pure_ (i := 20) (N := some 5) (v := ?_) (a' := ?_) #[true, true, true, true, true, true, true, true, true, true, true, true, true, true, true, true, true, true, true, true, true] rfl rfl (by kernel_rfl) (fun _ _ _ h => h) (Or.inl ⟨by rfl, ?_⟩) ?_ ?_
  rotate_left
  · intro w'
    go_simp
    with_reducible rfl
  rotate_left
  · simp only [Act.put, List.setIfInBounds_toArray, List.set_cons_zero, List.set_cons_succ, i64_w, i32_w]
    rfl
  refine done_ (by kernel_rfl) ?_
  clear hHeld
  go_wp2
  go_ret
  exact ⟨rfl, HB2.out⟩
end Go.Proofs.YtpnkcjnemoompaaDoor.Grid
end
