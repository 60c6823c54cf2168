import Derived.Test.YtpnkcjnemoompaaGreatDoorPa4
import Derived.Test.YtpnkcjnemoompaaGreatDoorProg
import Derived.Below
import Derived.Deep.Draws
import Derived.Deep.AppendLies
import Derived.Maps.AppendAt
import Derived.OwnWalk
import Derived.Laws.BytesArg
import Derived.Laws.MakeOwn
import Derived.Laws.OwnMore
import Derived.Deep.OwnRows
import Derived.Tactics
import Derived.Lib.ConvBytes
import Derived.Laws.Slices
import Derived.WalkKit
import Derived.KernelRfl
import Derived.RowKit3
import Derived.Deep.LoopGhost
import Derived.Deep.QuietTactic
import Derived.BigQuiet
import Derived.WideLaws
import Derived.Deep.DeepCutAuto
import Derived.Deep.CutBlock
import Derived.Deep.RegionHeld3
import Derived.Laws.Rows
import Derived.Lib.AppendStr
import Derived.ArgAppend
import Derived.Laws.IdiomCopy
import Derived.RowKit
import Derived.OrdersHeld
import Derived.Laws.BitsLemmas
import Derived.Laws.CopyOwn
import Derived.Lib.Hide
import Derived.Shelf.Spec.TrailingZeros
import Derived.Lib.LaidTab
import Derived.Shelf.Strings.Builder1
import Derived.Shelf.Strings.Builder2
import Derived.Shelf.Strings.OnBuilder
import Derived.Shelf.Strings.BuilderF
import Derived.Shelf.Strings.BuilderK
import Derived.Shelf.Strings.Builder2Cap
import Derived.Shelf.Strconv.Itoa0
import Derived.Shelf.Strconv.Itoa1
import Derived.Shelf.LaysM
import Derived.Shelf.Strconv.Itoa2
import Derived.Shelf.Strconv.Itoa3
import Derived.Shelf.Bits.Mul64
import Derived.Shelf.Strings.BuilderCap
import Derived.Ground.SlgnProg
import Derived.Shelf.SlicesE.Clone
import Derived.Laws.StructEq
import Derived.Shelf.Spec.BitsCarry
import Derived.Laws.BitsAllLaws
import Derived.OpenShut
import Derived.StillTailTactics
import Derived.Outline
import Derived.RegionTactic
import Derived.ChangeAlike
import Derived.BigRegion
/-! Texts of this claim, joined: KernC, KernD, KernE. -/
section
namespace Go.Proofs.YtpnkcjnemoompaaGreatDoor.Kern
open Go.RowKit Go.Proofs.YtpnkcjnemoompaaGreatDoor Go.Proofs.YtpnkcjnemoompaaGreatDoor.Ext Go.Proofs.YtpnkcjnemoompaaGreatDoor.PPlan Go.Proofs.YtpnkcjnemoompaaGreatDoor.PFft Go.Proofs.YtpnkcjnemoompaaGreatDoor.Pure Go.Proofs.YtpnkcjnemoompaaGreatDoor.Obj Go.Proofs.YtpnkcjnemoompaaGreatDoor.Fft Go.Proofs.YtpnkcjnemoompaaGreatDoorW.PrintWords Go.Proofs.YtpnkcjnemoompaaGreatDoorW.PrintLast Go.Proofs.YtpnkcjnemoompaaGreatDoorW.PrintMore
set_option linter.unusedVariables false
set_option linter.unusedSimpArgs false
set_option maxRecDepth 100000
theorem wrapb {x : Int} {a : Nat} (h : x = (a : Int)) (ha : a ≤ 9223372036854775807) : IntKind.i64.wrap x = (a : Int) ∧ wrap64 x = (a : Int) := by rw [i64_w]; exact ⟨wrapn h ha, wrapn h ha⟩
def tgq (s m : Nat) (W U : F) (f : Nat → F) (i q r : Nat) : F := crs (f (q + s * i)) (f (q + s * (i + m))) (f (q + s * (i + 2 * m))) (f (q + s * (i + 3 * m))) U r * pw W (s * (i * r))
def Dn (s m : Nat) (tg : Nat → Nat → Nat → F) (ys : List Int) (i q : Nat) : Prop := ∀ i' q' r, q' < s → r < 4 → i' < m → (i' < i ∨ i' = i ∧ q' < q) → ys.getD (q' + s * (4 * i' + r)) 0 = fv (tg i' q' r)
theorem Dn.start (s m : Nat) (tg : Nat → Nat → Nat → F) (ys : List Int) : Dn s m tg ys 0 0 := fun i' q' r _ _ _ h => by omega
theorem Dn.row {s m : Nat} {tg : Nat → Nat → Nat → F} {ys : List Int} {i : Nat} (h : Dn s m tg ys i s) : Dn s m tg ys (i + 1) 0 := fun i' q' r hq hr hi h' => h i' q' r hq hr hi (by omega)
theorem place_inj {s a b x y : Nat} (ha : a < s) (hb : b < s) (h : a + s * x = b + s * y) : a = b ∧ x = y := by
  have h1 : (a + s * x) % s = a := by rw [Nat.add_mul_mod_self_left, Nat.mod_eq_of_lt ha]
  have h2 : (b + s * y) % s = b := by rw [Nat.add_mul_mod_self_left, Nat.mod_eq_of_lt hb]
  have e : a = b := by rw [← h1, h, h2]
  subst e
  exact ⟨rfl, Nat.eq_of_mul_eq_mul_left (by omega) (Nat.add_left_cancel h)⟩
theorem getD_set (ys : List Int) (i j : Nat) (v : Int) (hi : i < ys.length) : (ys.set i v).getD j 0 = if j = i then v else ys.getD j 0 := by
  simp only [List.getD_eq_getElem?_getD, List.getElem?_set]
  by_cases h : i = j
  · subst h; simp [hi]
  · rw [if_neg h, if_neg (fun e => h e.symm)]
theorem Dn.step {s m : Nat} {tg : Nat → Nat → Nat → F} {ys : List Int} {i q : Nat} (h : Dn s m tg ys i q) (hq : q < s) (hi : i < m) (hl : ∀ r, r < 4 → q + s * (4 * i + r) < ys.length) :
    Dn s m tg ((((ys.set (q + s * (4 * i)) (fv (tg i q 0))).set (q + s * (4 * i + 1)) (fv (tg i q 1))).set (q + s * (4 * i + 2)) (fv (tg i q 2))).set (q + s * (4 * i + 3)) (fv (tg i q 3))) i (q + 1) := by
  intro i' q' r hq' hr hi' h'
  have l0 := hl 0 (by omega)
  have l1 := hl 1 (by omega)
  have l2 := hl 2 (by omega)
  have l3 := hl 3 (by omega)
  rw [Nat.add_zero] at l0
  rw [getD_set _ _ _ _ (by simp only [List.length_set]; exact l3), getD_set _ _ _ _ (by simp only [List.length_set]; exact l2), getD_set _ _ _ _ (by simp only [List.length_set]; exact l1), getD_set _ _ _ _ l0]
  have key : ∀ r', q' + s * (4 * i' + r) = q + s * (4 * i + r') → r' < 4 → i' = i ∧ q' = q ∧ r = r' := fun r' e hr' => by
    obtain ⟨e1, e2⟩ := place_inj hq' hq e
    omega
  by_cases c3 : q' + s * (4 * i' + r) = q + s * (4 * i + 3)
  · obtain ⟨rfl, rfl, rfl⟩ := key 3 c3 (by omega)
    rw [if_pos rfl]
  rw [if_neg c3]
  by_cases c2 : q' + s * (4 * i' + r) = q + s * (4 * i + 2)
  · obtain ⟨rfl, rfl, rfl⟩ := key 2 c2 (by omega)
    rw [if_pos rfl]
  rw [if_neg c2]
  by_cases c1 : q' + s * (4 * i' + r) = q + s * (4 * i + 1)
  · obtain ⟨rfl, rfl, rfl⟩ := key 1 c1 (by omega)
    rw [if_pos rfl]
  rw [if_neg c1]
  by_cases c0 : q' + s * (4 * i' + r) = q + s * (4 * i)
  · obtain ⟨rfl, rfl, rfl⟩ := key 0 c0 (by omega)
    exact if_pos rfl
  rw [if_neg c0]
  refine h i' q' r hq' hr hi' ?_
  rcases h' with h' | ⟨rfl, h'⟩
  · exact .inl h'
  · refine .inr ⟨rfl, ?_⟩
    by_cases e : q' = q
    · subst e
      rcases (by omega : r = 0 ∨ r = 1 ∨ r = 2 ∨ r = 3) with rfl | rfl | rfl | rfl
      · exact absurd rfl c0
      · exact absurd rfl c1
      · exact absurd rfl c2
      · exact absurd rfl c3
    · omega
structure Qst (w0 w : World) (P gp cp gs cs gd cd bp bn bs n s N : Nat) (W U : F) (f : Nat → F) (ys : List Int) : Prop where
  ps : Bk w P 151 [.slice (some ⟨gp, 0, none⟩) N cp, .int .u64 (fv U), .slice (some ⟨gs, 0, none⟩) N cs, .slice (some ⟨gd, 0, none⟩) N cd]
  pow : Mr w gp cp (tb N (pw W))
  src : Mr w gs cs (tb N f)
  dst : Mr w gd cd ys
  len : ys.length = N
  bp : Bk w bp 149 [.pointer (some ⟨P, 0, none⟩)]
  bn : Bk w bn 3 [.int .i64 (n : Int)]
  bs : Bk w bs 3 [.int .i64 (s : Int)]
  fr : Fr w0 w [gd]
  n1 : gd ≠ gp
  n2 : gd ≠ gs
section
variable {w0 w w1 : World} {P gp cp gs cs gd cd bp bn bs n s N : Nat} {W U : F} {f : Nat → F} {ys : List Int}
theorem Qst.below (h : Qst w0 w P gp cp gs cs gd cd bp bn bs n s N W U f ys) (hb : Below w.heap.size w w1) : Qst w0 w1 P gp cp gs cs gd cd bp bn bs n s N W U f ys :=
  ⟨h.ps.below hb, h.pow.below hb, h.src.below hb, h.dst.below hb, h.len, h.bp.below hb, h.bn.below hb, h.bs.below hb, h.fr.trans (Fr.of_below hb [gd]), h.n1, h.n2⟩
theorem Qst.put (h : Qst w0 w P gp cp gs cs gd cd bp bn bs n s N W U f ys) (i : Nat) (x : Int) : Qst w0 (w.setCell ⟨gd, i, none⟩ (.int .u64 x)) P gp cp gs cs gd cd bp bn bs n s N W U f (ys.set i x) :=
  ⟨h.ps.far i _ (h.dst.ne h.ps (by decide)), h.pow.far _ _ _ (Ne.symm h.n1), h.src.far _ _ _ (Ne.symm h.n2), h.dst.put i x, by rw [List.length_set]; exact h.len, h.bp.far i _ (h.dst.ne h.bp (by decide)), h.bn.far i _ (h.dst.ne h.bn (by decide)), h.bs.far i _ (h.dst.ne h.bs (by decide)), h.fr.set gd i _ (.inl (by simp)), h.n1, h.n2⟩
end
theorem place_lt {q s x n N : Nat} (hq : q < s) (hx : x < n) (hN : n * s = N) : q + s * x < N := by
  have h1 : s * (x + 1) ≤ s * n := Nat.mul_le_mul_left s hx
  rw [Nat.mul_comm s n, hN, Nat.mul_add, Nat.mul_one] at h1
  omega
theorem at_q (j : Int) (jn i q a2 m bq bi : Nat) {w0 w : World} {P gp cp gs cs gd cd bp bn bs n s N : Nat} {W U : F} {f : Nat → F} {ys : List Int} (h : Qst w0 w P gp cp gs cs gd cd bp bn bs n s N W U f ys) (hq : Bk w bq 3 [.int .i64 (q : Int)]) (hi : Bk w bi 3 [.int .i64 (i : Int)])
    (ej : j = (jn : Int)) (hj : jn < 4) (him : i < m) (hqs : q < s) (hn : n = 4 * m) (hN : n * s = N) (hN2 : N ≤ 1048576) (e2 : i + jn * m = a2) (hn2 : n ≤ 1048576) :
    Calls Tryz.prog 110 #[.int .i64 j, .pointer (some ⟨bp, 0, none⟩), .pointer (some ⟨bq, 0, none⟩), .pointer (some ⟨bs, 0, none⟩), .pointer (some ⟨bi, 0, none⟩), .pointer (some ⟨bn, 0, none⟩)] w fun e w' => e = .returned (.int .u64 (fv (f (q + s * a2)))) ∧ Below w.heap.size w w' := by
  have ha : a2 < n := by
    rcases (by omega : jn = 0 ∨ jn = 1 ∨ jn = 2 ∨ jn = 3) with rfl | rfl | rfl | rfl <;> omega
  have ht := place_lt hqs ha hN
  have hv := h.src.cell (q + s * a2) (by rw [tb_len]; exact ht)
  rw [tb_get f ht] at hv
  exact (at_calls j jn i q s m n N _ a2 _ _ P gs cs bp bq bs bi bn _ w ej hn rfl e2 rfl rfl ht hN2 (by omega) hn2 (h.bp.cell 0) (h.ps.cell 2) (hq.cell 0) (h.bs.cell 0) (hi.cell 0) (h.bn.cell 0) hv).mono fun e w' ⟨he, k, hk⟩ => ⟨he, by rw [hk]; exact pw_below_drewN (Below.refl _ _) k⟩
structure Cst (w0 w : World) (P gp cp gs cs gd cd bp bn bs n s N : Nat) (W U : F) (f : Nat → F) (ys : List Int) (bi bq ba i q : Nat) (y0 y1 y2 y3 : F) : Prop where
  st : Qst w0 w P gp cp gs cs gd cd bp bn bs n s N W U f ys
  bi : Bk w bi 3 [.int .i64 (i : Int)]
  bq : Bk w bq 3 [.int .i64 (q : Int)]
  ba : Bk w ba 154 [.int .u64 (fv y0), .int .u64 (fv y1), .int .u64 (fv y2), .int .u64 (fv y3)]
section
variable {w0 w w1 : World} {P gp cp gs cs gd cd bp bn bs n s N : Nat} {W U : F} {f : Nat → F} {ys : List Int} {bi bq ba i q : Nat} {y0 y1 y2 y3 : F}
theorem Cst.below (h : Cst w0 w P gp cp gs cs gd cd bp bn bs n s N W U f ys bi bq ba i q y0 y1 y2 y3) (hb : Below w.heap.size w w1) : Cst w0 w1 P gp cp gs cs gd cd bp bn bs n s N W U f ys bi bq ba i q y0 y1 y2 y3 := ⟨h.st.below hb, h.bi.below hb, h.bq.below hb, h.ba.below hb⟩
theorem Cst.put (h : Cst w0 w P gp cp gs cs gd cd bp bn bs n s N W U f ys bi bq ba i q y0 y1 y2 y3) (j : Nat) (x : Int) : Cst w0 (w.setCell ⟨gd, j, none⟩ (.int .u64 x)) P gp cp gs cs gd cd bp bn bs n s N W U f (ys.set j x) bi bq ba i q y0 y1 y2 y3 :=
  ⟨h.st.put j x, h.bi.far j _ (h.st.dst.ne h.bi (by decide)), h.bq.far j _ (h.st.dst.ne h.bq (by decide)), h.ba.far j _ (h.st.dst.ne h.ba (by decide))⟩
end
theorem Qst.far {w0 w : World} {P gp cp gs cs gd cd bp bn bs n s N : Nat} {W U : F} {f : Nat → F} {ys : List Int} (h : Qst w0 w P gp cp gs cs gd cd bp bn bs n s N W U f ys) (b t : Nat) (cs' : List Value) (hb : Bk w b t cs') (h1 : t = 154) (hz : w0.heap.size ≤ b) (j : Nat) (u : Value) : Qst w0 (w.setCell ⟨b, j, none⟩ u) P gp cp gs cs gd cd bp bn bs n s N W U f ys := by
  subst h1
  exact ⟨h.ps.far j u (h.ps.ne hb (by decide)), h.pow.far b j u (Ne.symm (h.pow.ne hb (by decide))), h.src.far b j u (Ne.symm (h.src.ne hb (by decide))), h.dst.far b j u (Ne.symm (h.dst.ne hb (by decide))), h.len, h.bp.far j u (h.bp.ne hb (by decide)), h.bn.far j u (h.bn.ne hb (by decide)), h.bs.far j u (h.bs.ne hb (by decide)), h.fr.set b j u (.inr hz), h.n1, h.n2⟩
theorem Cst.made {w0 w : World} {P gp cp gs cs gd cd bp bn bs n s N : Nat} {W U : F} {f : Nat → F} {ys : List Int} {bi bq ba i q : Nat} (h : Qst w0 w P gp cp gs cs gd cd bp bn bs n s N W U f ys) (hi : Bk w bi 3 [.int .i64 (i : Int)]) (hq : Bk w bq 3 [.int .i64 (q : Int)]) (ha : Bk w ba 154 [.int .u64 0, .int .u64 0, .int .u64 0, .int .u64 0]) (hz : w0.heap.size ≤ ba) (y0 y1 y2 y3 : F) :
    Cst w0 ((((w.setCell ⟨ba, 0, none⟩ (.int .u64 (fv y0))).setCell ⟨ba, 1, none⟩ (.int .u64 (fv y1))).setCell ⟨ba, 2, none⟩ (.int .u64 (fv y2))).setCell ⟨ba, 3, none⟩ (.int .u64 (fv y3))) P gp cp gs cs gd cd bp bn bs n s N W U f ys bi bq ba i q y0 y1 y2 y3 := by
  have a1 := ha.put 0 (.int .u64 (fv y0))
  have a2 := a1.put 1 (.int .u64 (fv y1))
  have a3 := a2.put 2 (.int .u64 (fv y2))
  have a4 := a3.put 3 (.int .u64 (fv y3))
  have ei := hi.ne ha (by decide)
  have eq := hq.ne ha (by decide)
  exact ⟨(((h.far ba _ _ ha rfl hz 0 _).far ba _ _ a1 rfl hz 1 _).far ba _ _ a2 rfl hz 2 _).far ba _ _ a3 rfl hz 3 _, (((hi.far 0 _ ei).far 1 _ ei).far 2 _ ei).far 3 _ ei, (((hq.far 0 _ eq).far 1 _ eq).far 2 _ eq).far 3 _ eq, a4⟩
theorem Dn.next {s m i q : Nat} {W U : F} {f : Nat → F} {ys : List Int} (h : Dn s m (tgq s m W U f) ys i q) (hq : q < s) (hi : i < m) {n N : Nat} (hn : n = 4 * m) (hN : n * s = N) (hl : ys.length = N) {x1 x2 x3 t0 t1 t2 t3 : Nat} (e1 : x1 = i * s) (e2 : x2 = 2 * i * s) (e3 : x3 = 3 * i * s) (g0 : t0 = q + s * (4 * i)) (g1 : t1 = t0 + s) (g2 : t2 = t0 + 2 * s) (g3 : t3 = t0 + 3 * s) {y0 y1 y2 y3 : F}
    (c0 : crs (f (q + s * i)) (f (q + s * (i + m))) (f (q + s * (i + 2 * m))) (f (q + s * (i + 3 * m))) U 0 = y0) (c1 : crs (f (q + s * i)) (f (q + s * (i + m))) (f (q + s * (i + 2 * m))) (f (q + s * (i + 3 * m))) U 1 = y1) (c2 : crs (f (q + s * i)) (f (q + s * (i + m))) (f (q + s * (i + 2 * m))) (f (q + s * (i + 3 * m))) U 2 = y2) (c3 : crs (f (q + s * i)) (f (q + s * (i + m))) (f (q + s * (i + 2 * m))) (f (q + s * (i + 3 * m))) U 3 = y3) :
    Dn s m (tgq s m W U f) ((((ys.set t0 (fv y0)).set t1 (fv (y1 * pw W x1))).set t2 (fv (y2 * pw W x2))).set t3 (fv (y3 * pw W x3))) i (q + 1) := by
  have hs := h.step hq hi (fun r hr => by rw [hl]; exact place_lt hq (by omega) hN)
  have v0 : tgq s m W U f i q 0 = y0 := by unfold tgq; rw [c0, Nat.mul_zero, Nat.mul_zero, pw_zero]; grobner
  have v1 : tgq s m W U f i q 1 = y1 * pw W x1 := by unfold tgq; rw [c1, e1, Nat.mul_one, Nat.mul_comm s i]
  have v2 : tgq s m W U f i q 2 = y2 * pw W x2 := by unfold tgq; rw [c2, e2, Nat.mul_comm s (i * 2), Nat.mul_comm i 2]
  have v3 : tgq s m W U f i q 3 = y3 * pw W x3 := by unfold tgq; rw [c3, e3, Nat.mul_comm s (i * 3), Nat.mul_comm i 3]
  rw [v0, v1, v2, v3] at hs
  have p1 : t1 = q + s * (4 * i + 1) := by rw [Nat.mul_add]; omega
  have p2 : t2 = q + s * (4 * i + 2) := by rw [Nat.mul_add]; omega
  have p3 : t3 = q + s * (4 * i + 3) := by rw [Nat.mul_add]; omega
  rw [g0, p1, p2, p3]
  exact hs
set_option maxHeartbeats 16000000 in
theorem quarter_calls (P gp cp gs cs gd cd n m s N : Nat) (W U : F) (f : Nat → F) (ys : List Int) (w : World) (hn : n = 4 * m) (hm : 0 < m) (hN : n * s = N) (hN2 : N ≤ 1048576) (hs : 0 < s)
    (hps : Bk w P 151 [.slice (some ⟨gp, 0, none⟩) N cp, .int .u64 (fv U), .slice (some ⟨gs, 0, none⟩) N cs, .slice (some ⟨gd, 0, none⟩) N cd])
    (hpw : Mr w gp cp (tb N (pw W))) (hsrc : Mr w gs cs (tb N f)) (hdst : Mr w gd cd ys) (hy : ys.length = N) (n1 : gd ≠ gp) (n2 : gd ≠ gs) :
    Calls Tryz.prog 107 #[.pointer (some ⟨P, 0, none⟩), .int .i64 (n : Int), .int .i64 (s : Int)] w fun e w' => e = .returned (.tuple #[]) ∧ ∃ ys', ys'.length = N ∧ Dn s m (tgq s m W U f) ys' m 0 ∧ Fr w w' [gd, P] ∧
      Bk w' P 151 [.slice (some ⟨gp, 0, none⟩) N cp, .int .u64 (fv U), .slice (some ⟨gd, 0, none⟩) N cd, .slice (some ⟨gs, 0, none⟩) N cs] ∧ Mr w' gs cs (tb N f) ∧ Mr w' gd cd ys' := by
  have hw3 : Qst w (((w.alloc (.cells #[.pointer (some ⟨P, 0, none⟩)] 149)).alloc (.cells #[.int .i64 (n : Int)] 3)).alloc (.cells #[.int .i64 (s : Int)] 3)) P gp cp gs cs gd cd w.heap.size (w.heap.size + 1) (w.heap.size + 1 + 1) n s N W U f ys := by
    have b1 := below_alloc (Below.refl w.heap.size w) (.cells #[.pointer (some ⟨P, 0, none⟩)] 149)
    have b2 := below_alloc b1 (.cells #[.int .i64 (n : Int)] 3)
    have b3 := below_alloc b2 (.cells #[.int .i64 (s : Int)] 3)
    have e1 := Bk.new w 149 [.pointer (some ⟨P, 0, none⟩)]
    have e2 := Bk.new (w.alloc (.cells #[.pointer (some ⟨P, 0, none⟩)] 149)) 3 [.int .i64 (n : Int)]
    have e3 := Bk.new ((w.alloc (.cells #[.pointer (some ⟨P, 0, none⟩)] 149)).alloc (.cells #[.int .i64 (n : Int)] 3)) 3 [.int .i64 (s : Int)]
    simp only [World.size_alloc] at e2 e3
    exact ⟨hps.below b3, hpw.below b3, hsrc.below b3, hdst.below b3, hy, (e1.alloc _).alloc _, e2.alloc _, e3, Fr.of_below b3 [gd], n1, n2⟩
  have HQ := Aside0.mk hw3
  have HN := Aside0.mk hN
  have Hn := Aside0.mk hn
  have Hm := Aside0.mk hm
  have Hs := Aside0.mk hs
  have H2 := Aside0.mk hN2
  clear hw3 hps hpw hsrc hdst n1 n2 hy hN hn hm hs hN2
  go_enter Tryz.func107, Tryz.ntmps107
  go_wp2_with fail
  obtain ⟨W0, hW0⟩ : ∃ W0, W0 = ((w.alloc (.cells #[.pointer (some ⟨P, 0, none⟩)] 149)).alloc (.cells #[.int .i64 (n : Int)] 3)).alloc (.cells #[.int .i64 (s : Int)] 3) := ⟨_, rfl⟩
  rw [← hW0] at HQ ⊢
  obtain ⟨bp, hbp⟩ : ∃ b, b = w.heap.size := ⟨_, rfl⟩
  obtain ⟨bn, hbn⟩ : ∃ b, b = w.heap.size + 1 := ⟨_, rfl⟩
  obtain ⟨bs, hbs⟩ : ∃ b, b = w.heap.size + 1 + 1 := ⟨_, rfl⟩
  rw [← hbs, ← hbn, ← hbp] at HQ ⊢
  clear hW0 hbp hbn hbs
  have hn0 : (n = 0) = False := eq_false (by have := Hn.out; have := Hm.out; omega)
  have hdiv : (N : Int) / (n : Int) = (s : Int) := by
    rw [← HN.out, Int.natCast_mul, Int.mul_ediv_cancel_left _ (by have := Hn.out; have := Hm.out; omega)]
  have hs2 : s ≤ 1048576 := by
    have := HN.out
    have h4 : s ≤ n * s := Nat.le_mul_of_pos_left _ (by have := Hn.out; have := Hm.out; omega)
    have := H2.out
    omega
  have hn2 : n ≤ 1048576 := by
    have := HN.out
    have h4 : n ≤ n * s := Nat.le_mul_of_pos_right _ Hs.out
    have := H2.out
    omega
  have hm2 : m ≤ 1048576 := by have := Hn.out; omega
  obtain ⟨kA, kB⟩ := wrapb hdiv (show s ≤ 9223372036854775807 by omega)
  clear hdiv
  refine start_ (n := 8) (S := fun w' => w'.cell? ⟨bp, 0, none⟩ = some (.pointer (some ⟨P, 0, none⟩)) ∧ w'.cell? ⟨P, 2, none⟩ = some (.slice (some ⟨gs, 0, none⟩) N cs) ∧ w'.cell? ⟨bn, 0, none⟩ = some (.int .i64 (n : Int))) (ds := []) #[false, false, false, false, false, false, false, false] (by kernel_rfl) rfl rfl ⟨HQ.out.bp.cell 0, HQ.out.ps.cell 2, HQ.out.bn.cell 0⟩ (fun hHeld => ?_)
  refine take_ (i := 0) (N := some 15) (v := ?_) (a' := ?_) #[true, false, false, false, false, false, false, false] rfl rfl (by kernel_rfl) (fun _ _ _ h => h) (Or.inl ⟨by rfl, ?_⟩) hHeld ?_ ?_
  rotate_left
  · rintro w' ⟨s0, s1, s2⟩
    go_simp
    with_reducible rfl
  rotate_left
  · simp only [Act.put, List.setIfInBounds_toArray, List.set_cons_zero, List.set_cons_succ, i64_w, i32_w]
    rfl
  refine pure_ (i := 1) (N := some 16) (v := ?_) (a' := ?_) #[true, true, false, false, false, false, false, false] rfl rfl (by kernel_rfl) (fun _ _ _ h => h) (Or.inl ⟨by rfl, ?_⟩) ?_ ?_
  rotate_left
  · intro w'
    go_simp
    with_reducible rfl
  rotate_left
  · simp only [Act.put, List.setIfInBounds_toArray, List.set_cons_zero, List.set_cons_succ, i64_w, i32_w]
    rfl
  refine pure_ (i := 2) (N := some 17) (v := ?_) (a' := ?_) #[true, true, true, false, false, false, false, false] rfl rfl (by kernel_rfl) (fun _ _ _ h => h) (Or.inl ⟨by rfl, ?_⟩) ?_ ?_
  rotate_left
  · intro w'
    go_simp
    with_reducible rfl
  rotate_left
  · simp only [Act.put, List.setIfInBounds_toArray, List.set_cons_zero, List.set_cons_succ, i64_w, i32_w]
    rfl
  refine take_ (i := 3) (N := some 18) (v := ?_) (a' := ?_) #[true, true, true, true, false, false, false, false] rfl rfl (by kernel_rfl) (fun _ _ _ h => h) (Or.inl ⟨by rfl, ?_⟩) hHeld ?_ ?_
  rotate_left
  · rintro w' ⟨s0, s1, s2⟩
    go_simp
    with_reducible rfl
  rotate_left
  · simp only [Act.put, List.setIfInBounds_toArray, List.set_cons_zero, List.set_cons_succ, i64_w, i32_w]
    rfl
  refine pure_ (i := 4) (N := some 19) (v := ?_) (a' := ?_) #[true, true, true, true, true, false, false, false] rfl rfl (by kernel_rfl) (fun _ _ _ h => h) (Or.inl ⟨by rfl, ?_⟩) ?_ ?_
  rotate_left
  · intro w'
    go_simp
    with_reducible rfl
  rotate_left
  · simp only [Act.put, List.setIfInBounds_toArray, List.set_cons_zero, List.set_cons_succ, i64_w, i32_w]
    rfl
  refine take_ (i := 5) (N := some 20) (v := ?_) (a' := ?_) #[true, true, true, true, true, true, false, false] rfl rfl (by kernel_rfl) (fun _ _ _ h => h) (Or.inl ⟨by rfl, ?_⟩) hHeld ?_ ?_
  rotate_left
  · rintro w' ⟨s0, s1, s2⟩
    go_simp
    with_reducible rfl
  rotate_left
  · simp only [Act.put, List.setIfInBounds_toArray, List.set_cons_zero, List.set_cons_succ, i64_w, i32_w]
    rfl
  refine pure_ (i := 6) (N := some 21) (v := ?_) (a' := ?_) #[true, true, true, true, true, true, true, false] rfl rfl (by kernel_rfl) (fun _ _ _ h => h) (Or.inl ⟨by rfl, ?_⟩) ?_ ?_
  rotate_left
  · intro w'
    go_simp
    with_reducible rfl
  rotate_left
  · simp only [Act.put, List.setIfInBounds_toArray, List.set_cons_zero, List.set_cons_succ, i64_w, i32_w]
    rfl
  refine pure_ (i := 7) (N := some 6) (v := ?_) (a' := ?_) #[true, true, true, true, true, true, true, true] rfl rfl (by kernel_rfl) (fun _ _ _ h => h) (Or.inl ⟨by rfl, ?_⟩) ?_ ?_
  rotate_left
  · intro w'
    go_simp
    with_reducible rfl
  rotate_left
  · simp only [Act.put, List.setIfInBounds_toArray, List.set_cons_zero, List.set_cons_succ, i64_w, i32_w]
    rfl
  refine done_ (by kernel_rfl) ?_
  clear hHeld kA kB hn0
  have HQ1 := Aside0.mk (HQ.out.below (below_drew1 (Below.refl _ _)))
  have u1 := HQ1.out.bn.cell 0
  obtain ⟨kA, kB⟩ := wrapb (show (n : Int) / 4 = (m : Int) by have := Hn.out; omega) (show m ≤ 9223372036854775807 by have := Hn.out; omega)
  go_wp2
  clear kA kB u1 HQ
  go_loopw [24] (fun v24 wr => ∃ (i : Nat) (ys : List Int), v24 = .int .i64 i ∧ i ≤ m ∧ Aside0 (Qst w wr P gp cp gs cs gd cd bp bn bs n s N W U f ys) ∧ Aside0 (Dn s m (tgq s m W U f) ys i 0)) (fun v24 _ => m - (intOf v24).toNat)
  case atStart => exact ⟨0, ys, rfl, Nat.zero_le _, HQ1, ⟨Dn.start _ _ _ _⟩⟩
  case round =>
    clear HQ1
    obtain ⟨i, ys, rfl, hi, HQ, HD⟩ := hrel
    by_cases h1 : i < m
    · have hia : (i : Int) < (m : Int) := by omega
      go_wp2_with fail
      obtain ⟨bi, hbi⟩ : ∃ b, b = wr.heap.size := ⟨_, rfl⟩
      obtain ⟨wi, hwi⟩ : ∃ w', w' = wr.alloc (.cells #[.int .i64 (i : Int)] 3) := ⟨_, rfl⟩
      have HBi : Aside0 (Bk wi bi 3 [.int .i64 (i : Int)]) := ⟨by rw [hwi, hbi]; exact Bk.new wr 3 [.int .i64 (i : Int)]⟩
      have HQi : Aside0 (Qst w wi P gp cp gs cs gd cd bp bn bs n s N W U f ys) := ⟨by rw [hwi]; exact HQ.out.below (below_alloc (Below.refl _ _) _)⟩
      rw [← hwi, ← hbi]
      clear HQ hwi hbi
      have him4 : i < n := by have := Hn.out; omega
      obtain ⟨x1, e1⟩ : ∃ x, x = i * s := ⟨_, rfl⟩
      obtain ⟨c2, f2⟩ : ∃ x, x = 2 * i := ⟨_, rfl⟩
      obtain ⟨c3, f3⟩ : ∃ x, x = 3 * i := ⟨_, rfl⟩
      obtain ⟨x2, e2⟩ : ∃ x, x = c2 * s := ⟨_, rfl⟩
      obtain ⟨x3, e3⟩ : ∃ x, x = c3 * s := ⟨_, rfl⟩
      have l3 : x3 < N := by
        rw [e3, f3, ← HN.out]
        exact Nat.mul_lt_mul_of_pos_right (by have := Hn.out; omega) Hs.out
      have l1 : x1 ≤ x3 := by rw [e1, e3]; exact Nat.mul_le_mul_right _ (by omega)
      have l2 : x2 ≤ x3 := by rw [e2, e3]; exact Nat.mul_le_mul_right _ (by omega)
      have l4 := H2.out
      have g1 := Aside0.mk (HQi.out.pow.cell x1 (by rw [tb_len]; omega))
      have g2 := Aside0.mk (HQi.out.pow.cell x2 (by rw [tb_len]; omega))
      have g3 := Aside0.mk (HQi.out.pow.cell x3 (by rw [tb_len]; omega))
      rw [tb_get _ (by omega)] at g1 g2 g3
      have o1 : (0 : Int) ≤ (x1 : Int) ∧ (x1 : Int) < (N : Int) := by omega
      have o2 : (0 : Int) ≤ (x2 : Int) ∧ (x2 : Int) < (N : Int) := by omega
      have o3 : (0 : Int) ≤ (x3 : Int) ∧ (x3 : Int) < (N : Int) := by omega
      have E1 := Aside0.mk e1
      have E2 := Aside0.mk (show x2 = 2 * i * s by rw [e2, f2])
      have E3 := Aside0.mk (show x3 = 3 * i * s by rw [e3, f3])
      obtain ⟨k1, k2, k3, k4, k5⟩ : (IntKind.i64.wrap ((i : Int) * (s : Int)) = (x1 : Int) ∧ wrap64 ((i : Int) * (s : Int)) = (x1 : Int)) ∧ (IntKind.i64.wrap (2 * (i : Int)) = (c2 : Int) ∧ wrap64 (2 * (i : Int)) = (c2 : Int)) ∧ (IntKind.i64.wrap ((c2 : Int) * (s : Int)) = (x2 : Int) ∧ wrap64 ((c2 : Int) * (s : Int)) = (x2 : Int)) ∧ (IntKind.i64.wrap (3 * (i : Int)) = (c3 : Int) ∧ wrap64 (3 * (i : Int)) = (c3 : Int)) ∧ (IntKind.i64.wrap ((c3 : Int) * (s : Int)) = (x3 : Int) ∧ wrap64 ((c3 : Int) * (s : Int)) = (x3 : Int)) :=
        ⟨wrapb (by rw [← Int.natCast_mul, e1]) (by omega), wrapb (by omega) (by omega), wrapb (by rw [← Int.natCast_mul, e2]) (by omega), wrapb (by omega) (by omega), wrapb (by rw [← Int.natCast_mul, e3]) (by omega)⟩
      clear e1 e2 e3 f2 f3 l1 l2 l3 l4 him4
      obtain ⟨o1, o1'⟩ := o1
      obtain ⟨o2, o2'⟩ := o2
      obtain ⟨o3, o3'⟩ := o3
      obtain ⟨k1, k1'⟩ := k1
      obtain ⟨k2, k2'⟩ := k2
      obtain ⟨k3, k3'⟩ := k3
      obtain ⟨k4, k4'⟩ := k4
      obtain ⟨k5, k5'⟩ := k5
      refine start_ (n := 32) (S := fun w' => w'.cell? ⟨bp, 0, none⟩ = some (.pointer (some ⟨P, 0, none⟩)) ∧ w'.cell? ⟨P, 0, none⟩ = some (.slice (some ⟨gp, 0, none⟩) N cp) ∧ w'.cell? ⟨bi, 0, none⟩ = some (.int .i64 (i : Int)) ∧ w'.cell? ⟨gp, x1, none⟩ = some (.int .u64 (fv (pw W x1))) ∧ w'.cell? ⟨gp, x2, none⟩ = some (.int .u64 (fv (pw W x2))) ∧ w'.cell? ⟨gp, x3, none⟩ = some (.int .u64 (fv (pw W x3)))) (ds := []) #[false, false, false, false, false, false, false, false, false, false, false, false, false, false, false, false, false, false, false, false, false, false, false, false, false, false, false, false, false, false, false, false] (by kernel_rfl) rfl rfl ⟨HQi.out.bp.cell 0, HQi.out.ps.cell 0, HBi.out.cell 0, g1.out, g2.out, g3.out⟩ (fun hHeld => ?_)
      refine pure_ (i := 5) (N := some 32) (v := ?_) (a' := ?_) #[false, false, false, false, false, true, false, false, false, false, false, false, false, false, false, false, false, false, false, false, false, false, false, false, false, false, false, false, false, false, false, false] rfl rfl (by kernel_rfl) (fun _ _ _ h => h) (Or.inl ⟨by rfl, ?_⟩) ?_ ?_
      rotate_left
      · intro w'
        go_simp
        with_reducible rfl
      rotate_left
      · simp only [Act.put, List.setIfInBounds_toArray, List.set_cons_zero, List.set_cons_succ, i64_w, i32_w]
        rfl
      refine pure_ (i := 15) (N := some 42) (v := ?_) (a' := ?_) #[false, false, false, false, false, true, false, false, false, false, false, false, false, false, false, true, false, false, false, false, false, false, false, false, false, false, false, false, false, false, false, false] rfl rfl (by kernel_rfl) (fun _ _ _ h => h) (Or.inl ⟨by rfl, ?_⟩) ?_ ?_
      rotate_left
      · intro w'
        go_simp
        with_reducible rfl
      rotate_left
      · simp only [Act.put, List.setIfInBounds_toArray, List.set_cons_zero, List.set_cons_succ, i64_w, i32_w]
        rfl
      refine pure_ (i := 25) (N := some 52) (v := ?_) (a' := ?_) #[false, false, false, false, false, true, false, false, false, false, false, false, false, false, false, true, false, false, false, false, false, false, false, false, false, true, false, false, false, false, false, false] rfl rfl (by kernel_rfl) (fun _ _ _ h => h) (Or.inl ⟨by rfl, ?_⟩) ?_ ?_
      rotate_left
      · intro w'
        go_simp
        with_reducible rfl
      rotate_left
      · simp only [Act.put, List.setIfInBounds_toArray, List.set_cons_zero, List.set_cons_succ, i64_w, i32_w]
        rfl
      refine take_ (i := 0) (N := some 27) (v := ?_) (a' := ?_) #[true, false, false, false, false, true, false, false, false, false, false, false, false, false, false, true, false, false, false, false, false, false, false, false, false, true, false, false, false, false, false, false] rfl rfl (by kernel_rfl) (fun _ _ _ h => h) (Or.inl ⟨by rfl, ?_⟩) hHeld ?_ ?_
      rotate_left
      · rintro w' ⟨s0, s1, s2, s3, s4, s5⟩
        go_simp
        with_reducible rfl
      rotate_left
      · simp only [Act.put, List.setIfInBounds_toArray, List.set_cons_zero, List.set_cons_succ, i64_w, i32_w]
        rfl
      refine pure_ (i := 1) (N := some 28) (v := ?_) (a' := ?_) #[true, true, false, false, false, true, false, false, false, false, false, false, false, false, false, true, false, false, false, false, false, false, false, false, false, true, false, false, false, false, false, false] rfl rfl (by kernel_rfl) (fun _ _ _ h => h) (Or.inl ⟨by rfl, ?_⟩) ?_ ?_
      rotate_left
      · intro w'
        go_simp
        with_reducible rfl
      rotate_left
      · simp only [Act.put, List.setIfInBounds_toArray, List.set_cons_zero, List.set_cons_succ, i64_w, i32_w]
        rfl
      refine pure_ (i := 2) (N := some 29) (v := ?_) (a' := ?_) #[true, true, true, false, false, true, false, false, false, false, false, false, false, false, false, true, false, false, false, false, false, false, false, false, false, true, false, false, false, false, false, false] rfl rfl (by kernel_rfl) (fun _ _ _ h => h) (Or.inl ⟨by rfl, ?_⟩) ?_ ?_
      rotate_left
      · intro w'
        go_simp
        with_reducible rfl
      rotate_left
      · simp only [Act.put, List.setIfInBounds_toArray, List.set_cons_zero, List.set_cons_succ, i64_w, i32_w]
        rfl
      refine take_ (i := 3) (N := some 30) (v := ?_) (a' := ?_) #[true, true, true, true, false, true, false, false, false, false, false, false, false, false, false, true, false, false, false, false, false, false, false, false, false, true, false, false, false, false, false, false] rfl rfl (by kernel_rfl) (fun _ _ _ h => h) (Or.inl ⟨by rfl, ?_⟩) hHeld ?_ ?_
      rotate_left
      · rintro w' ⟨s0, s1, s2, s3, s4, s5⟩
        go_simp
        with_reducible rfl
      rotate_left
      · simp only [Act.put, List.setIfInBounds_toArray, List.set_cons_zero, List.set_cons_succ, i64_w, i32_w]
        rfl
      refine take_ (i := 4) (N := some 31) (v := ?_) (a' := ?_) #[true, true, true, true, true, true, false, false, false, false, false, false, false, false, false, true, false, false, false, false, false, false, false, false, false, true, false, false, false, false, false, false] rfl rfl (by kernel_rfl) (fun _ _ _ h => h) (Or.inl ⟨by rfl, ?_⟩) hHeld ?_ ?_
      rotate_left
      · rintro w' ⟨s0, s1, s2, s3, s4, s5⟩
        go_simp
        with_reducible rfl
      rotate_left
      · simp only [Act.put, List.setIfInBounds_toArray, List.set_cons_zero, List.set_cons_succ, i64_w, i32_w]
        rfl
      refine pure_ (i := 6) (N := some 33) (v := ?_) (a' := ?_) #[true, true, true, true, true, true, true, false, false, false, false, false, false, false, false, true, false, false, false, false, false, false, false, false, false, true, false, false, false, false, false, false] rfl rfl (by kernel_rfl) (fun _ _ _ h => h) (Or.inl ⟨by rfl, ?_⟩) ?_ ?_
      rotate_left
      · intro w'
        go_simp
        with_reducible rfl
      rotate_left
      · simp only [Act.put, List.setIfInBounds_toArray, List.set_cons_zero, List.set_cons_succ, i64_w, i32_w]
        rfl
      refine pure_ (i := 7) (N := some 34) (v := ?_) (a' := ?_) #[true, true, true, true, true, true, true, true, false, false, false, false, false, false, false, true, false, false, false, false, false, false, false, false, false, true, false, false, false, false, false, false] rfl rfl (by kernel_rfl) (fun _ _ _ h => h) (Or.inl ⟨by rfl, ?_⟩) ?_ ?_
      rotate_left
      · intro w'
        go_simp
        with_reducible rfl
      rotate_left
      · simp only [Act.put, List.setIfInBounds_toArray, List.set_cons_zero, List.set_cons_succ, i64_w, i32_w]
        rfl
      refine take_ (i := 8) (N := some 35) (v := ?_) (a' := ?_) #[true, true, true, true, true, true, true, true, true, false, false, false, false, false, false, true, false, false, false, false, false, false, false, false, false, true, false, false, false, false, false, false] rfl rfl (by kernel_rfl) (fun _ _ _ h => h) (Or.inl ⟨by rfl, ?_⟩) hHeld ?_ ?_
      rotate_left
      · rintro w' ⟨s0, s1, s2, s3, s4, s5⟩
        go_simp
        with_reducible rfl
      rotate_left
      · simp only [Act.put, List.setIfInBounds_toArray, List.set_cons_zero, List.set_cons_succ, i64_w, i32_w]
        rfl
      refine pure_ (i := 29) (N := some 8) (v := ?_) (a' := ?_) #[true, true, true, true, true, true, true, true, true, false, false, false, false, false, false, true, false, false, false, false, false, false, false, false, false, true, false, false, false, true, false, false] rfl rfl (by kernel_rfl) (fun _ _ _ h => h) (Or.inl ⟨by rfl, ?_⟩) ?_ ?_
      rotate_left
      · intro w'
        go_simp
        with_reducible rfl
      rotate_left
      · simp only [Act.put, List.setIfInBounds_toArray, List.set_cons_zero, List.set_cons_succ, i64_w, i32_w]
        rfl
      refine take_ (i := 9) (N := some 36) (v := ?_) (a' := ?_) #[true, true, true, true, true, true, true, true, true, true, false, false, false, false, false, true, false, false, false, false, false, false, false, false, false, true, false, false, false, true, false, false] rfl rfl (by kernel_rfl) (fun _ _ _ h => h) (Or.inl ⟨by rfl, ?_⟩) hHeld ?_ ?_
      rotate_left
      · rintro w' ⟨s0, s1, s2, s3, s4, s5⟩
        go_simp
        with_reducible rfl
      rotate_left
      · simp only [Act.put, List.setIfInBounds_toArray, List.set_cons_zero, List.set_cons_succ, i64_w, i32_w]
        rfl
      refine pure_ (i := 10) (N := some 37) (v := ?_) (a' := ?_) #[true, true, true, true, true, true, true, true, true, true, true, false, false, false, false, true, false, false, false, false, false, false, false, false, false, true, false, false, false, true, false, false] rfl rfl (by kernel_rfl) (fun _ _ _ h => h) (Or.inl ⟨by rfl, ?_⟩) ?_ ?_
      rotate_left
      · intro w'
        go_simp
        with_reducible rfl
      rotate_left
      · simp only [Act.put, List.setIfInBounds_toArray, List.set_cons_zero, List.set_cons_succ, i64_w, i32_w]
        rfl
      refine pure_ (i := 11) (N := some 38) (v := ?_) (a' := ?_) #[true, true, true, true, true, true, true, true, true, true, true, true, false, false, false, true, false, false, false, false, false, false, false, false, false, true, false, false, false, true, false, false] rfl rfl (by kernel_rfl) (fun _ _ _ h => h) (Or.inl ⟨by rfl, ?_⟩) ?_ ?_
      rotate_left
      · intro w'
        go_simp
        with_reducible rfl
      rotate_left
      · simp only [Act.put, List.setIfInBounds_toArray, List.set_cons_zero, List.set_cons_succ, i64_w, i32_w]
        rfl
      refine take_ (i := 12) (N := some 39) (v := ?_) (a' := ?_) #[true, true, true, true, true, true, true, true, true, true, true, true, true, false, false, true, false, false, false, false, false, false, false, false, false, true, false, false, false, true, false, false] rfl rfl (by kernel_rfl) (fun _ _ _ h => h) (Or.inl ⟨by rfl, ?_⟩) hHeld ?_ ?_
      rotate_left
      · rintro w' ⟨s0, s1, s2, s3, s4, s5⟩
        go_simp
        with_reducible rfl
      rotate_left
      · simp only [Act.put, List.setIfInBounds_toArray, List.set_cons_zero, List.set_cons_succ, i64_w, i32_w]
        rfl
      refine take_ (i := 13) (N := some 40) (v := ?_) (a' := ?_) #[true, true, true, true, true, true, true, true, true, true, true, true, true, true, false, true, false, false, false, false, false, false, false, false, false, true, false, false, false, true, false, false] rfl rfl (by kernel_rfl) (fun _ _ _ h => h) (Or.inl ⟨by rfl, ?_⟩) hHeld ?_ ?_
      rotate_left
      · rintro w' ⟨s0, s1, s2, s3, s4, s5⟩
        go_simp
        with_reducible rfl
      rotate_left
      · simp only [Act.put, List.setIfInBounds_toArray, List.set_cons_zero, List.set_cons_succ, i64_w, i32_w]
        rfl
      refine pure_ (i := 14) (N := some 41) (v := ?_) (a' := ?_) #[true, true, true, true, true, true, true, true, true, true, true, true, true, true, true, true, false, false, false, false, false, false, false, false, false, true, false, false, false, true, false, false] rfl rfl (by kernel_rfl) (fun _ _ _ h => h) (Or.inl ⟨by rfl, ?_⟩) ?_ ?_
      rotate_left
      · intro w'
        go_simp
        with_reducible rfl
      rotate_left
      · simp only [Act.put, List.setIfInBounds_toArray, List.set_cons_zero, List.set_cons_succ, i64_w, i32_w]
        rfl
      refine pure_ (i := 16) (N := some 43) (v := ?_) (a' := ?_) #[true, true, true, true, true, true, true, true, true, true, true, true, true, true, true, true, true, false, false, false, false, false, false, false, false, true, false, false, false, true, false, false] rfl rfl (by kernel_rfl) (fun _ _ _ h => h) (Or.inl ⟨by rfl, ?_⟩) ?_ ?_
      rotate_left
      · intro w'
        go_simp
        with_reducible rfl
      rotate_left
      · simp only [Act.put, List.setIfInBounds_toArray, List.set_cons_zero, List.set_cons_succ, i64_w, i32_w]
        rfl
      refine pure_ (i := 17) (N := some 44) (v := ?_) (a' := ?_) #[true, true, true, true, true, true, true, true, true, true, true, true, true, true, true, true, true, true, false, false, false, false, false, false, false, true, false, false, false, true, false, false] rfl rfl (by kernel_rfl) (fun _ _ _ h => h) (Or.inl ⟨by rfl, ?_⟩) ?_ ?_
      rotate_left
      · intro w'
        go_simp
        with_reducible rfl
      rotate_left
      · simp only [Act.put, List.setIfInBounds_toArray, List.set_cons_zero, List.set_cons_succ, i64_w, i32_w]
        rfl
      refine take_ (i := 18) (N := some 45) (v := ?_) (a' := ?_) #[true, true, true, true, true, true, true, true, true, true, true, true, true, true, true, true, true, true, true, false, false, false, false, false, false, true, false, false, false, true, false, false] rfl rfl (by kernel_rfl) (fun _ _ _ h => h) (Or.inl ⟨by rfl, ?_⟩) hHeld ?_ ?_
      rotate_left
      · rintro w' ⟨s0, s1, s2, s3, s4, s5⟩
        go_simp
        with_reducible rfl
      rotate_left
      · simp only [Act.put, List.setIfInBounds_toArray, List.set_cons_zero, List.set_cons_succ, i64_w, i32_w]
        rfl
      refine pure_ (i := 30) (N := some 9) (v := ?_) (a' := ?_) #[true, true, true, true, true, true, true, true, true, true, true, true, true, true, true, true, true, true, true, false, false, false, false, false, false, true, false, false, false, true, true, false] rfl rfl (by kernel_rfl) (fun _ _ _ h => h) (Or.inl ⟨by rfl, ?_⟩) ?_ ?_
      rotate_left
      · intro w'
        go_simp
        with_reducible rfl
      rotate_left
      · simp only [Act.put, List.setIfInBounds_toArray, List.set_cons_zero, List.set_cons_succ, i64_w, i32_w]
        rfl
      refine take_ (i := 19) (N := some 46) (v := ?_) (a' := ?_) #[true, true, true, true, true, true, true, true, true, true, true, true, true, true, true, true, true, true, true, true, false, false, false, false, false, true, false, false, false, true, true, false] rfl rfl (by kernel_rfl) (fun _ _ _ h => h) (Or.inl ⟨by rfl, ?_⟩) hHeld ?_ ?_
      rotate_left
      · rintro w' ⟨s0, s1, s2, s3, s4, s5⟩
        go_simp
        with_reducible rfl
      rotate_left
      · simp only [Act.put, List.setIfInBounds_toArray, List.set_cons_zero, List.set_cons_succ, i64_w, i32_w]
        rfl
      refine pure_ (i := 20) (N := some 47) (v := ?_) (a' := ?_) #[true, true, true, true, true, true, true, true, true, true, true, true, true, true, true, true, true, true, true, true, true, false, false, false, false, true, false, false, false, true, true, false] rfl rfl (by kernel_rfl) (fun _ _ _ h => h) (Or.inl ⟨by rfl, ?_⟩) ?_ ?_
      rotate_left
      · intro w'
        go_simp
        with_reducible rfl
      rotate_left
      · simp only [Act.put, List.setIfInBounds_toArray, List.set_cons_zero, List.set_cons_succ, i64_w, i32_w]
        rfl
      refine pure_ (i := 21) (N := some 48) (v := ?_) (a' := ?_) #[true, true, true, true, true, true, true, true, true, true, true, true, true, true, true, true, true, true, true, true, true, true, false, false, false, true, false, false, false, true, true, false] rfl rfl (by kernel_rfl) (fun _ _ _ h => h) (Or.inl ⟨by rfl, ?_⟩) ?_ ?_
      rotate_left
      · intro w'
        go_simp
        with_reducible rfl
      rotate_left
      · simp only [Act.put, List.setIfInBounds_toArray, List.set_cons_zero, List.set_cons_succ, i64_w, i32_w]
        rfl
      refine take_ (i := 22) (N := some 49) (v := ?_) (a' := ?_) #[true, true, true, true, true, true, true, true, true, true, true, true, true, true, true, true, true, true, true, true, true, true, true, false, false, true, false, false, false, true, true, false] rfl rfl (by kernel_rfl) (fun _ _ _ h => h) (Or.inl ⟨by rfl, ?_⟩) hHeld ?_ ?_
      rotate_left
      · rintro w' ⟨s0, s1, s2, s3, s4, s5⟩
        go_simp
        with_reducible rfl
      rotate_left
      · simp only [Act.put, List.setIfInBounds_toArray, List.set_cons_zero, List.set_cons_succ, i64_w, i32_w]
        rfl
      refine take_ (i := 23) (N := some 50) (v := ?_) (a' := ?_) #[true, true, true, true, true, true, true, true, true, true, true, true, true, true, true, true, true, true, true, true, true, true, true, true, false, true, false, false, false, true, true, false] rfl rfl (by kernel_rfl) (fun _ _ _ h => h) (Or.inl ⟨by rfl, ?_⟩) hHeld ?_ ?_
      rotate_left
      · rintro w' ⟨s0, s1, s2, s3, s4, s5⟩
        go_simp
        with_reducible rfl
      rotate_left
      · simp only [Act.put, List.setIfInBounds_toArray, List.set_cons_zero, List.set_cons_succ, i64_w, i32_w]
        rfl
      refine pure_ (i := 24) (N := some 51) (v := ?_) (a' := ?_) #[true, true, true, true, true, true, true, true, true, true, true, true, true, true, true, true, true, true, true, true, true, true, true, true, true, true, false, false, false, true, true, false] rfl rfl (by kernel_rfl) (fun _ _ _ h => h) (Or.inl ⟨by rfl, ?_⟩) ?_ ?_
      rotate_left
      · intro w'
        go_simp
        with_reducible rfl
      rotate_left
      · simp only [Act.put, List.setIfInBounds_toArray, List.set_cons_zero, List.set_cons_succ, i64_w, i32_w]
        rfl
      refine pure_ (i := 26) (N := some 53) (v := ?_) (a' := ?_) #[true, true, true, true, true, true, true, true, true, true, true, true, true, true, true, true, true, true, true, true, true, true, true, true, true, true, true, false, false, true, true, false] rfl rfl (by kernel_rfl) (fun _ _ _ h => h) (Or.inl ⟨by rfl, ?_⟩) ?_ ?_
      rotate_left
      · intro w'
        go_simp
        with_reducible rfl
      rotate_left
      · simp only [Act.put, List.setIfInBounds_toArray, List.set_cons_zero, List.set_cons_succ, i64_w, i32_w]
        rfl
      refine pure_ (i := 27) (N := some 54) (v := ?_) (a' := ?_) #[true, true, true, true, true, true, true, true, true, true, true, true, true, true, true, true, true, true, true, true, true, true, true, true, true, true, true, true, false, true, true, false] rfl rfl (by kernel_rfl) (fun _ _ _ h => h) (Or.inl ⟨by rfl, ?_⟩) ?_ ?_
      rotate_left
      · intro w'
        go_simp
        with_reducible rfl
      rotate_left
      · simp only [Act.put, List.setIfInBounds_toArray, List.set_cons_zero, List.set_cons_succ, i64_w, i32_w]
        rfl
      refine take_ (i := 28) (N := some 55) (v := ?_) (a' := ?_) #[true, true, true, true, true, true, true, true, true, true, true, true, true, true, true, true, true, true, true, true, true, true, true, true, true, true, true, true, true, true, true, false] rfl rfl (by kernel_rfl) (fun _ _ _ h => h) (Or.inl ⟨by rfl, ?_⟩) hHeld ?_ ?_
      rotate_left
      · rintro w' ⟨s0, s1, s2, s3, s4, s5⟩
        go_simp
        with_reducible rfl
      rotate_left
      · simp only [Act.put, List.setIfInBounds_toArray, List.set_cons_zero, List.set_cons_succ, i64_w, i32_w]
        rfl
      refine pure_ (i := 31) (N := some 10) (v := ?_) (a' := ?_) #[true, true, true, true, true, true, true, true, true, true, true, true, true, true, true, true, true, true, true, true, true, true, true, true, true, true, true, true, true, true, true, true] rfl rfl (by kernel_rfl) (fun _ _ _ h => h) (Or.inl ⟨by rfl, ?_⟩) ?_ ?_
      rotate_left
      · intro w'
        go_simp
        with_reducible rfl
      rotate_left
      · simp only [Act.put, List.setIfInBounds_toArray, List.set_cons_zero, List.set_cons_succ, i64_w, i32_w]
        rfl
      refine done_ (by kernel_rfl) ?_
      clear hHeld k1 k2 k3 k4 k5 k1' k2' k3' k4' k5' o1 o2 o3 o1' o2' o3' g1 g2 g3
      have HQ5 := Aside0.mk (HQi.out.below (below_drew1 (Below.refl _ _)))
      have HB5 := Aside0.mk (HBi.out.below (below_drew1 (Below.refl _ _)))
      have u1 := HQ5.out.bs.cell 0
      go_wp2
      clear u1 HQi HBi
      generalize wi.drew = wj at *
      go_loopw [57] (fun v57 wr => ∃ (q : Nat) (ys : List Int), v57 = .int .i64 q ∧ q ≤ s ∧ Aside0 (Qst w wr P gp cp gs cs gd cd bp bn bs n s N W U f ys) ∧ Aside0 (Dn s m (tgq s m W U f) ys i q) ∧ Aside0 (Bk wr bi 3 [.int .i64 (i : Int)])) (fun v57 _ => s - (intOf v57).toNat)
      case atStart => exact ⟨0, ys, rfl, Nat.zero_le _, HQ5, HD, HB5⟩
      case round =>
        clear HQ5 HB5 HD
        obtain ⟨q, ys, rfl, hq, HQ, HD, HBi⟩ := hrel
        by_cases h2 : q < s
        · have hqa : (q : Int) < (s : Int) := by omega
          go_wp2_with fail
          obtain ⟨bq, hbq⟩ : ∃ b, b = wr.heap.size := ⟨_, rfl⟩
          obtain ⟨wq, hwq⟩ : ∃ w', w' = wr.alloc (.cells #[.int .i64 (q : Int)] 3) := ⟨_, rfl⟩
          have HBq : Aside0 (Bk wq bq 3 [.int .i64 (q : Int)]) := ⟨by rw [hwq, hbq]; exact Bk.new wr 3 [.int .i64 (q : Int)]⟩
          have HQq : Aside0 (Qst w wq P gp cp gs cs gd cd bp bn bs n s N W U f ys) := ⟨by rw [hwq]; exact HQ.out.below (below_alloc (Below.refl _ _) _)⟩
          have HBi2 : Aside0 (Bk wq bi 3 [.int .i64 (i : Int)]) := ⟨by rw [hwq]; exact HBi.out.below (below_alloc (Below.refl _ _) _)⟩
          rw [← hwq, ← hbq]
          clear HQ hwq hbq HBi
          have e169 : ∀ args w, (callFunc 110 args).run Tryz.prog w = .ok (.enter 110 args) w := enters_of Tryz.func110 (by kernel_rfl) rfl
          refine start_ (n := 15) (S := fun w' => w'.cell? ⟨bp, 0, none⟩ = some (.pointer (some ⟨P, 0, none⟩)) ∧ w'.cell? ⟨P, 1, none⟩ = some (.int .u64 (fv U)) ∧ Aside0 (Qst w w' P gp cp gs cs gd cd bp bn bs n s N W U f ys) ∧ Aside0 (Bk w' bq 3 [.int .i64 (q : Int)]) ∧ Aside0 (Bk w' bi 3 [.int .i64 (i : Int)])) (ds := [14]) #[false, false, false, false, false, false, false, false, false, false, false, false, false, false, false] (by kernel_rfl) rfl rfl ⟨HQq.out.bp.cell 0, HQq.out.ps.cell 1, ⟨HQq.out.below (below_drew1 (Below.refl _ _))⟩, ⟨HBq.out.below (below_drew1 (Below.refl _ _))⟩, ⟨HBi2.out.below (below_drew1 (Below.refl _ _))⟩⟩ (fun hHeld => ?_)
          refine pure_ (i := 0) (N := some 61) (v := ?_) (a' := ?_) #[true, false, false, false, false, false, false, false, false, false, false, false, false, false, false] rfl rfl (by kernel_rfl) (fun _ _ _ h => h) (Or.inl ⟨by rfl, ?_⟩) ?_ ?_
          rotate_left
          · intro w'
            go_simp
            with_reducible rfl
          rotate_left
          · simp only [Act.put, List.setIfInBounds_toArray, List.set_cons_zero, List.set_cons_succ, i64_w, i32_w]
            rfl
          refine pure_ (i := 2) (N := some 63) (v := ?_) (a' := ?_) #[true, false, true, false, false, false, false, false, false, false, false, false, false, false, false] rfl rfl (by kernel_rfl) (fun _ _ _ h => h) (Or.inl ⟨by rfl, ?_⟩) ?_ ?_
          rotate_left
          · intro w'
            go_simp
            with_reducible rfl
          rotate_left
          · simp only [Act.put, List.setIfInBounds_toArray, List.set_cons_zero, List.set_cons_succ, i64_w, i32_w]
            rfl
          refine pure_ (i := 4) (N := some 65) (v := ?_) (a' := ?_) #[true, false, true, false, true, false, false, false, false, false, false, false, false, false, false] rfl rfl (by kernel_rfl) (fun _ _ _ h => h) (Or.inl ⟨by rfl, ?_⟩) ?_ ?_
          rotate_left
          · intro w'
            go_simp
            with_reducible rfl
          rotate_left
          · simp only [Act.put, List.setIfInBounds_toArray, List.set_cons_zero, List.set_cons_succ, i64_w, i32_w]
            rfl
          refine pure_ (i := 6) (N := some 67) (v := ?_) (a' := ?_) #[true, false, true, false, true, false, true, false, false, false, false, false, false, false, false] rfl rfl (by kernel_rfl) (fun _ _ _ h => h) (Or.inl ⟨by rfl, ?_⟩) ?_ ?_
          rotate_left
          · intro w'
            go_simp
            with_reducible rfl
          rotate_left
          · simp only [Act.put, List.setIfInBounds_toArray, List.set_cons_zero, List.set_cons_succ, i64_w, i32_w]
            rfl
          refine take_ (i := 8) (N := some 69) (v := ?_) (a' := ?_) #[true, false, true, false, true, false, true, false, true, false, false, false, false, false, false] rfl rfl (by kernel_rfl) (fun _ _ _ h => h) (Or.inl ⟨by rfl, ?_⟩) hHeld ?_ ?_
          rotate_left
          · rintro w' ⟨s0, s1, s2, s3, s4⟩
            go_simp
            with_reducible rfl
          rotate_left
          · simp only [Act.put, List.setIfInBounds_toArray, List.set_cons_zero, List.set_cons_succ, i64_w, i32_w]
            rfl
          refine pure_ (i := 9) (N := some 70) (v := ?_) (a' := ?_) #[true, false, true, false, true, false, true, false, true, true, false, false, false, false, false] rfl rfl (by kernel_rfl) (fun _ _ _ h => h) (Or.inl ⟨by rfl, ?_⟩) ?_ ?_
          rotate_left
          · intro w'
            go_simp
            with_reducible rfl
          rotate_left
          · simp only [Act.put, List.setIfInBounds_toArray, List.set_cons_zero, List.set_cons_succ, i64_w, i32_w]
            rfl
          refine pure_ (i := 10) (N := some 71) (v := ?_) (a' := ?_) #[true, false, true, false, true, false, true, false, true, true, true, false, false, false, false] rfl rfl (by kernel_rfl) (fun _ _ _ h => h) (Or.inl ⟨by rfl, ?_⟩) ?_ ?_
          rotate_left
          · intro w'
            go_simp
            with_reducible rfl
          rotate_left
          · simp only [Act.put, List.setIfInBounds_toArray, List.set_cons_zero, List.set_cons_succ, i64_w, i32_w]
            rfl
          refine take_ (i := 11) (N := some 72) (v := ?_) (a' := ?_) #[true, false, true, false, true, false, true, false, true, true, true, true, false, false, false] rfl rfl (by kernel_rfl) (fun _ _ _ h => h) (Or.inl ⟨by rfl, ?_⟩) hHeld ?_ ?_
          rotate_left
          · rintro w' ⟨s0, s1, s2, s3, s4⟩
            go_simp
            with_reducible rfl
          rotate_left
          · simp only [Act.put, List.setIfInBounds_toArray, List.set_cons_zero, List.set_cons_succ, i64_w, i32_w]
            rfl
          refine join_ (σ := Nat) 1 #[true, true, true, true, true, true, true, true, true, true, true, true, true, true, false] (fun b => [(62, .int .u64 (fv (f (q + s * i)))), (64, .int .u64 (fv (f (q + s * (i + m))))), (66, .int .u64 (fv (f (q + s * (i + 2 * m))))), (68, .int .u64 (fv (f (q + s * (i + 3 * m))))), (73, .agg #[.int .u64 (fv (crs (f (q + s * i)) (f (q + s * (i + m))) (f (q + s * (i + 2 * m))) (f (q + s * (i + 3 * m))) U 0)), .int .u64 (fv (crs (f (q + s * i)) (f (q + s * (i + m))) (f (q + s * (i + 2 * m))) (f (q + s * (i + 3 * m))) U 1)), .int .u64 (fv (crs (f (q + s * i)) (f (q + s * (i + m))) (f (q + s * (i + 2 * m))) (f (q + s * (i + 3 * m))) U 2)), .int .u64 (fv (crs (f (q + s * i)) (f (q + s * (i + m))) (f (q + s * (i + 2 * m))) (f (q + s * (i + 3 * m))) U 3))]), (13, .pointer (some ⟨b, 0, none⟩))]) (fun b w' => (w'.cell? ⟨bp, 0, none⟩ = some (.pointer (some ⟨P, 0, none⟩)) ∧ w'.cell? ⟨P, 1, none⟩ = some (.int .u64 (fv U)) ∧ Aside0 (Qst w w' P gp cp gs cs gd cd bp bn bs n s N W U f ys) ∧ Aside0 (Bk w' bq 3 [.int .i64 (q : Int)]) ∧ Aside0 (Bk w' bi 3 [.int .i64 (i : Int)])) ∧ Aside0 (Bk w' b 154 [.int .u64 0, .int .u64 0, .int .u64 0, .int .u64 0]) ∧ Aside0 (w.heap.size ≤ b)) ?_ ?_
          rotate_left
          · intro hCont
            refine two_ (i := 1) (j := 13) (Ni := some 62) (Nj := some 13) #[true, true, true, false, true, false, true, false, true, true, true, true, false, false, false] #[true, false, true, false, true, false, true, false, true, true, true, true, false, true, false] rfl rfl rfl rfl (by kernel_rfl) (by decide) (by decide) (fun K hK => ?_) (fun K hK => ?_)
            · skip
              refine call_ 110 #[.int .i64 0, .pointer (some ⟨bp, 0, none⟩), .pointer (some ⟨bq, 0, none⟩), .pointer (some ⟨bs, 0, none⟩), .pointer (some ⟨bi, 0, none⟩), .pointer (some ⟨bn, 0, none⟩)] (by rfl) rfl ?hr ?_
              case hr => first | (go_simp; done) | (go_simp; rfl)
              with_reducible refine (at_q 0 0 i q (i) m bq bi hHeld.2.2.1.out hHeld.2.2.2.1.out hHeld.2.2.2.2.out rfl (by decide) h1 h2 Hn.out HN.out H2.out (by omega) hn2).mono ?_
              rintro e w4 ⟨rfl, hb⟩
              refine ⟨_, rfl, ?_⟩
              have nS := hHeld.2.2.1.out.below hb
              have nq := hHeld.2.2.2.1.out.below hb
              have ni := hHeld.2.2.2.2.out.below hb
              clear hHeld hb
              refine hK.out _ _ ⟨nS.bp.cell 0, nS.ps.cell 1, ⟨nS⟩, ⟨nq⟩, ⟨ni⟩⟩ (fun hHeld => ?_)
              clear hK K
              refine norm_ (a' := ?_) ?_ ?_
              rotate_left
              · show Act.put _ (some 62) _ = _
                simp only [Act.put, List.setIfInBounds_toArray, List.set_cons_zero, List.set_cons_succ, i64_w, i32_w]
                rfl
              refine two_ (i := 3) (j := 13) (Ni := some 64) (Nj := some 13) #[true, true, true, true, true, false, true, false, true, true, true, true, false, false, false] #[true, true, true, false, true, false, true, false, true, true, true, true, false, true, false] rfl rfl rfl rfl (by kernel_rfl) (by decide) (by decide) (fun K hK => ?_) (fun K hK => ?_)
              · skip
                refine call_ 110 #[.int .i64 1, .pointer (some ⟨bp, 0, none⟩), .pointer (some ⟨bq, 0, none⟩), .pointer (some ⟨bs, 0, none⟩), .pointer (some ⟨bi, 0, none⟩), .pointer (some ⟨bn, 0, none⟩)] (by rfl) rfl ?hr ?_
                case hr => first | (go_simp; done) | (go_simp; rfl)
                with_reducible refine (at_q 1 1 i q (i + m) m bq bi hHeld.2.2.1.out hHeld.2.2.2.1.out hHeld.2.2.2.2.out rfl (by decide) h1 h2 Hn.out HN.out H2.out (by omega) hn2).mono ?_
                rintro e w5 ⟨rfl, hb⟩
                refine ⟨_, rfl, ?_⟩
                have nS := hHeld.2.2.1.out.below hb
                have nq := hHeld.2.2.2.1.out.below hb
                have ni := hHeld.2.2.2.2.out.below hb
                clear hHeld hb
                refine hK.out _ _ ⟨nS.bp.cell 0, nS.ps.cell 1, ⟨nS⟩, ⟨nq⟩, ⟨ni⟩⟩ (fun hHeld => ?_)
                clear hK K
                refine norm_ (a' := ?_) ?_ ?_
                rotate_left
                · show Act.put _ (some 64) _ = _
                  simp only [Act.put, List.setIfInBounds_toArray, List.set_cons_zero, List.set_cons_succ, i64_w, i32_w]
                  rfl
                refine two_ (i := 5) (j := 13) (Ni := some 66) (Nj := some 13) #[true, true, true, true, true, true, true, false, true, true, true, true, false, false, false] #[true, true, true, true, true, false, true, false, true, true, true, true, false, true, false] rfl rfl rfl rfl (by kernel_rfl) (by decide) (by decide) (fun K hK => ?_) (fun K hK => ?_)
                · skip
                  refine call_ 110 #[.int .i64 2, .pointer (some ⟨bp, 0, none⟩), .pointer (some ⟨bq, 0, none⟩), .pointer (some ⟨bs, 0, none⟩), .pointer (some ⟨bi, 0, none⟩), .pointer (some ⟨bn, 0, none⟩)] (by rfl) rfl ?hr ?_
                  case hr => first | (go_simp; done) | (go_simp; rfl)
                  with_reducible refine (at_q 2 2 i q (i + 2 * m) m bq bi hHeld.2.2.1.out hHeld.2.2.2.1.out hHeld.2.2.2.2.out rfl (by decide) h1 h2 Hn.out HN.out H2.out (by omega) hn2).mono ?_
                  rintro e w6 ⟨rfl, hb⟩
                  refine ⟨_, rfl, ?_⟩
                  have nS := hHeld.2.2.1.out.below hb
                  have nq := hHeld.2.2.2.1.out.below hb
                  have ni := hHeld.2.2.2.2.out.below hb
                  clear hHeld hb
                  refine hK.out _ _ ⟨nS.bp.cell 0, nS.ps.cell 1, ⟨nS⟩, ⟨nq⟩, ⟨ni⟩⟩ (fun hHeld => ?_)
                  clear hK K
                  refine norm_ (a' := ?_) ?_ ?_
                  rotate_left
                  · show Act.put _ (some 66) _ = _
                    simp only [Act.put, List.setIfInBounds_toArray, List.set_cons_zero, List.set_cons_succ, i64_w, i32_w]
                    rfl
                  refine two_ (i := 7) (j := 13) (Ni := some 68) (Nj := some 13) #[true, true, true, true, true, true, true, true, true, true, true, true, false, false, false] #[true, true, true, true, true, true, true, false, true, true, true, true, false, true, false] rfl rfl rfl rfl (by kernel_rfl) (by decide) (by decide) (fun K hK => ?_) (fun K hK => ?_)
                  · skip
                    refine call_ 110 #[.int .i64 3, .pointer (some ⟨bp, 0, none⟩), .pointer (some ⟨bq, 0, none⟩), .pointer (some ⟨bs, 0, none⟩), .pointer (some ⟨bi, 0, none⟩), .pointer (some ⟨bn, 0, none⟩)] (by rfl) rfl ?hr ?_
                    case hr => first | (go_simp; done) | (go_simp; rfl)
                    with_reducible refine (at_q 3 3 i q (i + 3 * m) m bq bi hHeld.2.2.1.out hHeld.2.2.2.1.out hHeld.2.2.2.2.out rfl (by decide) h1 h2 Hn.out HN.out H2.out (by omega) hn2).mono ?_
                    rintro e w7 ⟨rfl, hb⟩
                    refine ⟨_, rfl, ?_⟩
                    have nS := hHeld.2.2.1.out.below hb
                    have nq := hHeld.2.2.2.1.out.below hb
                    have ni := hHeld.2.2.2.2.out.below hb
                    clear hHeld hb
                    refine hK.out _ _ ⟨nS.bp.cell 0, nS.ps.cell 1, ⟨nS⟩, ⟨nq⟩, ⟨ni⟩⟩ (fun hHeld => ?_)
                    clear hK K
                    refine norm_ (a' := ?_) ?_ ?_
                    rotate_left
                    · show Act.put _ (some 68) _ = _
                      simp only [Act.put, List.setIfInBounds_toArray, List.set_cons_zero, List.set_cons_succ, i64_w, i32_w]
                      rfl
                    refine two_ (i := 12) (j := 13) (Ni := some 73) (Nj := some 13) #[true, true, true, true, true, true, true, true, true, true, true, true, true, false, false] #[true, true, true, true, true, true, true, true, true, true, true, true, false, true, false] rfl rfl rfl rfl (by kernel_rfl) (by decide) (by decide) (fun K hK => ?_) (fun K hK => ?_)
                    · skip
                      refine goes_ Tryz.func111 (by kernel_rfl) rfl #[.int .u64 (fv (f (q + s * i))), .int .u64 (fv (f (q + s * (i + m)))), .int .u64 (fv (f (q + s * (i + 2 * m)))), .int .u64 (fv (f (q + s * (i + 3 * m)))), .int .u64 (fv U)] (by rfl) rfl rfl (by simp only [List.map_toArray, List.map_cons, List.map_nil]; rfl) ?_
                      with_reducible refine (cross_calls _ _ _ _ _ _).mono ?_
                      rintro e w8 ⟨rfl, hb⟩
                      refine ⟨_, rfl, ?_⟩
                      have nS := hHeld.2.2.1.out.below hb
                      have nq := hHeld.2.2.2.1.out.below hb
                      have ni := hHeld.2.2.2.2.out.below hb
                      clear hHeld hb
                      refine hK.out _ _ ⟨nS.bp.cell 0, nS.ps.cell 1, ⟨nS⟩, ⟨nq⟩, ⟨ni⟩⟩ (fun hHeld => ?_)
                      clear hK K
                      refine norm_ (a' := ?_) ?_ ?_
                      rotate_left
                      · show Act.put _ (some 73) _ = _
                        simp only [Act.put, List.setIfInBounds_toArray, List.set_cons_zero, List.set_cons_succ, i64_w, i32_w]
                        rfl
                      refine one_ (i := 13) (N := some 13) #[true, true, true, true, true, true, true, true, true, true, true, true, true, true, false] rfl rfl (by kernel_rfl) (by decide) (fun K hK => ?_)
                      refine alloc_step (t := 154) (cs := #[.int .u64 0, .int .u64 0, .int .u64 0, .int .u64 0]) (by rfl) rfl ?hr ?_
                      case hr => first | (go_simp; done) | (go_simp; rfl)
                      intro w9 hA hb _
                      have HA := Aside0.mk hA
                      have HZ := Aside0.mk hHeld.2.2.1.out.fr.size
                      clear hA
                      have nS := hHeld.2.2.1.out.below hb
                      have nq := hHeld.2.2.2.1.out.below hb
                      have ni := hHeld.2.2.2.2.out.below hb
                      clear hHeld hb
                      refine hK.out _ _ ⟨nS.bp.cell 0, nS.ps.cell 1, ⟨nS⟩, ⟨nq⟩, ⟨ni⟩⟩ (fun hHeld => ?_)
                      clear hK K
                      refine norm_ (a' := ?_) ?_ ?_
                      rotate_left
                      · show Act.put _ (some 13) _ = _
                        simp only [Act.put, List.setIfInBounds_toArray, List.set_cons_zero, List.set_cons_succ, i64_w, i32_w]
                        rfl
                      exact norm_ (by first | (simp only [putAll, Act.put, List.setIfInBounds_toArray, List.set_cons_zero, List.set_cons_succ]; done) | (simp only [putAll, Act.put, List.setIfInBounds_toArray, List.set_cons_zero, List.set_cons_succ]; rfl)) (hCont w8.heap.size _ ⟨hHeld, HA, HZ⟩)
                    · skip
                      refine alloc_step (t := 154) (cs := #[.int .u64 0, .int .u64 0, .int .u64 0, .int .u64 0]) (by rfl) rfl ?hr ?_
                      case hr => first | (go_simp; done) | (go_simp; rfl)
                      intro w8 hA hb _
                      have HA := Aside0.mk hA
                      have HZ := Aside0.mk hHeld.2.2.1.out.fr.size
                      clear hA
                      have nS := hHeld.2.2.1.out.below hb
                      have nq := hHeld.2.2.2.1.out.below hb
                      have ni := hHeld.2.2.2.2.out.below hb
                      clear hHeld hb
                      refine hK.out _ _ ⟨nS.bp.cell 0, nS.ps.cell 1, ⟨nS⟩, ⟨nq⟩, ⟨ni⟩⟩ (fun hHeld => ?_)
                      clear hK K
                      refine norm_ (a' := ?_) ?_ ?_
                      rotate_left
                      · show Act.put _ (some 13) _ = _
                        simp only [Act.put, List.setIfInBounds_toArray, List.set_cons_zero, List.set_cons_succ, i64_w, i32_w]
                        rfl
                      refine one_ (i := 12) (N := some 73) #[true, true, true, true, true, true, true, true, true, true, true, true, true, true, false] rfl rfl (by kernel_rfl) (by decide) (fun K hK => ?_)
                      refine goes_ Tryz.func111 (by kernel_rfl) rfl #[.int .u64 (fv (f (q + s * i))), .int .u64 (fv (f (q + s * (i + m)))), .int .u64 (fv (f (q + s * (i + 2 * m)))), .int .u64 (fv (f (q + s * (i + 3 * m)))), .int .u64 (fv U)] (by rfl) rfl rfl (by simp only [List.map_toArray, List.map_cons, List.map_nil]; rfl) ?_
                      with_reducible refine (cross_calls _ _ _ _ _ _).mono ?_
                      rintro e w9 ⟨rfl, hb⟩
                      refine ⟨_, rfl, ?_⟩
                      have nA := HA.out.below hb
                      clear HA
                      have HA := Aside0.mk nA
                      clear nA
                      have nS := hHeld.2.2.1.out.below hb
                      have nq := hHeld.2.2.2.1.out.below hb
                      have ni := hHeld.2.2.2.2.out.below hb
                      clear hHeld hb
                      refine hK.out _ _ ⟨nS.bp.cell 0, nS.ps.cell 1, ⟨nS⟩, ⟨nq⟩, ⟨ni⟩⟩ (fun hHeld => ?_)
                      clear hK K
                      refine norm_ (a' := ?_) ?_ ?_
                      rotate_left
                      · show Act.put _ (some 73) _ = _
                        simp only [Act.put, List.setIfInBounds_toArray, List.set_cons_zero, List.set_cons_succ, i64_w, i32_w]
                        rfl
                      exact norm_ (by first | (simp only [putAll, Act.put, List.setIfInBounds_toArray, List.set_cons_zero, List.set_cons_succ]; done) | (simp only [putAll, Act.put, List.setIfInBounds_toArray, List.set_cons_zero, List.set_cons_succ]; rfl)) (hCont w7.heap.size _ ⟨hHeld, HA, HZ⟩)
                  · skip
                    refine alloc_step (t := 154) (cs := #[.int .u64 0, .int .u64 0, .int .u64 0, .int .u64 0]) (by rfl) rfl ?hr ?_
                    case hr => first | (go_simp; done) | (go_simp; rfl)
                    intro w7 hA hb _
                    have HA := Aside0.mk hA
                    have HZ := Aside0.mk hHeld.2.2.1.out.fr.size
                    clear hA
                    have nS := hHeld.2.2.1.out.below hb
                    have nq := hHeld.2.2.2.1.out.below hb
                    have ni := hHeld.2.2.2.2.out.below hb
                    clear hHeld hb
                    refine hK.out _ _ ⟨nS.bp.cell 0, nS.ps.cell 1, ⟨nS⟩, ⟨nq⟩, ⟨ni⟩⟩ (fun hHeld => ?_)
                    clear hK K
                    refine norm_ (a' := ?_) ?_ ?_
                    rotate_left
                    · show Act.put _ (some 13) _ = _
                      simp only [Act.put, List.setIfInBounds_toArray, List.set_cons_zero, List.set_cons_succ, i64_w, i32_w]
                      rfl
                    refine one_ (i := 7) (N := some 68) #[true, true, true, true, true, true, true, true, true, true, true, true, false, true, false] rfl rfl (by kernel_rfl) (by decide) (fun K hK => ?_)
                    refine call_ 110 #[.int .i64 3, .pointer (some ⟨bp, 0, none⟩), .pointer (some ⟨bq, 0, none⟩), .pointer (some ⟨bs, 0, none⟩), .pointer (some ⟨bi, 0, none⟩), .pointer (some ⟨bn, 0, none⟩)] (by rfl) rfl ?hr ?_
                    case hr => first | (go_simp; done) | (go_simp; rfl)
                    with_reducible refine (at_q 3 3 i q (i + 3 * m) m bq bi hHeld.2.2.1.out hHeld.2.2.2.1.out hHeld.2.2.2.2.out rfl (by decide) h1 h2 Hn.out HN.out H2.out (by omega) hn2).mono ?_
                    rintro e w8 ⟨rfl, hb⟩
                    refine ⟨_, rfl, ?_⟩
                    have nA := HA.out.below hb
                    clear HA
                    have HA := Aside0.mk nA
                    clear nA
                    have nS := hHeld.2.2.1.out.below hb
                    have nq := hHeld.2.2.2.1.out.below hb
                    have ni := hHeld.2.2.2.2.out.below hb
                    clear hHeld hb
                    refine hK.out _ _ ⟨nS.bp.cell 0, nS.ps.cell 1, ⟨nS⟩, ⟨nq⟩, ⟨ni⟩⟩ (fun hHeld => ?_)
                    clear hK K
                    refine norm_ (a' := ?_) ?_ ?_
                    rotate_left
                    · show Act.put _ (some 68) _ = _
                      simp only [Act.put, List.setIfInBounds_toArray, List.set_cons_zero, List.set_cons_succ, i64_w, i32_w]
                      rfl
                    refine one_ (i := 12) (N := some 73) #[true, true, true, true, true, true, true, true, true, true, true, true, true, true, false] rfl rfl (by kernel_rfl) (by decide) (fun K hK => ?_)
                    refine goes_ Tryz.func111 (by kernel_rfl) rfl #[.int .u64 (fv (f (q + s * i))), .int .u64 (fv (f (q + s * (i + m)))), .int .u64 (fv (f (q + s * (i + 2 * m)))), .int .u64 (fv (f (q + s * (i + 3 * m)))), .int .u64 (fv U)] (by rfl) rfl rfl (by simp only [List.map_toArray, List.map_cons, List.map_nil]; rfl) ?_
                    with_reducible refine (cross_calls _ _ _ _ _ _).mono ?_
                    rintro e w9 ⟨rfl, hb⟩
                    refine ⟨_, rfl, ?_⟩
                    have nA := HA.out.below hb
                    clear HA
                    have HA := Aside0.mk nA
                    clear nA
                    have nS := hHeld.2.2.1.out.below hb
                    have nq := hHeld.2.2.2.1.out.below hb
                    have ni := hHeld.2.2.2.2.out.below hb
                    clear hHeld hb
                    refine hK.out _ _ ⟨nS.bp.cell 0, nS.ps.cell 1, ⟨nS⟩, ⟨nq⟩, ⟨ni⟩⟩ (fun hHeld => ?_)
                    clear hK K
                    refine norm_ (a' := ?_) ?_ ?_
                    rotate_left
                    · show Act.put _ (some 73) _ = _
                      simp only [Act.put, List.setIfInBounds_toArray, List.set_cons_zero, List.set_cons_succ, i64_w, i32_w]
                      rfl
                    exact norm_ (by first | (simp only [putAll, Act.put, List.setIfInBounds_toArray, List.set_cons_zero, List.set_cons_succ]; done) | (simp only [putAll, Act.put, List.setIfInBounds_toArray, List.set_cons_zero, List.set_cons_succ]; rfl)) (hCont w6.heap.size _ ⟨hHeld, HA, HZ⟩)
                · skip
                  refine alloc_step (t := 154) (cs := #[.int .u64 0, .int .u64 0, .int .u64 0, .int .u64 0]) (by rfl) rfl ?hr ?_
                  case hr => first | (go_simp; done) | (go_simp; rfl)
                  intro w6 hA hb _
                  have HA := Aside0.mk hA
                  have HZ := Aside0.mk hHeld.2.2.1.out.fr.size
                  clear hA
                  have nS := hHeld.2.2.1.out.below hb
                  have nq := hHeld.2.2.2.1.out.below hb
                  have ni := hHeld.2.2.2.2.out.below hb
                  clear hHeld hb
                  refine hK.out _ _ ⟨nS.bp.cell 0, nS.ps.cell 1, ⟨nS⟩, ⟨nq⟩, ⟨ni⟩⟩ (fun hHeld => ?_)
                  clear hK K
                  refine norm_ (a' := ?_) ?_ ?_
                  rotate_left
                  · show Act.put _ (some 13) _ = _
                    simp only [Act.put, List.setIfInBounds_toArray, List.set_cons_zero, List.set_cons_succ, i64_w, i32_w]
                    rfl
                  refine one_ (i := 5) (N := some 66) #[true, true, true, true, true, true, true, false, true, true, true, true, false, true, false] rfl rfl (by kernel_rfl) (by decide) (fun K hK => ?_)
                  refine call_ 110 #[.int .i64 2, .pointer (some ⟨bp, 0, none⟩), .pointer (some ⟨bq, 0, none⟩), .pointer (some ⟨bs, 0, none⟩), .pointer (some ⟨bi, 0, none⟩), .pointer (some ⟨bn, 0, none⟩)] (by rfl) rfl ?hr ?_
                  case hr => first | (go_simp; done) | (go_simp; rfl)
                  with_reducible refine (at_q 2 2 i q (i + 2 * m) m bq bi hHeld.2.2.1.out hHeld.2.2.2.1.out hHeld.2.2.2.2.out rfl (by decide) h1 h2 Hn.out HN.out H2.out (by omega) hn2).mono ?_
                  rintro e w7 ⟨rfl, hb⟩
                  refine ⟨_, rfl, ?_⟩
                  have nA := HA.out.below hb
                  clear HA
                  have HA := Aside0.mk nA
                  clear nA
                  have nS := hHeld.2.2.1.out.below hb
                  have nq := hHeld.2.2.2.1.out.below hb
                  have ni := hHeld.2.2.2.2.out.below hb
                  clear hHeld hb
                  refine hK.out _ _ ⟨nS.bp.cell 0, nS.ps.cell 1, ⟨nS⟩, ⟨nq⟩, ⟨ni⟩⟩ (fun hHeld => ?_)
                  clear hK K
                  refine norm_ (a' := ?_) ?_ ?_
                  rotate_left
                  · show Act.put _ (some 66) _ = _
                    simp only [Act.put, List.setIfInBounds_toArray, List.set_cons_zero, List.set_cons_succ, i64_w, i32_w]
                    rfl
                  refine one_ (i := 7) (N := some 68) #[true, true, true, true, true, true, true, true, true, true, true, true, false, true, false] rfl rfl (by kernel_rfl) (by decide) (fun K hK => ?_)
                  refine call_ 110 #[.int .i64 3, .pointer (some ⟨bp, 0, none⟩), .pointer (some ⟨bq, 0, none⟩), .pointer (some ⟨bs, 0, none⟩), .pointer (some ⟨bi, 0, none⟩), .pointer (some ⟨bn, 0, none⟩)] (by rfl) rfl ?hr ?_
                  case hr => first | (go_simp; done) | (go_simp; rfl)
                  with_reducible refine (at_q 3 3 i q (i + 3 * m) m bq bi hHeld.2.2.1.out hHeld.2.2.2.1.out hHeld.2.2.2.2.out rfl (by decide) h1 h2 Hn.out HN.out H2.out (by omega) hn2).mono ?_
                  rintro e w8 ⟨rfl, hb⟩
                  refine ⟨_, rfl, ?_⟩
                  have nA := HA.out.below hb
                  clear HA
                  have HA := Aside0.mk nA
                  clear nA
                  have nS := hHeld.2.2.1.out.below hb
                  have nq := hHeld.2.2.2.1.out.below hb
                  have ni := hHeld.2.2.2.2.out.below hb
                  clear hHeld hb
                  refine hK.out _ _ ⟨nS.bp.cell 0, nS.ps.cell 1, ⟨nS⟩, ⟨nq⟩, ⟨ni⟩⟩ (fun hHeld => ?_)
                  clear hK K
                  refine norm_ (a' := ?_) ?_ ?_
                  rotate_left
                  · show Act.put _ (some 68) _ = _
                    simp only [Act.put, List.setIfInBounds_toArray, List.set_cons_zero, List.set_cons_succ, i64_w, i32_w]
                    rfl
                  refine one_ (i := 12) (N := some 73) #[true, true, true, true, true, true, true, true, true, true, true, true, true, true, false] rfl rfl (by kernel_rfl) (by decide) (fun K hK => ?_)
                  refine goes_ Tryz.func111 (by kernel_rfl) rfl #[.int .u64 (fv (f (q + s * i))), .int .u64 (fv (f (q + s * (i + m)))), .int .u64 (fv (f (q + s * (i + 2 * m)))), .int .u64 (fv (f (q + s * (i + 3 * m)))), .int .u64 (fv U)] (by rfl) rfl rfl (by simp only [List.map_toArray, List.map_cons, List.map_nil]; rfl) ?_
                  with_reducible refine (cross_calls _ _ _ _ _ _).mono ?_
                  rintro e w9 ⟨rfl, hb⟩
                  refine ⟨_, rfl, ?_⟩
                  have nA := HA.out.below hb
                  clear HA
                  have HA := Aside0.mk nA
                  clear nA
                  have nS := hHeld.2.2.1.out.below hb
                  have nq := hHeld.2.2.2.1.out.below hb
                  have ni := hHeld.2.2.2.2.out.below hb
                  clear hHeld hb
                  refine hK.out _ _ ⟨nS.bp.cell 0, nS.ps.cell 1, ⟨nS⟩, ⟨nq⟩, ⟨ni⟩⟩ (fun hHeld => ?_)
                  clear hK K
                  refine norm_ (a' := ?_) ?_ ?_
                  rotate_left
                  · show Act.put _ (some 73) _ = _
                    simp only [Act.put, List.setIfInBounds_toArray, List.set_cons_zero, List.set_cons_succ, i64_w, i32_w]
                    rfl
                  exact norm_ (by first | (simp only [putAll, Act.put, List.setIfInBounds_toArray, List.set_cons_zero, List.set_cons_succ]; done) | (simp only [putAll, Act.put, List.setIfInBounds_toArray, List.set_cons_zero, List.set_cons_succ]; rfl)) (hCont w5.heap.size _ ⟨hHeld, HA, HZ⟩)
              · skip
                refine alloc_step (t := 154) (cs := #[.int .u64 0, .int .u64 0, .int .u64 0, .int .u64 0]) (by rfl) rfl ?hr ?_
                case hr => first | (go_simp; done) | (go_simp; rfl)
                intro w5 hA hb _
                have HA := Aside0.mk hA
                have HZ := Aside0.mk hHeld.2.2.1.out.fr.size
                clear hA
                have nS := hHeld.2.2.1.out.below hb
                have nq := hHeld.2.2.2.1.out.below hb
                have ni := hHeld.2.2.2.2.out.below hb
                clear hHeld hb
                refine hK.out _ _ ⟨nS.bp.cell 0, nS.ps.cell 1, ⟨nS⟩, ⟨nq⟩, ⟨ni⟩⟩ (fun hHeld => ?_)
                clear hK K
                refine norm_ (a' := ?_) ?_ ?_
                rotate_left
                · show Act.put _ (some 13) _ = _
                  simp only [Act.put, List.setIfInBounds_toArray, List.set_cons_zero, List.set_cons_succ, i64_w, i32_w]
                  rfl
                refine one_ (i := 3) (N := some 64) #[true, true, true, true, true, false, true, false, true, true, true, true, false, true, false] rfl rfl (by kernel_rfl) (by decide) (fun K hK => ?_)
                refine call_ 110 #[.int .i64 1, .pointer (some ⟨bp, 0, none⟩), .pointer (some ⟨bq, 0, none⟩), .pointer (some ⟨bs, 0, none⟩), .pointer (some ⟨bi, 0, none⟩), .pointer (some ⟨bn, 0, none⟩)] (by rfl) rfl ?hr ?_
                case hr => first | (go_simp; done) | (go_simp; rfl)
                with_reducible refine (at_q 1 1 i q (i + m) m bq bi hHeld.2.2.1.out hHeld.2.2.2.1.out hHeld.2.2.2.2.out rfl (by decide) h1 h2 Hn.out HN.out H2.out (by omega) hn2).mono ?_
                rintro e w6 ⟨rfl, hb⟩
                refine ⟨_, rfl, ?_⟩
                have nA := HA.out.below hb
                clear HA
                have HA := Aside0.mk nA
                clear nA
                have nS := hHeld.2.2.1.out.below hb
                have nq := hHeld.2.2.2.1.out.below hb
                have ni := hHeld.2.2.2.2.out.below hb
                clear hHeld hb
                refine hK.out _ _ ⟨nS.bp.cell 0, nS.ps.cell 1, ⟨nS⟩, ⟨nq⟩, ⟨ni⟩⟩ (fun hHeld => ?_)
                clear hK K
                refine norm_ (a' := ?_) ?_ ?_
                rotate_left
                · show Act.put _ (some 64) _ = _
                  simp only [Act.put, List.setIfInBounds_toArray, List.set_cons_zero, List.set_cons_succ, i64_w, i32_w]
                  rfl
                refine one_ (i := 5) (N := some 66) #[true, true, true, true, true, true, true, false, true, true, true, true, false, true, false] rfl rfl (by kernel_rfl) (by decide) (fun K hK => ?_)
                refine call_ 110 #[.int .i64 2, .pointer (some ⟨bp, 0, none⟩), .pointer (some ⟨bq, 0, none⟩), .pointer (some ⟨bs, 0, none⟩), .pointer (some ⟨bi, 0, none⟩), .pointer (some ⟨bn, 0, none⟩)] (by rfl) rfl ?hr ?_
                case hr => first | (go_simp; done) | (go_simp; rfl)
                with_reducible refine (at_q 2 2 i q (i + 2 * m) m bq bi hHeld.2.2.1.out hHeld.2.2.2.1.out hHeld.2.2.2.2.out rfl (by decide) h1 h2 Hn.out HN.out H2.out (by omega) hn2).mono ?_
                rintro e w7 ⟨rfl, hb⟩
                refine ⟨_, rfl, ?_⟩
                have nA := HA.out.below hb
                clear HA
                have HA := Aside0.mk nA
                clear nA
                have nS := hHeld.2.2.1.out.below hb
                have nq := hHeld.2.2.2.1.out.below hb
                have ni := hHeld.2.2.2.2.out.below hb
                clear hHeld hb
                refine hK.out _ _ ⟨nS.bp.cell 0, nS.ps.cell 1, ⟨nS⟩, ⟨nq⟩, ⟨ni⟩⟩ (fun hHeld => ?_)
                clear hK K
                refine norm_ (a' := ?_) ?_ ?_
                rotate_left
                · show Act.put _ (some 66) _ = _
                  simp only [Act.put, List.setIfInBounds_toArray, List.set_cons_zero, List.set_cons_succ, i64_w, i32_w]
                  rfl
                refine one_ (i := 7) (N := some 68) #[true, true, true, true, true, true, true, true, true, true, true, true, false, true, false] rfl rfl (by kernel_rfl) (by decide) (fun K hK => ?_)
                refine call_ 110 #[.int .i64 3, .pointer (some ⟨bp, 0, none⟩), .pointer (some ⟨bq, 0, none⟩), .pointer (some ⟨bs, 0, none⟩), .pointer (some ⟨bi, 0, none⟩), .pointer (some ⟨bn, 0, none⟩)] (by rfl) rfl ?hr ?_
                case hr => first | (go_simp; done) | (go_simp; rfl)
                with_reducible refine (at_q 3 3 i q (i + 3 * m) m bq bi hHeld.2.2.1.out hHeld.2.2.2.1.out hHeld.2.2.2.2.out rfl (by decide) h1 h2 Hn.out HN.out H2.out (by omega) hn2).mono ?_
                rintro e w8 ⟨rfl, hb⟩
                refine ⟨_, rfl, ?_⟩
                have nA := HA.out.below hb
                clear HA
                have HA := Aside0.mk nA
                clear nA
                have nS := hHeld.2.2.1.out.below hb
                have nq := hHeld.2.2.2.1.out.below hb
                have ni := hHeld.2.2.2.2.out.below hb
                clear hHeld hb
                refine hK.out _ _ ⟨nS.bp.cell 0, nS.ps.cell 1, ⟨nS⟩, ⟨nq⟩, ⟨ni⟩⟩ (fun hHeld => ?_)
                clear hK K
                refine norm_ (a' := ?_) ?_ ?_
                rotate_left
                · show Act.put _ (some 68) _ = _
                  simp only [Act.put, List.setIfInBounds_toArray, List.set_cons_zero, List.set_cons_succ, i64_w, i32_w]
                  rfl
                refine one_ (i := 12) (N := some 73) #[true, true, true, true, true, true, true, true, true, true, true, true, true, true, false] rfl rfl (by kernel_rfl) (by decide) (fun K hK => ?_)
                refine goes_ Tryz.func111 (by kernel_rfl) rfl #[.int .u64 (fv (f (q + s * i))), .int .u64 (fv (f (q + s * (i + m)))), .int .u64 (fv (f (q + s * (i + 2 * m)))), .int .u64 (fv (f (q + s * (i + 3 * m)))), .int .u64 (fv U)] (by rfl) rfl rfl (by simp only [List.map_toArray, List.map_cons, List.map_nil]; rfl) ?_
                with_reducible refine (cross_calls _ _ _ _ _ _).mono ?_
                rintro e w9 ⟨rfl, hb⟩
                refine ⟨_, rfl, ?_⟩
                have nA := HA.out.below hb
                clear HA
                have HA := Aside0.mk nA
                clear nA
                have nS := hHeld.2.2.1.out.below hb
                have nq := hHeld.2.2.2.1.out.below hb
                have ni := hHeld.2.2.2.2.out.below hb
                clear hHeld hb
                refine hK.out _ _ ⟨nS.bp.cell 0, nS.ps.cell 1, ⟨nS⟩, ⟨nq⟩, ⟨ni⟩⟩ (fun hHeld => ?_)
                clear hK K
                refine norm_ (a' := ?_) ?_ ?_
                rotate_left
                · show Act.put _ (some 73) _ = _
                  simp only [Act.put, List.setIfInBounds_toArray, List.set_cons_zero, List.set_cons_succ, i64_w, i32_w]
                  rfl
                exact norm_ (by first | (simp only [putAll, Act.put, List.setIfInBounds_toArray, List.set_cons_zero, List.set_cons_succ]; done) | (simp only [putAll, Act.put, List.setIfInBounds_toArray, List.set_cons_zero, List.set_cons_succ]; rfl)) (hCont w4.heap.size _ ⟨hHeld, HA, HZ⟩)
            · skip
              refine alloc_step (t := 154) (cs := #[.int .u64 0, .int .u64 0, .int .u64 0, .int .u64 0]) (by rfl) rfl ?hr ?_
              case hr => first | (go_simp; done) | (go_simp; rfl)
              intro w4 hA hb _
              have HA := Aside0.mk hA
              have HZ := Aside0.mk hHeld.2.2.1.out.fr.size
              clear hA
              have nS := hHeld.2.2.1.out.below hb
              have nq := hHeld.2.2.2.1.out.below hb
              have ni := hHeld.2.2.2.2.out.below hb
              clear hHeld hb
              refine hK.out _ _ ⟨nS.bp.cell 0, nS.ps.cell 1, ⟨nS⟩, ⟨nq⟩, ⟨ni⟩⟩ (fun hHeld => ?_)
              clear hK K
              refine norm_ (a' := ?_) ?_ ?_
              rotate_left
              · show Act.put _ (some 13) _ = _
                simp only [Act.put, List.setIfInBounds_toArray, List.set_cons_zero, List.set_cons_succ, i64_w, i32_w]
                rfl
              refine one_ (i := 1) (N := some 62) #[true, true, true, false, true, false, true, false, true, true, true, true, false, true, false] rfl rfl (by kernel_rfl) (by decide) (fun K hK => ?_)
              refine call_ 110 #[.int .i64 0, .pointer (some ⟨bp, 0, none⟩), .pointer (some ⟨bq, 0, none⟩), .pointer (some ⟨bs, 0, none⟩), .pointer (some ⟨bi, 0, none⟩), .pointer (some ⟨bn, 0, none⟩)] (by rfl) rfl ?hr ?_
              case hr => first | (go_simp; done) | (go_simp; rfl)
              with_reducible refine (at_q 0 0 i q (i) m bq bi hHeld.2.2.1.out hHeld.2.2.2.1.out hHeld.2.2.2.2.out rfl (by decide) h1 h2 Hn.out HN.out H2.out (by omega) hn2).mono ?_
              rintro e w5 ⟨rfl, hb⟩
              refine ⟨_, rfl, ?_⟩
              have nA := HA.out.below hb
              clear HA
              have HA := Aside0.mk nA
              clear nA
              have nS := hHeld.2.2.1.out.below hb
              have nq := hHeld.2.2.2.1.out.below hb
              have ni := hHeld.2.2.2.2.out.below hb
              clear hHeld hb
              refine hK.out _ _ ⟨nS.bp.cell 0, nS.ps.cell 1, ⟨nS⟩, ⟨nq⟩, ⟨ni⟩⟩ (fun hHeld => ?_)
              clear hK K
              refine norm_ (a' := ?_) ?_ ?_
              rotate_left
              · show Act.put _ (some 62) _ = _
                simp only [Act.put, List.setIfInBounds_toArray, List.set_cons_zero, List.set_cons_succ, i64_w, i32_w]
                rfl
              refine one_ (i := 3) (N := some 64) #[true, true, true, true, true, false, true, false, true, true, true, true, false, true, false] rfl rfl (by kernel_rfl) (by decide) (fun K hK => ?_)
              refine call_ 110 #[.int .i64 1, .pointer (some ⟨bp, 0, none⟩), .pointer (some ⟨bq, 0, none⟩), .pointer (some ⟨bs, 0, none⟩), .pointer (some ⟨bi, 0, none⟩), .pointer (some ⟨bn, 0, none⟩)] (by rfl) rfl ?hr ?_
              case hr => first | (go_simp; done) | (go_simp; rfl)
              with_reducible refine (at_q 1 1 i q (i + m) m bq bi hHeld.2.2.1.out hHeld.2.2.2.1.out hHeld.2.2.2.2.out rfl (by decide) h1 h2 Hn.out HN.out H2.out (by omega) hn2).mono ?_
              rintro e w6 ⟨rfl, hb⟩
              refine ⟨_, rfl, ?_⟩
              have nA := HA.out.below hb
              clear HA
              have HA := Aside0.mk nA
              clear nA
              have nS := hHeld.2.2.1.out.below hb
              have nq := hHeld.2.2.2.1.out.below hb
              have ni := hHeld.2.2.2.2.out.below hb
              clear hHeld hb
              refine hK.out _ _ ⟨nS.bp.cell 0, nS.ps.cell 1, ⟨nS⟩, ⟨nq⟩, ⟨ni⟩⟩ (fun hHeld => ?_)
              clear hK K
              refine norm_ (a' := ?_) ?_ ?_
              rotate_left
              · show Act.put _ (some 64) _ = _
                simp only [Act.put, List.setIfInBounds_toArray, List.set_cons_zero, List.set_cons_succ, i64_w, i32_w]
                rfl
              refine one_ (i := 5) (N := some 66) #[true, true, true, true, true, true, true, false, true, true, true, true, false, true, false] rfl rfl (by kernel_rfl) (by decide) (fun K hK => ?_)
              refine call_ 110 #[.int .i64 2, .pointer (some ⟨bp, 0, none⟩), .pointer (some ⟨bq, 0, none⟩), .pointer (some ⟨bs, 0, none⟩), .pointer (some ⟨bi, 0, none⟩), .pointer (some ⟨bn, 0, none⟩)] (by rfl) rfl ?hr ?_
              case hr => first | (go_simp; done) | (go_simp; rfl)
              with_reducible refine (at_q 2 2 i q (i + 2 * m) m bq bi hHeld.2.2.1.out hHeld.2.2.2.1.out hHeld.2.2.2.2.out rfl (by decide) h1 h2 Hn.out HN.out H2.out (by omega) hn2).mono ?_
              rintro e w7 ⟨rfl, hb⟩
              refine ⟨_, rfl, ?_⟩
              have nA := HA.out.below hb
              clear HA
              have HA := Aside0.mk nA
              clear nA
              have nS := hHeld.2.2.1.out.below hb
              have nq := hHeld.2.2.2.1.out.below hb
              have ni := hHeld.2.2.2.2.out.below hb
              clear hHeld hb
              refine hK.out _ _ ⟨nS.bp.cell 0, nS.ps.cell 1, ⟨nS⟩, ⟨nq⟩, ⟨ni⟩⟩ (fun hHeld => ?_)
              clear hK K
              refine norm_ (a' := ?_) ?_ ?_
              rotate_left
              · show Act.put _ (some 66) _ = _
                simp only [Act.put, List.setIfInBounds_toArray, List.set_cons_zero, List.set_cons_succ, i64_w, i32_w]
                rfl
              refine one_ (i := 7) (N := some 68) #[true, true, true, true, true, true, true, true, true, true, true, true, false, true, false] rfl rfl (by kernel_rfl) (by decide) (fun K hK => ?_)
              refine call_ 110 #[.int .i64 3, .pointer (some ⟨bp, 0, none⟩), .pointer (some ⟨bq, 0, none⟩), .pointer (some ⟨bs, 0, none⟩), .pointer (some ⟨bi, 0, none⟩), .pointer (some ⟨bn, 0, none⟩)] (by rfl) rfl ?hr ?_
              case hr => first | (go_simp; done) | (go_simp; rfl)
              with_reducible refine (at_q 3 3 i q (i + 3 * m) m bq bi hHeld.2.2.1.out hHeld.2.2.2.1.out hHeld.2.2.2.2.out rfl (by decide) h1 h2 Hn.out HN.out H2.out (by omega) hn2).mono ?_
              rintro e w8 ⟨rfl, hb⟩
              refine ⟨_, rfl, ?_⟩
              have nA := HA.out.below hb
              clear HA
              have HA := Aside0.mk nA
              clear nA
              have nS := hHeld.2.2.1.out.below hb
              have nq := hHeld.2.2.2.1.out.below hb
              have ni := hHeld.2.2.2.2.out.below hb
              clear hHeld hb
              refine hK.out _ _ ⟨nS.bp.cell 0, nS.ps.cell 1, ⟨nS⟩, ⟨nq⟩, ⟨ni⟩⟩ (fun hHeld => ?_)
              clear hK K
              refine norm_ (a' := ?_) ?_ ?_
              rotate_left
              · show Act.put _ (some 68) _ = _
                simp only [Act.put, List.setIfInBounds_toArray, List.set_cons_zero, List.set_cons_succ, i64_w, i32_w]
                rfl
              refine one_ (i := 12) (N := some 73) #[true, true, true, true, true, true, true, true, true, true, true, true, true, true, false] rfl rfl (by kernel_rfl) (by decide) (fun K hK => ?_)
              refine goes_ Tryz.func111 (by kernel_rfl) rfl #[.int .u64 (fv (f (q + s * i))), .int .u64 (fv (f (q + s * (i + m)))), .int .u64 (fv (f (q + s * (i + 2 * m)))), .int .u64 (fv (f (q + s * (i + 3 * m)))), .int .u64 (fv U)] (by rfl) rfl rfl (by simp only [List.map_toArray, List.map_cons, List.map_nil]; rfl) ?_
              with_reducible refine (cross_calls _ _ _ _ _ _).mono ?_
              rintro e w9 ⟨rfl, hb⟩
              refine ⟨_, rfl, ?_⟩
              have nA := HA.out.below hb
              clear HA
              have HA := Aside0.mk nA
              clear nA
              have nS := hHeld.2.2.1.out.below hb
              have nq := hHeld.2.2.2.1.out.below hb
              have ni := hHeld.2.2.2.2.out.below hb
              clear hHeld hb
              refine hK.out _ _ ⟨nS.bp.cell 0, nS.ps.cell 1, ⟨nS⟩, ⟨nq⟩, ⟨ni⟩⟩ (fun hHeld => ?_)
              clear hK K
              refine norm_ (a' := ?_) ?_ ?_
              rotate_left
              · show Act.put _ (some 73) _ = _
                simp only [Act.put, List.setIfInBounds_toArray, List.set_cons_zero, List.set_cons_succ, i64_w, i32_w]
                rfl
              exact norm_ (by first | (simp only [putAll, Act.put, List.setIfInBounds_toArray, List.set_cons_zero, List.set_cons_succ]; done) | (simp only [putAll, Act.put, List.setIfInBounds_toArray, List.set_cons_zero, List.set_cons_succ]; rfl)) (hCont wq.heap.size _ ⟨hHeld, HA, HZ⟩)
          rintro ba w10 ⟨hHeld, HA, HZ⟩
          refine norm_ (a' := ?_) ?_ ?_
          rotate_left
          · simp only [putAll, Act.put, List.setIfInBounds_toArray, List.set_cons_zero, List.set_cons_succ]
            rfl
          refine last_ (i := 14) (N := none) #[true, true, true, true, true, true, true, true, true, true, true, true, true, true, true] rfl rfl (by kernel_rfl) (by decide) (fun K hK => ?_)
          have z0 := HA.out.cell 0
          have z1 := HA.out.cell 1
          have z2 := HA.out.cell 2
          have z3 := HA.out.cell 3
          have y0 := HA.out.frozen 0
          have y1 := HA.out.frozen 1
          have y2 := HA.out.frozen 2
          have y3 := HA.out.frozen 3
          refine skip_ (w1 := ?_) (by rfl) rfl ?_ ?_
          rotate_left
          · go_simp
            rfl
          refine hK.out _ _ ?_
          clear hK K
          refine done_ (by kernel_rfl) ?_
          have hQ9 := hHeld.2.2.1.out
          have hq9 := hHeld.2.2.2.1.out
          have hi9 := hHeld.2.2.2.2.out
          have HC := Aside0.mk (Cst.made hQ9 hi9 hq9 HA.out HZ.out (crs (f (q + s * i)) (f (q + s * (i + m))) (f (q + s * (i + 2 * m))) (f (q + s * (i + 3 * m))) U 0) (crs (f (q + s * i)) (f (q + s * (i + m))) (f (q + s * (i + 2 * m))) (f (q + s * (i + 3 * m))) U 1) (crs (f (q + s * i)) (f (q + s * (i + m))) (f (q + s * (i + 2 * m))) (f (q + s * (i + 3 * m))) U 2) (crs (f (q + s * i)) (f (q + s * (i + m))) (f (q + s * (i + 2 * m))) (f (q + s * (i + 3 * m))) U 3))
          have hNx := fun {t0 t1 t2 t3 : Nat} => HD.out.next h2 h1 Hn.out HN.out hQ9.len E1.out E2.out E3.out (t0 := t0) (t1 := t1) (t2 := t2) (t3 := t3)
          have HNx := Aside0.mk @hNx
          clear hHeld hQ9 hq9 hi9 HA HZ HQq HBq HBi2 hNx
          generalize c0 : crs (f (q + s * i)) (f (q + s * (i + m))) (f (q + s * (i + 2 * m))) (f (q + s * (i + 3 * m))) U 0 = y0 at HC ⊢
          generalize c1 : crs (f (q + s * i)) (f (q + s * (i + m))) (f (q + s * (i + 2 * m))) (f (q + s * (i + 3 * m))) U 1 = y1 at HC ⊢
          generalize c2_ : crs (f (q + s * i)) (f (q + s * (i + m))) (f (q + s * (i + 2 * m))) (f (q + s * (i + 3 * m))) U 2 = y2 at HC ⊢
          generalize c3_ : crs (f (q + s * i)) (f (q + s * (i + m))) (f (q + s * (i + 2 * m))) (f (q + s * (i + 3 * m))) U 3 = y3 at HC ⊢
          obtain ⟨wc, hwc⟩ : ∃ w', w' = (((w10.setCell ⟨ba, 0, none⟩ (.int .u64 (fv y0))).setCell ⟨ba, 1, none⟩ (.int .u64 (fv y1))).setCell ⟨ba, 2, none⟩ (.int .u64 (fv y2))).setCell ⟨ba, 3, none⟩ (.int .u64 (fv y3)) := ⟨_, rfl⟩
          rw [← hwc] at HC ⊢
          clear hwc
          obtain ⟨s4, hs4⟩ : ∃ x, x = s * 4 := ⟨_, rfl⟩
          obtain ⟨z4, hz4⟩ : ∃ x, x = s4 * i := ⟨_, rfl⟩
          obtain ⟨t0, ht0⟩ : ∃ x, x = q + z4 := ⟨_, rfl⟩
          obtain ⟨t1, ht1⟩ : ∃ x, x = t0 + s := ⟨_, rfl⟩
          obtain ⟨d2, hd2⟩ : ∃ x, x = 2 * s := ⟨_, rfl⟩
          obtain ⟨t2, ht2⟩ : ∃ x, x = t0 + d2 := ⟨_, rfl⟩
          obtain ⟨d3, hd3⟩ : ∃ x, x = 3 * s := ⟨_, rfl⟩
          obtain ⟨t3, ht3⟩ : ∃ x, x = t0 + d3 := ⟨_, rfl⟩
          have et0 : t0 = q + s * (4 * i) := by rw [ht0, hz4, hs4, Nat.mul_assoc]
          have HNy := Aside0.mk (HNx.out et0 ht1 (show t2 = t0 + 2 * s by omega) (show t3 = t0 + 3 * s by omega) c0 c1 c2_ c3_)
          have T3 : Aside0 (t3 < N) := ⟨by have := place_lt h2 (show 4 * i + 3 < n by have := Hn.out; omega) HN.out
                                           rw [Nat.mul_add] at this
                                           omega⟩
          have T0 : Aside0 (t0 < N) := ⟨by have := T3.out; omega⟩
          have T1 : Aside0 (t1 < N) := ⟨by have := T3.out; omega⟩
          have T2 : Aside0 (t2 < N) := ⟨by have := T3.out; omega⟩
          have o0 : (0 : Int) ≤ (t0 : Int) ∧ (t0 : Int) < (N : Int) := by have := T0.out; omega
          have o1 : (0 : Int) ≤ (t1 : Int) ∧ (t1 : Int) < (N : Int) := by have := T1.out; omega
          have o2 : (0 : Int) ≤ (t2 : Int) ∧ (t2 : Int) < (N : Int) := by have := T2.out; omega
          have o3 : (0 : Int) ≤ (t3 : Int) ∧ (t3 : Int) < (N : Int) := by have := T3.out; omega
          have l4 := H2.out
          have l5 := T3.out
          obtain ⟨k1, k2, k3, k4, k5, k6, k7, k8⟩ : (IntKind.i64.wrap ((s : Int) * 4) = (s4 : Int) ∧ wrap64 ((s : Int) * 4) = (s4 : Int)) ∧ (IntKind.i64.wrap ((s4 : Int) * (i : Int)) = (z4 : Int) ∧ wrap64 ((s4 : Int) * (i : Int)) = (z4 : Int)) ∧ (IntKind.i64.wrap ((q : Int) + (z4 : Int)) = (t0 : Int) ∧ wrap64 ((q : Int) + (z4 : Int)) = (t0 : Int)) ∧ (IntKind.i64.wrap ((t0 : Int) + (s : Int)) = (t1 : Int) ∧ wrap64 ((t0 : Int) + (s : Int)) = (t1 : Int)) ∧ (IntKind.i64.wrap (2 * (s : Int)) = (d2 : Int) ∧ wrap64 (2 * (s : Int)) = (d2 : Int)) ∧ (IntKind.i64.wrap ((t0 : Int) + (d2 : Int)) = (t2 : Int) ∧ wrap64 ((t0 : Int) + (d2 : Int)) = (t2 : Int)) ∧ (IntKind.i64.wrap (3 * (s : Int)) = (d3 : Int) ∧ wrap64 (3 * (s : Int)) = (d3 : Int)) ∧ (IntKind.i64.wrap ((t0 : Int) + (d3 : Int)) = (t3 : Int) ∧ wrap64 ((t0 : Int) + (d3 : Int)) = (t3 : Int)) :=
            ⟨wrapb (by omega) (by omega), wrapb (by rw [← Int.natCast_mul, hz4]) (by omega), wrapb (by omega) (by omega), wrapb (by omega) (by omega), wrapb (by omega) (by omega), wrapb (by omega) (by omega), wrapb (by omega) (by omega), wrapb (by omega) (by omega)⟩
          clear hs4 hz4 ht0 ht1 hd2 ht2 hd3 ht3 et0 l4 l5 HNx c0 c1 c2_ c3_ HD
          obtain ⟨o0, o0'⟩ := o0
          obtain ⟨o1, o1'⟩ := o1
          obtain ⟨o2, o2'⟩ := o2
          obtain ⟨o3, o3'⟩ := o3
          obtain ⟨k1, k1'⟩ := k1
          obtain ⟨k2, k2'⟩ := k2
          obtain ⟨k3, k3'⟩ := k3
          obtain ⟨k4, k4'⟩ := k4
          obtain ⟨k5, k5'⟩ := k5
          obtain ⟨k6, k6'⟩ := k6
          obtain ⟨k7, k7'⟩ := k7
          obtain ⟨k8, k8'⟩ := k8
          have u1 := HC.out.bq.cell 0
          have u2 := HC.out.st.bs.cell 0
          have u3 := HC.out.bi.cell 0
          go_wp2_with fail
          clear u1 u2 u3
          refine start_ (n := 9) (S := fun w' => w'.cell? ⟨bp, 0, none⟩ = some (.pointer (some ⟨P, 0, none⟩)) ∧ w'.cell? ⟨P, 3, none⟩ = some (.slice (some ⟨gd, 0, none⟩) N cd) ∧ w'.cell? ⟨ba, 0, none⟩ = some (.int .u64 (fv y0))) (ds := [8]) #[false, false, false, false, false, false, false, false, false] (by kernel_rfl) rfl rfl ⟨HC.out.st.bp.cell 0, HC.out.st.ps.cell 3, HC.out.ba.cell 0⟩ (fun hHeld => ?_)
          refine pure_ (i := 4) (N := some 84) (v := ?_) (a' := ?_) #[false, false, false, false, true, false, false, false, false] rfl rfl (by kernel_rfl) (fun _ _ _ h => h) (Or.inl ⟨by rfl, ?_⟩) ?_ ?_
          rotate_left
          · intro w'
            go_simp
            with_reducible rfl
          rotate_left
          · simp only [Act.put, List.setIfInBounds_toArray, List.set_cons_zero, List.set_cons_succ, i64_w, i32_w]
            rfl
          refine pure_ (i := 5) (N := some 85) (v := ?_) (a' := ?_) #[false, false, false, false, true, true, false, false, false] rfl rfl (by kernel_rfl) (fun _ _ _ h => h) (Or.inl ⟨by rfl, ?_⟩) ?_ ?_
          rotate_left
          · intro w'
            go_simp
            with_reducible rfl
          rotate_left
          · simp only [Act.put, List.setIfInBounds_toArray, List.set_cons_zero, List.set_cons_succ, i64_w, i32_w]
            rfl
          refine take_ (i := 0) (N := some 80) (v := ?_) (a' := ?_) #[true, false, false, false, true, true, false, false, false] rfl rfl (by kernel_rfl) (fun _ _ _ h => h) (Or.inl ⟨by rfl, ?_⟩) hHeld ?_ ?_
          rotate_left
          · rintro w' ⟨s0, s1, s2⟩
            go_simp
            with_reducible rfl
          rotate_left
          · simp only [Act.put, List.setIfInBounds_toArray, List.set_cons_zero, List.set_cons_succ, i64_w, i32_w]
            rfl
          refine pure_ (i := 1) (N := some 81) (v := ?_) (a' := ?_) #[true, true, false, false, true, true, false, false, false] rfl rfl (by kernel_rfl) (fun _ _ _ h => h) (Or.inl ⟨by rfl, ?_⟩) ?_ ?_
          rotate_left
          · intro w'
            go_simp
            with_reducible rfl
          rotate_left
          · simp only [Act.put, List.setIfInBounds_toArray, List.set_cons_zero, List.set_cons_succ, i64_w, i32_w]
            rfl
          refine pure_ (i := 2) (N := some 82) (v := ?_) (a' := ?_) #[true, true, true, false, true, true, false, false, false] rfl rfl (by kernel_rfl) (fun _ _ _ h => h) (Or.inl ⟨by rfl, ?_⟩) ?_ ?_
          rotate_left
          · intro w'
            go_simp
            with_reducible rfl
          rotate_left
          · simp only [Act.put, List.setIfInBounds_toArray, List.set_cons_zero, List.set_cons_succ, i64_w, i32_w]
            rfl
          refine take_ (i := 3) (N := some 83) (v := ?_) (a' := ?_) #[true, true, true, true, true, true, false, false, false] rfl rfl (by kernel_rfl) (fun _ _ _ h => h) (Or.inl ⟨by rfl, ?_⟩) hHeld ?_ ?_
          rotate_left
          · rintro w' ⟨s0, s1, s2⟩
            go_simp
            with_reducible rfl
          rotate_left
          · simp only [Act.put, List.setIfInBounds_toArray, List.set_cons_zero, List.set_cons_succ, i64_w, i32_w]
            rfl
          refine take_ (i := 6) (N := some 86) (v := ?_) (a' := ?_) #[true, true, true, true, true, true, true, false, false] rfl rfl (by kernel_rfl) (fun _ _ _ h => h) (Or.inl ⟨by rfl, ?_⟩) hHeld ?_ ?_
          rotate_left
          · rintro w' ⟨s0, s1, s2⟩
            go_simp
            with_reducible rfl
          rotate_left
          · simp only [Act.put, List.setIfInBounds_toArray, List.set_cons_zero, List.set_cons_succ, i64_w, i32_w]
            rfl
          refine pure_ (i := 7) (N := some 87) (v := ?_) (a' := ?_) #[true, true, true, true, true, true, true, true, false] rfl rfl (by kernel_rfl) (fun _ _ _ h => h) (Or.inl ⟨by rfl, ?_⟩) ?_ ?_
          rotate_left
          · intro w'
            go_simp
            with_reducible rfl
          rotate_left
          · simp only [Act.put, List.setIfInBounds_toArray, List.set_cons_zero, List.set_cons_succ, i64_w, i32_w]
            rfl
          refine last_ (i := 8) (N := none) #[true, true, true, true, true, true, true, true, true] rfl rfl (by kernel_rfl) (by decide) (fun K hK => ?_)
          have c1 := HC.out.st.dst.cell t0 (by rw [HC.out.st.len]; exact T0.out)
          have f1 := HC.out.st.dst.frozen t0
          refine skip_ (w1 := ?_) (by rfl) rfl ?_ ?_
          rotate_left
          · go_simp
            rfl
          refine hK.out _ _ ?_
          clear hK K
          refine done_ (by kernel_rfl) ?_
          have HC1 := Aside0.mk ((HC.out.put t0 (fv y0)).below (below_drew1 (Below.refl _ _)))
          obtain ⟨wd, hwd⟩ : ∃ w', w' = (wc.setCell ⟨gd, t0, none⟩ (.int .u64 (fv y0))).drew := ⟨_, rfl⟩
          rw [← hwd] at HC1 ⊢
          clear hwd HC hHeld
          go_wp2_with fail
          refine start_ (n := 13) (S := fun w' => w'.cell? ⟨bp, 0, none⟩ = some (.pointer (some ⟨P, 0, none⟩)) ∧ w'.cell? ⟨P, 3, none⟩ = some (.slice (some ⟨gd, 0, none⟩) N cd) ∧ w'.cell? ⟨bs, 0, none⟩ = some (.int .i64 (s : Int)) ∧ w'.cell? ⟨ba, 1, none⟩ = some (.int .u64 (fv y1)) ∧ Aside0 (Cst w w' P gp cp gs cs gd cd bp bn bs n s N W U f (ys.set t0 (fv y0)) bi bq ba i q y0 y1 y2 y3)) (ds := [12]) #[false, false, false, false, false, false, false, false, false, false, false, false, false] (by kernel_rfl) rfl rfl ⟨HC1.out.st.bp.cell 0, HC1.out.st.ps.cell 3, HC1.out.st.bs.cell 0, HC1.out.ba.cell 1, ⟨HC1.out.below (below_drew1 (Below.refl _ _))⟩⟩ (fun hHeld => ?_)
          refine pure_ (i := 4) (N := some 92) (v := ?_) (a' := ?_) #[false, false, false, false, true, false, false, false, false, false, false, false, false] rfl rfl (by kernel_rfl) (fun _ _ _ h => h) (Or.inl ⟨by rfl, ?_⟩) ?_ ?_
          rotate_left
          · intro w'
            go_simp
            with_reducible rfl
          rotate_left
          · simp only [Act.put, List.setIfInBounds_toArray, List.set_cons_zero, List.set_cons_succ, i64_w, i32_w]
            rfl
          refine pure_ (i := 7) (N := some 95) (v := ?_) (a' := ?_) #[false, false, false, false, true, false, false, true, false, false, false, false, false] rfl rfl (by kernel_rfl) (fun _ _ _ h => h) (Or.inl ⟨by rfl, ?_⟩) ?_ ?_
          rotate_left
          · intro w'
            go_simp
            with_reducible rfl
          rotate_left
          · simp only [Act.put, List.setIfInBounds_toArray, List.set_cons_zero, List.set_cons_succ, i64_w, i32_w]
            rfl
          refine pure_ (i := 9) (N := some 97) (v := ?_) (a' := ?_) #[false, false, false, false, true, false, false, true, false, true, false, false, false] rfl rfl (by kernel_rfl) (fun _ _ _ h => h) (Or.inl ⟨by rfl, ?_⟩) ?_ ?_
          rotate_left
          · intro w'
            go_simp
            with_reducible rfl
          rotate_left
          · simp only [Act.put, List.setIfInBounds_toArray, List.set_cons_zero, List.set_cons_succ, i64_w, i32_w]
            rfl
          refine take_ (i := 0) (N := some 88) (v := ?_) (a' := ?_) #[true, false, false, false, true, false, false, true, false, true, false, false, false] rfl rfl (by kernel_rfl) (fun _ _ _ h => h) (Or.inl ⟨by rfl, ?_⟩) hHeld ?_ ?_
          rotate_left
          · rintro w' ⟨s0, s1, s2, s3, s4⟩
            go_simp
            with_reducible rfl
          rotate_left
          · simp only [Act.put, List.setIfInBounds_toArray, List.set_cons_zero, List.set_cons_succ, i64_w, i32_w]
            rfl
          refine pure_ (i := 1) (N := some 89) (v := ?_) (a' := ?_) #[true, true, false, false, true, false, false, true, false, true, false, false, false] rfl rfl (by kernel_rfl) (fun _ _ _ h => h) (Or.inl ⟨by rfl, ?_⟩) ?_ ?_
          rotate_left
          · intro w'
            go_simp
            with_reducible rfl
          rotate_left
          · simp only [Act.put, List.setIfInBounds_toArray, List.set_cons_zero, List.set_cons_succ, i64_w, i32_w]
            rfl
          refine pure_ (i := 2) (N := some 90) (v := ?_) (a' := ?_) #[true, true, true, false, true, false, false, true, false, true, false, false, false] rfl rfl (by kernel_rfl) (fun _ _ _ h => h) (Or.inl ⟨by rfl, ?_⟩) ?_ ?_
          rotate_left
          · intro w'
            go_simp
            with_reducible rfl
          rotate_left
          · simp only [Act.put, List.setIfInBounds_toArray, List.set_cons_zero, List.set_cons_succ, i64_w, i32_w]
            rfl
          refine take_ (i := 3) (N := some 91) (v := ?_) (a' := ?_) #[true, true, true, true, true, false, false, true, false, true, false, false, false] rfl rfl (by kernel_rfl) (fun _ _ _ h => h) (Or.inl ⟨by rfl, ?_⟩) hHeld ?_ ?_
          rotate_left
          · rintro w' ⟨s0, s1, s2, s3, s4⟩
            go_simp
            with_reducible rfl
          rotate_left
          · simp only [Act.put, List.setIfInBounds_toArray, List.set_cons_zero, List.set_cons_succ, i64_w, i32_w]
            rfl
          refine take_ (i := 5) (N := some 93) (v := ?_) (a' := ?_) #[true, true, true, true, true, true, false, true, false, true, false, false, false] rfl rfl (by kernel_rfl) (fun _ _ _ h => h) (Or.inl ⟨by rfl, ?_⟩) hHeld ?_ ?_
          rotate_left
          · rintro w' ⟨s0, s1, s2, s3, s4⟩
            go_simp
            with_reducible rfl
          rotate_left
          · simp only [Act.put, List.setIfInBounds_toArray, List.set_cons_zero, List.set_cons_succ, i64_w, i32_w]
            rfl
          refine pure_ (i := 6) (N := some 94) (v := ?_) (a' := ?_) #[true, true, true, true, true, true, true, true, false, true, false, false, false] rfl rfl (by kernel_rfl) (fun _ _ _ h => h) (Or.inl ⟨by rfl, ?_⟩) ?_ ?_
          rotate_left
          · intro w'
            go_simp
            with_reducible rfl
          rotate_left
          · simp only [Act.put, List.setIfInBounds_toArray, List.set_cons_zero, List.set_cons_succ, i64_w, i32_w]
            rfl
          refine take_ (i := 8) (N := some 96) (v := ?_) (a' := ?_) #[true, true, true, true, true, true, true, true, true, true, false, false, false] rfl rfl (by kernel_rfl) (fun _ _ _ h => h) (Or.inl ⟨by rfl, ?_⟩) hHeld ?_ ?_
          rotate_left
          · rintro w' ⟨s0, s1, s2, s3, s4⟩
            go_simp
            with_reducible rfl
          rotate_left
          · simp only [Act.put, List.setIfInBounds_toArray, List.set_cons_zero, List.set_cons_succ, i64_w, i32_w]
            rfl
          refine one_ (i := 10) (N := some 98) #[true, true, true, true, true, true, true, true, true, true, true, false, false] rfl rfl (by kernel_rfl) (by decide) (fun K hK => ?_)
          refine goes_ Tryz.func65 (by kernel_rfl) rfl #[.int .u64 (fv y1), .int .u64 (fv (pw W x1))] (by rfl) rfl rfl (by simp only [List.map_toArray, List.map_cons, List.map_nil]; rfl) ?_
          with_reducible refine (gold_Mul.calls _ _ _ _ (gMulF y1 (pw W x1))).mono ?_
          rintro e wd1 ⟨rfl, hb⟩
          refine ⟨_, rfl, ?_⟩
          have nS := hHeld.2.2.2.2.out.below hb
          clear hHeld hb
          refine hK.out _ _ ⟨nS.st.bp.cell 0, nS.st.ps.cell 3, nS.st.bs.cell 0, nS.ba.cell 1, ⟨nS⟩⟩ (fun hHeld => ?_)
          clear hK K
          refine norm_ (a' := ?_) ?_ ?_
          rotate_left
          · show Act.put _ (some 98) _ = _
            simp only [Act.put, List.setIfInBounds_toArray, List.set_cons_zero, List.set_cons_succ, i64_w, i32_w]
            rfl
          refine pure_ (i := 11) (N := some 99) (v := ?_) (a' := ?_) #[true, true, true, true, true, true, true, true, true, true, true, true, false] rfl rfl (by kernel_rfl) (fun _ _ _ h => h) (Or.inl ⟨by rfl, ?_⟩) ?_ ?_
          rotate_left
          · intro w'
            go_simp
            with_reducible rfl
          rotate_left
          · simp only [Act.put, List.setIfInBounds_toArray, List.set_cons_zero, List.set_cons_succ, i64_w, i32_w]
            rfl
          refine last_ (i := 12) (N := none) #[true, true, true, true, true, true, true, true, true, true, true, true, true] rfl rfl (by kernel_rfl) (by decide) (fun K hK => ?_)
          have nS := hHeld.2.2.2.2.out
          have c1 := nS.st.dst.cell t1 (by rw [nS.st.len]; exact T1.out)
          have f1 := nS.st.dst.frozen t1
          have HC2 := Aside0.mk (nS.put t1 (fv (y1 * pw W x1)))
          clear nS
          refine skip_ (w1 := ?_) (by rfl) rfl ?_ ?_
          rotate_left
          · go_simp
            rfl
          refine hK.out _ _ ?_
          clear hK K
          refine done_ (by kernel_rfl) ?_
          obtain ⟨we1, hwd⟩ : ∃ w', w' = wd1.setCell ⟨gd, t1, none⟩ (.int .u64 (fv (y1 * pw W x1))) := ⟨_, rfl⟩
          rw [← hwd] at HC2 ⊢
          clear hwd HC1 hHeld
          go_wp2_with fail
          refine start_ (n := 14) (S := fun w' => w'.cell? ⟨bp, 0, none⟩ = some (.pointer (some ⟨P, 0, none⟩)) ∧ w'.cell? ⟨P, 3, none⟩ = some (.slice (some ⟨gd, 0, none⟩) N cd) ∧ w'.cell? ⟨bs, 0, none⟩ = some (.int .i64 (s : Int)) ∧ w'.cell? ⟨ba, 2, none⟩ = some (.int .u64 (fv y2)) ∧ Aside0 (Cst w w' P gp cp gs cs gd cd bp bn bs n s N W U f ((ys.set t0 (fv y0)).set t1 (fv (y1 * pw W x1))) bi bq ba i q y0 y1 y2 y3)) (ds := [13]) #[false, false, false, false, false, false, false, false, false, false, false, false, false, false] (by kernel_rfl) rfl rfl ⟨HC2.out.st.bp.cell 0, HC2.out.st.ps.cell 3, HC2.out.st.bs.cell 0, HC2.out.ba.cell 2, ⟨HC2.out.below (below_drew1 (Below.refl _ _))⟩⟩ (fun hHeld => ?_)
          refine pure_ (i := 4) (N := some 104) (v := ?_) (a' := ?_) #[false, false, false, false, true, false, false, false, false, false, false, false, false, false] rfl rfl (by kernel_rfl) (fun _ _ _ h => h) (Or.inl ⟨by rfl, ?_⟩) ?_ ?_
          rotate_left
          · intro w'
            go_simp
            with_reducible rfl
          rotate_left
          · simp only [Act.put, List.setIfInBounds_toArray, List.set_cons_zero, List.set_cons_succ, i64_w, i32_w]
            rfl
          refine pure_ (i := 8) (N := some 108) (v := ?_) (a' := ?_) #[false, false, false, false, true, false, false, false, true, false, false, false, false, false] rfl rfl (by kernel_rfl) (fun _ _ _ h => h) (Or.inl ⟨by rfl, ?_⟩) ?_ ?_
          rotate_left
          · intro w'
            go_simp
            with_reducible rfl
          rotate_left
          · simp only [Act.put, List.setIfInBounds_toArray, List.set_cons_zero, List.set_cons_succ, i64_w, i32_w]
            rfl
          refine pure_ (i := 10) (N := some 110) (v := ?_) (a' := ?_) #[false, false, false, false, true, false, false, false, true, false, true, false, false, false] rfl rfl (by kernel_rfl) (fun _ _ _ h => h) (Or.inl ⟨by rfl, ?_⟩) ?_ ?_
          rotate_left
          · intro w'
            go_simp
            with_reducible rfl
          rotate_left
          · simp only [Act.put, List.setIfInBounds_toArray, List.set_cons_zero, List.set_cons_succ, i64_w, i32_w]
            rfl
          refine take_ (i := 0) (N := some 100) (v := ?_) (a' := ?_) #[true, false, false, false, true, false, false, false, true, false, true, false, false, false] rfl rfl (by kernel_rfl) (fun _ _ _ h => h) (Or.inl ⟨by rfl, ?_⟩) hHeld ?_ ?_
          rotate_left
          · rintro w' ⟨s0, s1, s2, s3, s4⟩
            go_simp
            with_reducible rfl
          rotate_left
          · simp only [Act.put, List.setIfInBounds_toArray, List.set_cons_zero, List.set_cons_succ, i64_w, i32_w]
            rfl
          refine pure_ (i := 1) (N := some 101) (v := ?_) (a' := ?_) #[true, true, false, false, true, false, false, false, true, false, true, false, false, false] rfl rfl (by kernel_rfl) (fun _ _ _ h => h) (Or.inl ⟨by rfl, ?_⟩) ?_ ?_
          rotate_left
          · intro w'
            go_simp
            with_reducible rfl
          rotate_left
          · simp only [Act.put, List.setIfInBounds_toArray, List.set_cons_zero, List.set_cons_succ, i64_w, i32_w]
            rfl
          refine pure_ (i := 2) (N := some 102) (v := ?_) (a' := ?_) #[true, true, true, false, true, false, false, false, true, false, true, false, false, false] rfl rfl (by kernel_rfl) (fun _ _ _ h => h) (Or.inl ⟨by rfl, ?_⟩) ?_ ?_
          rotate_left
          · intro w'
            go_simp
            with_reducible rfl
          rotate_left
          · simp only [Act.put, List.setIfInBounds_toArray, List.set_cons_zero, List.set_cons_succ, i64_w, i32_w]
            rfl
          refine take_ (i := 3) (N := some 103) (v := ?_) (a' := ?_) #[true, true, true, true, true, false, false, false, true, false, true, false, false, false] rfl rfl (by kernel_rfl) (fun _ _ _ h => h) (Or.inl ⟨by rfl, ?_⟩) hHeld ?_ ?_
          rotate_left
          · rintro w' ⟨s0, s1, s2, s3, s4⟩
            go_simp
            with_reducible rfl
          rotate_left
          · simp only [Act.put, List.setIfInBounds_toArray, List.set_cons_zero, List.set_cons_succ, i64_w, i32_w]
            rfl
          refine take_ (i := 5) (N := some 105) (v := ?_) (a' := ?_) #[true, true, true, true, true, true, false, false, true, false, true, false, false, false] rfl rfl (by kernel_rfl) (fun _ _ _ h => h) (Or.inl ⟨by rfl, ?_⟩) hHeld ?_ ?_
          rotate_left
          · rintro w' ⟨s0, s1, s2, s3, s4⟩
            go_simp
            with_reducible rfl
          rotate_left
          · simp only [Act.put, List.setIfInBounds_toArray, List.set_cons_zero, List.set_cons_succ, i64_w, i32_w]
            rfl
          refine pure_ (i := 6) (N := some 106) (v := ?_) (a' := ?_) #[true, true, true, true, true, true, true, false, true, false, true, false, false, false] rfl rfl (by kernel_rfl) (fun _ _ _ h => h) (Or.inl ⟨by rfl, ?_⟩) ?_ ?_
          rotate_left
          · intro w'
            go_simp
            with_reducible rfl
          rotate_left
          · simp only [Act.put, List.setIfInBounds_toArray, List.set_cons_zero, List.set_cons_succ, i64_w, i32_w]
            rfl
          refine pure_ (i := 7) (N := some 107) (v := ?_) (a' := ?_) #[true, true, true, true, true, true, true, true, true, false, true, false, false, false] rfl rfl (by kernel_rfl) (fun _ _ _ h => h) (Or.inl ⟨by rfl, ?_⟩) ?_ ?_
          rotate_left
          · intro w'
            go_simp
            with_reducible rfl
          rotate_left
          · simp only [Act.put, List.setIfInBounds_toArray, List.set_cons_zero, List.set_cons_succ, i64_w, i32_w]
            rfl
          refine take_ (i := 9) (N := some 109) (v := ?_) (a' := ?_) #[true, true, true, true, true, true, true, true, true, true, true, false, false, false] rfl rfl (by kernel_rfl) (fun _ _ _ h => h) (Or.inl ⟨by rfl, ?_⟩) hHeld ?_ ?_
          rotate_left
          · rintro w' ⟨s0, s1, s2, s3, s4⟩
            go_simp
            with_reducible rfl
          rotate_left
          · simp only [Act.put, List.setIfInBounds_toArray, List.set_cons_zero, List.set_cons_succ, i64_w, i32_w]
            rfl
          refine one_ (i := 11) (N := some 111) #[true, true, true, true, true, true, true, true, true, true, true, true, false, false] rfl rfl (by kernel_rfl) (by decide) (fun K hK => ?_)
          refine goes_ Tryz.func65 (by kernel_rfl) rfl #[.int .u64 (fv y2), .int .u64 (fv (pw W x2))] (by rfl) rfl rfl (by simp only [List.map_toArray, List.map_cons, List.map_nil]; rfl) ?_
          with_reducible refine (gold_Mul.calls _ _ _ _ (gMulF y2 (pw W x2))).mono ?_
          rintro e wd2 ⟨rfl, hb⟩
          refine ⟨_, rfl, ?_⟩
          have nS := hHeld.2.2.2.2.out.below hb
          clear hHeld hb
          refine hK.out _ _ ⟨nS.st.bp.cell 0, nS.st.ps.cell 3, nS.st.bs.cell 0, nS.ba.cell 2, ⟨nS⟩⟩ (fun hHeld => ?_)
          clear hK K
          refine norm_ (a' := ?_) ?_ ?_
          rotate_left
          · show Act.put _ (some 111) _ = _
            simp only [Act.put, List.setIfInBounds_toArray, List.set_cons_zero, List.set_cons_succ, i64_w, i32_w]
            rfl
          refine pure_ (i := 12) (N := some 112) (v := ?_) (a' := ?_) #[true, true, true, true, true, true, true, true, true, true, true, true, true, false] rfl rfl (by kernel_rfl) (fun _ _ _ h => h) (Or.inl ⟨by rfl, ?_⟩) ?_ ?_
          rotate_left
          · intro w'
            go_simp
            with_reducible rfl
          rotate_left
          · simp only [Act.put, List.setIfInBounds_toArray, List.set_cons_zero, List.set_cons_succ, i64_w, i32_w]
            rfl
          refine last_ (i := 13) (N := none) #[true, true, true, true, true, true, true, true, true, true, true, true, true, true] rfl rfl (by kernel_rfl) (by decide) (fun K hK => ?_)
          have nS := hHeld.2.2.2.2.out
          have c1 := nS.st.dst.cell t2 (by rw [nS.st.len]; exact T2.out)
          have f1 := nS.st.dst.frozen t2
          have HC3 := Aside0.mk (nS.put t2 (fv (y2 * pw W x2)))
          clear nS
          refine skip_ (w1 := ?_) (by rfl) rfl ?_ ?_
          rotate_left
          · go_simp
            rfl
          refine hK.out _ _ ?_
          clear hK K
          refine done_ (by kernel_rfl) ?_
          obtain ⟨we2, hwd⟩ : ∃ w', w' = wd2.setCell ⟨gd, t2, none⟩ (.int .u64 (fv (y2 * pw W x2))) := ⟨_, rfl⟩
          rw [← hwd] at HC3 ⊢
          clear hwd HC2 hHeld
          go_wp2_with fail
          refine start_ (n := 14) (S := fun w' => w'.cell? ⟨bp, 0, none⟩ = some (.pointer (some ⟨P, 0, none⟩)) ∧ w'.cell? ⟨P, 3, none⟩ = some (.slice (some ⟨gd, 0, none⟩) N cd) ∧ w'.cell? ⟨bs, 0, none⟩ = some (.int .i64 (s : Int)) ∧ w'.cell? ⟨ba, 3, none⟩ = some (.int .u64 (fv y3)) ∧ Aside0 (Cst w w' P gp cp gs cs gd cd bp bn bs n s N W U f (((ys.set t0 (fv y0)).set t1 (fv (y1 * pw W x1))).set t2 (fv (y2 * pw W x2))) bi bq ba i q y0 y1 y2 y3)) (ds := [13]) #[false, false, false, false, false, false, false, false, false, false, false, false, false, false] (by kernel_rfl) rfl rfl ⟨HC3.out.st.bp.cell 0, HC3.out.st.ps.cell 3, HC3.out.st.bs.cell 0, HC3.out.ba.cell 3, ⟨HC3.out.below (below_drew1 (Below.refl _ _))⟩⟩ (fun hHeld => ?_)
          refine pure_ (i := 4) (N := some 117) (v := ?_) (a' := ?_) #[false, false, false, false, true, false, false, false, false, false, false, false, false, false] rfl rfl (by kernel_rfl) (fun _ _ _ h => h) (Or.inl ⟨by rfl, ?_⟩) ?_ ?_
          rotate_left
          · intro w'
            go_simp
            with_reducible rfl
          rotate_left
          · simp only [Act.put, List.setIfInBounds_toArray, List.set_cons_zero, List.set_cons_succ, i64_w, i32_w]
            rfl
          refine pure_ (i := 8) (N := some 121) (v := ?_) (a' := ?_) #[false, false, false, false, true, false, false, false, true, false, false, false, false, false] rfl rfl (by kernel_rfl) (fun _ _ _ h => h) (Or.inl ⟨by rfl, ?_⟩) ?_ ?_
          rotate_left
          · intro w'
            go_simp
            with_reducible rfl
          rotate_left
          · simp only [Act.put, List.setIfInBounds_toArray, List.set_cons_zero, List.set_cons_succ, i64_w, i32_w]
            rfl
          refine pure_ (i := 10) (N := some 123) (v := ?_) (a' := ?_) #[false, false, false, false, true, false, false, false, true, false, true, false, false, false] rfl rfl (by kernel_rfl) (fun _ _ _ h => h) (Or.inl ⟨by rfl, ?_⟩) ?_ ?_
          rotate_left
          · intro w'
            go_simp
            with_reducible rfl
          rotate_left
          · simp only [Act.put, List.setIfInBounds_toArray, List.set_cons_zero, List.set_cons_succ, i64_w, i32_w]
            rfl
          refine take_ (i := 0) (N := some 113) (v := ?_) (a' := ?_) #[true, false, false, false, true, false, false, false, true, false, true, false, false, false] rfl rfl (by kernel_rfl) (fun _ _ _ h => h) (Or.inl ⟨by rfl, ?_⟩) hHeld ?_ ?_
          rotate_left
          · rintro w' ⟨s0, s1, s2, s3, s4⟩
            go_simp
            with_reducible rfl
          rotate_left
          · simp only [Act.put, List.setIfInBounds_toArray, List.set_cons_zero, List.set_cons_succ, i64_w, i32_w]
            rfl
          refine pure_ (i := 1) (N := some 114) (v := ?_) (a' := ?_) #[true, true, false, false, true, false, false, false, true, false, true, false, false, false] rfl rfl (by kernel_rfl) (fun _ _ _ h => h) (Or.inl ⟨by rfl, ?_⟩) ?_ ?_
          rotate_left
          · intro w'
            go_simp
            with_reducible rfl
          rotate_left
          · simp only [Act.put, List.setIfInBounds_toArray, List.set_cons_zero, List.set_cons_succ, i64_w, i32_w]
            rfl
          refine pure_ (i := 2) (N := some 115) (v := ?_) (a' := ?_) #[true, true, true, false, true, false, false, false, true, false, true, false, false, false] rfl rfl (by kernel_rfl) (fun _ _ _ h => h) (Or.inl ⟨by rfl, ?_⟩) ?_ ?_
          rotate_left
          · intro w'
            go_simp
            with_reducible rfl
          rotate_left
          · simp only [Act.put, List.setIfInBounds_toArray, List.set_cons_zero, List.set_cons_succ, i64_w, i32_w]
            rfl
          refine take_ (i := 3) (N := some 116) (v := ?_) (a' := ?_) #[true, true, true, true, true, false, false, false, true, false, true, false, false, false] rfl rfl (by kernel_rfl) (fun _ _ _ h => h) (Or.inl ⟨by rfl, ?_⟩) hHeld ?_ ?_
          rotate_left
          · rintro w' ⟨s0, s1, s2, s3, s4⟩
            go_simp
            with_reducible rfl
          rotate_left
          · simp only [Act.put, List.setIfInBounds_toArray, List.set_cons_zero, List.set_cons_succ, i64_w, i32_w]
            rfl
          refine take_ (i := 5) (N := some 118) (v := ?_) (a' := ?_) #[true, true, true, true, true, true, false, false, true, false, true, false, false, false] rfl rfl (by kernel_rfl) (fun _ _ _ h => h) (Or.inl ⟨by rfl, ?_⟩) hHeld ?_ ?_
          rotate_left
          · rintro w' ⟨s0, s1, s2, s3, s4⟩
            go_simp
            with_reducible rfl
          rotate_left
          · simp only [Act.put, List.setIfInBounds_toArray, List.set_cons_zero, List.set_cons_succ, i64_w, i32_w]
            rfl
          refine pure_ (i := 6) (N := some 119) (v := ?_) (a' := ?_) #[true, true, true, true, true, true, true, false, true, false, true, false, false, false] rfl rfl (by kernel_rfl) (fun _ _ _ h => h) (Or.inl ⟨by rfl, ?_⟩) ?_ ?_
          rotate_left
          · intro w'
            go_simp
            with_reducible rfl
          rotate_left
          · simp only [Act.put, List.setIfInBounds_toArray, List.set_cons_zero, List.set_cons_succ, i64_w, i32_w]
            rfl
          refine pure_ (i := 7) (N := some 120) (v := ?_) (a' := ?_) #[true, true, true, true, true, true, true, true, true, false, true, false, false, false] rfl rfl (by kernel_rfl) (fun _ _ _ h => h) (Or.inl ⟨by rfl, ?_⟩) ?_ ?_
          rotate_left
          · intro w'
            go_simp
            with_reducible rfl
          rotate_left
          · simp only [Act.put, List.setIfInBounds_toArray, List.set_cons_zero, List.set_cons_succ, i64_w, i32_w]
            rfl
          refine take_ (i := 9) (N := some 122) (v := ?_) (a' := ?_) #[true, true, true, true, true, true, true, true, true, true, true, false, false, false] rfl rfl (by kernel_rfl) (fun _ _ _ h => h) (Or.inl ⟨by rfl, ?_⟩) hHeld ?_ ?_
          rotate_left
          · rintro w' ⟨s0, s1, s2, s3, s4⟩
            go_simp
            with_reducible rfl
          rotate_left
          · simp only [Act.put, List.setIfInBounds_toArray, List.set_cons_zero, List.set_cons_succ, i64_w, i32_w]
            rfl
          refine one_ (i := 11) (N := some 124) #[true, true, true, true, true, true, true, true, true, true, true, true, false, false] rfl rfl (by kernel_rfl) (by decide) (fun K hK => ?_)
          refine goes_ Tryz.func65 (by kernel_rfl) rfl #[.int .u64 (fv y3), .int .u64 (fv (pw W x3))] (by rfl) rfl rfl (by simp only [List.map_toArray, List.map_cons, List.map_nil]; rfl) ?_
          with_reducible refine (gold_Mul.calls _ _ _ _ (gMulF y3 (pw W x3))).mono ?_
          rintro e wd3 ⟨rfl, hb⟩
          refine ⟨_, rfl, ?_⟩
          have nS := hHeld.2.2.2.2.out.below hb
          clear hHeld hb
          refine hK.out _ _ ⟨nS.st.bp.cell 0, nS.st.ps.cell 3, nS.st.bs.cell 0, nS.ba.cell 3, ⟨nS⟩⟩ (fun hHeld => ?_)
          clear hK K
          refine norm_ (a' := ?_) ?_ ?_
          rotate_left
          · show Act.put _ (some 124) _ = _
            simp only [Act.put, List.setIfInBounds_toArray, List.set_cons_zero, List.set_cons_succ, i64_w, i32_w]
            rfl
          refine pure_ (i := 12) (N := some 125) (v := ?_) (a' := ?_) #[true, true, true, true, true, true, true, true, true, true, true, true, true, false] rfl rfl (by kernel_rfl) (fun _ _ _ h => h) (Or.inl ⟨by rfl, ?_⟩) ?_ ?_
          rotate_left
          · intro w'
            go_simp
            with_reducible rfl
          rotate_left
          · simp only [Act.put, List.setIfInBounds_toArray, List.set_cons_zero, List.set_cons_succ, i64_w, i32_w]
            rfl
          refine last_ (i := 13) (N := none) #[true, true, true, true, true, true, true, true, true, true, true, true, true, true] rfl rfl (by kernel_rfl) (by decide) (fun K hK => ?_)
          have nS := hHeld.2.2.2.2.out
          have c1 := nS.st.dst.cell t3 (by rw [nS.st.len]; exact T3.out)
          have f1 := nS.st.dst.frozen t3
          have HC4 := Aside0.mk (nS.put t3 (fv (y3 * pw W x3)))
          clear nS
          refine skip_ (w1 := ?_) (by rfl) rfl ?_ ?_
          rotate_left
          · go_simp
            rfl
          refine hK.out _ _ ?_
          clear hK K
          refine done_ (by kernel_rfl) ?_
          obtain ⟨we3, hwd⟩ : ∃ w', w' = wd3.setCell ⟨gd, t3, none⟩ (.int .u64 (fv (y3 * pw W x3))) := ⟨_, rfl⟩
          rw [← hwd] at HC4 ⊢
          clear hwd HC3 hHeld
          clear k1 k2 k3 k4 k5 k6 k7 k8 k1' k2' k3' k4' k5' k6' k7' k8' o0 o1 o2 o3 o0' o1' o2' o3'
          go_wp2
          go_roundw
          case rel => exact ⟨q + 1, _, by go_num, by omega, ⟨HC4.out.st⟩, HNy, ⟨HC4.out.bi⟩⟩
          case measure => simp [intOf]; omega
        · obtain rfl : q = s := by omega
          have hqa : decide ((q : Int) < (q : Int)) = false := decide_eq_false (by omega)
          go_wp2
          go_roundw
          case rel => exact ⟨i + 1, ys, by go_num, by omega, HQ, ⟨HD.out.row⟩⟩
          case measure => simp [intOf]; omega
    · have hia : decide ((i : Int) < (m : Int)) = false := decide_eq_false (by omega)
      obtain rfl : i = m := by omega
      go_wp2_with fail
      have hbP : bp ≠ P := HQ.out.bp.ne HQ.out.ps (by decide)
      have hbP' : P ≠ bp := Ne.symm hbP
      have v0 := HQ.out.bp.cell 0
      have v2 := HQ.out.ps.cell 2
      have v3 := HQ.out.ps.cell 3
      have z2 := HQ.out.ps.frozen 2
      have z3 := HQ.out.ps.frozen 3
      go_region
      go_wp2
      refine bodyPost_end (results_none Tryz.results107 _ _ _) rfl ?_
      have hgP : gd ≠ P := Ne.symm (HQ.out.dst.ne HQ.out.ps (by decide))
      have hgs : gs ≠ P := Ne.symm (HQ.out.src.ne HQ.out.ps (by decide))
      refine ⟨rfl, ys, HQ.out.len, HD.out, ?_, ?_, ?_, ?_⟩
      · exact (((HQ.out.fr.mono (fun k hk => by simp at hk ⊢; exact .inl hk)).set P 2 _ (.inl (by simp))).set P 3 _ (.inl (by simp))).drew
      · exact (((HQ.out.ps.put 2 _).put 3 _)).drew
      · exact ((HQ.out.src.far P 2 _ hgs).far P 3 _ hgs).below (below_drew1 (Below.refl _ _))
      · exact ((HQ.out.dst.far P 2 _ hgP).far P 3 _ hgP).below (below_drew1 (Below.refl _ _))
end Go.Proofs.YtpnkcjnemoompaaGreatDoor.Kern
end
section
namespace Go.Proofs.YtpnkcjnemoompaaGreatDoor.Kern
open Go.RowKit Go.Proofs.YtpnkcjnemoompaaGreatDoor Go.Proofs.YtpnkcjnemoompaaGreatDoor.Ext Go.Proofs.YtpnkcjnemoompaaGreatDoor.PPlan Go.Proofs.YtpnkcjnemoompaaGreatDoor.PFft Go.Proofs.YtpnkcjnemoompaaGreatDoor.Pure Go.Proofs.YtpnkcjnemoompaaGreatDoor.Obj Go.Proofs.YtpnkcjnemoompaaGreatDoor.Fft Go.Proofs.YtpnkcjnemoompaaGreatDoorW.PrintWords Go.Proofs.YtpnkcjnemoompaaGreatDoorW.PrintLast Go.Proofs.YtpnkcjnemoompaaGreatDoorW.PrintMore
set_option linter.unusedVariables false
set_option linter.unusedSimpArgs false
set_option maxRecDepth 100000
theorem gAddF (A B : F) : gold_Add.f (fv A) (fv B) = some (fv (A + B)) := by
  have := gAdd (fv A) (fv B) (fv_w _) (fv_w _)
  rw [fo_fv, fo_fv] at this
  exact this
theorem gSubF (A B : F) : gold_Sub.f (fv A) (fv B) = some (fv (A - B)) := by
  have := gSub (fv A) (fv B) (fv_w _) (fv_w _)
  rw [fo_fv, fo_fv] at this
  exact this
def Dh (s : Nat) (f : Nat → F) (ys : List Int) (q : Nat) : Prop := ∀ q', q' < q → ys.getD q' 0 = fv (f q' + f (q' + s)) ∧ ys.getD (q' + s) 0 = fv (f q' - f (q' + s))
theorem Dh.step {s q : Nat} {f : Nat → F} {ys : List Int} (h : Dh s f ys q) (hq : q < s) (hl : ys.length = 2 * s) : Dh s f ((ys.set q (fv (f q + f (q + s)))).set (q + s) (fv (f q - f (q + s)))) (q + 1) := by
  intro q' hq'
  have k1 : ∀ j, ((ys.set q (fv (f q + f (q + s)))).set (q + s) (fv (f q - f (q + s)))).getD j 0 = if j = q + s then fv (f q - f (q + s)) else if j = q then fv (f q + f (q + s)) else ys.getD j 0 := fun j => by
    rw [getD_set _ _ _ _ (by rw [List.length_set]; omega), getD_set _ _ _ _ (by omega)]
  rw [k1, k1]
  by_cases e : q' = q
  · subst e
    rw [if_neg (by omega), if_pos rfl, if_pos rfl]
    exact ⟨rfl, rfl⟩
  · rw [if_neg (by omega), if_neg e, if_neg (by omega), if_neg (by omega)]
    exact h q' (by omega)
structure Hst (w0 w : World) (P gs cs gd cd N : Nat) (X Y : Value) (f : Nat → F) (ys : List Int) : Prop where
  ps : Bk w P 151 [X, Y, .slice (some ⟨gs, 0, none⟩) N cs, .slice (some ⟨gd, 0, none⟩) N cd]
  src : Mr w gs cs (tb N f)
  dst : Mr w gd cd ys
  len : ys.length = N
  fr : Fr w0 w [gd]
  n2 : gd ≠ gs
section
variable {w0 w w1 : World} {P gs cs gd cd N : Nat} {X Y : Value} {f : Nat → F} {ys : List Int}
theorem Hst.below (h : Hst w0 w P gs cs gd cd N X Y f ys) (hb : Below w.heap.size w w1) : Hst w0 w1 P gs cs gd cd N X Y f ys := ⟨h.ps.below hb, h.src.below hb, h.dst.below hb, h.len, h.fr.trans (Fr.of_below hb [gd]), h.n2⟩
theorem Hst.put (h : Hst w0 w P gs cs gd cd N X Y f ys) (i : Nat) (x : Int) : Hst w0 (w.setCell ⟨gd, i, none⟩ (.int .u64 x)) P gs cs gd cd N X Y f (ys.set i x) :=
  ⟨h.ps.far i _ (h.dst.ne h.ps (by decide)), h.src.far _ _ _ (Ne.symm h.n2), h.dst.put i x, by rw [List.length_set]; exact h.len, h.fr.set gd i _ (.inl (by simp)), h.n2⟩
end
set_option maxHeartbeats 8000000 in
theorem half_calls (P gs cs gd cd s N : Nat) (X Y : Value) (f : Nat → F) (ys : List Int) (w : World) (hN : N = 2 * s) (hN2 : N ≤ 1048576) (h : Hst w w P gs cs gd cd N X Y f ys) :
    Calls Tryz.prog 108 #[.pointer (some ⟨P, 0, none⟩), .int .i64 (s : Int)] w fun e w' => e = .returned (.tuple #[]) ∧ ∃ ys', ys'.length = N ∧ Dh s f ys' s ∧ Fr w w' [gd, P] ∧
      Bk w' P 151 [X, Y, .slice (some ⟨gd, 0, none⟩) N cd, .slice (some ⟨gs, 0, none⟩) N cs] ∧ Mr w' gs cs (tb N f) ∧ Mr w' gd cd ys' := by
  have HQ := Aside0.mk h
  have HN := Aside0.mk hN
  have H2 := Aside0.mk hN2
  have hs2 : s ≤ 1048576 := by omega
  clear h hN hN2
  go_enter Tryz.func108, Tryz.ntmps108
  go_wp2
  go_loopw [8] (fun v8 wr => ∃ (q : Nat) (ys : List Int), v8 = .int .i64 q ∧ q ≤ s ∧ Aside0 (Hst w wr P gs cs gd cd N X Y f ys) ∧ Aside0 (Dh s f ys q)) (fun v8 _ => s - (intOf v8).toNat)
  case atStart => exact ⟨0, ys, rfl, Nat.zero_le _, HQ, ⟨fun q' hq' => by omega⟩⟩
  case round =>
    clear HQ
    obtain ⟨q, ys, rfl, hq, HQ, HD⟩ := hrel
    by_cases h1 : q < s
    · have hqa : (q : Int) < (s : Int) := by omega
      go_wp2_with fail
      obtain ⟨t, ht⟩ : ∃ t, t = q + s := ⟨_, rfl⟩
      have htN : t < N := by have := HN.out; omega
      have hqN : q < N := by omega
      have g1 := HQ.out.src.cell q (by rw [tb_len]; exact hqN)
      have g2 := HQ.out.src.cell t (by rw [tb_len]; exact htN)
      rw [tb_get f hqN] at g1
      rw [tb_get f htN] at g2
      have G1 := Aside0.mk g1
      have G2 := Aside0.mk g2
      have Et := Aside0.mk ht
      have TN := Aside0.mk htN
      have QN := Aside0.mk hqN
      have o1 : (q : Int) < (N : Int) := by omega
      have o2 : (0 : Int) ≤ (t : Int) := by omega
      have o2' : (t : Int) < (N : Int) := by omega
      obtain ⟨kA, kB⟩ := wrapb (show (q : Int) + (s : Int) = (t : Int) by omega) (show t ≤ 9223372036854775807 by omega)
      clear g1 g2 ht htN hqN
      refine start_ (n := 18) (S := fun w' => w'.cell? ⟨P, 2, none⟩ = some (.slice (some ⟨gs, 0, none⟩) N cs) ∧ w'.cell? ⟨gs, q, none⟩ = some (.int .u64 (fv (f q))) ∧ w'.cell? ⟨gs, t, none⟩ = some (.int .u64 (fv (f t)))) (ds := []) #[false, false, false, false, false, false, false, false, false, false, false, false, false, false, false, false, false, false] (by kernel_rfl) rfl rfl ⟨HQ.out.ps.cell 2, G1.out, G2.out⟩ (fun hHeld => ?_)
      refine pure_ (i := 0) (N := some 11) (v := ?_) (a' := ?_) #[true, false, false, false, false, false, false, false, false, false, false, false, false, false, false, false, false, false] rfl rfl (by kernel_rfl) (fun _ _ _ h => h) (Or.inl ⟨by rfl, ?_⟩) ?_ ?_
      rotate_left
      · intro w'
        go_simp
        with_reducible rfl
      rotate_left
      · simp only [Act.put, List.setIfInBounds_toArray, List.set_cons_zero, List.set_cons_succ, i64_w, i32_w]
        rfl
      refine pure_ (i := 1) (N := some 12) (v := ?_) (a' := ?_) #[true, true, false, false, false, false, false, false, false, false, false, false, false, false, false, false, false, false] rfl rfl (by kernel_rfl) (fun _ _ _ h => h) (Or.inl ⟨by rfl, ?_⟩) ?_ ?_
      rotate_left
      · intro w'
        go_simp
        with_reducible rfl
      rotate_left
      · simp only [Act.put, List.setIfInBounds_toArray, List.set_cons_zero, List.set_cons_succ, i64_w, i32_w]
        rfl
      refine pure_ (i := 2) (N := some 13) (v := ?_) (a' := ?_) #[true, true, true, false, false, false, false, false, false, false, false, false, false, false, false, false, false, false] rfl rfl (by kernel_rfl) (fun _ _ _ h => h) (Or.inl ⟨by rfl, ?_⟩) ?_ ?_
      rotate_left
      · intro w'
        go_simp
        with_reducible rfl
      rotate_left
      · simp only [Act.put, List.setIfInBounds_toArray, List.set_cons_zero, List.set_cons_succ, i64_w, i32_w]
        rfl
      refine pure_ (i := 4) (N := some 15) (v := ?_) (a' := ?_) #[true, true, true, false, true, false, false, false, false, false, false, false, false, false, false, false, false, false] rfl rfl (by kernel_rfl) (fun _ _ _ h => h) (Or.inl ⟨by rfl, ?_⟩) ?_ ?_
      rotate_left
      · intro w'
        go_simp
        with_reducible rfl
      rotate_left
      · simp only [Act.put, List.setIfInBounds_toArray, List.set_cons_zero, List.set_cons_succ, i64_w, i32_w]
        rfl
      refine pure_ (i := 7) (N := some 18) (v := ?_) (a' := ?_) #[true, true, true, false, true, false, false, true, false, false, false, false, false, false, false, false, false, false] rfl rfl (by kernel_rfl) (fun _ _ _ h => h) (Or.inl ⟨by rfl, ?_⟩) ?_ ?_
      rotate_left
      · intro w'
        go_simp
        with_reducible rfl
      rotate_left
      · simp only [Act.put, List.setIfInBounds_toArray, List.set_cons_zero, List.set_cons_succ, i64_w, i32_w]
        rfl
      refine pure_ (i := 8) (N := some 19) (v := ?_) (a' := ?_) #[true, true, true, false, true, false, false, true, true, false, false, false, false, false, false, false, false, false] rfl rfl (by kernel_rfl) (fun _ _ _ h => h) (Or.inl ⟨by rfl, ?_⟩) ?_ ?_
      rotate_left
      · intro w'
        go_simp
        with_reducible rfl
      rotate_left
      · simp only [Act.put, List.setIfInBounds_toArray, List.set_cons_zero, List.set_cons_succ, i64_w, i32_w]
        rfl
      refine pure_ (i := 9) (N := some 20) (v := ?_) (a' := ?_) #[true, true, true, false, true, false, false, true, true, true, false, false, false, false, false, false, false, false] rfl rfl (by kernel_rfl) (fun _ _ _ h => h) (Or.inl ⟨by rfl, ?_⟩) ?_ ?_
      rotate_left
      · intro w'
        go_simp
        with_reducible rfl
      rotate_left
      · simp only [Act.put, List.setIfInBounds_toArray, List.set_cons_zero, List.set_cons_succ, i64_w, i32_w]
        rfl
      refine pure_ (i := 11) (N := some 22) (v := ?_) (a' := ?_) #[true, true, true, false, true, false, false, true, true, true, false, true, false, false, false, false, false, false] rfl rfl (by kernel_rfl) (fun _ _ _ h => h) (Or.inl ⟨by rfl, ?_⟩) ?_ ?_
      rotate_left
      · intro w'
        go_simp
        with_reducible rfl
      rotate_left
      · simp only [Act.put, List.setIfInBounds_toArray, List.set_cons_zero, List.set_cons_succ, i64_w, i32_w]
        rfl
      refine pure_ (i := 12) (N := some 23) (v := ?_) (a' := ?_) #[true, true, true, false, true, false, false, true, true, true, false, true, true, false, false, false, false, false] rfl rfl (by kernel_rfl) (fun _ _ _ h => h) (Or.inl ⟨by rfl, ?_⟩) ?_ ?_
      rotate_left
      · intro w'
        go_simp
        with_reducible rfl
      rotate_left
      · simp only [Act.put, List.setIfInBounds_toArray, List.set_cons_zero, List.set_cons_succ, i64_w, i32_w]
        rfl
      refine pure_ (i := 13) (N := some 24) (v := ?_) (a' := ?_) #[true, true, true, false, true, false, false, true, true, true, false, true, true, true, false, false, false, false] rfl rfl (by kernel_rfl) (fun _ _ _ h => h) (Or.inl ⟨by rfl, ?_⟩) ?_ ?_
      rotate_left
      · intro w'
        go_simp
        with_reducible rfl
      rotate_left
      · simp only [Act.put, List.setIfInBounds_toArray, List.set_cons_zero, List.set_cons_succ, i64_w, i32_w]
        rfl
      refine take_ (i := 3) (N := some 14) (v := ?_) (a' := ?_) #[true, true, true, true, true, false, false, true, true, true, false, true, true, true, false, false, false, false] rfl rfl (by kernel_rfl) (fun _ _ _ h => h) (Or.inl ⟨by rfl, ?_⟩) hHeld ?_ ?_
      rotate_left
      · rintro w' ⟨s0, s1, s2⟩
        go_simp
        with_reducible rfl
      rotate_left
      · simp only [Act.put, List.setIfInBounds_toArray, List.set_cons_zero, List.set_cons_succ, i64_w, i32_w]
        rfl
      refine pure_ (i := 5) (N := some 16) (v := ?_) (a' := ?_) #[true, true, true, true, true, true, false, true, true, true, false, true, true, true, false, false, false, false] rfl rfl (by kernel_rfl) (fun _ _ _ h => h) (Or.inl ⟨by rfl, ?_⟩) ?_ ?_
      rotate_left
      · intro w'
        go_simp
        with_reducible rfl
      rotate_left
      · simp only [Act.put, List.setIfInBounds_toArray, List.set_cons_zero, List.set_cons_succ, i64_w, i32_w]
        rfl
      refine take_ (i := 6) (N := some 17) (v := ?_) (a' := ?_) #[true, true, true, true, true, true, true, true, true, true, false, true, true, true, false, false, false, false] rfl rfl (by kernel_rfl) (fun _ _ _ h => h) (Or.inl ⟨by rfl, ?_⟩) hHeld ?_ ?_
      rotate_left
      · rintro w' ⟨s0, s1, s2⟩
        go_simp
        with_reducible rfl
      rotate_left
      · simp only [Act.put, List.setIfInBounds_toArray, List.set_cons_zero, List.set_cons_succ, i64_w, i32_w]
        rfl
      refine pure_ (i := 16) (N := some 5) (v := ?_) (a' := ?_) #[true, true, true, true, true, true, true, true, true, true, false, true, true, true, false, false, true, false] rfl rfl (by kernel_rfl) (fun _ _ _ h => h) (Or.inl ⟨by rfl, ?_⟩) ?_ ?_
      rotate_left
      · intro w'
        go_simp
        with_reducible rfl
      rotate_left
      · simp only [Act.put, List.setIfInBounds_toArray, List.set_cons_zero, List.set_cons_succ, i64_w, i32_w]
        rfl
      refine take_ (i := 10) (N := some 21) (v := ?_) (a' := ?_) #[true, true, true, true, true, true, true, true, true, true, true, true, true, true, false, false, true, false] rfl rfl (by kernel_rfl) (fun _ _ _ h => h) (Or.inl ⟨by rfl, ?_⟩) hHeld ?_ ?_
      rotate_left
      · rintro w' ⟨s0, s1, s2⟩
        go_simp
        with_reducible rfl
      rotate_left
      · simp only [Act.put, List.setIfInBounds_toArray, List.set_cons_zero, List.set_cons_succ, i64_w, i32_w]
        rfl
      refine pure_ (i := 14) (N := some 25) (v := ?_) (a' := ?_) #[true, true, true, true, true, true, true, true, true, true, true, true, true, true, true, false, true, false] rfl rfl (by kernel_rfl) (fun _ _ _ h => h) (Or.inl ⟨by rfl, ?_⟩) ?_ ?_
      rotate_left
      · intro w'
        go_simp
        with_reducible rfl
      rotate_left
      · simp only [Act.put, List.setIfInBounds_toArray, List.set_cons_zero, List.set_cons_succ, i64_w, i32_w]
        rfl
      refine take_ (i := 15) (N := some 26) (v := ?_) (a' := ?_) #[true, true, true, true, true, true, true, true, true, true, true, true, true, true, true, true, true, false] rfl rfl (by kernel_rfl) (fun _ _ _ h => h) (Or.inl ⟨by rfl, ?_⟩) hHeld ?_ ?_
      rotate_left
      · rintro w' ⟨s0, s1, s2⟩
        go_simp
        with_reducible rfl
      rotate_left
      · simp only [Act.put, List.setIfInBounds_toArray, List.set_cons_zero, List.set_cons_succ, i64_w, i32_w]
        rfl
      refine pure_ (i := 17) (N := some 6) (v := ?_) (a' := ?_) #[true, true, true, true, true, true, true, true, true, true, true, true, true, true, true, true, true, true] rfl rfl (by kernel_rfl) (fun _ _ _ h => h) (Or.inl ⟨by rfl, ?_⟩) ?_ ?_
      rotate_left
      · intro w'
        go_simp
        with_reducible rfl
      rotate_left
      · simp only [Act.put, List.setIfInBounds_toArray, List.set_cons_zero, List.set_cons_succ, i64_w, i32_w]
        rfl
      refine done_ (by kernel_rfl) ?_
      have HQ1 := Aside0.mk (HQ.out.below (below_drew1 (Below.refl _ _)))
      have HQ3len := Aside0.mk HQ.out.len
      clear hHeld G1 G2 HQ
      go_wp2_with fail
      generalize wr.drew = wj at *
      refine start_ (n := 22) (S := fun w' => w'.cell? ⟨P, 3, none⟩ = some (.slice (some ⟨gd, 0, none⟩) N cd) ∧ Aside0 (Hst w w' P gs cs gd cd N X Y f ys)) (ds := [19, 21]) #[false, false, false, false, false, false, false, false, false, false, false, false, false, false, false, false, false, false, false, false, false, false] (by kernel_rfl) rfl rfl ⟨HQ1.out.ps.cell 3, ⟨HQ1.out.below (below_drew1 (Below.refl _ _))⟩⟩ (fun hHeld => ?_)
      refine pure_ (i := 0) (N := some 27) (v := ?_) (a' := ?_) #[true, false, false, false, false, false, false, false, false, false, false, false, false, false, false, false, false, false, false, false, false, false] rfl rfl (by kernel_rfl) (fun _ _ _ h => h) (Or.inl ⟨by rfl, ?_⟩) ?_ ?_
      rotate_left
      · intro w'
        go_simp
        with_reducible rfl
      rotate_left
      · simp only [Act.put, List.setIfInBounds_toArray, List.set_cons_zero, List.set_cons_succ, i64_w, i32_w]
        rfl
      refine pure_ (i := 1) (N := some 28) (v := ?_) (a' := ?_) #[true, true, false, false, false, false, false, false, false, false, false, false, false, false, false, false, false, false, false, false, false, false] rfl rfl (by kernel_rfl) (fun _ _ _ h => h) (Or.inl ⟨by rfl, ?_⟩) ?_ ?_
      rotate_left
      · intro w'
        go_simp
        with_reducible rfl
      rotate_left
      · simp only [Act.put, List.setIfInBounds_toArray, List.set_cons_zero, List.set_cons_succ, i64_w, i32_w]
        rfl
      refine pure_ (i := 2) (N := some 29) (v := ?_) (a' := ?_) #[true, true, true, false, false, false, false, false, false, false, false, false, false, false, false, false, false, false, false, false, false, false] rfl rfl (by kernel_rfl) (fun _ _ _ h => h) (Or.inl ⟨by rfl, ?_⟩) ?_ ?_
      rotate_left
      · intro w'
        go_simp
        with_reducible rfl
      rotate_left
      · simp only [Act.put, List.setIfInBounds_toArray, List.set_cons_zero, List.set_cons_succ, i64_w, i32_w]
        rfl
      refine pure_ (i := 4) (N := some 31) (v := ?_) (a' := ?_) #[true, true, true, false, true, false, false, false, false, false, false, false, false, false, false, false, false, false, false, false, false, false] rfl rfl (by kernel_rfl) (fun _ _ _ h => h) (Or.inl ⟨by rfl, ?_⟩) ?_ ?_
      rotate_left
      · intro w'
        go_simp
        with_reducible rfl
      rotate_left
      · simp only [Act.put, List.setIfInBounds_toArray, List.set_cons_zero, List.set_cons_succ, i64_w, i32_w]
        rfl
      refine pure_ (i := 5) (N := some 32) (v := ?_) (a' := ?_) #[true, true, true, false, true, true, false, false, false, false, false, false, false, false, false, false, false, false, false, false, false, false] rfl rfl (by kernel_rfl) (fun _ _ _ h => h) (Or.inl ⟨by rfl, ?_⟩) ?_ ?_
      rotate_left
      · intro w'
        go_simp
        with_reducible rfl
      rotate_left
      · simp only [Act.put, List.setIfInBounds_toArray, List.set_cons_zero, List.set_cons_succ, i64_w, i32_w]
        rfl
      refine pure_ (i := 6) (N := some 33) (v := ?_) (a' := ?_) #[true, true, true, false, true, true, true, false, false, false, false, false, false, false, false, false, false, false, false, false, false, false] rfl rfl (by kernel_rfl) (fun _ _ _ h => h) (Or.inl ⟨by rfl, ?_⟩) ?_ ?_
      rotate_left
      · intro w'
        go_simp
        with_reducible rfl
      rotate_left
      · simp only [Act.put, List.setIfInBounds_toArray, List.set_cons_zero, List.set_cons_succ, i64_w, i32_w]
        rfl
      refine pure_ (i := 7) (N := some 34) (v := ?_) (a' := ?_) #[true, true, true, false, true, true, true, true, false, false, false, false, false, false, false, false, false, false, false, false, false, false] rfl rfl (by kernel_rfl) (fun _ _ _ h => h) (Or.inl ⟨by rfl, ?_⟩) ?_ ?_
      rotate_left
      · intro w'
        go_simp
        with_reducible rfl
      rotate_left
      · simp only [Act.put, List.setIfInBounds_toArray, List.set_cons_zero, List.set_cons_succ, i64_w, i32_w]
        rfl
      refine pure_ (i := 9) (N := some 36) (v := ?_) (a' := ?_) #[true, true, true, false, true, true, true, true, false, true, false, false, false, false, false, false, false, false, false, false, false, false] rfl rfl (by kernel_rfl) (fun _ _ _ h => h) (Or.inl ⟨by rfl, ?_⟩) ?_ ?_
      rotate_left
      · intro w'
        go_simp
        with_reducible rfl
      rotate_left
      · simp only [Act.put, List.setIfInBounds_toArray, List.set_cons_zero, List.set_cons_succ, i64_w, i32_w]
        rfl
      refine pure_ (i := 10) (N := some 37) (v := ?_) (a' := ?_) #[true, true, true, false, true, true, true, true, false, true, true, false, false, false, false, false, false, false, false, false, false, false] rfl rfl (by kernel_rfl) (fun _ _ _ h => h) (Or.inl ⟨by rfl, ?_⟩) ?_ ?_
      rotate_left
      · intro w'
        go_simp
        with_reducible rfl
      rotate_left
      · simp only [Act.put, List.setIfInBounds_toArray, List.set_cons_zero, List.set_cons_succ, i64_w, i32_w]
        rfl
      refine pure_ (i := 11) (N := some 38) (v := ?_) (a' := ?_) #[true, true, true, false, true, true, true, true, false, true, true, true, false, false, false, false, false, false, false, false, false, false] rfl rfl (by kernel_rfl) (fun _ _ _ h => h) (Or.inl ⟨by rfl, ?_⟩) ?_ ?_
      rotate_left
      · intro w'
        go_simp
        with_reducible rfl
      rotate_left
      · simp only [Act.put, List.setIfInBounds_toArray, List.set_cons_zero, List.set_cons_succ, i64_w, i32_w]
        rfl
      refine pure_ (i := 12) (N := some 39) (v := ?_) (a' := ?_) #[true, true, true, false, true, true, true, true, false, true, true, true, true, false, false, false, false, false, false, false, false, false] rfl rfl (by kernel_rfl) (fun _ _ _ h => h) (Or.inl ⟨by rfl, ?_⟩) ?_ ?_
      rotate_left
      · intro w'
        go_simp
        with_reducible rfl
      rotate_left
      · simp only [Act.put, List.setIfInBounds_toArray, List.set_cons_zero, List.set_cons_succ, i64_w, i32_w]
        rfl
      refine pure_ (i := 13) (N := some 40) (v := ?_) (a' := ?_) #[true, true, true, false, true, true, true, true, false, true, true, true, true, true, false, false, false, false, false, false, false, false] rfl rfl (by kernel_rfl) (fun _ _ _ h => h) (Or.inl ⟨by rfl, ?_⟩) ?_ ?_
      rotate_left
      · intro w'
        go_simp
        with_reducible rfl
      rotate_left
      · simp only [Act.put, List.setIfInBounds_toArray, List.set_cons_zero, List.set_cons_succ, i64_w, i32_w]
        rfl
      refine pure_ (i := 15) (N := some 42) (v := ?_) (a' := ?_) #[true, true, true, false, true, true, true, true, false, true, true, true, true, true, false, true, false, false, false, false, false, false] rfl rfl (by kernel_rfl) (fun _ _ _ h => h) (Or.inl ⟨by rfl, ?_⟩) ?_ ?_
      rotate_left
      · intro w'
        go_simp
        with_reducible rfl
      rotate_left
      · simp only [Act.put, List.setIfInBounds_toArray, List.set_cons_zero, List.set_cons_succ, i64_w, i32_w]
        rfl
      refine pure_ (i := 16) (N := some 43) (v := ?_) (a' := ?_) #[true, true, true, false, true, true, true, true, false, true, true, true, true, true, false, true, true, false, false, false, false, false] rfl rfl (by kernel_rfl) (fun _ _ _ h => h) (Or.inl ⟨by rfl, ?_⟩) ?_ ?_
      rotate_left
      · intro w'
        go_simp
        with_reducible rfl
      rotate_left
      · simp only [Act.put, List.setIfInBounds_toArray, List.set_cons_zero, List.set_cons_succ, i64_w, i32_w]
        rfl
      refine take_ (i := 3) (N := some 30) (v := ?_) (a' := ?_) #[true, true, true, true, true, true, true, true, false, true, true, true, true, true, false, true, true, false, false, false, false, false] rfl rfl (by kernel_rfl) (fun _ _ _ h => h) (Or.inl ⟨by rfl, ?_⟩) hHeld ?_ ?_
      rotate_left
      · rintro w' ⟨s0, s1⟩
        go_simp
        with_reducible rfl
      rotate_left
      · simp only [Act.put, List.setIfInBounds_toArray, List.set_cons_zero, List.set_cons_succ, i64_w, i32_w]
        rfl
      refine take_ (i := 8) (N := some 35) (v := ?_) (a' := ?_) #[true, true, true, true, true, true, true, true, true, true, true, true, true, true, false, true, true, false, false, false, false, false] rfl rfl (by kernel_rfl) (fun _ _ _ h => h) (Or.inl ⟨by rfl, ?_⟩) hHeld ?_ ?_
      rotate_left
      · rintro w' ⟨s0, s1⟩
        go_simp
        with_reducible rfl
      rotate_left
      · simp only [Act.put, List.setIfInBounds_toArray, List.set_cons_zero, List.set_cons_succ, i64_w, i32_w]
        rfl
      refine one_ (i := 14) (N := some 41) #[true, true, true, true, true, true, true, true, true, true, true, true, true, true, true, true, true, false, false, false, false, false] rfl rfl (by kernel_rfl) (by decide) (fun K hK => ?_)
      refine goes_ Tryz.func112 (by kernel_rfl) rfl #[.int .u64 (fv (f q)), .int .u64 (fv (f t))] (by rfl) rfl rfl (by simp only [List.map_toArray, List.map_cons, List.map_nil]; rfl) ?_
      with_reducible refine (gold_Add.calls _ _ _ _ (gAddF (f q) (f t))).mono ?_
      rintro e w4 ⟨rfl, hb⟩
      refine ⟨_, rfl, ?_⟩
      have nS := hHeld.2.out.below hb
      clear hHeld hb
      refine hK.out _ _ ⟨nS.ps.cell 3, ⟨nS⟩⟩ (fun hHeld => ?_)
      clear hK K
      refine norm_ (a' := ?_) ?_ ?_
      rotate_left
      · show Act.put _ (some 41) _ = _
        simp only [Act.put, List.setIfInBounds_toArray, List.set_cons_zero, List.set_cons_succ, i64_w, i32_w]
        rfl
      refine one_ (i := 17) (N := some 44) #[true, true, true, true, true, true, true, true, true, true, true, true, true, true, true, true, true, true, false, false, false, false] rfl rfl (by kernel_rfl) (by decide) (fun K hK => ?_)
      refine goes_ Tryz.func113 (by kernel_rfl) rfl #[.int .u64 (fv (f q)), .int .u64 (fv (f t))] (by rfl) rfl rfl (by simp only [List.map_toArray, List.map_cons, List.map_nil]; rfl) ?_
      with_reducible refine (gold_Sub.calls _ _ _ _ (gSubF (f q) (f t))).mono ?_
      rintro e w5 ⟨rfl, hb⟩
      refine ⟨_, rfl, ?_⟩
      have nS := hHeld.2.out.below hb
      clear hHeld hb
      refine hK.out _ _ ⟨nS.ps.cell 3, ⟨nS⟩⟩ (fun hHeld => ?_)
      clear hK K
      refine norm_ (a' := ?_) ?_ ?_
      rotate_left
      · show Act.put _ (some 44) _ = _
        simp only [Act.put, List.setIfInBounds_toArray, List.set_cons_zero, List.set_cons_succ, i64_w, i32_w]
        rfl
      refine pure_ (i := 18) (N := some 45) (v := ?_) (a' := ?_) #[true, true, true, true, true, true, true, true, true, true, true, true, true, true, true, true, true, true, true, false, false, false] rfl rfl (by kernel_rfl) (fun _ _ _ h => h) (Or.inl ⟨by rfl, ?_⟩) ?_ ?_
      rotate_left
      · intro w'
        go_simp
        with_reducible rfl
      rotate_left
      · simp only [Act.put, List.setIfInBounds_toArray, List.set_cons_zero, List.set_cons_succ, i64_w, i32_w]
        rfl
      refine last_ (i := 19) (N := none) #[true, true, true, true, true, true, true, true, true, true, true, true, true, true, true, true, true, true, true, true, false, false] rfl rfl (by kernel_rfl) (by decide) (fun K hK => ?_)
      have nS := hHeld.2.out
      have c1 := nS.dst.cell q (by rw [nS.len]; exact QN.out)
      have f1 := nS.dst.frozen q
      have HQ2 := Aside0.mk (nS.put q (fv (f q + f t)))
      clear nS
      refine skip_ (w1 := ?_) (by rfl) rfl ?_ ?_
      rotate_left
      · go_simp
        rfl
      refine hK.out _ _ ?_
      clear hK K
      refine pure_ (i := 20) (N := some 46) (v := ?_) (a' := ?_) #[true, true, true, true, true, true, true, true, true, true, true, true, true, true, true, true, true, true, true, true, true, false] rfl rfl (by kernel_rfl) (fun _ _ _ h => h) (Or.inl ⟨by rfl, ?_⟩) ?_ ?_
      rotate_left
      · intro w'
        go_simp
        with_reducible rfl
      rotate_left
      · simp only [Act.put, List.setIfInBounds_toArray, List.set_cons_zero, List.set_cons_succ, i64_w, i32_w]
        rfl
      refine last_ (i := 21) (N := none) #[true, true, true, true, true, true, true, true, true, true, true, true, true, true, true, true, true, true, true, true, true, true] rfl rfl (by kernel_rfl) (by decide) (fun K hK => ?_)
      have c2 := HQ2.out.dst.cell t (by rw [HQ2.out.len]; exact TN.out)
      have f2 := HQ2.out.dst.frozen t
      have HQ3 := Aside0.mk (HQ2.out.put t (fv (f q - f t)))
      refine skip_ (w1 := ?_) (by rfl) rfl ?_ ?_
      rotate_left
      · go_simp
        rfl
      refine hK.out _ _ ?_
      clear hK K
      refine done_ (by kernel_rfl) ?_
      obtain ⟨we, hwe⟩ : ∃ w', w' = (w5.setCell ⟨gd, q, none⟩ (.int .u64 (fv (f q + f t)))).setCell ⟨gd, t, none⟩ (.int .u64 (fv (f q - f t))) := ⟨_, rfl⟩
      rw [← hwe] at HQ3 ⊢
      clear hwe HQ2 hHeld HQ1
      have HDn := Aside0.mk (HD.out.step h1 (by rw [HQ3len.out]; exact HN.out))
      go_wp2
      go_roundw
      case rel => exact ⟨q + 1, _, by go_num, by omega, HQ3, by rw [Et.out]; exact HDn⟩
      case measure => simp [intOf]; omega
    · obtain rfl : q = s := by omega
      have hqa : decide ((q : Int) < (q : Int)) = false := decide_eq_false (by omega)
      go_wp2_with fail
      have v2 := HQ.out.ps.cell 2
      have v3 := HQ.out.ps.cell 3
      have z2 := HQ.out.ps.frozen 2
      have z3 := HQ.out.ps.frozen 3
      go_region
      go_wp2
      refine bodyPost_end (results_none Tryz.results108 _ _ _) rfl ?_
      have hgP : gd ≠ P := Ne.symm (HQ.out.dst.ne HQ.out.ps (by decide))
      have hgs : gs ≠ P := Ne.symm (HQ.out.src.ne HQ.out.ps (by decide))
      refine ⟨rfl, ys, HQ.out.len, HD.out, ?_, ?_, ?_, ?_⟩
      · exact (((HQ.out.fr.mono (fun k hk => by simp at hk ⊢; exact .inl hk)).set P 2 _ (.inl (by simp))).set P 3 _ (.inl (by simp))).drew
      · exact (((HQ.out.ps.put 2 _).put 3 _)).drew
      · exact ((HQ.out.src.far P 2 _ hgs).far P 3 _ hgs).below (below_drew1 (Below.refl _ _))
      · exact ((HQ.out.dst.far P 2 _ hgP).far P 3 _ hgP).below (below_drew1 (Below.refl _ _))
end Go.Proofs.YtpnkcjnemoompaaGreatDoor.Kern
end
section
namespace Go.Proofs.YtpnkcjnemoompaaGreatDoor.Kern
open Go.RowKit Go.Proofs.YtpnkcjnemoompaaGreatDoor Go.Proofs.YtpnkcjnemoompaaGreatDoor.Ext Go.Proofs.YtpnkcjnemoompaaGreatDoor.PPlan Go.Proofs.YtpnkcjnemoompaaGreatDoor.PFft Go.Proofs.YtpnkcjnemoompaaGreatDoor.Pure Go.Proofs.YtpnkcjnemoompaaGreatDoor.Obj Go.Proofs.YtpnkcjnemoompaaGreatDoor.Fft Go.Proofs.YtpnkcjnemoompaaGreatDoorW.PrintWords Go.Proofs.YtpnkcjnemoompaaGreatDoorW.PrintLast Go.Proofs.YtpnkcjnemoompaaGreatDoorW.PrintMore
set_option linter.unusedVariables false
set_option linter.unusedSimpArgs false
set_option maxRecDepth 100000
theorem k2_calls (b K : Nat) (v0 v1 sh : Value) (w : World) (h : Bk w b 146 [v0, v1, sh, .int .i64 (K : Int)]) : Calls Tryz.prog 106 #[.pointer (some ⟨b, 0, none⟩)] w fun e w' => e = .returned (.int .i64 (K : Int)) ∧ w' = w := by
  have u3 := h.cell 3
  clear h
  go_enter Tryz.func106, Tryz.ntmps106
  go_wp2
  go_ret
  exact ⟨rfl, rfl⟩
set_option maxHeartbeats 4000000 in
theorem new2_calls (x : Nat) (hK : x ≤ 20) (w : World) : Calls Tryz.prog 99 #[.int .i64 (x : Int)] w fun e w' => ∃ b v0 v1 sh, e = .returned (.pointer (some ⟨b, 0, none⟩)) ∧ Bk w' b 146 [v0, v1, sh, .int .i64 (x : Int)] ∧ Below w.heap.size w w' ∧ w.heap.size ≤ b := by
  obtain ⟨n0, t0⟩ := (gTable x hK 0 (.inl rfl)).rounds
  obtain ⟨n1, t1⟩ := (gTable x hK 1 (.inr rfl)).rounds
  obtain ⟨n2, t2⟩ := (gShare x (by omega)).rounds
  obtain ⟨r0, hr0⟩ : ∃ r, r = tb (max (2 ^ x / 2) 1) (pw (rut x 0)) := ⟨_, rfl⟩
  obtain ⟨r1, hr1⟩ : ∃ r, r = tb (max (2 ^ x / 2) 1) (pw (rut x 1)) := ⟨_, rfl⟩
  rw [← hr0] at t0
  rw [← hr1] at t1
  have T0 := Aside0.mk t0
  have T1 := Aside0.mk t1
  have T2 := Aside0.mk t2
  have d1 : decide ((x : Int) < 0) = false := decide_eq_false (by omega)
  have d2 : decide (20 < (x : Int)) = false := decide_eq_false (by omega)
  clear t0 t1 t2 hr0 hr1
  have HB0 := Aside0.mk (below_alloc (Below.refl w.heap.size w) (Obj.cells #[.slice none 0 0, .slice none 0 0, .int .u64 0, .int .i64 (x : Int)] 146))
  have HK0 := Aside0.mk (Bk.new w 146 [.slice none 0 0, .slice none 0 0, .int .u64 0, .int .i64 (x : Int)])
  go_enter Tryz.func99, Tryz.ntmps99
  go_wp2
  go_loopw [14] (fun v14 wr => ∃ (i : Nat) (v0 v1 : Value), v14 = .int .i64 i ∧ i ≤ 2 ∧ Aside0 (Bk wr w.heap.size 146 [v0, v1, .int .u64 0, .int .i64 (x : Int)]) ∧ Aside0 (Below w.heap.size w wr)) (fun v14 _ => 2 - (intOf v14).toNat)
  case atStart => exact ⟨0, _, _, rfl, by omega, HK0, HB0⟩
  case round =>
    clear HK0 HB0
    obtain ⟨i, v0, v1, rfl, hi, HK, HB⟩ := hrel
    by_cases h1 : i < 2
    · rcases (by omega : i = 0 ∨ i = 1) with rfl | rfl
      · go_wp2_with fail
        refine start_ (n := 13) (S := fun w' => Aside0 (Bk w' w.heap.size 146 [v0, v1, .int .u64 0, .int .i64 (x : Int)] ∧ Below w.heap.size w w')) (ds := [12]) #[false, false, false, false, false, false, false, false, false, false, false, false, false] (by kernel_rfl) rfl rfl (⟨HK.out.drew, below_drew1 HB.out⟩) (fun hHeld => ?_)
        refine pure_ (i := 0) (N := some 18) (v := ?_) (a' := ?_) #[true, false, false, false, false, false, false, false, false, false, false, false, false] rfl rfl (by kernel_rfl) (fun _ _ _ h => h) (Or.inl ⟨by rfl, ?_⟩) ?_ ?_
        rotate_left
        · intro w'
          go_simp
          with_reducible rfl
        rotate_left
        · simp only [Act.put, List.setIfInBounds_toArray, List.set_cons_zero, List.set_cons_succ, i64_w, i32_w]
          rfl
        refine pure_ (i := 1) (N := some 19) (v := ?_) (a' := ?_) #[true, true, false, false, false, false, false, false, false, false, false, false, false] rfl rfl (by kernel_rfl) (fun _ _ _ h => h) (Or.inl ⟨by rfl, ?_⟩) ?_ ?_
        rotate_left
        · intro w'
          go_simp
          with_reducible rfl
        rotate_left
        · simp only [Act.put, List.setIfInBounds_toArray, List.set_cons_zero, List.set_cons_succ, i64_w, i32_w]
          rfl
        refine pure_ (i := 2) (N := some 20) (v := ?_) (a' := ?_) #[true, true, true, false, false, false, false, false, false, false, false, false, false] rfl rfl (by kernel_rfl) (fun _ _ _ h => h) (Or.inl ⟨by rfl, ?_⟩) ?_ ?_
        rotate_left
        · intro w'
          go_simp
          with_reducible rfl
        rotate_left
        · simp only [Act.put, List.setIfInBounds_toArray, List.set_cons_zero, List.set_cons_succ, i64_w, i32_w]
          rfl
        refine pure_ (i := 3) (N := some 21) (v := ?_) (a' := ?_) #[true, true, true, true, false, false, false, false, false, false, false, false, false] rfl rfl (by kernel_rfl) (fun _ _ _ h => h) (Or.inl ⟨by rfl, ?_⟩) ?_ ?_
        rotate_left
        · intro w'
          go_simp
          with_reducible rfl
        rotate_left
        · simp only [Act.put, List.setIfInBounds_toArray, List.set_cons_zero, List.set_cons_succ, i64_w, i32_w]
          rfl
        refine pure_ (i := 8) (N := some 25) (v := ?_) (a' := ?_) #[true, true, true, true, false, false, false, false, true, false, false, false, false] rfl rfl (by kernel_rfl) (fun _ _ _ h => h) (Or.inl ⟨by rfl, ?_⟩) ?_ ?_
        rotate_left
        · intro w'
          go_simp
          with_reducible rfl
        rotate_left
        · simp only [Act.put, List.setIfInBounds_toArray, List.set_cons_zero, List.set_cons_succ, i64_w, i32_w]
          rfl
        refine pure_ (i := 9) (N := some 26) (v := ?_) (a' := ?_) #[true, true, true, true, false, false, false, false, true, true, false, false, false] rfl rfl (by kernel_rfl) (fun _ _ _ h => h) (Or.inl ⟨by rfl, ?_⟩) ?_ ?_
        rotate_left
        · intro w'
          go_simp
          with_reducible rfl
        rotate_left
        · simp only [Act.put, List.setIfInBounds_toArray, List.set_cons_zero, List.set_cons_succ, i64_w, i32_w]
          rfl
        refine pure_ (i := 10) (N := some 27) (v := ?_) (a' := ?_) #[true, true, true, true, false, false, false, false, true, true, true, false, false] rfl rfl (by kernel_rfl) (fun _ _ _ h => h) (Or.inl ⟨by rfl, ?_⟩) ?_ ?_
        rotate_left
        · intro w'
          go_simp
          with_reducible rfl
        rotate_left
        · simp only [Act.put, List.setIfInBounds_toArray, List.set_cons_zero, List.set_cons_succ, i64_w, i32_w]
          rfl
        refine one_ (i := 4) (N := some 22) #[true, true, true, true, true, false, false, false, true, true, true, false, false] rfl rfl (by kernel_rfl) (by decide) (fun K hK => ?_)
        refine goes_ Tryz.func104 (by kernel_rfl) rfl #[.int .i64 (x : Int), .int .i64 0] (by rfl) rfl rfl (by simp only [List.map_toArray, List.map_cons, List.map_nil]; rfl) ?_
        with_reducible refine (twid_Table.calls n0 (x : Int) 0 r0 0 _ T0.out).mono ?_
        rintro e w4 ⟨v, rfl, hR, hb⟩
        refine ⟨_, rfl, ?_⟩
        obtain ⟨Av, cv, rfl, _, _⟩ := Kd.R_reads hR
        have nS : Bk w4 w.heap.size 146 [v0, v1, .int .u64 0, .int .i64 (x : Int)] ∧ Below w.heap.size w w4 := ⟨hHeld.out.1.below hb, below_then hHeld.out.2 hHeld.out.2.size hb⟩
        clear hHeld hb hR
        refine hK.out _ _ (⟨nS⟩) (fun hHeld => ?_)
        clear hK K
        refine norm_ (a' := ?_) ?_ ?_
        rotate_left
        · show Act.put _ (some 22) _ = _
          simp only [Act.put, List.setIfInBounds_toArray, List.set_cons_zero, List.set_cons_succ, i64_w, i32_w]
          rfl
        refine pure_ (i := 5) (N := some 17) (v := ?_) (a' := ?_) #[true, true, true, true, true, true, false, false, true, true, true, false, false] rfl rfl (by kernel_rfl) (fun _ _ _ h => h) (Or.inl ⟨by rfl, ?_⟩) ?_ ?_
        rotate_left
        · intro w'
          go_simp
          with_reducible rfl
        rotate_left
        · simp only [Act.put, List.setIfInBounds_toArray, List.set_cons_zero, List.set_cons_succ, i64_w, i32_w]
          rfl
        refine pure_ (i := 6) (N := some 23) (v := ?_) (a' := ?_) #[true, true, true, true, true, true, true, false, true, true, true, false, false] rfl rfl (by kernel_rfl) (fun _ _ _ h => h) (Or.inl ⟨by rfl, ?_⟩) ?_ ?_
        rotate_left
        · intro w'
          go_simp
          with_reducible rfl
        rotate_left
        · simp only [Act.put, List.setIfInBounds_toArray, List.set_cons_zero, List.set_cons_succ, i64_w, i32_w]
          rfl
        refine pure_ (i := 7) (N := some 24) (v := ?_) (a' := ?_) #[true, true, true, true, true, true, true, true, true, true, true, false, false] rfl rfl (by kernel_rfl) (fun _ _ _ h => h) (Or.inl ⟨by rfl, ?_⟩) ?_ ?_
        rotate_left
        · intro w'
          go_simp
          with_reducible rfl
        rotate_left
        · simp only [Act.put, List.setIfInBounds_toArray, List.set_cons_zero, List.set_cons_succ, i64_w, i32_w]
          rfl
        refine pure_ (i := 11) (N := some 28) (v := ?_) (a' := ?_) #[true, true, true, true, true, true, true, true, true, true, true, true, false] rfl rfl (by kernel_rfl) (fun _ _ _ h => h) (Or.inl ⟨by rfl, ?_⟩) ?_ ?_
        rotate_left
        · intro w'
          go_simp
          with_reducible rfl
        rotate_left
        · simp only [Act.put, List.setIfInBounds_toArray, List.set_cons_zero, List.set_cons_succ, i64_w, i32_w]
          rfl
        refine last_ (i := 12) (N := none) #[true, true, true, true, true, true, true, true, true, true, true, true, true] rfl rfl (by kernel_rfl) (by decide) (fun K hK => ?_)
        have c1 := hHeld.out.1.cell 0
        have f1 := hHeld.out.1.frozen 0
        have HK2 := Aside0.mk (hHeld.out.1.put 0 (.slice Av r0.length cv))
        have HB2 := Aside0.mk (below_set hHeld.out.2 (g := w.heap.size) (j := 0) (v := .slice Av r0.length cv) (Nat.le_refl _))
        refine skip_ (w1 := ?_) (by rfl) rfl ?_ ?_
        rotate_left
        · go_simp
          rfl
        refine hK.out _ _ ?_
        clear hK K
        refine done_ (by kernel_rfl) ?_
        clear hHeld
        go_wp2
        go_roundw
        case rel => exact ⟨1, _, v1, by go_num, by omega, HK2, HB2⟩
        case measure => simp [intOf]
      · go_wp2_with fail
        refine start_ (n := 13) (S := fun w' => Aside0 (Bk w' w.heap.size 146 [v0, v1, .int .u64 0, .int .i64 (x : Int)] ∧ Below w.heap.size w w')) (ds := [12]) #[false, false, false, false, false, false, false, false, false, false, false, false, false] (by kernel_rfl) rfl rfl (⟨HK.out.drew, below_drew1 HB.out⟩) (fun hHeld => ?_)
        refine pure_ (i := 0) (N := some 18) (v := ?_) (a' := ?_) #[true, false, false, false, false, false, false, false, false, false, false, false, false] rfl rfl (by kernel_rfl) (fun _ _ _ h => h) (Or.inl ⟨by rfl, ?_⟩) ?_ ?_
        rotate_left
        · intro w'
          go_simp
          with_reducible rfl
        rotate_left
        · simp only [Act.put, List.setIfInBounds_toArray, List.set_cons_zero, List.set_cons_succ, i64_w, i32_w]
          rfl
        refine pure_ (i := 1) (N := some 19) (v := ?_) (a' := ?_) #[true, true, false, false, false, false, false, false, false, false, false, false, false] rfl rfl (by kernel_rfl) (fun _ _ _ h => h) (Or.inl ⟨by rfl, ?_⟩) ?_ ?_
        rotate_left
        · intro w'
          go_simp
          with_reducible rfl
        rotate_left
        · simp only [Act.put, List.setIfInBounds_toArray, List.set_cons_zero, List.set_cons_succ, i64_w, i32_w]
          rfl
        refine pure_ (i := 2) (N := some 20) (v := ?_) (a' := ?_) #[true, true, true, false, false, false, false, false, false, false, false, false, false] rfl rfl (by kernel_rfl) (fun _ _ _ h => h) (Or.inl ⟨by rfl, ?_⟩) ?_ ?_
        rotate_left
        · intro w'
          go_simp
          with_reducible rfl
        rotate_left
        · simp only [Act.put, List.setIfInBounds_toArray, List.set_cons_zero, List.set_cons_succ, i64_w, i32_w]
          rfl
        refine pure_ (i := 3) (N := some 21) (v := ?_) (a' := ?_) #[true, true, true, true, false, false, false, false, false, false, false, false, false] rfl rfl (by kernel_rfl) (fun _ _ _ h => h) (Or.inl ⟨by rfl, ?_⟩) ?_ ?_
        rotate_left
        · intro w'
          go_simp
          with_reducible rfl
        rotate_left
        · simp only [Act.put, List.setIfInBounds_toArray, List.set_cons_zero, List.set_cons_succ, i64_w, i32_w]
          rfl
        refine pure_ (i := 8) (N := some 25) (v := ?_) (a' := ?_) #[true, true, true, true, false, false, false, false, true, false, false, false, false] rfl rfl (by kernel_rfl) (fun _ _ _ h => h) (Or.inl ⟨by rfl, ?_⟩) ?_ ?_
        rotate_left
        · intro w'
          go_simp
          with_reducible rfl
        rotate_left
        · simp only [Act.put, List.setIfInBounds_toArray, List.set_cons_zero, List.set_cons_succ, i64_w, i32_w]
          rfl
        refine pure_ (i := 9) (N := some 26) (v := ?_) (a' := ?_) #[true, true, true, true, false, false, false, false, true, true, false, false, false] rfl rfl (by kernel_rfl) (fun _ _ _ h => h) (Or.inl ⟨by rfl, ?_⟩) ?_ ?_
        rotate_left
        · intro w'
          go_simp
          with_reducible rfl
        rotate_left
        · simp only [Act.put, List.setIfInBounds_toArray, List.set_cons_zero, List.set_cons_succ, i64_w, i32_w]
          rfl
        refine pure_ (i := 10) (N := some 27) (v := ?_) (a' := ?_) #[true, true, true, true, false, false, false, false, true, true, true, false, false] rfl rfl (by kernel_rfl) (fun _ _ _ h => h) (Or.inl ⟨by rfl, ?_⟩) ?_ ?_
        rotate_left
        · intro w'
          go_simp
          with_reducible rfl
        rotate_left
        · simp only [Act.put, List.setIfInBounds_toArray, List.set_cons_zero, List.set_cons_succ, i64_w, i32_w]
          rfl
        refine one_ (i := 4) (N := some 22) #[true, true, true, true, true, false, false, false, true, true, true, false, false] rfl rfl (by kernel_rfl) (by decide) (fun K hK => ?_)
        refine goes_ Tryz.func104 (by kernel_rfl) rfl #[.int .i64 (x : Int), .int .i64 1] (by rfl) rfl rfl (by simp only [List.map_toArray, List.map_cons, List.map_nil]; rfl) ?_
        with_reducible refine (twid_Table.calls n1 (x : Int) 1 r1 0 _ T1.out).mono ?_
        rintro e w4 ⟨v, rfl, hR, hb⟩
        refine ⟨_, rfl, ?_⟩
        obtain ⟨Av, cv, rfl, _, _⟩ := Kd.R_reads hR
        have nS : Bk w4 w.heap.size 146 [v0, v1, .int .u64 0, .int .i64 (x : Int)] ∧ Below w.heap.size w w4 := ⟨hHeld.out.1.below hb, below_then hHeld.out.2 hHeld.out.2.size hb⟩
        clear hHeld hb hR
        refine hK.out _ _ (⟨nS⟩) (fun hHeld => ?_)
        clear hK K
        refine norm_ (a' := ?_) ?_ ?_
        rotate_left
        · show Act.put _ (some 22) _ = _
          simp only [Act.put, List.setIfInBounds_toArray, List.set_cons_zero, List.set_cons_succ, i64_w, i32_w]
          rfl
        refine pure_ (i := 5) (N := some 17) (v := ?_) (a' := ?_) #[true, true, true, true, true, true, false, false, true, true, true, false, false] rfl rfl (by kernel_rfl) (fun _ _ _ h => h) (Or.inl ⟨by rfl, ?_⟩) ?_ ?_
        rotate_left
        · intro w'
          go_simp
          with_reducible rfl
        rotate_left
        · simp only [Act.put, List.setIfInBounds_toArray, List.set_cons_zero, List.set_cons_succ, i64_w, i32_w]
          rfl
        refine pure_ (i := 6) (N := some 23) (v := ?_) (a' := ?_) #[true, true, true, true, true, true, true, false, true, true, true, false, false] rfl rfl (by kernel_rfl) (fun _ _ _ h => h) (Or.inl ⟨by rfl, ?_⟩) ?_ ?_
        rotate_left
        · intro w'
          go_simp
          with_reducible rfl
        rotate_left
        · simp only [Act.put, List.setIfInBounds_toArray, List.set_cons_zero, List.set_cons_succ, i64_w, i32_w]
          rfl
        refine pure_ (i := 7) (N := some 24) (v := ?_) (a' := ?_) #[true, true, true, true, true, true, true, true, true, true, true, false, false] rfl rfl (by kernel_rfl) (fun _ _ _ h => h) (Or.inl ⟨by rfl, ?_⟩) ?_ ?_
        rotate_left
        · intro w'
          go_simp
          with_reducible rfl
        rotate_left
        · simp only [Act.put, List.setIfInBounds_toArray, List.set_cons_zero, List.set_cons_succ, i64_w, i32_w]
          rfl
        refine pure_ (i := 11) (N := some 28) (v := ?_) (a' := ?_) #[true, true, true, true, true, true, true, true, true, true, true, true, false] rfl rfl (by kernel_rfl) (fun _ _ _ h => h) (Or.inl ⟨by rfl, ?_⟩) ?_ ?_
        rotate_left
        · intro w'
          go_simp
          with_reducible rfl
        rotate_left
        · simp only [Act.put, List.setIfInBounds_toArray, List.set_cons_zero, List.set_cons_succ, i64_w, i32_w]
          rfl
        refine last_ (i := 12) (N := none) #[true, true, true, true, true, true, true, true, true, true, true, true, true] rfl rfl (by kernel_rfl) (by decide) (fun K hK => ?_)
        have c1 := hHeld.out.1.cell 1
        have f1 := hHeld.out.1.frozen 1
        have HK2 := Aside0.mk (hHeld.out.1.put 1 (.slice Av r1.length cv))
        have HB2 := Aside0.mk (below_set hHeld.out.2 (g := w.heap.size) (j := 1) (v := .slice Av r1.length cv) (Nat.le_refl _))
        refine skip_ (w1 := ?_) (by rfl) rfl ?_ ?_
        rotate_left
        · go_simp
          rfl
        refine hK.out _ _ ?_
        clear hK K
        refine done_ (by kernel_rfl) ?_
        clear hHeld
        go_wp2
        go_roundw
        case rel => exact ⟨2, v0, _, by go_num, by omega, HK2, HB2⟩
        case measure => simp [intOf]
    · obtain rfl : i = 2 := by omega
      go_wp2_with fail
      with_reducible refine (twid_Share.calls n2 (x : Int) _ 0 _ T2.out).mono ?_
      rintro e w5 ⟨rfl, hb⟩
      have HK5 := Aside0.mk (HK.out.below hb)
      have HB5 := Aside0.mk (below_then HB.out HB.out.size hb)
      have c2 := HK5.out.cell 2
      have f2 := HK5.out.frozen 2
      clear hb HK HB
      go_wp2
      go_ret
      exact ⟨_, v0, v1, _, rfl, HK5.out.put 2 _, below_set HB5.out (Nat.le_refl _), Nat.le_refl _⟩
structure Ker (w : World) (p b g0 c0 g1 c1 K N : Nat) : Prop where
  n : N = 2 ^ K
  k : K ≤ 20
  obj : Bk w p 139 [.pointer (some ⟨b, 0, none⟩), .slice (some ⟨g0, 0, none⟩) N c0, .slice (some ⟨g1, 0, none⟩) N c1, .int .u64 (fv (rut 2 0)), .int .u64 (fv (rut 2 1)), .int .u64 (fv (shf K))]
  sub : ∃ v0 v1 sh, Bk w b 146 [v0, v1, sh, .int .i64 (K : Int)]
  p0 : Mr w g0 c0 (tb N (pw (rut K 0)))
  p1 : Mr w g1 c1 (tb N (pw (rut K 1)))
theorem Ker.fr {w w' : World} {S : List Nat} {p b g0 c0 g1 c1 K N : Nat} (h : Ker w p b g0 c0 g1 c1 K N) (hf : Fr w w' S) (h1 : p ∉ S) (h2 : b ∉ S) (h3 : g0 ∉ S) (h4 : g1 ∉ S) : Ker w' p b g0 c0 g1 c1 K N := by
  obtain ⟨v0, v1, sh, hs⟩ := h.sub
  exact ⟨h.n, h.k, h.obj.fr hf h1, ⟨v0, v1, sh, hs.fr hf h2⟩, h.p0.fr hf h3, h.p1.fr hf h4⟩
theorem Ker.below {w w' : World} {p b g0 c0 g1 c1 K N : Nat} (h : Ker w p b g0 c0 g1 c1 K N) (hb : Below w.heap.size w w') : Ker w' p b g0 c0 g1 c1 K N :=
  h.fr (S := []) (Fr.of_below hb []) (by simp) (by simp) (by simp) (by simp)
structure Kst (w0 w : World) (p b x N : Nat) (v0 v1 : Value) (u0 u1 : Int) : Prop where
  obj : Bk w p 139 [.pointer (some ⟨b, 0, none⟩), v0, v1, .int .u64 u0, .int .u64 u1, .int .u64 0]
  sub : ∃ v0 v1 sh, Bk w b 146 [v0, v1, sh, .int .i64 (x : Int)]
  be : Below w0.heap.size w0 w
  p : w0.heap.size ≤ p
  b : w0.heap.size ≤ b
theorem Kst.below {w0 w w1 : World} {p b x N : Nat} {v0 v1 : Value} {u0 u1 : Int} (h : Kst w0 w p b x N v0 v1 u0 u1) (hb : Below w.heap.size w w1) : Kst w0 w1 p b x N v0 v1 u0 u1 := by
  obtain ⟨s0, s1, sh, hs⟩ := h.sub
  exact ⟨h.obj.below hb, ⟨s0, s1, sh, hs.below hb⟩, below_then h.be h.be.size hb, h.p, h.b⟩
def Pws (w0 w : World) (N : Nat) (v : Value) (f : Nat → F) : Prop := ∃ g c, v = .slice (some ⟨g, 0, none⟩) N c ∧ w0.heap.size ≤ g ∧ Mr w g c (tb N f)
theorem Pws.below {w0 w w1 : World} {N : Nat} {v : Value} {f : Nat → F} (h : Pws w0 w N v f) (hb : Below w.heap.size w w1) : Pws w0 w1 N v f := by
  obtain ⟨g, c, h1, h2, h3⟩ := h
  exact ⟨g, c, h1, h2, h3.below hb⟩
theorem Pws.far {w0 w : World} {N : Nat} {v : Value} {f : Nat → F} (h : Pws w0 w N v f) {p t : Nat} {cs : List Value} (hp : Bk w p t cs) (ht : t ≠ 33) (j : Nat) (u : Value) : Pws w0 (w.setCell ⟨p, j, none⟩ u) N v f := by
  obtain ⟨g, c, h1, h2, h3⟩ := h
  exact ⟨g, c, h1, h2, h3.far p j u (Ne.symm (h3.ne hp ht))⟩
theorem Kst.put {w0 w : World} {p b x N : Nat} {v0 v1 : Value} {u0 u1 : Int} (h : Kst w0 w p b x N v0 v1 u0 u1) (j : Nat) (u : Value) : (∃ s0 s1 sh, Bk (w.setCell ⟨p, j, none⟩ u) b 146 [s0, s1, sh, .int .i64 (x : Int)]) ∧ Below w0.heap.size w0 (w.setCell ⟨p, j, none⟩ u) := by
  obtain ⟨s0, s1, sh, hs⟩ := h.sub
  exact ⟨⟨s0, s1, sh, hs.far j u (hs.ne h.obj (by decide))⟩, below_set h.be h.p⟩
set_option maxHeartbeats 8000000 in
theorem new4_calls (x : Nat) (hx : x ≤ 20) (w : World) : Calls Tryz.prog 91 #[.int .i64 (x : Int)] w fun e w' => ∃ p b g0 c0 g1 c1, e = .returned (.pointer (some ⟨p, 0, none⟩)) ∧ Ker w' p b g0 c0 g1 c1 x (2 ^ x) ∧ Below w.heap.size w w' ∧ w.heap.size ≤ p ∧ w.heap.size ≤ b ∧ w.heap.size ≤ g0 ∧ w.heap.size ≤ g1 := by
  obtain ⟨N, hN⟩ : ∃ N, N = 2 ^ x := ⟨_, rfl⟩
  have hN0 : 0 < N := by rw [hN]; exact Nat.two_pow_pos x
  obtain ⟨n0, t0⟩ := (gWhole x hx 0 (.inl rfl)).rounds
  obtain ⟨n1, t1⟩ := (gWhole x hx 1 (.inr rfl)).rounds
  obtain ⟨n2, t2⟩ := (gShare x (by omega)).rounds
  obtain ⟨n3, t3⟩ := (gUnit 0 (.inl rfl)).rounds
  obtain ⟨n4, t4⟩ := (gUnit 1 (.inr rfl)).rounds
  rw [← hN] at t0 t1 ⊢
  have T0 := Aside0.mk t0
  have T1 := Aside0.mk t1
  have T2 := Aside0.mk t2
  have T3 := Aside0.mk t3
  have T4 := Aside0.mk t4
  have HN := Aside0.mk hN
  have HX := Aside0.mk hx
  clear t0 t1 t2 t3 t4 hN
  go_enter Tryz.func91, Tryz.ntmps91
  go_wp2_with fail
  refine (new2_calls x HX.out _).mono ?_
  rintro e w1 ⟨b, s0, s1, sh, rfl, hbk, hb, hbz⟩
  obtain ⟨p, hp⟩ : ∃ p, p = w1.heap.size := ⟨_, rfl⟩
  obtain ⟨w2, hw2⟩ : ∃ w2, w2 = w1.alloc (.cells #[.pointer (some ⟨b, 0, none⟩), .slice none 0 0, .slice none 0 0, .int .u64 0, .int .u64 0, .int .u64 0] 139) := ⟨_, rfl⟩
  have HS : Aside0 (Kst w w2 p b x N (.slice none 0 0) (.slice none 0 0) 0 0) := ⟨by
    rw [hw2, hp]
    exact ⟨Bk.new w1 139 [.pointer (some ⟨b, 0, none⟩), .slice none 0 0, .slice none 0 0, .int .u64 0, .int .u64 0, .int .u64 0], ⟨s0, s1, sh, hbk.alloc _⟩, below_alloc hb _, hb.size, hbz⟩⟩
  clear hb hbz hbk
  go_wp2
  rw [← hw2, ← hp]
  clear hp hw2
  go_loopw [16] (fun v16 wr => ∃ i : Nat, v16 = .int .i64 i ∧ ((i = 0 ∧ Aside0 (Kst w wr p b x N (.slice none 0 0) (.slice none 0 0) 0 0)) ∨ (i = 1 ∧ ∃ g0 c0, Aside0 (Kst w wr p b x N (.slice (some ⟨g0, 0, none⟩) N c0) (.slice none 0 0) (fv (rut 2 0)) 0) ∧ Aside0 (Mr wr g0 c0 (tb N (pw (rut x 0)))) ∧ Aside0 (w.heap.size ≤ g0)) ∨
    (i = 2 ∧ ∃ g0 c0 g1 c1, Aside0 (Kst w wr p b x N (.slice (some ⟨g0, 0, none⟩) N c0) (.slice (some ⟨g1, 0, none⟩) N c1) (fv (rut 2 0)) (fv (rut 2 1))) ∧ Aside0 (Mr wr g0 c0 (tb N (pw (rut x 0)))) ∧ Aside0 (w.heap.size ≤ g0) ∧ Aside0 (Mr wr g1 c1 (tb N (pw (rut x 1)))) ∧ Aside0 (w.heap.size ≤ g1)))) (fun v16 _ => 2 - (intOf v16).toNat)
  case atStart => exact ⟨0, rfl, .inl ⟨rfl, HS⟩⟩
  case round =>
    clear HS
    obtain ⟨i, rfl, ⟨rfl, HS⟩ | ⟨rfl, g0, c0, HS, HM0, HG0⟩ | ⟨rfl, g0, c0, g1, c1, HS, HM0, HG0, HM1, HG1⟩⟩ := hrel
    · skip
      go_wp2_with fail
      refine start_ (n := 9) (S := fun w' => Aside0 (Kst w w' p b x N (.slice none 0 0) (.slice none 0 0) 0 0)) (ds := [8]) #[false, false, false, false, false, false, false, false, false] (by kernel_rfl) rfl rfl (⟨HS.out.below (below_drew1 (Below.refl _ _))⟩) (fun hHeld => ?_)
      refine pure_ (i := 0) (N := some 19) (v := ?_) (a' := ?_) #[true, false, false, false, false, false, false, false, false] rfl rfl (by kernel_rfl) (fun _ _ _ h => h) (Or.inl ⟨by rfl, ?_⟩) ?_ ?_
      rotate_left
      · intro w'
        go_simp
        with_reducible rfl
      rotate_left
      · simp only [Act.put, List.setIfInBounds_toArray, List.set_cons_zero, List.set_cons_succ, i64_w, i32_w]
        rfl
      refine pure_ (i := 1) (N := some 20) (v := ?_) (a' := ?_) #[true, true, false, false, false, false, false, false, false] rfl rfl (by kernel_rfl) (fun _ _ _ h => h) (Or.inl ⟨by rfl, ?_⟩) ?_ ?_
      rotate_left
      · intro w'
        go_simp
        with_reducible rfl
      rotate_left
      · simp only [Act.put, List.setIfInBounds_toArray, List.set_cons_zero, List.set_cons_succ, i64_w, i32_w]
        rfl
      refine pure_ (i := 2) (N := some 21) (v := ?_) (a' := ?_) #[true, true, true, false, false, false, false, false, false] rfl rfl (by kernel_rfl) (fun _ _ _ h => h) (Or.inl ⟨by rfl, ?_⟩) ?_ ?_
      rotate_left
      · intro w'
        go_simp
        with_reducible rfl
      rotate_left
      · simp only [Act.put, List.setIfInBounds_toArray, List.set_cons_zero, List.set_cons_succ, i64_w, i32_w]
        rfl
      refine pure_ (i := 3) (N := some 22) (v := ?_) (a' := ?_) #[true, true, true, true, false, false, false, false, false] rfl rfl (by kernel_rfl) (fun _ _ _ h => h) (Or.inl ⟨by rfl, ?_⟩) ?_ ?_
      rotate_left
      · intro w'
        go_simp
        with_reducible rfl
      rotate_left
      · simp only [Act.put, List.setIfInBounds_toArray, List.set_cons_zero, List.set_cons_succ, i64_w, i32_w]
        rfl
      refine pure_ (i := 5) (N := some 24) (v := ?_) (a' := ?_) #[true, true, true, true, false, true, false, false, false] rfl rfl (by kernel_rfl) (fun _ _ _ h => h) (Or.inl ⟨by rfl, ?_⟩) ?_ ?_
      rotate_left
      · intro w'
        go_simp
        with_reducible rfl
      rotate_left
      · simp only [Act.put, List.setIfInBounds_toArray, List.set_cons_zero, List.set_cons_succ, i64_w, i32_w]
        rfl
      refine pure_ (i := 6) (N := some 25) (v := ?_) (a' := ?_) #[true, true, true, true, false, true, true, false, false] rfl rfl (by kernel_rfl) (fun _ _ _ h => h) (Or.inl ⟨by rfl, ?_⟩) ?_ ?_
      rotate_left
      · intro w'
        go_simp
        with_reducible rfl
      rotate_left
      · simp only [Act.put, List.setIfInBounds_toArray, List.set_cons_zero, List.set_cons_succ, i64_w, i32_w]
        rfl
      refine one_ (i := 4) (N := some 23) #[true, true, true, true, true, true, true, false, false] rfl rfl (by kernel_rfl) (by decide) (fun K hK => ?_)
      refine goes_ Tryz.func100 (by kernel_rfl) rfl #[.int .i64 (x : Int), .int .i64 0] (by rfl) rfl rfl (by simp only [List.map_toArray, List.map_cons, List.map_nil]; rfl) ?_
      with_reducible refine (kern4_whole.calls n0 (x : Int) 0 _ _ T0.out).mono ?_
      rintro e w4 ⟨v, rfl, hR, hb⟩
      refine ⟨_, rfl, ?_⟩
      obtain ⟨g0, c0, hv, hg, hm⟩ := Mr.of_R hR (by rw [tb_len]; exact hN0)
      rw [tb_len] at hv
      subst hv
      have HM := Aside0.mk hm
      have HG := Aside0.mk (Nat.le_trans hHeld.out.be.size hg)
      have nS : Kst w w4 p b x N (.slice none 0 0) (.slice none 0 0) 0 0 := hHeld.out.below hb
      clear hHeld hb hR hm hg
      refine hK.out _ _ (⟨nS⟩) (fun hHeld => ?_)
      clear hK K
      refine norm_ (a' := ?_) ?_ ?_
      rotate_left
      · show Act.put _ (some 23) _ = _
        simp only [Act.put, List.setIfInBounds_toArray, List.set_cons_zero, List.set_cons_succ, i64_w, i32_w]
        rfl
      refine pure_ (i := 7) (N := some 26) (v := ?_) (a' := ?_) #[true, true, true, true, true, true, true, true, false] rfl rfl (by kernel_rfl) (fun _ _ _ h => h) (Or.inl ⟨by rfl, ?_⟩) ?_ ?_
      rotate_left
      · intro w'
        go_simp
        with_reducible rfl
      rotate_left
      · simp only [Act.put, List.setIfInBounds_toArray, List.set_cons_zero, List.set_cons_succ, i64_w, i32_w]
        rfl
      refine last_ (i := 8) (N := none) #[true, true, true, true, true, true, true, true, true] rfl rfl (by kernel_rfl) (by decide) (fun K hK => ?_)
      have c1_ := hHeld.out.obj.cell 1
      have f1_ := hHeld.out.obj.frozen 1
      have HO := Aside0.mk (hHeld.out.obj.put 1 (.slice (some ⟨g0, 0, none⟩) N c0))
      have HP := Aside0.mk (hHeld.out.put 1 (.slice (some ⟨g0, 0, none⟩) N c0))
      have HM2 := Aside0.mk (HM.out.far p 1 (.slice (some ⟨g0, 0, none⟩) N c0) (Ne.symm (HM.out.ne hHeld.out.obj (by decide))))
      have hz := hHeld.out
      have HZ : Aside0 (w.heap.size ≤ p ∧ w.heap.size ≤ b) := ⟨hz.p, hz.b⟩
      clear hz HM
      refine skip_ (w1 := ?_) (by rfl) rfl ?_ ?_
      rotate_left
      · go_simp
        rfl
      refine hK.out _ _ ?_
      clear hK K
      refine done_ (by kernel_rfl) ?_
      obtain ⟨w5, hw5⟩ : ∃ w5, w5 = w4.setCell ⟨p, 1, none⟩ (.slice (some ⟨g0, 0, none⟩) N c0) := ⟨_, rfl⟩
      rw [← hw5] at HO HP HM2 ⊢
      have HS5 : Aside0 (Kst w w5 p b x N (.slice (some ⟨g0, 0, none⟩) N c0) (.slice none 0 0) 0 0) := ⟨⟨HO.out, HP.out.1, HP.out.2, HZ.out.1, HZ.out.2⟩⟩
      clear hw5 hHeld HO HP HZ
      go_wp2_with fail
      with_reducible refine (kern4_Unit.calls n3 0 _ 0 _ T3.out).mono ?_
      rintro e w6 ⟨rfl, hb⟩
      have HS6 := Aside0.mk (HS5.out.below hb)
      have HM6 := Aside0.mk (HM2.out.below hb)
      have cu := HS6.out.obj.cell 3
      have fu := HS6.out.obj.frozen 3
      clear hb HS5 HM2
      go_wp2
      go_roundw
      case rel => exact ⟨1, by go_num, .inr (.inl ⟨rfl, g0, c0, ⟨⟨HS6.out.obj.put 3 _, (HS6.out.put 3 _).1, (HS6.out.put 3 _).2, HS6.out.p, HS6.out.b⟩⟩, ⟨HM6.out.far p 3 _ (Ne.symm (HM6.out.ne HS6.out.obj (by decide)))⟩, HG⟩)⟩
      case measure => simp [intOf]
    · skip
      go_wp2_with fail
      refine start_ (n := 9) (S := fun w' => Aside0 (Kst w w' p b x N (.slice (some ⟨g0, 0, none⟩) N c0) (.slice none 0 0) (fv (rut 2 0)) 0 ∧ Mr w' g0 c0 (tb N (pw (rut x 0))))) (ds := [8]) #[false, false, false, false, false, false, false, false, false] (by kernel_rfl) rfl rfl (⟨HS.out.below (below_drew1 (Below.refl _ _)), HM0.out.below (below_drew1 (Below.refl _ _))⟩) (fun hHeld => ?_)
      refine pure_ (i := 0) (N := some 19) (v := ?_) (a' := ?_) #[true, false, false, false, false, false, false, false, false] rfl rfl (by kernel_rfl) (fun _ _ _ h => h) (Or.inl ⟨by rfl, ?_⟩) ?_ ?_
      rotate_left
      · intro w'
        go_simp
        with_reducible rfl
      rotate_left
      · simp only [Act.put, List.setIfInBounds_toArray, List.set_cons_zero, List.set_cons_succ, i64_w, i32_w]
        rfl
      refine pure_ (i := 1) (N := some 20) (v := ?_) (a' := ?_) #[true, true, false, false, false, false, false, false, false] rfl rfl (by kernel_rfl) (fun _ _ _ h => h) (Or.inl ⟨by rfl, ?_⟩) ?_ ?_
      rotate_left
      · intro w'
        go_simp
        with_reducible rfl
      rotate_left
      · simp only [Act.put, List.setIfInBounds_toArray, List.set_cons_zero, List.set_cons_succ, i64_w, i32_w]
        rfl
      refine pure_ (i := 2) (N := some 21) (v := ?_) (a' := ?_) #[true, true, true, false, false, false, false, false, false] rfl rfl (by kernel_rfl) (fun _ _ _ h => h) (Or.inl ⟨by rfl, ?_⟩) ?_ ?_
      rotate_left
      · intro w'
        go_simp
        with_reducible rfl
      rotate_left
      · simp only [Act.put, List.setIfInBounds_toArray, List.set_cons_zero, List.set_cons_succ, i64_w, i32_w]
        rfl
      refine pure_ (i := 3) (N := some 22) (v := ?_) (a' := ?_) #[true, true, true, true, false, false, false, false, false] rfl rfl (by kernel_rfl) (fun _ _ _ h => h) (Or.inl ⟨by rfl, ?_⟩) ?_ ?_
      rotate_left
      · intro w'
        go_simp
        with_reducible rfl
      rotate_left
      · simp only [Act.put, List.setIfInBounds_toArray, List.set_cons_zero, List.set_cons_succ, i64_w, i32_w]
        rfl
      refine pure_ (i := 5) (N := some 24) (v := ?_) (a' := ?_) #[true, true, true, true, false, true, false, false, false] rfl rfl (by kernel_rfl) (fun _ _ _ h => h) (Or.inl ⟨by rfl, ?_⟩) ?_ ?_
      rotate_left
      · intro w'
        go_simp
        with_reducible rfl
      rotate_left
      · simp only [Act.put, List.setIfInBounds_toArray, List.set_cons_zero, List.set_cons_succ, i64_w, i32_w]
        rfl
      refine pure_ (i := 6) (N := some 25) (v := ?_) (a' := ?_) #[true, true, true, true, false, true, true, false, false] rfl rfl (by kernel_rfl) (fun _ _ _ h => h) (Or.inl ⟨by rfl, ?_⟩) ?_ ?_
      rotate_left
      · intro w'
        go_simp
        with_reducible rfl
      rotate_left
      · simp only [Act.put, List.setIfInBounds_toArray, List.set_cons_zero, List.set_cons_succ, i64_w, i32_w]
        rfl
      refine one_ (i := 4) (N := some 23) #[true, true, true, true, true, true, true, false, false] rfl rfl (by kernel_rfl) (by decide) (fun K hK => ?_)
      refine goes_ Tryz.func100 (by kernel_rfl) rfl #[.int .i64 (x : Int), .int .i64 1] (by rfl) rfl rfl (by simp only [List.map_toArray, List.map_cons, List.map_nil]; rfl) ?_
      with_reducible refine (kern4_whole.calls n1 (x : Int) 1 _ _ T1.out).mono ?_
      rintro e w4 ⟨v, rfl, hR, hb⟩
      refine ⟨_, rfl, ?_⟩
      obtain ⟨g1, c1, hv, hg, hm⟩ := Mr.of_R hR (by rw [tb_len]; exact hN0)
      rw [tb_len] at hv
      subst hv
      have HM := Aside0.mk hm
      have HG := Aside0.mk (Nat.le_trans hHeld.out.1.be.size hg)
      have nS : Kst w w4 p b x N (.slice (some ⟨g0, 0, none⟩) N c0) (.slice none 0 0) (fv (rut 2 0)) 0 ∧ Mr w4 g0 c0 (tb N (pw (rut x 0))) := ⟨hHeld.out.1.below hb, hHeld.out.2.below hb⟩
      clear hHeld hb hR hm hg
      refine hK.out _ _ (⟨nS⟩) (fun hHeld => ?_)
      clear hK K
      refine norm_ (a' := ?_) ?_ ?_
      rotate_left
      · show Act.put _ (some 23) _ = _
        simp only [Act.put, List.setIfInBounds_toArray, List.set_cons_zero, List.set_cons_succ, i64_w, i32_w]
        rfl
      refine pure_ (i := 7) (N := some 26) (v := ?_) (a' := ?_) #[true, true, true, true, true, true, true, true, false] rfl rfl (by kernel_rfl) (fun _ _ _ h => h) (Or.inl ⟨by rfl, ?_⟩) ?_ ?_
      rotate_left
      · intro w'
        go_simp
        with_reducible rfl
      rotate_left
      · simp only [Act.put, List.setIfInBounds_toArray, List.set_cons_zero, List.set_cons_succ, i64_w, i32_w]
        rfl
      refine last_ (i := 8) (N := none) #[true, true, true, true, true, true, true, true, true] rfl rfl (by kernel_rfl) (by decide) (fun K hK => ?_)
      have c1_ := hHeld.out.1.obj.cell 2
      have f1_ := hHeld.out.1.obj.frozen 2
      have HO := Aside0.mk (hHeld.out.1.obj.put 2 (.slice (some ⟨g1, 0, none⟩) N c1))
      have HP := Aside0.mk (hHeld.out.1.put 2 (.slice (some ⟨g1, 0, none⟩) N c1))
      have HM2 := Aside0.mk (HM.out.far p 2 (.slice (some ⟨g1, 0, none⟩) N c1) (Ne.symm (HM.out.ne hHeld.out.1.obj (by decide))))
      have HM02 := Aside0.mk (hHeld.out.2.far p 2 (.slice (some ⟨g1, 0, none⟩) N c1) (Ne.symm (hHeld.out.2.ne hHeld.out.1.obj (by decide))))
      have hz := hHeld.out.1
      have HZ : Aside0 (w.heap.size ≤ p ∧ w.heap.size ≤ b) := ⟨hz.p, hz.b⟩
      clear hz HM
      refine skip_ (w1 := ?_) (by rfl) rfl ?_ ?_
      rotate_left
      · go_simp
        rfl
      refine hK.out _ _ ?_
      clear hK K
      refine done_ (by kernel_rfl) ?_
      obtain ⟨w5, hw5⟩ : ∃ w5, w5 = w4.setCell ⟨p, 2, none⟩ (.slice (some ⟨g1, 0, none⟩) N c1) := ⟨_, rfl⟩
      rw [← hw5] at HO HP HM2 HM02 ⊢
      have HS5 : Aside0 (Kst w w5 p b x N (.slice (some ⟨g0, 0, none⟩) N c0) (.slice (some ⟨g1, 0, none⟩) N c1) (fv (rut 2 0)) 0) := ⟨⟨HO.out, HP.out.1, HP.out.2, HZ.out.1, HZ.out.2⟩⟩
      clear hw5 hHeld HO HP HZ
      go_wp2_with fail
      with_reducible refine (kern4_Unit.calls n4 1 _ 0 _ T4.out).mono ?_
      rintro e w6 ⟨rfl, hb⟩
      have HS6 := Aside0.mk (HS5.out.below hb)
      have HM6 := Aside0.mk (HM2.out.below hb)
      have HM06 := Aside0.mk (HM02.out.below hb)
      have cu := HS6.out.obj.cell 4
      have fu := HS6.out.obj.frozen 4
      clear hb HS5 HM2
      go_wp2
      go_roundw
      case rel => exact ⟨2, by go_num, .inr (.inr ⟨rfl, g0, c0, g1, c1, ⟨⟨HS6.out.obj.put 4 _, (HS6.out.put 4 _).1, (HS6.out.put 4 _).2, HS6.out.p, HS6.out.b⟩⟩, ⟨HM06.out.far p 4 _ (Ne.symm (HM06.out.ne HS6.out.obj (by decide)))⟩, HG0, ⟨HM6.out.far p 4 _ (Ne.symm (HM6.out.ne HS6.out.obj (by decide)))⟩, HG⟩)⟩
      case measure => simp [intOf]
    · go_wp2_with fail
      with_reducible refine (twid_Share.calls n2 (x : Int) _ 0 _ T2.out).mono ?_
      rintro e w5 ⟨rfl, hb⟩
      have HS5 := Aside0.mk (HS.out.below hb)
      have HM05 := Aside0.mk (HM0.out.below hb)
      have HM15 := Aside0.mk (HM1.out.below hb)
      have c5 := HS5.out.obj.cell 5
      have f5 := HS5.out.obj.frozen 5
      clear hb HS HM0 HM1
      go_wp2
      go_ret
      exact ⟨_, b, g0, c0, g1, c1, rfl, ⟨HN.out, HX.out, HS5.out.obj.put 5 _, (HS5.out.put 5 _).1, HM05.out.far p 5 _ (Ne.symm (HM05.out.ne HS5.out.obj (by decide))), HM15.out.far p 5 _ (Ne.symm (HM15.out.ne HS5.out.obj (by decide)))⟩, (HS5.out.put 5 _).2, HS5.out.p, HS5.out.b, HG0.out, HG1.out⟩
end Go.Proofs.YtpnkcjnemoompaaGreatDoor.Kern
end
