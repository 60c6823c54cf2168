import Derived.Test.YtpnkcjnemoompaaDoorGc1
import Derived.Test.YtpnkcjnemoompaaDoorProg
import Derived.Below
import Derived.Deep.Draws
import Derived.Deep.AppendLies
import Derived.Maps.AppendAt
import Derived.OwnWalk
import Derived.Laws.BytesArg
import Derived.Laws.MakeOwn
import Derived.Laws.OwnMore
import Derived.Deep.OwnRows
import Derived.Tactics
import Derived.Lib.ConvBytes
import Derived.Laws.Slices
import Derived.WalkKit
import Derived.KernelRfl
import Derived.RowKit3
import Derived.Deep.LoopGhost
import Derived.Deep.QuietTactic
import Derived.BigQuiet
import Derived.WideLaws
import Derived.Deep.DeepCutAuto
import Derived.Deep.CutBlock
import Derived.Deep.RegionHeld3
import Derived.Laws.Rows
import Derived.Lib.AppendStr
import Derived.ArgAppend
import Derived.Laws.IdiomCopy
import Derived.RowKit
import Derived.OrdersHeld
import Derived.Laws.BitsLemmas
import Derived.Laws.CopyOwn
import Derived.Lib.Hide
import Derived.Shelf.Spec.TrailingZeros
import Derived.Lib.LaidTab
import Derived.Shelf.Strings.Builder1
import Derived.Shelf.Strings.Builder2
import Derived.Shelf.Strings.OnBuilder
import Derived.Shelf.Strings.BuilderF
import Derived.Shelf.Strings.BuilderK
import Derived.Shelf.Strings.Builder2Cap
import Derived.Shelf.Strconv.Itoa0
import Derived.Shelf.Strconv.Itoa1
import Derived.Shelf.LaysM
import Derived.Shelf.Strconv.Itoa2
import Derived.Shelf.Strconv.Itoa3
import Derived.Shelf.Bits.Mul64
import Derived.Shelf.Strings.BuilderCap
import Derived.Ground.SlgnProg
import Derived.Shelf.SlicesE.Clone
import Derived.Ground.SlgfProg
import Derived.Shelf.SlicesE.IndexFunc
import Derived.Laws.StructEq
import Derived.Shelf.Spec.BitsCarry
import Derived.Laws.BitsAllLaws
import Derived.OpenShut
import Derived.StillTailTactics
import Derived.Outline
import Derived.RegionTactic
import Derived.ChangeAlike
import Derived.BigRegion
/-! Texts of this claim, joined: GrdM. -/
section
namespace Go.Proofs.YtpnkcjnemoompaaDoor.Grid
open Go.RowKit Go.Proofs.YtpnkcjnemoompaaDoor Go.Proofs.YtpnkcjnemoompaaDoor.Ext Go.Proofs.YtpnkcjnemoompaaDoor.PPlan Go.Proofs.YtpnkcjnemoompaaDoor.PFft Go.Proofs.YtpnkcjnemoompaaDoor.Pure Go.Proofs.YtpnkcjnemoompaaDoor.Obj Go.Proofs.YtpnkcjnemoompaaDoor.Fft Go.Proofs.YtpnkcjnemoompaaDoor.Kern Go.Proofs.YtpnkcjnemoompaaDoorW.PrintWords Go.Proofs.YtpnkcjnemoompaaDoorW.PrintLast Go.Proofs.YtpnkcjnemoompaaDoorW.PrintMore
set_option linter.unusedVariables false
set_option linter.unusedSimpArgs false
set_option maxRecDepth 100000
attribute [local go_sem high] eqA23
theorem Gd.keep_g {w w' : World} {p g c q h d : Nat} {R C R2 C2 : Int} {xs ys : List Int} (k : Gd w p g c R C xs) (o : Gd w q h d R2 C2 ys) (hgh : g ≠ h) (hf : Fr w w' [h]) : Gd w' p g c R C xs := k.fr hf (by simpa using o.row.ne k.obj (by decide)) (by simpa using hgh)
theorem shape_keep_g {w w' : World} {q h d b : Nat} {R C R2 C2 : Int} {ys : List Int} (k : Bk w b 23 [.int .i64 R, .int .i64 C]) (o : Gd w q h d R2 C2 ys) (hf : Fr w w' [h]) : Bk w' b 23 [.int .i64 R, .int .i64 C] := k.fr hf (by simpa using o.row.ne k (by decide))
theorem made_any (A : Option Addr) (c : Nat) (l : List Int) (R C : Int) (w : World) (hl : In w A c l) (hW : Ws l) (hT : TabOK w) :
    Calls Tryd.prog 24 #[.agg #[.int .i64 R, .int .i64 C], .slice A l.length c] w fun e w' => ∃ po, e = .returned (.pointer po) ∧ Below w.heap.size w w' := by
  by_cases h : l.length ≤ 64 ∧ GoodS R C ∧ R * C = (l.length : Int)
  · have hp : 0 < l.length := by
      obtain ⟨a, b, hab, ha, hb⟩ := good_ints h.2.1
      have h2 := h.2.2
      rw [ha, hb, ← Int.natCast_mul] at h2
      have h3 : 0 < 2 ^ a * 2 ^ b := Nat.mul_pos (Nat.two_pow_pos a) (Nat.two_pow_pos b)
      omega
    exact (made_yes A c l R C w hl hW h.1 hp h.2.1 h.2.2 hT).mono fun e w' ⟨p, g, cg, he, _, hb, _⟩ => ⟨_, he, hb⟩
  · exact (made_no A c l R C w h hT).mono fun e w' ⟨he, hb⟩ => ⟨_, he, hb⟩
structure Cv (w w' : World) (p1 g1 c1 p2 g2 c2 p3 g3 c3 bs bt : Nat) (R C T0 T1 : Int) (xa xb xc : List Int) : Prop where
  be : Below w.heap.size w w'
  a : Gd w' p1 g1 c1 R C xa
  b : Gd w' p2 g2 c2 R C xb
  c : Gd w' p3 g3 c3 R C xc
  sh : Bk w' bs 23 [.int .i64 R, .int .i64 C]
  st : Bk w' bt 23 [.int .i64 T0, .int .i64 T1]
  ab : g1 ≠ g2
  ac : g1 ≠ g3
  bc : g2 ≠ g3
  la : w.heap.size ≤ g1
  lb : w.heap.size ≤ g2
  lc : w.heap.size ≤ g3
section
variable {w w1 w2 : World} {p1 g1 c1 p2 g2 c2 p3 g3 c3 bs bt : Nat} {R C T0 T1 : Int} {xa xb xc ys : List Int}
theorem Cv.below (k : Cv w w1 p1 g1 c1 p2 g2 c2 p3 g3 c3 bs bt R C T0 T1 xa xb xc) (hb : Below w1.heap.size w1 w2) : Cv w w2 p1 g1 c1 p2 g2 c2 p3 g3 c3 bs bt R C T0 T1 xa xb xc :=
  ⟨below_then k.be k.be.size hb, k.a.below hb, k.b.below hb, k.c.below hb, k.sh.below hb, k.st.below hb, k.ab, k.ac, k.bc, k.la, k.lb, k.lc⟩
theorem Cv.drew (k : Cv w w1 p1 g1 c1 p2 g2 c2 p3 g3 c3 bs bt R C T0 T1 xa xb xc) : Cv w w1.drew p1 g1 c1 p2 g2 c2 p3 g3 c3 bs bt R C T0 T1 xa xb xc := k.below (below_drew1 (Below.refl _ _))
theorem Cv.fa (k : Cv w w1 p1 g1 c1 p2 g2 c2 p3 g3 c3 bs bt R C T0 T1 xa xb xc) (hf : Fr w1 w2 [g1]) (hn : Gd w2 p1 g1 c1 R C ys) : Cv w w2 p1 g1 c1 p2 g2 c2 p3 g3 c3 bs bt R C T0 T1 ys xb xc :=
  ⟨k.be.trans (hf.below (B := w.heap.size) k.be.size (by simpa using k.la)), hn, k.b.keep_g k.a (Ne.symm k.ab) hf, k.c.keep_g k.a (Ne.symm k.ac) hf, shape_keep_g k.sh k.a hf, shape_keep_g k.st k.a hf, k.ab, k.ac, k.bc, k.la, k.lb, k.lc⟩
theorem Cv.fb (k : Cv w w1 p1 g1 c1 p2 g2 c2 p3 g3 c3 bs bt R C T0 T1 xa xb xc) (hf : Fr w1 w2 [g2]) (hn : Gd w2 p2 g2 c2 R C ys) : Cv w w2 p1 g1 c1 p2 g2 c2 p3 g3 c3 bs bt R C T0 T1 xa ys xc :=
  ⟨k.be.trans (hf.below (B := w.heap.size) k.be.size (by simpa using k.lb)), k.a.keep_g k.b k.ab hf, hn, k.c.keep_g k.b (Ne.symm k.bc) hf, shape_keep_g k.sh k.b hf, shape_keep_g k.st k.b hf, k.ab, k.ac, k.bc, k.la, k.lb, k.lc⟩
theorem Cv.fc (k : Cv w w1 p1 g1 c1 p2 g2 c2 p3 g3 c3 bs bt R C T0 T1 xa xb xc) (hf : Fr w1 w2 [g3]) (hn : Gd w2 p3 g3 c3 R C ys) : Cv w w2 p1 g1 c1 p2 g2 c2 p3 g3 c3 bs bt R C T0 T1 xa xb ys :=
  ⟨k.be.trans (hf.below (B := w.heap.size) k.be.size (by simpa using k.lc)), k.a.keep_g k.c k.ac hf, k.b.keep_g k.c k.bc hf, hn, shape_keep_g k.sh k.c hf, shape_keep_g k.st k.c hf, k.ab, k.ac, k.bc, k.la, k.lb, k.lc⟩
end
theorem cv_calls {R C a b n : Nat} (h : Sh R C a b n) (A B : Option Addr) (c e0 : Nat) (l q : List Int) (w : World) (hl : In w A c l) (hq : In w B e0 q) (hW : Ws l) (hV : Ws q) (hn : l.length = n) (hm : q.length = n) :
    Calls Tryd.prog 27 #[.slice A n c, .slice B n e0, .agg #[.int .i64 (R : Int), .int .i64 (C : Int)]] w fun e w' => ∃ D d, e = .returned (.slice D n d) ∧ In w' D d (tb n (cv2 a b (el l) (el q))) ∧ Below w.heap.size w w' := by
  obtain ⟨k, hk⟩ := (rConv h l q hW hV hn hm).rounds
  have hc := abacistref32_Convolve.calls k A c l B e0 q (R : Int) (C : Int) _ w hl.r hl.c hq.r hq.c hk
  rw [hn, hm] at hc
  refine hc.mono ?_
  rintro e w1 ⟨v, rfl, hR, hb⟩
  obtain ⟨D, d, hv, hld, hcd⟩ := Kd.R_reads hR
  subst hv
  rw [tb_len]
  exact ⟨D, d, rfl, In.mk hcd hld, hb⟩
theorem canon_n (A : Option Addr) (c : Nat) (l : List Int) (n : Nat) (w : World) (hl : In w A c l) (hW : Ws l) (hL : n ≤ 1048576) (hn : l.length = n) :
    Calls Tryd.prog 21 #[.slice A n c] w fun e w' => ∃ B d, e = .returned (.slice B n d) ∧ In w' B d (can l) ∧ Below w.heap.size w w' := by
  subst hn
  exact canon_calls A c l w hl hW hL
theorem words_n (p g c n : Nat) (R C : Int) (xs : List Int) (w : World) (h : Gd w p g c R C xs) (hn : xs.length = n) (hp : 0 < n) (hL : n ≤ 1048576) :
    Calls Tryd.prog 20 #[.pointer (some ⟨p, 0, none⟩)] w fun e w' => ∃ h d, e = .returned (.slice (some ⟨h, 0, none⟩) n d) ∧ In w' (some ⟨h, 0, none⟩) d xs ∧ Below w.heap.size w w' := by
  subst hn
  exact (gwords p g c R C xs w h hp hL).mono fun e w' ⟨h, d, he, hm, hb, _⟩ => ⟨h, d, he, In.of_mr hm (by omega), hb⟩
theorem made_n (A : Option Addr) (c : Nat) (l : List Int) (n : Nat) (R C : Int) (w : World) (hl : In w A c l) (hW : Ws l) (hn : l.length = n) (hL : n ≤ 64) (hp : 0 < n) (hg : GoodS R C) (hs : R * C = (n : Int)) (hT : TabOK w) :
    Calls Tryd.prog 24 #[.agg #[.int .i64 R, .int .i64 C], .slice A n c] w fun e w' => ∃ p g cg, e = .returned (.pointer (some ⟨p, 0, none⟩)) ∧ Gd w' p g cg R C (can l) ∧ Below w.heap.size w w' ∧ w.heap.size ≤ p ∧ w.heap.size ≤ g := by
  subst hn
  exact made_yes A c l R C w hl hW hL hp hg hs hT
set_option maxHeartbeats 8000000 in
theorem cv_nil1 (A B : Option Addr) (c e0 : Nat) (l q : List Int) (R C T0 T1 : Int) (w : World) (hl : In w A c l) (hq : In w B e0 q) (hWl : Ws l) (hWq : Ws q) (h : ¬ (l.length ≤ 64 ∧ GoodS R C ∧ R * C = (l.length : Int))) (hT : TabOK w) :
    Calls Tryd.prog 4 #[.agg #[.int .i64 R, .int .i64 C], .slice A l.length c, .slice B q.length e0, .agg #[.int .i64 T0, .int .i64 T1]] w fun e w' => e = .returned (.bool true) ∧ Below w.heap.size w w' := by
  have HWl := Aside0.mk hWl
  have HWq := Aside0.mk hWq
  have HN := Aside0.mk h
  clear hWl hWq h
  have hw2 : Below w.heap.size w ((w.alloc (.cells #[.int .i64 R, .int .i64 C] 23)).alloc (.cells #[.int .i64 T0, .int .i64 T1] 23)) ∧ Bk ((w.alloc (.cells #[.int .i64 R, .int .i64 C] 23)).alloc (.cells #[.int .i64 T0, .int .i64 T1] 23)) w.heap.size 23 [.int .i64 R, .int .i64 C] ∧ Bk ((w.alloc (.cells #[.int .i64 R, .int .i64 C] 23)).alloc (.cells #[.int .i64 T0, .int .i64 T1] 23)) (w.heap.size + 1) 23 [.int .i64 T0, .int .i64 T1] := by
    have e1 := Bk.new w 23 [.int .i64 R, .int .i64 C]
    have e2 := Bk.new (w.alloc (.cells #[.int .i64 R, .int .i64 C] 23)) 23 [.int .i64 T0, .int .i64 T1]
    simp only [World.size_alloc] at e2
    exact ⟨below_alloc (below_alloc (Below.refl w.heap.size w) _) _, e1.alloc _, e2⟩
  have HW2 := Aside0.mk hw2
  have HT0 := Aside0.mk hT
  have HL0 := Aside0.mk hl
  have HQ0 := Aside0.mk hq
  clear hw2 hT hl hq
  go_enter Tryd.func4, Tryd.ntmps4
  go_wp2_with fail
  obtain ⟨W0, hW0⟩ : ∃ W0, W0 = (w.alloc (.cells #[.int .i64 R, .int .i64 C] 23)).alloc (.cells #[.int .i64 T0, .int .i64 T1] 23) := ⟨_, rfl⟩
  rw [← hW0] at HW2 ⊢
  obtain ⟨bs, hbs⟩ : ∃ b, b = w.heap.size := ⟨_, rfl⟩
  obtain ⟨bt, hbt⟩ : ∃ b, b = w.heap.size + 1 := ⟨_, rfl⟩
  have HB0 := Aside0.mk HW2.out.1
  have HS0 := Aside0.mk HW2.out.2.1
  have HU0 := Aside0.mk HW2.out.2.2
  rw [← hbs] at HS0
  rw [← hbt] at HU0
  clear HW2
  rw [← hbt, ← hbs]
  clear hW0 hbs hbt
  with_reducible refine (gawake _ (HT0.out.below HB0.out)).mono ?_
  rintro e w1 ⟨rfl, hb⟩
  have HB1 := Aside0.mk (below_then HB0.out HB0.out.size hb)
  have HS1 := Aside0.mk (HS0.out.below hb)
  have HU1 := Aside0.mk (HU0.out.below hb)
  clear hb HB0 HS0 HU0
  go_wp2_with fail
  refine start_ (n := 12) (S := fun w' => w'.cell? ⟨bs, 0, none⟩ = some (.int .i64 R) ∧ w'.cell? ⟨bs, 1, none⟩ = some (.int .i64 C) ∧ Aside0 (Below w.heap.size w w' ∧ Bk w' bs 23 [.int .i64 R, .int .i64 C] ∧ Bk w' bt 23 [.int .i64 T0, .int .i64 T1])) (ds := []) #[false, false, false, false, false, false, false, false, false, false, false, false] (by kernel_rfl) rfl rfl ⟨HS1.out.drew.cell 0, HS1.out.drew.cell 1, ⟨below_drew1 HB1.out, HS1.out.drew, HU1.out.drew⟩⟩ (fun hHeld => ?_)
  refine pure_ (i := 1) (N := some 18) (v := ?_) (a' := ?_) #[false, true, false, false, false, false, false, false, false, false, false, false] rfl rfl (by kernel_rfl) (fun _ _ _ h => h) (Or.inl ⟨by rfl, ?_⟩) ?_ ?_
  rotate_left
  · intro w'
    go_simp
    with_reducible rfl
  rotate_left
  · simp only [Act.put, List.setIfInBounds_toArray, List.set_cons_zero, List.set_cons_succ, i64_w, i32_w]
    rfl
  refine pure_ (i := 4) (N := some 21) (v := ?_) (a' := ?_) #[false, true, false, false, true, false, false, false, false, false, false, false] rfl rfl (by kernel_rfl) (fun _ _ _ h => h) (Or.inl ⟨by rfl, ?_⟩) ?_ ?_
  rotate_left
  · intro w'
    go_simp
    with_reducible rfl
  rotate_left
  · simp only [Act.put, List.setIfInBounds_toArray, List.set_cons_zero, List.set_cons_succ, i64_w, i32_w]
    rfl
  refine pure_ (i := 7) (N := some 24) (v := ?_) (a' := ?_) #[false, true, false, false, true, false, false, true, false, false, false, false] rfl rfl (by kernel_rfl) (fun _ _ _ h => h) (Or.inl ⟨by rfl, ?_⟩) ?_ ?_
  rotate_left
  · intro w'
    go_simp
    with_reducible rfl
  rotate_left
  · simp only [Act.put, List.setIfInBounds_toArray, List.set_cons_zero, List.set_cons_succ, i64_w, i32_w]
    rfl
  refine take_ (i := 0) (N := some 17) (v := ?_) (a' := ?_) #[true, true, false, false, true, false, false, true, false, false, false, false] rfl rfl (by kernel_rfl) (fun _ _ _ h => h) (Or.inl ⟨by rfl, ?_⟩) hHeld ?_ ?_
  rotate_left
  · rintro w' ⟨s0, s1, s2⟩
    go_simp
    with_reducible rfl
  rotate_left
  · simp only [Act.put, List.setIfInBounds_toArray, List.set_cons_zero, List.set_cons_succ, i64_w, i32_w]
    rfl
  refine take_ (i := 3) (N := some 20) (v := ?_) (a' := ?_) #[true, true, false, true, true, false, false, true, false, false, false, false] rfl rfl (by kernel_rfl) (fun _ _ _ h => h) (Or.inl ⟨by rfl, ?_⟩) hHeld ?_ ?_
  rotate_left
  · rintro w' ⟨s0, s1, s2⟩
    go_simp
    with_reducible rfl
  rotate_left
  · simp only [Act.put, List.setIfInBounds_toArray, List.set_cons_zero, List.set_cons_succ, i64_w, i32_w]
    rfl
  refine take_ (i := 6) (N := some 23) (v := ?_) (a' := ?_) #[true, true, false, true, true, false, true, true, false, false, false, false] rfl rfl (by kernel_rfl) (fun _ _ _ h => h) (Or.inl ⟨by rfl, ?_⟩) hHeld ?_ ?_
  rotate_left
  · rintro w' ⟨s0, s1, s2⟩
    go_simp
    with_reducible rfl
  rotate_left
  · simp only [Act.put, List.setIfInBounds_toArray, List.set_cons_zero, List.set_cons_succ, i64_w, i32_w]
    rfl
  refine one_ (i := 2) (N := some 19) #[true, true, true, true, true, false, true, true, false, false, false, false] rfl rfl (by kernel_rfl) (by decide) (fun K hK => ?_)
  refine goes_ Tryd.func24 (by kernel_rfl) rfl #[.agg #[.int .i64 R, .int .i64 C], .slice A l.length c] (by rfl) rfl rfl (by simp only [List.map_toArray, List.map_cons, List.map_nil]; rfl) ?_
  with_reducible refine (made_no A c l R C _ HN.out (HT0.out.below hHeld.2.2.out.1)).mono ?_
  rintro e w2 ⟨rfl, hb⟩
  refine ⟨_, rfl, ?_⟩
  have nB := below_then hHeld.2.2.out.1 hHeld.2.2.out.1.size hb
  have nS := hHeld.2.2.out.2.1.below hb
  have nU := hHeld.2.2.out.2.2.below hb
  clear hHeld hb
  refine hK.out _ _ ⟨nS.cell 0, nS.cell 1, ⟨nB, nS, nU⟩⟩ (fun hHeld => ?_)
  clear hK K
  refine norm_ (a' := ?_) ?_ ?_
  rotate_left
  · show Act.put _ (some 19) _ = _
    simp only [Act.put, List.setIfInBounds_toArray, List.set_cons_zero, List.set_cons_succ, i64_w, i32_w]
    rfl
  refine one_ (i := 5) (N := some 22) #[true, true, true, true, true, true, true, true, false, false, false, false] rfl rfl (by kernel_rfl) (by decide) (fun K hK => ?_)
  refine goes_ Tryd.func24 (by kernel_rfl) rfl #[.agg #[.int .i64 R, .int .i64 C], .slice B q.length e0] (by rfl) rfl rfl (by simp only [List.map_toArray, List.map_cons, List.map_nil]; rfl) ?_
  with_reducible refine (made_any B e0 q R C _ (HQ0.out.below hHeld.2.2.out.1) HWq.out (HT0.out.below hHeld.2.2.out.1)).mono ?_
  rintro e w3 ⟨p2, rfl, hb⟩
  refine ⟨_, rfl, ?_⟩
  have nB := below_then hHeld.2.2.out.1 hHeld.2.2.out.1.size hb
  have nS := hHeld.2.2.out.2.1.below hb
  have nU := hHeld.2.2.out.2.2.below hb
  clear hHeld hb
  refine hK.out _ _ ⟨nS.cell 0, nS.cell 1, ⟨nB, nS, nU⟩⟩ (fun hHeld => ?_)
  clear hK K
  refine norm_ (a' := ?_) ?_ ?_
  rotate_left
  · show Act.put _ (some 22) _ = _
    simp only [Act.put, List.setIfInBounds_toArray, List.set_cons_zero, List.set_cons_succ, i64_w, i32_w]
    rfl
  refine one_ (i := 8) (N := some 25) #[true, true, true, true, true, true, true, true, true, false, false, false] rfl rfl (by kernel_rfl) (by decide) (fun K hK => ?_)
  refine goes_ Tryd.func24 (by kernel_rfl) rfl #[.agg #[.int .i64 R, .int .i64 C], .slice A l.length c] (by rfl) rfl rfl (by simp only [List.map_toArray, List.map_cons, List.map_nil]; rfl) ?_
  with_reducible refine (made_no A c l R C _ HN.out (HT0.out.below hHeld.2.2.out.1)).mono ?_
  rintro e w4 ⟨rfl, hb⟩
  refine ⟨_, rfl, ?_⟩
  have nB := below_then hHeld.2.2.out.1 hHeld.2.2.out.1.size hb
  have nS := hHeld.2.2.out.2.1.below hb
  have nU := hHeld.2.2.out.2.2.below hb
  clear hHeld hb
  refine hK.out _ _ ⟨nS.cell 0, nS.cell 1, ⟨nB, nS, nU⟩⟩ (fun hHeld => ?_)
  clear hK K
  refine norm_ (a' := ?_) ?_ ?_
  rotate_left
  · show Act.put _ (some 25) _ = _
    simp only [Act.put, List.setIfInBounds_toArray, List.set_cons_zero, List.set_cons_succ, i64_w, i32_w]
    rfl
  refine pure_ (i := 9) (N := some 9) (v := ?_) (a' := ?_) #[true, true, true, true, true, true, true, true, true, true, false, false] rfl rfl (by kernel_rfl) (fun _ _ _ h => h) (Or.inl ⟨by rfl, ?_⟩) ?_ ?_
  rotate_left
  · intro w'
    go_simp
    with_reducible rfl
  rotate_left
  · simp only [Act.put, List.setIfInBounds_toArray, List.set_cons_zero, List.set_cons_succ, i64_w, i32_w]
    rfl
  refine pure_ (i := 10) (N := some 10) (v := ?_) (a' := ?_) #[true, true, true, true, true, true, true, true, true, true, true, false] rfl rfl (by kernel_rfl) (fun _ _ _ h => h) (Or.inl ⟨by rfl, ?_⟩) ?_ ?_
  rotate_left
  · intro w'
    go_simp
    with_reducible rfl
  rotate_left
  · simp only [Act.put, List.setIfInBounds_toArray, List.set_cons_zero, List.set_cons_succ, i64_w, i32_w]
    rfl
  refine pure_ (i := 11) (N := some 11) (v := ?_) (a' := ?_) #[true, true, true, true, true, true, true, true, true, true, true, true] rfl rfl (by kernel_rfl) (fun _ _ _ h => h) (Or.inl ⟨by rfl, ?_⟩) ?_ ?_
  rotate_left
  · intro w'
    go_simp
    with_reducible rfl
  rotate_left
  · simp only [Act.put, List.setIfInBounds_toArray, List.set_cons_zero, List.set_cons_succ, i64_w, i32_w]
    rfl
  refine done_ (by kernel_rfl) ?_
  clear hHeld
  have HB4 := Aside0.mk nB
  have HU4 := Aside0.mk nU
  clear nB nS nU HS1 HB1 HU1
  go_wp2_with fail
  refine start_ (n := 4) (S := fun w' => w'.cell? ⟨bt, 0, none⟩ = some (.int .i64 T0) ∧ w'.cell? ⟨bt, 1, none⟩ = some (.int .i64 T1) ∧ Aside0 (Below w.heap.size w w' ∧ Bk w' bt 23 [.int .i64 T0, .int .i64 T1])) (ds := []) #[false, false, false, false] (by kernel_rfl) rfl rfl ⟨HU4.out.drew.cell 0, HU4.out.drew.cell 1, ⟨below_drew1 HB4.out, HU4.out.drew⟩⟩ (fun hHeld => ?_)
  refine take_ (i := 0) (N := some 26) (v := ?_) (a' := ?_) #[true, false, false, false] rfl rfl (by kernel_rfl) (fun _ _ _ h => h) (Or.inl ⟨by rfl, ?_⟩) hHeld ?_ ?_
  rotate_left
  · rintro w' ⟨s0, s1, s2⟩
    go_simp
    with_reducible rfl
  rotate_left
  · simp only [Act.put, List.setIfInBounds_toArray, List.set_cons_zero, List.set_cons_succ, i64_w, i32_w]
    rfl
  refine one_ (i := 1) (N := some 27) #[true, true, false, false] rfl rfl (by kernel_rfl) (by decide) (fun K hK => ?_)
  refine make_step 24 _ _ 4 (by rfl) rfl rfl rfl rfl (by kernel_rfl) info_u64 (by decide) ?_
  intro w5 hrow hb hsz
  have nB := below_then hHeld.2.2.out.1 hHeld.2.2.out.1.size hb
  have nU := hHeld.2.2.out.2.below hb
  have HR5 := Aside0.mk (show In w5 _ 4 (List.replicate 4 (0 : Int)) from In.of_mr (Mr.of_rw hrow) (by decide))
  clear hHeld hb hrow hsz
  refine hK.out _ _ ⟨nU.cell 0, nU.cell 1, ⟨nB, nU⟩⟩ (fun hHeld => ?_)
  clear hK K
  refine norm_ (a' := ?_) ?_ ?_
  rotate_left
  · show Act.put _ (some 27) _ = _
    simp only [Act.put, List.setIfInBounds_toArray, List.set_cons_zero, List.set_cons_succ, i64_w, i32_w]
    rfl
  refine one_ (i := 2) (N := some 28) #[true, true, true, false] rfl rfl (by kernel_rfl) (by decide) (fun K hK => ?_)
  have hcm := made_any _ 4 (List.replicate 4 (0 : Int)) T0 T1 _ HR5.out (Ws.of (by decide)) (HT0.out.below hHeld.2.2.out.1)
  rw [show (List.replicate 4 (0 : Int)).length = 4 from rfl] at hcm
  refine goes_ Tryd.func24 (by kernel_rfl) rfl #[.agg #[.int .i64 T0, .int .i64 T1], .slice (some ⟨w4.drew.heap.size, 0, none⟩) 4 4] (by rfl) rfl rfl (by simp only [List.map_toArray, List.map_cons, List.map_nil]; rfl) ?_
  with_reducible refine (hcm).mono ?_
  rintro e w6 ⟨po, rfl, hb⟩
  refine ⟨_, rfl, ?_⟩
  clear hcm
  have nB := below_then hHeld.2.2.out.1 hHeld.2.2.out.1.size hb
  have nU := hHeld.2.2.out.2.below hb
  have HB6 := Aside0.mk nB
  clear hHeld hb
  refine hK.out _ _ ⟨nU.cell 0, nU.cell 1, ⟨nB, nU⟩⟩ (fun hHeld => ?_)
  clear hK K
  refine norm_ (a' := ?_) ?_ ?_
  rotate_left
  · show Act.put _ (some 28) _ = _
    simp only [Act.put, List.setIfInBounds_toArray, List.set_cons_zero, List.set_cons_succ, i64_w, i32_w]
    rfl
  refine pure_ (i := 3) (N := some 12) (v := ?_) (a' := ?_) #[true, true, true, true] rfl rfl (by kernel_rfl) (fun _ _ _ h => h) (Or.inl ⟨by rfl, ?_⟩) ?_ ?_
  rotate_left
  · intro w'
    go_simp
    with_reducible rfl
  rotate_left
  · simp only [Act.put, List.setIfInBounds_toArray, List.set_cons_zero, List.set_cons_succ, i64_w, i32_w]
    rfl
  refine done_ (by kernel_rfl) ?_
  clear hHeld
  go_wp2
  go_ret
  exact ⟨rfl, HB6.out⟩
set_option maxHeartbeats 8000000 in
theorem cv_nil2 (A B : Option Addr) (c e0 : Nat) (l q : List Int) (R C T0 T1 : Int) (w : World) (hl : In w A c l) (hq : In w B e0 q) (hWl : Ws l) (hWq : Ws q) (h1 : l.length ≤ 64 ∧ GoodS R C ∧ R * C = (l.length : Int)) (h2 : ¬ (q.length ≤ 64 ∧ GoodS R C ∧ R * C = (q.length : Int))) (hT : TabOK w) :
    Calls Tryd.prog 4 #[.agg #[.int .i64 R, .int .i64 C], .slice A l.length c, .slice B q.length e0, .agg #[.int .i64 T0, .int .i64 T1]] w fun e w' => e = .returned (.bool true) ∧ Below w.heap.size w w' := by
  have HWl := Aside0.mk hWl
  have HWq := Aside0.mk hWq
  have hp : 0 < l.length := by
    obtain ⟨a, b, hab, ha, hb⟩ := good_ints h1.2.1
    have h2 := h1.2.2
    rw [ha, hb, ← Int.natCast_mul] at h2
    have h3 : 0 < 2 ^ a * 2 ^ b := Nat.mul_pos (Nat.two_pow_pos a) (Nat.two_pow_pos b)
    omega
  have HK := Aside0.mk h1
  have HN := Aside0.mk h2
  clear hWl hWq h1 h2
  have hw2 : Below w.heap.size w ((w.alloc (.cells #[.int .i64 R, .int .i64 C] 23)).alloc (.cells #[.int .i64 T0, .int .i64 T1] 23)) ∧ Bk ((w.alloc (.cells #[.int .i64 R, .int .i64 C] 23)).alloc (.cells #[.int .i64 T0, .int .i64 T1] 23)) w.heap.size 23 [.int .i64 R, .int .i64 C] ∧ Bk ((w.alloc (.cells #[.int .i64 R, .int .i64 C] 23)).alloc (.cells #[.int .i64 T0, .int .i64 T1] 23)) (w.heap.size + 1) 23 [.int .i64 T0, .int .i64 T1] := by
    have e1 := Bk.new w 23 [.int .i64 R, .int .i64 C]
    have e2 := Bk.new (w.alloc (.cells #[.int .i64 R, .int .i64 C] 23)) 23 [.int .i64 T0, .int .i64 T1]
    simp only [World.size_alloc] at e2
    exact ⟨below_alloc (below_alloc (Below.refl w.heap.size w) _) _, e1.alloc _, e2⟩
  have HW2 := Aside0.mk hw2
  have HT0 := Aside0.mk hT
  have HL0 := Aside0.mk hl
  have HQ0 := Aside0.mk hq
  clear hw2 hT hl hq
  go_enter Tryd.func4, Tryd.ntmps4
  go_wp2_with fail
  obtain ⟨W0, hW0⟩ : ∃ W0, W0 = (w.alloc (.cells #[.int .i64 R, .int .i64 C] 23)).alloc (.cells #[.int .i64 T0, .int .i64 T1] 23) := ⟨_, rfl⟩
  rw [← hW0] at HW2 ⊢
  obtain ⟨bs, hbs⟩ : ∃ b, b = w.heap.size := ⟨_, rfl⟩
  obtain ⟨bt, hbt⟩ : ∃ b, b = w.heap.size + 1 := ⟨_, rfl⟩
  have HB0 := Aside0.mk HW2.out.1
  have HS0 := Aside0.mk HW2.out.2.1
  have HU0 := Aside0.mk HW2.out.2.2
  rw [← hbs] at HS0
  rw [← hbt] at HU0
  clear HW2
  rw [← hbt, ← hbs]
  clear hW0 hbs hbt
  with_reducible refine (gawake _ (HT0.out.below HB0.out)).mono ?_
  rintro e w1 ⟨rfl, hb⟩
  have HB1 := Aside0.mk (below_then HB0.out HB0.out.size hb)
  have HS1 := Aside0.mk (HS0.out.below hb)
  have HU1 := Aside0.mk (HU0.out.below hb)
  clear hb HB0 HS0 HU0
  go_wp2_with fail
  refine start_ (n := 12) (S := fun w' => w'.cell? ⟨bs, 0, none⟩ = some (.int .i64 R) ∧ w'.cell? ⟨bs, 1, none⟩ = some (.int .i64 C) ∧ Aside0 (Below w.heap.size w w' ∧ Bk w' bs 23 [.int .i64 R, .int .i64 C] ∧ Bk w' bt 23 [.int .i64 T0, .int .i64 T1])) (ds := []) #[false, false, false, false, false, false, false, false, false, false, false, false] (by kernel_rfl) rfl rfl ⟨HS1.out.drew.cell 0, HS1.out.drew.cell 1, ⟨below_drew1 HB1.out, HS1.out.drew, HU1.out.drew⟩⟩ (fun hHeld => ?_)
  refine pure_ (i := 1) (N := some 18) (v := ?_) (a' := ?_) #[false, true, false, false, false, false, false, false, false, false, false, false] rfl rfl (by kernel_rfl) (fun _ _ _ h => h) (Or.inl ⟨by rfl, ?_⟩) ?_ ?_
  rotate_left
  · intro w'
    go_simp
    with_reducible rfl
  rotate_left
  · simp only [Act.put, List.setIfInBounds_toArray, List.set_cons_zero, List.set_cons_succ, i64_w, i32_w]
    rfl
  refine pure_ (i := 4) (N := some 21) (v := ?_) (a' := ?_) #[false, true, false, false, true, false, false, false, false, false, false, false] rfl rfl (by kernel_rfl) (fun _ _ _ h => h) (Or.inl ⟨by rfl, ?_⟩) ?_ ?_
  rotate_left
  · intro w'
    go_simp
    with_reducible rfl
  rotate_left
  · simp only [Act.put, List.setIfInBounds_toArray, List.set_cons_zero, List.set_cons_succ, i64_w, i32_w]
    rfl
  refine pure_ (i := 7) (N := some 24) (v := ?_) (a' := ?_) #[false, true, false, false, true, false, false, true, false, false, false, false] rfl rfl (by kernel_rfl) (fun _ _ _ h => h) (Or.inl ⟨by rfl, ?_⟩) ?_ ?_
  rotate_left
  · intro w'
    go_simp
    with_reducible rfl
  rotate_left
  · simp only [Act.put, List.setIfInBounds_toArray, List.set_cons_zero, List.set_cons_succ, i64_w, i32_w]
    rfl
  refine take_ (i := 0) (N := some 17) (v := ?_) (a' := ?_) #[true, true, false, false, true, false, false, true, false, false, false, false] rfl rfl (by kernel_rfl) (fun _ _ _ h => h) (Or.inl ⟨by rfl, ?_⟩) hHeld ?_ ?_
  rotate_left
  · rintro w' ⟨s0, s1, s2⟩
    go_simp
    with_reducible rfl
  rotate_left
  · simp only [Act.put, List.setIfInBounds_toArray, List.set_cons_zero, List.set_cons_succ, i64_w, i32_w]
    rfl
  refine take_ (i := 3) (N := some 20) (v := ?_) (a' := ?_) #[true, true, false, true, true, false, false, true, false, false, false, false] rfl rfl (by kernel_rfl) (fun _ _ _ h => h) (Or.inl ⟨by rfl, ?_⟩) hHeld ?_ ?_
  rotate_left
  · rintro w' ⟨s0, s1, s2⟩
    go_simp
    with_reducible rfl
  rotate_left
  · simp only [Act.put, List.setIfInBounds_toArray, List.set_cons_zero, List.set_cons_succ, i64_w, i32_w]
    rfl
  refine take_ (i := 6) (N := some 23) (v := ?_) (a' := ?_) #[true, true, false, true, true, false, true, true, false, false, false, false] rfl rfl (by kernel_rfl) (fun _ _ _ h => h) (Or.inl ⟨by rfl, ?_⟩) hHeld ?_ ?_
  rotate_left
  · rintro w' ⟨s0, s1, s2⟩
    go_simp
    with_reducible rfl
  rotate_left
  · simp only [Act.put, List.setIfInBounds_toArray, List.set_cons_zero, List.set_cons_succ, i64_w, i32_w]
    rfl
  refine one_ (i := 2) (N := some 19) #[true, true, true, true, true, false, true, true, false, false, false, false] rfl rfl (by kernel_rfl) (by decide) (fun K hK => ?_)
  refine goes_ Tryd.func24 (by kernel_rfl) rfl #[.agg #[.int .i64 R, .int .i64 C], .slice A l.length c] (by rfl) rfl rfl (by simp only [List.map_toArray, List.map_cons, List.map_nil]; rfl) ?_
  with_reducible refine (made_yes A c l R C _ (HL0.out.below hHeld.2.2.out.1) HWl.out HK.out.1 hp HK.out.2.1 HK.out.2.2 (HT0.out.below hHeld.2.2.out.1)).mono ?_
  rintro e w2 ⟨p1, g1, c1, rfl, _, hb, _, _⟩
  refine ⟨_, rfl, ?_⟩
  have nB := below_then hHeld.2.2.out.1 hHeld.2.2.out.1.size hb
  have nS := hHeld.2.2.out.2.1.below hb
  have nU := hHeld.2.2.out.2.2.below hb
  clear hHeld hb
  refine hK.out _ _ ⟨nS.cell 0, nS.cell 1, ⟨nB, nS, nU⟩⟩ (fun hHeld => ?_)
  clear hK K
  refine norm_ (a' := ?_) ?_ ?_
  rotate_left
  · show Act.put _ (some 19) _ = _
    simp only [Act.put, List.setIfInBounds_toArray, List.set_cons_zero, List.set_cons_succ, i64_w, i32_w]
    rfl
  refine one_ (i := 5) (N := some 22) #[true, true, true, true, true, true, true, true, false, false, false, false] rfl rfl (by kernel_rfl) (by decide) (fun K hK => ?_)
  refine goes_ Tryd.func24 (by kernel_rfl) rfl #[.agg #[.int .i64 R, .int .i64 C], .slice B q.length e0] (by rfl) rfl rfl (by simp only [List.map_toArray, List.map_cons, List.map_nil]; rfl) ?_
  with_reducible refine (made_no B e0 q R C _ HN.out (HT0.out.below hHeld.2.2.out.1)).mono ?_
  rintro e w3 ⟨rfl, hb⟩
  refine ⟨_, rfl, ?_⟩
  have nB := below_then hHeld.2.2.out.1 hHeld.2.2.out.1.size hb
  have nS := hHeld.2.2.out.2.1.below hb
  have nU := hHeld.2.2.out.2.2.below hb
  clear hHeld hb
  refine hK.out _ _ ⟨nS.cell 0, nS.cell 1, ⟨nB, nS, nU⟩⟩ (fun hHeld => ?_)
  clear hK K
  refine norm_ (a' := ?_) ?_ ?_
  rotate_left
  · show Act.put _ (some 22) _ = _
    simp only [Act.put, List.setIfInBounds_toArray, List.set_cons_zero, List.set_cons_succ, i64_w, i32_w]
    rfl
  refine one_ (i := 8) (N := some 25) #[true, true, true, true, true, true, true, true, true, false, false, false] rfl rfl (by kernel_rfl) (by decide) (fun K hK => ?_)
  refine goes_ Tryd.func24 (by kernel_rfl) rfl #[.agg #[.int .i64 R, .int .i64 C], .slice A l.length c] (by rfl) rfl rfl (by simp only [List.map_toArray, List.map_cons, List.map_nil]; rfl) ?_
  with_reducible refine (made_yes A c l R C _ (HL0.out.below hHeld.2.2.out.1) HWl.out HK.out.1 hp HK.out.2.1 HK.out.2.2 (HT0.out.below hHeld.2.2.out.1)).mono ?_
  rintro e w4 ⟨p3, g3, c3, rfl, _, hb, _, _⟩
  refine ⟨_, rfl, ?_⟩
  have nB := below_then hHeld.2.2.out.1 hHeld.2.2.out.1.size hb
  have nS := hHeld.2.2.out.2.1.below hb
  have nU := hHeld.2.2.out.2.2.below hb
  clear hHeld hb
  refine hK.out _ _ ⟨nS.cell 0, nS.cell 1, ⟨nB, nS, nU⟩⟩ (fun hHeld => ?_)
  clear hK K
  refine norm_ (a' := ?_) ?_ ?_
  rotate_left
  · show Act.put _ (some 25) _ = _
    simp only [Act.put, List.setIfInBounds_toArray, List.set_cons_zero, List.set_cons_succ, i64_w, i32_w]
    rfl
  refine pure_ (i := 9) (N := some 9) (v := ?_) (a' := ?_) #[true, true, true, true, true, true, true, true, true, true, false, false] rfl rfl (by kernel_rfl) (fun _ _ _ h => h) (Or.inl ⟨by rfl, ?_⟩) ?_ ?_
  rotate_left
  · intro w'
    go_simp
    with_reducible rfl
  rotate_left
  · simp only [Act.put, List.setIfInBounds_toArray, List.set_cons_zero, List.set_cons_succ, i64_w, i32_w]
    rfl
  refine pure_ (i := 10) (N := some 10) (v := ?_) (a' := ?_) #[true, true, true, true, true, true, true, true, true, true, true, false] rfl rfl (by kernel_rfl) (fun _ _ _ h => h) (Or.inl ⟨by rfl, ?_⟩) ?_ ?_
  rotate_left
  · intro w'
    go_simp
    with_reducible rfl
  rotate_left
  · simp only [Act.put, List.setIfInBounds_toArray, List.set_cons_zero, List.set_cons_succ, i64_w, i32_w]
    rfl
  refine pure_ (i := 11) (N := some 11) (v := ?_) (a' := ?_) #[true, true, true, true, true, true, true, true, true, true, true, true] rfl rfl (by kernel_rfl) (fun _ _ _ h => h) (Or.inl ⟨by rfl, ?_⟩) ?_ ?_
  rotate_left
  · intro w'
    go_simp
    with_reducible rfl
  rotate_left
  · simp only [Act.put, List.setIfInBounds_toArray, List.set_cons_zero, List.set_cons_succ, i64_w, i32_w]
    rfl
  refine done_ (by kernel_rfl) ?_
  clear hHeld
  have HB4 := Aside0.mk nB
  have HU4 := Aside0.mk nU
  clear nB nS nU HS1 HB1 HU1
  go_wp2_with fail
  refine start_ (n := 4) (S := fun w' => w'.cell? ⟨bt, 0, none⟩ = some (.int .i64 T0) ∧ w'.cell? ⟨bt, 1, none⟩ = some (.int .i64 T1) ∧ Aside0 (Below w.heap.size w w' ∧ Bk w' bt 23 [.int .i64 T0, .int .i64 T1])) (ds := []) #[false, false, false, false] (by kernel_rfl) rfl rfl ⟨HU4.out.drew.cell 0, HU4.out.drew.cell 1, ⟨below_drew1 HB4.out, HU4.out.drew⟩⟩ (fun hHeld => ?_)
  refine take_ (i := 0) (N := some 26) (v := ?_) (a' := ?_) #[true, false, false, false] rfl rfl (by kernel_rfl) (fun _ _ _ h => h) (Or.inl ⟨by rfl, ?_⟩) hHeld ?_ ?_
  rotate_left
  · rintro w' ⟨s0, s1, s2⟩
    go_simp
    with_reducible rfl
  rotate_left
  · simp only [Act.put, List.setIfInBounds_toArray, List.set_cons_zero, List.set_cons_succ, i64_w, i32_w]
    rfl
  refine one_ (i := 1) (N := some 27) #[true, true, false, false] rfl rfl (by kernel_rfl) (by decide) (fun K hK => ?_)
  refine make_step 24 _ _ 4 (by rfl) rfl rfl rfl rfl (by kernel_rfl) info_u64 (by decide) ?_
  intro w5 hrow hb hsz
  have nB := below_then hHeld.2.2.out.1 hHeld.2.2.out.1.size hb
  have nU := hHeld.2.2.out.2.below hb
  have HR5 := Aside0.mk (show In w5 _ 4 (List.replicate 4 (0 : Int)) from In.of_mr (Mr.of_rw hrow) (by decide))
  clear hHeld hb hrow hsz
  refine hK.out _ _ ⟨nU.cell 0, nU.cell 1, ⟨nB, nU⟩⟩ (fun hHeld => ?_)
  clear hK K
  refine norm_ (a' := ?_) ?_ ?_
  rotate_left
  · show Act.put _ (some 27) _ = _
    simp only [Act.put, List.setIfInBounds_toArray, List.set_cons_zero, List.set_cons_succ, i64_w, i32_w]
    rfl
  refine one_ (i := 2) (N := some 28) #[true, true, true, false] rfl rfl (by kernel_rfl) (by decide) (fun K hK => ?_)
  have hcm := made_any _ 4 (List.replicate 4 (0 : Int)) T0 T1 _ HR5.out (Ws.of (by decide)) (HT0.out.below hHeld.2.2.out.1)
  rw [show (List.replicate 4 (0 : Int)).length = 4 from rfl] at hcm
  refine goes_ Tryd.func24 (by kernel_rfl) rfl #[.agg #[.int .i64 T0, .int .i64 T1], .slice (some ⟨w4.drew.heap.size, 0, none⟩) 4 4] (by rfl) rfl rfl (by simp only [List.map_toArray, List.map_cons, List.map_nil]; rfl) ?_
  with_reducible refine (hcm).mono ?_
  rintro e w6 ⟨po, rfl, hb⟩
  refine ⟨_, rfl, ?_⟩
  clear hcm
  have nB := below_then hHeld.2.2.out.1 hHeld.2.2.out.1.size hb
  have nU := hHeld.2.2.out.2.below hb
  have HB6 := Aside0.mk nB
  clear hHeld hb
  refine hK.out _ _ ⟨nU.cell 0, nU.cell 1, ⟨nB, nU⟩⟩ (fun hHeld => ?_)
  clear hK K
  refine norm_ (a' := ?_) ?_ ?_
  rotate_left
  · show Act.put _ (some 28) _ = _
    simp only [Act.put, List.setIfInBounds_toArray, List.set_cons_zero, List.set_cons_succ, i64_w, i32_w]
    rfl
  refine pure_ (i := 3) (N := some 12) (v := ?_) (a' := ?_) #[true, true, true, true] rfl rfl (by kernel_rfl) (fun _ _ _ h => h) (Or.inl ⟨by rfl, ?_⟩) ?_ ?_
  rotate_left
  · intro w'
    go_simp
    with_reducible rfl
  rotate_left
  · simp only [Act.put, List.setIfInBounds_toArray, List.set_cons_zero, List.set_cons_succ, i64_w, i32_w]
    rfl
  refine done_ (by kernel_rfl) ?_
  clear hHeld
  go_wp2
  go_ret
  exact ⟨rfl, HB6.out⟩
set_option maxHeartbeats 16000000 in
theorem cv_yes (A B : Option Addr) (c e0 : Nat) (l q : List Int) (R C a b n : Nat) (T0 T1 : Int) (w : World) (hl : In w A c l) (hq : In w B e0 q) (hWl : Ws l) (hWq : Ws q) (hln : l.length = n) (hqn : q.length = n) (hsh : Sh R C a b n) (HN64 : n ≤ 64) (hT : TabOK w) :
    Calls Tryd.prog 4 #[.agg #[.int .i64 (R : Int), .int .i64 (C : Int)], .slice A n c, .slice B n e0, .agg #[.int .i64 T0, .int .i64 T1]] w fun e w' => e = .returned (.bool true) ∧ Below w.heap.size w w' := by
  have hp : 0 < n := by rw [hsh.pow]; exact Nat.two_pow_pos _
  have hG : GoodS (R : Int) (C : Int) := ⟨a, b, by have := hsh.ab; omega, ⟨by have := hsh.ab; omega, by rw [hsh.r]⟩, ⟨by have := hsh.ab; omega, by rw [hsh.c]⟩⟩
  have HGo := Aside0.mk (show GoodS (R : Int) (C : Int) ∧ (R : Int) * (C : Int) = (n : Int) from ⟨hG, by rw [← Int.natCast_mul, hsh.n]⟩)
  have HSh := Aside0.mk hsh
  have HWl := Aside0.mk hWl
  have HWq := Aside0.mk hWq
  have hcl : (can l).length = n := by rw [can_len, hln]
  have hcq : (can q).length = n := by rw [can_len, hqn]
  have HEl := Aside0.mk (show ∀ i, i < 2 ^ (a + b) → el (can l) i = el l i from fun i hi => can_el l (by rw [hln, hsh.pow]; exact hi))
  have HEq := Aside0.mk (show ∀ i, i < 2 ^ (a + b) → el (can q) i = el q i from fun i hi => can_el q (by rw [hqn, hsh.pow]; exact hi))
  have HCv := Aside0.mk (show tb (can l).length (cv2 a b (el (can l)) (el (can q))) = tb n (cv2 a b (el l) (el q)) by
    rw [hcl]
    exact tb_congr fun i _ => by
      unfold cv2
      exact sm_congr fun s hs => sm_congr fun t ht => by rw [HEl.out s hs, HEq.out t ht])
  have HCq := Aside0.mk (show tb (can q).length (cv2 a b (el (can q)) (el (can q))) = tb n (cv2 a b (el q) (el q)) by
    rw [hcq]
    exact tb_congr fun i _ => by
      unfold cv2
      exact sm_congr fun s hs => sm_congr fun t ht => by rw [HEq.out s hs, HEq.out t ht])
  clear hWl hWq hG hsh
  have hw2 : Below w.heap.size w ((w.alloc (.cells #[.int .i64 (R : Int), .int .i64 (C : Int)] 23)).alloc (.cells #[.int .i64 T0, .int .i64 T1] 23)) ∧ Bk ((w.alloc (.cells #[.int .i64 (R : Int), .int .i64 (C : Int)] 23)).alloc (.cells #[.int .i64 T0, .int .i64 T1] 23)) w.heap.size 23 [.int .i64 (R : Int), .int .i64 (C : Int)] ∧ Bk ((w.alloc (.cells #[.int .i64 (R : Int), .int .i64 (C : Int)] 23)).alloc (.cells #[.int .i64 T0, .int .i64 T1] 23)) (w.heap.size + 1) 23 [.int .i64 T0, .int .i64 T1] := by
    have e1 := Bk.new w 23 [.int .i64 (R : Int), .int .i64 (C : Int)]
    have e2 := Bk.new (w.alloc (.cells #[.int .i64 (R : Int), .int .i64 (C : Int)] 23)) 23 [.int .i64 T0, .int .i64 T1]
    simp only [World.size_alloc] at e2
    exact ⟨below_alloc (below_alloc (Below.refl w.heap.size w) _) _, e1.alloc _, e2⟩
  have HW2 := Aside0.mk hw2
  have HT0 := Aside0.mk hT
  have HL0 := Aside0.mk hl
  have HQ0 := Aside0.mk hq
  clear hw2 hT hl hq
  go_enter Tryd.func4, Tryd.ntmps4
  go_wp2_with fail
  obtain ⟨W0, hW0⟩ : ∃ W0, W0 = (w.alloc (.cells #[.int .i64 (R : Int), .int .i64 (C : Int)] 23)).alloc (.cells #[.int .i64 T0, .int .i64 T1] 23) := ⟨_, rfl⟩
  rw [← hW0] at HW2 ⊢
  obtain ⟨bs, hbs⟩ : ∃ b, b = w.heap.size := ⟨_, rfl⟩
  obtain ⟨bt, hbt⟩ : ∃ b, b = w.heap.size + 1 := ⟨_, rfl⟩
  have HB0 := Aside0.mk HW2.out.1
  have HS0 := Aside0.mk HW2.out.2.1
  have HU0 := Aside0.mk HW2.out.2.2
  rw [← hbs] at HS0
  rw [← hbt] at HU0
  clear HW2
  rw [← hbt, ← hbs]
  clear hW0 hbs hbt
  with_reducible refine (gawake _ (HT0.out.below HB0.out)).mono ?_
  rintro e w1 ⟨rfl, hb⟩
  have HB1 := Aside0.mk (below_then HB0.out HB0.out.size hb)
  have HS1 := Aside0.mk (HS0.out.below hb)
  have HU1 := Aside0.mk (HU0.out.below hb)
  clear hb HB0 HS0 HU0
  go_wp2_with fail
  refine start_ (n := 12) (S := fun w' => w'.cell? ⟨bs, 0, none⟩ = some (.int .i64 (R : Int)) ∧ w'.cell? ⟨bs, 1, none⟩ = some (.int .i64 (C : Int)) ∧ Aside0 (Below w.heap.size w w' ∧ Bk w' bs 23 [.int .i64 (R : Int), .int .i64 (C : Int)] ∧ Bk w' bt 23 [.int .i64 T0, .int .i64 T1])) (ds := []) #[false, false, false, false, false, false, false, false, false, false, false, false] (by kernel_rfl) rfl rfl ⟨HS1.out.drew.cell 0, HS1.out.drew.cell 1, ⟨below_drew1 HB1.out, HS1.out.drew, HU1.out.drew⟩⟩ (fun hHeld => ?_)
  refine pure_ (i := 1) (N := some 18) (v := ?_) (a' := ?_) #[false, true, false, false, false, false, false, false, false, false, false, false] rfl rfl (by kernel_rfl) (fun _ _ _ h => h) (Or.inl ⟨by rfl, ?_⟩) ?_ ?_
  rotate_left
  · intro w'
    go_simp
    with_reducible rfl
  rotate_left
  · simp only [Act.put, List.setIfInBounds_toArray, List.set_cons_zero, List.set_cons_succ, i64_w, i32_w]
    rfl
  refine pure_ (i := 4) (N := some 21) (v := ?_) (a' := ?_) #[false, true, false, false, true, false, false, false, false, false, false, false] rfl rfl (by kernel_rfl) (fun _ _ _ h => h) (Or.inl ⟨by rfl, ?_⟩) ?_ ?_
  rotate_left
  · intro w'
    go_simp
    with_reducible rfl
  rotate_left
  · simp only [Act.put, List.setIfInBounds_toArray, List.set_cons_zero, List.set_cons_succ, i64_w, i32_w]
    rfl
  refine pure_ (i := 7) (N := some 24) (v := ?_) (a' := ?_) #[false, true, false, false, true, false, false, true, false, false, false, false] rfl rfl (by kernel_rfl) (fun _ _ _ h => h) (Or.inl ⟨by rfl, ?_⟩) ?_ ?_
  rotate_left
  · intro w'
    go_simp
    with_reducible rfl
  rotate_left
  · simp only [Act.put, List.setIfInBounds_toArray, List.set_cons_zero, List.set_cons_succ, i64_w, i32_w]
    rfl
  refine take_ (i := 0) (N := some 17) (v := ?_) (a' := ?_) #[true, true, false, false, true, false, false, true, false, false, false, false] rfl rfl (by kernel_rfl) (fun _ _ _ h => h) (Or.inl ⟨by rfl, ?_⟩) hHeld ?_ ?_
  rotate_left
  · rintro w' ⟨s0, s1, s2⟩
    go_simp
    with_reducible rfl
  rotate_left
  · simp only [Act.put, List.setIfInBounds_toArray, List.set_cons_zero, List.set_cons_succ, i64_w, i32_w]
    rfl
  refine take_ (i := 3) (N := some 20) (v := ?_) (a' := ?_) #[true, true, false, true, true, false, false, true, false, false, false, false] rfl rfl (by kernel_rfl) (fun _ _ _ h => h) (Or.inl ⟨by rfl, ?_⟩) hHeld ?_ ?_
  rotate_left
  · rintro w' ⟨s0, s1, s2⟩
    go_simp
    with_reducible rfl
  rotate_left
  · simp only [Act.put, List.setIfInBounds_toArray, List.set_cons_zero, List.set_cons_succ, i64_w, i32_w]
    rfl
  refine take_ (i := 6) (N := some 23) (v := ?_) (a' := ?_) #[true, true, false, true, true, false, true, true, false, false, false, false] rfl rfl (by kernel_rfl) (fun _ _ _ h => h) (Or.inl ⟨by rfl, ?_⟩) hHeld ?_ ?_
  rotate_left
  · rintro w' ⟨s0, s1, s2⟩
    go_simp
    with_reducible rfl
  rotate_left
  · simp only [Act.put, List.setIfInBounds_toArray, List.set_cons_zero, List.set_cons_succ, i64_w, i32_w]
    rfl
  refine one_ (i := 2) (N := some 19) #[true, true, true, true, true, false, true, true, false, false, false, false] rfl rfl (by kernel_rfl) (by decide) (fun K hK => ?_)
  refine goes_ Tryd.func24 (by kernel_rfl) rfl #[.agg #[.int .i64 (R : Int), .int .i64 (C : Int)], .slice A n c] (by rfl) rfl rfl (by simp only [List.map_toArray, List.map_cons, List.map_nil]; rfl) ?_
  with_reducible refine (made_n A c l n (R : Int) (C : Int) _ (HL0.out.below hHeld.2.2.out.1) HWl.out hln HN64 hp HGo.out.1 HGo.out.2 (HT0.out.below hHeld.2.2.out.1)).mono ?_
  rintro e w2 ⟨p1, g1, c1, rfl, hg, hb, _, hgl⟩
  refine ⟨_, rfl, ?_⟩
  have nB := below_then hHeld.2.2.out.1 hHeld.2.2.out.1.size hb
  have nS := hHeld.2.2.out.2.1.below hb
  have nU := hHeld.2.2.out.2.2.below hb
  have HA2 := Aside0.mk hg
  have La := Aside0.mk (show w.heap.size ≤ g1 by have := hHeld.2.2.out.1.size; omega)
  clear hg hgl
  clear hHeld hb
  refine hK.out _ _ ⟨nS.cell 0, nS.cell 1, ⟨nB, nS, nU⟩⟩ (fun hHeld => ?_)
  clear hK K
  refine norm_ (a' := ?_) ?_ ?_
  rotate_left
  · show Act.put _ (some 19) _ = _
    simp only [Act.put, List.setIfInBounds_toArray, List.set_cons_zero, List.set_cons_succ, i64_w, i32_w]
    rfl
  refine one_ (i := 5) (N := some 22) #[true, true, true, true, true, true, true, true, false, false, false, false] rfl rfl (by kernel_rfl) (by decide) (fun K hK => ?_)
  refine goes_ Tryd.func24 (by kernel_rfl) rfl #[.agg #[.int .i64 (R : Int), .int .i64 (C : Int)], .slice B n e0] (by rfl) rfl rfl (by simp only [List.map_toArray, List.map_cons, List.map_nil]; rfl) ?_
  with_reducible refine (made_n B e0 q n (R : Int) (C : Int) _ (HQ0.out.below hHeld.2.2.out.1) HWq.out hqn HN64 hp HGo.out.1 HGo.out.2 (HT0.out.below hHeld.2.2.out.1)).mono ?_
  rintro e w3 ⟨p2, g2, c2, rfl, hg, hb, _, hgl⟩
  refine ⟨_, rfl, ?_⟩
  have nB := below_then hHeld.2.2.out.1 hHeld.2.2.out.1.size hb
  have nS := hHeld.2.2.out.2.1.below hb
  have nU := hHeld.2.2.out.2.2.below hb
  have HA3 := Aside0.mk (HA2.out.below hb)
  have HB3 := Aside0.mk hg
  have Lb := Aside0.mk (show w.heap.size ≤ g2 ∧ g1 ≠ g2 by have h1 := hHeld.2.2.out.1.size; have h2 := HA2.out.lg; omega)
  clear hg hgl HA2
  clear hHeld hb
  refine hK.out _ _ ⟨nS.cell 0, nS.cell 1, ⟨nB, nS, nU⟩⟩ (fun hHeld => ?_)
  clear hK K
  refine norm_ (a' := ?_) ?_ ?_
  rotate_left
  · show Act.put _ (some 22) _ = _
    simp only [Act.put, List.setIfInBounds_toArray, List.set_cons_zero, List.set_cons_succ, i64_w, i32_w]
    rfl
  refine one_ (i := 8) (N := some 25) #[true, true, true, true, true, true, true, true, true, false, false, false] rfl rfl (by kernel_rfl) (by decide) (fun K hK => ?_)
  refine goes_ Tryd.func24 (by kernel_rfl) rfl #[.agg #[.int .i64 (R : Int), .int .i64 (C : Int)], .slice A n c] (by rfl) rfl rfl (by simp only [List.map_toArray, List.map_cons, List.map_nil]; rfl) ?_
  with_reducible refine (made_n A c l n (R : Int) (C : Int) _ (HL0.out.below hHeld.2.2.out.1) HWl.out hln HN64 hp HGo.out.1 HGo.out.2 (HT0.out.below hHeld.2.2.out.1)).mono ?_
  rintro e w4 ⟨p3, g3, c3, rfl, hg, hb, _, hgl⟩
  refine ⟨_, rfl, ?_⟩
  have nB := below_then hHeld.2.2.out.1 hHeld.2.2.out.1.size hb
  have nS := hHeld.2.2.out.2.1.below hb
  have nU := hHeld.2.2.out.2.2.below hb
  have HA4 := Aside0.mk (HA3.out.below hb)
  have HB4 := Aside0.mk (HB3.out.below hb)
  have Lc := Aside0.mk (show w.heap.size ≤ g3 ∧ g1 ≠ g3 ∧ g2 ≠ g3 by have h1 := hHeld.2.2.out.1.size; have h2 := HA3.out.lg; have h3 := HB3.out.lg; omega)
  have HX4 := Aside0.mk (show Cv w _ p1 g1 c1 p2 g2 c2 p3 g3 c3 bs bt (R : Int) (C : Int) T0 T1 (can l) (can q) (can l) from ⟨nB, HA4.out, HB4.out, hg, nS, nU, Lb.out.2, Lc.out.2.1, Lc.out.2.2, La.out, Lb.out.1, Lc.out.1⟩)
  clear hg hgl HA3 HB3 HA4 HB4
  clear hHeld hb
  refine hK.out _ _ ⟨nS.cell 0, nS.cell 1, ⟨nB, nS, nU⟩⟩ (fun hHeld => ?_)
  clear hK K
  refine norm_ (a' := ?_) ?_ ?_
  rotate_left
  · show Act.put _ (some 25) _ = _
    simp only [Act.put, List.setIfInBounds_toArray, List.set_cons_zero, List.set_cons_succ, i64_w, i32_w]
    rfl
  refine pure_ (i := 9) (N := some 9) (v := ?_) (a' := ?_) #[true, true, true, true, true, true, true, true, true, true, false, false] rfl rfl (by kernel_rfl) (fun _ _ _ h => h) (Or.inl ⟨by rfl, ?_⟩) ?_ ?_
  rotate_left
  · intro w'
    go_simp
    with_reducible rfl
  rotate_left
  · simp only [Act.put, List.setIfInBounds_toArray, List.set_cons_zero, List.set_cons_succ, i64_w, i32_w]
    rfl
  refine pure_ (i := 10) (N := some 10) (v := ?_) (a' := ?_) #[true, true, true, true, true, true, true, true, true, true, true, false] rfl rfl (by kernel_rfl) (fun _ _ _ h => h) (Or.inl ⟨by rfl, ?_⟩) ?_ ?_
  rotate_left
  · intro w'
    go_simp
    with_reducible rfl
  rotate_left
  · simp only [Act.put, List.setIfInBounds_toArray, List.set_cons_zero, List.set_cons_succ, i64_w, i32_w]
    rfl
  refine pure_ (i := 11) (N := some 11) (v := ?_) (a' := ?_) #[true, true, true, true, true, true, true, true, true, true, true, true] rfl rfl (by kernel_rfl) (fun _ _ _ h => h) (Or.inl ⟨by rfl, ?_⟩) ?_ ?_
  rotate_left
  · intro w'
    go_simp
    with_reducible rfl
  rotate_left
  · simp only [Act.put, List.setIfInBounds_toArray, List.set_cons_zero, List.set_cons_succ, i64_w, i32_w]
    rfl
  refine done_ (by kernel_rfl) ?_
  clear hHeld
  clear nB nS nU HS1 HB1 HU1 La Lb Lc
  go_upto_region 4 with fail
  go_cut [12] (fun v12 wx => ∃ po, v12 = .pointer po ∧ Aside0 (Cv w wx p1 g1 c1 p2 g2 c2 p3 g3 c3 bs bt (R : Int) (C : Int) T0 T1 (can l) (can q) (can l) ∧ (po = none ∨ ∃ p4 g4 c4 z, po = some ⟨p4, 0, none⟩ ∧ Gd wx p4 g4 c4 T0 T1 z)))
  case first =>
    by_cases hgt : GoodS T0 T1 ∧ T0 * T1 = ((4 : Nat) : Int)
    · skip
      refine start_ (n := 4) (S := fun w' => w'.cell? ⟨bt, 0, none⟩ = some (.int .i64 T0) ∧ w'.cell? ⟨bt, 1, none⟩ = some (.int .i64 T1) ∧ Aside0 (Cv w w' p1 g1 c1 p2 g2 c2 p3 g3 c3 bs bt (R : Int) (C : Int) T0 T1 (can l) (can q) (can l))) (ds := []) #[false, false, false, false] (by kernel_rfl) rfl rfl ⟨HX4.out.drew.st.cell 0, HX4.out.drew.st.cell 1, ⟨HX4.out.drew⟩⟩ (fun hHeld => ?_)
      refine take_ (i := 0) (N := some 26) (v := ?_) (a' := ?_) #[true, false, false, false] rfl rfl (by kernel_rfl) (fun _ _ _ h => h) (Or.inl ⟨by rfl, ?_⟩) hHeld ?_ ?_
      rotate_left
      · rintro w' ⟨s0, s1, s2⟩
        go_simp
        with_reducible rfl
      rotate_left
      · simp only [Act.put, List.setIfInBounds_toArray, List.set_cons_zero, List.set_cons_succ, i64_w, i32_w]
        rfl
      refine one_ (i := 1) (N := some 27) #[true, true, false, false] rfl rfl (by kernel_rfl) (by decide) (fun K hK => ?_)
      refine make_step 24 _ _ 4 (by rfl) rfl rfl rfl rfl (by kernel_rfl) info_u64 (by decide) ?_
      intro w5 hrow hb hsz
      have nX := hHeld.2.2.out.below hb
      have HR5 := Aside0.mk (show In w5 _ 4 (List.replicate 4 (0 : Int)) from In.of_mr (Mr.of_rw hrow) (by decide))
      clear hHeld hb hrow hsz
      refine hK.out _ _ ⟨nX.st.cell 0, nX.st.cell 1, ⟨nX⟩⟩ (fun hHeld => ?_)
      clear hK K
      refine norm_ (a' := ?_) ?_ ?_
      rotate_left
      · show Act.put _ (some 27) _ = _
        simp only [Act.put, List.setIfInBounds_toArray, List.set_cons_zero, List.set_cons_succ, i64_w, i32_w]
        rfl
      refine one_ (i := 2) (N := some 28) #[true, true, true, false] rfl rfl (by kernel_rfl) (by decide) (fun K hK => ?_)
      refine goes_ Tryd.func24 (by kernel_rfl) rfl #[.agg #[.int .i64 T0, .int .i64 T1], .slice (some ⟨w4.drew.heap.size, 0, none⟩) 4 4] (by rfl) rfl rfl (by simp only [List.map_toArray, List.map_cons, List.map_nil]; rfl) ?_
      with_reducible refine (made_n _ 4 (List.replicate 4 (0 : Int)) 4 T0 T1 _ HR5.out (Ws.of (by decide)) rfl (by decide) (by decide) hgt.1 hgt.2 (HT0.out.below hHeld.2.2.out.be)).mono ?_
      rintro e w6 ⟨p4, g4, c4, rfl, hg4, hb, _, _⟩
      refine ⟨_, rfl, ?_⟩
      have nX := hHeld.2.2.out.below hb
      have HX6 := Aside0.mk nX
      have HO6 := Aside0.mk hg4
      clear hHeld hb hg4
      refine hK.out _ _ ⟨nX.st.cell 0, nX.st.cell 1, ⟨nX⟩⟩ (fun hHeld => ?_)
      clear hK K
      refine norm_ (a' := ?_) ?_ ?_
      rotate_left
      · show Act.put _ (some 28) _ = _
        simp only [Act.put, List.setIfInBounds_toArray, List.set_cons_zero, List.set_cons_succ, i64_w, i32_w]
        rfl
      refine pure_ (i := 3) (N := some 12) (v := ?_) (a' := ?_) #[true, true, true, true] rfl rfl (by kernel_rfl) (fun _ _ _ h => h) (Or.inl ⟨by rfl, ?_⟩) ?_ ?_
      rotate_left
      · intro w'
        go_simp
        with_reducible rfl
      rotate_left
      · simp only [Act.put, List.setIfInBounds_toArray, List.set_cons_zero, List.set_cons_succ, i64_w, i32_w]
        rfl
      refine done_ (by kernel_rfl) ?_
      clear hHeld
      go_wp2_with fail
      go_meet
      exact ⟨_, rfl, ⟨HX6.out, .inr ⟨p4, g4, c4, _, rfl, HO6.out⟩⟩⟩
    · have HN := Aside0.mk (show ¬ ((List.replicate 4 (0 : Int)).length ≤ 64 ∧ GoodS T0 T1 ∧ T0 * T1 = ((List.replicate 4 (0 : Int)).length : Int)) from fun h => hgt ⟨h.2.1, h.2.2⟩)
      clear hgt
      refine start_ (n := 4) (S := fun w' => w'.cell? ⟨bt, 0, none⟩ = some (.int .i64 T0) ∧ w'.cell? ⟨bt, 1, none⟩ = some (.int .i64 T1) ∧ Aside0 (Cv w w' p1 g1 c1 p2 g2 c2 p3 g3 c3 bs bt (R : Int) (C : Int) T0 T1 (can l) (can q) (can l))) (ds := []) #[false, false, false, false] (by kernel_rfl) rfl rfl ⟨HX4.out.drew.st.cell 0, HX4.out.drew.st.cell 1, ⟨HX4.out.drew⟩⟩ (fun hHeld => ?_)
      refine take_ (i := 0) (N := some 26) (v := ?_) (a' := ?_) #[true, false, false, false] rfl rfl (by kernel_rfl) (fun _ _ _ h => h) (Or.inl ⟨by rfl, ?_⟩) hHeld ?_ ?_
      rotate_left
      · rintro w' ⟨s0, s1, s2⟩
        go_simp
        with_reducible rfl
      rotate_left
      · simp only [Act.put, List.setIfInBounds_toArray, List.set_cons_zero, List.set_cons_succ, i64_w, i32_w]
        rfl
      refine one_ (i := 1) (N := some 27) #[true, true, false, false] rfl rfl (by kernel_rfl) (by decide) (fun K hK => ?_)
      refine make_step 24 _ _ 4 (by rfl) rfl rfl rfl rfl (by kernel_rfl) info_u64 (by decide) ?_
      intro w5 hrow hb hsz
      have nX := hHeld.2.2.out.below hb
      clear hHeld hb hrow hsz
      refine hK.out _ _ ⟨nX.st.cell 0, nX.st.cell 1, ⟨nX⟩⟩ (fun hHeld => ?_)
      clear hK K
      refine norm_ (a' := ?_) ?_ ?_
      rotate_left
      · show Act.put _ (some 27) _ = _
        simp only [Act.put, List.setIfInBounds_toArray, List.set_cons_zero, List.set_cons_succ, i64_w, i32_w]
        rfl
      refine one_ (i := 2) (N := some 28) #[true, true, true, false] rfl rfl (by kernel_rfl) (by decide) (fun K hK => ?_)
      have hcm := made_no (some ⟨w4.drew.heap.size, 0, none⟩) 4 (List.replicate 4 (0 : Int)) T0 T1 _ HN.out (HT0.out.below hHeld.2.2.out.be)
      rw [show (List.replicate 4 (0 : Int)).length = 4 from rfl] at hcm
      refine goes_ Tryd.func24 (by kernel_rfl) rfl #[.agg #[.int .i64 T0, .int .i64 T1], .slice (some ⟨w4.drew.heap.size, 0, none⟩) 4 4] (by rfl) rfl rfl (by simp only [List.map_toArray, List.map_cons, List.map_nil]; rfl) ?_
      with_reducible refine (hcm).mono ?_
      rintro e w6 ⟨rfl, hb⟩
      refine ⟨_, rfl, ?_⟩
      clear hcm
      have nX := hHeld.2.2.out.below hb
      have HX6 := Aside0.mk nX
      clear hHeld hb
      refine hK.out _ _ ⟨nX.st.cell 0, nX.st.cell 1, ⟨nX⟩⟩ (fun hHeld => ?_)
      clear hK K
      refine norm_ (a' := ?_) ?_ ?_
      rotate_left
      · show Act.put _ (some 28) _ = _
        simp only [Act.put, List.setIfInBounds_toArray, List.set_cons_zero, List.set_cons_succ, i64_w, i32_w]
        rfl
      refine pure_ (i := 3) (N := some 12) (v := ?_) (a' := ?_) #[true, true, true, true] rfl rfl (by kernel_rfl) (fun _ _ _ h => h) (Or.inl ⟨by rfl, ?_⟩) ?_ ?_
      rotate_left
      · intro w'
        go_simp
        with_reducible rfl
      rotate_left
      · simp only [Act.put, List.setIfInBounds_toArray, List.set_cons_zero, List.set_cons_succ, i64_w, i32_w]
        rfl
      refine done_ (by kernel_rfl) ?_
      clear hHeld
      go_wp2_with fail
      go_meet
      exact ⟨_, rfl, ⟨HX6.out, .inl rfl⟩⟩
  case rest =>
    obtain ⟨po, rfl, HXO⟩ := hcut
    clear HX4
    go_upto_region 7 with fail
    go_cut [70] (fun v70 wx => v70 = .bool false ∧ Aside0 (Cv w wx p1 g1 c1 p2 g2 c2 p3 g3 c3 bs bt (R : Int) (C : Int) T0 T1 (can l) (can q) (can l)))
    case first =>
      rcases HXO.out.2 with rfl | ⟨p4, g4, c4, z, rfl, ho⟩
      · go_wp2_with fail
        go_meet
        exact ⟨rfl, ⟨HXO.out.1⟩⟩
      · have u0 := HXO.out.1.sh.cell 0
        have u1 := HXO.out.1.sh.cell 1
        have u2 := HXO.out.1.st.cell 0
        have u3 := HXO.out.1.st.cell 1
        by_cases heq : (T0 == (R : Int) && (T1 == (C : Int))) = true
        · go_wp2_with fail
          go_meet
          exact ⟨rfl, ⟨HXO.out.1⟩⟩
        · have hne : (T0 == (R : Int) && (T1 == (C : Int))) = false := by simpa using heq
          have HNE := Aside0.mk hne
          have HX0 := Aside0.mk HXO.out.1
          have HO0 := Aside0.mk ho
          clear heq ho HXO
          go_wp2_with fail
          clear u0 u1 u2 u3
          with_reducible refine (gconv_no p1 (.pointer (some ⟨p4, 0, none⟩)) 19 rfl _ (gcheck_of p1 p4 (R : Int) (C : Int) T0 T1 19 false HNE.out rfl _ HX0.out.a.c0 HX0.out.a.c1 HO0.out.c0 HO0.out.c1)).mono ?_
          rintro e w7 ⟨rfl, hb⟩
          have HX7 := Aside0.mk (HX0.out.below hb)
          have HO7 := Aside0.mk (HO0.out.below hb)
          clear hb HX0 HO0
          go_wp2_with fail
          with_reducible refine (gtimes_odd p1 p4 (R : Int) (C : Int) T0 T1 HNE.out _ HX7.out.a.c0 HX7.out.a.c1 HO7.out.c0 HO7.out.c1).mono ?_
          rintro e w8 ⟨rfl, hb⟩
          have HX8 := Aside0.mk (HX7.out.below hb)
          clear hb HX7 HO7
          go_wp2_with fail
          with_reducible refine (gconv_no p1 (.pointer none) 1 rfl _ ((gcheck_nil _ _).mono fun e w' ⟨h1, h2⟩ => ⟨h1, by rw [h2]; exact Below.refl _ _⟩)).mono ?_
          rintro e w9 ⟨rfl, hb⟩
          have HX9 := Aside0.mk (HX8.out.below hb)
          clear hb HX8
          go_wp2_with fail
          with_reducible refine (words_n p1 g1 c1 n (R : Int) (C : Int) (can l) _ HX9.out.a hcl hp (by omega)).mono ?_
          rintro e w10 ⟨h, dh, rfl, hm, hb⟩
          have HX10 := Aside0.mk (HX9.out.below hb)
          have HM10 := Aside0.mk hm
          clear hb hm HX9
          go_wp2_with fail
          with_reducible refine (canon_n A c l n _ (HL0.out.below HX10.out.be) HWl.out (by omega) hln).mono ?_
          rintro e w11 ⟨B6, d6, rfl, hI, hb⟩
          have HX11 := Aside0.mk (HX10.out.below hb)
          have HM11 := Aside0.mk (HM10.out.below hb)
          have HC11 := Aside0.mk hI
          clear hb hI HX10 HM10
          go_wp2_with fail
          with_reducible refine (same_n (some ⟨h, 0, none⟩) B6 dh d6 n (can l) (can l) _ HM11.out HC11.out (by omega) hcl rfl).mono ?_
          rintro e w12 ⟨rfl, hb⟩
          have HX12 := Aside0.mk (HX11.out.below hb)
          clear hb HX11 HM11 HC11
          go_wp2_with fail
          go_meet
          exact ⟨rfl, HX12⟩
    case rest =>
      obtain ⟨rfl, HX⟩ := hcut
      clear HXO
      go_upto_region 9 with fail
      refine start_ (n := 28) (S := fun w' => w'.cell? ⟨bs, 0, none⟩ = some (.int .i64 (R : Int)) ∧ w'.cell? ⟨bs, 1, none⟩ = some (.int .i64 (C : Int)) ∧ Aside0 (Below w.heap.size w w' ∧ Bk w' bs 23 [.int .i64 (R : Int), .int .i64 (C : Int)])) (ds := []) #[false, false, false, false, false, false, false, false, false, false, false, false, false, false, false, false, false, false, false, false, false, false, false, false, false, false, false, false] (by kernel_rfl) rfl rfl ⟨HX.out.drew.sh.cell 0, HX.out.drew.sh.cell 1, ⟨HX.out.drew.be, HX.out.drew.sh⟩⟩ (fun hHeld => ?_)
      refine pure_ (i := 0) (N := some 71) (v := ?_) (a' := ?_) #[true, false, false, false, false, false, false, false, false, false, false, false, false, false, false, false, false, false, false, false, false, false, false, false, false, false, false, false] rfl rfl (by kernel_rfl) (fun _ _ _ h => h) (Or.inl ⟨by rfl, ?_⟩) ?_ ?_
      rotate_left
      · intro w'
        go_simp
        with_reducible rfl
      rotate_left
      · simp only [Act.put, List.setIfInBounds_toArray, List.set_cons_zero, List.set_cons_succ, i64_w, i32_w]
        rfl
      refine pure_ (i := 1) (N := some 72) (v := ?_) (a' := ?_) #[true, true, false, false, false, false, false, false, false, false, false, false, false, false, false, false, false, false, false, false, false, false, false, false, false, false, false, false] rfl rfl (by kernel_rfl) (fun _ _ _ h => h) (Or.inl ⟨by rfl, ?_⟩) ?_ ?_
      rotate_left
      · intro w'
        go_simp
        with_reducible rfl
      rotate_left
      · simp only [Act.put, List.setIfInBounds_toArray, List.set_cons_zero, List.set_cons_succ, i64_w, i32_w]
        rfl
      refine one_ (i := 2) (N := some 73) #[true, true, true, false, false, false, false, false, false, false, false, false, false, false, false, false, false, false, false, false, false, false, false, false, false, false, false, false] rfl rfl (by kernel_rfl) (by decide) (fun K hK => ?_)
      have hcv := gconv_yes R C a b p1 g1 c1 p2 g2 c2 (can l) (can q) HSh.out.r HSh.out.c HSh.out.ab (by rw [hcl]; exact HSh.out.n) (by rw [hcl, hcq]) (can_ws l) (can_ws q) _ HX.out.drew.a HX.out.drew.b (HT0.out.below hHeld.2.2.out.1)
      rw [HCv.out] at hcv
      refine goes_ Tryd.func25 (by kernel_rfl) rfl #[.pointer (some ⟨p1, 0, none⟩), .pointer (some ⟨p2, 0, none⟩)] (by rfl) rfl rfl (by simp only [List.map_toArray, List.map_cons, List.map_nil]; rfl) ?_
      with_reducible refine (hcv).mono ?_
      rintro e w7 ⟨rfl, hg, hf⟩
      refine ⟨_, rfl, ?_⟩
      clear hcv
      have HX7 := Aside0.mk (HX.out.drew.fa hf hg)
      clear hHeld hg hf
      refine hK.out _ _ ⟨HX7.out.sh.cell 0, HX7.out.sh.cell 1, ⟨HX7.out.be, HX7.out.sh⟩⟩ (fun hHeld => ?_)
      clear hK K
      refine norm_ (a' := ?_) ?_ ?_
      rotate_left
      · show Act.put _ (some 73) _ = _
        simp only [Act.put, List.setIfInBounds_toArray, List.set_cons_zero, List.set_cons_succ, i64_w, i32_w]
        rfl
      refine pure_ (i := 3) (N := some 74) (v := ?_) (a' := ?_) #[true, true, true, true, false, false, false, false, false, false, false, false, false, false, false, false, false, false, false, false, false, false, false, false, false, false, false, false] rfl rfl (by kernel_rfl) (fun _ _ _ h => h) (Or.inl ⟨by rfl, ?_⟩) ?_ ?_
      rotate_left
      · intro w'
        go_simp
        with_reducible rfl
      rotate_left
      · simp only [Act.put, List.setIfInBounds_toArray, List.set_cons_zero, List.set_cons_succ, i64_w, i32_w]
        rfl
      refine pure_ (i := 4) (N := some 75) (v := ?_) (a' := ?_) #[true, true, true, true, true, false, false, false, false, false, false, false, false, false, false, false, false, false, false, false, false, false, false, false, false, false, false, false] rfl rfl (by kernel_rfl) (fun _ _ _ h => h) (Or.inl ⟨by rfl, ?_⟩) ?_ ?_
      rotate_left
      · intro w'
        go_simp
        with_reducible rfl
      rotate_left
      · simp only [Act.put, List.setIfInBounds_toArray, List.set_cons_zero, List.set_cons_succ, i64_w, i32_w]
        rfl
      refine pure_ (i := 5) (N := some 76) (v := ?_) (a' := ?_) #[true, true, true, true, true, true, false, false, false, false, false, false, false, false, false, false, false, false, false, false, false, false, false, false, false, false, false, false] rfl rfl (by kernel_rfl) (fun _ _ _ h => h) (Or.inl ⟨by rfl, ?_⟩) ?_ ?_
      rotate_left
      · intro w'
        go_simp
        with_reducible rfl
      rotate_left
      · simp only [Act.put, List.setIfInBounds_toArray, List.set_cons_zero, List.set_cons_succ, i64_w, i32_w]
        rfl
      refine pure_ (i := 6) (N := some 77) (v := ?_) (a' := ?_) #[true, true, true, true, true, true, true, false, false, false, false, false, false, false, false, false, false, false, false, false, false, false, false, false, false, false, false, false] rfl rfl (by kernel_rfl) (fun _ _ _ h => h) (Or.inl ⟨by rfl, ?_⟩) ?_ ?_
      rotate_left
      · intro w'
        go_simp
        with_reducible rfl
      rotate_left
      · simp only [Act.put, List.setIfInBounds_toArray, List.set_cons_zero, List.set_cons_succ, i64_w, i32_w]
        rfl
      refine one_ (i := 7) (N := some 78) #[true, true, true, true, true, true, true, true, false, false, false, false, false, false, false, false, false, false, false, false, false, false, false, false, false, false, false, false] rfl rfl (by kernel_rfl) (by decide) (fun K hK => ?_)
      refine goes_ Tryd.func26 (by kernel_rfl) rfl #[.pointer (some ⟨p3, 0, none⟩), .pointer (some ⟨p2, 0, none⟩)] (by rfl) rfl rfl (by simp only [List.map_toArray, List.map_cons, List.map_nil]; rfl) ?_
      with_reducible refine (gtimes_yes p3 g3 c3 p2 g2 c2 (R : Int) (C : Int) n (can l) (can q) hcl hcq (by omega) (can_ws l) (can_ws q) (Ne.symm HX7.out.bc) _ HX7.out.c HX7.out.b).mono ?_
      rintro e w8 ⟨rfl, hg, hf⟩
      refine ⟨_, rfl, ?_⟩
      have HX8 := Aside0.mk (HX7.out.fc hf hg)
      clear hHeld hg hf HX7
      refine hK.out _ _ ⟨HX8.out.sh.cell 0, HX8.out.sh.cell 1, ⟨HX8.out.be, HX8.out.sh⟩⟩ (fun hHeld => ?_)
      clear hK K
      refine norm_ (a' := ?_) ?_ ?_
      rotate_left
      · show Act.put _ (some 78) _ = _
        simp only [Act.put, List.setIfInBounds_toArray, List.set_cons_zero, List.set_cons_succ, i64_w, i32_w]
        rfl
      refine pure_ (i := 8) (N := some 79) (v := ?_) (a' := ?_) #[true, true, true, true, true, true, true, true, true, false, false, false, false, false, false, false, false, false, false, false, false, false, false, false, false, false, false, false] rfl rfl (by kernel_rfl) (fun _ _ _ h => h) (Or.inl ⟨by rfl, ?_⟩) ?_ ?_
      rotate_left
      · intro w'
        go_simp
        with_reducible rfl
      rotate_left
      · simp only [Act.put, List.setIfInBounds_toArray, List.set_cons_zero, List.set_cons_succ, i64_w, i32_w]
        rfl
      refine pure_ (i := 9) (N := some 80) (v := ?_) (a' := ?_) #[true, true, true, true, true, true, true, true, true, true, false, false, false, false, false, false, false, false, false, false, false, false, false, false, false, false, false, false] rfl rfl (by kernel_rfl) (fun _ _ _ h => h) (Or.inl ⟨by rfl, ?_⟩) ?_ ?_
      rotate_left
      · intro w'
        go_simp
        with_reducible rfl
      rotate_left
      · simp only [Act.put, List.setIfInBounds_toArray, List.set_cons_zero, List.set_cons_succ, i64_w, i32_w]
        rfl
      refine pure_ (i := 10) (N := some 81) (v := ?_) (a' := ?_) #[true, true, true, true, true, true, true, true, true, true, true, false, false, false, false, false, false, false, false, false, false, false, false, false, false, false, false, false] rfl rfl (by kernel_rfl) (fun _ _ _ h => h) (Or.inl ⟨by rfl, ?_⟩) ?_ ?_
      rotate_left
      · intro w'
        go_simp
        with_reducible rfl
      rotate_left
      · simp only [Act.put, List.setIfInBounds_toArray, List.set_cons_zero, List.set_cons_succ, i64_w, i32_w]
        rfl
      refine pure_ (i := 11) (N := some 82) (v := ?_) (a' := ?_) #[true, true, true, true, true, true, true, true, true, true, true, true, false, false, false, false, false, false, false, false, false, false, false, false, false, false, false, false] rfl rfl (by kernel_rfl) (fun _ _ _ h => h) (Or.inl ⟨by rfl, ?_⟩) ?_ ?_
      rotate_left
      · intro w'
        go_simp
        with_reducible rfl
      rotate_left
      · simp only [Act.put, List.setIfInBounds_toArray, List.set_cons_zero, List.set_cons_succ, i64_w, i32_w]
        rfl
      refine pure_ (i := 13) (N := some 84) (v := ?_) (a' := ?_) #[true, true, true, true, true, true, true, true, true, true, true, true, false, true, false, false, false, false, false, false, false, false, false, false, false, false, false, false] rfl rfl (by kernel_rfl) (fun _ _ _ h => h) (Or.inl ⟨by rfl, ?_⟩) ?_ ?_
      rotate_left
      · intro w'
        go_simp
        with_reducible rfl
      rotate_left
      · simp only [Act.put, List.setIfInBounds_toArray, List.set_cons_zero, List.set_cons_succ, i64_w, i32_w]
        rfl
      refine one_ (i := 12) (N := some 83) #[true, true, true, true, true, true, true, true, true, true, true, true, true, true, false, false, false, false, false, false, false, false, false, false, false, false, false, false] rfl rfl (by kernel_rfl) (by decide) (fun K hK => ?_)
      refine goes_ Tryd.func20 (by kernel_rfl) rfl #[.pointer (some ⟨p2, 0, none⟩)] (by rfl) rfl rfl (by simp only [List.map_toArray, List.map_cons, List.map_nil]; rfl) ?_
      with_reducible refine (words_n p2 g2 c2 n (R : Int) (C : Int) (can q) _ HX8.out.b hcq hp (by omega)).mono ?_
      rintro e w9 ⟨h, dh, rfl, hm, hb⟩
      refine ⟨_, rfl, ?_⟩
      have HX9 := Aside0.mk (HX8.out.below hb)
      have HM9 := Aside0.mk hm
      clear hHeld hb hm HX8
      refine hK.out _ _ ⟨HX9.out.sh.cell 0, HX9.out.sh.cell 1, ⟨HX9.out.be, HX9.out.sh⟩⟩ (fun hHeld => ?_)
      clear hK K
      refine norm_ (a' := ?_) ?_ ?_
      rotate_left
      · show Act.put _ (some 83) _ = _
        simp only [Act.put, List.setIfInBounds_toArray, List.set_cons_zero, List.set_cons_succ, i64_w, i32_w]
        rfl
      refine one_ (i := 14) (N := some 85) #[true, true, true, true, true, true, true, true, true, true, true, true, true, true, true, false, false, false, false, false, false, false, false, false, false, false, false, false] rfl rfl (by kernel_rfl) (by decide) (fun K hK => ?_)
      refine goes_ Tryd.func21 (by kernel_rfl) rfl #[.slice B n e0] (by rfl) rfl rfl (by simp only [List.map_toArray, List.map_cons, List.map_nil]; rfl) ?_
      with_reducible refine (canon_n B e0 q n _ (HQ0.out.below HX9.out.be) HWq.out (by omega) hqn).mono ?_
      rintro e w10 ⟨B6, d6, rfl, hI, hb⟩
      refine ⟨_, rfl, ?_⟩
      have HX10 := Aside0.mk (HX9.out.below hb)
      have HM10 := Aside0.mk (HM9.out.below hb)
      have HC10 := Aside0.mk hI
      clear hHeld hb hI HX9 HM9
      refine hK.out _ _ ⟨HX10.out.sh.cell 0, HX10.out.sh.cell 1, ⟨HX10.out.be, HX10.out.sh⟩⟩ (fun hHeld => ?_)
      clear hK K
      refine norm_ (a' := ?_) ?_ ?_
      rotate_left
      · show Act.put _ (some 85) _ = _
        simp only [Act.put, List.setIfInBounds_toArray, List.set_cons_zero, List.set_cons_succ, i64_w, i32_w]
        rfl
      refine one_ (i := 15) (N := some 86) #[true, true, true, true, true, true, true, true, true, true, true, true, true, true, true, true, false, false, false, false, false, false, false, false, false, false, false, false] rfl rfl (by kernel_rfl) (by decide) (fun K hK => ?_)
      refine goes_ Tryd.func19 (by kernel_rfl) rfl #[.slice (some ⟨h, 0, none⟩) n dh, .slice B6 n d6] (by rfl) rfl rfl (by simp only [List.map_toArray, List.map_cons, List.map_nil]; rfl) ?_
      with_reducible refine (same_n (some ⟨h, 0, none⟩) B6 dh d6 n (can q) (can q) _ HM10.out HC10.out (by omega) hcq rfl).mono ?_
      rintro e w11 ⟨rfl, hb⟩
      refine ⟨_, rfl, ?_⟩
      have HX11 := Aside0.mk (HX10.out.below hb)
      clear hHeld hb HX10 HM10 HC10
      refine hK.out _ _ ⟨HX11.out.sh.cell 0, HX11.out.sh.cell 1, ⟨HX11.out.be, HX11.out.sh⟩⟩ (fun hHeld => ?_)
      clear hK K
      refine norm_ (a' := ?_) ?_ ?_
      rotate_left
      · show Act.put _ (some 86) _ = _
        simp only [Act.put, List.setIfInBounds_toArray, List.set_cons_zero, List.set_cons_succ, i64_w, i32_w]
        rfl
      refine pure_ (i := 16) (N := some 87) (v := ?_) (a' := ?_) #[true, true, true, true, true, true, true, true, true, true, true, true, true, true, true, true, true, false, false, false, false, false, false, false, false, false, false, false] rfl rfl (by kernel_rfl) (fun _ _ _ h => h) (Or.inl ⟨by rfl, ?_⟩) ?_ ?_
      rotate_left
      · intro w'
        go_simp
        with_reducible rfl
      rotate_left
      · simp only [Act.put, List.setIfInBounds_toArray, List.set_cons_zero, List.set_cons_succ, i64_w, i32_w]
        rfl
      refine pure_ (i := 17) (N := some 88) (v := ?_) (a' := ?_) #[true, true, true, true, true, true, true, true, true, true, true, true, true, true, true, true, true, true, false, false, false, false, false, false, false, false, false, false] rfl rfl (by kernel_rfl) (fun _ _ _ h => h) (Or.inl ⟨by rfl, ?_⟩) ?_ ?_
      rotate_left
      · intro w'
        go_simp
        with_reducible rfl
      rotate_left
      · simp only [Act.put, List.setIfInBounds_toArray, List.set_cons_zero, List.set_cons_succ, i64_w, i32_w]
        rfl
      refine pure_ (i := 18) (N := some 89) (v := ?_) (a' := ?_) #[true, true, true, true, true, true, true, true, true, true, true, true, true, true, true, true, true, true, true, false, false, false, false, false, false, false, false, false] rfl rfl (by kernel_rfl) (fun _ _ _ h => h) (Or.inl ⟨by rfl, ?_⟩) ?_ ?_
      rotate_left
      · intro w'
        go_simp
        with_reducible rfl
      rotate_left
      · simp only [Act.put, List.setIfInBounds_toArray, List.set_cons_zero, List.set_cons_succ, i64_w, i32_w]
        rfl
      refine pure_ (i := 19) (N := some 90) (v := ?_) (a' := ?_) #[true, true, true, true, true, true, true, true, true, true, true, true, true, true, true, true, true, true, true, true, false, false, false, false, false, false, false, false] rfl rfl (by kernel_rfl) (fun _ _ _ h => h) (Or.inl ⟨by rfl, ?_⟩) ?_ ?_
      rotate_left
      · intro w'
        go_simp
        with_reducible rfl
      rotate_left
      · simp only [Act.put, List.setIfInBounds_toArray, List.set_cons_zero, List.set_cons_succ, i64_w, i32_w]
        rfl
      refine pure_ (i := 21) (N := some 92) (v := ?_) (a' := ?_) #[true, true, true, true, true, true, true, true, true, true, true, true, true, true, true, true, true, true, true, true, false, true, false, false, false, false, false, false] rfl rfl (by kernel_rfl) (fun _ _ _ h => h) (Or.inl ⟨by rfl, ?_⟩) ?_ ?_
      rotate_left
      · intro w'
        go_simp
        with_reducible rfl
      rotate_left
      · simp only [Act.put, List.setIfInBounds_toArray, List.set_cons_zero, List.set_cons_succ, i64_w, i32_w]
        rfl
      refine pure_ (i := 22) (N := some 93) (v := ?_) (a' := ?_) #[true, true, true, true, true, true, true, true, true, true, true, true, true, true, true, true, true, true, true, true, false, true, true, false, false, false, false, false] rfl rfl (by kernel_rfl) (fun _ _ _ h => h) (Or.inl ⟨by rfl, ?_⟩) ?_ ?_
      rotate_left
      · intro w'
        go_simp
        with_reducible rfl
      rotate_left
      · simp only [Act.put, List.setIfInBounds_toArray, List.set_cons_zero, List.set_cons_succ, i64_w, i32_w]
        rfl
      refine take_ (i := 23) (N := some 94) (v := ?_) (a' := ?_) #[true, true, true, true, true, true, true, true, true, true, true, true, true, true, true, true, true, true, true, true, false, true, true, true, false, false, false, false] rfl rfl (by kernel_rfl) (fun _ _ _ h => h) (Or.inl ⟨by rfl, ?_⟩) hHeld ?_ ?_
      rotate_left
      · rintro w' ⟨s0, s1, s2⟩
        go_simp
        with_reducible rfl
      rotate_left
      · simp only [Act.put, List.setIfInBounds_toArray, List.set_cons_zero, List.set_cons_succ, i64_w, i32_w]
        rfl
      refine one_ (i := 20) (N := some 91) #[true, true, true, true, true, true, true, true, true, true, true, true, true, true, true, true, true, true, true, true, true, true, true, true, false, false, false, false] rfl rfl (by kernel_rfl) (by decide) (fun K hK => ?_)
      refine goes_ Tryd.func20 (by kernel_rfl) rfl #[.pointer (some ⟨p1, 0, none⟩)] (by rfl) rfl rfl (by simp only [List.map_toArray, List.map_cons, List.map_nil]; rfl) ?_
      with_reducible refine (words_n p1 g1 c1 n (R : Int) (C : Int) (tb n (cv2 a b (el l) (el q))) _ HX11.out.a (tb_len _ _) hp (by omega)).mono ?_
      rintro e w12 ⟨h2, dh2, rfl, hm, hb⟩
      refine ⟨_, rfl, ?_⟩
      have HX12 := Aside0.mk (HX11.out.below hb)
      have HM12 := Aside0.mk hm
      clear hHeld hb hm HX11
      refine hK.out _ _ ⟨HX12.out.sh.cell 0, HX12.out.sh.cell 1, ⟨HX12.out.be, HX12.out.sh⟩⟩ (fun hHeld => ?_)
      clear hK K
      refine norm_ (a' := ?_) ?_ ?_
      rotate_left
      · show Act.put _ (some 91) _ = _
        simp only [Act.put, List.setIfInBounds_toArray, List.set_cons_zero, List.set_cons_succ, i64_w, i32_w]
        rfl
      refine one_ (i := 24) (N := some 95) #[true, true, true, true, true, true, true, true, true, true, true, true, true, true, true, true, true, true, true, true, true, true, true, true, true, false, false, false] rfl rfl (by kernel_rfl) (by decide) (fun K hK => ?_)
      refine goes_ Tryd.func27 (by kernel_rfl) rfl #[.slice A n c, .slice B n e0, .agg #[.int .i64 (R : Int), .int .i64 (C : Int)]] (by rfl) rfl rfl (by simp only [List.map_toArray, List.map_cons, List.map_nil]; rfl) ?_
      with_reducible refine (cv_calls HSh.out A B c e0 l q _ (HL0.out.below HX12.out.be) (HQ0.out.below HX12.out.be) HWl.out HWq.out hln hqn).mono ?_
      rintro e w13 ⟨B7, d7, rfl, hI, hb⟩
      refine ⟨_, rfl, ?_⟩
      have HX13 := Aside0.mk (HX12.out.below hb)
      have HM13 := Aside0.mk (HM12.out.below hb)
      have HC13 := Aside0.mk hI
      clear hHeld hb hI HX12 HM12
      refine hK.out _ _ ⟨HX13.out.sh.cell 0, HX13.out.sh.cell 1, ⟨HX13.out.be, HX13.out.sh⟩⟩ (fun hHeld => ?_)
      clear hK K
      refine norm_ (a' := ?_) ?_ ?_
      rotate_left
      · show Act.put _ (some 95) _ = _
        simp only [Act.put, List.setIfInBounds_toArray, List.set_cons_zero, List.set_cons_succ, i64_w, i32_w]
        rfl
      refine one_ (i := 25) (N := some 96) #[true, true, true, true, true, true, true, true, true, true, true, true, true, true, true, true, true, true, true, true, true, true, true, true, true, true, false, false] rfl rfl (by kernel_rfl) (by decide) (fun K hK => ?_)
      refine goes_ Tryd.func19 (by kernel_rfl) rfl #[.slice (some ⟨h2, 0, none⟩) n dh2, .slice B7 n d7] (by rfl) rfl rfl (by simp only [List.map_toArray, List.map_cons, List.map_nil]; rfl) ?_
      with_reducible refine (same_n (some ⟨h2, 0, none⟩) B7 dh2 d7 n (tb n (cv2 a b (el l) (el q))) (tb n (cv2 a b (el l) (el q))) _ HM13.out HC13.out (by omega) (tb_len _ _) rfl).mono ?_
      rintro e w14 ⟨rfl, hb⟩
      refine ⟨_, rfl, ?_⟩
      have HX14 := Aside0.mk (HX13.out.below hb)
      clear hHeld hb HX13 HM13 HC13
      refine hK.out _ _ ⟨HX14.out.sh.cell 0, HX14.out.sh.cell 1, ⟨HX14.out.be, HX14.out.sh⟩⟩ (fun hHeld => ?_)
      clear hK K
      refine norm_ (a' := ?_) ?_ ?_
      rotate_left
      · show Act.put _ (some 96) _ = _
        simp only [Act.put, List.setIfInBounds_toArray, List.set_cons_zero, List.set_cons_succ, i64_w, i32_w]
        rfl
      refine pure_ (i := 26) (N := some 97) (v := ?_) (a' := ?_) #[true, true, true, true, true, true, true, true, true, true, true, true, true, true, true, true, true, true, true, true, true, true, true, true, true, true, true, false] rfl rfl (by kernel_rfl) (fun _ _ _ h => h) (Or.inl ⟨by rfl, ?_⟩) ?_ ?_
      rotate_left
      · intro w'
        go_simp
        with_reducible rfl
      rotate_left
      · simp only [Act.put, List.setIfInBounds_toArray, List.set_cons_zero, List.set_cons_succ, i64_w, i32_w]
        rfl
      refine pure_ (i := 27) (N := some 98) (v := ?_) (a' := ?_) #[true, true, true, true, true, true, true, true, true, true, true, true, true, true, true, true, true, true, true, true, true, true, true, true, true, true, true, true] rfl rfl (by kernel_rfl) (fun _ _ _ h => h) (Or.inl ⟨by rfl, ?_⟩) ?_ ?_
      rotate_left
      · intro w'
        go_simp
        with_reducible rfl
      rotate_left
      · simp only [Act.put, List.setIfInBounds_toArray, List.set_cons_zero, List.set_cons_succ, i64_w, i32_w]
        rfl
      refine done_ (by kernel_rfl) ?_
      clear hHeld HX
      go_wp2_with fail
      with_reducible refine (words_n p3 g3 c3 n (R : Int) (C : Int) (tb n fun i => el (can l) i * el (can q) i) _ HX14.out.c (tb_len _ _) hp (by omega)).mono ?_
      rintro e w15 ⟨h3, dh3, rfl, hm, hb⟩
      have HX15 := Aside0.mk (HX14.out.below hb)
      have HM15 := Aside0.mk hm
      clear hb hm HX14
      go_wp2
      go_loopw [14] (fun v14 wr => ∃ i : Nat, v14 = .int .i64 i ∧ i ≤ n ∧ Aside0 (Cv w wr p1 g1 c1 p2 g2 c2 p3 g3 c3 bs bt (R : Int) (C : Int) T0 T1 (tb n (cv2 a b (el l) (el q))) (can q) (tb n fun i => el (can l) i * el (can q) i)) ∧ Aside0 (In wr (some ⟨h3, 0, none⟩) dh3 (tb n fun i => el (can l) i * el (can q) i))) (fun v14 _ => n - (intOf v14).toNat)
      case atStart => exact ⟨0, rfl, Nat.zero_le _, HX15, HM15⟩
      case round =>
        clear HX15 HM15
        obtain ⟨i, rfl, hi, HX, HM⟩ := hrel
        by_cases h1 : i < n
        · have hia : (i : Int) < (n : Int) := by omega
          have hib : decide ((i : Int) < (n : Int)) = true := decide_eq_true hia
          have hic : decide (i < n) = true := decide_eq_true h1
          have hi0 : (0 : Int) ≤ (i : Int) := by omega
          obtain ⟨ad, qa, hx⟩ := Kd.at_int (HL0.out.below HX.out.be).r (i : Int) (by omega) (by omega)
          obtain ⟨ae, qb, hy⟩ := Kd.at_int (HQ0.out.below HX.out.be).r (i : Int) (by omega) (by omega)
          have hz := (Kd.at_int HM.out.r (i : Int) (by omega) (by rw [tb_len]; omega))
          obtain ⟨af, qf, hz⟩ := hz
          cases qa
          cases qb
          cases qf
          simp only [Int.toNat_natCast] at hx hy hz
          rw [rdn] at hx hy hz
          rw [add_plain] at hz
          rw [tb_get _ h1, HEl.out i (by rw [← HSh.out.pow]; exact h1), HEq.out i (by rw [← HSh.out.pow]; exact h1)] at hz
          have hmu := (rMul (l.getD i 0) (q.getD i 0) (HWl.out i).1 (HWq.out i)).rounds
          obtain ⟨km, hmu⟩ := hmu
          rw [show fv (fo (l.getD i 0) * fo (q.getD i 0)) = fv (el l i * el q i) from rfl] at hmu
          generalize fv (el l i * el q i) = z at *
          generalize l.getD i 0 = x at *
          generalize q.getD i 0 = y at *
          have hzz : (z != z) = false := by simp
          have HX0 := Aside0.mk hx
          have HY0 := Aside0.mk hy
          have HZ0 := Aside0.mk hz
          have HMu := Aside0.mk hmu
          clear hx hy hz hmu
          go_wp2_with fail
          refine start_ (n := 14) (S := fun w' => w'.cell? (ad.add i) = some (.int .u64 x) ∧ w'.cell? (ae.add i) = some (.int .u64 y) ∧ w'.cell? ⟨h3, i, none⟩ = some (.int .u64 z) ∧ Aside0 (Cv w w' p1 g1 c1 p2 g2 c2 p3 g3 c3 bs bt (R : Int) (C : Int) T0 T1 (tb n (cv2 a b (el l) (el q))) (can q) (tb n fun i => el (can l) i * el (can q) i) ∧ In w' (some ⟨h3, 0, none⟩) dh3 (tb n fun i => el (can l) i * el (can q) i))) (ds := []) #[false, false, false, false, false, false, false, false, false, false, false, false, false, false] (by kernel_rfl) rfl rfl ⟨HX0.out, HY0.out, HZ0.out, ⟨HX.out.drew, HM.out.below (below_drew1 (Below.refl _ _))⟩⟩ (fun hHeld => ?_)
          refine pure_ (i := 0) (N := some 107) (v := ?_) (a' := ?_) #[true, false, false, false, false, false, false, false, false, false, false, false, false, false] rfl rfl (by kernel_rfl) (fun _ _ _ h => h) (Or.inl ⟨by rfl, ?_⟩) ?_ ?_
          rotate_left
          · intro w'
            go_simp
            with_reducible rfl
          rotate_left
          · simp only [Act.put, List.setIfInBounds_toArray, List.set_cons_zero, List.set_cons_succ, i64_w, i32_w]
            rfl
          refine pure_ (i := 1) (N := some 108) (v := ?_) (a' := ?_) #[true, true, false, false, false, false, false, false, false, false, false, false, false, false] rfl rfl (by kernel_rfl) (fun _ _ _ h => h) (Or.inl ⟨by rfl, ?_⟩) ?_ ?_
          rotate_left
          · intro w'
            go_simp
            with_reducible rfl
          rotate_left
          · simp only [Act.put, List.setIfInBounds_toArray, List.set_cons_zero, List.set_cons_succ, i64_w, i32_w]
            rfl
          refine pure_ (i := 2) (N := some 109) (v := ?_) (a' := ?_) #[true, true, true, false, false, false, false, false, false, false, false, false, false, false] rfl rfl (by kernel_rfl) (fun _ _ _ h => h) (Or.inl ⟨by rfl, ?_⟩) ?_ ?_
          rotate_left
          · intro w'
            go_simp
            with_reducible rfl
          rotate_left
          · simp only [Act.put, List.setIfInBounds_toArray, List.set_cons_zero, List.set_cons_succ, i64_w, i32_w]
            rfl
          refine pure_ (i := 4) (N := some 111) (v := ?_) (a' := ?_) #[true, true, true, false, true, false, false, false, false, false, false, false, false, false] rfl rfl (by kernel_rfl) (fun _ _ _ h => h) (Or.inl ⟨by rfl, ?_⟩) ?_ ?_
          rotate_left
          · intro w'
            go_simp
            with_reducible rfl
          rotate_left
          · simp only [Act.put, List.setIfInBounds_toArray, List.set_cons_zero, List.set_cons_succ, i64_w, i32_w]
            rfl
          refine pure_ (i := 5) (N := some 112) (v := ?_) (a' := ?_) #[true, true, true, false, true, true, false, false, false, false, false, false, false, false] rfl rfl (by kernel_rfl) (fun _ _ _ h => h) (Or.inl ⟨by rfl, ?_⟩) ?_ ?_
          rotate_left
          · intro w'
            go_simp
            with_reducible rfl
          rotate_left
          · simp only [Act.put, List.setIfInBounds_toArray, List.set_cons_zero, List.set_cons_succ, i64_w, i32_w]
            rfl
          refine pure_ (i := 6) (N := some 113) (v := ?_) (a' := ?_) #[true, true, true, false, true, true, true, false, false, false, false, false, false, false] rfl rfl (by kernel_rfl) (fun _ _ _ h => h) (Or.inl ⟨by rfl, ?_⟩) ?_ ?_
          rotate_left
          · intro w'
            go_simp
            with_reducible rfl
          rotate_left
          · simp only [Act.put, List.setIfInBounds_toArray, List.set_cons_zero, List.set_cons_succ, i64_w, i32_w]
            rfl
          refine pure_ (i := 8) (N := some 115) (v := ?_) (a' := ?_) #[true, true, true, false, true, true, true, false, true, false, false, false, false, false] rfl rfl (by kernel_rfl) (fun _ _ _ h => h) (Or.inl ⟨by rfl, ?_⟩) ?_ ?_
          rotate_left
          · intro w'
            go_simp
            with_reducible rfl
          rotate_left
          · simp only [Act.put, List.setIfInBounds_toArray, List.set_cons_zero, List.set_cons_succ, i64_w, i32_w]
            rfl
          refine pure_ (i := 9) (N := some 116) (v := ?_) (a' := ?_) #[true, true, true, false, true, true, true, false, true, true, false, false, false, false] rfl rfl (by kernel_rfl) (fun _ _ _ h => h) (Or.inl ⟨by rfl, ?_⟩) ?_ ?_
          rotate_left
          · intro w'
            go_simp
            with_reducible rfl
          rotate_left
          · simp only [Act.put, List.setIfInBounds_toArray, List.set_cons_zero, List.set_cons_succ, i64_w, i32_w]
            rfl
          refine pure_ (i := 10) (N := some 117) (v := ?_) (a' := ?_) #[true, true, true, false, true, true, true, false, true, true, true, false, false, false] rfl rfl (by kernel_rfl) (fun _ _ _ h => h) (Or.inl ⟨by rfl, ?_⟩) ?_ ?_
          rotate_left
          · intro w'
            go_simp
            with_reducible rfl
          rotate_left
          · simp only [Act.put, List.setIfInBounds_toArray, List.set_cons_zero, List.set_cons_succ, i64_w, i32_w]
            rfl
          refine take_ (i := 3) (N := some 110) (v := ?_) (a' := ?_) #[true, true, true, true, true, true, true, false, true, true, true, false, false, false] rfl rfl (by kernel_rfl) (fun _ _ _ h => h) (Or.inl ⟨by rfl, ?_⟩) hHeld ?_ ?_
          rotate_left
          · rintro w' ⟨s0, s1, s2, s3⟩
            go_simp
            with_reducible rfl
          rotate_left
          · simp only [Act.put, List.setIfInBounds_toArray, List.set_cons_zero, List.set_cons_succ, i64_w, i32_w]
            rfl
          refine take_ (i := 7) (N := some 114) (v := ?_) (a' := ?_) #[true, true, true, true, true, true, true, true, true, true, true, false, false, false] rfl rfl (by kernel_rfl) (fun _ _ _ h => h) (Or.inl ⟨by rfl, ?_⟩) hHeld ?_ ?_
          rotate_left
          · rintro w' ⟨s0, s1, s2, s3⟩
            go_simp
            with_reducible rfl
          rotate_left
          · simp only [Act.put, List.setIfInBounds_toArray, List.set_cons_zero, List.set_cons_succ, i64_w, i32_w]
            rfl
          refine take_ (i := 11) (N := some 118) (v := ?_) (a' := ?_) #[true, true, true, true, true, true, true, true, true, true, true, true, false, false] rfl rfl (by kernel_rfl) (fun _ _ _ h => h) (Or.inl ⟨by rfl, ?_⟩) hHeld ?_ ?_
          rotate_left
          · rintro w' ⟨s0, s1, s2, s3⟩
            go_simp
            with_reducible rfl
          rotate_left
          · simp only [Act.put, List.setIfInBounds_toArray, List.set_cons_zero, List.set_cons_succ, i64_w, i32_w]
            rfl
          refine one_ (i := 12) (N := some 119) #[true, true, true, true, true, true, true, true, true, true, true, true, true, false] rfl rfl (by kernel_rfl) (by decide) (fun K hK => ?_)
          refine goes_ Tryd.func28 (by kernel_rfl) rfl #[.int .u64 x, .int .u64 y] (by rfl) rfl rfl (by simp only [List.map_toArray, List.map_cons, List.map_nil]; rfl) ?_
          with_reducible refine (abacistref02_Mul.calls km x y z _ HMu.out).mono ?_
          rintro e w20 ⟨rfl, hd⟩
          refine ⟨_, rfl, ?_⟩
          have n0 := pw_cell_below hd.below hHeld.1
          have n1 := pw_cell_below hd.below hHeld.2.1
          have n2 := pw_cell_below hd.below hHeld.2.2.1
          have nX := hHeld.2.2.2.out.1.below hd.below
          have nM := hHeld.2.2.2.out.2.below hd.below
          have HX20 := Aside0.mk nX
          have HM20 := Aside0.mk nM
          clear hHeld hd
          refine hK.out _ _ ⟨n0, n1, n2, ⟨nX, nM⟩⟩ (fun hHeld => ?_)
          clear hK K
          refine norm_ (a' := ?_) ?_ ?_
          rotate_left
          · show Act.put _ (some 119) _ = _
            simp only [Act.put, List.setIfInBounds_toArray, List.set_cons_zero, List.set_cons_succ, i64_w, i32_w]
            rfl
          refine pure_ (i := 13) (N := some 120) (v := ?_) (a' := ?_) #[true, true, true, true, true, true, true, true, true, true, true, true, true, true] rfl rfl (by kernel_rfl) (fun _ _ _ h => h) (Or.inl ⟨by rfl, ?_⟩) ?_ ?_
          rotate_left
          · intro w'
            go_simp
            with_reducible rfl
          rotate_left
          · simp only [Act.put, List.setIfInBounds_toArray, List.set_cons_zero, List.set_cons_succ, i64_w, i32_w]
            rfl
          refine done_ (by kernel_rfl) ?_
          clear hHeld n0 n1 n2 nX nM
          go_wp2
          go_roundw
          case rel => exact ⟨i + 1, by go_num, by omega, HX20, HM20⟩
          case measure => simp [intOf]; omega
        · obtain rfl : i = n := by omega
          have hia : decide ((i : Int) < (i : Int)) = false := decide_eq_false (by omega)
          have hic : decide (i < i) = false := decide_eq_false (by omega)
          go_wp2_with fail
          refine start_ (n := 14) (S := fun w' => w'.cell? ⟨bs, 0, none⟩ = some (.int .i64 (R : Int)) ∧ w'.cell? ⟨bs, 1, none⟩ = some (.int .i64 (C : Int)) ∧ Aside0 (Below w.heap.size w w' ∧ Bk w' bs 23 [.int .i64 (R : Int), .int .i64 (C : Int)])) (ds := []) #[false, false, false, false, false, false, false, false, false, false, false, false, false, false] (by kernel_rfl) rfl rfl ⟨HX.out.drew.sh.cell 0, HX.out.drew.sh.cell 1, ⟨HX.out.drew.be, HX.out.drew.sh⟩⟩ (fun hHeld => ?_)
          refine pure_ (i := 0) (N := some 121) (v := ?_) (a' := ?_) #[true, false, false, false, false, false, false, false, false, false, false, false, false, false] rfl rfl (by kernel_rfl) (fun _ _ _ h => h) (Or.inl ⟨by rfl, ?_⟩) ?_ ?_
          rotate_left
          · intro w'
            go_simp
            with_reducible rfl
          rotate_left
          · simp only [Act.put, List.setIfInBounds_toArray, List.set_cons_zero, List.set_cons_succ, i64_w, i32_w]
            rfl
          refine pure_ (i := 1) (N := some 122) (v := ?_) (a' := ?_) #[true, true, false, false, false, false, false, false, false, false, false, false, false, false] rfl rfl (by kernel_rfl) (fun _ _ _ h => h) (Or.inl ⟨by rfl, ?_⟩) ?_ ?_
          rotate_left
          · intro w'
            go_simp
            with_reducible rfl
          rotate_left
          · simp only [Act.put, List.setIfInBounds_toArray, List.set_cons_zero, List.set_cons_succ, i64_w, i32_w]
            rfl
          refine one_ (i := 2) (N := some 123) #[true, true, true, false, false, false, false, false, false, false, false, false, false, false] rfl rfl (by kernel_rfl) (by decide) (fun K hK => ?_)
          have hcv := gconv_yes R C a b p2 g2 c2 p2 g2 c2 (can q) (can q) HSh.out.r HSh.out.c HSh.out.ab (by rw [hcq]; exact HSh.out.n) rfl (can_ws q) (can_ws q) _ HX.out.drew.b HX.out.drew.b (HT0.out.below hHeld.2.2.out.1)
          rw [HCq.out] at hcv
          refine goes_ Tryd.func25 (by kernel_rfl) rfl #[.pointer (some ⟨p2, 0, none⟩), .pointer (some ⟨p2, 0, none⟩)] (by rfl) rfl rfl (by simp only [List.map_toArray, List.map_cons, List.map_nil]; rfl) ?_
          with_reducible refine (hcv).mono ?_
          rintro e w7 ⟨rfl, hg, hf⟩
          refine ⟨_, rfl, ?_⟩
          clear hcv
          have HX7 := Aside0.mk (HX.out.drew.fb hf hg)
          clear hHeld hg hf
          refine hK.out _ _ ⟨HX7.out.sh.cell 0, HX7.out.sh.cell 1, ⟨HX7.out.be, HX7.out.sh⟩⟩ (fun hHeld => ?_)
          clear hK K
          refine norm_ (a' := ?_) ?_ ?_
          rotate_left
          · show Act.put _ (some 123) _ = _
            simp only [Act.put, List.setIfInBounds_toArray, List.set_cons_zero, List.set_cons_succ, i64_w, i32_w]
            rfl
          refine pure_ (i := 3) (N := some 124) (v := ?_) (a' := ?_) #[true, true, true, true, false, false, false, false, false, false, false, false, false, false] rfl rfl (by kernel_rfl) (fun _ _ _ h => h) (Or.inl ⟨by rfl, ?_⟩) ?_ ?_
          rotate_left
          · intro w'
            go_simp
            with_reducible rfl
          rotate_left
          · simp only [Act.put, List.setIfInBounds_toArray, List.set_cons_zero, List.set_cons_succ, i64_w, i32_w]
            rfl
          refine pure_ (i := 4) (N := some 125) (v := ?_) (a' := ?_) #[true, true, true, true, true, false, false, false, false, false, false, false, false, false] rfl rfl (by kernel_rfl) (fun _ _ _ h => h) (Or.inl ⟨by rfl, ?_⟩) ?_ ?_
          rotate_left
          · intro w'
            go_simp
            with_reducible rfl
          rotate_left
          · simp only [Act.put, List.setIfInBounds_toArray, List.set_cons_zero, List.set_cons_succ, i64_w, i32_w]
            rfl
          refine pure_ (i := 5) (N := some 126) (v := ?_) (a' := ?_) #[true, true, true, true, true, true, false, false, false, false, false, false, false, false] rfl rfl (by kernel_rfl) (fun _ _ _ h => h) (Or.inl ⟨by rfl, ?_⟩) ?_ ?_
          rotate_left
          · intro w'
            go_simp
            with_reducible rfl
          rotate_left
          · simp only [Act.put, List.setIfInBounds_toArray, List.set_cons_zero, List.set_cons_succ, i64_w, i32_w]
            rfl
          refine pure_ (i := 7) (N := some 128) (v := ?_) (a' := ?_) #[true, true, true, true, true, true, false, true, false, false, false, false, false, false] rfl rfl (by kernel_rfl) (fun _ _ _ h => h) (Or.inl ⟨by rfl, ?_⟩) ?_ ?_
          rotate_left
          · intro w'
            go_simp
            with_reducible rfl
          rotate_left
          · simp only [Act.put, List.setIfInBounds_toArray, List.set_cons_zero, List.set_cons_succ, i64_w, i32_w]
            rfl
          refine pure_ (i := 8) (N := some 129) (v := ?_) (a' := ?_) #[true, true, true, true, true, true, false, true, true, false, false, false, false, false] rfl rfl (by kernel_rfl) (fun _ _ _ h => h) (Or.inl ⟨by rfl, ?_⟩) ?_ ?_
          rotate_left
          · intro w'
            go_simp
            with_reducible rfl
          rotate_left
          · simp only [Act.put, List.setIfInBounds_toArray, List.set_cons_zero, List.set_cons_succ, i64_w, i32_w]
            rfl
          refine take_ (i := 9) (N := some 130) (v := ?_) (a' := ?_) #[true, true, true, true, true, true, false, true, true, true, false, false, false, false] rfl rfl (by kernel_rfl) (fun _ _ _ h => h) (Or.inl ⟨by rfl, ?_⟩) hHeld ?_ ?_
          rotate_left
          · rintro w' ⟨s0, s1, s2⟩
            go_simp
            with_reducible rfl
          rotate_left
          · simp only [Act.put, List.setIfInBounds_toArray, List.set_cons_zero, List.set_cons_succ, i64_w, i32_w]
            rfl
          refine one_ (i := 6) (N := some 127) #[true, true, true, true, true, true, true, true, true, true, false, false, false, false] rfl rfl (by kernel_rfl) (by decide) (fun K hK => ?_)
          refine goes_ Tryd.func20 (by kernel_rfl) rfl #[.pointer (some ⟨p2, 0, none⟩)] (by rfl) rfl rfl (by simp only [List.map_toArray, List.map_cons, List.map_nil]; rfl) ?_
          with_reducible refine (words_n p2 g2 c2 i (R : Int) (C : Int) (tb i (cv2 a b (el q) (el q))) _ HX7.out.b (tb_len _ _) hp (by omega)).mono ?_
          rintro e w12 ⟨h2, dh2, rfl, hm, hb⟩
          refine ⟨_, rfl, ?_⟩
          have HX12 := Aside0.mk (HX7.out.below hb)
          have HM12 := Aside0.mk hm
          clear hHeld hb hm HX7
          refine hK.out _ _ ⟨HX12.out.sh.cell 0, HX12.out.sh.cell 1, ⟨HX12.out.be, HX12.out.sh⟩⟩ (fun hHeld => ?_)
          clear hK K
          refine norm_ (a' := ?_) ?_ ?_
          rotate_left
          · show Act.put _ (some 127) _ = _
            simp only [Act.put, List.setIfInBounds_toArray, List.set_cons_zero, List.set_cons_succ, i64_w, i32_w]
            rfl
          refine one_ (i := 10) (N := some 131) #[true, true, true, true, true, true, true, true, true, true, true, false, false, false] rfl rfl (by kernel_rfl) (by decide) (fun K hK => ?_)
          refine goes_ Tryd.func27 (by kernel_rfl) rfl #[.slice B i e0, .slice B i e0, .agg #[.int .i64 (R : Int), .int .i64 (C : Int)]] (by rfl) rfl rfl (by simp only [List.map_toArray, List.map_cons, List.map_nil]; rfl) ?_
          with_reducible refine (cv_calls HSh.out B B e0 e0 q q _ (HQ0.out.below HX12.out.be) (HQ0.out.below HX12.out.be) HWq.out HWq.out hqn hqn).mono ?_
          rintro e w13 ⟨B7, d7, rfl, hI, hb⟩
          refine ⟨_, rfl, ?_⟩
          have HX13 := Aside0.mk (HX12.out.below hb)
          have HM13 := Aside0.mk (HM12.out.below hb)
          have HC13 := Aside0.mk hI
          clear hHeld hb hI HX12 HM12
          refine hK.out _ _ ⟨HX13.out.sh.cell 0, HX13.out.sh.cell 1, ⟨HX13.out.be, HX13.out.sh⟩⟩ (fun hHeld => ?_)
          clear hK K
          refine norm_ (a' := ?_) ?_ ?_
          rotate_left
          · show Act.put _ (some 131) _ = _
            simp only [Act.put, List.setIfInBounds_toArray, List.set_cons_zero, List.set_cons_succ, i64_w, i32_w]
            rfl
          refine one_ (i := 11) (N := some 132) #[true, true, true, true, true, true, true, true, true, true, true, true, false, false] rfl rfl (by kernel_rfl) (by decide) (fun K hK => ?_)
          refine goes_ Tryd.func19 (by kernel_rfl) rfl #[.slice (some ⟨h2, 0, none⟩) i dh2, .slice B7 i d7] (by rfl) rfl rfl (by simp only [List.map_toArray, List.map_cons, List.map_nil]; rfl) ?_
          with_reducible refine (same_n (some ⟨h2, 0, none⟩) B7 dh2 d7 i (tb i (cv2 a b (el q) (el q))) (tb i (cv2 a b (el q) (el q))) _ HM13.out HC13.out (by omega) (tb_len _ _) rfl).mono ?_
          rintro e w14 ⟨rfl, hb⟩
          refine ⟨_, rfl, ?_⟩
          have HX14 := Aside0.mk (HX13.out.below hb)
          clear hHeld hb HX13 HM13 HC13
          refine hK.out _ _ ⟨HX14.out.sh.cell 0, HX14.out.sh.cell 1, ⟨HX14.out.be, HX14.out.sh⟩⟩ (fun hHeld => ?_)
          clear hK K
          refine norm_ (a' := ?_) ?_ ?_
          rotate_left
          · show Act.put _ (some 132) _ = _
            simp only [Act.put, List.setIfInBounds_toArray, List.set_cons_zero, List.set_cons_succ, i64_w, i32_w]
            rfl
          refine pure_ (i := 12) (N := some 133) (v := ?_) (a' := ?_) #[true, true, true, true, true, true, true, true, true, true, true, true, true, false] rfl rfl (by kernel_rfl) (fun _ _ _ h => h) (Or.inl ⟨by rfl, ?_⟩) ?_ ?_
          rotate_left
          · intro w'
            go_simp
            with_reducible rfl
          rotate_left
          · simp only [Act.put, List.setIfInBounds_toArray, List.set_cons_zero, List.set_cons_succ, i64_w, i32_w]
            rfl
          refine pure_ (i := 13) (N := some 8) (v := ?_) (a' := ?_) #[true, true, true, true, true, true, true, true, true, true, true, true, true, true] rfl rfl (by kernel_rfl) (fun _ _ _ h => h) (Or.inl ⟨by rfl, ?_⟩) ?_ ?_
          rotate_left
          · intro w'
            go_simp
            with_reducible rfl
          rotate_left
          · simp only [Act.put, List.setIfInBounds_toArray, List.set_cons_zero, List.set_cons_succ, i64_w, i32_w]
            rfl
          refine done_ (by kernel_rfl) ?_
          clear hHeld HX
          go_wp2
          go_ret
          exact ⟨rfl, HX14.out.be⟩
theorem GridConvolvesRow (a0_0 a0_1 : Int) (a1 : Option Addr) (len1 cap1 : Nat) (z1 : List Int) (a2 : Option Addr) (len2 cap2 : Nat) (z2 : List Int) (a3_0 a3_1 : Int) (w : World)
    (w1 : (a1 = none ∧ len1 = 0 ∧ cap1 = 0 ∧ z1 = []) ∨ ∃ x, a1 = some x ∧ len1 ≤ cap1 ∧ cap1 ≤ maxLen ∧ z1.length = cap1 ∧ (∀ i, i < z1.length → w.cell? (x.add i) = some (.int .u64 (z1.getD i 0))) ∧ ∀ n ∈ z1, (Lit.int .u64 n).wf = true)
    (w2 : (a2 = none ∧ len2 = 0 ∧ cap2 = 0 ∧ z2 = []) ∨ ∃ x, a2 = some x ∧ len2 ≤ cap2 ∧ cap2 ≤ maxLen ∧ z2.length = cap2 ∧ (∀ i, i < z2.length → w.cell? (x.add i) = some (.int .u64 (z2.getD i 0))) ∧ ∀ n ∈ z2, (Lit.int .u64 n).wf = true) (hT : TabOK w) :
    Calls Tryd.prog 4 #[.agg #[.int .i64 a0_0, .int .i64 a0_1], .slice a1 len1 cap1, .slice a2 len2 cap2, .agg #[.int .i64 a3_0, .int .i64 a3_1]] w fun e w' => e = .returned (.bool true) ∧ Below w.heap.size w w' := by
  obtain ⟨l, rfl, hl, hW⟩ := In.of w1
  obtain ⟨q, rfl, hq, hV⟩ := In.of w2
  by_cases h1 : l.length ≤ 64 ∧ GoodS a0_0 a0_1 ∧ a0_0 * a0_1 = (l.length : Int)
  · by_cases h2 : q.length ≤ 64 ∧ GoodS a0_0 a0_1 ∧ a0_0 * a0_1 = (q.length : Int)
    · have hlq : q.length = l.length := by have h3 := h1.2.2; have h4 := h2.2.2; omega
      have h64 := h1.1
      clear h2
      obtain ⟨a, b, hab, rfl, rfl⟩ := good_ints h1.2.1
      have hRC : 2 ^ a * 2 ^ b = l.length := by exact_mod_cast h1.2.2
      have hab2 : a + b ≤ 20 := by
        rcases Nat.lt_or_ge 20 (a + b) with h | h
        · have := pow_mono (show 21 ≤ a + b by omega)
          rw [← Nat.pow_add] at hRC
          have e : (2 : Nat) ^ 21 = 2097152 := by decide
          omega
        · exact h
      have hsh : Sh (2 ^ a) (2 ^ b) a b l.length := ⟨rfl, rfl, hab2, hRC⟩
      have h := cv_yes a1 a2 cap1 cap2 l q (2 ^ a) (2 ^ b) a b l.length a3_0 a3_1 w hl hq hW hV rfl hlq hsh h64 hT
      rw [hlq]
      exact h
    · exact cv_nil2 a1 a2 cap1 cap2 l q a0_0 a0_1 a3_0 a3_1 w hl hq hW hV h1 h2 hT
  · exact cv_nil1 a1 a2 cap1 cap2 l q a0_0 a0_1 a3_0 a3_1 w hl hq hW hV h1 hT
end Go.Proofs.YtpnkcjnemoompaaDoor.Grid
end
