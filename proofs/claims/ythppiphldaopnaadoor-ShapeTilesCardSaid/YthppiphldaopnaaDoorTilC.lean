import Derived.Test.YthppiphldaopnaaDoorTilB
import Derived.Test.YthppiphldaopnaaDoorObj
import Derived.Test.YthppiphldaopnaaDoorPShapex1
import Derived.Test.YthppiphldaopnaaDoorPShapex2
import Derived.Test.YthppiphldaopnaaDoorPShapex4
import Derived.BigQuiet
import Derived.Deep.QuietTactic
import Derived.StillTailTactics
import Derived.Deep.DeepCutAuto
import Derived.Deep.CutBlock
import Derived.Outline
/-! Tiles: the law. -/
namespace Go.Proofs.YthppiphldaopnaaDoor.Tiles
open Go.RowKit Go.Proofs.YthppiphldaopnaaDoor Go.Proofs.YthppiphldaopnaaDoor.Ext Go.Proofs.YthppiphldaopnaaDoor.PShape Go.Proofs.YthppiphldaopnaaDoor.PTil Go.Proofs.YthppiphldaopnaaDoor.Pure Go.Proofs.YthppiphldaopnaaDoor.Obj Go.Proofs.YthppiphldaopnaaDoorW.PrintWords Go.Proofs.YthppiphldaopnaaDoorW.PrintLast Go.Proofs.YthppiphldaopnaaDoorW.PrintMore
set_option linter.unusedVariables false
set_option linter.unusedSimpArgs false
set_option maxRecDepth 100000

theorem size38 : (Tryd.prog.info? 38).map (·.size) = some 4 := by kernel_rfl
structure Tst (w0 w : World) (t q : Nat) (R C : Nat) (v : Value) (ts : List S38) (ms : List Int) : Prop where
  box : Bk w t 26 [.int .i64 R, .int .i64 C]
  lst : Kd.R k38 38 w w0.heap.size (fun _ => True) v ts
  met : Bk w q 36 (nums .i64 ms)
  be : Below w0.heap.size w0 w
  new : w0.heap.size ≤ q
theorem Tst.below {w0 w w1 : World} {t q R C : Nat} {v : Value} {ts : List S38} {ms : List Int} (h : Tst w0 w t q R C v ts ms) (hb : Below w.heap.size w w1) : Tst w0 w1 t q R C v ts ms :=
  ⟨h.box.below hb, Kd.R_below h.lst hb, h.met.below hb, below_then h.be h.be.size hb, h.new⟩
theorem Tst.set {w0 w : World} {t q R C : Nat} {v : Value} {ts : List S38} {ms : List Int} (h : Tst w0 w t q R C v ts ms) (j : Nat) (x : Int) : Tst w0 (w.setCell ⟨q, j, none⟩ (.int .i64 x)) t q R C v ts (ms.set j x) :=
  ⟨h.box.far j _ (h.box.ne h.met (by decide)), Kd.R_set h.lst h.met (show ∀ z ∈ 38 :: PTil.k38.E, z ≠ 36 by decide) j _, by have := h.met.put j (.int .i64 x); simpa [nums, List.map_set] using this, h.be.setCell (p := ⟨q, j, none⟩) h.new _, h.new⟩
theorem Tst.cell {w0 w : World} {t q R C : Nat} {v : Value} {ts : List S38} {ms : List Int} (h : Tst w0 w t q R C v ts ms) (j : Nat) (hj : j < ms.length) : w.cell? ⟨q, j, none⟩ = some (.int .i64 (ms.getD j 0)) := by
  rw [h.met.cell j]; simp [nums, hj]
/-- One tile in memory. -/
theorem tile_at {w : World} {ad : Addr} {n M ca base : Nat} {R C h v : Nat} (hL : Kd.R k38 38 w base (fun _ => True) (.slice (some ad) n ca) (tl R C h v M)) (m : Nat) (hm : m < M) {a b r c : Nat} (e : T R C h v (m / pt C v) (m % pt C v) = ⟨⟨(a : Int), (b : Int)⟩, (r : Int), (c : Int)⟩) :
    w.cell? (ad.add (m * 4)) = some (.int .i64 a) ∧ w.cell? ⟨(ad.add (m * 4)).block, (ad.add (m * 4)).off + 1, none⟩ = some (.int .i64 b) ∧ w.cell? ⟨(ad.add (m * 4)).block, (ad.add (m * 4)).off + 2, none⟩ = some (.int .i64 r) ∧ w.cell? ⟨(ad.add (m * 4)).block, (ad.add (m * 4)).off + 3, none⟩ = some (.int .i64 c) := by
  obtain ⟨hn, hc, hC⟩ := Kd.R_reads' hL
  rw [tl_len] at hC
  obtain ⟨ad', q, h0, h1, h2, h3⟩ := at_T38 hC (m : Int) (by omega) (by omega)
  cases q
  have hr : rd_T38 (tl R C h v M) (m : Int) = ⟨⟨(a : Int), (b : Int)⟩, (r : Int), (c : Int)⟩ := by
    unfold rd_T38
    rw [Int.toNat_natCast, ← e]
    simp [tl, hm]
  rw [hr] at h0 h1 h2 h3
  rw [Int.toNat_natCast] at h0 h1 h2 h3
  exact ⟨h0, h1, h2, h3⟩
theorem adr_some {w : World} {A : Option Addr} {n M : Nat} {R C h v : Nat} (hC : Kd.C k38 w A n (tl R C h v M)) (hn : n = M) (hM : 1 ≤ M) : ∃ ad, A = some ad := by
  obtain ⟨ad, q, _⟩ := at_T38 hC (0 : Int) (by omega) (by omega)
  exact ⟨ad, q⟩
/-- The state with a tile read. -/
structure T5 (w0 w : World) (t q u : Nat) (R C : Nat) (a b r c : Nat) (v : Value) (ts : List S38) (ms : List Int) : Prop where
  st : Tst w0 w t q R C v ts ms
  til : Bk w u 38 [.int .i64 a, .int .i64 b, .int .i64 r, .int .i64 c]
theorem T5.below {w0 w w1 : World} {t q u R C a b r c : Nat} {v : Value} {ts : List S38} {ms : List Int} (h : T5 w0 w t q u R C a b r c v ts ms) (hb : Below w.heap.size w w1) : T5 w0 w1 t q u R C a b r c v ts ms := ⟨h.st.below hb, h.til.below hb⟩
theorem T5.drew {w0 w : World} {t q u R C a b r c : Nat} {v : Value} {ts : List S38} {ms : List Int} (h : T5 w0 w t q u R C a b r c v ts ms) : T5 w0 w.drew t q u R C a b r c v ts ms := h.below (below_drew1 (Below.refl _ _))
theorem T5.set {w0 w : World} {t q u R C a b r c : Nat} {v : Value} {ts : List S38} {ms : List Int} (h : T5 w0 w t q u R C a b r c v ts ms) (j : Nat) (x : Int) : T5 w0 (w.setCell ⟨q, j, none⟩ (.int .i64 x)) t q u R C a b r c v ts (ms.set j x) := ⟨h.st.set j x, h.til.far j _ (h.til.ne h.st.met (by decide))⟩
theorem T5.new {w0 w : World} {t q R C a b r c : Nat} {v : Value} {ts : List S38} {ms : List Int} (h : Tst w0 w t q R C v ts ms) : T5 w0 (w.alloc (.cells #[.int .i64 a, .int .i64 b, .int .i64 r, .int .i64 c] 38)) t q w.heap.size R C a b r c v ts ms :=
  ⟨h.below (below_alloc (Below.refl _ _) _), Bk.new w 38 [.int .i64 a, .int .i64 b, .int .i64 r, .int .i64 c]⟩
theorem rep0 (n i : Nat) : (List.replicate n (0 : Int)).getD i 0 = 0 := by
  simp only [List.getD, List.getElem?_replicate]
  split <;> rfl
theorem zeros36 : Tryd.zeroCells36 = (nums .i64 (List.replicate 256 0)).toArray := by kernel_rfl
theorem meas_ (n y : Nat) (h : y < n) (e : wrap64 ((y : Int) + 1) = ((y + 1 : Nat) : Int)) : n - (intOf (.int .i64 (wrap64 ((y : Int) + 1)))).toNat < n - (intOf (.int .i64 (y : Int))).toNat := by
  rw [e]
  show n - (((y + 1 : Nat) : Int)).toNat < n - ((y : Int)).toNat
  rw [Int.toNat_natCast, Int.toNat_natCast]
  omega
theorem plt_ {R C i j : Nat} (hi : i < R) (hj : j < C) : i * C + j < R * C := by
  have : (i + 1) * C ≤ R * C := Nat.mul_le_mul_right _ hi
  rw [Nat.add_mul] at this
  omega
theorem widx_ (i C j m : Nat) (h : i * C + j < m) (hm : m ≤ 65536) : wrap64 (wrap64 ((i : Int) * (C : Int)) + (j : Int)) = ((i * C + j : Nat) : Int) := by
  rw [show (i : Int) * (C : Int) = ((i * C : Nat) : Int) by rw [Int.natCast_mul]]
  generalize i * C = y at *
  unfold wrap64
  omega
theorem wr_small (z : Nat) (h : z ≤ 65536) : wrap64 (z : Int) = (z : Int) := wrap_small z h
theorem add_w {a b z : Nat} (e : a + b = z) (h : z ≤ 65536) : wrap64 ((a : Int) + (b : Int)) = (z : Int) := by rw [← Int.natCast_add, e, wrap_small z h]
theorem sub_w2 {a b z : Nat} (e : a = b + z) (h : a ≤ 65536) : wrap64 ((a : Int) - (b : Int)) = (z : Int) := by rw [show (a : Int) - (b : Int) = (z : Int) by omega, wrap_small z (by omega)]
set_option maxHeartbeats 8000000 in
theorem tiles_in (R C h v : Nat) (w : World) (hg : GoodS R C) (hRC : R * C ≤ 256) (hh : 1 ≤ h) (hw : 1 ≤ v) (hT : TabOK w) :
    Calls Tryd.prog 4 #[.agg #[.int .i64 R, .int .i64 C], .int .i64 h, .int .i64 v] w fun e w1 => e = .returned (.bool true) ∧ Below w.heap.size w w1 := by
  obtain ⟨gx, gy, gxe, gye, gx0, gy0, _⟩ := good_bounds hg
  have hR : 1 ≤ R := by omega
  have hC : 1 ≤ C := by omega
  clear gxe gye gx0 gy0
  have hR2 : R ≤ 256 := by have : R * 1 ≤ R * C := Nat.mul_le_mul_left _ hC
                           omega
  have hC2 : C ≤ 256 := by have : 1 * C ≤ R * C := Nat.mul_le_mul_right _ hR
                           omega
  have hCz : C ≤ 256 / R := (Nat.le_div_iff_mul_le (by omega)).2 (by rw [Nat.mul_comm]; exact hRC)
  have hz2 : 256 / R ≤ 256 := Nat.div_le_self _ _
  obtain ⟨z, hz⟩ : ∃ z, 256 / R = z := ⟨_, rfl⟩
  have e1 : Int.tdiv (256 : Int) (R : Int) = (z : Int) := by rw [← hz]; exact Int.ofNat_tdiv 256 R
  have e1' : (256 : Int) / (R : Int) = (z : Int) := by rw [← hz, Int.natCast_ediv]; rfl
  rw [hz] at hCz hz2
  have e2 := wrap_small z (by omega)
  obtain ⟨k1, h1⟩ := (rgood_yes R C hg).rounds
  obtain ⟨k2, h2⟩ := (tiles_ok R C h v hR hC hh hw hR2 hC2 hg hRC).rounds
  have b1 : decide (256 < (R : Int)) = false := decide_eq_false (by clear e1 e1' e2; omega)
  have b1' : decide (256 < R) = false := decide_eq_false (by clear e1 e1' e2; omega)
  have b2 : decide ((z : Int) < (C : Int)) = false := decide_eq_false (by clear e1 e1' e2; omega)
  have b2' : decide (z < C) = false := decide_eq_false (by clear e1 e1' e2; omega)
  have b3 : decide ((h : Int) < 1) = false := decide_eq_false (by clear e1 e1' e2; omega)
  have b3' : decide (h < 1) = false := decide_eq_false (by clear e1 e1' e2; omega)
  have b4 : decide ((v : Int) < 1) = false := decide_eq_false (by clear e1 e1' e2; omega)
  have b4' : decide (v < 1) = false := decide_eq_false (by clear e1 e1' e2; omega)
  have hR0 : ¬ R = 0 := by clear e1 e1' e2; omega
  have K1 := Aside0.mk h1
  have K2 := Aside0.mk h2
  have HG := Aside0.mk hg
  have HT := Aside0.mk hT
  have HRC := Aside0.mk hRC
  have HHV := Aside0.mk (And.intro hh hw)
  have HR : Aside0 (1 ≤ R ∧ 1 ≤ C) := ⟨⟨hR, hC⟩⟩
  have HBe0 := Aside0.mk (below_alloc (Below.refl w.heap.size w) (Obj.cells #[.int .i64 (R : Int), .int .i64 (C : Int)] 26))
  have HX0 := Aside0.mk (Bk.new w 26 [.int .i64 R, .int .i64 C])
  clear h1 h2 hg hT hRC hh hw hz hCz hz2 hR hC
  go_enter Tryd.func4, Tryd.ntmps4
  go_wp2_with fail
  refine (abacistlaw06_awake.calls true _ sawake_ (TabOK.below HT.out HBe0.out)).mono ?_
  rintro e w1 ⟨rfl, hb⟩
  have HB1 := Aside0.mk (below_then HBe0.out HBe0.out.size hb)
  have HX1 := Aside0.mk (HX0.out.below hb)
  clear hb HBe0 HX0
  have c0' := HX1.out.cell 0
  have c1' := HX1.out.cell 1
  go_wp2_with fail
  refine (abacistref06_Good.calls k1 R C true _ K1.out).mono ?_
  rintro e w2 ⟨rfl, hb⟩
  have HB2 := Aside0.mk (below_then HB1.out HB1.out.size hb)
  have HX2 := Aside0.mk (HX1.out.below hb)
  clear hb HB1 HX1 c0' c1'
  have c0' := HX2.out.cell 0
  have c1' := HX2.out.cell 1
  go_wp2_with fail
  refine start_ (n := 14) (S := fun w' => w'.cell? ⟨w.heap.size, 0, none⟩ = some (.int .i64 (R : Int)) ∧ w'.cell? ⟨w.heap.size, 1, none⟩ = some (.int .i64 (C : Int))) (ds := []) #[false, false, false, false, false, false, false, false, false, false, false, false, false, false] (by kernel_rfl) rfl rfl ⟨c0', c1'⟩ (fun hHeld => ?_)
  refine pure_ (i := 0) (N := some 20) (v := ?_) (a' := ?_) #[true, false, false, false, false, false, false, false, false, false, false, false, false, false] rfl rfl (by kernel_rfl) (fun _ _ _ h => h) (Or.inl ⟨by rfl, ?_⟩) ?_ ?_
  rotate_left
  · intro w'
    go_simp
    with_reducible rfl
  rotate_left
  · simp only [Act.put, List.setIfInBounds_toArray, List.set_cons_zero, List.set_cons_succ, i64_w, i32_w]
    rfl
  refine pure_ (i := 1) (N := some 21) (v := ?_) (a' := ?_) #[true, true, false, false, false, false, false, false, false, false, false, false, false, false] rfl rfl (by kernel_rfl) (fun _ _ _ h => h) (Or.inl ⟨by rfl, ?_⟩) ?_ ?_
  rotate_left
  · intro w'
    go_simp
    with_reducible rfl
  rotate_left
  · simp only [Act.put, List.setIfInBounds_toArray, List.set_cons_zero, List.set_cons_succ, i64_w, i32_w]
    rfl
  refine pure_ (i := 2) (N := some 22) (v := ?_) (a' := ?_) #[true, true, true, false, false, false, false, false, false, false, false, false, false, false] rfl rfl (by kernel_rfl) (fun _ _ _ h => h) (Or.inl ⟨by rfl, ?_⟩) ?_ ?_
  rotate_left
  · intro w'
    go_simp
    with_reducible rfl
  rotate_left
  · simp only [Act.put, List.setIfInBounds_toArray, List.set_cons_zero, List.set_cons_succ, i64_w, i32_w]
    rfl
  refine take_ (i := 3) (N := some 23) (v := ?_) (a' := ?_) #[true, true, true, true, false, false, false, false, false, false, false, false, false, false] rfl rfl (by kernel_rfl) (fun _ _ _ h => h) (Or.inl ⟨by rfl, ?_⟩) hHeld ?_ ?_
  rotate_left
  · rintro w' ⟨s0, s1⟩
    go_simp
    with_reducible rfl
  rotate_left
  · simp only [Act.put, List.setIfInBounds_toArray, List.set_cons_zero, List.set_cons_succ, i64_w, i32_w]
    rfl
  refine pure_ (i := 4) (N := some 24) (v := ?_) (a' := ?_) #[true, true, true, true, true, false, false, false, false, false, false, false, false, false] rfl rfl (by kernel_rfl) (fun _ _ _ h => h) (Or.inl ⟨by rfl, ?_⟩) ?_ ?_
  rotate_left
  · intro w'
    go_simp
    with_reducible rfl
  rotate_left
  · simp only [Act.put, List.setIfInBounds_toArray, List.set_cons_zero, List.set_cons_succ, i64_w, i32_w]
    rfl
  refine pure_ (i := 5) (N := some 25) (v := ?_) (a' := ?_) #[true, true, true, true, true, true, false, false, false, false, false, false, false, false] rfl rfl (by kernel_rfl) (fun _ _ _ h => h) (Or.inl ⟨by rfl, ?_⟩) ?_ ?_
  rotate_left
  · intro w'
    go_simp
    with_reducible rfl
  rotate_left
  · simp only [Act.put, List.setIfInBounds_toArray, List.set_cons_zero, List.set_cons_succ, i64_w, i32_w]
    rfl
  refine pure_ (i := 6) (N := some 26) (v := ?_) (a' := ?_) #[true, true, true, true, true, true, true, false, false, false, false, false, false, false] rfl rfl (by kernel_rfl) (fun _ _ _ h => h) (Or.inl ⟨by rfl, ?_⟩) ?_ ?_
  rotate_left
  · intro w'
    go_simp
    with_reducible rfl
  rotate_left
  · simp only [Act.put, List.setIfInBounds_toArray, List.set_cons_zero, List.set_cons_succ, i64_w, i32_w]
    rfl
  refine pure_ (i := 8) (N := some 28) (v := ?_) (a' := ?_) #[true, true, true, true, true, true, true, false, true, false, false, false, false, false] rfl rfl (by kernel_rfl) (fun _ _ _ h => h) (Or.inl ⟨by rfl, ?_⟩) ?_ ?_
  rotate_left
  · intro w'
    go_simp
    with_reducible rfl
  rotate_left
  · simp only [Act.put, List.setIfInBounds_toArray, List.set_cons_zero, List.set_cons_succ, i64_w, i32_w]
    rfl
  refine take_ (i := 7) (N := some 27) (v := ?_) (a' := ?_) #[true, true, true, true, true, true, true, true, true, false, false, false, false, false] rfl rfl (by kernel_rfl) (fun _ _ _ h => h) (Or.inl ⟨by rfl, ?_⟩) hHeld ?_ ?_
  rotate_left
  · rintro w' ⟨s0, s1⟩
    go_simp
    with_reducible rfl
  rotate_left
  · simp only [Act.put, List.setIfInBounds_toArray, List.set_cons_zero, List.set_cons_succ, i64_w, i32_w]
    rfl
  refine take_ (i := 9) (N := some 29) (v := ?_) (a' := ?_) #[true, true, true, true, true, true, true, true, true, true, false, false, false, false] rfl rfl (by kernel_rfl) (fun _ _ _ h => h) (Or.inl ⟨by rfl, ?_⟩) hHeld ?_ ?_
  rotate_left
  · rintro w' ⟨s0, s1⟩
    go_simp
    with_reducible rfl
  rotate_left
  · simp only [Act.put, List.setIfInBounds_toArray, List.set_cons_zero, List.set_cons_succ, i64_w, i32_w]
    rfl
  refine pure_ (i := 10) (N := some 30) (v := ?_) (a' := ?_) #[true, true, true, true, true, true, true, true, true, true, true, false, false, false] rfl rfl (by kernel_rfl) (fun _ _ _ h => h) (Or.inl ⟨by rfl, ?_⟩) ?_ ?_
  rotate_left
  · intro w'
    go_simp
    with_reducible rfl
  rotate_left
  · simp only [Act.put, List.setIfInBounds_toArray, List.set_cons_zero, List.set_cons_succ, i64_w, i32_w]
    rfl
  refine pure_ (i := 11) (N := some 31) (v := ?_) (a' := ?_) #[true, true, true, true, true, true, true, true, true, true, true, true, false, false] rfl rfl (by kernel_rfl) (fun _ _ _ h => h) (Or.inl ⟨by rfl, ?_⟩) ?_ ?_
  rotate_left
  · intro w'
    go_simp
    with_reducible rfl
  rotate_left
  · simp only [Act.put, List.setIfInBounds_toArray, List.set_cons_zero, List.set_cons_succ, i64_w, i32_w]
    rfl
  refine pure_ (i := 12) (N := some 32) (v := ?_) (a' := ?_) #[true, true, true, true, true, true, true, true, true, true, true, true, true, false] rfl rfl (by kernel_rfl) (fun _ _ _ h => h) (Or.inl ⟨by rfl, ?_⟩) ?_ ?_
  rotate_left
  · intro w'
    go_simp
    with_reducible rfl
  rotate_left
  · simp only [Act.put, List.setIfInBounds_toArray, List.set_cons_zero, List.set_cons_succ, i64_w, i32_w]
    rfl
  refine pure_ (i := 13) (N := some 33) (v := ?_) (a' := ?_) #[true, true, true, true, true, true, true, true, true, true, true, true, true, true] rfl rfl (by kernel_rfl) (fun _ _ _ h => h) (Or.inl ⟨by rfl, ?_⟩) ?_ ?_
  rotate_left
  · intro w'
    go_simp
    with_reducible rfl
  rotate_left
  · simp only [Act.put, List.setIfInBounds_toArray, List.set_cons_zero, List.set_cons_succ, i64_w, i32_w]
    rfl
  refine done_ (by kernel_rfl) ?_

  clear hHeld e1 e1' e2
  go_wp2_with fail
  refine (shape_Tiles.calls k2 R C h v _ _ _ K2.out (TabOK.below HT.out (HB2.out.trans (below_drew1 (Below.refl _ _))))).mono ?_
  rintro e w3 ⟨va, rfl, hR3, hb⟩
  have HB3 := Aside0.mk (below_then (HB2.out.trans (below_drew1 (Below.refl _ _))) HB2.out.size hb)
  have HX3 := Aside0.mk (HX2.out.drew.below hb)
  obtain ⟨A, ca, rfl, hca, hCa⟩ := Kd.R_reads hR3
  have HL3 := Aside0.mk (Kd.R_lower hR3 HB2.out.size)
  clear hb HB2 HX2 c0' c1'
  obtain ⟨M, hM⟩ : ∃ M, pt R h * pt C v = M := ⟨_, rfl⟩
  rw [tl_len] at hca hCa ⊢
  have hM1 : 1 ≤ M := by rw [← hM]; exact Nat.mul_le_mul (m₁ := 1) (n₁ := 1) (Nat.le_add_left 1 _) (Nat.le_add_left 1 _)
  obtain ⟨ad, rfl⟩ := adr_some hCa rfl (hM ▸ hM1)
  clear hCa hca hR3
  rw [hM] at HL3
  rw [tl_len] at HL3
  have HM := Aside0.mk hM
  rw [hM]
  have hM2 : M ≤ 65536 := by
    have h1 := pt_le (n := R) (h := h) (by have := HR.out; omega)
    have h2 := pt_le (n := C) (h := v) (by have := HR.out; omega)
    have h3 : pt R h * pt C v ≤ 256 * 256 := Nat.mul_le_mul (by omega) (by omega)
    omega
  clear hM hM1
  go_wp2_with fail
  have HS0 : Aside0 (Tst w (w3.alloc (Obj.cells Tryd.zeroCells36 36)) w.heap.size w3.heap.size R C (.slice (some ad) M ca) (tl R C h v M) (List.replicate 256 0)) := ⟨by
    exact ⟨HX3.out.alloc _, Kd.R_below HL3.out (below_alloc (Below.refl _ _) _), by
      have := Bk.new w3 36 (nums .i64 (List.replicate 256 0))
      rw [← zeros36] at this
      exact this, below_then HB3.out HB3.out.size (below_alloc (Below.refl _ _) _), HB3.out.size⟩⟩
  have HC0 : Aside0 (Cnt R C (fun x y => tix C h v x y < 0) (List.replicate 256 0)) := ⟨⟨by rw [List.length_replicate], fun x y _ _ hh => absurd hh (Nat.not_lt_zero _), fun x y hx hy _ => by
    exact rep0 256 _⟩⟩
  clear HX3 HL3 HB3
  obtain ⟨q, hq⟩ : ∃ q, w3.heap.size = q := ⟨_, rfl⟩
  rw [hq] at HS0 ⊢
  clear hq
  generalize w3.alloc (Obj.cells Tryd.zeroCells36 36) = w4 at HS0 ⊢
  go_loopw [11] (fun v11 wr => ∃ (m : Nat) (ms : List Int), v11 = .int .i64 m ∧ m ≤ M ∧ Aside0 (Tst w wr w.heap.size q R C (.slice (some ad) M ca) (tl R C h v M) ms) ∧ Aside0 (Cnt R C (fun x y => tix C h v x y < m) ms)) (fun v11 _ => M - (intOf v11).toNat)
  case atStart => exact ⟨0, List.replicate 256 0, rfl, Nat.zero_le _, HS0, HC0⟩
  case round =>
    clear HS0 HC0
    obtain ⟨m, ms, rfl, hm, HS, HC⟩ := hrel
    by_cases hlt : m < M
    · obtain ⟨a, b, r, c, hn⟩ := tn_of (R := R) (C := C) (h := h) (w := v) (m := m) (by have := HR.out; omega) (by have := HR.out; omega) HHV.out.1 HHV.out.2 (by rw [HM.out]; exact hlt)
      obtain ⟨t0, t1, t2, t3⟩ := tile_at HS.out.lst m hlt hn.eq
      have HN := Aside0.mk hn
      have HLT := Aside0.mk hlt
      obtain ⟨⟨n1, n2⟩, ⟨n3, n4⟩, ⟨n5, n6⟩, -⟩ := (⟨hn.pos, hn.le, hn.fit, trivial⟩ : (1 ≤ a ∧ 1 ≤ b) ∧ (a ≤ h ∧ b ≤ v) ∧ (r + a ≤ R ∧ c + b ≤ C) ∧ True)
      obtain ⟨s1, hs1⟩ : ∃ z, R = a + z := ⟨R - a, by omega⟩
      obtain ⟨s2, hs2⟩ : ∃ z, C = b + z := ⟨C - b, by omega⟩
      obtain ⟨ra, hra⟩ : ∃ z, r + a = z := ⟨_, rfl⟩
      obtain ⟨cb, hcb⟩ : ∃ z, c + b = z := ⟨_, rfl⟩
      have d1 : decide ((m : Int) < (M : Int)) = true := decide_eq_true (by omega)
      have d1' : decide (m < M) = true := decide_eq_true (by omega)
      have g1 : decide ((r : Int) < 0) = false := decide_eq_false (by omega)
      have g2 : decide ((c : Int) < 0) = false := decide_eq_false (by omega)
      have g3 : decide ((a : Int) < 1) = false := decide_eq_false (by omega)
      have g4 : decide ((b : Int) < 1) = false := decide_eq_false (by omega)
      have g5 : decide ((h : Int) < (a : Int)) = false := decide_eq_false (by omega)
      have g6 : decide ((v : Int) < (b : Int)) = false := decide_eq_false (by omega)
      have g7 : decide ((s1 : Int) < (r : Int)) = false := decide_eq_false (by omega)
      have g8 : decide ((s2 : Int) < (c : Int)) = false := decide_eq_false (by omega)
      have g3' : decide (a < 1) = false := decide_eq_false (by omega)
      have g4' : decide (b < 1) = false := decide_eq_false (by omega)
      have g5' : decide (h < a) = false := decide_eq_false (by omega)
      have g6' : decide (v < b) = false := decide_eq_false (by omega)
      have g7' : decide (s1 < r) = false := decide_eq_false (by omega)
      have g8' : decide (s2 < c) = false := decide_eq_false (by omega)
      have e1 := sub_w2 hs1 (by omega)
      have e2 := sub_w2 hs2 (by omega)
      have HE := Aside0.mk (And.intro hs1 hs2)
      have HF := Aside0.mk (And.intro hra hcb)
      have HNm := Aside0.mk (show (1 ≤ a ∧ 1 ≤ b ∧ a ≤ h ∧ b ≤ v ∧ r + a ≤ R ∧ c + b ≤ C) from ⟨n1, n2, n3, n4, n5, n6⟩)
      have q1 : (0 : Int) ≤ (m : Int) := by omega
      have q2 : (m : Int) < (M : Int) := by omega
      clear n1 n2 n3 n4 n5 n6 hs1 hs2 hra hcb hn
      go_upto_region 18 with fail
      have HT0 : Aside0 (T5 w (wr.alloc (Obj.cells #[.int .i64 (a : Int), .int .i64 (b : Int), .int .i64 (r : Int), .int .i64 (c : Int)] 38)) w.heap.size q wr.heap.size R C a b r c (.slice (some ad) M ca) (tl R C h v M) ms) := ⟨T5.new HS.out⟩
      clear HS t0 t1 t2 t3
      generalize wr.alloc (Obj.cells #[.int .i64 (a : Int), .int .i64 (b : Int), .int .i64 (r : Int), .int .i64 (c : Int)] 38) = W at HT0 ⊢
      generalize wr.heap.size = u at HT0 ⊢
      have u0 := HT0.out.til.cell 0
      have u1 := HT0.out.til.cell 1
      have u2 := HT0.out.til.cell 2
      have u3 := HT0.out.til.cell 3
      have c0' := HT0.out.st.box.cell 0
      have c1' := HT0.out.st.box.cell 1
      go_upto_region 20 with fail
      clear e1 e2 g1 g2 g3 g4 g5 g6 g7 g8 g3' g4' g5' g6' g7' g8' d1 d1'
      go_cut [164] (fun v164 wx => v164 = .bool false ∧ wx = W)
      case first => as_aux_lemma =>
        obtain ⟨l1, l2⟩ := HN.out.last
        by_cases p1 : a < h
        · have k1 : decide ((a : Int) < (h : Int)) = true := decide_eq_true (by omega)
          have k1' : decide (a < h) = true := decide_eq_true p1
          have e1 := add_w (l1 p1) (by omega)
          by_cases p2 : b < v
          · have k2 : decide ((b : Int) < (v : Int)) = true := decide_eq_true (by omega)
            have k2' : decide (b < v) = true := decide_eq_true p2
            have e2 := add_w (l2 p2) (by omega)
            clear l1 l2 p1 p2
            go_wp2_with fail
            go_meet
            exact ⟨rfl, rfl⟩
          · have k2 : decide ((b : Int) < (v : Int)) = false := decide_eq_false (by omega)
            have k2' : decide (b < v) = false := decide_eq_false p2
            clear l1 l2 p1 p2
            go_wp2_with fail
            go_meet
            exact ⟨rfl, rfl⟩
        · have k1 : decide ((a : Int) < (h : Int)) = false := decide_eq_false (by omega)
          have k1' : decide (a < h) = false := decide_eq_false p1
          by_cases p2 : b < v
          · have k2 : decide ((b : Int) < (v : Int)) = true := decide_eq_true (by omega)
            have k2' : decide (b < v) = true := decide_eq_true p2
            have e2 := add_w (l2 p2) (by omega)
            clear l1 l2 p1 p2
            go_wp2_with fail
            go_meet
            exact ⟨rfl, rfl⟩
          · have k2 : decide ((b : Int) < (v : Int)) = false := decide_eq_false (by omega)
            have k2' : decide (b < v) = false := decide_eq_false p2
            clear l1 l2 p1 p2
            go_wp2_with fail
            go_meet
            exact ⟨rfl, rfl⟩
      case rest =>
        obtain ⟨rfl, rfl⟩ := hcut
        go_upto_region 22 with fail
        clear u0 u1 u2 u3 c0' c1' q1 q2
        go_cut [199] (fun v199 wx => v199 = .bool false ∧ Aside0 (T5 w wx w.heap.size q u R C a b r c (.slice (some ad) M ca) (tl R C h v M) ms))
        case first => as_aux_lemma =>
          by_cases m0 : m = 0
          · have k1 : decide ((0 : Int) < (m : Int)) = false := decide_eq_false (by omega)
            have k1' : decide (0 < m) = false := decide_eq_false (by omega)
            refine start_ (n := 35) (S := fun w' => w'.cell? ⟨u, 2, none⟩ = some (.int .i64 (r : Int)) ∧ w'.cell? ⟨u, 3, none⟩ = some (.int .i64 (c : Int)) ∧ Aside0 (T5 w w' w.heap.size q u R C a b r c (.slice (some ad) M ca) (tl R C h v M) ms)) (ds := []) #[false, false, false, false, false, false, false, false, false, false, false, false, false, false, false, false, false, false, false, false, false, false, false, false, false, false, false, false, false, false, false, false, false, false, false] (by kernel_rfl) rfl rfl ⟨HT0.out.drew.til.cell 2, HT0.out.drew.til.cell 3, ⟨HT0.out.drew⟩⟩ (fun hHeld => ?_)
            refine pure_ (i := 0) (N := some 165) (v := ?_) (a' := ?_) #[true, false, false, false, false, false, false, false, false, false, false, false, false, false, false, false, false, false, false, false, false, false, false, false, false, false, false, false, false, false, false, false, false, false, false] rfl rfl (by kernel_rfl) (fun _ _ _ h => h) (Or.inl ⟨by rfl, ?_⟩) ?_ ?_
            rotate_left
            · intro w'
              go_simp
              with_reducible rfl
            rotate_left
            · simp only [Act.put, List.setIfInBounds_toArray, List.set_cons_zero, List.set_cons_succ, i64_w, i32_w]
              rfl
            refine pure_ (i := 1) (N := some 166) (v := ?_) (a' := ?_) #[true, true, false, false, false, false, false, false, false, false, false, false, false, false, false, false, false, false, false, false, false, false, false, false, false, false, false, false, false, false, false, false, false, false, false] rfl rfl (by kernel_rfl) (fun _ _ _ h => h) (Or.inl ⟨by rfl, ?_⟩) ?_ ?_
            rotate_left
            · intro w'
              go_simp
              with_reducible rfl
            rotate_left
            · simp only [Act.put, List.setIfInBounds_toArray, List.set_cons_zero, List.set_cons_succ, i64_w, i32_w]
              rfl
            refine pure_ (i := 2) (N := some 167) (v := ?_) (a' := ?_) #[true, true, true, false, false, false, false, false, false, false, false, false, false, false, false, false, false, false, false, false, false, false, false, false, false, false, false, false, false, false, false, false, false, false, false] rfl rfl (by kernel_rfl) (fun _ _ _ h => h) (Or.inl ⟨by rfl, ?_⟩) ?_ ?_
            rotate_left
            · intro w'
              go_simp
              with_reducible rfl
            rotate_left
            · simp only [Act.put, List.setIfInBounds_toArray, List.set_cons_zero, List.set_cons_succ, i64_w, i32_w]
              rfl
            refine pure_ (i := 3) (N := some 168) (v := undef) (a' := ?_) #[true, true, true, true, false, false, false, false, false, false, false, false, false, false, false, false, false, false, false, false, false, false, false, false, false, false, false, false, false, false, false, false, false, false, false] rfl rfl (by kernel_rfl) (fun _ _ _ h => h) (Or.inr ⟨by rfl, rfl⟩) ?_ ?_
            rotate_left
            · simp only [Act.put, List.setIfInBounds_toArray, List.set_cons_zero, List.set_cons_succ, i64_w, i32_w]
              rfl
            refine pure_ (i := 4) (N := some 169) (v := undef) (a' := ?_) #[true, true, true, true, true, false, false, false, false, false, false, false, false, false, false, false, false, false, false, false, false, false, false, false, false, false, false, false, false, false, false, false, false, false, false] rfl rfl (by kernel_rfl) (fun _ _ _ h => h) (Or.inr ⟨by rfl, rfl⟩) ?_ ?_
            rotate_left
            · simp only [Act.put, List.setIfInBounds_toArray, List.set_cons_zero, List.set_cons_succ, i64_w, i32_w]
              rfl
            refine pure_ (i := 5) (N := some 170) (v := undef) (a' := ?_) #[true, true, true, true, true, true, false, false, false, false, false, false, false, false, false, false, false, false, false, false, false, false, false, false, false, false, false, false, false, false, false, false, false, false, false] rfl rfl (by kernel_rfl) (fun _ _ _ h => h) (Or.inr ⟨by rfl, rfl⟩) ?_ ?_
            rotate_left
            · simp only [Act.put, List.setIfInBounds_toArray, List.set_cons_zero, List.set_cons_succ, i64_w, i32_w]
              rfl
            refine pure_ (i := 6) (N := some 171) (v := undef) (a' := ?_) #[true, true, true, true, true, true, true, false, false, false, false, false, false, false, false, false, false, false, false, false, false, false, false, false, false, false, false, false, false, false, false, false, false, false, false] rfl rfl (by kernel_rfl) (fun _ _ _ h => h) (Or.inr ⟨by rfl, rfl⟩) ?_ ?_
            rotate_left
            · simp only [Act.put, List.setIfInBounds_toArray, List.set_cons_zero, List.set_cons_succ, i64_w, i32_w]
              rfl
            refine pure_ (i := 7) (N := some 172) (v := undef) (a' := ?_) #[true, true, true, true, true, true, true, true, false, false, false, false, false, false, false, false, false, false, false, false, false, false, false, false, false, false, false, false, false, false, false, false, false, false, false] rfl rfl (by kernel_rfl) (fun _ _ _ h => h) (Or.inr ⟨by rfl, rfl⟩) ?_ ?_
            rotate_left
            · simp only [Act.put, List.setIfInBounds_toArray, List.set_cons_zero, List.set_cons_succ, i64_w, i32_w]
              rfl
            refine pure_ (i := 8) (N := some 173) (v := undef) (a' := ?_) #[true, true, true, true, true, true, true, true, true, false, false, false, false, false, false, false, false, false, false, false, false, false, false, false, false, false, false, false, false, false, false, false, false, false, false] rfl rfl (by kernel_rfl) (fun _ _ _ h => h) (Or.inr ⟨by rfl, rfl⟩) ?_ ?_
            rotate_left
            · simp only [Act.put, List.setIfInBounds_toArray, List.set_cons_zero, List.set_cons_succ, i64_w, i32_w]
              rfl
            refine pure_ (i := 9) (N := some 174) (v := undef) (a' := ?_) #[true, true, true, true, true, true, true, true, true, true, false, false, false, false, false, false, false, false, false, false, false, false, false, false, false, false, false, false, false, false, false, false, false, false, false] rfl rfl (by kernel_rfl) (fun _ _ _ h => h) (Or.inr ⟨by rfl, rfl⟩) ?_ ?_
            rotate_left
            · simp only [Act.put, List.setIfInBounds_toArray, List.set_cons_zero, List.set_cons_succ, i64_w, i32_w]
              rfl
            refine pure_ (i := 10) (N := some 175) (v := undef) (a' := ?_) #[true, true, true, true, true, true, true, true, true, true, true, false, false, false, false, false, false, false, false, false, false, false, false, false, false, false, false, false, false, false, false, false, false, false, false] rfl rfl (by kernel_rfl) (fun _ _ _ h => h) (Or.inr ⟨by rfl, rfl⟩) ?_ ?_
            rotate_left
            · simp only [Act.put, List.setIfInBounds_toArray, List.set_cons_zero, List.set_cons_succ, i64_w, i32_w]
              rfl
            refine pure_ (i := 11) (N := some 176) (v := undef) (a' := ?_) #[true, true, true, true, true, true, true, true, true, true, true, true, false, false, false, false, false, false, false, false, false, false, false, false, false, false, false, false, false, false, false, false, false, false, false] rfl rfl (by kernel_rfl) (fun _ _ _ h => h) (Or.inr ⟨by rfl, rfl⟩) ?_ ?_
            rotate_left
            · simp only [Act.put, List.setIfInBounds_toArray, List.set_cons_zero, List.set_cons_succ, i64_w, i32_w]
              rfl
            refine pure_ (i := 12) (N := some 177) (v := undef) (a' := ?_) #[true, true, true, true, true, true, true, true, true, true, true, true, true, false, false, false, false, false, false, false, false, false, false, false, false, false, false, false, false, false, false, false, false, false, false] rfl rfl (by kernel_rfl) (fun _ _ _ h => h) (Or.inr ⟨by rfl, rfl⟩) ?_ ?_
            rotate_left
            · simp only [Act.put, List.setIfInBounds_toArray, List.set_cons_zero, List.set_cons_succ, i64_w, i32_w]
              rfl
            refine pure_ (i := 13) (N := some 178) (v := undef) (a' := ?_) #[true, true, true, true, true, true, true, true, true, true, true, true, true, true, false, false, false, false, false, false, false, false, false, false, false, false, false, false, false, false, false, false, false, false, false] rfl rfl (by kernel_rfl) (fun _ _ _ h => h) (Or.inr ⟨by rfl, rfl⟩) ?_ ?_
            rotate_left
            · simp only [Act.put, List.setIfInBounds_toArray, List.set_cons_zero, List.set_cons_succ, i64_w, i32_w]
              rfl
            refine pure_ (i := 14) (N := some 179) (v := undef) (a' := ?_) #[true, true, true, true, true, true, true, true, true, true, true, true, true, true, true, false, false, false, false, false, false, false, false, false, false, false, false, false, false, false, false, false, false, false, false] rfl rfl (by kernel_rfl) (fun _ _ _ h => h) (Or.inr ⟨by rfl, rfl⟩) ?_ ?_
            rotate_left
            · simp only [Act.put, List.setIfInBounds_toArray, List.set_cons_zero, List.set_cons_succ, i64_w, i32_w]
              rfl
            refine pure_ (i := 15) (N := some 180) (v := undef) (a' := ?_) #[true, true, true, true, true, true, true, true, true, true, true, true, true, true, true, true, false, false, false, false, false, false, false, false, false, false, false, false, false, false, false, false, false, false, false] rfl rfl (by kernel_rfl) (fun _ _ _ h => h) (Or.inr ⟨by rfl, rfl⟩) ?_ ?_
            rotate_left
            · simp only [Act.put, List.setIfInBounds_toArray, List.set_cons_zero, List.set_cons_succ, i64_w, i32_w]
              rfl
            refine pure_ (i := 16) (N := some 181) (v := undef) (a' := ?_) #[true, true, true, true, true, true, true, true, true, true, true, true, true, true, true, true, true, false, false, false, false, false, false, false, false, false, false, false, false, false, false, false, false, false, false] rfl rfl (by kernel_rfl) (fun _ _ _ h => h) (Or.inr ⟨by rfl, rfl⟩) ?_ ?_
            rotate_left
            · simp only [Act.put, List.setIfInBounds_toArray, List.set_cons_zero, List.set_cons_succ, i64_w, i32_w]
              rfl
            refine pure_ (i := 17) (N := some 182) (v := undef) (a' := ?_) #[true, true, true, true, true, true, true, true, true, true, true, true, true, true, true, true, true, true, false, false, false, false, false, false, false, false, false, false, false, false, false, false, false, false, false] rfl rfl (by kernel_rfl) (fun _ _ _ h => h) (Or.inr ⟨by rfl, rfl⟩) ?_ ?_
            rotate_left
            · simp only [Act.put, List.setIfInBounds_toArray, List.set_cons_zero, List.set_cons_succ, i64_w, i32_w]
              rfl
            refine pure_ (i := 18) (N := some 183) (v := undef) (a' := ?_) #[true, true, true, true, true, true, true, true, true, true, true, true, true, true, true, true, true, true, true, false, false, false, false, false, false, false, false, false, false, false, false, false, false, false, false] rfl rfl (by kernel_rfl) (fun _ _ _ h => h) (Or.inr ⟨by rfl, rfl⟩) ?_ ?_
            rotate_left
            · simp only [Act.put, List.setIfInBounds_toArray, List.set_cons_zero, List.set_cons_succ, i64_w, i32_w]
              rfl
            refine pure_ (i := 19) (N := some 184) (v := undef) (a' := ?_) #[true, true, true, true, true, true, true, true, true, true, true, true, true, true, true, true, true, true, true, true, false, false, false, false, false, false, false, false, false, false, false, false, false, false, false] rfl rfl (by kernel_rfl) (fun _ _ _ h => h) (Or.inr ⟨by rfl, rfl⟩) ?_ ?_
            rotate_left
            · simp only [Act.put, List.setIfInBounds_toArray, List.set_cons_zero, List.set_cons_succ, i64_w, i32_w]
              rfl
            refine pure_ (i := 20) (N := some 185) (v := undef) (a' := ?_) #[true, true, true, true, true, true, true, true, true, true, true, true, true, true, true, true, true, true, true, true, true, false, false, false, false, false, false, false, false, false, false, false, false, false, false] rfl rfl (by kernel_rfl) (fun _ _ _ h => h) (Or.inr ⟨by rfl, rfl⟩) ?_ ?_
            rotate_left
            · simp only [Act.put, List.setIfInBounds_toArray, List.set_cons_zero, List.set_cons_succ, i64_w, i32_w]
              rfl
            refine pure_ (i := 21) (N := some 186) (v := undef) (a' := ?_) #[true, true, true, true, true, true, true, true, true, true, true, true, true, true, true, true, true, true, true, true, true, true, false, false, false, false, false, false, false, false, false, false, false, false, false] rfl rfl (by kernel_rfl) (fun _ _ _ h => h) (Or.inr ⟨by rfl, rfl⟩) ?_ ?_
            rotate_left
            · simp only [Act.put, List.setIfInBounds_toArray, List.set_cons_zero, List.set_cons_succ, i64_w, i32_w]
              rfl
            refine pure_ (i := 22) (N := some 187) (v := undef) (a' := ?_) #[true, true, true, true, true, true, true, true, true, true, true, true, true, true, true, true, true, true, true, true, true, true, true, false, false, false, false, false, false, false, false, false, false, false, false] rfl rfl (by kernel_rfl) (fun _ _ _ h => h) (Or.inr ⟨by rfl, rfl⟩) ?_ ?_
            rotate_left
            · simp only [Act.put, List.setIfInBounds_toArray, List.set_cons_zero, List.set_cons_succ, i64_w, i32_w]
              rfl
            refine pure_ (i := 23) (N := some 188) (v := undef) (a' := ?_) #[true, true, true, true, true, true, true, true, true, true, true, true, true, true, true, true, true, true, true, true, true, true, true, true, false, false, false, false, false, false, false, false, false, false, false] rfl rfl (by kernel_rfl) (fun _ _ _ h => h) (Or.inr ⟨by rfl, rfl⟩) ?_ ?_
            rotate_left
            · simp only [Act.put, List.setIfInBounds_toArray, List.set_cons_zero, List.set_cons_succ, i64_w, i32_w]
              rfl
            refine pure_ (i := 24) (N := some 189) (v := undef) (a' := ?_) #[true, true, true, true, true, true, true, true, true, true, true, true, true, true, true, true, true, true, true, true, true, true, true, true, true, false, false, false, false, false, false, false, false, false, false] rfl rfl (by kernel_rfl) (fun _ _ _ h => h) (Or.inr ⟨by rfl, rfl⟩) ?_ ?_
            rotate_left
            · simp only [Act.put, List.setIfInBounds_toArray, List.set_cons_zero, List.set_cons_succ, i64_w, i32_w]
              rfl
            refine pure_ (i := 25) (N := some 190) (v := undef) (a' := ?_) #[true, true, true, true, true, true, true, true, true, true, true, true, true, true, true, true, true, true, true, true, true, true, true, true, true, true, false, false, false, false, false, false, false, false, false] rfl rfl (by kernel_rfl) (fun _ _ _ h => h) (Or.inr ⟨by rfl, rfl⟩) ?_ ?_
            rotate_left
            · simp only [Act.put, List.setIfInBounds_toArray, List.set_cons_zero, List.set_cons_succ, i64_w, i32_w]
              rfl
            refine pure_ (i := 26) (N := some 191) (v := undef) (a' := ?_) #[true, true, true, true, true, true, true, true, true, true, true, true, true, true, true, true, true, true, true, true, true, true, true, true, true, true, true, false, false, false, false, false, false, false, false] rfl rfl (by kernel_rfl) (fun _ _ _ h => h) (Or.inr ⟨by rfl, rfl⟩) ?_ ?_
            rotate_left
            · simp only [Act.put, List.setIfInBounds_toArray, List.set_cons_zero, List.set_cons_succ, i64_w, i32_w]
              rfl
            refine pure_ (i := 27) (N := some 192) (v := undef) (a' := ?_) #[true, true, true, true, true, true, true, true, true, true, true, true, true, true, true, true, true, true, true, true, true, true, true, true, true, true, true, true, false, false, false, false, false, false, false] rfl rfl (by kernel_rfl) (fun _ _ _ h => h) (Or.inr ⟨by rfl, rfl⟩) ?_ ?_
            rotate_left
            · simp only [Act.put, List.setIfInBounds_toArray, List.set_cons_zero, List.set_cons_succ, i64_w, i32_w]
              rfl
            refine pure_ (i := 28) (N := some 193) (v := undef) (a' := ?_) #[true, true, true, true, true, true, true, true, true, true, true, true, true, true, true, true, true, true, true, true, true, true, true, true, true, true, true, true, true, false, false, false, false, false, false] rfl rfl (by kernel_rfl) (fun _ _ _ h => h) (Or.inr ⟨by rfl, rfl⟩) ?_ ?_
            rotate_left
            · simp only [Act.put, List.setIfInBounds_toArray, List.set_cons_zero, List.set_cons_succ, i64_w, i32_w]
              rfl
            refine pure_ (i := 29) (N := some 194) (v := undef) (a' := ?_) #[true, true, true, true, true, true, true, true, true, true, true, true, true, true, true, true, true, true, true, true, true, true, true, true, true, true, true, true, true, true, false, false, false, false, false] rfl rfl (by kernel_rfl) (fun _ _ _ h => h) (Or.inr ⟨by rfl, rfl⟩) ?_ ?_
            rotate_left
            · simp only [Act.put, List.setIfInBounds_toArray, List.set_cons_zero, List.set_cons_succ, i64_w, i32_w]
              rfl
            refine pure_ (i := 30) (N := some 195) (v := undef) (a' := ?_) #[true, true, true, true, true, true, true, true, true, true, true, true, true, true, true, true, true, true, true, true, true, true, true, true, true, true, true, true, true, true, true, false, false, false, false] rfl rfl (by kernel_rfl) (fun _ _ _ h => h) (Or.inr ⟨by rfl, rfl⟩) ?_ ?_
            rotate_left
            · simp only [Act.put, List.setIfInBounds_toArray, List.set_cons_zero, List.set_cons_succ, i64_w, i32_w]
              rfl
            refine pure_ (i := 31) (N := some 196) (v := undef) (a' := ?_) #[true, true, true, true, true, true, true, true, true, true, true, true, true, true, true, true, true, true, true, true, true, true, true, true, true, true, true, true, true, true, true, true, false, false, false] rfl rfl (by kernel_rfl) (fun _ _ _ h => h) (Or.inr ⟨by rfl, rfl⟩) ?_ ?_
            rotate_left
            · simp only [Act.put, List.setIfInBounds_toArray, List.set_cons_zero, List.set_cons_succ, i64_w, i32_w]
              rfl
            refine pure_ (i := 32) (N := some 197) (v := undef) (a' := ?_) #[true, true, true, true, true, true, true, true, true, true, true, true, true, true, true, true, true, true, true, true, true, true, true, true, true, true, true, true, true, true, true, true, true, false, false] rfl rfl (by kernel_rfl) (fun _ _ _ h => h) (Or.inr ⟨by rfl, rfl⟩) ?_ ?_
            rotate_left
            · simp only [Act.put, List.setIfInBounds_toArray, List.set_cons_zero, List.set_cons_succ, i64_w, i32_w]
              rfl
            refine pure_ (i := 33) (N := some 198) (v := undef) (a' := ?_) #[true, true, true, true, true, true, true, true, true, true, true, true, true, true, true, true, true, true, true, true, true, true, true, true, true, true, true, true, true, true, true, true, true, true, false] rfl rfl (by kernel_rfl) (fun _ _ _ h => h) (Or.inr ⟨by rfl, rfl⟩) ?_ ?_
            rotate_left
            · simp only [Act.put, List.setIfInBounds_toArray, List.set_cons_zero, List.set_cons_succ, i64_w, i32_w]
              rfl
            refine pure_ (i := 34) (N := some 199) (v := ?_) (a' := ?_) #[true, true, true, true, true, true, true, true, true, true, true, true, true, true, true, true, true, true, true, true, true, true, true, true, true, true, true, true, true, true, true, true, true, true, true] rfl rfl (by kernel_rfl) (fun _ _ _ h => h) (Or.inl ⟨by rfl, ?_⟩) ?_ ?_
            rotate_left
            · intro w'
              go_simp
              with_reducible rfl
            rotate_left
            · simp only [Act.put, List.setIfInBounds_toArray, List.set_cons_zero, List.set_cons_succ, i64_w, i32_w]
              rfl
            refine done_ (by kernel_rfl) ?_

            have HT1 := hHeld.2.2
            clear hHeld
            go_wp2_with fail
            go_meet
            exact ⟨rfl, HT1⟩
          · obtain ⟨k, hk⟩ : ∃ k, m = k + 1 := ⟨m - 1, by omega⟩
            have hkM : k < M := by have := HLT.out; omega
            obtain ⟨a', b', r', c', hn'⟩ := tn_of (R := R) (C := C) (h := h) (w := v) (m := k) (by have := HR.out; omega) (by have := HR.out; omega) HHV.out.1 HHV.out.2 (by rw [HM.out]; exact hkM)
            have hnx := tn_next (R := R) (C := C) (h := h) (w := v) (m := k) (by have := HR.out; omega) (by have := HR.out; omega) HHV.out.1 HHV.out.2 (by rw [HM.out, ← hk]; exact HLT.out) hn'.eq (by rw [← hk]; exact HN.out.eq)
            obtain ⟨-, -, t2, t3⟩ := tile_at HT0.out.drew.st.lst k hkM hn'.eq
            have k1 : decide ((0 : Int) < (m : Int)) = true := decide_eq_true (by omega)
            have k1' : decide (0 < m) = true := decide_eq_true (by omega)
            have e1 := sub_w2 (a := m) (b := 1) (z := k) (by omega) (by omega)
            have e1' : wrap64 ((m : Int) - 1) = (k : Int) := e1
            clear e1
            have q1 : (0 : Int) ≤ (k : Int) := by omega
            have q2 : (k : Int) < (M : Int) := by clear e1'; omega
            have T2 := Aside0.mk t2
            have T3 := Aside0.mk t3
            clear hn' hk hkM m0 t2 t3
            rcases hnx with hlt2 | ⟨hrr, hlt2⟩
            · have k2 : decide ((r : Int) < (r' : Int)) = false := decide_eq_false (by clear e1'; omega)
              have k2' : decide (r < r') = false := decide_eq_false (by clear e1'; omega)
              have k3 : ((r' : Int) == (r : Int)) = false := beq_eq_false_iff_ne.2 (by clear e1'; omega)
              clear hlt2
              refine start_ (n := 35) (S := fun w' => w'.cell? ⟨u, 2, none⟩ = some (.int .i64 (r : Int)) ∧ w'.cell? ⟨u, 3, none⟩ = some (.int .i64 (c : Int)) ∧ w'.cell? ⟨(ad.add (k * 4)).block, (ad.add (k * 4)).off + 2, none⟩ = some (.int .i64 (r' : Int)) ∧ w'.cell? ⟨(ad.add (k * 4)).block, (ad.add (k * 4)).off + 3, none⟩ = some (.int .i64 (c' : Int)) ∧ Aside0 (T5 w w' w.heap.size q u R C a b r c (.slice (some ad) M ca) (tl R C h v M) ms)) (ds := []) #[false, false, false, false, false, false, false, false, false, false, false, false, false, false, false, false, false, false, false, false, false, false, false, false, false, false, false, false, false, false, false, false, false, false, false] (by kernel_rfl) rfl rfl ⟨HT0.out.drew.til.cell 2, HT0.out.drew.til.cell 3, T2.out, T3.out, ⟨HT0.out.drew⟩⟩ (fun hHeld => ?_)
              refine pure_ (i := 0) (N := some 165) (v := ?_) (a' := ?_) #[true, false, false, false, false, false, false, false, false, false, false, false, false, false, false, false, false, false, false, false, false, false, false, false, false, false, false, false, false, false, false, false, false, false, false] rfl rfl (by kernel_rfl) (fun _ _ _ h => h) (Or.inl ⟨by rfl, ?_⟩) ?_ ?_
              rotate_left
              · intro w'
                go_simp
                with_reducible rfl
              rotate_left
              · simp only [Act.put, List.setIfInBounds_toArray, List.set_cons_zero, List.set_cons_succ, i64_w, i32_w]
                rfl
              refine pure_ (i := 1) (N := some 166) (v := ?_) (a' := ?_) #[true, true, false, false, false, false, false, false, false, false, false, false, false, false, false, false, false, false, false, false, false, false, false, false, false, false, false, false, false, false, false, false, false, false, false] rfl rfl (by kernel_rfl) (fun _ _ _ h => h) (Or.inl ⟨by rfl, ?_⟩) ?_ ?_
              rotate_left
              · intro w'
                go_simp
                with_reducible rfl
              rotate_left
              · simp only [Act.put, List.setIfInBounds_toArray, List.set_cons_zero, List.set_cons_succ, i64_w, i32_w]
                rfl
              refine pure_ (i := 2) (N := some 167) (v := ?_) (a' := ?_) #[true, true, true, false, false, false, false, false, false, false, false, false, false, false, false, false, false, false, false, false, false, false, false, false, false, false, false, false, false, false, false, false, false, false, false] rfl rfl (by kernel_rfl) (fun _ _ _ h => h) (Or.inl ⟨by rfl, ?_⟩) ?_ ?_
              rotate_left
              · intro w'
                go_simp
                with_reducible rfl
              rotate_left
              · simp only [Act.put, List.setIfInBounds_toArray, List.set_cons_zero, List.set_cons_succ, i64_w, i32_w]
                rfl
              refine pure_ (i := 3) (N := some 168) (v := ?_) (a' := ?_) #[true, true, true, true, false, false, false, false, false, false, false, false, false, false, false, false, false, false, false, false, false, false, false, false, false, false, false, false, false, false, false, false, false, false, false] rfl rfl (by kernel_rfl) (fun _ _ _ h => h) (Or.inl ⟨by rfl, ?_⟩) ?_ ?_
              rotate_left
              · intro w'
                go_simp
                with_reducible rfl
              rotate_left
              · simp only [Act.put, List.setIfInBounds_toArray, List.set_cons_zero, List.set_cons_succ, i64_w, i32_w]
                rfl
              refine pure_ (i := 4) (N := some 169) (v := ?_) (a' := ?_) #[true, true, true, true, true, false, false, false, false, false, false, false, false, false, false, false, false, false, false, false, false, false, false, false, false, false, false, false, false, false, false, false, false, false, false] rfl rfl (by kernel_rfl) (fun _ _ _ h => h) (Or.inl ⟨by rfl, ?_⟩) ?_ ?_
              rotate_left
              · intro w'
                go_simp
                with_reducible rfl
              rotate_left
              · simp only [Act.put, List.setIfInBounds_toArray, List.set_cons_zero, List.set_cons_succ, i64_w, i32_w]
                rfl
              refine pure_ (i := 5) (N := some 170) (v := ?_) (a' := ?_) #[true, true, true, true, true, true, false, false, false, false, false, false, false, false, false, false, false, false, false, false, false, false, false, false, false, false, false, false, false, false, false, false, false, false, false] rfl rfl (by kernel_rfl) (fun _ _ _ h => h) (Or.inl ⟨by rfl, ?_⟩) ?_ ?_
              rotate_left
              · intro w'
                go_simp
                with_reducible rfl
              rotate_left
              · simp only [Act.put, List.setIfInBounds_toArray, List.set_cons_zero, List.set_cons_succ, i64_w, i32_w]
                rfl
              refine pure_ (i := 6) (N := some 171) (v := ?_) (a' := ?_) #[true, true, true, true, true, true, true, false, false, false, false, false, false, false, false, false, false, false, false, false, false, false, false, false, false, false, false, false, false, false, false, false, false, false, false] rfl rfl (by kernel_rfl) (fun _ _ _ h => h) (Or.inl ⟨by rfl, ?_⟩) ?_ ?_
              rotate_left
              · intro w'
                go_simp
                with_reducible rfl
              rotate_left
              · simp only [Act.put, List.setIfInBounds_toArray, List.set_cons_zero, List.set_cons_succ, i64_w, i32_w]
                rfl
              refine pure_ (i := 7) (N := some 172) (v := ?_) (a' := ?_) #[true, true, true, true, true, true, true, true, false, false, false, false, false, false, false, false, false, false, false, false, false, false, false, false, false, false, false, false, false, false, false, false, false, false, false] rfl rfl (by kernel_rfl) (fun _ _ _ h => h) (Or.inl ⟨by rfl, ?_⟩) ?_ ?_
              rotate_left
              · intro w'
                go_simp
                with_reducible rfl
              rotate_left
              · simp only [Act.put, List.setIfInBounds_toArray, List.set_cons_zero, List.set_cons_succ, i64_w, i32_w]
                rfl
              refine pure_ (i := 9) (N := some 174) (v := ?_) (a' := ?_) #[true, true, true, true, true, true, true, true, false, true, false, false, false, false, false, false, false, false, false, false, false, false, false, false, false, false, false, false, false, false, false, false, false, false, false] rfl rfl (by kernel_rfl) (fun _ _ _ h => h) (Or.inl ⟨by rfl, ?_⟩) ?_ ?_
              rotate_left
              · intro w'
                go_simp
                with_reducible rfl
              rotate_left
              · simp only [Act.put, List.setIfInBounds_toArray, List.set_cons_zero, List.set_cons_succ, i64_w, i32_w]
                rfl
              refine take_ (i := 8) (N := some 173) (v := ?_) (a' := ?_) #[true, true, true, true, true, true, true, true, true, true, false, false, false, false, false, false, false, false, false, false, false, false, false, false, false, false, false, false, false, false, false, false, false, false, false] rfl rfl (by kernel_rfl) (fun _ _ _ h => h) (Or.inl ⟨by rfl, ?_⟩) hHeld ?_ ?_
              rotate_left
              · rintro w' ⟨s0, s1, s2, s3, s4⟩
                go_simp
                with_reducible rfl
              rotate_left
              · simp only [Act.put, List.setIfInBounds_toArray, List.set_cons_zero, List.set_cons_succ, i64_w, i32_w]
                rfl
              refine take_ (i := 10) (N := some 175) (v := ?_) (a' := ?_) #[true, true, true, true, true, true, true, true, true, true, true, false, false, false, false, false, false, false, false, false, false, false, false, false, false, false, false, false, false, false, false, false, false, false, false] rfl rfl (by kernel_rfl) (fun _ _ _ h => h) (Or.inl ⟨by rfl, ?_⟩) hHeld ?_ ?_
              rotate_left
              · rintro w' ⟨s0, s1, s2, s3, s4⟩
                go_simp
                with_reducible rfl
              rotate_left
              · simp only [Act.put, List.setIfInBounds_toArray, List.set_cons_zero, List.set_cons_succ, i64_w, i32_w]
                rfl
              refine pure_ (i := 11) (N := some 176) (v := ?_) (a' := ?_) #[true, true, true, true, true, true, true, true, true, true, true, true, false, false, false, false, false, false, false, false, false, false, false, false, false, false, false, false, false, false, false, false, false, false, false] rfl rfl (by kernel_rfl) (fun _ _ _ h => h) (Or.inl ⟨by rfl, ?_⟩) ?_ ?_
              rotate_left
              · intro w'
                go_simp
                with_reducible rfl
              rotate_left
              · simp only [Act.put, List.setIfInBounds_toArray, List.set_cons_zero, List.set_cons_succ, i64_w, i32_w]
                rfl
              refine pure_ (i := 12) (N := some 177) (v := ?_) (a' := ?_) #[true, true, true, true, true, true, true, true, true, true, true, true, true, false, false, false, false, false, false, false, false, false, false, false, false, false, false, false, false, false, false, false, false, false, false] rfl rfl (by kernel_rfl) (fun _ _ _ h => h) (Or.inl ⟨by rfl, ?_⟩) ?_ ?_
              rotate_left
              · intro w'
                go_simp
                with_reducible rfl
              rotate_left
              · simp only [Act.put, List.setIfInBounds_toArray, List.set_cons_zero, List.set_cons_succ, i64_w, i32_w]
                rfl
              refine pure_ (i := 13) (N := some 178) (v := ?_) (a' := ?_) #[true, true, true, true, true, true, true, true, true, true, true, true, true, true, false, false, false, false, false, false, false, false, false, false, false, false, false, false, false, false, false, false, false, false, false] rfl rfl (by kernel_rfl) (fun _ _ _ h => h) (Or.inl ⟨by rfl, ?_⟩) ?_ ?_
              rotate_left
              · intro w'
                go_simp
                with_reducible rfl
              rotate_left
              · simp only [Act.put, List.setIfInBounds_toArray, List.set_cons_zero, List.set_cons_succ, i64_w, i32_w]
                rfl
              refine pure_ (i := 14) (N := some 179) (v := ?_) (a' := ?_) #[true, true, true, true, true, true, true, true, true, true, true, true, true, true, true, false, false, false, false, false, false, false, false, false, false, false, false, false, false, false, false, false, false, false, false] rfl rfl (by kernel_rfl) (fun _ _ _ h => h) (Or.inl ⟨by rfl, ?_⟩) ?_ ?_
              rotate_left
              · intro w'
                go_simp
                with_reducible rfl
              rotate_left
              · simp only [Act.put, List.setIfInBounds_toArray, List.set_cons_zero, List.set_cons_succ, i64_w, i32_w]
                rfl
              refine pure_ (i := 15) (N := some 180) (v := ?_) (a' := ?_) #[true, true, true, true, true, true, true, true, true, true, true, true, true, true, true, true, false, false, false, false, false, false, false, false, false, false, false, false, false, false, false, false, false, false, false] rfl rfl (by kernel_rfl) (fun _ _ _ h => h) (Or.inl ⟨by rfl, ?_⟩) ?_ ?_
              rotate_left
              · intro w'
                go_simp
                with_reducible rfl
              rotate_left
              · simp only [Act.put, List.setIfInBounds_toArray, List.set_cons_zero, List.set_cons_succ, i64_w, i32_w]
                rfl
              refine pure_ (i := 16) (N := some 181) (v := ?_) (a' := ?_) #[true, true, true, true, true, true, true, true, true, true, true, true, true, true, true, true, true, false, false, false, false, false, false, false, false, false, false, false, false, false, false, false, false, false, false] rfl rfl (by kernel_rfl) (fun _ _ _ h => h) (Or.inl ⟨by rfl, ?_⟩) ?_ ?_
              rotate_left
              · intro w'
                go_simp
                with_reducible rfl
              rotate_left
              · simp only [Act.put, List.setIfInBounds_toArray, List.set_cons_zero, List.set_cons_succ, i64_w, i32_w]
                rfl
              refine pure_ (i := 17) (N := some 182) (v := ?_) (a' := ?_) #[true, true, true, true, true, true, true, true, true, true, true, true, true, true, true, true, true, true, false, false, false, false, false, false, false, false, false, false, false, false, false, false, false, false, false] rfl rfl (by kernel_rfl) (fun _ _ _ h => h) (Or.inl ⟨by rfl, ?_⟩) ?_ ?_
              rotate_left
              · intro w'
                go_simp
                with_reducible rfl
              rotate_left
              · simp only [Act.put, List.setIfInBounds_toArray, List.set_cons_zero, List.set_cons_succ, i64_w, i32_w]
                rfl
              refine pure_ (i := 19) (N := some 184) (v := ?_) (a' := ?_) #[true, true, true, true, true, true, true, true, true, true, true, true, true, true, true, true, true, true, false, true, false, false, false, false, false, false, false, false, false, false, false, false, false, false, false] rfl rfl (by kernel_rfl) (fun _ _ _ h => h) (Or.inl ⟨by rfl, ?_⟩) ?_ ?_
              rotate_left
              · intro w'
                go_simp
                with_reducible rfl
              rotate_left
              · simp only [Act.put, List.setIfInBounds_toArray, List.set_cons_zero, List.set_cons_succ, i64_w, i32_w]
                rfl
              refine take_ (i := 18) (N := some 183) (v := ?_) (a' := ?_) #[true, true, true, true, true, true, true, true, true, true, true, true, true, true, true, true, true, true, true, true, false, false, false, false, false, false, false, false, false, false, false, false, false, false, false] rfl rfl (by kernel_rfl) (fun _ _ _ h => h) (Or.inl ⟨by rfl, ?_⟩) hHeld ?_ ?_
              rotate_left
              · rintro w' ⟨s0, s1, s2, s3, s4⟩
                go_simp
                with_reducible rfl
              rotate_left
              · simp only [Act.put, List.setIfInBounds_toArray, List.set_cons_zero, List.set_cons_succ, i64_w, i32_w]
                rfl
              refine take_ (i := 20) (N := some 185) (v := ?_) (a' := ?_) #[true, true, true, true, true, true, true, true, true, true, true, true, true, true, true, true, true, true, true, true, true, false, false, false, false, false, false, false, false, false, false, false, false, false, false] rfl rfl (by kernel_rfl) (fun _ _ _ h => h) (Or.inl ⟨by rfl, ?_⟩) hHeld ?_ ?_
              rotate_left
              · rintro w' ⟨s0, s1, s2, s3, s4⟩
                go_simp
                with_reducible rfl
              rotate_left
              · simp only [Act.put, List.setIfInBounds_toArray, List.set_cons_zero, List.set_cons_succ, i64_w, i32_w]
                rfl
              refine pure_ (i := 21) (N := some 186) (v := ?_) (a' := ?_) #[true, true, true, true, true, true, true, true, true, true, true, true, true, true, true, true, true, true, true, true, true, true, false, false, false, false, false, false, false, false, false, false, false, false, false] rfl rfl (by kernel_rfl) (fun _ _ _ h => h) (Or.inl ⟨by rfl, ?_⟩) ?_ ?_
              rotate_left
              · intro w'
                go_simp
                with_reducible rfl
              rotate_left
              · simp only [Act.put, List.setIfInBounds_toArray, List.set_cons_zero, List.set_cons_succ, i64_w, i32_w]
                rfl
              refine pure_ (i := 22) (N := some 187) (v := ?_) (a' := ?_) #[true, true, true, true, true, true, true, true, true, true, true, true, true, true, true, true, true, true, true, true, true, true, true, false, false, false, false, false, false, false, false, false, false, false, false] rfl rfl (by kernel_rfl) (fun _ _ _ h => h) (Or.inl ⟨by rfl, ?_⟩) ?_ ?_
              rotate_left
              · intro w'
                go_simp
                with_reducible rfl
              rotate_left
              · simp only [Act.put, List.setIfInBounds_toArray, List.set_cons_zero, List.set_cons_succ, i64_w, i32_w]
                rfl
              refine pure_ (i := 23) (N := some 188) (v := undef) (a' := ?_) #[true, true, true, true, true, true, true, true, true, true, true, true, true, true, true, true, true, true, true, true, true, true, true, true, false, false, false, false, false, false, false, false, false, false, false] rfl rfl (by kernel_rfl) (fun _ _ _ h => h) (Or.inr ⟨by rfl, rfl⟩) ?_ ?_
              rotate_left
              · simp only [Act.put, List.setIfInBounds_toArray, List.set_cons_zero, List.set_cons_succ, i64_w, i32_w]
                rfl
              refine pure_ (i := 24) (N := some 189) (v := undef) (a' := ?_) #[true, true, true, true, true, true, true, true, true, true, true, true, true, true, true, true, true, true, true, true, true, true, true, true, true, false, false, false, false, false, false, false, false, false, false] rfl rfl (by kernel_rfl) (fun _ _ _ h => h) (Or.inr ⟨by rfl, rfl⟩) ?_ ?_
              rotate_left
              · simp only [Act.put, List.setIfInBounds_toArray, List.set_cons_zero, List.set_cons_succ, i64_w, i32_w]
                rfl
              refine pure_ (i := 25) (N := some 190) (v := undef) (a' := ?_) #[true, true, true, true, true, true, true, true, true, true, true, true, true, true, true, true, true, true, true, true, true, true, true, true, true, true, false, false, false, false, false, false, false, false, false] rfl rfl (by kernel_rfl) (fun _ _ _ h => h) (Or.inr ⟨by rfl, rfl⟩) ?_ ?_
              rotate_left
              · simp only [Act.put, List.setIfInBounds_toArray, List.set_cons_zero, List.set_cons_succ, i64_w, i32_w]
                rfl
              refine pure_ (i := 26) (N := some 191) (v := undef) (a' := ?_) #[true, true, true, true, true, true, true, true, true, true, true, true, true, true, true, true, true, true, true, true, true, true, true, true, true, true, true, false, false, false, false, false, false, false, false] rfl rfl (by kernel_rfl) (fun _ _ _ h => h) (Or.inr ⟨by rfl, rfl⟩) ?_ ?_
              rotate_left
              · simp only [Act.put, List.setIfInBounds_toArray, List.set_cons_zero, List.set_cons_succ, i64_w, i32_w]
                rfl
              refine pure_ (i := 27) (N := some 192) (v := undef) (a' := ?_) #[true, true, true, true, true, true, true, true, true, true, true, true, true, true, true, true, true, true, true, true, true, true, true, true, true, true, true, true, false, false, false, false, false, false, false] rfl rfl (by kernel_rfl) (fun _ _ _ h => h) (Or.inr ⟨by rfl, rfl⟩) ?_ ?_
              rotate_left
              · simp only [Act.put, List.setIfInBounds_toArray, List.set_cons_zero, List.set_cons_succ, i64_w, i32_w]
                rfl
              refine pure_ (i := 28) (N := some 193) (v := undef) (a' := ?_) #[true, true, true, true, true, true, true, true, true, true, true, true, true, true, true, true, true, true, true, true, true, true, true, true, true, true, true, true, true, false, false, false, false, false, false] rfl rfl (by kernel_rfl) (fun _ _ _ h => h) (Or.inr ⟨by rfl, rfl⟩) ?_ ?_
              rotate_left
              · simp only [Act.put, List.setIfInBounds_toArray, List.set_cons_zero, List.set_cons_succ, i64_w, i32_w]
                rfl
              refine pure_ (i := 29) (N := some 194) (v := undef) (a' := ?_) #[true, true, true, true, true, true, true, true, true, true, true, true, true, true, true, true, true, true, true, true, true, true, true, true, true, true, true, true, true, true, false, false, false, false, false] rfl rfl (by kernel_rfl) (fun _ _ _ h => h) (Or.inr ⟨by rfl, rfl⟩) ?_ ?_
              rotate_left
              · simp only [Act.put, List.setIfInBounds_toArray, List.set_cons_zero, List.set_cons_succ, i64_w, i32_w]
                rfl
              refine pure_ (i := 30) (N := some 195) (v := undef) (a' := ?_) #[true, true, true, true, true, true, true, true, true, true, true, true, true, true, true, true, true, true, true, true, true, true, true, true, true, true, true, true, true, true, true, false, false, false, false] rfl rfl (by kernel_rfl) (fun _ _ _ h => h) (Or.inr ⟨by rfl, rfl⟩) ?_ ?_
              rotate_left
              · simp only [Act.put, List.setIfInBounds_toArray, List.set_cons_zero, List.set_cons_succ, i64_w, i32_w]
                rfl
              refine pure_ (i := 31) (N := some 196) (v := undef) (a' := ?_) #[true, true, true, true, true, true, true, true, true, true, true, true, true, true, true, true, true, true, true, true, true, true, true, true, true, true, true, true, true, true, true, true, false, false, false] rfl rfl (by kernel_rfl) (fun _ _ _ h => h) (Or.inr ⟨by rfl, rfl⟩) ?_ ?_
              rotate_left
              · simp only [Act.put, List.setIfInBounds_toArray, List.set_cons_zero, List.set_cons_succ, i64_w, i32_w]
                rfl
              refine pure_ (i := 32) (N := some 197) (v := ?_) (a' := ?_) #[true, true, true, true, true, true, true, true, true, true, true, true, true, true, true, true, true, true, true, true, true, true, true, true, true, true, true, true, true, true, true, true, true, false, false] rfl rfl (by kernel_rfl) (fun _ _ _ h => h) (Or.inl ⟨by rfl, ?_⟩) ?_ ?_
              rotate_left
              · intro w'
                go_simp
                with_reducible rfl
              rotate_left
              · simp only [Act.put, List.setIfInBounds_toArray, List.set_cons_zero, List.set_cons_succ, i64_w, i32_w]
                rfl
              refine pure_ (i := 33) (N := some 198) (v := ?_) (a' := ?_) #[true, true, true, true, true, true, true, true, true, true, true, true, true, true, true, true, true, true, true, true, true, true, true, true, true, true, true, true, true, true, true, true, true, true, false] rfl rfl (by kernel_rfl) (fun _ _ _ h => h) (Or.inl ⟨by rfl, ?_⟩) ?_ ?_
              rotate_left
              · intro w'
                go_simp
                with_reducible rfl
              rotate_left
              · simp only [Act.put, List.setIfInBounds_toArray, List.set_cons_zero, List.set_cons_succ, i64_w, i32_w]
                rfl
              refine pure_ (i := 34) (N := some 199) (v := ?_) (a' := ?_) #[true, true, true, true, true, true, true, true, true, true, true, true, true, true, true, true, true, true, true, true, true, true, true, true, true, true, true, true, true, true, true, true, true, true, true] rfl rfl (by kernel_rfl) (fun _ _ _ h => h) (Or.inl ⟨by rfl, ?_⟩) ?_ ?_
              rotate_left
              · intro w'
                go_simp
                with_reducible rfl
              rotate_left
              · simp only [Act.put, List.setIfInBounds_toArray, List.set_cons_zero, List.set_cons_succ, i64_w, i32_w]
                rfl
              refine done_ (by kernel_rfl) ?_

              have HT1 := hHeld.2.2.2.2
              clear hHeld
              go_wp2_with fail
              go_meet
              exact ⟨rfl, HT1⟩
            · obtain rfl : r = r' := hrr.symm
              have k2 : decide ((c : Int) ≤ (c' : Int)) = false := decide_eq_false (by clear e1'; omega)
              have k2' : decide (c ≤ c') = false := decide_eq_false (by clear e1'; omega)
              have k4 : decide ((r : Int) < (r : Int)) = false := decide_eq_false (by clear e1'; omega)
              clear hlt2
              refine start_ (n := 35) (S := fun w' => w'.cell? ⟨u, 2, none⟩ = some (.int .i64 (r : Int)) ∧ w'.cell? ⟨u, 3, none⟩ = some (.int .i64 (c : Int)) ∧ w'.cell? ⟨(ad.add (k * 4)).block, (ad.add (k * 4)).off + 2, none⟩ = some (.int .i64 (r : Int)) ∧ w'.cell? ⟨(ad.add (k * 4)).block, (ad.add (k * 4)).off + 3, none⟩ = some (.int .i64 (c' : Int)) ∧ Aside0 (T5 w w' w.heap.size q u R C a b r c (.slice (some ad) M ca) (tl R C h v M) ms)) (ds := []) #[false, false, false, false, false, false, false, false, false, false, false, false, false, false, false, false, false, false, false, false, false, false, false, false, false, false, false, false, false, false, false, false, false, false, false] (by kernel_rfl) rfl rfl ⟨HT0.out.drew.til.cell 2, HT0.out.drew.til.cell 3, T2.out, T3.out, ⟨HT0.out.drew⟩⟩ (fun hHeld => ?_)
              refine pure_ (i := 0) (N := some 165) (v := ?_) (a' := ?_) #[true, false, false, false, false, false, false, false, false, false, false, false, false, false, false, false, false, false, false, false, false, false, false, false, false, false, false, false, false, false, false, false, false, false, false] rfl rfl (by kernel_rfl) (fun _ _ _ h => h) (Or.inl ⟨by rfl, ?_⟩) ?_ ?_
              rotate_left
              · intro w'
                go_simp
                with_reducible rfl
              rotate_left
              · simp only [Act.put, List.setIfInBounds_toArray, List.set_cons_zero, List.set_cons_succ, i64_w, i32_w]
                rfl
              refine pure_ (i := 1) (N := some 166) (v := ?_) (a' := ?_) #[true, true, false, false, false, false, false, false, false, false, false, false, false, false, false, false, false, false, false, false, false, false, false, false, false, false, false, false, false, false, false, false, false, false, false] rfl rfl (by kernel_rfl) (fun _ _ _ h => h) (Or.inl ⟨by rfl, ?_⟩) ?_ ?_
              rotate_left
              · intro w'
                go_simp
                with_reducible rfl
              rotate_left
              · simp only [Act.put, List.setIfInBounds_toArray, List.set_cons_zero, List.set_cons_succ, i64_w, i32_w]
                rfl
              refine pure_ (i := 2) (N := some 167) (v := ?_) (a' := ?_) #[true, true, true, false, false, false, false, false, false, false, false, false, false, false, false, false, false, false, false, false, false, false, false, false, false, false, false, false, false, false, false, false, false, false, false] rfl rfl (by kernel_rfl) (fun _ _ _ h => h) (Or.inl ⟨by rfl, ?_⟩) ?_ ?_
              rotate_left
              · intro w'
                go_simp
                with_reducible rfl
              rotate_left
              · simp only [Act.put, List.setIfInBounds_toArray, List.set_cons_zero, List.set_cons_succ, i64_w, i32_w]
                rfl
              refine pure_ (i := 3) (N := some 168) (v := ?_) (a' := ?_) #[true, true, true, true, false, false, false, false, false, false, false, false, false, false, false, false, false, false, false, false, false, false, false, false, false, false, false, false, false, false, false, false, false, false, false] rfl rfl (by kernel_rfl) (fun _ _ _ h => h) (Or.inl ⟨by rfl, ?_⟩) ?_ ?_
              rotate_left
              · intro w'
                go_simp
                with_reducible rfl
              rotate_left
              · simp only [Act.put, List.setIfInBounds_toArray, List.set_cons_zero, List.set_cons_succ, i64_w, i32_w]
                rfl
              refine pure_ (i := 4) (N := some 169) (v := ?_) (a' := ?_) #[true, true, true, true, true, false, false, false, false, false, false, false, false, false, false, false, false, false, false, false, false, false, false, false, false, false, false, false, false, false, false, false, false, false, false] rfl rfl (by kernel_rfl) (fun _ _ _ h => h) (Or.inl ⟨by rfl, ?_⟩) ?_ ?_
              rotate_left
              · intro w'
                go_simp
                with_reducible rfl
              rotate_left
              · simp only [Act.put, List.setIfInBounds_toArray, List.set_cons_zero, List.set_cons_succ, i64_w, i32_w]
                rfl
              refine pure_ (i := 5) (N := some 170) (v := ?_) (a' := ?_) #[true, true, true, true, true, true, false, false, false, false, false, false, false, false, false, false, false, false, false, false, false, false, false, false, false, false, false, false, false, false, false, false, false, false, false] rfl rfl (by kernel_rfl) (fun _ _ _ h => h) (Or.inl ⟨by rfl, ?_⟩) ?_ ?_
              rotate_left
              · intro w'
                go_simp
                with_reducible rfl
              rotate_left
              · simp only [Act.put, List.setIfInBounds_toArray, List.set_cons_zero, List.set_cons_succ, i64_w, i32_w]
                rfl
              refine pure_ (i := 6) (N := some 171) (v := ?_) (a' := ?_) #[true, true, true, true, true, true, true, false, false, false, false, false, false, false, false, false, false, false, false, false, false, false, false, false, false, false, false, false, false, false, false, false, false, false, false] rfl rfl (by kernel_rfl) (fun _ _ _ h => h) (Or.inl ⟨by rfl, ?_⟩) ?_ ?_
              rotate_left
              · intro w'
                go_simp
                with_reducible rfl
              rotate_left
              · simp only [Act.put, List.setIfInBounds_toArray, List.set_cons_zero, List.set_cons_succ, i64_w, i32_w]
                rfl
              refine pure_ (i := 7) (N := some 172) (v := ?_) (a' := ?_) #[true, true, true, true, true, true, true, true, false, false, false, false, false, false, false, false, false, false, false, false, false, false, false, false, false, false, false, false, false, false, false, false, false, false, false] rfl rfl (by kernel_rfl) (fun _ _ _ h => h) (Or.inl ⟨by rfl, ?_⟩) ?_ ?_
              rotate_left
              · intro w'
                go_simp
                with_reducible rfl
              rotate_left
              · simp only [Act.put, List.setIfInBounds_toArray, List.set_cons_zero, List.set_cons_succ, i64_w, i32_w]
                rfl
              refine pure_ (i := 9) (N := some 174) (v := ?_) (a' := ?_) #[true, true, true, true, true, true, true, true, false, true, false, false, false, false, false, false, false, false, false, false, false, false, false, false, false, false, false, false, false, false, false, false, false, false, false] rfl rfl (by kernel_rfl) (fun _ _ _ h => h) (Or.inl ⟨by rfl, ?_⟩) ?_ ?_
              rotate_left
              · intro w'
                go_simp
                with_reducible rfl
              rotate_left
              · simp only [Act.put, List.setIfInBounds_toArray, List.set_cons_zero, List.set_cons_succ, i64_w, i32_w]
                rfl
              refine take_ (i := 8) (N := some 173) (v := ?_) (a' := ?_) #[true, true, true, true, true, true, true, true, true, true, false, false, false, false, false, false, false, false, false, false, false, false, false, false, false, false, false, false, false, false, false, false, false, false, false] rfl rfl (by kernel_rfl) (fun _ _ _ h => h) (Or.inl ⟨by rfl, ?_⟩) hHeld ?_ ?_
              rotate_left
              · rintro w' ⟨s0, s1, s2, s3, s4⟩
                go_simp
                with_reducible rfl
              rotate_left
              · simp only [Act.put, List.setIfInBounds_toArray, List.set_cons_zero, List.set_cons_succ, i64_w, i32_w]
                rfl
              refine take_ (i := 10) (N := some 175) (v := ?_) (a' := ?_) #[true, true, true, true, true, true, true, true, true, true, true, false, false, false, false, false, false, false, false, false, false, false, false, false, false, false, false, false, false, false, false, false, false, false, false] rfl rfl (by kernel_rfl) (fun _ _ _ h => h) (Or.inl ⟨by rfl, ?_⟩) hHeld ?_ ?_
              rotate_left
              · rintro w' ⟨s0, s1, s2, s3, s4⟩
                go_simp
                with_reducible rfl
              rotate_left
              · simp only [Act.put, List.setIfInBounds_toArray, List.set_cons_zero, List.set_cons_succ, i64_w, i32_w]
                rfl
              refine pure_ (i := 11) (N := some 176) (v := ?_) (a' := ?_) #[true, true, true, true, true, true, true, true, true, true, true, true, false, false, false, false, false, false, false, false, false, false, false, false, false, false, false, false, false, false, false, false, false, false, false] rfl rfl (by kernel_rfl) (fun _ _ _ h => h) (Or.inl ⟨by rfl, ?_⟩) ?_ ?_
              rotate_left
              · intro w'
                go_simp
                with_reducible rfl
              rotate_left
              · simp only [Act.put, List.setIfInBounds_toArray, List.set_cons_zero, List.set_cons_succ, i64_w, i32_w]
                rfl
              refine pure_ (i := 12) (N := some 177) (v := ?_) (a' := ?_) #[true, true, true, true, true, true, true, true, true, true, true, true, true, false, false, false, false, false, false, false, false, false, false, false, false, false, false, false, false, false, false, false, false, false, false] rfl rfl (by kernel_rfl) (fun _ _ _ h => h) (Or.inl ⟨by rfl, ?_⟩) ?_ ?_
              rotate_left
              · intro w'
                go_simp
                with_reducible rfl
              rotate_left
              · simp only [Act.put, List.setIfInBounds_toArray, List.set_cons_zero, List.set_cons_succ, i64_w, i32_w]
                rfl
              refine pure_ (i := 13) (N := some 178) (v := ?_) (a' := ?_) #[true, true, true, true, true, true, true, true, true, true, true, true, true, true, false, false, false, false, false, false, false, false, false, false, false, false, false, false, false, false, false, false, false, false, false] rfl rfl (by kernel_rfl) (fun _ _ _ h => h) (Or.inl ⟨by rfl, ?_⟩) ?_ ?_
              rotate_left
              · intro w'
                go_simp
                with_reducible rfl
              rotate_left
              · simp only [Act.put, List.setIfInBounds_toArray, List.set_cons_zero, List.set_cons_succ, i64_w, i32_w]
                rfl
              refine pure_ (i := 14) (N := some 179) (v := ?_) (a' := ?_) #[true, true, true, true, true, true, true, true, true, true, true, true, true, true, true, false, false, false, false, false, false, false, false, false, false, false, false, false, false, false, false, false, false, false, false] rfl rfl (by kernel_rfl) (fun _ _ _ h => h) (Or.inl ⟨by rfl, ?_⟩) ?_ ?_
              rotate_left
              · intro w'
                go_simp
                with_reducible rfl
              rotate_left
              · simp only [Act.put, List.setIfInBounds_toArray, List.set_cons_zero, List.set_cons_succ, i64_w, i32_w]
                rfl
              refine pure_ (i := 15) (N := some 180) (v := ?_) (a' := ?_) #[true, true, true, true, true, true, true, true, true, true, true, true, true, true, true, true, false, false, false, false, false, false, false, false, false, false, false, false, false, false, false, false, false, false, false] rfl rfl (by kernel_rfl) (fun _ _ _ h => h) (Or.inl ⟨by rfl, ?_⟩) ?_ ?_
              rotate_left
              · intro w'
                go_simp
                with_reducible rfl
              rotate_left
              · simp only [Act.put, List.setIfInBounds_toArray, List.set_cons_zero, List.set_cons_succ, i64_w, i32_w]
                rfl
              refine pure_ (i := 16) (N := some 181) (v := ?_) (a' := ?_) #[true, true, true, true, true, true, true, true, true, true, true, true, true, true, true, true, true, false, false, false, false, false, false, false, false, false, false, false, false, false, false, false, false, false, false] rfl rfl (by kernel_rfl) (fun _ _ _ h => h) (Or.inl ⟨by rfl, ?_⟩) ?_ ?_
              rotate_left
              · intro w'
                go_simp
                with_reducible rfl
              rotate_left
              · simp only [Act.put, List.setIfInBounds_toArray, List.set_cons_zero, List.set_cons_succ, i64_w, i32_w]
                rfl
              refine pure_ (i := 17) (N := some 182) (v := ?_) (a' := ?_) #[true, true, true, true, true, true, true, true, true, true, true, true, true, true, true, true, true, true, false, false, false, false, false, false, false, false, false, false, false, false, false, false, false, false, false] rfl rfl (by kernel_rfl) (fun _ _ _ h => h) (Or.inl ⟨by rfl, ?_⟩) ?_ ?_
              rotate_left
              · intro w'
                go_simp
                with_reducible rfl
              rotate_left
              · simp only [Act.put, List.setIfInBounds_toArray, List.set_cons_zero, List.set_cons_succ, i64_w, i32_w]
                rfl
              refine pure_ (i := 19) (N := some 184) (v := ?_) (a' := ?_) #[true, true, true, true, true, true, true, true, true, true, true, true, true, true, true, true, true, true, false, true, false, false, false, false, false, false, false, false, false, false, false, false, false, false, false] rfl rfl (by kernel_rfl) (fun _ _ _ h => h) (Or.inl ⟨by rfl, ?_⟩) ?_ ?_
              rotate_left
              · intro w'
                go_simp
                with_reducible rfl
              rotate_left
              · simp only [Act.put, List.setIfInBounds_toArray, List.set_cons_zero, List.set_cons_succ, i64_w, i32_w]
                rfl
              refine take_ (i := 18) (N := some 183) (v := ?_) (a' := ?_) #[true, true, true, true, true, true, true, true, true, true, true, true, true, true, true, true, true, true, true, true, false, false, false, false, false, false, false, false, false, false, false, false, false, false, false] rfl rfl (by kernel_rfl) (fun _ _ _ h => h) (Or.inl ⟨by rfl, ?_⟩) hHeld ?_ ?_
              rotate_left
              · rintro w' ⟨s0, s1, s2, s3, s4⟩
                go_simp
                with_reducible rfl
              rotate_left
              · simp only [Act.put, List.setIfInBounds_toArray, List.set_cons_zero, List.set_cons_succ, i64_w, i32_w]
                rfl
              refine take_ (i := 20) (N := some 185) (v := ?_) (a' := ?_) #[true, true, true, true, true, true, true, true, true, true, true, true, true, true, true, true, true, true, true, true, true, false, false, false, false, false, false, false, false, false, false, false, false, false, false] rfl rfl (by kernel_rfl) (fun _ _ _ h => h) (Or.inl ⟨by rfl, ?_⟩) hHeld ?_ ?_
              rotate_left
              · rintro w' ⟨s0, s1, s2, s3, s4⟩
                go_simp
                with_reducible rfl
              rotate_left
              · simp only [Act.put, List.setIfInBounds_toArray, List.set_cons_zero, List.set_cons_succ, i64_w, i32_w]
                rfl
              refine pure_ (i := 21) (N := some 186) (v := ?_) (a' := ?_) #[true, true, true, true, true, true, true, true, true, true, true, true, true, true, true, true, true, true, true, true, true, true, false, false, false, false, false, false, false, false, false, false, false, false, false] rfl rfl (by kernel_rfl) (fun _ _ _ h => h) (Or.inl ⟨by rfl, ?_⟩) ?_ ?_
              rotate_left
              · intro w'
                go_simp
                with_reducible rfl
              rotate_left
              · simp only [Act.put, List.setIfInBounds_toArray, List.set_cons_zero, List.set_cons_succ, i64_w, i32_w]
                rfl
              refine pure_ (i := 22) (N := some 187) (v := ?_) (a' := ?_) #[true, true, true, true, true, true, true, true, true, true, true, true, true, true, true, true, true, true, true, true, true, true, true, false, false, false, false, false, false, false, false, false, false, false, false] rfl rfl (by kernel_rfl) (fun _ _ _ h => h) (Or.inl ⟨by rfl, ?_⟩) ?_ ?_
              rotate_left
              · intro w'
                go_simp
                with_reducible rfl
              rotate_left
              · simp only [Act.put, List.setIfInBounds_toArray, List.set_cons_zero, List.set_cons_succ, i64_w, i32_w]
                rfl
              refine pure_ (i := 23) (N := some 188) (v := ?_) (a' := ?_) #[true, true, true, true, true, true, true, true, true, true, true, true, true, true, true, true, true, true, true, true, true, true, true, true, false, false, false, false, false, false, false, false, false, false, false] rfl rfl (by kernel_rfl) (fun _ _ _ h => h) (Or.inl ⟨by rfl, ?_⟩) ?_ ?_
              rotate_left
              · intro w'
                go_simp
                with_reducible rfl
              rotate_left
              · simp only [Act.put, List.setIfInBounds_toArray, List.set_cons_zero, List.set_cons_succ, i64_w, i32_w]
                rfl
              refine pure_ (i := 24) (N := some 189) (v := ?_) (a' := ?_) #[true, true, true, true, true, true, true, true, true, true, true, true, true, true, true, true, true, true, true, true, true, true, true, true, true, false, false, false, false, false, false, false, false, false, false] rfl rfl (by kernel_rfl) (fun _ _ _ h => h) (Or.inl ⟨by rfl, ?_⟩) ?_ ?_
              rotate_left
              · intro w'
                go_simp
                with_reducible rfl
              rotate_left
              · simp only [Act.put, List.setIfInBounds_toArray, List.set_cons_zero, List.set_cons_succ, i64_w, i32_w]
                rfl
              refine pure_ (i := 25) (N := some 190) (v := ?_) (a' := ?_) #[true, true, true, true, true, true, true, true, true, true, true, true, true, true, true, true, true, true, true, true, true, true, true, true, true, true, false, false, false, false, false, false, false, false, false] rfl rfl (by kernel_rfl) (fun _ _ _ h => h) (Or.inl ⟨by rfl, ?_⟩) ?_ ?_
              rotate_left
              · intro w'
                go_simp
                with_reducible rfl
              rotate_left
              · simp only [Act.put, List.setIfInBounds_toArray, List.set_cons_zero, List.set_cons_succ, i64_w, i32_w]
                rfl
              refine pure_ (i := 26) (N := some 191) (v := ?_) (a' := ?_) #[true, true, true, true, true, true, true, true, true, true, true, true, true, true, true, true, true, true, true, true, true, true, true, true, true, true, true, false, false, false, false, false, false, false, false] rfl rfl (by kernel_rfl) (fun _ _ _ h => h) (Or.inl ⟨by rfl, ?_⟩) ?_ ?_
              rotate_left
              · intro w'
                go_simp
                with_reducible rfl
              rotate_left
              · simp only [Act.put, List.setIfInBounds_toArray, List.set_cons_zero, List.set_cons_succ, i64_w, i32_w]
                rfl
              refine pure_ (i := 27) (N := some 192) (v := ?_) (a' := ?_) #[true, true, true, true, true, true, true, true, true, true, true, true, true, true, true, true, true, true, true, true, true, true, true, true, true, true, true, true, false, false, false, false, false, false, false] rfl rfl (by kernel_rfl) (fun _ _ _ h => h) (Or.inl ⟨by rfl, ?_⟩) ?_ ?_
              rotate_left
              · intro w'
                go_simp
                with_reducible rfl
              rotate_left
              · simp only [Act.put, List.setIfInBounds_toArray, List.set_cons_zero, List.set_cons_succ, i64_w, i32_w]
                rfl
              refine pure_ (i := 29) (N := some 194) (v := ?_) (a' := ?_) #[true, true, true, true, true, true, true, true, true, true, true, true, true, true, true, true, true, true, true, true, true, true, true, true, true, true, true, true, false, true, false, false, false, false, false] rfl rfl (by kernel_rfl) (fun _ _ _ h => h) (Or.inl ⟨by rfl, ?_⟩) ?_ ?_
              rotate_left
              · intro w'
                go_simp
                with_reducible rfl
              rotate_left
              · simp only [Act.put, List.setIfInBounds_toArray, List.set_cons_zero, List.set_cons_succ, i64_w, i32_w]
                rfl
              refine take_ (i := 28) (N := some 193) (v := ?_) (a' := ?_) #[true, true, true, true, true, true, true, true, true, true, true, true, true, true, true, true, true, true, true, true, true, true, true, true, true, true, true, true, true, true, false, false, false, false, false] rfl rfl (by kernel_rfl) (fun _ _ _ h => h) (Or.inl ⟨by rfl, ?_⟩) hHeld ?_ ?_
              rotate_left
              · rintro w' ⟨s0, s1, s2, s3, s4⟩
                go_simp
                with_reducible rfl
              rotate_left
              · simp only [Act.put, List.setIfInBounds_toArray, List.set_cons_zero, List.set_cons_succ, i64_w, i32_w]
                rfl
              refine take_ (i := 30) (N := some 195) (v := ?_) (a' := ?_) #[true, true, true, true, true, true, true, true, true, true, true, true, true, true, true, true, true, true, true, true, true, true, true, true, true, true, true, true, true, true, true, false, false, false, false] rfl rfl (by kernel_rfl) (fun _ _ _ h => h) (Or.inl ⟨by rfl, ?_⟩) hHeld ?_ ?_
              rotate_left
              · rintro w' ⟨s0, s1, s2, s3, s4⟩
                go_simp
                with_reducible rfl
              rotate_left
              · simp only [Act.put, List.setIfInBounds_toArray, List.set_cons_zero, List.set_cons_succ, i64_w, i32_w]
                rfl
              refine pure_ (i := 31) (N := some 196) (v := ?_) (a' := ?_) #[true, true, true, true, true, true, true, true, true, true, true, true, true, true, true, true, true, true, true, true, true, true, true, true, true, true, true, true, true, true, true, true, false, false, false] rfl rfl (by kernel_rfl) (fun _ _ _ h => h) (Or.inl ⟨by rfl, ?_⟩) ?_ ?_
              rotate_left
              · intro w'
                go_simp
                with_reducible rfl
              rotate_left
              · simp only [Act.put, List.setIfInBounds_toArray, List.set_cons_zero, List.set_cons_succ, i64_w, i32_w]
                rfl
              refine pure_ (i := 32) (N := some 197) (v := ?_) (a' := ?_) #[true, true, true, true, true, true, true, true, true, true, true, true, true, true, true, true, true, true, true, true, true, true, true, true, true, true, true, true, true, true, true, true, true, false, false] rfl rfl (by kernel_rfl) (fun _ _ _ h => h) (Or.inl ⟨by rfl, ?_⟩) ?_ ?_
              rotate_left
              · intro w'
                go_simp
                with_reducible rfl
              rotate_left
              · simp only [Act.put, List.setIfInBounds_toArray, List.set_cons_zero, List.set_cons_succ, i64_w, i32_w]
                rfl
              refine pure_ (i := 33) (N := some 198) (v := ?_) (a' := ?_) #[true, true, true, true, true, true, true, true, true, true, true, true, true, true, true, true, true, true, true, true, true, true, true, true, true, true, true, true, true, true, true, true, true, true, false] rfl rfl (by kernel_rfl) (fun _ _ _ h => h) (Or.inl ⟨by rfl, ?_⟩) ?_ ?_
              rotate_left
              · intro w'
                go_simp
                with_reducible rfl
              rotate_left
              · simp only [Act.put, List.setIfInBounds_toArray, List.set_cons_zero, List.set_cons_succ, i64_w, i32_w]
                rfl
              refine pure_ (i := 34) (N := some 199) (v := ?_) (a' := ?_) #[true, true, true, true, true, true, true, true, true, true, true, true, true, true, true, true, true, true, true, true, true, true, true, true, true, true, true, true, true, true, true, true, true, true, true] rfl rfl (by kernel_rfl) (fun _ _ _ h => h) (Or.inl ⟨by rfl, ?_⟩) ?_ ?_
              rotate_left
              · intro w'
                go_simp
                with_reducible rfl
              rotate_left
              · simp only [Act.put, List.setIfInBounds_toArray, List.set_cons_zero, List.set_cons_succ, i64_w, i32_w]
                rfl
              refine done_ (by kernel_rfl) ?_

              have HT1 := hHeld.2.2.2.2
              clear hHeld
              go_wp2_with fail
              go_meet
              exact ⟨rfl, HT1⟩
        case rest => as_aux_lemma =>
          clear HT0
          obtain ⟨rfl, HT0⟩ := hcut
          have u2 := HT0.out.til.cell 2
          go_wp2_with fail
          clear u2
          go_loopw [13] (fun v13 wr => ∃ (x : Nat) (zs : List Int), v13 = .int .i64 x ∧ r ≤ x ∧ x ≤ r + a ∧ Aside0 (T5 w wr w.heap.size q u R C a b r c (.slice (some ad) M ca) (tl R C h v M) zs) ∧ Aside0 (Cnt R C (fun x' y' => tix C h v x' y' < m ∨ (r ≤ x' ∧ x' < x ∧ c ≤ y' ∧ y' < c + b)) zs)) (fun v13 _ => r + a - (intOf v13).toNat)
          case atStart => exact ⟨r, ms, rfl, Nat.le_refl _, by omega, HT0, ⟨HC.out.mono (fun x y _ _ => by omega)⟩⟩
          case round =>
            clear HT0 HC
            obtain ⟨x, zs, rfl, hx1, hx2, HT1, HC1⟩ := hrel
            have u0 := HT1.out.til.cell 0
            have u2 := HT1.out.til.cell 2
            have u3 := HT1.out.til.cell 3
            have e3 := add_w HF.out.1 (by have := HF.out; have := HNm.out; omega)
            by_cases h1 : x < r + a
            · have d1 : decide ((x : Int) < (ra : Int)) = true := decide_eq_true (by have := HF.out; clear e3; omega)
              have d1' : decide (x < ra) = true := decide_eq_true (by have := HF.out; clear e3; omega)
              have HX := Aside0.mk (And.intro h1 hx1)
              clear h1 hx2
              go_wp2_with fail
              clear u0 u2 u3 e3 d1 d1'
              go_loopw [14] (fun v14 wr => ∃ (y : Nat) (zs : List Int), v14 = .int .i64 y ∧ c ≤ y ∧ y ≤ c + b ∧ Aside0 (T5 w wr w.heap.size q u R C a b r c (.slice (some ad) M ca) (tl R C h v M) zs) ∧ Aside0 (Cnt R C (fun x' y' => tix C h v x' y' < m ∨ (r ≤ x' ∧ x' < x ∧ c ≤ y' ∧ y' < c + b) ∨ (x' = x ∧ c ≤ y' ∧ y' < y)) zs)) (fun v14 _ => c + b - (intOf v14).toNat)
              case atStart => exact ⟨c, zs, rfl, Nat.le_refl _, by omega, HT1, ⟨HC1.out.mono (fun x y _ _ => by omega)⟩⟩
              case round =>
                clear HT1 HC1
                obtain ⟨y, ys, rfl, hy1, hy2, HT2, HC2⟩ := hrel
                have u1 := HT2.out.til.cell 1
                have u3 := HT2.out.til.cell 3
                have e4 := add_w HF.out.2 (by have := HF.out; have := HNm.out; omega)
                by_cases h2 : y < c + b
                · as_aux_lemma =>
                  have hxR : x < R := by have := HX.out; have := HNm.out; clear e4; omega
                  have hyC : y < C := by have := HNm.out; clear e4; omega
                  have hix : x * C + y < 256 := Nat.lt_of_lt_of_le (plt_ hxR hyC) HRC.out
                  have hno : ¬ (tix C h v x y < m ∨ (r ≤ x ∧ x < x ∧ c ≤ y ∧ y < c + b) ∨ (x = x ∧ c ≤ y ∧ y < y)) := by
                    have := (HN.out.ix x y hxR hyC).2 ⟨HX.out.2, HX.out.1, hy1, h2⟩
                    clear e4
                    omega
                  have hz := HC2.out.no x y hxR hyC hno
                  have hput := HC2.out.put (r := x) (c := y) (E := fun x' y' => tix C h v x' y' < m ∨ (r ≤ x' ∧ x' < x ∧ c ≤ y' ∧ y' < c + b) ∨ (x' = x ∧ c ≤ y' ∧ y' < y + 1)) hyC hix hz (fun x' y' _ _ => by clear e4; omega)
                  rw [hz] at hput
                  have m1 := HT2.out.st.cell (x * C + y) (by rw [HC2.out.len]; exact hix)
                  rw [hz] at m1
                  have m2 := HT2.out.st.met.frozen (x * C + y)
                  have e5 := widx_ x C y 256 hix (by omega)
                  have c1' := HT2.out.st.box.cell 1
                  obtain ⟨ix, hixe⟩ : ∃ z, x * C + y = z := ⟨_, rfl⟩
                  rw [hixe] at m1 m2 e5 hput hix
                  have HP := Aside0.mk hput
                  have HT3 := Aside0.mk (HT2.out.set ix (0 + 1))
                  have d1 : decide ((y : Int) < (cb : Int)) = true := decide_eq_true (by have := HF.out; clear e4 e5; omega)
                  have d1' : decide (y < cb) = true := decide_eq_true (by have := HF.out; clear e4 e5; omega)
                  have HY := Aside0.mk (And.intro hy1 h2)
                  have q1 : (0 : Int) ≤ (ix : Int) := Int.natCast_nonneg ix
                  have N1 := Aside0.mk (next_i y 65536 (by clear e4 e5; omega) (by omega))
                  have q2 : (ix : Int) < 256 := by clear e4 e5; omega
                  clear hz hno hput hxR hyC h2 hixe hy1 hy2
                  go_wp2_with fail
                  go_roundw
                  case rel => exact ⟨y + 1, ys.set ix (0 + 1), by rw [N1.out], by have := HY.out; omega, by have := HY.out; omega, HT3, HP⟩
                  case measure =>
                    exact meas_ (c + b) y HY.out.2 N1.out
                · as_aux_lemma =>
                  have d1 : decide ((y : Int) < (cb : Int)) = false := decide_eq_false (by have := HF.out; clear e4; omega)
                  have d1' : decide (y < cb) = false := decide_eq_false (by have := HF.out; clear e4; omega)
                  have hy3 : y = c + b := by clear e4; omega
                  have HC3 : Aside0 (Cnt R C (fun x' y' => tix C h v x' y' < m ∨ (r ≤ x' ∧ x' < x + 1 ∧ c ≤ y' ∧ y' < c + b)) ys) := ⟨HC2.out.mono (fun x' y' _ _ => by have := HX.out; clear e4; omega)⟩
                  have N1 := Aside0.mk (next_i x 65536 (by have := HX.out; have := HNm.out; clear e4; omega) (by omega))
                  clear h2 hy1 hy2 hy3 HC2
                  go_wp2_with fail
                  go_roundw
                  case rel => exact ⟨x + 1, ys, by rw [N1.out], by have := HX.out; omega, by have := HX.out; omega, HT2, HC3⟩
                  case measure =>
                    exact meas_ (r + a) x HX.out.1 N1.out
            · as_aux_lemma =>
              have d1 : decide ((x : Int) < (ra : Int)) = false := decide_eq_false (by have := HF.out; clear e3; omega)
              have d1' : decide (x < ra) = false := decide_eq_false (by have := HF.out; clear e3; omega)
              have hx3 : x = r + a := by clear e3; omega
              have HC3 : Aside0 (Cnt R C (fun x' y' => tix C h v x' y' < m + 1) zs) := ⟨HC1.out.mono (fun x' y' hx hy => by have := HN.out.ix x' y' hx hy; clear e3; omega)⟩
              clear h1 hx1 hx2 hx3 HC1
              go_wp2_with fail
              go_roundw
              case rel => exact ⟨m + 1, zs, by go_num, HLT.out, ⟨HT1.out.st⟩, HC3⟩
              case measure =>
                have := HLT.out
                simp [intOf]; omega
    · have d1 : decide ((m : Int) < (M : Int)) = false := decide_eq_false (by omega)
      have d1' : decide (m < M) = false := decide_eq_false hlt
      have hmM : m = M := by omega
      have HC3 : Aside0 (Cnt R C (fun x y => True) ms) := ⟨HC.out.mono (fun x y hx hy => by
        have := tix_lt (h := h) (w := v) hx hy
        rw [HM.out] at this
        exact ⟨fun _ => trivial, fun _ => by omega⟩)⟩
      clear HC hlt hm hmM
      go_wp2_with fail
      clear d1 d1'
      go_loopw [15] (fun v15 wx => ∃ (k : Nat), v15 = .int .i64 k ∧ k ≤ R * C ∧ Aside0 (Tst w wx w.heap.size q R C (.slice (some ad) M ca) (tl R C h v M) ms)) (fun v15 _ => R * C - (intOf v15).toNat)
      case atStart => exact ⟨0, rfl, Nat.zero_le _, HS⟩
      case round =>
        clear HS
        obtain ⟨k, rfl, hk, HS⟩ := hrel
        have c0' := HS.out.box.cell 0
        have c1' := HS.out.box.cell 1
        obtain ⟨n, hn⟩ : ∃ n, R * C = n := ⟨_, rfl⟩
        have e1 : wrap64 ((R : Int) * (C : Int)) = (n : Int) := by rw [← Int.natCast_mul, hn, wrap_small n (by have := HRC.out; omega)]
        rw [hn] at hk
        have hn2 : n ≤ 256 := hn ▸ HRC.out
        have HK := Aside0.mk (And.intro hk hn2)
        have HNn := Aside0.mk hn
        by_cases h1 : k < n
        · have d1 : decide ((k : Int) < (n : Int)) = true := decide_eq_true (by clear e1; omega)
          have d1' : decide (k < n) = true := decide_eq_true h1
          have hC0 : 0 < C := HR.out.2
          have hx : k / C < R := (Nat.div_lt_iff_lt_mul hC0).2 (by rw [hn]; exact h1)
          have hone := HC3.out.one (k / C) (k % C) hx (Nat.mod_lt _ hC0) trivial
          rw [show k / C * C + k % C = k by rw [Nat.mul_comm]; exact Nat.div_add_mod k C] at hone
          have m1 := HS.out.cell k (by rw [HC3.out.len]; clear e1; omega)
          rw [hone] at m1
          have q1 : (0 : Int) ≤ (k : Int) := by clear e1; omega
          have q2 : (k : Int) < 256 := by clear e1; omega
          have HK1 := Aside0.mk h1
          clear hone hx hC0 h1 hk hn hn2
          go_wp2_with fail
          go_roundw
          case rel => exact ⟨k + 1, by go_num, by rw [HNn.out]; exact HK1.out, HS⟩
          case measure =>
            have h5 := HK1.out
            have h6 := HNn.out
            rw [h6]
            simp [intOf]; omega
        · have d1 : decide ((k : Int) < (n : Int)) = false := decide_eq_false (by clear e1; omega)
          have d1' : decide (k < n) = false := decide_eq_false h1
          clear h1 hk hn hn2
          go_wp2_with fail
          go_ret
          exact ⟨rfl, HS.out.be⟩
end Go.Proofs.YthppiphldaopnaaDoor.Tiles
