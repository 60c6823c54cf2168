import Derived.Test.YthppiphldaopnaaDoorBlockI
import Derived.Test.YthppiphldaopnaaDoorPShapex1
/-! Blocks: two tiles change places. -/
namespace Go.Proofs.YthppiphldaopnaaDoor.Obj
open Go.RowKit Go.Proofs.YthppiphldaopnaaDoor Go.Proofs.YthppiphldaopnaaDoor.Ext Go.Proofs.YthppiphldaopnaaDoor.PShape Go.Proofs.YthppiphldaopnaaDoor.PBlk Go.Proofs.YthppiphldaopnaaDoor.Pure Go.Proofs.YthppiphldaopnaaDoorW.PrintWords Go.Proofs.YthppiphldaopnaaDoorW.PrintLast Go.Proofs.YthppiphldaopnaaDoorW.PrintMore
set_option linter.unusedVariables false
set_option linter.unusedSimpArgs false
set_option maxRecDepth 100000

theorem eqA38 (d : Nat) (w : World) (x0 y0 x1 y1 x2 y2 x3 y3 : Int) :
    (Op.equalIn (d + 3) 38 (.agg #[.int .i64 x0, .int .i64 x1, .int .i64 x2, .int .i64 x3]) (.agg #[.int .i64 y0, .int .i64 y1, .int .i64 y2, .int .i64 y3])).run Tryd.prog w = .ok ((x0 == y0 && (x1 == y1)) && (x2 == y2 && (x3 == y3))) w := by
  refine eqA_of Tryd.underlying38 (by kernel_rfl) ?_
  refine eqf_cons (by rfl) (by first | (go_simp; done) | (go_simp; rfl)) (by first | (go_simp; done) | (go_simp; rfl)) (eqA26 _ _ _ _ _ _) ?_
  refine eqf_cons (by rfl) (by go_simp; rfl) (by go_simp; rfl) (by go_simp) ?_
  exact eqf_last (by rfl) (by go_simp; rfl) (by go_simp; rfl) (by go_simp)
/-- The m-th word's place of a tile. -/
def pl (C tc r0 c0 m : Nat) : Nat := (r0 + m / tc) * C + c0 + m % tc
theorem pl_at (C : Nat) {tc : Nat} (r0 c0 i : Nat) {k : Nat} (hk : k < tc) : pl C tc r0 c0 (i * tc + k) = (r0 + i) * C + c0 + k := by
  have h1 : (i * tc + k) / tc = i := by rw [Nat.mul_comm, Nat.mul_add_div (by omega), Nat.div_eq_of_lt hk, Nat.add_zero]
  have h2 : (i * tc + k) % tc = k := by rw [Nat.mul_comm, Nat.mul_add_mod, Nat.mod_eq_of_lt hk]
  unfold pl
  rw [h1, h2]
/-- Words change places, one pair behind the other. -/
def swp (xs : List Int) (f g : Nat → Nat) : Nat → List Int
  | 0 => xs
  | m + 1 => ((swp xs f g m).set (f m) ((swp xs f g m).getD (g m) 0)).set (g m) ((swp xs f g m).getD (f m) 0)
theorem swp_len (xs : List Int) (f g : Nat → Nat) (m : Nat) : (swp xs f g m).length = xs.length := by
  induction m with
  | zero => rfl
  | succ m ih => simp only [swp, List.length_set, ih]
theorem Til.lies {R C tr tc r0 c0 n : Nat} (ht : Til R C tr tc r0 c0 n) : Lies R C tr tc r0 c0 := ⟨ht.good, by omega, by omega, by have := ht.r; omega, by have := ht.c; omega, by have := ht.r; omega, by have := ht.c; omega⟩
structure Wst (w0 w : World) (t u p g : Nat) (R C : Nat) (tr tc r0 c0 r1 c1 : Nat) (xs : List Int) : Prop where
  blk : Blo w p g R C xs
  box : Bk w t 38 [.int .i64 tr, .int .i64 tc, .int .i64 r0, .int .i64 c0]
  oth : Bk w u 38 [.int .i64 tr, .int .i64 tc, .int .i64 r1, .int .i64 c1]
  fr : Fr w0 w [g]
section
variable {w0 w w' : World} {t u p g R C tr tc r0 c0 r1 c1 : Nat} {xs xs' : List Int}
theorem Wst.below (k : Wst w0 w t u p g R C tr tc r0 c0 r1 c1 xs) (hb : Below w.heap.size w w') : Wst w0 w' t u p g R C tr tc r0 c0 r1 c1 xs := ⟨k.blk.below hb, k.box.below hb, k.oth.below hb, k.fr.trans (Fr.of_below hb [g])⟩
theorem Wst.set (k : Wst w0 w t u p g R C tr tc r0 c0 r1 c1 xs) (j : Nat) (x : Int) : Wst w0 (w.setCell ⟨g, j, none⟩ (.int .u64 x)) t u p g R C tr tc r0 c0 r1 c1 (xs.set j x) :=
  ⟨k.blk.put j x, k.box.far j _ (k.box.ne k.blk.row (by decide)), k.oth.far j _ (k.oth.ne k.blk.row (by decide)), k.fr.set g j _ (.inl (by simp))⟩
end
attribute [local go_sem high] eqA38 eqA26
set_option maxHeartbeats 4000000 in
theorem swap_no1 (p g : Nat) (R C tr tc r0 c0 r1 c1 : Int) (xs : List Int) (w : World) (h : Blo w p g R C xs) (h1 : ¬ Lies R C tr tc r0 c0) (hT : TabOK w) :
    Calls Tryd.prog 41 #[.pointer (some ⟨p, 0, none⟩), .agg #[.int .i64 tr, .int .i64 tc, .int .i64 r0, .int .i64 c0], .int .i64 r1, .int .i64 c1] w fun e w' => e = .returned (.int .i64 2) ∧ Below w.heap.size w w' := by
  have HL1 := Aside0.mk h1
  have hbe0 := below_alloc (below_alloc (Below.refl w.heap.size w) (Obj.cells #[.int .i64 tr, .int .i64 tc, .int .i64 r0, .int .i64 c0] 38)) (Obj.cells #[.int .i64 tr, .int .i64 tc, .int .i64 r1, .int .i64 c1] 38)
  have HX0 := Aside0.mk (h.below hbe0)
  have HB0 := Aside0.mk ((Bk.new w 38 [.int .i64 tr, .int .i64 tc, .int .i64 r0, .int .i64 c0]).alloc (Obj.cells #[.int .i64 tr, .int .i64 tc, .int .i64 r1, .int .i64 c1] 38))
  have HU0 : Aside0 (Bk ((w.alloc (Obj.cells #[.int .i64 tr, .int .i64 tc, .int .i64 r0, .int .i64 c0] 38)).alloc (Obj.cells #[.int .i64 tr, .int .i64 tc, .int .i64 r1, .int .i64 c1] 38)) (w.heap.size + 1) 38 [.int .i64 tr, .int .i64 tc, .int .i64 r1, .int .i64 c1]) := ⟨by
    have := Bk.new (w.alloc (Obj.cells #[.int .i64 tr, .int .i64 tc, .int .i64 r0, .int .i64 c0] 38)) 38 [.int .i64 tr, .int .i64 tc, .int .i64 r1, .int .i64 c1]
    simpa using this⟩
  have HT0 := Aside0.mk (TabOK.below hT hbe0)
  have HBe0 := Aside0.mk hbe0
  have t0 := HB0.out.cell 0
  have t1 := HB0.out.cell 1
  have t2 := HB0.out.cell 2
  have t3 := HB0.out.cell 3
  have u0 := HU0.out.cell 0
  have u1 := HU0.out.cell 1
  have u2 := HU0.out.cell 2
  have u3 := HU0.out.cell 3
  have HOld := Aside0.mk h.obj.lt
  clear h h1 hT hbe0
  go_enter Tryd.func41, Tryd.ntmps41
  go_wp2_with fail
  refine start_ (n := 15) (S := fun w' => w'.cell? ⟨w.heap.size, 0, none⟩ = some (.int .i64 tr) ∧ w'.cell? ⟨w.heap.size, 1, none⟩ = some (.int .i64 tc) ∧ w'.cell? ⟨w.heap.size, 2, none⟩ = some (.int .i64 r0) ∧ w'.cell? ⟨w.heap.size, 3, none⟩ = some (.int .i64 c0) ∧ w'.cell? ⟨w.heap.size + 1, 0, none⟩ = some (.int .i64 tr) ∧ w'.cell? ⟨w.heap.size + 1, 1, none⟩ = some (.int .i64 tc) ∧ w'.cell? ⟨w.heap.size + 1, 2, none⟩ = some (.int .i64 r1) ∧ w'.cell? ⟨w.heap.size + 1, 3, none⟩ = some (.int .i64 c1) ∧ Aside0 (Below w.heap.size w w' ∧ Blo w' p g R C xs ∧ Bk w' w.heap.size 38 [.int .i64 tr, .int .i64 tc, .int .i64 r0, .int .i64 c0] ∧ Bk w' (w.heap.size + 1) 38 [.int .i64 tr, .int .i64 tc, .int .i64 r1, .int .i64 c1] ∧ TabOK w')) (ds := []) #[false, false, false, false, false, false, false, false, false, false, false, false, false, false, false] (by kernel_rfl) rfl rfl ⟨t0, t1, t2, t3, u0, u1, u2, u3, ⟨below_drew1 HBe0.out, HX0.out.below (below_drew1 (Below.refl _ _)), HB0.out.drew, HU0.out.drew, HT0.out.drew⟩⟩ (fun hHeld => ?_)
  refine pure_ (i := 0) (N := some 20) (v := ?_) (a' := ?_) #[true, false, false, false, false, false, false, false, false, false, false, false, false, false, false] rfl rfl (by kernel_rfl) (fun _ _ _ h => h) (Or.inl ⟨by rfl, ?_⟩) ?_ ?_
  rotate_left
  · intro w'
    go_simp
    with_reducible rfl
  rotate_left
  · simp only [Act.put, List.setIfInBounds_toArray, List.set_cons_zero, List.set_cons_succ, i64_w, i32_w]
    rfl
  refine pure_ (i := 1) (N := some 21) (v := ?_) (a' := ?_) #[true, true, false, false, false, false, false, false, false, false, false, false, false, false, false] rfl rfl (by kernel_rfl) (fun _ _ _ h => h) (Or.inl ⟨by rfl, ?_⟩) ?_ ?_
  rotate_left
  · intro w'
    go_simp
    with_reducible rfl
  rotate_left
  · simp only [Act.put, List.setIfInBounds_toArray, List.set_cons_zero, List.set_cons_succ, i64_w, i32_w]
    rfl
  refine pure_ (i := 2) (N := some 22) (v := ?_) (a' := ?_) #[true, true, true, false, false, false, false, false, false, false, false, false, false, false, false] rfl rfl (by kernel_rfl) (fun _ _ _ h => h) (Or.inl ⟨by rfl, ?_⟩) ?_ ?_
  rotate_left
  · intro w'
    go_simp
    with_reducible rfl
  rotate_left
  · simp only [Act.put, List.setIfInBounds_toArray, List.set_cons_zero, List.set_cons_succ, i64_w, i32_w]
    rfl
  refine take_ (i := 3) (N := some 23) (v := ?_) (a' := ?_) #[true, true, true, true, false, false, false, false, false, false, false, false, false, false, false] rfl rfl (by kernel_rfl) (fun _ _ _ h => h) (Or.inl ⟨by rfl, ?_⟩) hHeld ?_ ?_
  rotate_left
  · rintro w' ⟨s0, s1, s2, s3, s4, s5, s6, s7, s8⟩
    go_simp
    with_reducible rfl
  rotate_left
  · simp only [Act.put, List.setIfInBounds_toArray, List.set_cons_zero, List.set_cons_succ, i64_w, i32_w]
    rfl
  refine one_ (i := 4) (N := some 24) #[true, true, true, true, true, false, false, false, false, false, false, false, false, false, false] rfl rfl (by kernel_rfl) (by decide) (fun K hK => ?_)
  refine goes_ Tryd.func61 (by kernel_rfl) rfl #[.pointer (some ⟨p, 0, none⟩), .agg #[.int .i64 tr, .int .i64 tc, .int .i64 r0, .int .i64 c0]] (by rfl) rfl rfl (by simp only [List.map_toArray, List.map_cons, List.map_nil]; rfl) ?_
  with_reducible refine (holds_no p g R C tr tc r0 c0 xs _ hHeld.2.2.2.2.2.2.2.2.out.2.1 HL1.out hHeld.2.2.2.2.2.2.2.2.out.2.2.2.2).mono ?_
  rintro e w1 ⟨rfl, hb⟩
  refine ⟨_, rfl, ?_⟩
  have nX := hHeld.2.2.2.2.2.2.2.2.out.2.1.below hb
  have nB := hHeld.2.2.2.2.2.2.2.2.out.2.2.1.below hb
  have nU := hHeld.2.2.2.2.2.2.2.2.out.2.2.2.1.below hb
  have nT := TabOK.below hHeld.2.2.2.2.2.2.2.2.out.2.2.2.2 hb
  have nE := below_step hHeld.2.2.2.2.2.2.2.2.out.1 hb
  clear hHeld hb
  refine hK.out _ _ ⟨nB.cell 0, nB.cell 1, nB.cell 2, nB.cell 3, nU.cell 0, nU.cell 1, nU.cell 2, nU.cell 3, ⟨nE, nX, nB, nU, nT⟩⟩ (fun hHeld => ?_)
  clear hK K
  refine norm_ (a' := ?_) ?_ ?_
  rotate_left
  · show Act.put _ (some 24) _ = _
    simp only [Act.put, List.setIfInBounds_toArray, List.set_cons_zero, List.set_cons_succ, i64_w, i32_w]
    rfl
  refine pure_ (i := 5) (N := some 25) (v := ?_) (a' := ?_) #[true, true, true, true, true, true, false, false, false, false, false, false, false, false, false] rfl rfl (by kernel_rfl) (fun _ _ _ h => h) (Or.inl ⟨by rfl, ?_⟩) ?_ ?_
  rotate_left
  · intro w'
    go_simp
    with_reducible rfl
  rotate_left
  · simp only [Act.put, List.setIfInBounds_toArray, List.set_cons_zero, List.set_cons_succ, i64_w, i32_w]
    rfl
  refine pure_ (i := 6) (N := some 26) (v := ?_) (a' := ?_) #[true, true, true, true, true, true, true, false, false, false, false, false, false, false, false] rfl rfl (by kernel_rfl) (fun _ _ _ h => h) (Or.inl ⟨by rfl, ?_⟩) ?_ ?_
  rotate_left
  · intro w'
    go_simp
    with_reducible rfl
  rotate_left
  · simp only [Act.put, List.setIfInBounds_toArray, List.set_cons_zero, List.set_cons_succ, i64_w, i32_w]
    rfl
  refine pure_ (i := 7) (N := some 27) (v := undef) (a' := ?_) #[true, true, true, true, true, true, true, true, false, false, false, false, false, false, false] rfl rfl (by kernel_rfl) (fun _ _ _ h => h) (Or.inr ⟨by rfl, rfl⟩) ?_ ?_
  rotate_left
  · simp only [Act.put, List.setIfInBounds_toArray, List.set_cons_zero, List.set_cons_succ, i64_w, i32_w]
    rfl
  refine pure_ (i := 8) (N := some 28) (v := undef) (a' := ?_) #[true, true, true, true, true, true, true, true, true, false, false, false, false, false, false] rfl rfl (by kernel_rfl) (fun _ _ _ h => h) (Or.inr ⟨by rfl, rfl⟩) ?_ ?_
  rotate_left
  · simp only [Act.put, List.setIfInBounds_toArray, List.set_cons_zero, List.set_cons_succ, i64_w, i32_w]
    rfl
  refine pure_ (i := 9) (N := some 29) (v := undef) (a' := ?_) #[true, true, true, true, true, true, true, true, true, true, false, false, false, false, false] rfl rfl (by kernel_rfl) (fun _ _ _ h => h) (Or.inr ⟨by rfl, rfl⟩) ?_ ?_
  rotate_left
  · simp only [Act.put, List.setIfInBounds_toArray, List.set_cons_zero, List.set_cons_succ, i64_w, i32_w]
    rfl
  refine pure_ (i := 10) (N := some 30) (v := undef) (a' := ?_) #[true, true, true, true, true, true, true, true, true, true, true, false, false, false, false] rfl rfl (by kernel_rfl) (fun _ _ _ h => h) (Or.inr ⟨by rfl, rfl⟩) ?_ ?_
  rotate_left
  · simp only [Act.put, List.setIfInBounds_toArray, List.set_cons_zero, List.set_cons_succ, i64_w, i32_w]
    rfl
  refine pure_ (i := 11) (N := some 31) (v := undef) (a' := ?_) #[true, true, true, true, true, true, true, true, true, true, true, true, false, false, false] rfl rfl (by kernel_rfl) (fun _ _ _ h => h) (Or.inr ⟨by rfl, rfl⟩) ?_ ?_
  rotate_left
  · simp only [Act.put, List.setIfInBounds_toArray, List.set_cons_zero, List.set_cons_succ, i64_w, i32_w]
    rfl
  refine pure_ (i := 12) (N := some 32) (v := undef) (a' := ?_) #[true, true, true, true, true, true, true, true, true, true, true, true, true, false, false] rfl rfl (by kernel_rfl) (fun _ _ _ h => h) (Or.inr ⟨by rfl, rfl⟩) ?_ ?_
  rotate_left
  · simp only [Act.put, List.setIfInBounds_toArray, List.set_cons_zero, List.set_cons_succ, i64_w, i32_w]
    rfl
  refine pure_ (i := 13) (N := some 33) (v := ?_) (a' := ?_) #[true, true, true, true, true, true, true, true, true, true, true, true, true, true, false] rfl rfl (by kernel_rfl) (fun _ _ _ h => h) (Or.inl ⟨by rfl, ?_⟩) ?_ ?_
  rotate_left
  · intro w'
    go_simp
    with_reducible rfl
  rotate_left
  · simp only [Act.put, List.setIfInBounds_toArray, List.set_cons_zero, List.set_cons_succ, i64_w, i32_w]
    rfl
  refine pure_ (i := 14) (N := some 19) (v := ?_) (a' := ?_) #[true, true, true, true, true, true, true, true, true, true, true, true, true, true, true] rfl rfl (by kernel_rfl) (fun _ _ _ h => h) (Or.inl ⟨by rfl, ?_⟩) ?_ ?_
  rotate_left
  · intro w'
    go_simp
    with_reducible rfl
  rotate_left
  · simp only [Act.put, List.setIfInBounds_toArray, List.set_cons_zero, List.set_cons_succ, i64_w, i32_w]
    rfl
  refine done_ (by kernel_rfl) ?_

  have HS := hHeld.2.2.2.2.2.2.2.2
  clear hHeld t0 t1 t2 t3 u0 u1 u2 u3 HX0 HB0 HU0 HT0 HBe0
  go_wp2
  go_ret
  exact ⟨rfl, HS.out.1⟩
set_option maxHeartbeats 4000000 in
theorem swap_no2 (p g : Nat) (R C tr tc r0 c0 r1 c1 : Int) (xs : List Int) (w : World) (h : Blo w p g R C xs) (h1 : Lies R C tr tc r0 c0) (h2 : ¬ Lies R C tr tc r1 c1) (hT : TabOK w) :
    Calls Tryd.prog 41 #[.pointer (some ⟨p, 0, none⟩), .agg #[.int .i64 tr, .int .i64 tc, .int .i64 r0, .int .i64 c0], .int .i64 r1, .int .i64 c1] w fun e w' => e = .returned (.int .i64 2) ∧ Below w.heap.size w w' := by
  have HL1 := Aside0.mk h1
  have HL2 := Aside0.mk h2
  have hbe0 := below_alloc (below_alloc (Below.refl w.heap.size w) (Obj.cells #[.int .i64 tr, .int .i64 tc, .int .i64 r0, .int .i64 c0] 38)) (Obj.cells #[.int .i64 tr, .int .i64 tc, .int .i64 r1, .int .i64 c1] 38)
  have HX0 := Aside0.mk (h.below hbe0)
  have HB0 := Aside0.mk ((Bk.new w 38 [.int .i64 tr, .int .i64 tc, .int .i64 r0, .int .i64 c0]).alloc (Obj.cells #[.int .i64 tr, .int .i64 tc, .int .i64 r1, .int .i64 c1] 38))
  have HU0 : Aside0 (Bk ((w.alloc (Obj.cells #[.int .i64 tr, .int .i64 tc, .int .i64 r0, .int .i64 c0] 38)).alloc (Obj.cells #[.int .i64 tr, .int .i64 tc, .int .i64 r1, .int .i64 c1] 38)) (w.heap.size + 1) 38 [.int .i64 tr, .int .i64 tc, .int .i64 r1, .int .i64 c1]) := ⟨by
    have := Bk.new (w.alloc (Obj.cells #[.int .i64 tr, .int .i64 tc, .int .i64 r0, .int .i64 c0] 38)) 38 [.int .i64 tr, .int .i64 tc, .int .i64 r1, .int .i64 c1]
    simpa using this⟩
  have HT0 := Aside0.mk (TabOK.below hT hbe0)
  have HBe0 := Aside0.mk hbe0
  have t0 := HB0.out.cell 0
  have t1 := HB0.out.cell 1
  have t2 := HB0.out.cell 2
  have t3 := HB0.out.cell 3
  have u0 := HU0.out.cell 0
  have u1 := HU0.out.cell 1
  have u2 := HU0.out.cell 2
  have u3 := HU0.out.cell 3
  have HOld := Aside0.mk h.obj.lt
  clear h h1 h2 hT hbe0
  go_enter Tryd.func41, Tryd.ntmps41
  go_wp2_with fail
  refine start_ (n := 15) (S := fun w' => w'.cell? ⟨w.heap.size, 0, none⟩ = some (.int .i64 tr) ∧ w'.cell? ⟨w.heap.size, 1, none⟩ = some (.int .i64 tc) ∧ w'.cell? ⟨w.heap.size, 2, none⟩ = some (.int .i64 r0) ∧ w'.cell? ⟨w.heap.size, 3, none⟩ = some (.int .i64 c0) ∧ w'.cell? ⟨w.heap.size + 1, 0, none⟩ = some (.int .i64 tr) ∧ w'.cell? ⟨w.heap.size + 1, 1, none⟩ = some (.int .i64 tc) ∧ w'.cell? ⟨w.heap.size + 1, 2, none⟩ = some (.int .i64 r1) ∧ w'.cell? ⟨w.heap.size + 1, 3, none⟩ = some (.int .i64 c1) ∧ Aside0 (Below w.heap.size w w' ∧ Blo w' p g R C xs ∧ Bk w' w.heap.size 38 [.int .i64 tr, .int .i64 tc, .int .i64 r0, .int .i64 c0] ∧ Bk w' (w.heap.size + 1) 38 [.int .i64 tr, .int .i64 tc, .int .i64 r1, .int .i64 c1] ∧ TabOK w')) (ds := []) #[false, false, false, false, false, false, false, false, false, false, false, false, false, false, false] (by kernel_rfl) rfl rfl ⟨t0, t1, t2, t3, u0, u1, u2, u3, ⟨below_drew1 HBe0.out, HX0.out.below (below_drew1 (Below.refl _ _)), HB0.out.drew, HU0.out.drew, HT0.out.drew⟩⟩ (fun hHeld => ?_)
  refine pure_ (i := 0) (N := some 20) (v := ?_) (a' := ?_) #[true, false, false, false, false, false, false, false, false, false, false, false, false, false, false] rfl rfl (by kernel_rfl) (fun _ _ _ h => h) (Or.inl ⟨by rfl, ?_⟩) ?_ ?_
  rotate_left
  · intro w'
    go_simp
    with_reducible rfl
  rotate_left
  · simp only [Act.put, List.setIfInBounds_toArray, List.set_cons_zero, List.set_cons_succ, i64_w, i32_w]
    rfl
  refine pure_ (i := 1) (N := some 21) (v := ?_) (a' := ?_) #[true, true, false, false, false, false, false, false, false, false, false, false, false, false, false] rfl rfl (by kernel_rfl) (fun _ _ _ h => h) (Or.inl ⟨by rfl, ?_⟩) ?_ ?_
  rotate_left
  · intro w'
    go_simp
    with_reducible rfl
  rotate_left
  · simp only [Act.put, List.setIfInBounds_toArray, List.set_cons_zero, List.set_cons_succ, i64_w, i32_w]
    rfl
  refine pure_ (i := 2) (N := some 22) (v := ?_) (a' := ?_) #[true, true, true, false, false, false, false, false, false, false, false, false, false, false, false] rfl rfl (by kernel_rfl) (fun _ _ _ h => h) (Or.inl ⟨by rfl, ?_⟩) ?_ ?_
  rotate_left
  · intro w'
    go_simp
    with_reducible rfl
  rotate_left
  · simp only [Act.put, List.setIfInBounds_toArray, List.set_cons_zero, List.set_cons_succ, i64_w, i32_w]
    rfl
  refine take_ (i := 3) (N := some 23) (v := ?_) (a' := ?_) #[true, true, true, true, false, false, false, false, false, false, false, false, false, false, false] rfl rfl (by kernel_rfl) (fun _ _ _ h => h) (Or.inl ⟨by rfl, ?_⟩) hHeld ?_ ?_
  rotate_left
  · rintro w' ⟨s0, s1, s2, s3, s4, s5, s6, s7, s8⟩
    go_simp
    with_reducible rfl
  rotate_left
  · simp only [Act.put, List.setIfInBounds_toArray, List.set_cons_zero, List.set_cons_succ, i64_w, i32_w]
    rfl
  refine one_ (i := 4) (N := some 24) #[true, true, true, true, true, false, false, false, false, false, false, false, false, false, false] rfl rfl (by kernel_rfl) (by decide) (fun K hK => ?_)
  refine goes_ Tryd.func61 (by kernel_rfl) rfl #[.pointer (some ⟨p, 0, none⟩), .agg #[.int .i64 tr, .int .i64 tc, .int .i64 r0, .int .i64 c0]] (by rfl) rfl rfl (by simp only [List.map_toArray, List.map_cons, List.map_nil]; rfl) ?_
  with_reducible refine (holds_yes p g R C tr tc r0 c0 xs _ hHeld.2.2.2.2.2.2.2.2.out.2.1 HL1.out hHeld.2.2.2.2.2.2.2.2.out.2.2.2.2).mono ?_
  rintro e w1 ⟨rfl, hb⟩
  refine ⟨_, rfl, ?_⟩
  have nX := hHeld.2.2.2.2.2.2.2.2.out.2.1.below hb
  have nB := hHeld.2.2.2.2.2.2.2.2.out.2.2.1.below hb
  have nU := hHeld.2.2.2.2.2.2.2.2.out.2.2.2.1.below hb
  have nT := TabOK.below hHeld.2.2.2.2.2.2.2.2.out.2.2.2.2 hb
  have nE := below_step hHeld.2.2.2.2.2.2.2.2.out.1 hb
  clear hHeld hb
  refine hK.out _ _ ⟨nB.cell 0, nB.cell 1, nB.cell 2, nB.cell 3, nU.cell 0, nU.cell 1, nU.cell 2, nU.cell 3, ⟨nE, nX, nB, nU, nT⟩⟩ (fun hHeld => ?_)
  clear hK K
  refine norm_ (a' := ?_) ?_ ?_
  rotate_left
  · show Act.put _ (some 24) _ = _
    simp only [Act.put, List.setIfInBounds_toArray, List.set_cons_zero, List.set_cons_succ, i64_w, i32_w]
    rfl
  refine pure_ (i := 5) (N := some 25) (v := ?_) (a' := ?_) #[true, true, true, true, true, true, false, false, false, false, false, false, false, false, false] rfl rfl (by kernel_rfl) (fun _ _ _ h => h) (Or.inl ⟨by rfl, ?_⟩) ?_ ?_
  rotate_left
  · intro w'
    go_simp
    with_reducible rfl
  rotate_left
  · simp only [Act.put, List.setIfInBounds_toArray, List.set_cons_zero, List.set_cons_succ, i64_w, i32_w]
    rfl
  refine pure_ (i := 6) (N := some 26) (v := ?_) (a' := ?_) #[true, true, true, true, true, true, true, false, false, false, false, false, false, false, false] rfl rfl (by kernel_rfl) (fun _ _ _ h => h) (Or.inl ⟨by rfl, ?_⟩) ?_ ?_
  rotate_left
  · intro w'
    go_simp
    with_reducible rfl
  rotate_left
  · simp only [Act.put, List.setIfInBounds_toArray, List.set_cons_zero, List.set_cons_succ, i64_w, i32_w]
    rfl
  refine pure_ (i := 7) (N := some 27) (v := ?_) (a' := ?_) #[true, true, true, true, true, true, true, true, false, false, false, false, false, false, false] rfl rfl (by kernel_rfl) (fun _ _ _ h => h) (Or.inl ⟨by rfl, ?_⟩) ?_ ?_
  rotate_left
  · intro w'
    go_simp
    with_reducible rfl
  rotate_left
  · simp only [Act.put, List.setIfInBounds_toArray, List.set_cons_zero, List.set_cons_succ, i64_w, i32_w]
    rfl
  refine pure_ (i := 8) (N := some 28) (v := ?_) (a' := ?_) #[true, true, true, true, true, true, true, true, true, false, false, false, false, false, false] rfl rfl (by kernel_rfl) (fun _ _ _ h => h) (Or.inl ⟨by rfl, ?_⟩) ?_ ?_
  rotate_left
  · intro w'
    go_simp
    with_reducible rfl
  rotate_left
  · simp only [Act.put, List.setIfInBounds_toArray, List.set_cons_zero, List.set_cons_succ, i64_w, i32_w]
    rfl
  refine pure_ (i := 9) (N := some 29) (v := ?_) (a' := ?_) #[true, true, true, true, true, true, true, true, true, true, false, false, false, false, false] rfl rfl (by kernel_rfl) (fun _ _ _ h => h) (Or.inl ⟨by rfl, ?_⟩) ?_ ?_
  rotate_left
  · intro w'
    go_simp
    with_reducible rfl
  rotate_left
  · simp only [Act.put, List.setIfInBounds_toArray, List.set_cons_zero, List.set_cons_succ, i64_w, i32_w]
    rfl
  refine take_ (i := 10) (N := some 30) (v := ?_) (a' := ?_) #[true, true, true, true, true, true, true, true, true, true, true, false, false, false, false] rfl rfl (by kernel_rfl) (fun _ _ _ h => h) (Or.inl ⟨by rfl, ?_⟩) hHeld ?_ ?_
  rotate_left
  · rintro w' ⟨s0, s1, s2, s3, s4, s5, s6, s7, s8⟩
    go_simp
    with_reducible rfl
  rotate_left
  · simp only [Act.put, List.setIfInBounds_toArray, List.set_cons_zero, List.set_cons_succ, i64_w, i32_w]
    rfl
  refine one_ (i := 11) (N := some 31) #[true, true, true, true, true, true, true, true, true, true, true, true, false, false, false] rfl rfl (by kernel_rfl) (by decide) (fun K hK => ?_)
  refine goes_ Tryd.func61 (by kernel_rfl) rfl #[.pointer (some ⟨p, 0, none⟩), .agg #[.int .i64 tr, .int .i64 tc, .int .i64 r1, .int .i64 c1]] (by rfl) rfl rfl (by simp only [List.map_toArray, List.map_cons, List.map_nil]; rfl) ?_
  with_reducible refine (holds_no p g R C tr tc r1 c1 xs _ hHeld.2.2.2.2.2.2.2.2.out.2.1 HL2.out hHeld.2.2.2.2.2.2.2.2.out.2.2.2.2).mono ?_
  rintro e w1 ⟨rfl, hb⟩
  refine ⟨_, rfl, ?_⟩
  have nX := hHeld.2.2.2.2.2.2.2.2.out.2.1.below hb
  have nB := hHeld.2.2.2.2.2.2.2.2.out.2.2.1.below hb
  have nU := hHeld.2.2.2.2.2.2.2.2.out.2.2.2.1.below hb
  have nT := TabOK.below hHeld.2.2.2.2.2.2.2.2.out.2.2.2.2 hb
  have nE := below_step hHeld.2.2.2.2.2.2.2.2.out.1 hb
  clear hHeld hb
  refine hK.out _ _ ⟨nB.cell 0, nB.cell 1, nB.cell 2, nB.cell 3, nU.cell 0, nU.cell 1, nU.cell 2, nU.cell 3, ⟨nE, nX, nB, nU, nT⟩⟩ (fun hHeld => ?_)
  clear hK K
  refine norm_ (a' := ?_) ?_ ?_
  rotate_left
  · show Act.put _ (some 31) _ = _
    simp only [Act.put, List.setIfInBounds_toArray, List.set_cons_zero, List.set_cons_succ, i64_w, i32_w]
    rfl
  refine pure_ (i := 12) (N := some 32) (v := ?_) (a' := ?_) #[true, true, true, true, true, true, true, true, true, true, true, true, true, false, false] rfl rfl (by kernel_rfl) (fun _ _ _ h => h) (Or.inl ⟨by rfl, ?_⟩) ?_ ?_
  rotate_left
  · intro w'
    go_simp
    with_reducible rfl
  rotate_left
  · simp only [Act.put, List.setIfInBounds_toArray, List.set_cons_zero, List.set_cons_succ, i64_w, i32_w]
    rfl
  refine pure_ (i := 13) (N := some 33) (v := ?_) (a' := ?_) #[true, true, true, true, true, true, true, true, true, true, true, true, true, true, false] rfl rfl (by kernel_rfl) (fun _ _ _ h => h) (Or.inl ⟨by rfl, ?_⟩) ?_ ?_
  rotate_left
  · intro w'
    go_simp
    with_reducible rfl
  rotate_left
  · simp only [Act.put, List.setIfInBounds_toArray, List.set_cons_zero, List.set_cons_succ, i64_w, i32_w]
    rfl
  refine pure_ (i := 14) (N := some 19) (v := ?_) (a' := ?_) #[true, true, true, true, true, true, true, true, true, true, true, true, true, true, true] rfl rfl (by kernel_rfl) (fun _ _ _ h => h) (Or.inl ⟨by rfl, ?_⟩) ?_ ?_
  rotate_left
  · intro w'
    go_simp
    with_reducible rfl
  rotate_left
  · simp only [Act.put, List.setIfInBounds_toArray, List.set_cons_zero, List.set_cons_succ, i64_w, i32_w]
    rfl
  refine done_ (by kernel_rfl) ?_

  have HS := hHeld.2.2.2.2.2.2.2.2
  clear hHeld t0 t1 t2 t3 u0 u1 u2 u3 HX0 HB0 HU0 HT0 HBe0
  go_wp2
  go_ret
  exact ⟨rfl, HS.out.1⟩
set_option maxHeartbeats 4000000 in
theorem swap_eq (p g : Nat) (R C tr tc r0 c0 r1 c1 : Int) (xs : List Int) (w : World) (h : Blo w p g R C xs) (h1 : Lies R C tr tc r0 c0) (h2 : Lies R C tr tc r1 c1) (e1 : (r0 == r1) = true) (e2 : (c0 == c1) = true) (hT : TabOK w) :
    Calls Tryd.prog 41 #[.pointer (some ⟨p, 0, none⟩), .agg #[.int .i64 tr, .int .i64 tc, .int .i64 r0, .int .i64 c0], .int .i64 r1, .int .i64 c1] w fun e w' => e = .returned (.int .i64 0) ∧ Below w.heap.size w w' := by
  have HL1 := Aside0.mk h1
  have HL2 := Aside0.mk h2
  have hbe0 := below_alloc (below_alloc (Below.refl w.heap.size w) (Obj.cells #[.int .i64 tr, .int .i64 tc, .int .i64 r0, .int .i64 c0] 38)) (Obj.cells #[.int .i64 tr, .int .i64 tc, .int .i64 r1, .int .i64 c1] 38)
  have HX0 := Aside0.mk (h.below hbe0)
  have HB0 := Aside0.mk ((Bk.new w 38 [.int .i64 tr, .int .i64 tc, .int .i64 r0, .int .i64 c0]).alloc (Obj.cells #[.int .i64 tr, .int .i64 tc, .int .i64 r1, .int .i64 c1] 38))
  have HU0 : Aside0 (Bk ((w.alloc (Obj.cells #[.int .i64 tr, .int .i64 tc, .int .i64 r0, .int .i64 c0] 38)).alloc (Obj.cells #[.int .i64 tr, .int .i64 tc, .int .i64 r1, .int .i64 c1] 38)) (w.heap.size + 1) 38 [.int .i64 tr, .int .i64 tc, .int .i64 r1, .int .i64 c1]) := ⟨by
    have := Bk.new (w.alloc (Obj.cells #[.int .i64 tr, .int .i64 tc, .int .i64 r0, .int .i64 c0] 38)) 38 [.int .i64 tr, .int .i64 tc, .int .i64 r1, .int .i64 c1]
    simpa using this⟩
  have HT0 := Aside0.mk (TabOK.below hT hbe0)
  have HBe0 := Aside0.mk hbe0
  have t0 := HB0.out.cell 0
  have t1 := HB0.out.cell 1
  have t2 := HB0.out.cell 2
  have t3 := HB0.out.cell 3
  have u0 := HU0.out.cell 0
  have u1 := HU0.out.cell 1
  have u2 := HU0.out.cell 2
  have u3 := HU0.out.cell 3
  have HOld := Aside0.mk h.obj.lt
  clear h h1 h2 hT hbe0
  go_enter Tryd.func41, Tryd.ntmps41
  go_wp2_with fail
  refine start_ (n := 15) (S := fun w' => w'.cell? ⟨w.heap.size, 0, none⟩ = some (.int .i64 tr) ∧ w'.cell? ⟨w.heap.size, 1, none⟩ = some (.int .i64 tc) ∧ w'.cell? ⟨w.heap.size, 2, none⟩ = some (.int .i64 r0) ∧ w'.cell? ⟨w.heap.size, 3, none⟩ = some (.int .i64 c0) ∧ w'.cell? ⟨w.heap.size + 1, 0, none⟩ = some (.int .i64 tr) ∧ w'.cell? ⟨w.heap.size + 1, 1, none⟩ = some (.int .i64 tc) ∧ w'.cell? ⟨w.heap.size + 1, 2, none⟩ = some (.int .i64 r1) ∧ w'.cell? ⟨w.heap.size + 1, 3, none⟩ = some (.int .i64 c1) ∧ Aside0 (Below w.heap.size w w' ∧ Blo w' p g R C xs ∧ Bk w' w.heap.size 38 [.int .i64 tr, .int .i64 tc, .int .i64 r0, .int .i64 c0] ∧ Bk w' (w.heap.size + 1) 38 [.int .i64 tr, .int .i64 tc, .int .i64 r1, .int .i64 c1] ∧ TabOK w')) (ds := []) #[false, false, false, false, false, false, false, false, false, false, false, false, false, false, false] (by kernel_rfl) rfl rfl ⟨t0, t1, t2, t3, u0, u1, u2, u3, ⟨below_drew1 HBe0.out, HX0.out.below (below_drew1 (Below.refl _ _)), HB0.out.drew, HU0.out.drew, HT0.out.drew⟩⟩ (fun hHeld => ?_)
  refine pure_ (i := 0) (N := some 20) (v := ?_) (a' := ?_) #[true, false, false, false, false, false, false, false, false, false, false, false, false, false, false] rfl rfl (by kernel_rfl) (fun _ _ _ h => h) (Or.inl ⟨by rfl, ?_⟩) ?_ ?_
  rotate_left
  · intro w'
    go_simp
    with_reducible rfl
  rotate_left
  · simp only [Act.put, List.setIfInBounds_toArray, List.set_cons_zero, List.set_cons_succ, i64_w, i32_w]
    rfl
  refine pure_ (i := 1) (N := some 21) (v := ?_) (a' := ?_) #[true, true, false, false, false, false, false, false, false, false, false, false, false, false, false] rfl rfl (by kernel_rfl) (fun _ _ _ h => h) (Or.inl ⟨by rfl, ?_⟩) ?_ ?_
  rotate_left
  · intro w'
    go_simp
    with_reducible rfl
  rotate_left
  · simp only [Act.put, List.setIfInBounds_toArray, List.set_cons_zero, List.set_cons_succ, i64_w, i32_w]
    rfl
  refine pure_ (i := 2) (N := some 22) (v := ?_) (a' := ?_) #[true, true, true, false, false, false, false, false, false, false, false, false, false, false, false] rfl rfl (by kernel_rfl) (fun _ _ _ h => h) (Or.inl ⟨by rfl, ?_⟩) ?_ ?_
  rotate_left
  · intro w'
    go_simp
    with_reducible rfl
  rotate_left
  · simp only [Act.put, List.setIfInBounds_toArray, List.set_cons_zero, List.set_cons_succ, i64_w, i32_w]
    rfl
  refine take_ (i := 3) (N := some 23) (v := ?_) (a' := ?_) #[true, true, true, true, false, false, false, false, false, false, false, false, false, false, false] rfl rfl (by kernel_rfl) (fun _ _ _ h => h) (Or.inl ⟨by rfl, ?_⟩) hHeld ?_ ?_
  rotate_left
  · rintro w' ⟨s0, s1, s2, s3, s4, s5, s6, s7, s8⟩
    go_simp
    with_reducible rfl
  rotate_left
  · simp only [Act.put, List.setIfInBounds_toArray, List.set_cons_zero, List.set_cons_succ, i64_w, i32_w]
    rfl
  refine one_ (i := 4) (N := some 24) #[true, true, true, true, true, false, false, false, false, false, false, false, false, false, false] rfl rfl (by kernel_rfl) (by decide) (fun K hK => ?_)
  refine goes_ Tryd.func61 (by kernel_rfl) rfl #[.pointer (some ⟨p, 0, none⟩), .agg #[.int .i64 tr, .int .i64 tc, .int .i64 r0, .int .i64 c0]] (by rfl) rfl rfl (by simp only [List.map_toArray, List.map_cons, List.map_nil]; rfl) ?_
  with_reducible refine (holds_yes p g R C tr tc r0 c0 xs _ hHeld.2.2.2.2.2.2.2.2.out.2.1 HL1.out hHeld.2.2.2.2.2.2.2.2.out.2.2.2.2).mono ?_
  rintro e w1 ⟨rfl, hb⟩
  refine ⟨_, rfl, ?_⟩
  have nX := hHeld.2.2.2.2.2.2.2.2.out.2.1.below hb
  have nB := hHeld.2.2.2.2.2.2.2.2.out.2.2.1.below hb
  have nU := hHeld.2.2.2.2.2.2.2.2.out.2.2.2.1.below hb
  have nT := TabOK.below hHeld.2.2.2.2.2.2.2.2.out.2.2.2.2 hb
  have nE := below_step hHeld.2.2.2.2.2.2.2.2.out.1 hb
  clear hHeld hb
  refine hK.out _ _ ⟨nB.cell 0, nB.cell 1, nB.cell 2, nB.cell 3, nU.cell 0, nU.cell 1, nU.cell 2, nU.cell 3, ⟨nE, nX, nB, nU, nT⟩⟩ (fun hHeld => ?_)
  clear hK K
  refine norm_ (a' := ?_) ?_ ?_
  rotate_left
  · show Act.put _ (some 24) _ = _
    simp only [Act.put, List.setIfInBounds_toArray, List.set_cons_zero, List.set_cons_succ, i64_w, i32_w]
    rfl
  refine pure_ (i := 5) (N := some 25) (v := ?_) (a' := ?_) #[true, true, true, true, true, true, false, false, false, false, false, false, false, false, false] rfl rfl (by kernel_rfl) (fun _ _ _ h => h) (Or.inl ⟨by rfl, ?_⟩) ?_ ?_
  rotate_left
  · intro w'
    go_simp
    with_reducible rfl
  rotate_left
  · simp only [Act.put, List.setIfInBounds_toArray, List.set_cons_zero, List.set_cons_succ, i64_w, i32_w]
    rfl
  refine pure_ (i := 6) (N := some 26) (v := ?_) (a' := ?_) #[true, true, true, true, true, true, true, false, false, false, false, false, false, false, false] rfl rfl (by kernel_rfl) (fun _ _ _ h => h) (Or.inl ⟨by rfl, ?_⟩) ?_ ?_
  rotate_left
  · intro w'
    go_simp
    with_reducible rfl
  rotate_left
  · simp only [Act.put, List.setIfInBounds_toArray, List.set_cons_zero, List.set_cons_succ, i64_w, i32_w]
    rfl
  refine pure_ (i := 7) (N := some 27) (v := ?_) (a' := ?_) #[true, true, true, true, true, true, true, true, false, false, false, false, false, false, false] rfl rfl (by kernel_rfl) (fun _ _ _ h => h) (Or.inl ⟨by rfl, ?_⟩) ?_ ?_
  rotate_left
  · intro w'
    go_simp
    with_reducible rfl
  rotate_left
  · simp only [Act.put, List.setIfInBounds_toArray, List.set_cons_zero, List.set_cons_succ, i64_w, i32_w]
    rfl
  refine pure_ (i := 8) (N := some 28) (v := ?_) (a' := ?_) #[true, true, true, true, true, true, true, true, true, false, false, false, false, false, false] rfl rfl (by kernel_rfl) (fun _ _ _ h => h) (Or.inl ⟨by rfl, ?_⟩) ?_ ?_
  rotate_left
  · intro w'
    go_simp
    with_reducible rfl
  rotate_left
  · simp only [Act.put, List.setIfInBounds_toArray, List.set_cons_zero, List.set_cons_succ, i64_w, i32_w]
    rfl
  refine pure_ (i := 9) (N := some 29) (v := ?_) (a' := ?_) #[true, true, true, true, true, true, true, true, true, true, false, false, false, false, false] rfl rfl (by kernel_rfl) (fun _ _ _ h => h) (Or.inl ⟨by rfl, ?_⟩) ?_ ?_
  rotate_left
  · intro w'
    go_simp
    with_reducible rfl
  rotate_left
  · simp only [Act.put, List.setIfInBounds_toArray, List.set_cons_zero, List.set_cons_succ, i64_w, i32_w]
    rfl
  refine take_ (i := 10) (N := some 30) (v := ?_) (a' := ?_) #[true, true, true, true, true, true, true, true, true, true, true, false, false, false, false] rfl rfl (by kernel_rfl) (fun _ _ _ h => h) (Or.inl ⟨by rfl, ?_⟩) hHeld ?_ ?_
  rotate_left
  · rintro w' ⟨s0, s1, s2, s3, s4, s5, s6, s7, s8⟩
    go_simp
    with_reducible rfl
  rotate_left
  · simp only [Act.put, List.setIfInBounds_toArray, List.set_cons_zero, List.set_cons_succ, i64_w, i32_w]
    rfl
  refine one_ (i := 11) (N := some 31) #[true, true, true, true, true, true, true, true, true, true, true, true, false, false, false] rfl rfl (by kernel_rfl) (by decide) (fun K hK => ?_)
  refine goes_ Tryd.func61 (by kernel_rfl) rfl #[.pointer (some ⟨p, 0, none⟩), .agg #[.int .i64 tr, .int .i64 tc, .int .i64 r1, .int .i64 c1]] (by rfl) rfl rfl (by simp only [List.map_toArray, List.map_cons, List.map_nil]; rfl) ?_
  with_reducible refine (holds_yes p g R C tr tc r1 c1 xs _ hHeld.2.2.2.2.2.2.2.2.out.2.1 HL2.out hHeld.2.2.2.2.2.2.2.2.out.2.2.2.2).mono ?_
  rintro e w1 ⟨rfl, hb⟩
  refine ⟨_, rfl, ?_⟩
  have nX := hHeld.2.2.2.2.2.2.2.2.out.2.1.below hb
  have nB := hHeld.2.2.2.2.2.2.2.2.out.2.2.1.below hb
  have nU := hHeld.2.2.2.2.2.2.2.2.out.2.2.2.1.below hb
  have nT := TabOK.below hHeld.2.2.2.2.2.2.2.2.out.2.2.2.2 hb
  have nE := below_step hHeld.2.2.2.2.2.2.2.2.out.1 hb
  clear hHeld hb
  refine hK.out _ _ ⟨nB.cell 0, nB.cell 1, nB.cell 2, nB.cell 3, nU.cell 0, nU.cell 1, nU.cell 2, nU.cell 3, ⟨nE, nX, nB, nU, nT⟩⟩ (fun hHeld => ?_)
  clear hK K
  refine norm_ (a' := ?_) ?_ ?_
  rotate_left
  · show Act.put _ (some 31) _ = _
    simp only [Act.put, List.setIfInBounds_toArray, List.set_cons_zero, List.set_cons_succ, i64_w, i32_w]
    rfl
  refine pure_ (i := 12) (N := some 32) (v := ?_) (a' := ?_) #[true, true, true, true, true, true, true, true, true, true, true, true, true, false, false] rfl rfl (by kernel_rfl) (fun _ _ _ h => h) (Or.inl ⟨by rfl, ?_⟩) ?_ ?_
  rotate_left
  · intro w'
    go_simp
    with_reducible rfl
  rotate_left
  · simp only [Act.put, List.setIfInBounds_toArray, List.set_cons_zero, List.set_cons_succ, i64_w, i32_w]
    rfl
  refine pure_ (i := 13) (N := some 33) (v := ?_) (a' := ?_) #[true, true, true, true, true, true, true, true, true, true, true, true, true, true, false] rfl rfl (by kernel_rfl) (fun _ _ _ h => h) (Or.inl ⟨by rfl, ?_⟩) ?_ ?_
  rotate_left
  · intro w'
    go_simp
    with_reducible rfl
  rotate_left
  · simp only [Act.put, List.setIfInBounds_toArray, List.set_cons_zero, List.set_cons_succ, i64_w, i32_w]
    rfl
  refine pure_ (i := 14) (N := some 19) (v := ?_) (a' := ?_) #[true, true, true, true, true, true, true, true, true, true, true, true, true, true, true] rfl rfl (by kernel_rfl) (fun _ _ _ h => h) (Or.inl ⟨by rfl, ?_⟩) ?_ ?_
  rotate_left
  · intro w'
    go_simp
    with_reducible rfl
  rotate_left
  · simp only [Act.put, List.setIfInBounds_toArray, List.set_cons_zero, List.set_cons_succ, i64_w, i32_w]
    rfl
  refine done_ (by kernel_rfl) ?_

  have HS := hHeld.2.2.2.2.2.2.2.2
  clear hHeld t0 t1 t2 t3 u0 u1 u2 u3 HX0 HB0 HU0 HT0 HBe0
  have t0 := HS.out.2.2.1.cell 0
  have t1 := HS.out.2.2.1.cell 1
  have t2 := HS.out.2.2.1.cell 2
  have t3 := HS.out.2.2.1.cell 3
  have u0 := HS.out.2.2.2.1.cell 0
  have u1 := HS.out.2.2.2.1.cell 1
  have u2 := HS.out.2.2.2.1.cell 2
  have u3 := HS.out.2.2.2.1.cell 3
  go_wp2
  go_ret
  exact ⟨rfl, HS.out.1⟩
set_option maxHeartbeats 4000000 in
theorem swap_odd1 (p g : Nat) (R C tr tc r0 c0 r1 c1 : Int) (xs : List Int) (w : World) (h : Blo w p g R C xs) (h1 : Lies R C tr tc r0 c0) (h2 : Lies R C tr tc r1 c1) (e1 : (r0 == r1) = false) (k1 : block_apart.f tr tc r0 c0 tr tc r1 c1 = some false) (hT : TabOK w) :
    Calls Tryd.prog 41 #[.pointer (some ⟨p, 0, none⟩), .agg #[.int .i64 tr, .int .i64 tc, .int .i64 r0, .int .i64 c0], .int .i64 r1, .int .i64 c1] w fun e w' => e = .returned (.int .i64 19) ∧ Below w.heap.size w w' := by
  have HL1 := Aside0.mk h1
  have HL2 := Aside0.mk h2
  have K1 := Aside0.mk k1
  have hbe0 := below_alloc (below_alloc (Below.refl w.heap.size w) (Obj.cells #[.int .i64 tr, .int .i64 tc, .int .i64 r0, .int .i64 c0] 38)) (Obj.cells #[.int .i64 tr, .int .i64 tc, .int .i64 r1, .int .i64 c1] 38)
  have HX0 := Aside0.mk (h.below hbe0)
  have HB0 := Aside0.mk ((Bk.new w 38 [.int .i64 tr, .int .i64 tc, .int .i64 r0, .int .i64 c0]).alloc (Obj.cells #[.int .i64 tr, .int .i64 tc, .int .i64 r1, .int .i64 c1] 38))
  have HU0 : Aside0 (Bk ((w.alloc (Obj.cells #[.int .i64 tr, .int .i64 tc, .int .i64 r0, .int .i64 c0] 38)).alloc (Obj.cells #[.int .i64 tr, .int .i64 tc, .int .i64 r1, .int .i64 c1] 38)) (w.heap.size + 1) 38 [.int .i64 tr, .int .i64 tc, .int .i64 r1, .int .i64 c1]) := ⟨by
    have := Bk.new (w.alloc (Obj.cells #[.int .i64 tr, .int .i64 tc, .int .i64 r0, .int .i64 c0] 38)) 38 [.int .i64 tr, .int .i64 tc, .int .i64 r1, .int .i64 c1]
    simpa using this⟩
  have HT0 := Aside0.mk (TabOK.below hT hbe0)
  have HBe0 := Aside0.mk hbe0
  have t0 := HB0.out.cell 0
  have t1 := HB0.out.cell 1
  have t2 := HB0.out.cell 2
  have t3 := HB0.out.cell 3
  have u0 := HU0.out.cell 0
  have u1 := HU0.out.cell 1
  have u2 := HU0.out.cell 2
  have u3 := HU0.out.cell 3
  have HOld := Aside0.mk h.obj.lt
  clear h h1 h2 hT hbe0 k1
  go_enter Tryd.func41, Tryd.ntmps41
  go_wp2_with fail
  refine start_ (n := 15) (S := fun w' => w'.cell? ⟨w.heap.size, 0, none⟩ = some (.int .i64 tr) ∧ w'.cell? ⟨w.heap.size, 1, none⟩ = some (.int .i64 tc) ∧ w'.cell? ⟨w.heap.size, 2, none⟩ = some (.int .i64 r0) ∧ w'.cell? ⟨w.heap.size, 3, none⟩ = some (.int .i64 c0) ∧ w'.cell? ⟨w.heap.size + 1, 0, none⟩ = some (.int .i64 tr) ∧ w'.cell? ⟨w.heap.size + 1, 1, none⟩ = some (.int .i64 tc) ∧ w'.cell? ⟨w.heap.size + 1, 2, none⟩ = some (.int .i64 r1) ∧ w'.cell? ⟨w.heap.size + 1, 3, none⟩ = some (.int .i64 c1) ∧ Aside0 (Below w.heap.size w w' ∧ Blo w' p g R C xs ∧ Bk w' w.heap.size 38 [.int .i64 tr, .int .i64 tc, .int .i64 r0, .int .i64 c0] ∧ Bk w' (w.heap.size + 1) 38 [.int .i64 tr, .int .i64 tc, .int .i64 r1, .int .i64 c1] ∧ TabOK w')) (ds := []) #[false, false, false, false, false, false, false, false, false, false, false, false, false, false, false] (by kernel_rfl) rfl rfl ⟨t0, t1, t2, t3, u0, u1, u2, u3, ⟨below_drew1 HBe0.out, HX0.out.below (below_drew1 (Below.refl _ _)), HB0.out.drew, HU0.out.drew, HT0.out.drew⟩⟩ (fun hHeld => ?_)
  refine pure_ (i := 0) (N := some 20) (v := ?_) (a' := ?_) #[true, false, false, false, false, false, false, false, false, false, false, false, false, false, false] rfl rfl (by kernel_rfl) (fun _ _ _ h => h) (Or.inl ⟨by rfl, ?_⟩) ?_ ?_
  rotate_left
  · intro w'
    go_simp
    with_reducible rfl
  rotate_left
  · simp only [Act.put, List.setIfInBounds_toArray, List.set_cons_zero, List.set_cons_succ, i64_w, i32_w]
    rfl
  refine pure_ (i := 1) (N := some 21) (v := ?_) (a' := ?_) #[true, true, false, false, false, false, false, false, false, false, false, false, false, false, false] rfl rfl (by kernel_rfl) (fun _ _ _ h => h) (Or.inl ⟨by rfl, ?_⟩) ?_ ?_
  rotate_left
  · intro w'
    go_simp
    with_reducible rfl
  rotate_left
  · simp only [Act.put, List.setIfInBounds_toArray, List.set_cons_zero, List.set_cons_succ, i64_w, i32_w]
    rfl
  refine pure_ (i := 2) (N := some 22) (v := ?_) (a' := ?_) #[true, true, true, false, false, false, false, false, false, false, false, false, false, false, false] rfl rfl (by kernel_rfl) (fun _ _ _ h => h) (Or.inl ⟨by rfl, ?_⟩) ?_ ?_
  rotate_left
  · intro w'
    go_simp
    with_reducible rfl
  rotate_left
  · simp only [Act.put, List.setIfInBounds_toArray, List.set_cons_zero, List.set_cons_succ, i64_w, i32_w]
    rfl
  refine take_ (i := 3) (N := some 23) (v := ?_) (a' := ?_) #[true, true, true, true, false, false, false, false, false, false, false, false, false, false, false] rfl rfl (by kernel_rfl) (fun _ _ _ h => h) (Or.inl ⟨by rfl, ?_⟩) hHeld ?_ ?_
  rotate_left
  · rintro w' ⟨s0, s1, s2, s3, s4, s5, s6, s7, s8⟩
    go_simp
    with_reducible rfl
  rotate_left
  · simp only [Act.put, List.setIfInBounds_toArray, List.set_cons_zero, List.set_cons_succ, i64_w, i32_w]
    rfl
  refine one_ (i := 4) (N := some 24) #[true, true, true, true, true, false, false, false, false, false, false, false, false, false, false] rfl rfl (by kernel_rfl) (by decide) (fun K hK => ?_)
  refine goes_ Tryd.func61 (by kernel_rfl) rfl #[.pointer (some ⟨p, 0, none⟩), .agg #[.int .i64 tr, .int .i64 tc, .int .i64 r0, .int .i64 c0]] (by rfl) rfl rfl (by simp only [List.map_toArray, List.map_cons, List.map_nil]; rfl) ?_
  with_reducible refine (holds_yes p g R C tr tc r0 c0 xs _ hHeld.2.2.2.2.2.2.2.2.out.2.1 HL1.out hHeld.2.2.2.2.2.2.2.2.out.2.2.2.2).mono ?_
  rintro e w1 ⟨rfl, hb⟩
  refine ⟨_, rfl, ?_⟩
  have nX := hHeld.2.2.2.2.2.2.2.2.out.2.1.below hb
  have nB := hHeld.2.2.2.2.2.2.2.2.out.2.2.1.below hb
  have nU := hHeld.2.2.2.2.2.2.2.2.out.2.2.2.1.below hb
  have nT := TabOK.below hHeld.2.2.2.2.2.2.2.2.out.2.2.2.2 hb
  have nE := below_step hHeld.2.2.2.2.2.2.2.2.out.1 hb
  clear hHeld hb
  refine hK.out _ _ ⟨nB.cell 0, nB.cell 1, nB.cell 2, nB.cell 3, nU.cell 0, nU.cell 1, nU.cell 2, nU.cell 3, ⟨nE, nX, nB, nU, nT⟩⟩ (fun hHeld => ?_)
  clear hK K
  refine norm_ (a' := ?_) ?_ ?_
  rotate_left
  · show Act.put _ (some 24) _ = _
    simp only [Act.put, List.setIfInBounds_toArray, List.set_cons_zero, List.set_cons_succ, i64_w, i32_w]
    rfl
  refine pure_ (i := 5) (N := some 25) (v := ?_) (a' := ?_) #[true, true, true, true, true, true, false, false, false, false, false, false, false, false, false] rfl rfl (by kernel_rfl) (fun _ _ _ h => h) (Or.inl ⟨by rfl, ?_⟩) ?_ ?_
  rotate_left
  · intro w'
    go_simp
    with_reducible rfl
  rotate_left
  · simp only [Act.put, List.setIfInBounds_toArray, List.set_cons_zero, List.set_cons_succ, i64_w, i32_w]
    rfl
  refine pure_ (i := 6) (N := some 26) (v := ?_) (a' := ?_) #[true, true, true, true, true, true, true, false, false, false, false, false, false, false, false] rfl rfl (by kernel_rfl) (fun _ _ _ h => h) (Or.inl ⟨by rfl, ?_⟩) ?_ ?_
  rotate_left
  · intro w'
    go_simp
    with_reducible rfl
  rotate_left
  · simp only [Act.put, List.setIfInBounds_toArray, List.set_cons_zero, List.set_cons_succ, i64_w, i32_w]
    rfl
  refine pure_ (i := 7) (N := some 27) (v := ?_) (a' := ?_) #[true, true, true, true, true, true, true, true, false, false, false, false, false, false, false] rfl rfl (by kernel_rfl) (fun _ _ _ h => h) (Or.inl ⟨by rfl, ?_⟩) ?_ ?_
  rotate_left
  · intro w'
    go_simp
    with_reducible rfl
  rotate_left
  · simp only [Act.put, List.setIfInBounds_toArray, List.set_cons_zero, List.set_cons_succ, i64_w, i32_w]
    rfl
  refine pure_ (i := 8) (N := some 28) (v := ?_) (a' := ?_) #[true, true, true, true, true, true, true, true, true, false, false, false, false, false, false] rfl rfl (by kernel_rfl) (fun _ _ _ h => h) (Or.inl ⟨by rfl, ?_⟩) ?_ ?_
  rotate_left
  · intro w'
    go_simp
    with_reducible rfl
  rotate_left
  · simp only [Act.put, List.setIfInBounds_toArray, List.set_cons_zero, List.set_cons_succ, i64_w, i32_w]
    rfl
  refine pure_ (i := 9) (N := some 29) (v := ?_) (a' := ?_) #[true, true, true, true, true, true, true, true, true, true, false, false, false, false, false] rfl rfl (by kernel_rfl) (fun _ _ _ h => h) (Or.inl ⟨by rfl, ?_⟩) ?_ ?_
  rotate_left
  · intro w'
    go_simp
    with_reducible rfl
  rotate_left
  · simp only [Act.put, List.setIfInBounds_toArray, List.set_cons_zero, List.set_cons_succ, i64_w, i32_w]
    rfl
  refine take_ (i := 10) (N := some 30) (v := ?_) (a' := ?_) #[true, true, true, true, true, true, true, true, true, true, true, false, false, false, false] rfl rfl (by kernel_rfl) (fun _ _ _ h => h) (Or.inl ⟨by rfl, ?_⟩) hHeld ?_ ?_
  rotate_left
  · rintro w' ⟨s0, s1, s2, s3, s4, s5, s6, s7, s8⟩
    go_simp
    with_reducible rfl
  rotate_left
  · simp only [Act.put, List.setIfInBounds_toArray, List.set_cons_zero, List.set_cons_succ, i64_w, i32_w]
    rfl
  refine one_ (i := 11) (N := some 31) #[true, true, true, true, true, true, true, true, true, true, true, true, false, false, false] rfl rfl (by kernel_rfl) (by decide) (fun K hK => ?_)
  refine goes_ Tryd.func61 (by kernel_rfl) rfl #[.pointer (some ⟨p, 0, none⟩), .agg #[.int .i64 tr, .int .i64 tc, .int .i64 r1, .int .i64 c1]] (by rfl) rfl rfl (by simp only [List.map_toArray, List.map_cons, List.map_nil]; rfl) ?_
  with_reducible refine (holds_yes p g R C tr tc r1 c1 xs _ hHeld.2.2.2.2.2.2.2.2.out.2.1 HL2.out hHeld.2.2.2.2.2.2.2.2.out.2.2.2.2).mono ?_
  rintro e w1 ⟨rfl, hb⟩
  refine ⟨_, rfl, ?_⟩
  have nX := hHeld.2.2.2.2.2.2.2.2.out.2.1.below hb
  have nB := hHeld.2.2.2.2.2.2.2.2.out.2.2.1.below hb
  have nU := hHeld.2.2.2.2.2.2.2.2.out.2.2.2.1.below hb
  have nT := TabOK.below hHeld.2.2.2.2.2.2.2.2.out.2.2.2.2 hb
  have nE := below_step hHeld.2.2.2.2.2.2.2.2.out.1 hb
  clear hHeld hb
  refine hK.out _ _ ⟨nB.cell 0, nB.cell 1, nB.cell 2, nB.cell 3, nU.cell 0, nU.cell 1, nU.cell 2, nU.cell 3, ⟨nE, nX, nB, nU, nT⟩⟩ (fun hHeld => ?_)
  clear hK K
  refine norm_ (a' := ?_) ?_ ?_
  rotate_left
  · show Act.put _ (some 31) _ = _
    simp only [Act.put, List.setIfInBounds_toArray, List.set_cons_zero, List.set_cons_succ, i64_w, i32_w]
    rfl
  refine pure_ (i := 12) (N := some 32) (v := ?_) (a' := ?_) #[true, true, true, true, true, true, true, true, true, true, true, true, true, false, false] rfl rfl (by kernel_rfl) (fun _ _ _ h => h) (Or.inl ⟨by rfl, ?_⟩) ?_ ?_
  rotate_left
  · intro w'
    go_simp
    with_reducible rfl
  rotate_left
  · simp only [Act.put, List.setIfInBounds_toArray, List.set_cons_zero, List.set_cons_succ, i64_w, i32_w]
    rfl
  refine pure_ (i := 13) (N := some 33) (v := ?_) (a' := ?_) #[true, true, true, true, true, true, true, true, true, true, true, true, true, true, false] rfl rfl (by kernel_rfl) (fun _ _ _ h => h) (Or.inl ⟨by rfl, ?_⟩) ?_ ?_
  rotate_left
  · intro w'
    go_simp
    with_reducible rfl
  rotate_left
  · simp only [Act.put, List.setIfInBounds_toArray, List.set_cons_zero, List.set_cons_succ, i64_w, i32_w]
    rfl
  refine pure_ (i := 14) (N := some 19) (v := ?_) (a' := ?_) #[true, true, true, true, true, true, true, true, true, true, true, true, true, true, true] rfl rfl (by kernel_rfl) (fun _ _ _ h => h) (Or.inl ⟨by rfl, ?_⟩) ?_ ?_
  rotate_left
  · intro w'
    go_simp
    with_reducible rfl
  rotate_left
  · simp only [Act.put, List.setIfInBounds_toArray, List.set_cons_zero, List.set_cons_succ, i64_w, i32_w]
    rfl
  refine done_ (by kernel_rfl) ?_

  have HS := hHeld.2.2.2.2.2.2.2.2
  clear hHeld t0 t1 t2 t3 u0 u1 u2 u3 HX0 HB0 HU0 HT0 HBe0
  have t0 := HS.out.2.2.1.cell 0
  have t1 := HS.out.2.2.1.cell 1
  have t2 := HS.out.2.2.1.cell 2
  have t3 := HS.out.2.2.1.cell 3
  have u0 := HS.out.2.2.2.1.cell 0
  have u1 := HS.out.2.2.2.1.cell 1
  have u2 := HS.out.2.2.2.1.cell 2
  have u3 := HS.out.2.2.2.1.cell 3
  go_wp2_with fail
  refine (block_apart.calls tr tc r0 c0 tr tc r1 c1 false _ K1.out).mono ?_
  rintro e w4 ⟨rfl, hb⟩
  have HB := Aside0.mk (below_step HS.out.1 hb)
  clear hb t0 t1 t2 t3 u0 u1 u2 u3 HS
  go_wp2
  go_ret
  exact ⟨rfl, HB.out⟩
set_option maxHeartbeats 4000000 in
theorem swap_odd2 (p g : Nat) (R C tr tc r0 c0 r1 c1 : Int) (xs : List Int) (w : World) (h : Blo w p g R C xs) (h1 : Lies R C tr tc r0 c0) (h2 : Lies R C tr tc r1 c1) (e1 : (r0 == r1) = true) (e2 : (c0 == c1) = false) (k1 : block_apart.f tr tc r0 c0 tr tc r1 c1 = some false) (hT : TabOK w) :
    Calls Tryd.prog 41 #[.pointer (some ⟨p, 0, none⟩), .agg #[.int .i64 tr, .int .i64 tc, .int .i64 r0, .int .i64 c0], .int .i64 r1, .int .i64 c1] w fun e w' => e = .returned (.int .i64 19) ∧ Below w.heap.size w w' := by
  have HL1 := Aside0.mk h1
  have HL2 := Aside0.mk h2
  have K1 := Aside0.mk k1
  have hbe0 := below_alloc (below_alloc (Below.refl w.heap.size w) (Obj.cells #[.int .i64 tr, .int .i64 tc, .int .i64 r0, .int .i64 c0] 38)) (Obj.cells #[.int .i64 tr, .int .i64 tc, .int .i64 r1, .int .i64 c1] 38)
  have HX0 := Aside0.mk (h.below hbe0)
  have HB0 := Aside0.mk ((Bk.new w 38 [.int .i64 tr, .int .i64 tc, .int .i64 r0, .int .i64 c0]).alloc (Obj.cells #[.int .i64 tr, .int .i64 tc, .int .i64 r1, .int .i64 c1] 38))
  have HU0 : Aside0 (Bk ((w.alloc (Obj.cells #[.int .i64 tr, .int .i64 tc, .int .i64 r0, .int .i64 c0] 38)).alloc (Obj.cells #[.int .i64 tr, .int .i64 tc, .int .i64 r1, .int .i64 c1] 38)) (w.heap.size + 1) 38 [.int .i64 tr, .int .i64 tc, .int .i64 r1, .int .i64 c1]) := ⟨by
    have := Bk.new (w.alloc (Obj.cells #[.int .i64 tr, .int .i64 tc, .int .i64 r0, .int .i64 c0] 38)) 38 [.int .i64 tr, .int .i64 tc, .int .i64 r1, .int .i64 c1]
    simpa using this⟩
  have HT0 := Aside0.mk (TabOK.below hT hbe0)
  have HBe0 := Aside0.mk hbe0
  have t0 := HB0.out.cell 0
  have t1 := HB0.out.cell 1
  have t2 := HB0.out.cell 2
  have t3 := HB0.out.cell 3
  have u0 := HU0.out.cell 0
  have u1 := HU0.out.cell 1
  have u2 := HU0.out.cell 2
  have u3 := HU0.out.cell 3
  have HOld := Aside0.mk h.obj.lt
  clear h h1 h2 hT hbe0 k1
  go_enter Tryd.func41, Tryd.ntmps41
  go_wp2_with fail
  refine start_ (n := 15) (S := fun w' => w'.cell? ⟨w.heap.size, 0, none⟩ = some (.int .i64 tr) ∧ w'.cell? ⟨w.heap.size, 1, none⟩ = some (.int .i64 tc) ∧ w'.cell? ⟨w.heap.size, 2, none⟩ = some (.int .i64 r0) ∧ w'.cell? ⟨w.heap.size, 3, none⟩ = some (.int .i64 c0) ∧ w'.cell? ⟨w.heap.size + 1, 0, none⟩ = some (.int .i64 tr) ∧ w'.cell? ⟨w.heap.size + 1, 1, none⟩ = some (.int .i64 tc) ∧ w'.cell? ⟨w.heap.size + 1, 2, none⟩ = some (.int .i64 r1) ∧ w'.cell? ⟨w.heap.size + 1, 3, none⟩ = some (.int .i64 c1) ∧ Aside0 (Below w.heap.size w w' ∧ Blo w' p g R C xs ∧ Bk w' w.heap.size 38 [.int .i64 tr, .int .i64 tc, .int .i64 r0, .int .i64 c0] ∧ Bk w' (w.heap.size + 1) 38 [.int .i64 tr, .int .i64 tc, .int .i64 r1, .int .i64 c1] ∧ TabOK w')) (ds := []) #[false, false, false, false, false, false, false, false, false, false, false, false, false, false, false] (by kernel_rfl) rfl rfl ⟨t0, t1, t2, t3, u0, u1, u2, u3, ⟨below_drew1 HBe0.out, HX0.out.below (below_drew1 (Below.refl _ _)), HB0.out.drew, HU0.out.drew, HT0.out.drew⟩⟩ (fun hHeld => ?_)
  refine pure_ (i := 0) (N := some 20) (v := ?_) (a' := ?_) #[true, false, false, false, false, false, false, false, false, false, false, false, false, false, false] rfl rfl (by kernel_rfl) (fun _ _ _ h => h) (Or.inl ⟨by rfl, ?_⟩) ?_ ?_
  rotate_left
  · intro w'
    go_simp
    with_reducible rfl
  rotate_left
  · simp only [Act.put, List.setIfInBounds_toArray, List.set_cons_zero, List.set_cons_succ, i64_w, i32_w]
    rfl
  refine pure_ (i := 1) (N := some 21) (v := ?_) (a' := ?_) #[true, true, false, false, false, false, false, false, false, false, false, false, false, false, false] rfl rfl (by kernel_rfl) (fun _ _ _ h => h) (Or.inl ⟨by rfl, ?_⟩) ?_ ?_
  rotate_left
  · intro w'
    go_simp
    with_reducible rfl
  rotate_left
  · simp only [Act.put, List.setIfInBounds_toArray, List.set_cons_zero, List.set_cons_succ, i64_w, i32_w]
    rfl
  refine pure_ (i := 2) (N := some 22) (v := ?_) (a' := ?_) #[true, true, true, false, false, false, false, false, false, false, false, false, false, false, false] rfl rfl (by kernel_rfl) (fun _ _ _ h => h) (Or.inl ⟨by rfl, ?_⟩) ?_ ?_
  rotate_left
  · intro w'
    go_simp
    with_reducible rfl
  rotate_left
  · simp only [Act.put, List.setIfInBounds_toArray, List.set_cons_zero, List.set_cons_succ, i64_w, i32_w]
    rfl
  refine take_ (i := 3) (N := some 23) (v := ?_) (a' := ?_) #[true, true, true, true, false, false, false, false, false, false, false, false, false, false, false] rfl rfl (by kernel_rfl) (fun _ _ _ h => h) (Or.inl ⟨by rfl, ?_⟩) hHeld ?_ ?_
  rotate_left
  · rintro w' ⟨s0, s1, s2, s3, s4, s5, s6, s7, s8⟩
    go_simp
    with_reducible rfl
  rotate_left
  · simp only [Act.put, List.setIfInBounds_toArray, List.set_cons_zero, List.set_cons_succ, i64_w, i32_w]
    rfl
  refine one_ (i := 4) (N := some 24) #[true, true, true, true, true, false, false, false, false, false, false, false, false, false, false] rfl rfl (by kernel_rfl) (by decide) (fun K hK => ?_)
  refine goes_ Tryd.func61 (by kernel_rfl) rfl #[.pointer (some ⟨p, 0, none⟩), .agg #[.int .i64 tr, .int .i64 tc, .int .i64 r0, .int .i64 c0]] (by rfl) rfl rfl (by simp only [List.map_toArray, List.map_cons, List.map_nil]; rfl) ?_
  with_reducible refine (holds_yes p g R C tr tc r0 c0 xs _ hHeld.2.2.2.2.2.2.2.2.out.2.1 HL1.out hHeld.2.2.2.2.2.2.2.2.out.2.2.2.2).mono ?_
  rintro e w1 ⟨rfl, hb⟩
  refine ⟨_, rfl, ?_⟩
  have nX := hHeld.2.2.2.2.2.2.2.2.out.2.1.below hb
  have nB := hHeld.2.2.2.2.2.2.2.2.out.2.2.1.below hb
  have nU := hHeld.2.2.2.2.2.2.2.2.out.2.2.2.1.below hb
  have nT := TabOK.below hHeld.2.2.2.2.2.2.2.2.out.2.2.2.2 hb
  have nE := below_step hHeld.2.2.2.2.2.2.2.2.out.1 hb
  clear hHeld hb
  refine hK.out _ _ ⟨nB.cell 0, nB.cell 1, nB.cell 2, nB.cell 3, nU.cell 0, nU.cell 1, nU.cell 2, nU.cell 3, ⟨nE, nX, nB, nU, nT⟩⟩ (fun hHeld => ?_)
  clear hK K
  refine norm_ (a' := ?_) ?_ ?_
  rotate_left
  · show Act.put _ (some 24) _ = _
    simp only [Act.put, List.setIfInBounds_toArray, List.set_cons_zero, List.set_cons_succ, i64_w, i32_w]
    rfl
  refine pure_ (i := 5) (N := some 25) (v := ?_) (a' := ?_) #[true, true, true, true, true, true, false, false, false, false, false, false, false, false, false] rfl rfl (by kernel_rfl) (fun _ _ _ h => h) (Or.inl ⟨by rfl, ?_⟩) ?_ ?_
  rotate_left
  · intro w'
    go_simp
    with_reducible rfl
  rotate_left
  · simp only [Act.put, List.setIfInBounds_toArray, List.set_cons_zero, List.set_cons_succ, i64_w, i32_w]
    rfl
  refine pure_ (i := 6) (N := some 26) (v := ?_) (a' := ?_) #[true, true, true, true, true, true, true, false, false, false, false, false, false, false, false] rfl rfl (by kernel_rfl) (fun _ _ _ h => h) (Or.inl ⟨by rfl, ?_⟩) ?_ ?_
  rotate_left
  · intro w'
    go_simp
    with_reducible rfl
  rotate_left
  · simp only [Act.put, List.setIfInBounds_toArray, List.set_cons_zero, List.set_cons_succ, i64_w, i32_w]
    rfl
  refine pure_ (i := 7) (N := some 27) (v := ?_) (a' := ?_) #[true, true, true, true, true, true, true, true, false, false, false, false, false, false, false] rfl rfl (by kernel_rfl) (fun _ _ _ h => h) (Or.inl ⟨by rfl, ?_⟩) ?_ ?_
  rotate_left
  · intro w'
    go_simp
    with_reducible rfl
  rotate_left
  · simp only [Act.put, List.setIfInBounds_toArray, List.set_cons_zero, List.set_cons_succ, i64_w, i32_w]
    rfl
  refine pure_ (i := 8) (N := some 28) (v := ?_) (a' := ?_) #[true, true, true, true, true, true, true, true, true, false, false, false, false, false, false] rfl rfl (by kernel_rfl) (fun _ _ _ h => h) (Or.inl ⟨by rfl, ?_⟩) ?_ ?_
  rotate_left
  · intro w'
    go_simp
    with_reducible rfl
  rotate_left
  · simp only [Act.put, List.setIfInBounds_toArray, List.set_cons_zero, List.set_cons_succ, i64_w, i32_w]
    rfl
  refine pure_ (i := 9) (N := some 29) (v := ?_) (a' := ?_) #[true, true, true, true, true, true, true, true, true, true, false, false, false, false, false] rfl rfl (by kernel_rfl) (fun _ _ _ h => h) (Or.inl ⟨by rfl, ?_⟩) ?_ ?_
  rotate_left
  · intro w'
    go_simp
    with_reducible rfl
  rotate_left
  · simp only [Act.put, List.setIfInBounds_toArray, List.set_cons_zero, List.set_cons_succ, i64_w, i32_w]
    rfl
  refine take_ (i := 10) (N := some 30) (v := ?_) (a' := ?_) #[true, true, true, true, true, true, true, true, true, true, true, false, false, false, false] rfl rfl (by kernel_rfl) (fun _ _ _ h => h) (Or.inl ⟨by rfl, ?_⟩) hHeld ?_ ?_
  rotate_left
  · rintro w' ⟨s0, s1, s2, s3, s4, s5, s6, s7, s8⟩
    go_simp
    with_reducible rfl
  rotate_left
  · simp only [Act.put, List.setIfInBounds_toArray, List.set_cons_zero, List.set_cons_succ, i64_w, i32_w]
    rfl
  refine one_ (i := 11) (N := some 31) #[true, true, true, true, true, true, true, true, true, true, true, true, false, false, false] rfl rfl (by kernel_rfl) (by decide) (fun K hK => ?_)
  refine goes_ Tryd.func61 (by kernel_rfl) rfl #[.pointer (some ⟨p, 0, none⟩), .agg #[.int .i64 tr, .int .i64 tc, .int .i64 r1, .int .i64 c1]] (by rfl) rfl rfl (by simp only [List.map_toArray, List.map_cons, List.map_nil]; rfl) ?_
  with_reducible refine (holds_yes p g R C tr tc r1 c1 xs _ hHeld.2.2.2.2.2.2.2.2.out.2.1 HL2.out hHeld.2.2.2.2.2.2.2.2.out.2.2.2.2).mono ?_
  rintro e w1 ⟨rfl, hb⟩
  refine ⟨_, rfl, ?_⟩
  have nX := hHeld.2.2.2.2.2.2.2.2.out.2.1.below hb
  have nB := hHeld.2.2.2.2.2.2.2.2.out.2.2.1.below hb
  have nU := hHeld.2.2.2.2.2.2.2.2.out.2.2.2.1.below hb
  have nT := TabOK.below hHeld.2.2.2.2.2.2.2.2.out.2.2.2.2 hb
  have nE := below_step hHeld.2.2.2.2.2.2.2.2.out.1 hb
  clear hHeld hb
  refine hK.out _ _ ⟨nB.cell 0, nB.cell 1, nB.cell 2, nB.cell 3, nU.cell 0, nU.cell 1, nU.cell 2, nU.cell 3, ⟨nE, nX, nB, nU, nT⟩⟩ (fun hHeld => ?_)
  clear hK K
  refine norm_ (a' := ?_) ?_ ?_
  rotate_left
  · show Act.put _ (some 31) _ = _
    simp only [Act.put, List.setIfInBounds_toArray, List.set_cons_zero, List.set_cons_succ, i64_w, i32_w]
    rfl
  refine pure_ (i := 12) (N := some 32) (v := ?_) (a' := ?_) #[true, true, true, true, true, true, true, true, true, true, true, true, true, false, false] rfl rfl (by kernel_rfl) (fun _ _ _ h => h) (Or.inl ⟨by rfl, ?_⟩) ?_ ?_
  rotate_left
  · intro w'
    go_simp
    with_reducible rfl
  rotate_left
  · simp only [Act.put, List.setIfInBounds_toArray, List.set_cons_zero, List.set_cons_succ, i64_w, i32_w]
    rfl
  refine pure_ (i := 13) (N := some 33) (v := ?_) (a' := ?_) #[true, true, true, true, true, true, true, true, true, true, true, true, true, true, false] rfl rfl (by kernel_rfl) (fun _ _ _ h => h) (Or.inl ⟨by rfl, ?_⟩) ?_ ?_
  rotate_left
  · intro w'
    go_simp
    with_reducible rfl
  rotate_left
  · simp only [Act.put, List.setIfInBounds_toArray, List.set_cons_zero, List.set_cons_succ, i64_w, i32_w]
    rfl
  refine pure_ (i := 14) (N := some 19) (v := ?_) (a' := ?_) #[true, true, true, true, true, true, true, true, true, true, true, true, true, true, true] rfl rfl (by kernel_rfl) (fun _ _ _ h => h) (Or.inl ⟨by rfl, ?_⟩) ?_ ?_
  rotate_left
  · intro w'
    go_simp
    with_reducible rfl
  rotate_left
  · simp only [Act.put, List.setIfInBounds_toArray, List.set_cons_zero, List.set_cons_succ, i64_w, i32_w]
    rfl
  refine done_ (by kernel_rfl) ?_

  have HS := hHeld.2.2.2.2.2.2.2.2
  clear hHeld t0 t1 t2 t3 u0 u1 u2 u3 HX0 HB0 HU0 HT0 HBe0
  have t0 := HS.out.2.2.1.cell 0
  have t1 := HS.out.2.2.1.cell 1
  have t2 := HS.out.2.2.1.cell 2
  have t3 := HS.out.2.2.1.cell 3
  have u0 := HS.out.2.2.2.1.cell 0
  have u1 := HS.out.2.2.2.1.cell 1
  have u2 := HS.out.2.2.2.1.cell 2
  have u3 := HS.out.2.2.2.1.cell 3
  go_wp2_with fail
  refine (block_apart.calls tr tc r0 c0 tr tc r1 c1 false _ K1.out).mono ?_
  rintro e w4 ⟨rfl, hb⟩
  have HB := Aside0.mk (below_step HS.out.1 hb)
  clear hb t0 t1 t2 t3 u0 u1 u2 u3 HS
  go_wp2
  go_ret
  exact ⟨rfl, HB.out⟩
theorem Til.two {R C tr tc r0 c0 r1 c1 n i k : Nat} (h : Til R C tr tc r0 c0 n) (h' : Til R C tr tc r1 c1 n) (hi : i < tr) (hk : k < tc) :
    ∃ a b : Nat, (r0 + i) * C + c0 = a ∧ (r1 + i) * C + c1 = b ∧ pl C tc r0 c0 (i * tc + k) = a + k ∧ pl C tc r1 c1 (i * tc + k) = b + k ∧ a + k < n ∧ b + k < n :=
  ⟨_, _, rfl, rfl, pl_at C r0 c0 i hk, pl_at C r1 c1 i hk, by have := h.at_ hi; omega, by have := h'.at_ hi; omega⟩
set_option maxHeartbeats 8000000 in
theorem swap_ok1 (p g R C tr tc r0 c0 r1 c1 : Nat) (xs : List Int) (w : World) (h : Blo w p g R C xs) (h1 : Til R C tr tc r0 c0 xs.length) (h2 : Til R C tr tc r1 c1 xs.length) (e1 : ((r0 : Int) == (r1 : Int)) = false) (k1 : block_apart.f tr tc r0 c0 tr tc r1 c1 = some true) (hT : TabOK w) :
    Calls Tryd.prog 41 #[.pointer (some ⟨p, 0, none⟩), .agg #[.int .i64 tr, .int .i64 tc, .int .i64 r0, .int .i64 c0], .int .i64 r1, .int .i64 c1] w fun e w' => e = .returned (.int .i64 0) ∧ Blo w' p g R C (swp xs (pl C tc r0 c0) (pl C tc r1 c1) (tr * tc)) ∧ Fr w w' [g] := by
  have HL1 : Aside0 (Lies R C tr tc r0 c0) := ⟨h1.lies⟩
  have HL2 : Aside0 (Lies R C tr tc r1 c1) := ⟨h2.lies⟩
  have H1 := Aside0.mk h1
  have H2 := Aside0.mk h2
  have K1 := Aside0.mk k1
  have hbe0 := below_alloc (below_alloc (Below.refl w.heap.size w) (Obj.cells #[.int .i64 (tr : Int), .int .i64 (tc : Int), .int .i64 (r0 : Int), .int .i64 (c0 : Int)] 38)) (Obj.cells #[.int .i64 (tr : Int), .int .i64 (tc : Int), .int .i64 (r1 : Int), .int .i64 (c1 : Int)] 38)
  have HX0 := Aside0.mk (h.below hbe0)
  have HB0 := Aside0.mk ((Bk.new w 38 [.int .i64 (tr : Int), .int .i64 (tc : Int), .int .i64 (r0 : Int), .int .i64 (c0 : Int)]).alloc (Obj.cells #[.int .i64 (tr : Int), .int .i64 (tc : Int), .int .i64 (r1 : Int), .int .i64 (c1 : Int)] 38))
  have HU0 : Aside0 (Bk ((w.alloc (Obj.cells #[.int .i64 (tr : Int), .int .i64 (tc : Int), .int .i64 (r0 : Int), .int .i64 (c0 : Int)] 38)).alloc (Obj.cells #[.int .i64 (tr : Int), .int .i64 (tc : Int), .int .i64 (r1 : Int), .int .i64 (c1 : Int)] 38)) (w.heap.size + 1) 38 [.int .i64 (tr : Int), .int .i64 (tc : Int), .int .i64 (r1 : Int), .int .i64 (c1 : Int)]) := ⟨by
    have := Bk.new (w.alloc (Obj.cells #[.int .i64 (tr : Int), .int .i64 (tc : Int), .int .i64 (r0 : Int), .int .i64 (c0 : Int)] 38)) 38 [.int .i64 (tr : Int), .int .i64 (tc : Int), .int .i64 (r1 : Int), .int .i64 (c1 : Int)]
    simpa using this⟩
  have HT0 := Aside0.mk (TabOK.below hT hbe0)
  have HBe0 := Aside0.mk hbe0
  have t0 := HB0.out.cell 0
  have t1 := HB0.out.cell 1
  have t2 := HB0.out.cell 2
  have t3 := HB0.out.cell 3
  have u0 := HU0.out.cell 0
  have u1 := HU0.out.cell 1
  have u2 := HU0.out.cell 2
  have u3 := HU0.out.cell 3
  have HOld := Aside0.mk h.obj.lt
  clear h h1 h2 hT hbe0 k1
  go_enter Tryd.func41, Tryd.ntmps41
  go_wp2_with fail
  refine start_ (n := 15) (S := fun w' => w'.cell? ⟨w.heap.size, 0, none⟩ = some (.int .i64 (tr : Int)) ∧ w'.cell? ⟨w.heap.size, 1, none⟩ = some (.int .i64 (tc : Int)) ∧ w'.cell? ⟨w.heap.size, 2, none⟩ = some (.int .i64 (r0 : Int)) ∧ w'.cell? ⟨w.heap.size, 3, none⟩ = some (.int .i64 (c0 : Int)) ∧ w'.cell? ⟨w.heap.size + 1, 0, none⟩ = some (.int .i64 (tr : Int)) ∧ w'.cell? ⟨w.heap.size + 1, 1, none⟩ = some (.int .i64 (tc : Int)) ∧ w'.cell? ⟨w.heap.size + 1, 2, none⟩ = some (.int .i64 (r1 : Int)) ∧ w'.cell? ⟨w.heap.size + 1, 3, none⟩ = some (.int .i64 (c1 : Int)) ∧ Aside0 (Below w.heap.size w w' ∧ Blo w' p g R C xs ∧ Bk w' w.heap.size 38 [.int .i64 (tr : Int), .int .i64 (tc : Int), .int .i64 (r0 : Int), .int .i64 (c0 : Int)] ∧ Bk w' (w.heap.size + 1) 38 [.int .i64 (tr : Int), .int .i64 (tc : Int), .int .i64 (r1 : Int), .int .i64 (c1 : Int)] ∧ TabOK w')) (ds := []) #[false, false, false, false, false, false, false, false, false, false, false, false, false, false, false] (by kernel_rfl) rfl rfl ⟨t0, t1, t2, t3, u0, u1, u2, u3, ⟨below_drew1 HBe0.out, HX0.out.below (below_drew1 (Below.refl _ _)), HB0.out.drew, HU0.out.drew, HT0.out.drew⟩⟩ (fun hHeld => ?_)
  refine pure_ (i := 0) (N := some 20) (v := ?_) (a' := ?_) #[true, false, false, false, false, false, false, false, false, false, false, false, false, false, false] rfl rfl (by kernel_rfl) (fun _ _ _ h => h) (Or.inl ⟨by rfl, ?_⟩) ?_ ?_
  rotate_left
  · intro w'
    go_simp
    with_reducible rfl
  rotate_left
  · simp only [Act.put, List.setIfInBounds_toArray, List.set_cons_zero, List.set_cons_succ, i64_w, i32_w]
    rfl
  refine pure_ (i := 1) (N := some 21) (v := ?_) (a' := ?_) #[true, true, false, false, false, false, false, false, false, false, false, false, false, false, false] rfl rfl (by kernel_rfl) (fun _ _ _ h => h) (Or.inl ⟨by rfl, ?_⟩) ?_ ?_
  rotate_left
  · intro w'
    go_simp
    with_reducible rfl
  rotate_left
  · simp only [Act.put, List.setIfInBounds_toArray, List.set_cons_zero, List.set_cons_succ, i64_w, i32_w]
    rfl
  refine pure_ (i := 2) (N := some 22) (v := ?_) (a' := ?_) #[true, true, true, false, false, false, false, false, false, false, false, false, false, false, false] rfl rfl (by kernel_rfl) (fun _ _ _ h => h) (Or.inl ⟨by rfl, ?_⟩) ?_ ?_
  rotate_left
  · intro w'
    go_simp
    with_reducible rfl
  rotate_left
  · simp only [Act.put, List.setIfInBounds_toArray, List.set_cons_zero, List.set_cons_succ, i64_w, i32_w]
    rfl
  refine take_ (i := 3) (N := some 23) (v := ?_) (a' := ?_) #[true, true, true, true, false, false, false, false, false, false, false, false, false, false, false] rfl rfl (by kernel_rfl) (fun _ _ _ h => h) (Or.inl ⟨by rfl, ?_⟩) hHeld ?_ ?_
  rotate_left
  · rintro w' ⟨s0, s1, s2, s3, s4, s5, s6, s7, s8⟩
    go_simp
    with_reducible rfl
  rotate_left
  · simp only [Act.put, List.setIfInBounds_toArray, List.set_cons_zero, List.set_cons_succ, i64_w, i32_w]
    rfl
  refine one_ (i := 4) (N := some 24) #[true, true, true, true, true, false, false, false, false, false, false, false, false, false, false] rfl rfl (by kernel_rfl) (by decide) (fun K hK => ?_)
  refine goes_ Tryd.func61 (by kernel_rfl) rfl #[.pointer (some ⟨p, 0, none⟩), .agg #[.int .i64 (tr : Int), .int .i64 (tc : Int), .int .i64 (r0 : Int), .int .i64 (c0 : Int)]] (by rfl) rfl rfl (by simp only [List.map_toArray, List.map_cons, List.map_nil]; rfl) ?_
  with_reducible refine (holds_yes p g R C (tr : Int) (tc : Int) (r0 : Int) (c0 : Int) xs _ hHeld.2.2.2.2.2.2.2.2.out.2.1 HL1.out hHeld.2.2.2.2.2.2.2.2.out.2.2.2.2).mono ?_
  rintro e w1 ⟨rfl, hb⟩
  refine ⟨_, rfl, ?_⟩
  have nX := hHeld.2.2.2.2.2.2.2.2.out.2.1.below hb
  have nB := hHeld.2.2.2.2.2.2.2.2.out.2.2.1.below hb
  have nU := hHeld.2.2.2.2.2.2.2.2.out.2.2.2.1.below hb
  have nT := TabOK.below hHeld.2.2.2.2.2.2.2.2.out.2.2.2.2 hb
  have nE := below_step hHeld.2.2.2.2.2.2.2.2.out.1 hb
  clear hHeld hb
  refine hK.out _ _ ⟨nB.cell 0, nB.cell 1, nB.cell 2, nB.cell 3, nU.cell 0, nU.cell 1, nU.cell 2, nU.cell 3, ⟨nE, nX, nB, nU, nT⟩⟩ (fun hHeld => ?_)
  clear hK K
  refine norm_ (a' := ?_) ?_ ?_
  rotate_left
  · show Act.put _ (some 24) _ = _
    simp only [Act.put, List.setIfInBounds_toArray, List.set_cons_zero, List.set_cons_succ, i64_w, i32_w]
    rfl
  refine pure_ (i := 5) (N := some 25) (v := ?_) (a' := ?_) #[true, true, true, true, true, true, false, false, false, false, false, false, false, false, false] rfl rfl (by kernel_rfl) (fun _ _ _ h => h) (Or.inl ⟨by rfl, ?_⟩) ?_ ?_
  rotate_left
  · intro w'
    go_simp
    with_reducible rfl
  rotate_left
  · simp only [Act.put, List.setIfInBounds_toArray, List.set_cons_zero, List.set_cons_succ, i64_w, i32_w]
    rfl
  refine pure_ (i := 6) (N := some 26) (v := ?_) (a' := ?_) #[true, true, true, true, true, true, true, false, false, false, false, false, false, false, false] rfl rfl (by kernel_rfl) (fun _ _ _ h => h) (Or.inl ⟨by rfl, ?_⟩) ?_ ?_
  rotate_left
  · intro w'
    go_simp
    with_reducible rfl
  rotate_left
  · simp only [Act.put, List.setIfInBounds_toArray, List.set_cons_zero, List.set_cons_succ, i64_w, i32_w]
    rfl
  refine pure_ (i := 7) (N := some 27) (v := ?_) (a' := ?_) #[true, true, true, true, true, true, true, true, false, false, false, false, false, false, false] rfl rfl (by kernel_rfl) (fun _ _ _ h => h) (Or.inl ⟨by rfl, ?_⟩) ?_ ?_
  rotate_left
  · intro w'
    go_simp
    with_reducible rfl
  rotate_left
  · simp only [Act.put, List.setIfInBounds_toArray, List.set_cons_zero, List.set_cons_succ, i64_w, i32_w]
    rfl
  refine pure_ (i := 8) (N := some 28) (v := ?_) (a' := ?_) #[true, true, true, true, true, true, true, true, true, false, false, false, false, false, false] rfl rfl (by kernel_rfl) (fun _ _ _ h => h) (Or.inl ⟨by rfl, ?_⟩) ?_ ?_
  rotate_left
  · intro w'
    go_simp
    with_reducible rfl
  rotate_left
  · simp only [Act.put, List.setIfInBounds_toArray, List.set_cons_zero, List.set_cons_succ, i64_w, i32_w]
    rfl
  refine pure_ (i := 9) (N := some 29) (v := ?_) (a' := ?_) #[true, true, true, true, true, true, true, true, true, true, false, false, false, false, false] rfl rfl (by kernel_rfl) (fun _ _ _ h => h) (Or.inl ⟨by rfl, ?_⟩) ?_ ?_
  rotate_left
  · intro w'
    go_simp
    with_reducible rfl
  rotate_left
  · simp only [Act.put, List.setIfInBounds_toArray, List.set_cons_zero, List.set_cons_succ, i64_w, i32_w]
    rfl
  refine take_ (i := 10) (N := some 30) (v := ?_) (a' := ?_) #[true, true, true, true, true, true, true, true, true, true, true, false, false, false, false] rfl rfl (by kernel_rfl) (fun _ _ _ h => h) (Or.inl ⟨by rfl, ?_⟩) hHeld ?_ ?_
  rotate_left
  · rintro w' ⟨s0, s1, s2, s3, s4, s5, s6, s7, s8⟩
    go_simp
    with_reducible rfl
  rotate_left
  · simp only [Act.put, List.setIfInBounds_toArray, List.set_cons_zero, List.set_cons_succ, i64_w, i32_w]
    rfl
  refine one_ (i := 11) (N := some 31) #[true, true, true, true, true, true, true, true, true, true, true, true, false, false, false] rfl rfl (by kernel_rfl) (by decide) (fun K hK => ?_)
  refine goes_ Tryd.func61 (by kernel_rfl) rfl #[.pointer (some ⟨p, 0, none⟩), .agg #[.int .i64 (tr : Int), .int .i64 (tc : Int), .int .i64 (r1 : Int), .int .i64 (c1 : Int)]] (by rfl) rfl rfl (by simp only [List.map_toArray, List.map_cons, List.map_nil]; rfl) ?_
  with_reducible refine (holds_yes p g R C (tr : Int) (tc : Int) (r1 : Int) (c1 : Int) xs _ hHeld.2.2.2.2.2.2.2.2.out.2.1 HL2.out hHeld.2.2.2.2.2.2.2.2.out.2.2.2.2).mono ?_
  rintro e w1 ⟨rfl, hb⟩
  refine ⟨_, rfl, ?_⟩
  have nX := hHeld.2.2.2.2.2.2.2.2.out.2.1.below hb
  have nB := hHeld.2.2.2.2.2.2.2.2.out.2.2.1.below hb
  have nU := hHeld.2.2.2.2.2.2.2.2.out.2.2.2.1.below hb
  have nT := TabOK.below hHeld.2.2.2.2.2.2.2.2.out.2.2.2.2 hb
  have nE := below_step hHeld.2.2.2.2.2.2.2.2.out.1 hb
  clear hHeld hb
  refine hK.out _ _ ⟨nB.cell 0, nB.cell 1, nB.cell 2, nB.cell 3, nU.cell 0, nU.cell 1, nU.cell 2, nU.cell 3, ⟨nE, nX, nB, nU, nT⟩⟩ (fun hHeld => ?_)
  clear hK K
  refine norm_ (a' := ?_) ?_ ?_
  rotate_left
  · show Act.put _ (some 31) _ = _
    simp only [Act.put, List.setIfInBounds_toArray, List.set_cons_zero, List.set_cons_succ, i64_w, i32_w]
    rfl
  refine pure_ (i := 12) (N := some 32) (v := ?_) (a' := ?_) #[true, true, true, true, true, true, true, true, true, true, true, true, true, false, false] rfl rfl (by kernel_rfl) (fun _ _ _ h => h) (Or.inl ⟨by rfl, ?_⟩) ?_ ?_
  rotate_left
  · intro w'
    go_simp
    with_reducible rfl
  rotate_left
  · simp only [Act.put, List.setIfInBounds_toArray, List.set_cons_zero, List.set_cons_succ, i64_w, i32_w]
    rfl
  refine pure_ (i := 13) (N := some 33) (v := ?_) (a' := ?_) #[true, true, true, true, true, true, true, true, true, true, true, true, true, true, false] rfl rfl (by kernel_rfl) (fun _ _ _ h => h) (Or.inl ⟨by rfl, ?_⟩) ?_ ?_
  rotate_left
  · intro w'
    go_simp
    with_reducible rfl
  rotate_left
  · simp only [Act.put, List.setIfInBounds_toArray, List.set_cons_zero, List.set_cons_succ, i64_w, i32_w]
    rfl
  refine pure_ (i := 14) (N := some 19) (v := ?_) (a' := ?_) #[true, true, true, true, true, true, true, true, true, true, true, true, true, true, true] rfl rfl (by kernel_rfl) (fun _ _ _ h => h) (Or.inl ⟨by rfl, ?_⟩) ?_ ?_
  rotate_left
  · intro w'
    go_simp
    with_reducible rfl
  rotate_left
  · simp only [Act.put, List.setIfInBounds_toArray, List.set_cons_zero, List.set_cons_succ, i64_w, i32_w]
    rfl
  refine done_ (by kernel_rfl) ?_

  have HS := hHeld.2.2.2.2.2.2.2.2
  clear hHeld t0 t1 t2 t3 u0 u1 u2 u3 HX0 HB0 HU0 HT0 HBe0
  have t0 := HS.out.2.2.1.cell 0
  have t1 := HS.out.2.2.1.cell 1
  have t2 := HS.out.2.2.1.cell 2
  have t3 := HS.out.2.2.1.cell 3
  have u0 := HS.out.2.2.2.1.cell 0
  have u1 := HS.out.2.2.2.1.cell 1
  have u2 := HS.out.2.2.2.1.cell 2
  have u3 := HS.out.2.2.2.1.cell 3
  go_wp2_with fail
  refine (block_apart.calls tr tc r0 c0 tr tc r1 c1 true _ K1.out).mono ?_
  rintro e w4 ⟨rfl, hb⟩
  have HW : Aside0 (Wst w w4 w.heap.size (w.heap.size + 1) p g R C tr tc r0 c0 r1 c1 (swp xs (pl C tc r0 c0) (pl C tc r1 c1) 0)) := ⟨HS.out.2.1.below hb, HS.out.2.2.1.below hb, HS.out.2.2.2.1.below hb, Fr.of_below (below_step HS.out.1 hb) [g]⟩
  clear hb t0 t1 t2 t3 u0 u1 u2 u3 HS
  have t0 := HW.out.box.cell 0
  have htr : tr ≤ 1048576 := by have := H1.out.r; have := H1.out.small; omega
  have htc : tc ≤ 1048576 := by have := H1.out.c; have := H1.out.small; omega
  go_wp2
  clear t0
  go_loopw [46] (fun v46 wr => ∃ (i : Nat), v46 = .int .i64 i ∧ i ≤ tr ∧ Aside0 (Wst w wr w.heap.size (w.heap.size + 1) p g R C tr tc r0 c0 r1 c1 (swp xs (pl C tc r0 c0) (pl C tc r1 c1) (i * tc)))) (fun v46 _ => tr - (intOf v46).toNat)
  case atStart => exact ⟨0, rfl, Nat.zero_le _, ⟨by rw [Nat.zero_mul]; exact HW.out⟩⟩
  case round =>
    clear HW
    obtain ⟨i, rfl, hi, HW⟩ := hrel
    by_cases h1 : i < tr
    · have d1 : decide ((i : Int) < (tr : Int)) = true := decide_eq_true (by omega)
      have d1' : decide (i < tr) = true := decide_eq_true h1
      have HI := Aside0.mk h1
      obtain ⟨a, ha⟩ : ∃ a, (r0 + i) * C + c0 = a := ⟨_, rfl⟩
      obtain ⟨b, hb⟩ : ∃ b, (r1 + i) * C + c1 = b := ⟨_, rfl⟩
      have HA := Aside0.mk ha
      have HB := Aside0.mk hb
      have hsl := swp_len xs (pl C tc r0 c0) (pl C tc r1 c1) (i * tc)
      have HT1 := Aside0.mk (hsl ▸ H1.out : Til R C tr tc r0 c0 (swp xs (pl C tc r0 c0) (pl C tc r1 c1) (i * tc)).length)
      have HT2 := Aside0.mk (hsl ▸ H2.out : Til R C tr tc r1 c1 (swp xs (pl C tc r0 c0) (pl C tc r1 c1) (i * tc)).length)
      clear h1 ha hb hsl
      go_wp2_with fail
      refine start_ (n := 14) (S := fun w' => w'.cell? ⟨w.heap.size, 0, none⟩ = some (.int .i64 (tr : Int)) ∧ w'.cell? ⟨w.heap.size, 1, none⟩ = some (.int .i64 (tc : Int)) ∧ w'.cell? ⟨w.heap.size, 2, none⟩ = some (.int .i64 (r0 : Int)) ∧ w'.cell? ⟨w.heap.size, 3, none⟩ = some (.int .i64 (c0 : Int)) ∧ w'.cell? ⟨w.heap.size + 1, 0, none⟩ = some (.int .i64 (tr : Int)) ∧ w'.cell? ⟨w.heap.size + 1, 1, none⟩ = some (.int .i64 (tc : Int)) ∧ w'.cell? ⟨w.heap.size + 1, 2, none⟩ = some (.int .i64 (r1 : Int)) ∧ w'.cell? ⟨w.heap.size + 1, 3, none⟩ = some (.int .i64 (c1 : Int)) ∧ Aside0 (Wst w w' w.heap.size (w.heap.size + 1) p g R C tr tc r0 c0 r1 c1 (swp xs (pl C tc r0 c0) (pl C tc r1 c1) (i * tc)))) (ds := []) #[false, false, false, false, false, false, false, false, false, false, false, false, false, false] (by kernel_rfl) rfl rfl ⟨HW.out.box.cell 0, HW.out.box.cell 1, HW.out.box.cell 2, HW.out.box.cell 3, HW.out.oth.cell 0, HW.out.oth.cell 1, HW.out.oth.cell 2, HW.out.oth.cell 3, ⟨HW.out.below (below_drew1 (Below.refl _ _))⟩⟩ (fun hHeld => ?_)
      refine pure_ (i := 0) (N := some 49) (v := ?_) (a' := ?_) #[true, false, false, false, false, false, false, false, false, false, false, false, false, false] rfl rfl (by kernel_rfl) (fun _ _ _ h => h) (Or.inl ⟨by rfl, ?_⟩) ?_ ?_
      rotate_left
      · intro w'
        go_simp
        with_reducible rfl
      rotate_left
      · simp only [Act.put, List.setIfInBounds_toArray, List.set_cons_zero, List.set_cons_succ, i64_w, i32_w]
        rfl
      refine pure_ (i := 1) (N := some 50) (v := ?_) (a' := ?_) #[true, true, false, false, false, false, false, false, false, false, false, false, false, false] rfl rfl (by kernel_rfl) (fun _ _ _ h => h) (Or.inl ⟨by rfl, ?_⟩) ?_ ?_
      rotate_left
      · intro w'
        go_simp
        with_reducible rfl
      rotate_left
      · simp only [Act.put, List.setIfInBounds_toArray, List.set_cons_zero, List.set_cons_succ, i64_w, i32_w]
        rfl
      refine pure_ (i := 2) (N := some 51) (v := ?_) (a' := ?_) #[true, true, true, false, false, false, false, false, false, false, false, false, false, false] rfl rfl (by kernel_rfl) (fun _ _ _ h => h) (Or.inl ⟨by rfl, ?_⟩) ?_ ?_
      rotate_left
      · intro w'
        go_simp
        with_reducible rfl
      rotate_left
      · simp only [Act.put, List.setIfInBounds_toArray, List.set_cons_zero, List.set_cons_succ, i64_w, i32_w]
        rfl
      refine pure_ (i := 4) (N := some 53) (v := ?_) (a' := ?_) #[true, true, true, false, true, false, false, false, false, false, false, false, false, false] rfl rfl (by kernel_rfl) (fun _ _ _ h => h) (Or.inl ⟨by rfl, ?_⟩) ?_ ?_
      rotate_left
      · intro w'
        go_simp
        with_reducible rfl
      rotate_left
      · simp only [Act.put, List.setIfInBounds_toArray, List.set_cons_zero, List.set_cons_succ, i64_w, i32_w]
        rfl
      refine pure_ (i := 6) (N := some 55) (v := ?_) (a' := ?_) #[true, true, true, false, true, false, true, false, false, false, false, false, false, false] rfl rfl (by kernel_rfl) (fun _ _ _ h => h) (Or.inl ⟨by rfl, ?_⟩) ?_ ?_
      rotate_left
      · intro w'
        go_simp
        with_reducible rfl
      rotate_left
      · simp only [Act.put, List.setIfInBounds_toArray, List.set_cons_zero, List.set_cons_succ, i64_w, i32_w]
        rfl
      refine pure_ (i := 7) (N := some 56) (v := ?_) (a' := ?_) #[true, true, true, false, true, false, true, true, false, false, false, false, false, false] rfl rfl (by kernel_rfl) (fun _ _ _ h => h) (Or.inl ⟨by rfl, ?_⟩) ?_ ?_
      rotate_left
      · intro w'
        go_simp
        with_reducible rfl
      rotate_left
      · simp only [Act.put, List.setIfInBounds_toArray, List.set_cons_zero, List.set_cons_succ, i64_w, i32_w]
        rfl
      refine pure_ (i := 8) (N := some 57) (v := ?_) (a' := ?_) #[true, true, true, false, true, false, true, true, true, false, false, false, false, false] rfl rfl (by kernel_rfl) (fun _ _ _ h => h) (Or.inl ⟨by rfl, ?_⟩) ?_ ?_
      rotate_left
      · intro w'
        go_simp
        with_reducible rfl
      rotate_left
      · simp only [Act.put, List.setIfInBounds_toArray, List.set_cons_zero, List.set_cons_succ, i64_w, i32_w]
        rfl
      refine pure_ (i := 10) (N := some 59) (v := ?_) (a' := ?_) #[true, true, true, false, true, false, true, true, true, false, true, false, false, false] rfl rfl (by kernel_rfl) (fun _ _ _ h => h) (Or.inl ⟨by rfl, ?_⟩) ?_ ?_
      rotate_left
      · intro w'
        go_simp
        with_reducible rfl
      rotate_left
      · simp only [Act.put, List.setIfInBounds_toArray, List.set_cons_zero, List.set_cons_succ, i64_w, i32_w]
        rfl
      refine take_ (i := 3) (N := some 52) (v := ?_) (a' := ?_) #[true, true, true, true, true, false, true, true, true, false, true, false, false, false] rfl rfl (by kernel_rfl) (fun _ _ _ h => h) (Or.inl ⟨by rfl, ?_⟩) hHeld ?_ ?_
      rotate_left
      · rintro w' ⟨s0, s1, s2, s3, s4, s5, s6, s7, s8⟩
        go_simp
        with_reducible rfl
      rotate_left
      · simp only [Act.put, List.setIfInBounds_toArray, List.set_cons_zero, List.set_cons_succ, i64_w, i32_w]
        rfl
      refine take_ (i := 9) (N := some 58) (v := ?_) (a' := ?_) #[true, true, true, true, true, false, true, true, true, true, true, false, false, false] rfl rfl (by kernel_rfl) (fun _ _ _ h => h) (Or.inl ⟨by rfl, ?_⟩) hHeld ?_ ?_
      rotate_left
      · rintro w' ⟨s0, s1, s2, s3, s4, s5, s6, s7, s8⟩
        go_simp
        with_reducible rfl
      rotate_left
      · simp only [Act.put, List.setIfInBounds_toArray, List.set_cons_zero, List.set_cons_succ, i64_w, i32_w]
        rfl
      refine one_ (i := 5) (N := some 54) #[true, true, true, true, true, true, true, true, true, true, true, false, false, false] rfl rfl (by kernel_rfl) (by decide) (fun K hK => ?_)
      refine goes_ Tryd.func63 (by kernel_rfl) rfl #[.pointer (some ⟨p, 0, none⟩), .agg #[.int .i64 (tr : Int), .int .i64 (tc : Int), .int .i64 (r0 : Int), .int .i64 (c0 : Int)], .int .i64 (i : Int)] (by rfl) rfl rfl (by simp only [List.map_toArray, List.map_cons, List.map_nil]; rfl) ?_
      with_reducible refine (row_ p g R C tr tc r0 c0 i a _ _ hHeld.2.2.2.2.2.2.2.2.out.blk HT1.out HI.out HA.out).mono ?_
      rintro e w5 ⟨rfl, hb⟩
      refine ⟨_, rfl, ?_⟩
      have nW := hHeld.2.2.2.2.2.2.2.2.out.below hb
      clear hHeld hb
      refine hK.out _ _ ⟨nW.box.cell 0, nW.box.cell 1, nW.box.cell 2, nW.box.cell 3, nW.oth.cell 0, nW.oth.cell 1, nW.oth.cell 2, nW.oth.cell 3, ⟨nW⟩⟩ (fun hHeld => ?_)
      clear hK K
      refine norm_ (a' := ?_) ?_ ?_
      rotate_left
      · show Act.put _ (some 54) _ = _
        simp only [Act.put, List.setIfInBounds_toArray, List.set_cons_zero, List.set_cons_succ, i64_w, i32_w]
        rfl
      refine one_ (i := 11) (N := some 60) #[true, true, true, true, true, true, true, true, true, true, true, true, false, false] rfl rfl (by kernel_rfl) (by decide) (fun K hK => ?_)
      refine goes_ Tryd.func63 (by kernel_rfl) rfl #[.pointer (some ⟨p, 0, none⟩), .agg #[.int .i64 (tr : Int), .int .i64 (tc : Int), .int .i64 (r1 : Int), .int .i64 (c1 : Int)], .int .i64 (i : Int)] (by rfl) rfl rfl (by simp only [List.map_toArray, List.map_cons, List.map_nil]; rfl) ?_
      with_reducible refine (row_ p g R C tr tc r1 c1 i b _ _ hHeld.2.2.2.2.2.2.2.2.out.blk HT2.out HI.out HB.out).mono ?_
      rintro e w6 ⟨rfl, hb⟩
      refine ⟨_, rfl, ?_⟩
      have nW := hHeld.2.2.2.2.2.2.2.2.out.below hb
      clear hHeld hb
      refine hK.out _ _ ⟨nW.box.cell 0, nW.box.cell 1, nW.box.cell 2, nW.box.cell 3, nW.oth.cell 0, nW.oth.cell 1, nW.oth.cell 2, nW.oth.cell 3, ⟨nW⟩⟩ (fun hHeld => ?_)
      clear hK K
      refine norm_ (a' := ?_) ?_ ?_
      rotate_left
      · show Act.put _ (some 60) _ = _
        simp only [Act.put, List.setIfInBounds_toArray, List.set_cons_zero, List.set_cons_succ, i64_w, i32_w]
        rfl
      refine pure_ (i := 12) (N := some 11) (v := ?_) (a' := ?_) #[true, true, true, true, true, true, true, true, true, true, true, true, true, false] rfl rfl (by kernel_rfl) (fun _ _ _ h => h) (Or.inl ⟨by rfl, ?_⟩) ?_ ?_
      rotate_left
      · intro w'
        go_simp
        with_reducible rfl
      rotate_left
      · simp only [Act.put, List.setIfInBounds_toArray, List.set_cons_zero, List.set_cons_succ, i64_w, i32_w]
        rfl
      refine pure_ (i := 13) (N := some 12) (v := ?_) (a' := ?_) #[true, true, true, true, true, true, true, true, true, true, true, true, true, true] rfl rfl (by kernel_rfl) (fun _ _ _ h => h) (Or.inl ⟨by rfl, ?_⟩) ?_ ?_
      rotate_left
      · intro w'
        go_simp
        with_reducible rfl
      rotate_left
      · simp only [Act.put, List.setIfInBounds_toArray, List.set_cons_zero, List.set_cons_succ, i64_w, i32_w]
        rfl
      refine done_ (by kernel_rfl) ?_

      have HW2 := hHeld.2.2.2.2.2.2.2.2
      clear hHeld HW HT1 HT2
      go_wp2
      go_loopw [63] (fun v63 wr => ∃ (k : Nat), v63 = .int .i64 k ∧ k ≤ tc ∧ Aside0 (Wst w wr w.heap.size (w.heap.size + 1) p g R C tr tc r0 c0 r1 c1 (swp xs (pl C tc r0 c0) (pl C tc r1 c1) (i * tc + k)))) (fun v63 _ => tc - (intOf v63).toNat)
      case atStart => exact ⟨0, rfl, Nat.zero_le _, HW2⟩
      case round =>
        clear HW2
        obtain ⟨k, rfl, hk, HW⟩ := hrel
        by_cases h2 : k < tc
        · have d2 : decide ((k : Int) < (tc : Int)) = true := decide_eq_true (by omega)
          have d2' : decide (k < tc) = true := decide_eq_true h2
          have hsl := swp_len xs (pl C tc r0 c0) (pl C tc r1 c1) (i * tc + k)
          have e1' := pl_at C r0 c0 i h2
          have e2' := pl_at C r1 c1 i h2
          rw [HA.out] at e1'
          rw [HB.out] at e2'
          have hA1 := H1.out.at_ HI.out
          have hA2 := H2.out.at_ HI.out
          rw [HA.out] at hA1
          rw [HB.out] at hA2
          obtain ⟨ys, hys⟩ : ∃ ys, ys = swp xs (pl C tc r0 c0) (pl C tc r1 c1) (i * tc + k) := ⟨_, rfl⟩
          have HN : Aside0 (swp xs (pl C tc r0 c0) (pl C tc r1 c1) (i * tc + (k + 1)) = (ys.set (a + k) (ys.getD (b + k) 0)).set (b + k) (ys.getD (a + k) 0)) := ⟨by
            rw [← Nat.add_assoc]; simp only [swp]; rw [e1', e2', hys]⟩
          have x1 := (hys ▸ HW.out.blk.cell (a + k) (by omega) : _)
          have x2 := (hys ▸ HW.out.blk.cell (b + k) (by omega) : _)
          have f1 := HW.out.blk.row.frozen (a + k)
          have f2 := HW.out.blk.row.frozen (b + k)
          have HWy := Aside0.mk (hys ▸ HW.out : Wst w _ w.heap.size (w.heap.size + 1) p g R C tr tc r0 c0 r1 c1 ys)
          have HK := Aside0.mk h2
          have q1 : (0 : Int) ≤ (k : Int) := by omega
          have q2 : (k : Int) < (tc : Int) := by omega
          have hbl : b + k < ys.length := by rw [hys, hsl]; omega
          clear h2 hsl e1' e2' hA1 hA2 hys HW
          generalize ys.getD (a + k) 0 = y1 at *
          generalize ys.getD (b + k) 0 = y2 at *
          have x3 := (HWy.out.set (a + k) y2).blk.cell (b + k) (by rw [List.length_set]; exact hbl)
          generalize (ys.set (a + k) y2).getD (b + k) 0 = y3 at *
          clear hbl
          go_wp2_with fail
          refine start_ (n := 16) (S := fun w' => w'.cell? ⟨g, a + k, none⟩ = some (.int .u64 y1) ∧ w'.cell? ⟨g, b + k, none⟩ = some (.int .u64 y2)) (ds := [13, 15]) #[false, false, false, false, false, false, false, false, false, false, false, false, false, false, false, false] (by kernel_rfl) rfl rfl ⟨x1, x2⟩ (fun hHeld => ?_)
          refine pure_ (i := 0) (N := some 66) (v := ?_) (a' := ?_) #[true, false, false, false, false, false, false, false, false, false, false, false, false, false, false, false] rfl rfl (by kernel_rfl) (fun _ _ _ h => h) (Or.inl ⟨by rfl, ?_⟩) ?_ ?_
          rotate_left
          · intro w'
            go_simp
            with_reducible rfl
          rotate_left
          · simp only [Act.put, List.setIfInBounds_toArray, List.set_cons_zero, List.set_cons_succ, i64_w, i32_w]
            rfl
          refine pure_ (i := 1) (N := some 67) (v := ?_) (a' := ?_) #[true, true, false, false, false, false, false, false, false, false, false, false, false, false, false, false] rfl rfl (by kernel_rfl) (fun _ _ _ h => h) (Or.inl ⟨by rfl, ?_⟩) ?_ ?_
          rotate_left
          · intro w'
            go_simp
            with_reducible rfl
          rotate_left
          · simp only [Act.put, List.setIfInBounds_toArray, List.set_cons_zero, List.set_cons_succ, i64_w, i32_w]
            rfl
          refine pure_ (i := 2) (N := some 68) (v := ?_) (a' := ?_) #[true, true, true, false, false, false, false, false, false, false, false, false, false, false, false, false] rfl rfl (by kernel_rfl) (fun _ _ _ h => h) (Or.inl ⟨by rfl, ?_⟩) ?_ ?_
          rotate_left
          · intro w'
            go_simp
            with_reducible rfl
          rotate_left
          · simp only [Act.put, List.setIfInBounds_toArray, List.set_cons_zero, List.set_cons_succ, i64_w, i32_w]
            rfl
          refine pure_ (i := 3) (N := some 69) (v := ?_) (a' := ?_) #[true, true, true, true, false, false, false, false, false, false, false, false, false, false, false, false] rfl rfl (by kernel_rfl) (fun _ _ _ h => h) (Or.inl ⟨by rfl, ?_⟩) ?_ ?_
          rotate_left
          · intro w'
            go_simp
            with_reducible rfl
          rotate_left
          · simp only [Act.put, List.setIfInBounds_toArray, List.set_cons_zero, List.set_cons_succ, i64_w, i32_w]
            rfl
          refine pure_ (i := 4) (N := some 70) (v := ?_) (a' := ?_) #[true, true, true, true, true, false, false, false, false, false, false, false, false, false, false, false] rfl rfl (by kernel_rfl) (fun _ _ _ h => h) (Or.inl ⟨by rfl, ?_⟩) ?_ ?_
          rotate_left
          · intro w'
            go_simp
            with_reducible rfl
          rotate_left
          · simp only [Act.put, List.setIfInBounds_toArray, List.set_cons_zero, List.set_cons_succ, i64_w, i32_w]
            rfl
          refine pure_ (i := 5) (N := some 71) (v := ?_) (a' := ?_) #[true, true, true, true, true, true, false, false, false, false, false, false, false, false, false, false] rfl rfl (by kernel_rfl) (fun _ _ _ h => h) (Or.inl ⟨by rfl, ?_⟩) ?_ ?_
          rotate_left
          · intro w'
            go_simp
            with_reducible rfl
          rotate_left
          · simp only [Act.put, List.setIfInBounds_toArray, List.set_cons_zero, List.set_cons_succ, i64_w, i32_w]
            rfl
          refine pure_ (i := 6) (N := some 72) (v := ?_) (a' := ?_) #[true, true, true, true, true, true, true, false, false, false, false, false, false, false, false, false] rfl rfl (by kernel_rfl) (fun _ _ _ h => h) (Or.inl ⟨by rfl, ?_⟩) ?_ ?_
          rotate_left
          · intro w'
            go_simp
            with_reducible rfl
          rotate_left
          · simp only [Act.put, List.setIfInBounds_toArray, List.set_cons_zero, List.set_cons_succ, i64_w, i32_w]
            rfl
          refine pure_ (i := 8) (N := some 74) (v := ?_) (a' := ?_) #[true, true, true, true, true, true, true, false, true, false, false, false, false, false, false, false] rfl rfl (by kernel_rfl) (fun _ _ _ h => h) (Or.inl ⟨by rfl, ?_⟩) ?_ ?_
          rotate_left
          · intro w'
            go_simp
            with_reducible rfl
          rotate_left
          · simp only [Act.put, List.setIfInBounds_toArray, List.set_cons_zero, List.set_cons_succ, i64_w, i32_w]
            rfl
          refine pure_ (i := 9) (N := some 75) (v := ?_) (a' := ?_) #[true, true, true, true, true, true, true, false, true, true, false, false, false, false, false, false] rfl rfl (by kernel_rfl) (fun _ _ _ h => h) (Or.inl ⟨by rfl, ?_⟩) ?_ ?_
          rotate_left
          · intro w'
            go_simp
            with_reducible rfl
          rotate_left
          · simp only [Act.put, List.setIfInBounds_toArray, List.set_cons_zero, List.set_cons_succ, i64_w, i32_w]
            rfl
          refine pure_ (i := 10) (N := some 76) (v := ?_) (a' := ?_) #[true, true, true, true, true, true, true, false, true, true, true, false, false, false, false, false] rfl rfl (by kernel_rfl) (fun _ _ _ h => h) (Or.inl ⟨by rfl, ?_⟩) ?_ ?_
          rotate_left
          · intro w'
            go_simp
            with_reducible rfl
          rotate_left
          · simp only [Act.put, List.setIfInBounds_toArray, List.set_cons_zero, List.set_cons_succ, i64_w, i32_w]
            rfl
          refine take_ (i := 7) (N := some 73) (v := ?_) (a' := ?_) #[true, true, true, true, true, true, true, true, true, true, true, false, false, false, false, false] rfl rfl (by kernel_rfl) (fun _ _ _ h => h) (Or.inl ⟨by rfl, ?_⟩) hHeld ?_ ?_
          rotate_left
          · rintro w' ⟨s0, s1⟩
            go_simp
            with_reducible rfl
          rotate_left
          · simp only [Act.put, List.setIfInBounds_toArray, List.set_cons_zero, List.set_cons_succ, i64_w, i32_w]
            rfl
          refine take_ (i := 11) (N := some 77) (v := ?_) (a' := ?_) #[true, true, true, true, true, true, true, true, true, true, true, true, false, false, false, false] rfl rfl (by kernel_rfl) (fun _ _ _ h => h) (Or.inl ⟨by rfl, ?_⟩) hHeld ?_ ?_
          rotate_left
          · rintro w' ⟨s0, s1⟩
            go_simp
            with_reducible rfl
          rotate_left
          · simp only [Act.put, List.setIfInBounds_toArray, List.set_cons_zero, List.set_cons_succ, i64_w, i32_w]
            rfl
          refine pure_ (i := 12) (N := some 78) (v := ?_) (a' := ?_) #[true, true, true, true, true, true, true, true, true, true, true, true, true, false, false, false] rfl rfl (by kernel_rfl) (fun _ _ _ h => h) (Or.inl ⟨by rfl, ?_⟩) ?_ ?_
          rotate_left
          · intro w'
            go_simp
            with_reducible rfl
          rotate_left
          · simp only [Act.put, List.setIfInBounds_toArray, List.set_cons_zero, List.set_cons_succ, i64_w, i32_w]
            rfl
          refine last_ (i := 13) (N := none) #[true, true, true, true, true, true, true, true, true, true, true, true, true, true, false, false] rfl rfl (by kernel_rfl) (by decide) (fun K hK => ?_)
          refine skip_ (w1 := ?_) (by rfl) rfl ?_ ?_
          rotate_left
          · go_simp
            rfl
          refine hK.out _ _ ?_
          clear hK K
          refine pure_ (i := 14) (N := some 79) (v := ?_) (a' := ?_) #[true, true, true, true, true, true, true, true, true, true, true, true, true, true, true, false] rfl rfl (by kernel_rfl) (fun _ _ _ h => h) (Or.inl ⟨by rfl, ?_⟩) ?_ ?_
          rotate_left
          · intro w'
            go_simp
            with_reducible rfl
          rotate_left
          · simp only [Act.put, List.setIfInBounds_toArray, List.set_cons_zero, List.set_cons_succ, i64_w, i32_w]
            rfl
          refine last_ (i := 15) (N := none) #[true, true, true, true, true, true, true, true, true, true, true, true, true, true, true, true] rfl rfl (by kernel_rfl) (by decide) (fun K hK => ?_)
          refine skip_ (w1 := ?_) (by rfl) rfl ?_ ?_
          rotate_left
          · go_simp
            rfl
          refine hK.out _ _ ?_
          clear hK K
          refine done_ (by kernel_rfl) ?_

          have HW3 := Aside0.mk ((((HWy.out.below (below_drew1 (Below.refl _ _))).set (a + k) y2).set (b + k) y1))
          rw [← HN.out] at HW3
          clear HN HWy x1 x2 x3 f1 f2 hHeld
          go_wp2
          go_roundw
          case rel => exact ⟨k + 1, by go_num, HK.out, HW3⟩
          case measure =>
            have := HK.out
            simp [intOf]; omega
        · obtain rfl : tc = k := by omega
          have d2 : decide ((tc : Int) < (tc : Int)) = false := by simp
          go_wp2
          go_roundw
          case rel => exact ⟨i + 1, by go_num, HI.out, ⟨by rw [Nat.add_mul, Nat.one_mul]; exact HW.out⟩⟩
          case measure =>
            have := HI.out
            simp [intOf]; omega
    · obtain rfl : tr = i := by omega
      have d1 : decide ((tr : Int) < (tr : Int)) = false := by simp
      go_wp2
      go_ret
      exact ⟨rfl, HW.out.blk, HW.out.fr⟩
set_option maxHeartbeats 8000000 in
theorem swap_ok2 (p g R C tr tc r0 c0 r1 c1 : Nat) (xs : List Int) (w : World) (h : Blo w p g R C xs) (h1 : Til R C tr tc r0 c0 xs.length) (h2 : Til R C tr tc r1 c1 xs.length) (e1 : ((r0 : Int) == (r1 : Int)) = true) (e2 : ((c0 : Int) == (c1 : Int)) = false) (k1 : block_apart.f tr tc r0 c0 tr tc r1 c1 = some true) (hT : TabOK w) :
    Calls Tryd.prog 41 #[.pointer (some ⟨p, 0, none⟩), .agg #[.int .i64 tr, .int .i64 tc, .int .i64 r0, .int .i64 c0], .int .i64 r1, .int .i64 c1] w fun e w' => e = .returned (.int .i64 0) ∧ Blo w' p g R C (swp xs (pl C tc r0 c0) (pl C tc r1 c1) (tr * tc)) ∧ Fr w w' [g] := by
  have HL1 : Aside0 (Lies R C tr tc r0 c0) := ⟨h1.lies⟩
  have HL2 : Aside0 (Lies R C tr tc r1 c1) := ⟨h2.lies⟩
  have H1 := Aside0.mk h1
  have H2 := Aside0.mk h2
  have K1 := Aside0.mk k1
  have hbe0 := below_alloc (below_alloc (Below.refl w.heap.size w) (Obj.cells #[.int .i64 (tr : Int), .int .i64 (tc : Int), .int .i64 (r0 : Int), .int .i64 (c0 : Int)] 38)) (Obj.cells #[.int .i64 (tr : Int), .int .i64 (tc : Int), .int .i64 (r1 : Int), .int .i64 (c1 : Int)] 38)
  have HX0 := Aside0.mk (h.below hbe0)
  have HB0 := Aside0.mk ((Bk.new w 38 [.int .i64 (tr : Int), .int .i64 (tc : Int), .int .i64 (r0 : Int), .int .i64 (c0 : Int)]).alloc (Obj.cells #[.int .i64 (tr : Int), .int .i64 (tc : Int), .int .i64 (r1 : Int), .int .i64 (c1 : Int)] 38))
  have HU0 : Aside0 (Bk ((w.alloc (Obj.cells #[.int .i64 (tr : Int), .int .i64 (tc : Int), .int .i64 (r0 : Int), .int .i64 (c0 : Int)] 38)).alloc (Obj.cells #[.int .i64 (tr : Int), .int .i64 (tc : Int), .int .i64 (r1 : Int), .int .i64 (c1 : Int)] 38)) (w.heap.size + 1) 38 [.int .i64 (tr : Int), .int .i64 (tc : Int), .int .i64 (r1 : Int), .int .i64 (c1 : Int)]) := ⟨by
    have := Bk.new (w.alloc (Obj.cells #[.int .i64 (tr : Int), .int .i64 (tc : Int), .int .i64 (r0 : Int), .int .i64 (c0 : Int)] 38)) 38 [.int .i64 (tr : Int), .int .i64 (tc : Int), .int .i64 (r1 : Int), .int .i64 (c1 : Int)]
    simpa using this⟩
  have HT0 := Aside0.mk (TabOK.below hT hbe0)
  have HBe0 := Aside0.mk hbe0
  have t0 := HB0.out.cell 0
  have t1 := HB0.out.cell 1
  have t2 := HB0.out.cell 2
  have t3 := HB0.out.cell 3
  have u0 := HU0.out.cell 0
  have u1 := HU0.out.cell 1
  have u2 := HU0.out.cell 2
  have u3 := HU0.out.cell 3
  have HOld := Aside0.mk h.obj.lt
  clear h h1 h2 hT hbe0 k1
  go_enter Tryd.func41, Tryd.ntmps41
  go_wp2_with fail
  refine start_ (n := 15) (S := fun w' => w'.cell? ⟨w.heap.size, 0, none⟩ = some (.int .i64 (tr : Int)) ∧ w'.cell? ⟨w.heap.size, 1, none⟩ = some (.int .i64 (tc : Int)) ∧ w'.cell? ⟨w.heap.size, 2, none⟩ = some (.int .i64 (r0 : Int)) ∧ w'.cell? ⟨w.heap.size, 3, none⟩ = some (.int .i64 (c0 : Int)) ∧ w'.cell? ⟨w.heap.size + 1, 0, none⟩ = some (.int .i64 (tr : Int)) ∧ w'.cell? ⟨w.heap.size + 1, 1, none⟩ = some (.int .i64 (tc : Int)) ∧ w'.cell? ⟨w.heap.size + 1, 2, none⟩ = some (.int .i64 (r1 : Int)) ∧ w'.cell? ⟨w.heap.size + 1, 3, none⟩ = some (.int .i64 (c1 : Int)) ∧ Aside0 (Below w.heap.size w w' ∧ Blo w' p g R C xs ∧ Bk w' w.heap.size 38 [.int .i64 (tr : Int), .int .i64 (tc : Int), .int .i64 (r0 : Int), .int .i64 (c0 : Int)] ∧ Bk w' (w.heap.size + 1) 38 [.int .i64 (tr : Int), .int .i64 (tc : Int), .int .i64 (r1 : Int), .int .i64 (c1 : Int)] ∧ TabOK w')) (ds := []) #[false, false, false, false, false, false, false, false, false, false, false, false, false, false, false] (by kernel_rfl) rfl rfl ⟨t0, t1, t2, t3, u0, u1, u2, u3, ⟨below_drew1 HBe0.out, HX0.out.below (below_drew1 (Below.refl _ _)), HB0.out.drew, HU0.out.drew, HT0.out.drew⟩⟩ (fun hHeld => ?_)
  refine pure_ (i := 0) (N := some 20) (v := ?_) (a' := ?_) #[true, false, false, false, false, false, false, false, false, false, false, false, false, false, false] rfl rfl (by kernel_rfl) (fun _ _ _ h => h) (Or.inl ⟨by rfl, ?_⟩) ?_ ?_
  rotate_left
  · intro w'
    go_simp
    with_reducible rfl
  rotate_left
  · simp only [Act.put, List.setIfInBounds_toArray, List.set_cons_zero, List.set_cons_succ, i64_w, i32_w]
    rfl
  refine pure_ (i := 1) (N := some 21) (v := ?_) (a' := ?_) #[true, true, false, false, false, false, false, false, false, false, false, false, false, false, false] rfl rfl (by kernel_rfl) (fun _ _ _ h => h) (Or.inl ⟨by rfl, ?_⟩) ?_ ?_
  rotate_left
  · intro w'
    go_simp
    with_reducible rfl
  rotate_left
  · simp only [Act.put, List.setIfInBounds_toArray, List.set_cons_zero, List.set_cons_succ, i64_w, i32_w]
    rfl
  refine pure_ (i := 2) (N := some 22) (v := ?_) (a' := ?_) #[true, true, true, false, false, false, false, false, false, false, false, false, false, false, false] rfl rfl (by kernel_rfl) (fun _ _ _ h => h) (Or.inl ⟨by rfl, ?_⟩) ?_ ?_
  rotate_left
  · intro w'
    go_simp
    with_reducible rfl
  rotate_left
  · simp only [Act.put, List.setIfInBounds_toArray, List.set_cons_zero, List.set_cons_succ, i64_w, i32_w]
    rfl
  refine take_ (i := 3) (N := some 23) (v := ?_) (a' := ?_) #[true, true, true, true, false, false, false, false, false, false, false, false, false, false, false] rfl rfl (by kernel_rfl) (fun _ _ _ h => h) (Or.inl ⟨by rfl, ?_⟩) hHeld ?_ ?_
  rotate_left
  · rintro w' ⟨s0, s1, s2, s3, s4, s5, s6, s7, s8⟩
    go_simp
    with_reducible rfl
  rotate_left
  · simp only [Act.put, List.setIfInBounds_toArray, List.set_cons_zero, List.set_cons_succ, i64_w, i32_w]
    rfl
  refine one_ (i := 4) (N := some 24) #[true, true, true, true, true, false, false, false, false, false, false, false, false, false, false] rfl rfl (by kernel_rfl) (by decide) (fun K hK => ?_)
  refine goes_ Tryd.func61 (by kernel_rfl) rfl #[.pointer (some ⟨p, 0, none⟩), .agg #[.int .i64 (tr : Int), .int .i64 (tc : Int), .int .i64 (r0 : Int), .int .i64 (c0 : Int)]] (by rfl) rfl rfl (by simp only [List.map_toArray, List.map_cons, List.map_nil]; rfl) ?_
  with_reducible refine (holds_yes p g R C (tr : Int) (tc : Int) (r0 : Int) (c0 : Int) xs _ hHeld.2.2.2.2.2.2.2.2.out.2.1 HL1.out hHeld.2.2.2.2.2.2.2.2.out.2.2.2.2).mono ?_
  rintro e w1 ⟨rfl, hb⟩
  refine ⟨_, rfl, ?_⟩
  have nX := hHeld.2.2.2.2.2.2.2.2.out.2.1.below hb
  have nB := hHeld.2.2.2.2.2.2.2.2.out.2.2.1.below hb
  have nU := hHeld.2.2.2.2.2.2.2.2.out.2.2.2.1.below hb
  have nT := TabOK.below hHeld.2.2.2.2.2.2.2.2.out.2.2.2.2 hb
  have nE := below_step hHeld.2.2.2.2.2.2.2.2.out.1 hb
  clear hHeld hb
  refine hK.out _ _ ⟨nB.cell 0, nB.cell 1, nB.cell 2, nB.cell 3, nU.cell 0, nU.cell 1, nU.cell 2, nU.cell 3, ⟨nE, nX, nB, nU, nT⟩⟩ (fun hHeld => ?_)
  clear hK K
  refine norm_ (a' := ?_) ?_ ?_
  rotate_left
  · show Act.put _ (some 24) _ = _
    simp only [Act.put, List.setIfInBounds_toArray, List.set_cons_zero, List.set_cons_succ, i64_w, i32_w]
    rfl
  refine pure_ (i := 5) (N := some 25) (v := ?_) (a' := ?_) #[true, true, true, true, true, true, false, false, false, false, false, false, false, false, false] rfl rfl (by kernel_rfl) (fun _ _ _ h => h) (Or.inl ⟨by rfl, ?_⟩) ?_ ?_
  rotate_left
  · intro w'
    go_simp
    with_reducible rfl
  rotate_left
  · simp only [Act.put, List.setIfInBounds_toArray, List.set_cons_zero, List.set_cons_succ, i64_w, i32_w]
    rfl
  refine pure_ (i := 6) (N := some 26) (v := ?_) (a' := ?_) #[true, true, true, true, true, true, true, false, false, false, false, false, false, false, false] rfl rfl (by kernel_rfl) (fun _ _ _ h => h) (Or.inl ⟨by rfl, ?_⟩) ?_ ?_
  rotate_left
  · intro w'
    go_simp
    with_reducible rfl
  rotate_left
  · simp only [Act.put, List.setIfInBounds_toArray, List.set_cons_zero, List.set_cons_succ, i64_w, i32_w]
    rfl
  refine pure_ (i := 7) (N := some 27) (v := ?_) (a' := ?_) #[true, true, true, true, true, true, true, true, false, false, false, false, false, false, false] rfl rfl (by kernel_rfl) (fun _ _ _ h => h) (Or.inl ⟨by rfl, ?_⟩) ?_ ?_
  rotate_left
  · intro w'
    go_simp
    with_reducible rfl
  rotate_left
  · simp only [Act.put, List.setIfInBounds_toArray, List.set_cons_zero, List.set_cons_succ, i64_w, i32_w]
    rfl
  refine pure_ (i := 8) (N := some 28) (v := ?_) (a' := ?_) #[true, true, true, true, true, true, true, true, true, false, false, false, false, false, false] rfl rfl (by kernel_rfl) (fun _ _ _ h => h) (Or.inl ⟨by rfl, ?_⟩) ?_ ?_
  rotate_left
  · intro w'
    go_simp
    with_reducible rfl
  rotate_left
  · simp only [Act.put, List.setIfInBounds_toArray, List.set_cons_zero, List.set_cons_succ, i64_w, i32_w]
    rfl
  refine pure_ (i := 9) (N := some 29) (v := ?_) (a' := ?_) #[true, true, true, true, true, true, true, true, true, true, false, false, false, false, false] rfl rfl (by kernel_rfl) (fun _ _ _ h => h) (Or.inl ⟨by rfl, ?_⟩) ?_ ?_
  rotate_left
  · intro w'
    go_simp
    with_reducible rfl
  rotate_left
  · simp only [Act.put, List.setIfInBounds_toArray, List.set_cons_zero, List.set_cons_succ, i64_w, i32_w]
    rfl
  refine take_ (i := 10) (N := some 30) (v := ?_) (a' := ?_) #[true, true, true, true, true, true, true, true, true, true, true, false, false, false, false] rfl rfl (by kernel_rfl) (fun _ _ _ h => h) (Or.inl ⟨by rfl, ?_⟩) hHeld ?_ ?_
  rotate_left
  · rintro w' ⟨s0, s1, s2, s3, s4, s5, s6, s7, s8⟩
    go_simp
    with_reducible rfl
  rotate_left
  · simp only [Act.put, List.setIfInBounds_toArray, List.set_cons_zero, List.set_cons_succ, i64_w, i32_w]
    rfl
  refine one_ (i := 11) (N := some 31) #[true, true, true, true, true, true, true, true, true, true, true, true, false, false, false] rfl rfl (by kernel_rfl) (by decide) (fun K hK => ?_)
  refine goes_ Tryd.func61 (by kernel_rfl) rfl #[.pointer (some ⟨p, 0, none⟩), .agg #[.int .i64 (tr : Int), .int .i64 (tc : Int), .int .i64 (r1 : Int), .int .i64 (c1 : Int)]] (by rfl) rfl rfl (by simp only [List.map_toArray, List.map_cons, List.map_nil]; rfl) ?_
  with_reducible refine (holds_yes p g R C (tr : Int) (tc : Int) (r1 : Int) (c1 : Int) xs _ hHeld.2.2.2.2.2.2.2.2.out.2.1 HL2.out hHeld.2.2.2.2.2.2.2.2.out.2.2.2.2).mono ?_
  rintro e w1 ⟨rfl, hb⟩
  refine ⟨_, rfl, ?_⟩
  have nX := hHeld.2.2.2.2.2.2.2.2.out.2.1.below hb
  have nB := hHeld.2.2.2.2.2.2.2.2.out.2.2.1.below hb
  have nU := hHeld.2.2.2.2.2.2.2.2.out.2.2.2.1.below hb
  have nT := TabOK.below hHeld.2.2.2.2.2.2.2.2.out.2.2.2.2 hb
  have nE := below_step hHeld.2.2.2.2.2.2.2.2.out.1 hb
  clear hHeld hb
  refine hK.out _ _ ⟨nB.cell 0, nB.cell 1, nB.cell 2, nB.cell 3, nU.cell 0, nU.cell 1, nU.cell 2, nU.cell 3, ⟨nE, nX, nB, nU, nT⟩⟩ (fun hHeld => ?_)
  clear hK K
  refine norm_ (a' := ?_) ?_ ?_
  rotate_left
  · show Act.put _ (some 31) _ = _
    simp only [Act.put, List.setIfInBounds_toArray, List.set_cons_zero, List.set_cons_succ, i64_w, i32_w]
    rfl
  refine pure_ (i := 12) (N := some 32) (v := ?_) (a' := ?_) #[true, true, true, true, true, true, true, true, true, true, true, true, true, false, false] rfl rfl (by kernel_rfl) (fun _ _ _ h => h) (Or.inl ⟨by rfl, ?_⟩) ?_ ?_
  rotate_left
  · intro w'
    go_simp
    with_reducible rfl
  rotate_left
  · simp only [Act.put, List.setIfInBounds_toArray, List.set_cons_zero, List.set_cons_succ, i64_w, i32_w]
    rfl
  refine pure_ (i := 13) (N := some 33) (v := ?_) (a' := ?_) #[true, true, true, true, true, true, true, true, true, true, true, true, true, true, false] rfl rfl (by kernel_rfl) (fun _ _ _ h => h) (Or.inl ⟨by rfl, ?_⟩) ?_ ?_
  rotate_left
  · intro w'
    go_simp
    with_reducible rfl
  rotate_left
  · simp only [Act.put, List.setIfInBounds_toArray, List.set_cons_zero, List.set_cons_succ, i64_w, i32_w]
    rfl
  refine pure_ (i := 14) (N := some 19) (v := ?_) (a' := ?_) #[true, true, true, true, true, true, true, true, true, true, true, true, true, true, true] rfl rfl (by kernel_rfl) (fun _ _ _ h => h) (Or.inl ⟨by rfl, ?_⟩) ?_ ?_
  rotate_left
  · intro w'
    go_simp
    with_reducible rfl
  rotate_left
  · simp only [Act.put, List.setIfInBounds_toArray, List.set_cons_zero, List.set_cons_succ, i64_w, i32_w]
    rfl
  refine done_ (by kernel_rfl) ?_

  have HS := hHeld.2.2.2.2.2.2.2.2
  clear hHeld t0 t1 t2 t3 u0 u1 u2 u3 HX0 HB0 HU0 HT0 HBe0
  have t0 := HS.out.2.2.1.cell 0
  have t1 := HS.out.2.2.1.cell 1
  have t2 := HS.out.2.2.1.cell 2
  have t3 := HS.out.2.2.1.cell 3
  have u0 := HS.out.2.2.2.1.cell 0
  have u1 := HS.out.2.2.2.1.cell 1
  have u2 := HS.out.2.2.2.1.cell 2
  have u3 := HS.out.2.2.2.1.cell 3
  go_wp2_with fail
  refine (block_apart.calls tr tc r0 c0 tr tc r1 c1 true _ K1.out).mono ?_
  rintro e w4 ⟨rfl, hb⟩
  have HW : Aside0 (Wst w w4 w.heap.size (w.heap.size + 1) p g R C tr tc r0 c0 r1 c1 (swp xs (pl C tc r0 c0) (pl C tc r1 c1) 0)) := ⟨HS.out.2.1.below hb, HS.out.2.2.1.below hb, HS.out.2.2.2.1.below hb, Fr.of_below (below_step HS.out.1 hb) [g]⟩
  clear hb t0 t1 t2 t3 u0 u1 u2 u3 HS
  have t0 := HW.out.box.cell 0
  have htr : tr ≤ 1048576 := by have := H1.out.r; have := H1.out.small; omega
  have htc : tc ≤ 1048576 := by have := H1.out.c; have := H1.out.small; omega
  go_wp2
  clear t0
  go_loopw [46] (fun v46 wr => ∃ (i : Nat), v46 = .int .i64 i ∧ i ≤ tr ∧ Aside0 (Wst w wr w.heap.size (w.heap.size + 1) p g R C tr tc r0 c0 r1 c1 (swp xs (pl C tc r0 c0) (pl C tc r1 c1) (i * tc)))) (fun v46 _ => tr - (intOf v46).toNat)
  case atStart => exact ⟨0, rfl, Nat.zero_le _, ⟨by rw [Nat.zero_mul]; exact HW.out⟩⟩
  case round =>
    clear HW
    obtain ⟨i, rfl, hi, HW⟩ := hrel
    by_cases h1 : i < tr
    · have d1 : decide ((i : Int) < (tr : Int)) = true := decide_eq_true (by omega)
      have d1' : decide (i < tr) = true := decide_eq_true h1
      have HI := Aside0.mk h1
      obtain ⟨a, ha⟩ : ∃ a, (r0 + i) * C + c0 = a := ⟨_, rfl⟩
      obtain ⟨b, hb⟩ : ∃ b, (r1 + i) * C + c1 = b := ⟨_, rfl⟩
      have HA := Aside0.mk ha
      have HB := Aside0.mk hb
      have hsl := swp_len xs (pl C tc r0 c0) (pl C tc r1 c1) (i * tc)
      have HT1 := Aside0.mk (hsl ▸ H1.out : Til R C tr tc r0 c0 (swp xs (pl C tc r0 c0) (pl C tc r1 c1) (i * tc)).length)
      have HT2 := Aside0.mk (hsl ▸ H2.out : Til R C tr tc r1 c1 (swp xs (pl C tc r0 c0) (pl C tc r1 c1) (i * tc)).length)
      clear h1 ha hb hsl
      go_wp2_with fail
      refine start_ (n := 14) (S := fun w' => w'.cell? ⟨w.heap.size, 0, none⟩ = some (.int .i64 (tr : Int)) ∧ w'.cell? ⟨w.heap.size, 1, none⟩ = some (.int .i64 (tc : Int)) ∧ w'.cell? ⟨w.heap.size, 2, none⟩ = some (.int .i64 (r0 : Int)) ∧ w'.cell? ⟨w.heap.size, 3, none⟩ = some (.int .i64 (c0 : Int)) ∧ w'.cell? ⟨w.heap.size + 1, 0, none⟩ = some (.int .i64 (tr : Int)) ∧ w'.cell? ⟨w.heap.size + 1, 1, none⟩ = some (.int .i64 (tc : Int)) ∧ w'.cell? ⟨w.heap.size + 1, 2, none⟩ = some (.int .i64 (r1 : Int)) ∧ w'.cell? ⟨w.heap.size + 1, 3, none⟩ = some (.int .i64 (c1 : Int)) ∧ Aside0 (Wst w w' w.heap.size (w.heap.size + 1) p g R C tr tc r0 c0 r1 c1 (swp xs (pl C tc r0 c0) (pl C tc r1 c1) (i * tc)))) (ds := []) #[false, false, false, false, false, false, false, false, false, false, false, false, false, false] (by kernel_rfl) rfl rfl ⟨HW.out.box.cell 0, HW.out.box.cell 1, HW.out.box.cell 2, HW.out.box.cell 3, HW.out.oth.cell 0, HW.out.oth.cell 1, HW.out.oth.cell 2, HW.out.oth.cell 3, ⟨HW.out.below (below_drew1 (Below.refl _ _))⟩⟩ (fun hHeld => ?_)
      refine pure_ (i := 0) (N := some 49) (v := ?_) (a' := ?_) #[true, false, false, false, false, false, false, false, false, false, false, false, false, false] rfl rfl (by kernel_rfl) (fun _ _ _ h => h) (Or.inl ⟨by rfl, ?_⟩) ?_ ?_
      rotate_left
      · intro w'
        go_simp
        with_reducible rfl
      rotate_left
      · simp only [Act.put, List.setIfInBounds_toArray, List.set_cons_zero, List.set_cons_succ, i64_w, i32_w]
        rfl
      refine pure_ (i := 1) (N := some 50) (v := ?_) (a' := ?_) #[true, true, false, false, false, false, false, false, false, false, false, false, false, false] rfl rfl (by kernel_rfl) (fun _ _ _ h => h) (Or.inl ⟨by rfl, ?_⟩) ?_ ?_
      rotate_left
      · intro w'
        go_simp
        with_reducible rfl
      rotate_left
      · simp only [Act.put, List.setIfInBounds_toArray, List.set_cons_zero, List.set_cons_succ, i64_w, i32_w]
        rfl
      refine pure_ (i := 2) (N := some 51) (v := ?_) (a' := ?_) #[true, true, true, false, false, false, false, false, false, false, false, false, false, false] rfl rfl (by kernel_rfl) (fun _ _ _ h => h) (Or.inl ⟨by rfl, ?_⟩) ?_ ?_
      rotate_left
      · intro w'
        go_simp
        with_reducible rfl
      rotate_left
      · simp only [Act.put, List.setIfInBounds_toArray, List.set_cons_zero, List.set_cons_succ, i64_w, i32_w]
        rfl
      refine pure_ (i := 4) (N := some 53) (v := ?_) (a' := ?_) #[true, true, true, false, true, false, false, false, false, false, false, false, false, false] rfl rfl (by kernel_rfl) (fun _ _ _ h => h) (Or.inl ⟨by rfl, ?_⟩) ?_ ?_
      rotate_left
      · intro w'
        go_simp
        with_reducible rfl
      rotate_left
      · simp only [Act.put, List.setIfInBounds_toArray, List.set_cons_zero, List.set_cons_succ, i64_w, i32_w]
        rfl
      refine pure_ (i := 6) (N := some 55) (v := ?_) (a' := ?_) #[true, true, true, false, true, false, true, false, false, false, false, false, false, false] rfl rfl (by kernel_rfl) (fun _ _ _ h => h) (Or.inl ⟨by rfl, ?_⟩) ?_ ?_
      rotate_left
      · intro w'
        go_simp
        with_reducible rfl
      rotate_left
      · simp only [Act.put, List.setIfInBounds_toArray, List.set_cons_zero, List.set_cons_succ, i64_w, i32_w]
        rfl
      refine pure_ (i := 7) (N := some 56) (v := ?_) (a' := ?_) #[true, true, true, false, true, false, true, true, false, false, false, false, false, false] rfl rfl (by kernel_rfl) (fun _ _ _ h => h) (Or.inl ⟨by rfl, ?_⟩) ?_ ?_
      rotate_left
      · intro w'
        go_simp
        with_reducible rfl
      rotate_left
      · simp only [Act.put, List.setIfInBounds_toArray, List.set_cons_zero, List.set_cons_succ, i64_w, i32_w]
        rfl
      refine pure_ (i := 8) (N := some 57) (v := ?_) (a' := ?_) #[true, true, true, false, true, false, true, true, true, false, false, false, false, false] rfl rfl (by kernel_rfl) (fun _ _ _ h => h) (Or.inl ⟨by rfl, ?_⟩) ?_ ?_
      rotate_left
      · intro w'
        go_simp
        with_reducible rfl
      rotate_left
      · simp only [Act.put, List.setIfInBounds_toArray, List.set_cons_zero, List.set_cons_succ, i64_w, i32_w]
        rfl
      refine pure_ (i := 10) (N := some 59) (v := ?_) (a' := ?_) #[true, true, true, false, true, false, true, true, true, false, true, false, false, false] rfl rfl (by kernel_rfl) (fun _ _ _ h => h) (Or.inl ⟨by rfl, ?_⟩) ?_ ?_
      rotate_left
      · intro w'
        go_simp
        with_reducible rfl
      rotate_left
      · simp only [Act.put, List.setIfInBounds_toArray, List.set_cons_zero, List.set_cons_succ, i64_w, i32_w]
        rfl
      refine take_ (i := 3) (N := some 52) (v := ?_) (a' := ?_) #[true, true, true, true, true, false, true, true, true, false, true, false, false, false] rfl rfl (by kernel_rfl) (fun _ _ _ h => h) (Or.inl ⟨by rfl, ?_⟩) hHeld ?_ ?_
      rotate_left
      · rintro w' ⟨s0, s1, s2, s3, s4, s5, s6, s7, s8⟩
        go_simp
        with_reducible rfl
      rotate_left
      · simp only [Act.put, List.setIfInBounds_toArray, List.set_cons_zero, List.set_cons_succ, i64_w, i32_w]
        rfl
      refine take_ (i := 9) (N := some 58) (v := ?_) (a' := ?_) #[true, true, true, true, true, false, true, true, true, true, true, false, false, false] rfl rfl (by kernel_rfl) (fun _ _ _ h => h) (Or.inl ⟨by rfl, ?_⟩) hHeld ?_ ?_
      rotate_left
      · rintro w' ⟨s0, s1, s2, s3, s4, s5, s6, s7, s8⟩
        go_simp
        with_reducible rfl
      rotate_left
      · simp only [Act.put, List.setIfInBounds_toArray, List.set_cons_zero, List.set_cons_succ, i64_w, i32_w]
        rfl
      refine one_ (i := 5) (N := some 54) #[true, true, true, true, true, true, true, true, true, true, true, false, false, false] rfl rfl (by kernel_rfl) (by decide) (fun K hK => ?_)
      refine goes_ Tryd.func63 (by kernel_rfl) rfl #[.pointer (some ⟨p, 0, none⟩), .agg #[.int .i64 (tr : Int), .int .i64 (tc : Int), .int .i64 (r0 : Int), .int .i64 (c0 : Int)], .int .i64 (i : Int)] (by rfl) rfl rfl (by simp only [List.map_toArray, List.map_cons, List.map_nil]; rfl) ?_
      with_reducible refine (row_ p g R C tr tc r0 c0 i a _ _ hHeld.2.2.2.2.2.2.2.2.out.blk HT1.out HI.out HA.out).mono ?_
      rintro e w5 ⟨rfl, hb⟩
      refine ⟨_, rfl, ?_⟩
      have nW := hHeld.2.2.2.2.2.2.2.2.out.below hb
      clear hHeld hb
      refine hK.out _ _ ⟨nW.box.cell 0, nW.box.cell 1, nW.box.cell 2, nW.box.cell 3, nW.oth.cell 0, nW.oth.cell 1, nW.oth.cell 2, nW.oth.cell 3, ⟨nW⟩⟩ (fun hHeld => ?_)
      clear hK K
      refine norm_ (a' := ?_) ?_ ?_
      rotate_left
      · show Act.put _ (some 54) _ = _
        simp only [Act.put, List.setIfInBounds_toArray, List.set_cons_zero, List.set_cons_succ, i64_w, i32_w]
        rfl
      refine one_ (i := 11) (N := some 60) #[true, true, true, true, true, true, true, true, true, true, true, true, false, false] rfl rfl (by kernel_rfl) (by decide) (fun K hK => ?_)
      refine goes_ Tryd.func63 (by kernel_rfl) rfl #[.pointer (some ⟨p, 0, none⟩), .agg #[.int .i64 (tr : Int), .int .i64 (tc : Int), .int .i64 (r1 : Int), .int .i64 (c1 : Int)], .int .i64 (i : Int)] (by rfl) rfl rfl (by simp only [List.map_toArray, List.map_cons, List.map_nil]; rfl) ?_
      with_reducible refine (row_ p g R C tr tc r1 c1 i b _ _ hHeld.2.2.2.2.2.2.2.2.out.blk HT2.out HI.out HB.out).mono ?_
      rintro e w6 ⟨rfl, hb⟩
      refine ⟨_, rfl, ?_⟩
      have nW := hHeld.2.2.2.2.2.2.2.2.out.below hb
      clear hHeld hb
      refine hK.out _ _ ⟨nW.box.cell 0, nW.box.cell 1, nW.box.cell 2, nW.box.cell 3, nW.oth.cell 0, nW.oth.cell 1, nW.oth.cell 2, nW.oth.cell 3, ⟨nW⟩⟩ (fun hHeld => ?_)
      clear hK K
      refine norm_ (a' := ?_) ?_ ?_
      rotate_left
      · show Act.put _ (some 60) _ = _
        simp only [Act.put, List.setIfInBounds_toArray, List.set_cons_zero, List.set_cons_succ, i64_w, i32_w]
        rfl
      refine pure_ (i := 12) (N := some 11) (v := ?_) (a' := ?_) #[true, true, true, true, true, true, true, true, true, true, true, true, true, false] rfl rfl (by kernel_rfl) (fun _ _ _ h => h) (Or.inl ⟨by rfl, ?_⟩) ?_ ?_
      rotate_left
      · intro w'
        go_simp
        with_reducible rfl
      rotate_left
      · simp only [Act.put, List.setIfInBounds_toArray, List.set_cons_zero, List.set_cons_succ, i64_w, i32_w]
        rfl
      refine pure_ (i := 13) (N := some 12) (v := ?_) (a' := ?_) #[true, true, true, true, true, true, true, true, true, true, true, true, true, true] rfl rfl (by kernel_rfl) (fun _ _ _ h => h) (Or.inl ⟨by rfl, ?_⟩) ?_ ?_
      rotate_left
      · intro w'
        go_simp
        with_reducible rfl
      rotate_left
      · simp only [Act.put, List.setIfInBounds_toArray, List.set_cons_zero, List.set_cons_succ, i64_w, i32_w]
        rfl
      refine done_ (by kernel_rfl) ?_

      have HW2 := hHeld.2.2.2.2.2.2.2.2
      clear hHeld HW HT1 HT2
      go_wp2
      go_loopw [63] (fun v63 wr => ∃ (k : Nat), v63 = .int .i64 k ∧ k ≤ tc ∧ Aside0 (Wst w wr w.heap.size (w.heap.size + 1) p g R C tr tc r0 c0 r1 c1 (swp xs (pl C tc r0 c0) (pl C tc r1 c1) (i * tc + k)))) (fun v63 _ => tc - (intOf v63).toNat)
      case atStart => exact ⟨0, rfl, Nat.zero_le _, HW2⟩
      case round =>
        clear HW2
        obtain ⟨k, rfl, hk, HW⟩ := hrel
        by_cases h2 : k < tc
        · have d2 : decide ((k : Int) < (tc : Int)) = true := decide_eq_true (by omega)
          have d2' : decide (k < tc) = true := decide_eq_true h2
          have hsl := swp_len xs (pl C tc r0 c0) (pl C tc r1 c1) (i * tc + k)
          have e1' := pl_at C r0 c0 i h2
          have e2' := pl_at C r1 c1 i h2
          rw [HA.out] at e1'
          rw [HB.out] at e2'
          have hA1 := H1.out.at_ HI.out
          have hA2 := H2.out.at_ HI.out
          rw [HA.out] at hA1
          rw [HB.out] at hA2
          obtain ⟨ys, hys⟩ : ∃ ys, ys = swp xs (pl C tc r0 c0) (pl C tc r1 c1) (i * tc + k) := ⟨_, rfl⟩
          have HN : Aside0 (swp xs (pl C tc r0 c0) (pl C tc r1 c1) (i * tc + (k + 1)) = (ys.set (a + k) (ys.getD (b + k) 0)).set (b + k) (ys.getD (a + k) 0)) := ⟨by
            rw [← Nat.add_assoc]; simp only [swp]; rw [e1', e2', hys]⟩
          have x1 := (hys ▸ HW.out.blk.cell (a + k) (by omega) : _)
          have x2 := (hys ▸ HW.out.blk.cell (b + k) (by omega) : _)
          have f1 := HW.out.blk.row.frozen (a + k)
          have f2 := HW.out.blk.row.frozen (b + k)
          have HWy := Aside0.mk (hys ▸ HW.out : Wst w _ w.heap.size (w.heap.size + 1) p g R C tr tc r0 c0 r1 c1 ys)
          have HK := Aside0.mk h2
          have q1 : (0 : Int) ≤ (k : Int) := by omega
          have q2 : (k : Int) < (tc : Int) := by omega
          have hbl : b + k < ys.length := by rw [hys, hsl]; omega
          clear h2 hsl e1' e2' hA1 hA2 hys HW
          generalize ys.getD (a + k) 0 = y1 at *
          generalize ys.getD (b + k) 0 = y2 at *
          have x3 := (HWy.out.set (a + k) y2).blk.cell (b + k) (by rw [List.length_set]; exact hbl)
          generalize (ys.set (a + k) y2).getD (b + k) 0 = y3 at *
          clear hbl
          go_wp2_with fail
          refine start_ (n := 16) (S := fun w' => w'.cell? ⟨g, a + k, none⟩ = some (.int .u64 y1) ∧ w'.cell? ⟨g, b + k, none⟩ = some (.int .u64 y2)) (ds := [13, 15]) #[false, false, false, false, false, false, false, false, false, false, false, false, false, false, false, false] (by kernel_rfl) rfl rfl ⟨x1, x2⟩ (fun hHeld => ?_)
          refine pure_ (i := 0) (N := some 66) (v := ?_) (a' := ?_) #[true, false, false, false, false, false, false, false, false, false, false, false, false, false, false, false] rfl rfl (by kernel_rfl) (fun _ _ _ h => h) (Or.inl ⟨by rfl, ?_⟩) ?_ ?_
          rotate_left
          · intro w'
            go_simp
            with_reducible rfl
          rotate_left
          · simp only [Act.put, List.setIfInBounds_toArray, List.set_cons_zero, List.set_cons_succ, i64_w, i32_w]
            rfl
          refine pure_ (i := 1) (N := some 67) (v := ?_) (a' := ?_) #[true, true, false, false, false, false, false, false, false, false, false, false, false, false, false, false] rfl rfl (by kernel_rfl) (fun _ _ _ h => h) (Or.inl ⟨by rfl, ?_⟩) ?_ ?_
          rotate_left
          · intro w'
            go_simp
            with_reducible rfl
          rotate_left
          · simp only [Act.put, List.setIfInBounds_toArray, List.set_cons_zero, List.set_cons_succ, i64_w, i32_w]
            rfl
          refine pure_ (i := 2) (N := some 68) (v := ?_) (a' := ?_) #[true, true, true, false, false, false, false, false, false, false, false, false, false, false, false, false] rfl rfl (by kernel_rfl) (fun _ _ _ h => h) (Or.inl ⟨by rfl, ?_⟩) ?_ ?_
          rotate_left
          · intro w'
            go_simp
            with_reducible rfl
          rotate_left
          · simp only [Act.put, List.setIfInBounds_toArray, List.set_cons_zero, List.set_cons_succ, i64_w, i32_w]
            rfl
          refine pure_ (i := 3) (N := some 69) (v := ?_) (a' := ?_) #[true, true, true, true, false, false, false, false, false, false, false, false, false, false, false, false] rfl rfl (by kernel_rfl) (fun _ _ _ h => h) (Or.inl ⟨by rfl, ?_⟩) ?_ ?_
          rotate_left
          · intro w'
            go_simp
            with_reducible rfl
          rotate_left
          · simp only [Act.put, List.setIfInBounds_toArray, List.set_cons_zero, List.set_cons_succ, i64_w, i32_w]
            rfl
          refine pure_ (i := 4) (N := some 70) (v := ?_) (a' := ?_) #[true, true, true, true, true, false, false, false, false, false, false, false, false, false, false, false] rfl rfl (by kernel_rfl) (fun _ _ _ h => h) (Or.inl ⟨by rfl, ?_⟩) ?_ ?_
          rotate_left
          · intro w'
            go_simp
            with_reducible rfl
          rotate_left
          · simp only [Act.put, List.setIfInBounds_toArray, List.set_cons_zero, List.set_cons_succ, i64_w, i32_w]
            rfl
          refine pure_ (i := 5) (N := some 71) (v := ?_) (a' := ?_) #[true, true, true, true, true, true, false, false, false, false, false, false, false, false, false, false] rfl rfl (by kernel_rfl) (fun _ _ _ h => h) (Or.inl ⟨by rfl, ?_⟩) ?_ ?_
          rotate_left
          · intro w'
            go_simp
            with_reducible rfl
          rotate_left
          · simp only [Act.put, List.setIfInBounds_toArray, List.set_cons_zero, List.set_cons_succ, i64_w, i32_w]
            rfl
          refine pure_ (i := 6) (N := some 72) (v := ?_) (a' := ?_) #[true, true, true, true, true, true, true, false, false, false, false, false, false, false, false, false] rfl rfl (by kernel_rfl) (fun _ _ _ h => h) (Or.inl ⟨by rfl, ?_⟩) ?_ ?_
          rotate_left
          · intro w'
            go_simp
            with_reducible rfl
          rotate_left
          · simp only [Act.put, List.setIfInBounds_toArray, List.set_cons_zero, List.set_cons_succ, i64_w, i32_w]
            rfl
          refine pure_ (i := 8) (N := some 74) (v := ?_) (a' := ?_) #[true, true, true, true, true, true, true, false, true, false, false, false, false, false, false, false] rfl rfl (by kernel_rfl) (fun _ _ _ h => h) (Or.inl ⟨by rfl, ?_⟩) ?_ ?_
          rotate_left
          · intro w'
            go_simp
            with_reducible rfl
          rotate_left
          · simp only [Act.put, List.setIfInBounds_toArray, List.set_cons_zero, List.set_cons_succ, i64_w, i32_w]
            rfl
          refine pure_ (i := 9) (N := some 75) (v := ?_) (a' := ?_) #[true, true, true, true, true, true, true, false, true, true, false, false, false, false, false, false] rfl rfl (by kernel_rfl) (fun _ _ _ h => h) (Or.inl ⟨by rfl, ?_⟩) ?_ ?_
          rotate_left
          · intro w'
            go_simp
            with_reducible rfl
          rotate_left
          · simp only [Act.put, List.setIfInBounds_toArray, List.set_cons_zero, List.set_cons_succ, i64_w, i32_w]
            rfl
          refine pure_ (i := 10) (N := some 76) (v := ?_) (a' := ?_) #[true, true, true, true, true, true, true, false, true, true, true, false, false, false, false, false] rfl rfl (by kernel_rfl) (fun _ _ _ h => h) (Or.inl ⟨by rfl, ?_⟩) ?_ ?_
          rotate_left
          · intro w'
            go_simp
            with_reducible rfl
          rotate_left
          · simp only [Act.put, List.setIfInBounds_toArray, List.set_cons_zero, List.set_cons_succ, i64_w, i32_w]
            rfl
          refine take_ (i := 7) (N := some 73) (v := ?_) (a' := ?_) #[true, true, true, true, true, true, true, true, true, true, true, false, false, false, false, false] rfl rfl (by kernel_rfl) (fun _ _ _ h => h) (Or.inl ⟨by rfl, ?_⟩) hHeld ?_ ?_
          rotate_left
          · rintro w' ⟨s0, s1⟩
            go_simp
            with_reducible rfl
          rotate_left
          · simp only [Act.put, List.setIfInBounds_toArray, List.set_cons_zero, List.set_cons_succ, i64_w, i32_w]
            rfl
          refine take_ (i := 11) (N := some 77) (v := ?_) (a' := ?_) #[true, true, true, true, true, true, true, true, true, true, true, true, false, false, false, false] rfl rfl (by kernel_rfl) (fun _ _ _ h => h) (Or.inl ⟨by rfl, ?_⟩) hHeld ?_ ?_
          rotate_left
          · rintro w' ⟨s0, s1⟩
            go_simp
            with_reducible rfl
          rotate_left
          · simp only [Act.put, List.setIfInBounds_toArray, List.set_cons_zero, List.set_cons_succ, i64_w, i32_w]
            rfl
          refine pure_ (i := 12) (N := some 78) (v := ?_) (a' := ?_) #[true, true, true, true, true, true, true, true, true, true, true, true, true, false, false, false] rfl rfl (by kernel_rfl) (fun _ _ _ h => h) (Or.inl ⟨by rfl, ?_⟩) ?_ ?_
          rotate_left
          · intro w'
            go_simp
            with_reducible rfl
          rotate_left
          · simp only [Act.put, List.setIfInBounds_toArray, List.set_cons_zero, List.set_cons_succ, i64_w, i32_w]
            rfl
          refine last_ (i := 13) (N := none) #[true, true, true, true, true, true, true, true, true, true, true, true, true, true, false, false] rfl rfl (by kernel_rfl) (by decide) (fun K hK => ?_)
          refine skip_ (w1 := ?_) (by rfl) rfl ?_ ?_
          rotate_left
          · go_simp
            rfl
          refine hK.out _ _ ?_
          clear hK K
          refine pure_ (i := 14) (N := some 79) (v := ?_) (a' := ?_) #[true, true, true, true, true, true, true, true, true, true, true, true, true, true, true, false] rfl rfl (by kernel_rfl) (fun _ _ _ h => h) (Or.inl ⟨by rfl, ?_⟩) ?_ ?_
          rotate_left
          · intro w'
            go_simp
            with_reducible rfl
          rotate_left
          · simp only [Act.put, List.setIfInBounds_toArray, List.set_cons_zero, List.set_cons_succ, i64_w, i32_w]
            rfl
          refine last_ (i := 15) (N := none) #[true, true, true, true, true, true, true, true, true, true, true, true, true, true, true, true] rfl rfl (by kernel_rfl) (by decide) (fun K hK => ?_)
          refine skip_ (w1 := ?_) (by rfl) rfl ?_ ?_
          rotate_left
          · go_simp
            rfl
          refine hK.out _ _ ?_
          clear hK K
          refine done_ (by kernel_rfl) ?_

          have HW3 := Aside0.mk ((((HWy.out.below (below_drew1 (Below.refl _ _))).set (a + k) y2).set (b + k) y1))
          rw [← HN.out] at HW3
          clear HN HWy x1 x2 x3 f1 f2 hHeld
          go_wp2
          go_roundw
          case rel => exact ⟨k + 1, by go_num, HK.out, HW3⟩
          case measure =>
            have := HK.out
            simp [intOf]; omega
        · obtain rfl : tc = k := by omega
          have d2 : decide ((tc : Int) < (tc : Int)) = false := by simp
          go_wp2
          go_roundw
          case rel => exact ⟨i + 1, by go_num, HI.out, ⟨by rw [Nat.add_mul, Nat.one_mul]; exact HW.out⟩⟩
          case measure =>
            have := HI.out
            simp [intOf]; omega
    · obtain rfl : tr = i := by omega
      have d1 : decide ((tr : Int) < (tr : Int)) = false := by simp
      go_wp2
      go_ret
      exact ⟨rfl, HW.out.blk, HW.out.fr⟩
end Go.Proofs.YthppiphldaopnaaDoor.Obj
