import Derived.Test.YthppiphldaopnaaDoorBlockG
import Derived.Test.YthppiphldaopnaaDoorCopy
/-! Blocks: a tile's rows; the block of a tile. -/
namespace Go.Proofs.YthppiphldaopnaaDoor.Obj
open Go.RowKit Go.Proofs.YthppiphldaopnaaDoor Go.Proofs.YthppiphldaopnaaDoor.Ext Go.Proofs.YthppiphldaopnaaDoor.PShape Go.Proofs.YthppiphldaopnaaDoor.PBlk Go.Proofs.YthppiphldaopnaaDoor.Pure Go.Proofs.YthppiphldaopnaaDoorW.PrintWords Go.Proofs.YthppiphldaopnaaDoorW.PrintLast Go.Proofs.YthppiphldaopnaaDoorW.PrintMore
set_option linter.unusedVariables false
set_option linter.unusedSimpArgs false
set_option maxRecDepth 100000

/-- A tile that lies in a block, in numbers. -/
structure Til (R C tr tc r0 c0 n : Nat) : Prop where
  good : GoodS tr tc
  r : r0 + tr ≤ R
  c : c0 + tc ≤ C
  len : R * C = n
  max : n ≤ 1048576
  pos : 1 ≤ tr ∧ 1 ≤ tc
theorem Til.of {R C : Nat} {tr tc r0 c0 : Int} {w : World} {p g : Nat} {xs : List Int} (h : Blo w p g R C xs) (k : Lies R C tr tc r0 c0) : ∃ a b x y : Nat, tr = a ∧ tc = b ∧ r0 = x ∧ c0 = y ∧ Til R C a b x y xs.length := by
  obtain ⟨h1, h2, h3, h4, h5, h6, h7⟩ := k
  obtain ⟨a, b, rfl, rfl, ha, hb, _⟩ := good_bounds h1
  obtain ⟨x, rfl⟩ := Int.eq_ofNat_of_zero_le h2
  obtain ⟨y, rfl⟩ := Int.eq_ofNat_of_zero_le h3
  refine ⟨a, b, x, y, rfl, rfl, rfl, rfl, h1, by omega, by omega, ?_, h.max, ha, hb⟩
  have := h.len
  rw [← Int.natCast_mul] at this
  omega
theorem Til.at_ {R C tr tc r0 c0 n i : Nat} (h : Til R C tr tc r0 c0 n) (hi : i < tr) : (r0 + i) * C + c0 + tc ≤ n := by
  have h1 := place_lt' (R := R) (C := C) (i := r0 + i) (j := c0 + tc - 1) (by have := h.r; omega) (by have := h.c; have := h.pos; omega)
  have := h.len
  have := h.pos
  omega
theorem Til.in_ {R C tr tc r0 c0 n i : Nat} (h : Til R C tr tc r0 c0 n) (hi : i < tr) : i * tc + tc ≤ tr * tc := by
  have : (i + 1) * tc ≤ tr * tc := Nat.mul_le_mul_right _ (by omega)
  rw [Nat.add_mul] at this
  omega
theorem Til.small {R C tr tc r0 c0 n : Nat} (h : Til R C tr tc r0 c0 n) : R ≤ 1048576 ∧ C ≤ 1048576 ∧ tr * tc ≤ 1048576 := by
  have h1 : R * 1 ≤ R * C := Nat.mul_le_mul_left _ (by have := h.c; have := h.pos; omega)
  have h2 : 1 * C ≤ R * C := Nat.mul_le_mul_right _ (by have := h.r; have := h.pos; omega)
  have h3 : tr * tc ≤ R * C := Nat.mul_le_mul (by have := h.r; omega) (by have := h.c; omega)
  have := h.len
  have := h.max
  omega
theorem wsum (a b : Nat) (h : a + b ≤ 4194304) : wrap64 ((a : Int) + (b : Int)) = ((a + b : Nat) : Int) := by unfold wrap64; omega
theorem wmul (a b : Nat) (h : a * b ≤ 4194304) : wrap64 ((a : Int) * (b : Int)) = ((a * b : Nat) : Int) := by
  rw [← Int.natCast_mul]
  generalize a * b = c at *
  unfold wrap64
  omega
theorem Til.nums {R C tr tc r0 c0 n i at_ : Nat} (ht : Til R C tr tc r0 c0 n) (hi : i < tr) (ha : (r0 + i) * C + c0 = at_) :
    ∃ y z b : Nat, (0 : Int) ≤ (at_ : Int) ∧ (at_ : Int) ≤ (b : Int) ∧ (b : Int) ≤ (n : Int) ∧ b - at_ = tc ∧ (at_ : Int) < (n : Int) ∧
      wrap64 ((r0 : Int) + (i : Int)) = (z : Int) ∧ wrap64 ((z : Int) * (C : Int)) = (y : Int) ∧ wrap64 ((y : Int) + (c0 : Int)) = (at_ : Int) ∧ wrap64 ((at_ : Int) + (tc : Int)) = (b : Int) := by
  have hA := ht.at_ hi
  have hs := ht.small
  have hx := ht.max
  have hr1 := ht.r
  have hc1 := ht.c
  have hp := ht.pos
  have hm : (r0 + i) * C ≤ 1048576 := by omega
  subst ha
  exact ⟨(r0 + i) * C, r0 + i, (r0 + i) * C + c0 + tc, by omega, by omega, by omega, by omega, by omega, wsum r0 i (by omega), wmul (r0 + i) C (by omega), wsum _ _ (by omega), wsum _ _ (by omega)⟩
theorem kwrap (x : Int) : IntKind.i64.wrap x = wrap64 x := i64_w x
set_option maxHeartbeats 4000000 in
theorem row_ (p g R C tr tc r0 c0 i at_ : Nat) (xs : List Int) (w : World) (h : Blo w p g R C xs) (ht : Til R C tr tc r0 c0 xs.length) (hi : i < tr) (ha : (r0 + i) * C + c0 = at_) :
    Calls Tryd.prog 63 #[.pointer (some ⟨p, 0, none⟩), .agg #[.int .i64 tr, .int .i64 tc, .int .i64 r0, .int .i64 c0], .int .i64 i] w fun e w' => e = .returned (.slice (some ⟨g, at_, none⟩) tc (xs.length - at_)) ∧ Below w.heap.size w w' := by
  obtain ⟨y, z, b, q1, q2, q3, q4, q5, e1, e2, e3, e4⟩ := ht.nums hi ha
  have HX := Aside0.mk (h.below (below_alloc (Below.refl _ _) (Obj.cells #[.int .i64 tr, .int .i64 tc, .int .i64 r0, .int .i64 c0] 38)))
  have HB := Aside0.mk (Bk.new w 38 [.int .i64 tr, .int .i64 tc, .int .i64 r0, .int .i64 c0])
  have c1' := HX.out.c1
  have c2' := HX.out.c2
  have t1 := HB.out.cell 1
  have t2 := HB.out.cell 2
  have t3 := HB.out.cell 3
  clear h ht hi ha
  go_enter Tryd.func63, Tryd.ntmps63
  go_wp2_with fail
  refine start_ (n := 14) (S := fun w' => w'.cell? ⟨p, 1, none⟩ = some (.int .i64 (C : Int)) ∧ w'.cell? ⟨p, 2, none⟩ = some (.slice (some ⟨g, 0, none⟩) xs.length xs.length) ∧ w'.cell? ⟨w.heap.size, 1, none⟩ = some (.int .i64 (tc : Int)) ∧ w'.cell? ⟨w.heap.size, 2, none⟩ = some (.int .i64 (r0 : Int)) ∧ w'.cell? ⟨w.heap.size, 3, none⟩ = some (.int .i64 (c0 : Int)) ∧ Aside0 (Below w.heap.size w w')) (ds := []) #[false, false, false, false, false, false, false, false, false, false, false, false, false, false] (by kernel_rfl) rfl rfl ⟨c1', c2', t1, t2, t3, ⟨below_drew1 (below_alloc (Below.refl _ _) _)⟩⟩ (fun hHeld => ?_)
  refine pure_ (i := 0) (N := some 8) (v := ?_) (a' := ?_) #[true, false, false, false, false, false, false, false, false, false, false, false, false, false] rfl rfl (by kernel_rfl) (fun _ _ _ h => h) (Or.inl ⟨by rfl, ?_⟩) ?_ ?_
  rotate_left
  · intro w'
    go_simp
    with_reducible rfl
  rotate_left
  · simp only [Act.put, List.setIfInBounds_toArray, List.set_cons_zero, List.set_cons_succ, i64_w, i32_w]
    rfl
  refine pure_ (i := 2) (N := some 10) (v := ?_) (a' := ?_) #[true, false, true, false, false, false, false, false, false, false, false, false, false, false] rfl rfl (by kernel_rfl) (fun _ _ _ h => h) (Or.inl ⟨by rfl, ?_⟩) ?_ ?_
  rotate_left
  · intro w'
    go_simp
    with_reducible rfl
  rotate_left
  · simp only [Act.put, List.setIfInBounds_toArray, List.set_cons_zero, List.set_cons_succ, i64_w, i32_w]
    rfl
  refine pure_ (i := 4) (N := some 12) (v := ?_) (a' := ?_) #[true, false, true, false, true, false, false, false, false, false, false, false, false, false] rfl rfl (by kernel_rfl) (fun _ _ _ h => h) (Or.inl ⟨by rfl, ?_⟩) ?_ ?_
  rotate_left
  · intro w'
    go_simp
    with_reducible rfl
  rotate_left
  · simp only [Act.put, List.setIfInBounds_toArray, List.set_cons_zero, List.set_cons_succ, i64_w, i32_w]
    rfl
  refine pure_ (i := 5) (N := some 13) (v := ?_) (a' := ?_) #[true, false, true, false, true, true, false, false, false, false, false, false, false, false] rfl rfl (by kernel_rfl) (fun _ _ _ h => h) (Or.inl ⟨by rfl, ?_⟩) ?_ ?_
  rotate_left
  · intro w'
    go_simp
    with_reducible rfl
  rotate_left
  · simp only [Act.put, List.setIfInBounds_toArray, List.set_cons_zero, List.set_cons_succ, i64_w, i32_w]
    rfl
  refine pure_ (i := 6) (N := some 14) (v := ?_) (a' := ?_) #[true, false, true, false, true, true, true, false, false, false, false, false, false, false] rfl rfl (by kernel_rfl) (fun _ _ _ h => h) (Or.inl ⟨by rfl, ?_⟩) ?_ ?_
  rotate_left
  · intro w'
    go_simp
    with_reducible rfl
  rotate_left
  · simp only [Act.put, List.setIfInBounds_toArray, List.set_cons_zero, List.set_cons_succ, i64_w, i32_w]
    rfl
  refine pure_ (i := 7) (N := some 15) (v := ?_) (a' := ?_) #[true, false, true, false, true, true, true, true, false, false, false, false, false, false] rfl rfl (by kernel_rfl) (fun _ _ _ h => h) (Or.inl ⟨by rfl, ?_⟩) ?_ ?_
  rotate_left
  · intro w'
    go_simp
    with_reducible rfl
  rotate_left
  · simp only [Act.put, List.setIfInBounds_toArray, List.set_cons_zero, List.set_cons_succ, i64_w, i32_w]
    rfl
  refine pure_ (i := 10) (N := some 18) (v := ?_) (a' := ?_) #[true, false, true, false, true, true, true, true, false, false, true, false, false, false] rfl rfl (by kernel_rfl) (fun _ _ _ h => h) (Or.inl ⟨by rfl, ?_⟩) ?_ ?_
  rotate_left
  · intro w'
    go_simp
    with_reducible rfl
  rotate_left
  · simp only [Act.put, List.setIfInBounds_toArray, List.set_cons_zero, List.set_cons_succ, i64_w, i32_w]
    rfl
  refine take_ (i := 1) (N := some 9) (v := ?_) (a' := ?_) #[true, true, true, false, true, true, true, true, false, false, true, false, false, false] rfl rfl (by kernel_rfl) (fun _ _ _ h => h) (Or.inl ⟨by rfl, ?_⟩) hHeld ?_ ?_
  rotate_left
  · rintro w' ⟨s0, s1, s2, s3, s4, s5⟩
    go_simp
    with_reducible rfl
  rotate_left
  · simp only [Act.put, List.setIfInBounds_toArray, List.set_cons_zero, List.set_cons_succ, i64_w, i32_w]
    rfl
  refine pure_ (i := 3) (N := some 11) (v := ?_) (a' := ?_) #[true, true, true, true, true, true, true, true, false, false, true, false, false, false] rfl rfl (by kernel_rfl) (fun _ _ _ h => h) (Or.inl ⟨by rfl, ?_⟩) ?_ ?_
  rotate_left
  · intro w'
    go_simp
    with_reducible rfl
  rotate_left
  · simp only [Act.put, List.setIfInBounds_toArray, List.set_cons_zero, List.set_cons_succ, i64_w, i32_w]
    rfl
  refine take_ (i := 8) (N := some 16) (v := ?_) (a' := ?_) #[true, true, true, true, true, true, true, true, true, false, true, false, false, false] rfl rfl (by kernel_rfl) (fun _ _ _ h => h) (Or.inl ⟨by rfl, ?_⟩) hHeld ?_ ?_
  rotate_left
  · rintro w' ⟨s0, s1, s2, s3, s4, s5⟩
    go_simp
    with_reducible rfl
  rotate_left
  · simp only [Act.put, List.setIfInBounds_toArray, List.set_cons_zero, List.set_cons_succ, i64_w, i32_w]
    rfl
  refine pure_ (i := 9) (N := some 17) (v := ?_) (a' := ?_) #[true, true, true, true, true, true, true, true, true, true, true, false, false, false] rfl rfl (by kernel_rfl) (fun _ _ _ h => h) (Or.inl ⟨by rfl, ?_⟩) ?_ ?_
  rotate_left
  · intro w'
    go_simp
    with_reducible rfl
  rotate_left
  · simp only [Act.put, List.setIfInBounds_toArray, List.set_cons_zero, List.set_cons_succ, i64_w, i32_w]
    rfl
  refine take_ (i := 11) (N := some 19) (v := ?_) (a' := ?_) #[true, true, true, true, true, true, true, true, true, true, true, true, false, false] rfl rfl (by kernel_rfl) (fun _ _ _ h => h) (Or.inl ⟨by rfl, ?_⟩) hHeld ?_ ?_
  rotate_left
  · rintro w' ⟨s0, s1, s2, s3, s4, s5⟩
    go_simp
    with_reducible rfl
  rotate_left
  · simp only [Act.put, List.setIfInBounds_toArray, List.set_cons_zero, List.set_cons_succ, i64_w, i32_w]
    rfl
  refine pure_ (i := 12) (N := some 20) (v := ?_) (a' := ?_) #[true, true, true, true, true, true, true, true, true, true, true, true, true, false] rfl rfl (by kernel_rfl) (fun _ _ _ h => h) (Or.inl ⟨by rfl, ?_⟩) ?_ ?_
  rotate_left
  · intro w'
    go_simp
    with_reducible rfl
  rotate_left
  · simp only [Act.put, List.setIfInBounds_toArray, List.set_cons_zero, List.set_cons_succ, i64_w, i32_w]
    rfl
  refine pure_ (i := 13) (N := some 7) (v := ?_) (a' := ?_) #[true, true, true, true, true, true, true, true, true, true, true, true, true, true] rfl rfl (by kernel_rfl) (fun _ _ _ h => h) (Or.inl ⟨by rfl, ?_⟩) ?_ ?_
  rotate_left
  · intro w'
    go_simp
    with_reducible rfl
  rotate_left
  · simp only [Act.put, List.setIfInBounds_toArray, List.set_cons_zero, List.set_cons_succ, i64_w, i32_w]
    rfl
  refine done_ (by kernel_rfl) ?_

  obtain ⟨s1, s2, s3, s4, s5, s6⟩ := hHeld
  go_wp2_with fail
  refine start_ (n := 12) (S := fun w' => w'.cell? ⟨p, 1, none⟩ = some (.int .i64 (C : Int)) ∧ w'.cell? ⟨p, 2, none⟩ = some (.slice (some ⟨g, 0, none⟩) xs.length xs.length) ∧ w'.cell? ⟨w.heap.size, 1, none⟩ = some (.int .i64 (tc : Int)) ∧ w'.cell? ⟨w.heap.size, 2, none⟩ = some (.int .i64 (r0 : Int)) ∧ w'.cell? ⟨w.heap.size, 3, none⟩ = some (.int .i64 (c0 : Int)) ∧ Aside0 (Below w.heap.size w w')) (ds := []) #[false, false, false, false, false, false, false, false, false, false, false, false] (by kernel_rfl) rfl rfl ⟨s1, s2, s3, s4, s5, ⟨below_drew1 s6.out⟩⟩ (fun hHeld => ?_)
  refine pure_ (i := 0) (N := some 21) (v := ?_) (a' := ?_) #[true, false, false, false, false, false, false, false, false, false, false, false] rfl rfl (by kernel_rfl) (fun _ _ _ h => h) (Or.inl ⟨by rfl, ?_⟩) ?_ ?_
  rotate_left
  · intro w'
    go_simp
    with_reducible rfl
  rotate_left
  · simp only [Act.put, List.setIfInBounds_toArray, List.set_cons_zero, List.set_cons_succ, i64_w, i32_w]
    rfl
  refine pure_ (i := 1) (N := some 22) (v := ?_) (a' := ?_) #[true, true, false, false, false, false, false, false, false, false, false, false] rfl rfl (by kernel_rfl) (fun _ _ _ h => h) (Or.inl ⟨by rfl, ?_⟩) ?_ ?_
  rotate_left
  · intro w'
    go_simp
    with_reducible rfl
  rotate_left
  · simp only [Act.put, List.setIfInBounds_toArray, List.set_cons_zero, List.set_cons_succ, i64_w, i32_w]
    rfl
  refine pure_ (i := 2) (N := some 23) (v := ?_) (a' := ?_) #[true, true, true, false, false, false, false, false, false, false, false, false] rfl rfl (by kernel_rfl) (fun _ _ _ h => h) (Or.inl ⟨by rfl, ?_⟩) ?_ ?_
  rotate_left
  · intro w'
    go_simp
    with_reducible rfl
  rotate_left
  · simp only [Act.put, List.setIfInBounds_toArray, List.set_cons_zero, List.set_cons_succ, i64_w, i32_w]
    rfl
  refine pure_ (i := 4) (N := some 25) (v := ?_) (a' := ?_) #[true, true, true, false, true, false, false, false, false, false, false, false] rfl rfl (by kernel_rfl) (fun _ _ _ h => h) (Or.inl ⟨by rfl, ?_⟩) ?_ ?_
  rotate_left
  · intro w'
    go_simp
    with_reducible rfl
  rotate_left
  · simp only [Act.put, List.setIfInBounds_toArray, List.set_cons_zero, List.set_cons_succ, i64_w, i32_w]
    rfl
  refine pure_ (i := 5) (N := some 26) (v := ?_) (a' := ?_) #[true, true, true, false, true, true, false, false, false, false, false, false] rfl rfl (by kernel_rfl) (fun _ _ _ h => h) (Or.inl ⟨by rfl, ?_⟩) ?_ ?_
  rotate_left
  · intro w'
    go_simp
    with_reducible rfl
  rotate_left
  · simp only [Act.put, List.setIfInBounds_toArray, List.set_cons_zero, List.set_cons_succ, i64_w, i32_w]
    rfl
  refine pure_ (i := 6) (N := some 27) (v := ?_) (a' := ?_) #[true, true, true, false, true, true, true, false, false, false, false, false] rfl rfl (by kernel_rfl) (fun _ _ _ h => h) (Or.inl ⟨by rfl, ?_⟩) ?_ ?_
  rotate_left
  · intro w'
    go_simp
    with_reducible rfl
  rotate_left
  · simp only [Act.put, List.setIfInBounds_toArray, List.set_cons_zero, List.set_cons_succ, i64_w, i32_w]
    rfl
  refine pure_ (i := 7) (N := some 28) (v := ?_) (a' := ?_) #[true, true, true, false, true, true, true, true, false, false, false, false] rfl rfl (by kernel_rfl) (fun _ _ _ h => h) (Or.inl ⟨by rfl, ?_⟩) ?_ ?_
  rotate_left
  · intro w'
    go_simp
    with_reducible rfl
  rotate_left
  · simp only [Act.put, List.setIfInBounds_toArray, List.set_cons_zero, List.set_cons_succ, i64_w, i32_w]
    rfl
  refine take_ (i := 3) (N := some 24) (v := ?_) (a' := ?_) #[true, true, true, true, true, true, true, true, false, false, false, false] rfl rfl (by kernel_rfl) (fun _ _ _ h => h) (Or.inl ⟨by rfl, ?_⟩) hHeld ?_ ?_
  rotate_left
  · rintro w' ⟨s0, s1, s2, s3, s4, s5⟩
    go_simp
    with_reducible rfl
  rotate_left
  · simp only [Act.put, List.setIfInBounds_toArray, List.set_cons_zero, List.set_cons_succ, i64_w, i32_w]
    rfl
  refine take_ (i := 8) (N := some 29) (v := ?_) (a' := ?_) #[true, true, true, true, true, true, true, true, true, false, false, false] rfl rfl (by kernel_rfl) (fun _ _ _ h => h) (Or.inl ⟨by rfl, ?_⟩) hHeld ?_ ?_
  rotate_left
  · rintro w' ⟨s0, s1, s2, s3, s4, s5⟩
    go_simp
    with_reducible rfl
  rotate_left
  · simp only [Act.put, List.setIfInBounds_toArray, List.set_cons_zero, List.set_cons_succ, i64_w, i32_w]
    rfl
  refine pure_ (i := 9) (N := some 30) (v := ?_) (a' := ?_) #[true, true, true, true, true, true, true, true, true, true, false, false] rfl rfl (by kernel_rfl) (fun _ _ _ h => h) (Or.inl ⟨by rfl, ?_⟩) ?_ ?_
  rotate_left
  · intro w'
    go_simp
    with_reducible rfl
  rotate_left
  · simp only [Act.put, List.setIfInBounds_toArray, List.set_cons_zero, List.set_cons_succ, i64_w, i32_w]
    rfl
  refine pure_ (i := 10) (N := some 31) (v := ?_) (a' := ?_) #[true, true, true, true, true, true, true, true, true, true, true, false] rfl rfl (by kernel_rfl) (fun _ _ _ h => h) (Or.inl ⟨by rfl, ?_⟩) ?_ ?_
  rotate_left
  · intro w'
    go_simp
    with_reducible rfl
  rotate_left
  · simp only [Act.put, List.setIfInBounds_toArray, List.set_cons_zero, List.set_cons_succ, i64_w, i32_w]
    rfl
  refine pure_ (i := 11) (N := some 6) (v := ?_) (a' := ?_) #[true, true, true, true, true, true, true, true, true, true, true, true] rfl rfl (by kernel_rfl) (fun _ _ _ h => h) (Or.inl ⟨by rfl, ?_⟩) ?_ ?_
  rotate_left
  · intro w'
    go_simp
    with_reducible rfl
  rotate_left
  · simp only [Act.put, List.setIfInBounds_toArray, List.set_cons_zero, List.set_cons_succ, i64_w, i32_w]
    rfl
  refine done_ (by kernel_rfl) ?_

  have HBe := hHeld.2.2.2.2.2
  clear hHeld
  go_wp2
  go_ret
  exact ⟨rfl, HBe.out⟩
/-- What a tile's block holds, as far as row i. -/
def Got (xs zs : List Int) (C tc r0 c0 i : Nat) : Prop := ∀ a b, a < i → b < tc → zs.getD (a * tc + b) 0 = xs.getD ((r0 + a) * C + c0 + b) 0
theorem Got.next {R C tr tc r0 c0 i at_ u : Nat} {xs zs : List Int} (h : Got xs zs C tc r0 c0 i) (ht : Til R C tr tc r0 c0 xs.length) (hl : zs.length = tr * tc) (hi : i < tr) (ha : (r0 + i) * C + c0 = at_) (hu : i * tc = u) :
    Got xs (splice zs u ((xs.drop at_).take tc)) C tc r0 c0 (i + 1) := by
  intro a b ha2 hb
  have h1 := ht.in_ hi
  have h2 := ht.at_ hi
  have hy : ((xs.drop at_).take tc).length = tc := len_part (by omega)
  by_cases e : a = i
  · subst e
    rw [splice_in (by omega) (by omega) (by omega), hu, show u + b - u = b by omega, getD_part hb, ha]
  · have h3 : a * tc + tc ≤ i * tc := by
      have : (a + 1) * tc ≤ i * tc := Nat.mul_le_mul_right _ (by omega)
      rw [Nat.add_mul] at this
      omega
    rw [splice_out (by omega) (.inl (by omega))]
    exact h a b (by omega) hb
structure Pst (w0 w : World) (t p g q h : Nat) (R C tr tc r0 c0 : Nat) (xs zs : List Int) : Prop where
  blk : Blo w p g R C xs
  box : Bk w t 38 [.int .i64 tr, .int .i64 tc, .int .i64 r0, .int .i64 c0]
  new : Blo w q h tr tc zs
  be : Below w0.heap.size w0 w
  hq : w0.heap.size ≤ q
  hh : w0.heap.size ≤ h
  old : g < w0.heap.size ∧ p < w0.heap.size
theorem Pst.below {w0 w w' : World} {t p g q h R C tr tc r0 c0 : Nat} {xs zs : List Int} (k : Pst w0 w t p g q h R C tr tc r0 c0 xs zs) (hb : Below w.heap.size w w') : Pst w0 w' t p g q h R C tr tc r0 c0 xs zs :=
  ⟨k.blk.below hb, k.box.below hb, k.new.below hb, below_then k.be k.be.size hb, k.hq, k.hh, k.old⟩
theorem Pst.copied {w0 w w' : World} {t p g q h R C tr tc r0 c0 : Nat} {xs zs zs' : List Int} (k : Pst w0 w t p g q h R C tr tc r0 c0 xs zs) (hr : Rw w' h zs') (hl : zs'.length = zs.length) (hf : Fr w w' [h]) : Pst w0 w' t p g q h R C tr tc r0 c0 xs zs' :=
  ⟨k.blk.fr hf (by have := k.old; have := k.hh; simp; omega) (by have := k.old; have := k.hh; simp; omega), k.box.fr hf (by simpa using k.box.ne k.new.row (by decide)),
    ⟨by rw [hl]; exact k.new.obj.fr hf (by simpa using k.new.ne), hr, k.new.good, by rw [hl]; exact k.new.len, by rw [hl]; exact k.new.max⟩, k.be.trans (hf.below k.be.size (fun j hj => by simp at hj; have := k.hh; omega)), k.hq, k.hh, k.old⟩
theorem Til.zlen {R C tr tc r0 c0 n : Nat} (ht : Til R C tr tc r0 c0 n) {w : World} {q h : Nat} {zs : List Int} (k : Blo w q h tr tc zs) : zs.length = tr * tc := by
  have := k.len
  rw [← Int.natCast_mul] at this
  omega
theorem Til.mul_ {R C tr tc r0 c0 n i u : Nat} (ht : Til R C tr tc r0 c0 n) (hi : i < tr) (hu : i * tc = u) : wrap64 ((i : Int) * (tc : Int)) = (u : Int) := by
  have := ht.in_ hi
  have := ht.small
  subst hu
  exact wmul i tc (by omega)
set_option maxHeartbeats 4000000 in
theorem part_yes (p g R C tr tc r0 c0 : Nat) (xs : List Int) (w : World) (h : Blo w p g R C xs) (ht : Til R C tr tc r0 c0 xs.length) (hT : TabOK w) :
    Calls Tryd.prog 44 #[.pointer (some ⟨p, 0, none⟩), .agg #[.int .i64 tr, .int .i64 tc, .int .i64 r0, .int .i64 c0]] w fun e w' => ∃ q h ys, e = .returned (.tuple #[.pointer (some ⟨q, 0, none⟩), .int .i64 0]) ∧ Blo w' q h tr tc ys ∧ Got xs ys C tc r0 c0 tr ∧ Below w.heap.size w w' ∧ w.heap.size ≤ q ∧ w.heap.size ≤ h := by
  have hbe0 := below_alloc (Below.refl w.heap.size w) (Obj.cells #[.int .i64 (tr : Int), .int .i64 (tc : Int), .int .i64 (r0 : Int), .int .i64 (c0 : Int)] 38)
  have HX := Aside0.mk (h.below hbe0)
  have HB := Aside0.mk (Bk.new w 38 [.int .i64 tr, .int .i64 tc, .int .i64 r0, .int .i64 c0])
  have HT := Aside0.mk (TabOK.below hT hbe0)
  have HBe0 := Aside0.mk hbe0
  have HTi := Aside0.mk ht
  have HLies : Aside0 (Lies R C tr tc r0 c0) := ⟨ht.good, by omega, by omega, by have := ht.r; omega, by have := ht.c; omega, by have := ht.r; omega, by have := ht.c; omega⟩
  have HOld := Aside0.mk (And.intro h.row.lt h.obj.lt)
  have t0 := HB.out.cell 0
  have t1 := HB.out.cell 1
  have t2 := HB.out.cell 2
  have t3 := HB.out.cell 3
  clear h hT ht hbe0
  go_enter Tryd.func44, Tryd.ntmps44
  go_wp2_with fail
  refine start_ (n := 6) (S := fun w' => w'.cell? ⟨w.heap.size, 0, none⟩ = some (.int .i64 (tr : Int)) ∧ w'.cell? ⟨w.heap.size, 1, none⟩ = some (.int .i64 (tc : Int)) ∧ w'.cell? ⟨w.heap.size, 2, none⟩ = some (.int .i64 (r0 : Int)) ∧ w'.cell? ⟨w.heap.size, 3, none⟩ = some (.int .i64 (c0 : Int)) ∧ Aside0 (Below w.heap.size w w' ∧ Blo w' p g R C xs ∧ Bk w' w.heap.size 38 [.int .i64 tr, .int .i64 tc, .int .i64 r0, .int .i64 c0] ∧ TabOK w')) (ds := []) #[false, false, false, false, false, false] (by kernel_rfl) rfl rfl ⟨t0, t1, t2, t3, ⟨below_drew1 HBe0.out, HX.out.below (below_drew1 (Below.refl _ _)), HB.out, HT.out.drew⟩⟩ (fun hHeld => ?_)
  refine pure_ (i := 0) (N := some 8) (v := ?_) (a' := ?_) #[true, false, false, false, false, false] rfl rfl (by kernel_rfl) (fun _ _ _ h => h) (Or.inl ⟨by rfl, ?_⟩) ?_ ?_
  rotate_left
  · intro w'
    go_simp
    with_reducible rfl
  rotate_left
  · simp only [Act.put, List.setIfInBounds_toArray, List.set_cons_zero, List.set_cons_succ, i64_w, i32_w]
    rfl
  refine pure_ (i := 1) (N := some 9) (v := ?_) (a' := ?_) #[true, true, false, false, false, false] rfl rfl (by kernel_rfl) (fun _ _ _ h => h) (Or.inl ⟨by rfl, ?_⟩) ?_ ?_
  rotate_left
  · intro w'
    go_simp
    with_reducible rfl
  rotate_left
  · simp only [Act.put, List.setIfInBounds_toArray, List.set_cons_zero, List.set_cons_succ, i64_w, i32_w]
    rfl
  refine pure_ (i := 2) (N := some 10) (v := ?_) (a' := ?_) #[true, true, true, false, false, false] rfl rfl (by kernel_rfl) (fun _ _ _ h => h) (Or.inl ⟨by rfl, ?_⟩) ?_ ?_
  rotate_left
  · intro w'
    go_simp
    with_reducible rfl
  rotate_left
  · simp only [Act.put, List.setIfInBounds_toArray, List.set_cons_zero, List.set_cons_succ, i64_w, i32_w]
    rfl
  refine take_ (i := 3) (N := some 11) (v := ?_) (a' := ?_) #[true, true, true, true, false, false] rfl rfl (by kernel_rfl) (fun _ _ _ h => h) (Or.inl ⟨by rfl, ?_⟩) hHeld ?_ ?_
  rotate_left
  · rintro w' ⟨s0, s1, s2, s3, s4⟩
    go_simp
    with_reducible rfl
  rotate_left
  · simp only [Act.put, List.setIfInBounds_toArray, List.set_cons_zero, List.set_cons_succ, i64_w, i32_w]
    rfl
  refine one_ (i := 4) (N := some 12) #[true, true, true, true, true, false] rfl rfl (by kernel_rfl) (by decide) (fun K hK => ?_)
  refine goes_ Tryd.func61 (by kernel_rfl) rfl #[.pointer (some ⟨p, 0, none⟩), .agg #[.int .i64 tr, .int .i64 tc, .int .i64 r0, .int .i64 c0]] (by rfl) rfl rfl (by simp only [List.map_toArray, List.map_cons, List.map_nil]; rfl) ?_
  with_reducible refine (holds_yes p g R C tr tc r0 c0 xs _ hHeld.2.2.2.2.out.2.1 HLies.out hHeld.2.2.2.2.out.2.2.2).mono ?_
  rintro e w1 ⟨rfl, hb⟩
  refine ⟨_, rfl, ?_⟩
  have nX := hHeld.2.2.2.2.out.2.1.below hb
  have nB := hHeld.2.2.2.2.out.2.2.1.below hb
  have nT := TabOK.below hHeld.2.2.2.2.out.2.2.2 hb
  have nE := below_step hHeld.2.2.2.2.out.1 hb
  clear hHeld hb
  refine hK.out _ _ ⟨nB.cell 0, nB.cell 1, nB.cell 2, nB.cell 3, ⟨nE, nX, nB, nT⟩⟩ (fun hHeld => ?_)
  clear hK K
  refine norm_ (a' := ?_) ?_ ?_
  rotate_left
  · show Act.put _ (some 12) _ = _
    simp only [Act.put, List.setIfInBounds_toArray, List.set_cons_zero, List.set_cons_succ, i64_w, i32_w]
    rfl
  refine pure_ (i := 5) (N := some 13) (v := ?_) (a' := ?_) #[true, true, true, true, true, true] rfl rfl (by kernel_rfl) (fun _ _ _ h => h) (Or.inl ⟨by rfl, ?_⟩) ?_ ?_
  rotate_left
  · intro w'
    go_simp
    with_reducible rfl
  rotate_left
  · simp only [Act.put, List.setIfInBounds_toArray, List.set_cons_zero, List.set_cons_succ, i64_w, i32_w]
    rfl
  refine done_ (by kernel_rfl) ?_

  obtain ⟨s0, s1, s2, s3, s4⟩ := hHeld
  clear t0 t1 t2 t3 HX HB HT HBe0
  go_wp2_with fail
  refine (new_yes tr tc (tr * tc) _ HTi.out.good (by rw [Int.natCast_mul]) (by have := HTi.out.small; omega) s4.out.2.2.2).mono ?_
  rintro e w2 ⟨q, h, rfl, hn, hbe, hq, hh⟩
  have HP := Aside0.mk (Pst.mk (s4.out.2.1.below hbe) (s4.out.2.2.1.below hbe) hn (below_step s4.out.1 hbe) (Nat.le_trans s4.out.1.size hq) (Nat.le_trans s4.out.1.size hh) HOld.out)
  clear hn hbe hq hh s0 s1 s2 s3 s4
  have t0 := HP.out.box.cell 0
  go_wp2
  clear t0
  go_loopw [20] (fun v20 wr => ∃ (i : Nat) (zs : List Int), v20 = .int .i64 i ∧ i ≤ tr ∧ Aside0 (Pst w wr w.heap.size p g q h R C tr tc r0 c0 xs zs) ∧ Aside0 (Got xs zs C tc r0 c0 i)) (fun v20 _ => tr - (intOf v20).toNat)
  case atStart => exact ⟨0, _, rfl, Nat.zero_le _, HP, ⟨fun a b ha => by omega⟩⟩
  case round =>
    clear HP
    obtain ⟨i, zs, rfl, hi, HP, HG⟩ := hrel
    by_cases h1 : i < tr
    · obtain ⟨at_, ha⟩ : ∃ at_, (r0 + i) * C + c0 = at_ := ⟨_, rfl⟩
      obtain ⟨u, hu⟩ : ∃ u, i * tc = u := ⟨_, rfl⟩
      have hzl := HTi.out.zlen HP.out.new
      have hin := HTi.out.in_ h1
      have hat := HTi.out.at_ h1
      have hps := HTi.out.pos
      have hpt : ((xs.drop at_).take tc).length = tc := len_part (by omega)
      have q1 : (0 : Int) ≤ (u : Int) := by omega
      have q2 : (u : Int) < (zs.length : Int) := by omega
      have q3 : (u : Int) ≤ (zs.length : Int) := by omega
      have q4 : ¬ zs.length = u := by omega
      have d1 : decide ((i : Int) < (tr : Int)) = true := decide_eq_true (by omega)
      have d1' : decide (i < tr) = true := decide_eq_true h1
      have F1 : Aside0 (((xs.drop at_).take tc).length = Nat.min tc (zs.length - u)) := ⟨by rw [hpt]; show tc = min tc _; omega⟩
      have F2 : Aside0 (u + ((xs.drop at_).take tc).length ≤ zs.length) := ⟨by omega⟩
      have HG2 := Aside0.mk (HG.out.next HTi.out hzl h1 ha hu)
      have hmu := HTi.out.mul_ h1 hu
      have HI := Aside0.mk h1
      have HA := Aside0.mk ha
      have F3 : Aside0 (at_ + ((xs.drop at_).take tc).length ≤ xs.length) := ⟨by rw [hpt]; omega⟩
      clear h1 hzl hin hat hps hpt ha hu HG
      go_wp2_with fail
      refine start_ (n := 18) (S := fun w' => w'.cell? ⟨w.heap.size, 0, none⟩ = some (.int .i64 (tr : Int)) ∧ w'.cell? ⟨w.heap.size, 1, none⟩ = some (.int .i64 (tc : Int)) ∧ w'.cell? ⟨w.heap.size, 2, none⟩ = some (.int .i64 (r0 : Int)) ∧ w'.cell? ⟨w.heap.size, 3, none⟩ = some (.int .i64 (c0 : Int)) ∧ w'.cell? ⟨q, 2, none⟩ = some (.slice (some ⟨h, 0, none⟩) zs.length zs.length) ∧ Aside0 (Pst w w' w.heap.size p g q h R C tr tc r0 c0 xs zs)) (ds := [17]) #[false, false, false, false, false, false, false, false, false, false, false, false, false, false, false, false, false, false] (by kernel_rfl) rfl rfl ⟨HP.out.box.cell 0, HP.out.box.cell 1, HP.out.box.cell 2, HP.out.box.cell 3, HP.out.new.c2, ⟨HP.out.below (below_drew1 (Below.refl _ _))⟩⟩ (fun hHeld => ?_)
      refine pure_ (i := 0) (N := some 23) (v := ?_) (a' := ?_) #[true, false, false, false, false, false, false, false, false, false, false, false, false, false, false, false, false, false] rfl rfl (by kernel_rfl) (fun _ _ _ h => h) (Or.inl ⟨by rfl, ?_⟩) ?_ ?_
      rotate_left
      · intro w'
        go_simp
        with_reducible rfl
      rotate_left
      · simp only [Act.put, List.setIfInBounds_toArray, List.set_cons_zero, List.set_cons_succ, i64_w, i32_w]
        rfl
      refine pure_ (i := 1) (N := some 24) (v := ?_) (a' := ?_) #[true, true, false, false, false, false, false, false, false, false, false, false, false, false, false, false, false, false] rfl rfl (by kernel_rfl) (fun _ _ _ h => h) (Or.inl ⟨by rfl, ?_⟩) ?_ ?_
      rotate_left
      · intro w'
        go_simp
        with_reducible rfl
      rotate_left
      · simp only [Act.put, List.setIfInBounds_toArray, List.set_cons_zero, List.set_cons_succ, i64_w, i32_w]
        rfl
      refine pure_ (i := 2) (N := some 25) (v := ?_) (a' := ?_) #[true, true, true, false, false, false, false, false, false, false, false, false, false, false, false, false, false, false] rfl rfl (by kernel_rfl) (fun _ _ _ h => h) (Or.inl ⟨by rfl, ?_⟩) ?_ ?_
      rotate_left
      · intro w'
        go_simp
        with_reducible rfl
      rotate_left
      · simp only [Act.put, List.setIfInBounds_toArray, List.set_cons_zero, List.set_cons_succ, i64_w, i32_w]
        rfl
      refine pure_ (i := 3) (N := some 26) (v := ?_) (a' := ?_) #[true, true, true, true, false, false, false, false, false, false, false, false, false, false, false, false, false, false] rfl rfl (by kernel_rfl) (fun _ _ _ h => h) (Or.inl ⟨by rfl, ?_⟩) ?_ ?_
      rotate_left
      · intro w'
        go_simp
        with_reducible rfl
      rotate_left
      · simp only [Act.put, List.setIfInBounds_toArray, List.set_cons_zero, List.set_cons_succ, i64_w, i32_w]
        rfl
      refine pure_ (i := 5) (N := some 28) (v := ?_) (a' := ?_) #[true, true, true, true, false, true, false, false, false, false, false, false, false, false, false, false, false, false] rfl rfl (by kernel_rfl) (fun _ _ _ h => h) (Or.inl ⟨by rfl, ?_⟩) ?_ ?_
      rotate_left
      · intro w'
        go_simp
        with_reducible rfl
      rotate_left
      · simp only [Act.put, List.setIfInBounds_toArray, List.set_cons_zero, List.set_cons_succ, i64_w, i32_w]
        rfl
      refine pure_ (i := 6) (N := some 29) (v := ?_) (a' := ?_) #[true, true, true, true, false, true, true, false, false, false, false, false, false, false, false, false, false, false] rfl rfl (by kernel_rfl) (fun _ _ _ h => h) (Or.inl ⟨by rfl, ?_⟩) ?_ ?_
      rotate_left
      · intro w'
        go_simp
        with_reducible rfl
      rotate_left
      · simp only [Act.put, List.setIfInBounds_toArray, List.set_cons_zero, List.set_cons_succ, i64_w, i32_w]
        rfl
      refine pure_ (i := 7) (N := some 30) (v := ?_) (a' := ?_) #[true, true, true, true, false, true, true, true, false, false, false, false, false, false, false, false, false, false] rfl rfl (by kernel_rfl) (fun _ _ _ h => h) (Or.inl ⟨by rfl, ?_⟩) ?_ ?_
      rotate_left
      · intro w'
        go_simp
        with_reducible rfl
      rotate_left
      · simp only [Act.put, List.setIfInBounds_toArray, List.set_cons_zero, List.set_cons_succ, i64_w, i32_w]
        rfl
      refine pure_ (i := 11) (N := some 34) (v := ?_) (a' := ?_) #[true, true, true, true, false, true, true, true, false, false, false, true, false, false, false, false, false, false] rfl rfl (by kernel_rfl) (fun _ _ _ h => h) (Or.inl ⟨by rfl, ?_⟩) ?_ ?_
      rotate_left
      · intro w'
        go_simp
        with_reducible rfl
      rotate_left
      · simp only [Act.put, List.setIfInBounds_toArray, List.set_cons_zero, List.set_cons_succ, i64_w, i32_w]
        rfl
      refine pure_ (i := 12) (N := some 35) (v := ?_) (a' := ?_) #[true, true, true, true, false, true, true, true, false, false, false, true, true, false, false, false, false, false] rfl rfl (by kernel_rfl) (fun _ _ _ h => h) (Or.inl ⟨by rfl, ?_⟩) ?_ ?_
      rotate_left
      · intro w'
        go_simp
        with_reducible rfl
      rotate_left
      · simp only [Act.put, List.setIfInBounds_toArray, List.set_cons_zero, List.set_cons_succ, i64_w, i32_w]
        rfl
      refine pure_ (i := 13) (N := some 36) (v := ?_) (a' := ?_) #[true, true, true, true, false, true, true, true, false, false, false, true, true, true, false, false, false, false] rfl rfl (by kernel_rfl) (fun _ _ _ h => h) (Or.inl ⟨by rfl, ?_⟩) ?_ ?_
      rotate_left
      · intro w'
        go_simp
        with_reducible rfl
      rotate_left
      · simp only [Act.put, List.setIfInBounds_toArray, List.set_cons_zero, List.set_cons_succ, i64_w, i32_w]
        rfl
      refine pure_ (i := 15) (N := some 38) (v := ?_) (a' := ?_) #[true, true, true, true, false, true, true, true, false, false, false, true, true, true, false, true, false, false] rfl rfl (by kernel_rfl) (fun _ _ _ h => h) (Or.inl ⟨by rfl, ?_⟩) ?_ ?_
      rotate_left
      · intro w'
        go_simp
        with_reducible rfl
      rotate_left
      · simp only [Act.put, List.setIfInBounds_toArray, List.set_cons_zero, List.set_cons_succ, i64_w, i32_w]
        rfl
      refine take_ (i := 4) (N := some 27) (v := ?_) (a' := ?_) #[true, true, true, true, true, true, true, true, false, false, false, true, true, true, false, true, false, false] rfl rfl (by kernel_rfl) (fun _ _ _ h => h) (Or.inl ⟨by rfl, ?_⟩) hHeld ?_ ?_
      rotate_left
      · rintro w' ⟨s0, s1, s2, s3, s4, s5⟩
        go_simp
        with_reducible rfl
      rotate_left
      · simp only [Act.put, List.setIfInBounds_toArray, List.set_cons_zero, List.set_cons_succ, i64_w, i32_w]
        rfl
      refine take_ (i := 8) (N := some 31) (v := ?_) (a' := ?_) #[true, true, true, true, true, true, true, true, true, false, false, true, true, true, false, true, false, false] rfl rfl (by kernel_rfl) (fun _ _ _ h => h) (Or.inl ⟨by rfl, ?_⟩) hHeld ?_ ?_
      rotate_left
      · rintro w' ⟨s0, s1, s2, s3, s4, s5⟩
        go_simp
        with_reducible rfl
      rotate_left
      · simp only [Act.put, List.setIfInBounds_toArray, List.set_cons_zero, List.set_cons_succ, i64_w, i32_w]
        rfl
      refine pure_ (i := 9) (N := some 32) (v := ?_) (a' := ?_) #[true, true, true, true, true, true, true, true, true, true, false, true, true, true, false, true, false, false] rfl rfl (by kernel_rfl) (fun _ _ _ h => h) (Or.inl ⟨by rfl, ?_⟩) ?_ ?_
      rotate_left
      · intro w'
        go_simp
        with_reducible rfl
      rotate_left
      · simp only [Act.put, List.setIfInBounds_toArray, List.set_cons_zero, List.set_cons_succ, i64_w, i32_w]
        rfl
      refine pure_ (i := 10) (N := some 33) (v := ?_) (a' := ?_) #[true, true, true, true, true, true, true, true, true, true, true, true, true, true, false, true, false, false] rfl rfl (by kernel_rfl) (fun _ _ _ h => h) (Or.inl ⟨by rfl, ?_⟩) ?_ ?_
      rotate_left
      · intro w'
        go_simp
        with_reducible rfl
      rotate_left
      · simp only [Act.put, List.setIfInBounds_toArray, List.set_cons_zero, List.set_cons_succ, i64_w, i32_w]
        rfl
      refine take_ (i := 14) (N := some 37) (v := ?_) (a' := ?_) #[true, true, true, true, true, true, true, true, true, true, true, true, true, true, true, true, false, false] rfl rfl (by kernel_rfl) (fun _ _ _ h => h) (Or.inl ⟨by rfl, ?_⟩) hHeld ?_ ?_
      rotate_left
      · rintro w' ⟨s0, s1, s2, s3, s4, s5⟩
        go_simp
        with_reducible rfl
      rotate_left
      · simp only [Act.put, List.setIfInBounds_toArray, List.set_cons_zero, List.set_cons_succ, i64_w, i32_w]
        rfl
      refine one_ (i := 16) (N := some 39) #[true, true, true, true, true, true, true, true, true, true, true, true, true, true, true, true, true, false] rfl rfl (by kernel_rfl) (by decide) (fun K hK => ?_)
      refine goes_ Tryd.func63 (by kernel_rfl) rfl #[.pointer (some ⟨p, 0, none⟩), .agg #[.int .i64 tr, .int .i64 tc, .int .i64 r0, .int .i64 c0], .int .i64 i] (by rfl) rfl rfl (by simp only [List.map_toArray, List.map_cons, List.map_nil]; rfl) ?_
      with_reducible refine (row_ p g R C tr tc r0 c0 i at_ xs _ hHeld.2.2.2.2.2.out.blk HTi.out HI.out HA.out).mono ?_
      rintro e w3 ⟨rfl, hb⟩
      refine ⟨_, rfl, ?_⟩
      have nP := hHeld.2.2.2.2.2.out.below hb
      clear hHeld hb
      refine hK.out _ _ ⟨nP.box.cell 0, nP.box.cell 1, nP.box.cell 2, nP.box.cell 3, nP.new.c2, ⟨nP⟩⟩ (fun hHeld => ?_)
      clear hK K
      refine norm_ (a' := ?_) ?_ ?_
      rotate_left
      · show Act.put _ (some 39) _ = _
        simp only [Act.put, List.setIfInBounds_toArray, List.set_cons_zero, List.set_cons_succ, i64_w, i32_w]
        rfl
      refine last_ (i := 17) (N := some 40) #[true, true, true, true, true, true, true, true, true, true, true, true, true, true, true, true, true, true] rfl rfl (by kernel_rfl) (by decide) (fun K hK => ?_)
      refine copy_step (by rfl) rfl (.tmp 33) (.tmp 39) 47 47 rfl Tryd.underlying47 size66 h u (zs.length - u) (zs.length - u) ⟨g, at_, none⟩ tc (xs.length - at_) rfl rfl zs ((xs.drop at_).take tc) hHeld.2.2.2.2.2.out.new.row F1.out ?hsrc F2.out ?_
      case hsrc =>
        intro j hj
        have hj2 := F3.out
        have hj3 : j < tc := Nat.lt_of_lt_of_le hj (List.length_take_le _ _)
        rw [getD_part hj3]
        rw [add_at]
        exact hHeld.2.2.2.2.2.out.blk.cell (at_ + j) (by omega)
      intro w4 hr hf hsz
      have HP2 := Aside0.mk (hHeld.2.2.2.2.2.out.copied hr (splice_len F2.out) hf)
      clear hHeld hr hf hsz
      refine hK.out _ _ ?_
      clear hK K
      refine norm_ (a' := ?_) ?_ ?_
      rotate_left
      · show Act.put _ (some 40) _ = _
        simp only [Act.put, List.setIfInBounds_toArray, List.set_cons_zero, List.set_cons_succ, i64_w, i32_w]
        rfl
      refine done_ (by kernel_rfl) ?_

      clear hmu q1 q2 q3 q4
      have hT1 : tr ≤ 1048576 := by have := HTi.out.r; have := HTi.out.small; omega
      go_wp2
      go_roundw
      case rel => exact ⟨i + 1, _, by go_num, HI.out, HP2, HG2⟩
      case measure =>
        have := HI.out
        simp [intOf]; omega
    · obtain rfl : i = tr := by omega
      have d1 : decide ((i : Int) < (i : Int)) = false := by simp
      go_wp2
      refine bodyPost_ret (v := .tuple #[.pointer (some ⟨q, 0, none⟩), .int .i64 0]) (by simp [results, Tryd.results44, go_sem]) rfl ?_
      exact ⟨q, h, zs, rfl, HP.out.new, HG.out, HP.out.be, HP.out.hq, HP.out.hh⟩
end Go.Proofs.YthppiphldaopnaaDoor.Obj
