import Derived.Test.YthppiphldaopnaaDoorBlockJ
import Derived.Test.YthppiphldaopnaaDoorBlockF
/-! Blocks: the law of parts. -/
namespace Go.Proofs.YthppiphldaopnaaDoor.Obj
open Go.RowKit Go.Proofs.YthppiphldaopnaaDoor Go.Proofs.YthppiphldaopnaaDoor.Ext Go.Proofs.YthppiphldaopnaaDoor.PShape Go.Proofs.YthppiphldaopnaaDoor.PBlk Go.Proofs.YthppiphldaopnaaDoor.Pure Go.Proofs.YthppiphldaopnaaDoorW.PrintWords Go.Proofs.YthppiphldaopnaaDoorW.PrintLast Go.Proofs.YthppiphldaopnaaDoorW.PrintMore
set_option linter.unusedVariables false
set_option linter.unusedSimpArgs false
set_option maxRecDepth 100000
attribute [local go_sem high] eqA26

theorem inside_yes {R C tr tc r0 c0 : Int} (hg : GoodS R C) (h : Lies R C tr tc r0 c0) : Ev (fun k => abacistlaw12_inside.f k R C tr tc r0 c0) true := by
  obtain ⟨h1, h2, h3, h4, h5, h6, h7⟩ := h
  have q1 := good_pos hg
  have q2 := good_pos h1
  have e1 : wrap64 (R - tr) = R - tr := by unfold wrap64; omega
  have e2 : wrap64 (C - tc) = C - tc := by unfold wrap64; omega
  unfold abacistlaw12_inside.f
  refine Ev.bind (rgood_yes tr tc h1) ?_
  refine Ev_if rfl (Ev_if h2 (Ev_if h3 (Ev_if h4 (Ev_if h5 (Ev_if ?_ (Ev_eq ?_))))))
  · rw [e1]; exact h6
  · rw [e2, decide_eq_true h7]
theorem inside_no {R C tr tc r0 c0 : Int} (hg : GoodS R C) (h : ¬ Lies R C tr tc r0 c0) : Ev (fun k => abacistlaw12_inside.f k R C tr tc r0 c0) false := by
  unfold abacistlaw12_inside.f
  by_cases h1 : GoodS tr tc
  · have q1 := good_pos hg
    have q2 := good_pos h1
    have e1 : wrap64 (R - tr) = R - tr := by unfold wrap64; omega
    have e2 : wrap64 (C - tc) = C - tc := by unfold wrap64; omega
    refine Ev.bind (rgood_yes tr tc h1) (Ev_if rfl ?_)
    by_cases h2 : 0 ≤ r0
    · refine Ev_if h2 ?_
      by_cases h3 : 0 ≤ c0
      · refine Ev_if h3 ?_
        by_cases h4 : tr ≤ R
        · refine Ev_if h4 ?_
          by_cases h5 : tc ≤ C
          · refine Ev_if h5 ?_
            by_cases h6 : r0 ≤ R - tr
            · refine Ev_if (by rw [e1]; exact h6) (Ev_eq ?_)
              rw [e2, decide_eq_false (fun h7 => h ⟨h1, h2, h3, h4, h5, h6, h7⟩)]
            · exact Ev_ifn (by rw [e1]; exact h6) (Ev_eq rfl)
          · exact Ev_ifn h5 (Ev_eq rfl)
        · exact Ev_ifn h4 (Ev_eq rfl)
      · exact Ev_ifn h3 (Ev_eq rfl)
    · exact Ev_ifn h2 (Ev_eq rfl)
  · exact Ev.bind (rgood_no tr tc h1) (Ev_ifn (by decide) (Ev_eq rfl))
theorem below_drawn2 (w : World) : Below w.heap.size w w.drew.drew := below_drew1 (below_drew1 (Below.refl _ _))
structure Q4 (w0 w : World) (t u p g q h : Nat) (R C tr tc r0 c0 : Nat) (l zs : List Int) : Prop where
  blk : Blo w p g R C l
  prt : Blo w q h tr tc zs
  box : Bk w t 26 [.int .i64 R, .int .i64 C]
  til : Bk w u 38 [.int .i64 tr, .int .i64 tc, .int .i64 r0, .int .i64 c0]
  be : Below w0.heap.size w0 w
  new : w0.heap.size ≤ p ∧ w0.heap.size ≤ g ∧ w0.heap.size ≤ q ∧ w0.heap.size ≤ h
  ne : p ≠ q ∧ g ≠ h
section
variable {w0 w w' : World} {t u p g q h R C tr tc r0 c0 : Nat} {l l' zs zs' : List Int}
theorem Q4.below (k : Q4 w0 w t u p g q h R C tr tc r0 c0 l zs) (hb : Below w.heap.size w w') : Q4 w0 w' t u p g q h R C tr tc r0 c0 l zs :=
  ⟨k.blk.below hb, k.prt.below hb, k.box.below hb, k.til.below hb, below_then k.be k.be.size hb, k.new, k.ne⟩
theorem Q4.drew (k : Q4 w0 w t u p g q h R C tr tc r0 c0 l zs) : Q4 w0 w.drew t u p g q h R C tr tc r0 c0 l zs := k.below (below_drew1 (Below.refl _ _))
theorem Q4.put (k : Q4 w0 w t u p g q h R C tr tc r0 c0 l zs) (hb : Blo w' q h tr tc zs') (hf : Fr w w' [h]) : Q4 w0 w' t u p g q h R C tr tc r0 c0 l zs' :=
  ⟨k.blk.fr hf (by simpa using k.blk.obj.ne k.prt.row (by decide)) (by simpa using k.ne.2), hb, k.box.fr hf (by simpa using k.box.ne k.prt.row (by decide)), k.til.fr hf (by simpa using k.til.ne k.prt.row (by decide)),
    k.be.trans (hf.below k.be.size (fun j hj => by simp at hj; have := k.new; omega)), k.new, k.ne⟩
theorem Q4.lay (k : Q4 w0 w t u p g q h R C tr tc r0 c0 l zs) (hb : Blo w' p g R C l') (hf : Fr w w' [g]) : Q4 w0 w' t u p g q h R C tr tc r0 c0 l' zs :=
  ⟨hb, k.prt.fr hf (by simpa using k.prt.obj.ne k.blk.row (by decide)) (by simpa using k.ne.2.symm), k.box.fr hf (by simpa using k.box.ne k.blk.row (by decide)), k.til.fr hf (by simpa using k.til.ne k.blk.row (by decide)),
    k.be.trans (hf.below k.be.size (fun j hj => by simp at hj; have := k.new; omega)), k.new, k.ne⟩
end
/-- The words of a part, written as far as place m. -/
def Mix (l zs : List Int) (C tr tc r0 c0 : Nat) (x : Int) (m : Nat) : Prop := ∀ a b, a < tr → b < tc → zs.getD (a * tc + b) 0 = if a * tc + b < m then x else l.getD ((r0 + a) * C + c0 + b) 0
theorem Mix.start {l zs : List Int} {C tr tc r0 c0 : Nat} {x : Int} (h : Got l zs C tc r0 c0 tr) : Mix l zs C tr tc r0 c0 x 0 := fun a b ha hb => by rw [if_neg (by omega)]; exact h a b ha hb
theorem Mix.next {l zs : List Int} {C tr tc r0 c0 : Nat} {x : Int} {m : Nat} (h : Mix l zs C tr tc r0 c0 x m) (hm : m < zs.length) : Mix l (zs.set m x) C tr tc r0 c0 x (m + 1) := by
  intro a b ha hb
  by_cases e : a * tc + b = m
  · rw [e, if_pos (by omega)]
    simp [List.getD, hm]
  · have h1 : (zs.set m x).getD (a * tc + b) 0 = zs.getD (a * tc + b) 0 := by simp [List.getD, List.getElem?_set, Ne.symm e]
    rw [h1, h a b ha hb]
    by_cases h2 : a * tc + b < m
    · rw [if_pos h2, if_pos (by omega)]
    · rw [if_neg h2, if_neg (by omega)]
theorem Til.nums2 {R C tr tc r0 c0 n i j : Nat} (ht : Til R C tr tc r0 c0 n) (hi : i < tr) (hj : j < tc) :
    ∃ z y y2 k m : Nat, (r0 + i) * C + c0 + j = k ∧ i * tc + j = m ∧ k < n ∧ m < tr * tc ∧ (i : Int) * (tc : Int) + (j : Int) = (m : Int) ∧
      wrap64 ((r0 : Int) + (i : Int)) = (z : Int) ∧ wrap64 ((z : Int) * (C : Int)) = (y : Int) ∧ wrap64 ((y : Int) + (c0 : Int)) = (y2 : Int) ∧ wrap64 ((y2 : Int) + (j : Int)) = (k : Int) := by
  have hA := ht.at_ hi
  have hB := ht.in_ hi
  have hs := ht.small
  have hx := ht.max
  have hr1 := ht.r
  have hm : (r0 + i) * C ≤ 1048576 := by omega
  exact ⟨r0 + i, (r0 + i) * C, (r0 + i) * C + c0, (r0 + i) * C + c0 + j, i * tc + j, rfl, rfl, by omega, by omega, by rw [Int.natCast_add, Int.natCast_mul], wsum r0 i (by omega), wmul (r0 + i) C (by omega), wsum _ _ (by omega), wsum _ _ (by omega)⟩
theorem Til.k_ {R C tr tc r0 c0 n k : Nat} (ht : Til R C tr tc r0 c0 n) (hk : k < n) : ∃ a b : Nat, k = a * C + b ∧ b < C ∧ (k : Int) / (C : Int) = (a : Int) ∧ (k : Int) % (C : Int) = (b : Int) ∧ a ≤ 1048576 ∧ b ≤ 1048576 ∧ wrap64 ((k : Int) / (C : Int)) = (a : Int) := by
  have hC : 0 < C := by have := ht.c; have := ht.pos; omega
  have h1 : k / C ≤ k := Nat.div_le_self _ _
  have h2 : k % C < C := Nat.mod_lt _ hC
  have h3 : k % C ≤ k := Nat.mod_le _ _
  have h4 := ht.max
  have e : (k : Int) / (C : Int) = ((k / C : Nat) : Int) := by rw [Int.natCast_ediv]
  refine ⟨k / C, k % C, by rw [Nat.mul_comm]; exact (Nat.div_add_mod k C).symm, h2, e, by rw [Int.natCast_emod], by omega, by omega, ?_⟩
  rw [e]
  generalize k / C = z at *
  unfold wrap64
  omega
/-- What a block holds when a part was laid into it whose words are all x. -/
theorem Laid.in_x {R C tr tc r0 c0 : Nat} {l zs ys : List Int} {x : Int} (h : Laid l zs ys C tc r0 c0 tr) (hm : Mix l zs C tr tc r0 c0 x (tr * tc)) (ht : Til R C tr tc r0 c0 l.length) {k a b : Nat} (hk : k = a * C + b) (h1 : r0 ≤ a) (h2 : a < r0 + tr) (h3 : c0 ≤ b) (h4 : b < c0 + tc) : ys.getD k 0 = x := by
  obtain ⟨i, rfl⟩ : ∃ i, a = r0 + i := ⟨a - r0, by omega⟩
  obtain ⟨j, rfl⟩ : ∃ j, b = c0 + j := ⟨b - c0, by omega⟩
  have h5 := h.in_ i j (by omega) (by omega)
  have h6 := hm i j (by omega) (by omega)
  have h7 := ht.in_ (i := i) (by omega)
  rw [if_pos (by omega)] at h6
  rw [hk, ← Nat.add_assoc, h5, h6]
theorem Laid.out_l {R C tr tc r0 c0 : Nat} {l zs ys : List Int} (h : Laid l zs ys C tc r0 c0 tr) (ht : Til R C tr tc r0 c0 l.length) {k a b : Nat} (hk : k = a * C + b) (hb : b < C) (hn : ¬ (r0 ≤ a ∧ a < r0 + tr ∧ c0 ≤ b ∧ b < c0 + tc)) : ys.getD k 0 = l.getD k 0 := by
  refine h.out k fun i j hi hj e => hn ?_
  have hc := ht.c
  have e2 : a * C + b = (r0 + i) * C + (c0 + j) := by omega
  have e3 := place_inj hb (show c0 + j < C by omega) e2
  omega
theorem Mix.line {l zs : List Int} {C tr tc r0 c0 i : Nat} {x : Int} (h : Mix l zs C tr tc r0 c0 x (i * tc + tc)) : Mix l zs C tr tc r0 c0 x ((i + 1) * tc) := by rwa [Nat.add_mul, Nat.one_mul]
set_option maxHeartbeats 8000000 in
theorem parts_in (R C tr tc r0 c0 : Nat) (A : Option Addr) (n : Nat) (l : List Int) (x : Int) (w : World) (hg : GoodS R C) (hn : R * C = l.length) (hm : l.length ≤ 256) (hl : In w A n l) (ht : Til R C tr tc r0 c0 l.length) (hT : TabOK w) :
    Calls Tryd.prog 12 #[.agg #[.int .i64 R, .int .i64 C], .slice A l.length n, .agg #[.int .i64 tr, .int .i64 tc, .int .i64 r0, .int .i64 c0], .int .u64 x] w fun e w' => e = .returned (.bool true) ∧ Below w.heap.size w w' := by
  have hpos : 0 < l.length := by have := ht.len; have := ht.r; have := ht.c; have := ht.pos; have : 1 * 1 ≤ R * C := Nat.mul_le_mul (by omega) (by omega); omega
  obtain ⟨ad, rfl, _⟩ := C_at hl.r 0 hpos
  obtain ⟨k1, h1⟩ := (same_ l l (by omega)).rounds
  rw [decide_eq_true rfl] at h1
  have hli : Lies R C tr tc r0 c0 := ⟨ht.good, by omega, by omega, by have := ht.r; omega, by have := ht.c; omega, by have := ht.r; omega, by have := ht.c; omega⟩
  obtain ⟨k2, h2⟩ := (inside_yes hg hli).rounds
  have hbe0 := below_alloc (below_alloc (Below.refl w.heap.size w) (Obj.cells #[.int .i64 (R : Int), .int .i64 (C : Int)] 26)) (Obj.cells #[.int .i64 (tr : Int), .int .i64 (tc : Int), .int .i64 (r0 : Int), .int .i64 (c0 : Int)] 38)
  have K1 := Aside0.mk h1
  have K2 := Aside0.mk h2
  have HLi := Aside0.mk hli
  have HG := Aside0.mk hg
  have HN := Aside0.mk hn
  have HL := Aside0.mk hl
  have HT := Aside0.mk hT
  have HTi := Aside0.mk ht
  have HM := Aside0.mk hm
  have HBe0 := Aside0.mk hbe0
  have HX0 := Aside0.mk ((Bk.new w 26 [.int .i64 R, .int .i64 C]).alloc (Obj.cells #[.int .i64 (tr : Int), .int .i64 (tc : Int), .int .i64 (r0 : Int), .int .i64 (c0 : Int)] 38))
  have HU0 : Aside0 (Bk ((w.alloc (Obj.cells #[.int .i64 (R : Int), .int .i64 (C : Int)] 26)).alloc (Obj.cells #[.int .i64 (tr : Int), .int .i64 (tc : Int), .int .i64 (r0 : Int), .int .i64 (c0 : Int)] 38)) (w.heap.size + 1) 38 [.int .i64 tr, .int .i64 tc, .int .i64 r0, .int .i64 c0]) := ⟨by
    have := Bk.new (w.alloc (Obj.cells #[.int .i64 (R : Int), .int .i64 (C : Int)] 26)) 38 [.int .i64 tr, .int .i64 tc, .int .i64 r0, .int .i64 c0]
    simpa using this⟩
  clear h1 h2 hli hg hn hl hT ht hm hbe0
  go_enter Tryd.func12, Tryd.ntmps12
  go_wp2_with fail
  refine (bawake_ _ (TabOK.below HT.out HBe0.out)).mono ?_
  rintro e w1 ⟨rfl, hb⟩
  have HB1 := Aside0.mk (below_then HBe0.out HBe0.out.size hb)
  have HX1 := Aside0.mk (HX0.out.below hb)
  have HU1 := Aside0.mk (HU0.out.below hb)
  clear hb HBe0 HX0 HU0
  have c0' := HX1.out.cell 0
  have c1' := HX1.out.cell 1
  go_wp2_with fail
  refine (made_yes R C (some ad) n l _ HG.out (by rw [← Int.natCast_mul, HN.out]) HM.out (HL.out.below HB1.out) (TabOK.below HT.out HB1.out)).mono ?_
  rintro e w2 ⟨p, g, rfl, hb, hbe, hp, hg⟩
  have HB2 := Aside0.mk (below_then HB1.out HB1.out.size hbe)
  have HX2 := Aside0.mk (HX1.out.below hbe)
  have HU2 := Aside0.mk (HU1.out.below hbe)
  have HP2 := Aside0.mk hb
  have HN2 : Aside0 (w.heap.size ≤ p ∧ w.heap.size ≤ g) := ⟨Nat.le_trans HB1.out.size hp, Nat.le_trans HB1.out.size hg⟩
  clear hb hbe hp hg HB1 HX1 HU1 c0' c1'
  have t0 := HU2.out.cell 0
  have t1 := HU2.out.cell 1
  have t2 := HU2.out.cell 2
  have t3 := HU2.out.cell 3
  go_wp2_with fail
  refine (part_yes p g R C tr tc r0 c0 l _ HP2.out HTi.out (TabOK.below HT.out HB2.out)).mono ?_
  rintro e w3 ⟨q, h, zs, rfl, hb, hgot, hbe, hq, hh⟩
  have HQ := Aside0.mk (Q4.mk (HP2.out.below hbe) hb (HX2.out.below hbe) (HU2.out.below hbe) (below_then HB2.out HB2.out.size hbe) ⟨HN2.out.1, HN2.out.2, Nat.le_trans HB2.out.size hq, Nat.le_trans HB2.out.size hh⟩ ⟨by have := HP2.out.obj.lt; omega, by have := HP2.out.row.lt; omega⟩)
  have HMx := Aside0.mk (Mix.start (x := x) hgot)
  clear hb hgot hbe hq hh HB2 HX2 HU2 HP2 HN2 t0 t1 t2 t3
  have c0' := HQ.out.box.cell 0
  have c1' := HQ.out.box.cell 1
  have t0 := HQ.out.til.cell 0
  have t1 := HQ.out.til.cell 1
  have t2 := HQ.out.til.cell 2
  have t3 := HQ.out.til.cell 3
  go_wp2_with fail
  refine (abacistlaw12_inside.calls k2 R C tr tc r0 c0 true _ K2.out).mono ?_
  rintro e w4 ⟨rfl, hb⟩
  have HQ2 := Aside0.mk (HQ.out.below hb)
  clear hb HQ t0 t1 t2 t3 c0' c1'
  go_wp2_with fail
  refine start_ (n := 13) (S := fun w' => w'.cell? ⟨w.heap.size + 1, 0, none⟩ = some (.int .i64 (tr : Int)) ∧ w'.cell? ⟨w.heap.size + 1, 1, none⟩ = some (.int .i64 (tc : Int)) ∧ Aside0 (Q4 w w' w.heap.size (w.heap.size + 1) p g q h R C tr tc r0 c0 l zs)) (ds := []) #[false, false, false, false, false, false, false, false, false, false, false, false, false] (by kernel_rfl) rfl rfl ⟨HQ2.out.drew.til.cell 0, HQ2.out.drew.til.cell 1, ⟨HQ2.out.drew⟩⟩ (fun hHeld => ?_)
  refine pure_ (i := 0) (N := some 49) (v := ?_) (a' := ?_) #[true, false, false, false, false, false, false, false, false, false, false, false, false] rfl rfl (by kernel_rfl) (fun _ _ _ h => h) (Or.inl ⟨by rfl, ?_⟩) ?_ ?_
  rotate_left
  · intro w'
    go_simp
    with_reducible rfl
  rotate_left
  · simp only [Act.put, List.setIfInBounds_toArray, List.set_cons_zero, List.set_cons_succ, i64_w, i32_w]
    rfl
  refine pure_ (i := 1) (N := some 50) (v := ?_) (a' := ?_) #[true, true, false, false, false, false, false, false, false, false, false, false, false] rfl rfl (by kernel_rfl) (fun _ _ _ h => h) (Or.inl ⟨by rfl, ?_⟩) ?_ ?_
  rotate_left
  · intro w'
    go_simp
    with_reducible rfl
  rotate_left
  · simp only [Act.put, List.setIfInBounds_toArray, List.set_cons_zero, List.set_cons_succ, i64_w, i32_w]
    rfl
  refine pure_ (i := 2) (N := some 51) (v := ?_) (a' := ?_) #[true, true, true, false, false, false, false, false, false, false, false, false, false] rfl rfl (by kernel_rfl) (fun _ _ _ h => h) (Or.inl ⟨by rfl, ?_⟩) ?_ ?_
  rotate_left
  · intro w'
    go_simp
    with_reducible rfl
  rotate_left
  · simp only [Act.put, List.setIfInBounds_toArray, List.set_cons_zero, List.set_cons_succ, i64_w, i32_w]
    rfl
  refine pure_ (i := 3) (N := some 52) (v := ?_) (a' := ?_) #[true, true, true, true, false, false, false, false, false, false, false, false, false] rfl rfl (by kernel_rfl) (fun _ _ _ h => h) (Or.inl ⟨by rfl, ?_⟩) ?_ ?_
  rotate_left
  · intro w'
    go_simp
    with_reducible rfl
  rotate_left
  · simp only [Act.put, List.setIfInBounds_toArray, List.set_cons_zero, List.set_cons_succ, i64_w, i32_w]
    rfl
  refine pure_ (i := 4) (N := some 53) (v := ?_) (a' := ?_) #[true, true, true, true, true, false, false, false, false, false, false, false, false] rfl rfl (by kernel_rfl) (fun _ _ _ h => h) (Or.inl ⟨by rfl, ?_⟩) ?_ ?_
  rotate_left
  · intro w'
    go_simp
    with_reducible rfl
  rotate_left
  · simp only [Act.put, List.setIfInBounds_toArray, List.set_cons_zero, List.set_cons_succ, i64_w, i32_w]
    rfl
  refine pure_ (i := 5) (N := some 54) (v := ?_) (a' := ?_) #[true, true, true, true, true, true, false, false, false, false, false, false, false] rfl rfl (by kernel_rfl) (fun _ _ _ h => h) (Or.inl ⟨by rfl, ?_⟩) ?_ ?_
  rotate_left
  · intro w'
    go_simp
    with_reducible rfl
  rotate_left
  · simp only [Act.put, List.setIfInBounds_toArray, List.set_cons_zero, List.set_cons_succ, i64_w, i32_w]
    rfl
  refine pure_ (i := 6) (N := some 55) (v := ?_) (a' := ?_) #[true, true, true, true, true, true, true, false, false, false, false, false, false] rfl rfl (by kernel_rfl) (fun _ _ _ h => h) (Or.inl ⟨by rfl, ?_⟩) ?_ ?_
  rotate_left
  · intro w'
    go_simp
    with_reducible rfl
  rotate_left
  · simp only [Act.put, List.setIfInBounds_toArray, List.set_cons_zero, List.set_cons_succ, i64_w, i32_w]
    rfl
  refine pure_ (i := 7) (N := some 56) (v := ?_) (a' := ?_) #[true, true, true, true, true, true, true, true, false, false, false, false, false] rfl rfl (by kernel_rfl) (fun _ _ _ h => h) (Or.inl ⟨by rfl, ?_⟩) ?_ ?_
  rotate_left
  · intro w'
    go_simp
    with_reducible rfl
  rotate_left
  · simp only [Act.put, List.setIfInBounds_toArray, List.set_cons_zero, List.set_cons_succ, i64_w, i32_w]
    rfl
  refine pure_ (i := 9) (N := some 58) (v := ?_) (a' := ?_) #[true, true, true, true, true, true, true, true, false, true, false, false, false] rfl rfl (by kernel_rfl) (fun _ _ _ h => h) (Or.inl ⟨by rfl, ?_⟩) ?_ ?_
  rotate_left
  · intro w'
    go_simp
    with_reducible rfl
  rotate_left
  · simp only [Act.put, List.setIfInBounds_toArray, List.set_cons_zero, List.set_cons_succ, i64_w, i32_w]
    rfl
  refine take_ (i := 10) (N := some 59) (v := ?_) (a' := ?_) #[true, true, true, true, true, true, true, true, false, true, true, false, false] rfl rfl (by kernel_rfl) (fun _ _ _ h => h) (Or.inl ⟨by rfl, ?_⟩) hHeld ?_ ?_
  rotate_left
  · rintro w' ⟨s0, s1, s2⟩
    go_simp
    with_reducible rfl
  rotate_left
  · simp only [Act.put, List.setIfInBounds_toArray, List.set_cons_zero, List.set_cons_succ, i64_w, i32_w]
    rfl
  refine one_ (i := 8) (N := some 57) #[true, true, true, true, true, true, true, true, true, true, true, false, false] rfl rfl (by kernel_rfl) (by decide) (fun K hK => ?_)
  refine goes_ Tryd.func25 (by kernel_rfl) rfl #[.pointer (some ⟨q, 0, none⟩)] (by rfl) rfl rfl (by simp only [List.map_toArray, List.map_cons, List.map_nil]; rfl) ?_
  with_reducible refine (shape_ q h tr tc zs _ hHeld.2.2.out.prt).mono ?_
  rintro e w5 ⟨rfl, hb⟩
  refine ⟨_, rfl, ?_⟩
  have nS := hHeld.2.2.out.below hb
  clear hHeld hb
  refine hK.out _ _ ⟨nS.til.cell 0, nS.til.cell 1, ⟨nS⟩⟩ (fun hHeld => ?_)
  clear hK K
  refine norm_ (a' := ?_) ?_ ?_
  rotate_left
  · show Act.put _ (some 57) _ = _
    simp only [Act.put, List.setIfInBounds_toArray, List.set_cons_zero, List.set_cons_succ, i64_w, i32_w]
    rfl
  refine pure_ (i := 11) (N := some 60) (v := ?_) (a' := ?_) #[true, true, true, true, true, true, true, true, true, true, true, true, false] rfl rfl (by kernel_rfl) (fun _ _ _ h => h) (Or.inl ⟨by rfl, ?_⟩) ?_ ?_
  rotate_left
  · intro w'
    go_simp
    with_reducible rfl
  rotate_left
  · simp only [Act.put, List.setIfInBounds_toArray, List.set_cons_zero, List.set_cons_succ, i64_w, i32_w]
    rfl
  refine pure_ (i := 12) (N := some 61) (v := ?_) (a' := ?_) #[true, true, true, true, true, true, true, true, true, true, true, true, true] rfl rfl (by kernel_rfl) (fun _ _ _ h => h) (Or.inl ⟨by rfl, ?_⟩) ?_ ?_
  rotate_left
  · intro w'
    go_simp
    with_reducible rfl
  rotate_left
  · simp only [Act.put, List.setIfInBounds_toArray, List.set_cons_zero, List.set_cons_succ, i64_w, i32_w]
    rfl
  refine done_ (by kernel_rfl) ?_

  have HQ3 := hHeld.2.2
  clear hHeld HQ2
  have t0 := HQ3.out.til.cell 0
  go_wp2
  clear t0
  have htr : tr ≤ 1048576 := by have := HTi.out.r; have := HTi.out.small; omega
  have htc : tc ≤ 1048576 := by have := HTi.out.c; have := HTi.out.small; omega
  go_loopw [12] (fun v12 wr => ∃ (i : Nat) (zs : List Int), v12 = .int .i64 i ∧ i ≤ tr ∧ Aside0 (Q4 w wr w.heap.size (w.heap.size + 1) p g q h R C tr tc r0 c0 l zs) ∧ Aside0 (Mix l zs C tr tc r0 c0 x (i * tc))) (fun v12 _ => tr - (intOf v12).toNat)
  case atStart => exact ⟨0, _, rfl, Nat.zero_le _, HQ3, ⟨by rw [Nat.zero_mul]; exact HMx.out⟩⟩
  case round =>
    clear HQ3 HMx
    obtain ⟨i, zs, rfl, hi, HQ, HMx⟩ := hrel
    by_cases h1 : i < tr
    · have d1 : decide ((i : Int) < (tr : Int)) = true := decide_eq_true (by omega)
      have d1' : decide (i < tr) = true := decide_eq_true h1
      have HI := Aside0.mk h1
      have t0 := HQ.out.til.cell 0
      clear h1
      go_wp2
      clear t0 d1 d1'
      go_loopw [13] (fun v13 wr => ∃ (j : Nat) (zs : List Int), v13 = .int .i64 j ∧ j ≤ tc ∧ Aside0 (Q4 w wr w.heap.size (w.heap.size + 1) p g q h R C tr tc r0 c0 l zs) ∧ Aside0 (Mix l zs C tr tc r0 c0 x (i * tc + j))) (fun v13 _ => tc - (intOf v13).toNat)
      case atStart => exact ⟨0, _, rfl, Nat.zero_le _, HQ, HMx⟩
      case round =>
        clear HQ HMx
        obtain ⟨j, zs, rfl, hj, HQ, HMx⟩ := hrel
        by_cases h2 : j < tc
        · have d1 : decide ((j : Int) < (tc : Int)) = true := decide_eq_true (by omega)
          have d1' : decide (j < tc) = true := decide_eq_true h2
          obtain ⟨z, y, y2, k, m, hk, hm, hkl, hml, hmI, e1, e2, e3, e4⟩ := HTi.out.nums2 HI.out h2
          have hzl := HTi.out.zlen HQ.out.prt
          have hv : zs.getD m 0 = l.getD k 0 := by
            have := HMx.out i j HI.out h2
            rwa [hm, if_neg (by omega), hk] at this
          have HMx2 := Aside0.mk ((show Mix l zs C tr tc r0 c0 x m from hm ▸ HMx.out).next (by omega))
          have HJ := Aside0.mk h2
          have HmI := Aside0.mk hmI
          have Hm := Aside0.mk hm
          have HV := Aside0.mk hv
          have HK := Aside0.mk hkl
          have q1 : (0 : Int) ≤ (k : Int) := by clear e1 e2 e3 e4; omega
          have q2 : (k : Int) < (l.length : Int) := by clear e1 e2 e3 e4; omega
          have t1 := HQ.out.til.cell 1
          clear h2 hk hm hml hmI hzl hv HMx hkl
          go_wp2_with fail
          refine (get_yes q h tr tc i j m zs _ HQ.out.prt ⟨by omega, by have := HI.out; omega⟩ ⟨by omega, by have := HJ.out; omega⟩ HmI.out (TabOK.below HT.out HQ.out.be)).mono ?_
          rintro e w6 ⟨rfl, hb⟩
          have HQ2 := Aside0.mk (HQ.out.below hb)
          rw [HV.out]
          have hcell := (HL.out.below HQ2.out.be).at_ad k HK.out
          clear hb HQ t1
          generalize l.getD k 0 = v at *
          have t1 := HQ2.out.til.cell 1
          have t2 := HQ2.out.til.cell 2
          have t3 := HQ2.out.til.cell 3
          have c1' := HQ2.out.box.cell 1
          go_wp2_with fail
          clear t1 t2 t3 c1' hcell e1 e2 e3 e4
          refine (put_yes q h tr tc i j x m zs _ HQ2.out.prt ⟨by omega, by have := HI.out; omega⟩ ⟨by omega, by have := HJ.out; omega⟩ HmI.out (TabOK.below HT.out HQ2.out.be)).mono ?_
          rintro e w7 ⟨rfl, hb, hf⟩
          have HQ3 := Aside0.mk (HQ2.out.put hb hf)
          clear hb hf HQ2
          go_wp2
          go_roundw
          case rel => exact ⟨j + 1, _, by go_num, HJ.out, HQ3, ⟨by rw [← Nat.add_assoc, Hm.out]; exact HMx2.out⟩⟩
          case measure =>
            have := HJ.out
            simp [intOf]; omega
        · obtain rfl : tc = j := by omega
          have d1 : decide ((tc : Int) < (tc : Int)) = false := by simp
          have t1 := HQ.out.til.cell 1
          go_wp2
          clear t1
          go_roundw
          case rel => exact ⟨i + 1, zs, by go_num, HI.out, HQ, ⟨HMx.out.line⟩⟩
          case measure =>
            have := HI.out
            simp [intOf]; omega
    · obtain rfl : tr = i := by omega
      have d1 : decide ((tr : Int) < (tr : Int)) = false := by simp
      have t0 := HQ.out.til.cell 0
      go_wp2_with fail
      clear t0
      refine (words_ p g R C l _ HQ.out.blk).mono ?_
      rintro e w8 ⟨v, rfl, hR, hb⟩
      obtain ⟨Av, cv, rfl, hcv, hCv⟩ := Kd.R_reads hR
      have HV := Aside0.mk (In.mk hCv hcv)
      have HQ8 := Aside0.mk (HQ.out.below hb)
      clear hR hb hcv hCv HQ d1 h1
      go_wp2_with fail
      refine (abacistref04_Same.calls k1 Av cv l _ n l _ _ HV.out.r HV.out.c (HL.out.below HQ8.out.be).r HL.out.c K1.out).mono ?_
      rintro e w9 ⟨rfl, hb⟩
      have HQ9 := Aside0.mk (HQ8.out.below hb.below)
      clear hb HV HQ8
      have t2 := HQ9.out.til.cell 2
      have t3 := HQ9.out.til.cell 3
      go_wp2_with fail
      clear t2 t3
      refine (lay_yes p g q h R C tr tc r0 c0 l zs _ HQ9.out.blk HQ9.out.prt HTi.out HQ9.out.ne.1 HQ9.out.ne.2 (TabOK.below HT.out HQ9.out.be)).mono ?_
      rintro e w10 ⟨rfl, ys, hb, hla, hf⟩
      have HQa := Aside0.mk (HQ9.out.lay hb hf)
      have HLa := Aside0.mk hla
      clear hb hf HQ9 hla
      go_wp2_with fail
      refine (words_ p g R C ys _ HQa.out.blk).mono ?_
      rintro e w11 ⟨v, rfl, hR, hb⟩
      obtain ⟨Am, cm, rfl, hcv, hCv⟩ := Kd.R_reads hR
      have hyl := HLa.out.len
      rw [hyl] at hCv hcv ⊢
      obtain ⟨am, rfl, _⟩ := C_at hCv 0 hpos
      have HV := Aside0.mk (In.mk (l := ys) (by rw [hyl]; exact hCv) (by rw [hyl]; exact hcv))
      have HQb := Aside0.mk (HQa.out.below hb)
      clear hR hb hcv hCv HQa hyl
      have hlm : l.length ≤ 1048576 := HTi.out.max
      have HC0 : Aside0 (0 < C) := ⟨by have := HTi.out.c; have := HTi.out.pos; omega⟩
      go_wp2
      go_loopw [17] (fun v17 wr => ∃ (k : Nat), v17 = .int .i64 k ∧ k ≤ l.length ∧ Aside0 (Q4 w wr w.heap.size (w.heap.size + 1) p g q h R C tr tc r0 c0 ys zs) ∧ Aside0 (In wr (some am) cm ys)) (fun v17 _ => l.length - (intOf v17).toNat)
      case atStart => exact ⟨0, rfl, Nat.zero_le _, HQb, HV⟩
      case round =>
        clear HQb HV
        obtain ⟨k, rfl, hk, HQ, HV⟩ := hrel
        by_cases h1 : k < l.length
        · have d1 : decide ((k : Int) < (l.length : Int)) = true := decide_eq_true (by omega)
          have d1' : decide (k < l.length) = true := decide_eq_true h1
          have HK := Aside0.mk h1
          have cC := HQ.out.box.cell 1
          obtain ⟨a, b, hkab, hbC, e1, e2, ha1, hb1, e3⟩ := HTi.out.k_ h1
          have hC0 : ¬ C = 0 := by have := HC0.out; omega
          have HKab := Aside0.mk hkab
          have HbC := Aside0.mk hbC
          have hr0 : r0 ≤ 1048576 := by have := HTi.out.r; have := HTi.out.small; omega
          have hc0 : c0 ≤ 1048576 := by have := HTi.out.c; have := HTi.out.small; omega
          clear h1 hkab hbC
          go_wp2_with fail
          refine start_ (n := 10) (S := fun w' => w'.cell? ⟨w.heap.size, 1, none⟩ = some (.int .i64 (C : Int))) (ds := []) #[false, false, false, false, false, false, false, false, false, false] (by kernel_rfl) rfl rfl (cC) (fun hHeld => ?_)
          refine pure_ (i := 0) (N := some 135) (v := ?_) (a' := ?_) #[true, false, false, false, false, false, false, false, false, false] rfl rfl (by kernel_rfl) (fun _ _ _ h => h) (Or.inl ⟨by rfl, ?_⟩) ?_ ?_
          rotate_left
          · intro w'
            go_simp
            with_reducible rfl
          rotate_left
          · simp only [Act.put, List.setIfInBounds_toArray, List.set_cons_zero, List.set_cons_succ, i64_w, i32_w]
            rfl
          refine pure_ (i := 1) (N := some 136) (v := ?_) (a' := ?_) #[true, true, false, false, false, false, false, false, false, false] rfl rfl (by kernel_rfl) (fun _ _ _ h => h) (Or.inl ⟨by rfl, ?_⟩) ?_ ?_
          rotate_left
          · intro w'
            go_simp
            with_reducible rfl
          rotate_left
          · simp only [Act.put, List.setIfInBounds_toArray, List.set_cons_zero, List.set_cons_succ, i64_w, i32_w]
            rfl
          refine pure_ (i := 4) (N := some 139) (v := ?_) (a' := ?_) #[true, true, false, false, true, false, false, false, false, false] rfl rfl (by kernel_rfl) (fun _ _ _ h => h) (Or.inl ⟨by rfl, ?_⟩) ?_ ?_
          rotate_left
          · intro w'
            go_simp
            with_reducible rfl
          rotate_left
          · simp only [Act.put, List.setIfInBounds_toArray, List.set_cons_zero, List.set_cons_succ, i64_w, i32_w]
            rfl
          refine pure_ (i := 5) (N := some 140) (v := ?_) (a' := ?_) #[true, true, false, false, true, true, false, false, false, false] rfl rfl (by kernel_rfl) (fun _ _ _ h => h) (Or.inl ⟨by rfl, ?_⟩) ?_ ?_
          rotate_left
          · intro w'
            go_simp
            with_reducible rfl
          rotate_left
          · simp only [Act.put, List.setIfInBounds_toArray, List.set_cons_zero, List.set_cons_succ, i64_w, i32_w]
            rfl
          refine take_ (i := 2) (N := some 137) (v := ?_) (a' := ?_) #[true, true, true, false, true, true, false, false, false, false] rfl rfl (by kernel_rfl) (fun _ _ _ h => h) (Or.inl ⟨by rfl, ?_⟩) hHeld ?_ ?_
          rotate_left
          · intro w' s0
            go_simp
            with_reducible rfl
          rotate_left
          · simp only [Act.put, List.setIfInBounds_toArray, List.set_cons_zero, List.set_cons_succ, i64_w, i32_w]
            rfl
          refine pure_ (i := 3) (N := some 138) (v := ?_) (a' := ?_) #[true, true, true, true, true, true, false, false, false, false] rfl rfl (by kernel_rfl) (fun _ _ _ h => h) (Or.inl ⟨by rfl, ?_⟩) ?_ ?_
          rotate_left
          · intro w'
            go_simp
            with_reducible rfl
          rotate_left
          · simp only [Act.put, List.setIfInBounds_toArray, List.set_cons_zero, List.set_cons_succ, i64_w, i32_w]
            rfl
          refine pure_ (i := 8) (N := some 18) (v := ?_) (a' := ?_) #[true, true, true, true, true, true, false, false, true, false] rfl rfl (by kernel_rfl) (fun _ _ _ h => h) (Or.inl ⟨by rfl, ?_⟩) ?_ ?_
          rotate_left
          · intro w'
            go_simp
            with_reducible rfl
          rotate_left
          · simp only [Act.put, List.setIfInBounds_toArray, List.set_cons_zero, List.set_cons_succ, i64_w, i32_w]
            rfl
          refine take_ (i := 6) (N := some 141) (v := ?_) (a' := ?_) #[true, true, true, true, true, true, true, false, true, false] rfl rfl (by kernel_rfl) (fun _ _ _ h => h) (Or.inl ⟨by rfl, ?_⟩) hHeld ?_ ?_
          rotate_left
          · intro w' s0
            go_simp
            with_reducible rfl
          rotate_left
          · simp only [Act.put, List.setIfInBounds_toArray, List.set_cons_zero, List.set_cons_succ, i64_w, i32_w]
            rfl
          refine pure_ (i := 7) (N := some 142) (v := ?_) (a' := ?_) #[true, true, true, true, true, true, true, true, true, false] rfl rfl (by kernel_rfl) (fun _ _ _ h => h) (Or.inl ⟨by rfl, ?_⟩) ?_ ?_
          rotate_left
          · intro w'
            go_simp
            with_reducible rfl
          rotate_left
          · simp only [Act.put, List.setIfInBounds_toArray, List.set_cons_zero, List.set_cons_succ, i64_w, i32_w]
            rfl
          refine pure_ (i := 9) (N := some 19) (v := ?_) (a' := ?_) #[true, true, true, true, true, true, true, true, true, true] rfl rfl (by kernel_rfl) (fun _ _ _ h => h) (Or.inl ⟨by rfl, ?_⟩) ?_ ?_
          rotate_left
          · intro w'
            go_simp
            with_reducible rfl
          rotate_left
          · simp only [Act.put, List.setIfInBounds_toArray, List.set_cons_zero, List.set_cons_succ, i64_w, i32_w]
            rfl
          refine done_ (by kernel_rfl) ?_

          have e4 : wrap64 (a : Int) = (a : Int) := by clear e1 e2 e3; unfold wrap64; omega
          simp only [e4]
          clear cC hHeld e1 e3 e4
          have t0 := HQ.out.drew.til.cell 0
          have t1 := HQ.out.drew.til.cell 1
          have t2 := HQ.out.drew.til.cell 2
          have t3 := HQ.out.drew.til.cell 3
          have cC := HQ.out.drew.box.cell 1
          rcases (show ¬ r0 ≤ a ∨ (r0 ≤ a ∧ ¬ a < r0 + tr) ∨ (r0 ≤ a ∧ a < r0 + tr ∧ ¬ c0 ≤ b) ∨ (r0 ≤ a ∧ a < r0 + tr ∧ c0 ≤ b ∧ ¬ b < c0 + tc) ∨ (r0 ≤ a ∧ a < r0 + tr ∧ c0 ≤ b ∧ b < c0 + tc) by omega) with h1 | ⟨h1, h2⟩ | ⟨h1, h2, h3⟩ | ⟨h1, h2, h3, h4⟩ | ⟨h1, h2, h3, h4⟩
          · have d2 : decide ((r0 : Int) ≤ (a : Int)) = false := decide_eq_false (by omega)
            have d2' : decide (r0 ≤ a) = false := decide_eq_false h1
            have hy := HLa.out.out_l HTi.out HKab.out HbC.out (by omega)
            have hm1 := HV.out.at_ad k (by rw [HLa.out.len]; exact HK.out)
            have hm2 := (HL.out.below HQ.out.be).at_ad k HK.out
            rw [hy] at hm1
            generalize l.getD k 0 = v at *
            clear hy
            have q1 : (0 : Int) ≤ (k : Int) := by omega
            have q2 : (k : Int) < (l.length : Int) := by have := HK.out; omega
            clear h1
            go_wp2_with fail
            clear e2 cC t0 t1 t2 t3 d2 d2'
            refine start_ (n := 24) (S := fun w' => w'.cell? (am.add k) = some (.int .u64 v) ∧ w'.cell? (ad.add k) = some (.int .u64 v)) (ds := []) #[false, false, false, false, false, false, false, false, false, false, false, false, false, false, false, false, false, false, false, false, false, false, false, false] (by kernel_rfl) rfl rfl ⟨hm1, hm2⟩ (fun hHeld => ?_)
            refine pure_ (i := 0) (N := some 173) (v := ?_) (a' := ?_) #[true, false, false, false, false, false, false, false, false, false, false, false, false, false, false, false, false, false, false, false, false, false, false, false] rfl rfl (by kernel_rfl) (fun _ _ _ h => h) (Or.inl ⟨by rfl, ?_⟩) ?_ ?_
            rotate_left
            · intro w'
              go_simp
              with_reducible rfl
            rotate_left
            · simp only [Act.put, List.setIfInBounds_toArray, List.set_cons_zero, List.set_cons_succ, i64_w, i32_w]
              rfl
            refine pure_ (i := 1) (N := some 174) (v := ?_) (a' := ?_) #[true, true, false, false, false, false, false, false, false, false, false, false, false, false, false, false, false, false, false, false, false, false, false, false] rfl rfl (by kernel_rfl) (fun _ _ _ h => h) (Or.inl ⟨by rfl, ?_⟩) ?_ ?_
            rotate_left
            · intro w'
              go_simp
              with_reducible rfl
            rotate_left
            · simp only [Act.put, List.setIfInBounds_toArray, List.set_cons_zero, List.set_cons_succ, i64_w, i32_w]
              rfl
            refine pure_ (i := 2) (N := some 175) (v := undef) (a' := ?_) #[true, true, true, false, false, false, false, false, false, false, false, false, false, false, false, false, false, false, false, false, false, false, false, false] rfl rfl (by kernel_rfl) (fun _ _ _ h => h) (Or.inr ⟨by rfl, rfl⟩) ?_ ?_
            rotate_left
            · simp only [Act.put, List.setIfInBounds_toArray, List.set_cons_zero, List.set_cons_succ, i64_w, i32_w]
              rfl
            refine pure_ (i := 3) (N := some 176) (v := undef) (a' := ?_) #[true, true, true, true, false, false, false, false, false, false, false, false, false, false, false, false, false, false, false, false, false, false, false, false] rfl rfl (by kernel_rfl) (fun _ _ _ h => h) (Or.inr ⟨by rfl, rfl⟩) ?_ ?_
            rotate_left
            · simp only [Act.put, List.setIfInBounds_toArray, List.set_cons_zero, List.set_cons_succ, i64_w, i32_w]
              rfl
            refine pure_ (i := 4) (N := some 177) (v := undef) (a' := ?_) #[true, true, true, true, true, false, false, false, false, false, false, false, false, false, false, false, false, false, false, false, false, false, false, false] rfl rfl (by kernel_rfl) (fun _ _ _ h => h) (Or.inr ⟨by rfl, rfl⟩) ?_ ?_
            rotate_left
            · simp only [Act.put, List.setIfInBounds_toArray, List.set_cons_zero, List.set_cons_succ, i64_w, i32_w]
              rfl
            refine pure_ (i := 5) (N := some 178) (v := undef) (a' := ?_) #[true, true, true, true, true, true, false, false, false, false, false, false, false, false, false, false, false, false, false, false, false, false, false, false] rfl rfl (by kernel_rfl) (fun _ _ _ h => h) (Or.inr ⟨by rfl, rfl⟩) ?_ ?_
            rotate_left
            · simp only [Act.put, List.setIfInBounds_toArray, List.set_cons_zero, List.set_cons_succ, i64_w, i32_w]
              rfl
            refine pure_ (i := 6) (N := some 179) (v := undef) (a' := ?_) #[true, true, true, true, true, true, true, false, false, false, false, false, false, false, false, false, false, false, false, false, false, false, false, false] rfl rfl (by kernel_rfl) (fun _ _ _ h => h) (Or.inr ⟨by rfl, rfl⟩) ?_ ?_
            rotate_left
            · simp only [Act.put, List.setIfInBounds_toArray, List.set_cons_zero, List.set_cons_succ, i64_w, i32_w]
              rfl
            refine pure_ (i := 7) (N := some 180) (v := undef) (a' := ?_) #[true, true, true, true, true, true, true, true, false, false, false, false, false, false, false, false, false, false, false, false, false, false, false, false] rfl rfl (by kernel_rfl) (fun _ _ _ h => h) (Or.inr ⟨by rfl, rfl⟩) ?_ ?_
            rotate_left
            · simp only [Act.put, List.setIfInBounds_toArray, List.set_cons_zero, List.set_cons_succ, i64_w, i32_w]
              rfl
            refine pure_ (i := 8) (N := some 181) (v := ?_) (a' := ?_) #[true, true, true, true, true, true, true, true, true, false, false, false, false, false, false, false, false, false, false, false, false, false, false, false] rfl rfl (by kernel_rfl) (fun _ _ _ h => h) (Or.inl ⟨by rfl, ?_⟩) ?_ ?_
            rotate_left
            · intro w'
              go_simp
              with_reducible rfl
            rotate_left
            · simp only [Act.put, List.setIfInBounds_toArray, List.set_cons_zero, List.set_cons_succ, i64_w, i32_w]
              rfl
            refine pure_ (i := 9) (N := some 182) (v := ?_) (a' := ?_) #[true, true, true, true, true, true, true, true, true, true, false, false, false, false, false, false, false, false, false, false, false, false, false, false] rfl rfl (by kernel_rfl) (fun _ _ _ h => h) (Or.inl ⟨by rfl, ?_⟩) ?_ ?_
            rotate_left
            · intro w'
              go_simp
              with_reducible rfl
            rotate_left
            · simp only [Act.put, List.setIfInBounds_toArray, List.set_cons_zero, List.set_cons_succ, i64_w, i32_w]
              rfl
            refine pure_ (i := 10) (N := some 183) (v := ?_) (a' := ?_) #[true, true, true, true, true, true, true, true, true, true, true, false, false, false, false, false, false, false, false, false, false, false, false, false] rfl rfl (by kernel_rfl) (fun _ _ _ h => h) (Or.inl ⟨by rfl, ?_⟩) ?_ ?_
            rotate_left
            · intro w'
              go_simp
              with_reducible rfl
            rotate_left
            · simp only [Act.put, List.setIfInBounds_toArray, List.set_cons_zero, List.set_cons_succ, i64_w, i32_w]
              rfl
            refine pure_ (i := 11) (N := some 184) (v := ?_) (a' := ?_) #[true, true, true, true, true, true, true, true, true, true, true, true, false, false, false, false, false, false, false, false, false, false, false, false] rfl rfl (by kernel_rfl) (fun _ _ _ h => h) (Or.inl ⟨by rfl, ?_⟩) ?_ ?_
            rotate_left
            · intro w'
              go_simp
              with_reducible rfl
            rotate_left
            · simp only [Act.put, List.setIfInBounds_toArray, List.set_cons_zero, List.set_cons_succ, i64_w, i32_w]
              rfl
            refine pure_ (i := 12) (N := some 185) (v := ?_) (a' := ?_) #[true, true, true, true, true, true, true, true, true, true, true, true, true, false, false, false, false, false, false, false, false, false, false, false] rfl rfl (by kernel_rfl) (fun _ _ _ h => h) (Or.inl ⟨by rfl, ?_⟩) ?_ ?_
            rotate_left
            · intro w'
              go_simp
              with_reducible rfl
            rotate_left
            · simp only [Act.put, List.setIfInBounds_toArray, List.set_cons_zero, List.set_cons_succ, i64_w, i32_w]
              rfl
            refine pure_ (i := 13) (N := some 186) (v := ?_) (a' := ?_) #[true, true, true, true, true, true, true, true, true, true, true, true, true, true, false, false, false, false, false, false, false, false, false, false] rfl rfl (by kernel_rfl) (fun _ _ _ h => h) (Or.inl ⟨by rfl, ?_⟩) ?_ ?_
            rotate_left
            · intro w'
              go_simp
              with_reducible rfl
            rotate_left
            · simp only [Act.put, List.setIfInBounds_toArray, List.set_cons_zero, List.set_cons_succ, i64_w, i32_w]
              rfl
            refine pure_ (i := 14) (N := some 187) (v := ?_) (a' := ?_) #[true, true, true, true, true, true, true, true, true, true, true, true, true, true, true, false, false, false, false, false, false, false, false, false] rfl rfl (by kernel_rfl) (fun _ _ _ h => h) (Or.inl ⟨by rfl, ?_⟩) ?_ ?_
            rotate_left
            · intro w'
              go_simp
              with_reducible rfl
            rotate_left
            · simp only [Act.put, List.setIfInBounds_toArray, List.set_cons_zero, List.set_cons_succ, i64_w, i32_w]
              rfl
            refine pure_ (i := 15) (N := some 188) (v := ?_) (a' := ?_) #[true, true, true, true, true, true, true, true, true, true, true, true, true, true, true, true, false, false, false, false, false, false, false, false] rfl rfl (by kernel_rfl) (fun _ _ _ h => h) (Or.inl ⟨by rfl, ?_⟩) ?_ ?_
            rotate_left
            · intro w'
              go_simp
              with_reducible rfl
            rotate_left
            · simp only [Act.put, List.setIfInBounds_toArray, List.set_cons_zero, List.set_cons_succ, i64_w, i32_w]
              rfl
            refine pure_ (i := 17) (N := some 190) (v := ?_) (a' := ?_) #[true, true, true, true, true, true, true, true, true, true, true, true, true, true, true, true, false, true, false, false, false, false, false, false] rfl rfl (by kernel_rfl) (fun _ _ _ h => h) (Or.inl ⟨by rfl, ?_⟩) ?_ ?_
            rotate_left
            · intro w'
              go_simp
              with_reducible rfl
            rotate_left
            · simp only [Act.put, List.setIfInBounds_toArray, List.set_cons_zero, List.set_cons_succ, i64_w, i32_w]
              rfl
            refine pure_ (i := 18) (N := some 191) (v := ?_) (a' := ?_) #[true, true, true, true, true, true, true, true, true, true, true, true, true, true, true, true, false, true, true, false, false, false, false, false] rfl rfl (by kernel_rfl) (fun _ _ _ h => h) (Or.inl ⟨by rfl, ?_⟩) ?_ ?_
            rotate_left
            · intro w'
              go_simp
              with_reducible rfl
            rotate_left
            · simp only [Act.put, List.setIfInBounds_toArray, List.set_cons_zero, List.set_cons_succ, i64_w, i32_w]
              rfl
            refine pure_ (i := 19) (N := some 192) (v := ?_) (a' := ?_) #[true, true, true, true, true, true, true, true, true, true, true, true, true, true, true, true, false, true, true, true, false, false, false, false] rfl rfl (by kernel_rfl) (fun _ _ _ h => h) (Or.inl ⟨by rfl, ?_⟩) ?_ ?_
            rotate_left
            · intro w'
              go_simp
              with_reducible rfl
            rotate_left
            · simp only [Act.put, List.setIfInBounds_toArray, List.set_cons_zero, List.set_cons_succ, i64_w, i32_w]
              rfl
            refine take_ (i := 16) (N := some 189) (v := ?_) (a' := ?_) #[true, true, true, true, true, true, true, true, true, true, true, true, true, true, true, true, true, true, true, true, false, false, false, false] rfl rfl (by kernel_rfl) (fun _ _ _ h => h) (Or.inl ⟨by rfl, ?_⟩) hHeld ?_ ?_
            rotate_left
            · rintro w' ⟨s0, s1⟩
              go_simp
              with_reducible rfl
            rotate_left
            · simp only [Act.put, List.setIfInBounds_toArray, List.set_cons_zero, List.set_cons_succ, i64_w, i32_w]
              rfl
            refine take_ (i := 20) (N := some 193) (v := ?_) (a' := ?_) #[true, true, true, true, true, true, true, true, true, true, true, true, true, true, true, true, true, true, true, true, true, false, false, false] rfl rfl (by kernel_rfl) (fun _ _ _ h => h) (Or.inl ⟨by rfl, ?_⟩) hHeld ?_ ?_
            rotate_left
            · rintro w' ⟨s0, s1⟩
              go_simp
              with_reducible rfl
            rotate_left
            · simp only [Act.put, List.setIfInBounds_toArray, List.set_cons_zero, List.set_cons_succ, i64_w, i32_w]
              rfl
            refine pure_ (i := 21) (N := some 194) (v := ?_) (a' := ?_) #[true, true, true, true, true, true, true, true, true, true, true, true, true, true, true, true, true, true, true, true, true, true, false, false] rfl rfl (by kernel_rfl) (fun _ _ _ h => h) (Or.inl ⟨by rfl, ?_⟩) ?_ ?_
            rotate_left
            · intro w'
              go_simp
              with_reducible rfl
            rotate_left
            · simp only [Act.put, List.setIfInBounds_toArray, List.set_cons_zero, List.set_cons_succ, i64_w, i32_w]
              rfl
            refine pure_ (i := 22) (N := some 195) (v := ?_) (a' := ?_) #[true, true, true, true, true, true, true, true, true, true, true, true, true, true, true, true, true, true, true, true, true, true, true, false] rfl rfl (by kernel_rfl) (fun _ _ _ h => h) (Or.inl ⟨by rfl, ?_⟩) ?_ ?_
            rotate_left
            · intro w'
              go_simp
              with_reducible rfl
            rotate_left
            · simp only [Act.put, List.setIfInBounds_toArray, List.set_cons_zero, List.set_cons_succ, i64_w, i32_w]
              rfl
            refine pure_ (i := 23) (N := some 196) (v := ?_) (a' := ?_) #[true, true, true, true, true, true, true, true, true, true, true, true, true, true, true, true, true, true, true, true, true, true, true, true] rfl rfl (by kernel_rfl) (fun _ _ _ h => h) (Or.inl ⟨by rfl, ?_⟩) ?_ ?_
            rotate_left
            · intro w'
              go_simp
              with_reducible rfl
            rotate_left
            · simp only [Act.put, List.setIfInBounds_toArray, List.set_cons_zero, List.set_cons_succ, i64_w, i32_w]
              rfl
            refine done_ (by kernel_rfl) ?_

            clear hHeld
            go_wp2
            go_roundw
            case rel => exact ⟨k + 1, by go_num, HK.out, ⟨HQ.out.below (below_drawn2 _)⟩, ⟨HV.out.below (below_drawn2 _)⟩⟩
            case measure =>
              have := HK.out
              simp [intOf]; omega
          · have d2 : decide ((r0 : Int) ≤ (a : Int)) = true := decide_eq_true (by omega)
            have d2' : decide (r0 ≤ a) = true := decide_eq_true h1
            have d3 : decide ((a : Int) < (r0 : Int) + (tr : Int)) = false := decide_eq_false (by omega)
            have d3' : decide (a < r0 + tr) = false := decide_eq_false h2
            have hy := HLa.out.out_l HTi.out HKab.out HbC.out (by omega)
            have hm1 := HV.out.at_ad k (by rw [HLa.out.len]; exact HK.out)
            have hm2 := (HL.out.below HQ.out.be).at_ad k HK.out
            rw [hy] at hm1
            generalize l.getD k 0 = v at *
            clear hy
            have q1 : (0 : Int) ≤ (k : Int) := by omega
            have q2 : (k : Int) < (l.length : Int) := by have := HK.out; omega
            clear h1 h2
            go_wp2_with fail
            clear e2 cC t0 t1 t2 t3 d2 d2' d3 d3'
            refine start_ (n := 24) (S := fun w' => w'.cell? (am.add k) = some (.int .u64 v) ∧ w'.cell? (ad.add k) = some (.int .u64 v)) (ds := []) #[false, false, false, false, false, false, false, false, false, false, false, false, false, false, false, false, false, false, false, false, false, false, false, false] (by kernel_rfl) rfl rfl ⟨hm1, hm2⟩ (fun hHeld => ?_)
            refine pure_ (i := 0) (N := some 173) (v := ?_) (a' := ?_) #[true, false, false, false, false, false, false, false, false, false, false, false, false, false, false, false, false, false, false, false, false, false, false, false] rfl rfl (by kernel_rfl) (fun _ _ _ h => h) (Or.inl ⟨by rfl, ?_⟩) ?_ ?_
            rotate_left
            · intro w'
              go_simp
              with_reducible rfl
            rotate_left
            · simp only [Act.put, List.setIfInBounds_toArray, List.set_cons_zero, List.set_cons_succ, i64_w, i32_w]
              rfl
            refine pure_ (i := 1) (N := some 174) (v := ?_) (a' := ?_) #[true, true, false, false, false, false, false, false, false, false, false, false, false, false, false, false, false, false, false, false, false, false, false, false] rfl rfl (by kernel_rfl) (fun _ _ _ h => h) (Or.inl ⟨by rfl, ?_⟩) ?_ ?_
            rotate_left
            · intro w'
              go_simp
              with_reducible rfl
            rotate_left
            · simp only [Act.put, List.setIfInBounds_toArray, List.set_cons_zero, List.set_cons_succ, i64_w, i32_w]
              rfl
            refine pure_ (i := 2) (N := some 175) (v := undef) (a' := ?_) #[true, true, true, false, false, false, false, false, false, false, false, false, false, false, false, false, false, false, false, false, false, false, false, false] rfl rfl (by kernel_rfl) (fun _ _ _ h => h) (Or.inr ⟨by rfl, rfl⟩) ?_ ?_
            rotate_left
            · simp only [Act.put, List.setIfInBounds_toArray, List.set_cons_zero, List.set_cons_succ, i64_w, i32_w]
              rfl
            refine pure_ (i := 3) (N := some 176) (v := undef) (a' := ?_) #[true, true, true, true, false, false, false, false, false, false, false, false, false, false, false, false, false, false, false, false, false, false, false, false] rfl rfl (by kernel_rfl) (fun _ _ _ h => h) (Or.inr ⟨by rfl, rfl⟩) ?_ ?_
            rotate_left
            · simp only [Act.put, List.setIfInBounds_toArray, List.set_cons_zero, List.set_cons_succ, i64_w, i32_w]
              rfl
            refine pure_ (i := 4) (N := some 177) (v := undef) (a' := ?_) #[true, true, true, true, true, false, false, false, false, false, false, false, false, false, false, false, false, false, false, false, false, false, false, false] rfl rfl (by kernel_rfl) (fun _ _ _ h => h) (Or.inr ⟨by rfl, rfl⟩) ?_ ?_
            rotate_left
            · simp only [Act.put, List.setIfInBounds_toArray, List.set_cons_zero, List.set_cons_succ, i64_w, i32_w]
              rfl
            refine pure_ (i := 5) (N := some 178) (v := undef) (a' := ?_) #[true, true, true, true, true, true, false, false, false, false, false, false, false, false, false, false, false, false, false, false, false, false, false, false] rfl rfl (by kernel_rfl) (fun _ _ _ h => h) (Or.inr ⟨by rfl, rfl⟩) ?_ ?_
            rotate_left
            · simp only [Act.put, List.setIfInBounds_toArray, List.set_cons_zero, List.set_cons_succ, i64_w, i32_w]
              rfl
            refine pure_ (i := 6) (N := some 179) (v := undef) (a' := ?_) #[true, true, true, true, true, true, true, false, false, false, false, false, false, false, false, false, false, false, false, false, false, false, false, false] rfl rfl (by kernel_rfl) (fun _ _ _ h => h) (Or.inr ⟨by rfl, rfl⟩) ?_ ?_
            rotate_left
            · simp only [Act.put, List.setIfInBounds_toArray, List.set_cons_zero, List.set_cons_succ, i64_w, i32_w]
              rfl
            refine pure_ (i := 7) (N := some 180) (v := undef) (a' := ?_) #[true, true, true, true, true, true, true, true, false, false, false, false, false, false, false, false, false, false, false, false, false, false, false, false] rfl rfl (by kernel_rfl) (fun _ _ _ h => h) (Or.inr ⟨by rfl, rfl⟩) ?_ ?_
            rotate_left
            · simp only [Act.put, List.setIfInBounds_toArray, List.set_cons_zero, List.set_cons_succ, i64_w, i32_w]
              rfl
            refine pure_ (i := 8) (N := some 181) (v := ?_) (a' := ?_) #[true, true, true, true, true, true, true, true, true, false, false, false, false, false, false, false, false, false, false, false, false, false, false, false] rfl rfl (by kernel_rfl) (fun _ _ _ h => h) (Or.inl ⟨by rfl, ?_⟩) ?_ ?_
            rotate_left
            · intro w'
              go_simp
              with_reducible rfl
            rotate_left
            · simp only [Act.put, List.setIfInBounds_toArray, List.set_cons_zero, List.set_cons_succ, i64_w, i32_w]
              rfl
            refine pure_ (i := 9) (N := some 182) (v := ?_) (a' := ?_) #[true, true, true, true, true, true, true, true, true, true, false, false, false, false, false, false, false, false, false, false, false, false, false, false] rfl rfl (by kernel_rfl) (fun _ _ _ h => h) (Or.inl ⟨by rfl, ?_⟩) ?_ ?_
            rotate_left
            · intro w'
              go_simp
              with_reducible rfl
            rotate_left
            · simp only [Act.put, List.setIfInBounds_toArray, List.set_cons_zero, List.set_cons_succ, i64_w, i32_w]
              rfl
            refine pure_ (i := 10) (N := some 183) (v := ?_) (a' := ?_) #[true, true, true, true, true, true, true, true, true, true, true, false, false, false, false, false, false, false, false, false, false, false, false, false] rfl rfl (by kernel_rfl) (fun _ _ _ h => h) (Or.inl ⟨by rfl, ?_⟩) ?_ ?_
            rotate_left
            · intro w'
              go_simp
              with_reducible rfl
            rotate_left
            · simp only [Act.put, List.setIfInBounds_toArray, List.set_cons_zero, List.set_cons_succ, i64_w, i32_w]
              rfl
            refine pure_ (i := 11) (N := some 184) (v := ?_) (a' := ?_) #[true, true, true, true, true, true, true, true, true, true, true, true, false, false, false, false, false, false, false, false, false, false, false, false] rfl rfl (by kernel_rfl) (fun _ _ _ h => h) (Or.inl ⟨by rfl, ?_⟩) ?_ ?_
            rotate_left
            · intro w'
              go_simp
              with_reducible rfl
            rotate_left
            · simp only [Act.put, List.setIfInBounds_toArray, List.set_cons_zero, List.set_cons_succ, i64_w, i32_w]
              rfl
            refine pure_ (i := 12) (N := some 185) (v := ?_) (a' := ?_) #[true, true, true, true, true, true, true, true, true, true, true, true, true, false, false, false, false, false, false, false, false, false, false, false] rfl rfl (by kernel_rfl) (fun _ _ _ h => h) (Or.inl ⟨by rfl, ?_⟩) ?_ ?_
            rotate_left
            · intro w'
              go_simp
              with_reducible rfl
            rotate_left
            · simp only [Act.put, List.setIfInBounds_toArray, List.set_cons_zero, List.set_cons_succ, i64_w, i32_w]
              rfl
            refine pure_ (i := 13) (N := some 186) (v := ?_) (a' := ?_) #[true, true, true, true, true, true, true, true, true, true, true, true, true, true, false, false, false, false, false, false, false, false, false, false] rfl rfl (by kernel_rfl) (fun _ _ _ h => h) (Or.inl ⟨by rfl, ?_⟩) ?_ ?_
            rotate_left
            · intro w'
              go_simp
              with_reducible rfl
            rotate_left
            · simp only [Act.put, List.setIfInBounds_toArray, List.set_cons_zero, List.set_cons_succ, i64_w, i32_w]
              rfl
            refine pure_ (i := 14) (N := some 187) (v := ?_) (a' := ?_) #[true, true, true, true, true, true, true, true, true, true, true, true, true, true, true, false, false, false, false, false, false, false, false, false] rfl rfl (by kernel_rfl) (fun _ _ _ h => h) (Or.inl ⟨by rfl, ?_⟩) ?_ ?_
            rotate_left
            · intro w'
              go_simp
              with_reducible rfl
            rotate_left
            · simp only [Act.put, List.setIfInBounds_toArray, List.set_cons_zero, List.set_cons_succ, i64_w, i32_w]
              rfl
            refine pure_ (i := 15) (N := some 188) (v := ?_) (a' := ?_) #[true, true, true, true, true, true, true, true, true, true, true, true, true, true, true, true, false, false, false, false, false, false, false, false] rfl rfl (by kernel_rfl) (fun _ _ _ h => h) (Or.inl ⟨by rfl, ?_⟩) ?_ ?_
            rotate_left
            · intro w'
              go_simp
              with_reducible rfl
            rotate_left
            · simp only [Act.put, List.setIfInBounds_toArray, List.set_cons_zero, List.set_cons_succ, i64_w, i32_w]
              rfl
            refine pure_ (i := 17) (N := some 190) (v := ?_) (a' := ?_) #[true, true, true, true, true, true, true, true, true, true, true, true, true, true, true, true, false, true, false, false, false, false, false, false] rfl rfl (by kernel_rfl) (fun _ _ _ h => h) (Or.inl ⟨by rfl, ?_⟩) ?_ ?_
            rotate_left
            · intro w'
              go_simp
              with_reducible rfl
            rotate_left
            · simp only [Act.put, List.setIfInBounds_toArray, List.set_cons_zero, List.set_cons_succ, i64_w, i32_w]
              rfl
            refine pure_ (i := 18) (N := some 191) (v := ?_) (a' := ?_) #[true, true, true, true, true, true, true, true, true, true, true, true, true, true, true, true, false, true, true, false, false, false, false, false] rfl rfl (by kernel_rfl) (fun _ _ _ h => h) (Or.inl ⟨by rfl, ?_⟩) ?_ ?_
            rotate_left
            · intro w'
              go_simp
              with_reducible rfl
            rotate_left
            · simp only [Act.put, List.setIfInBounds_toArray, List.set_cons_zero, List.set_cons_succ, i64_w, i32_w]
              rfl
            refine pure_ (i := 19) (N := some 192) (v := ?_) (a' := ?_) #[true, true, true, true, true, true, true, true, true, true, true, true, true, true, true, true, false, true, true, true, false, false, false, false] rfl rfl (by kernel_rfl) (fun _ _ _ h => h) (Or.inl ⟨by rfl, ?_⟩) ?_ ?_
            rotate_left
            · intro w'
              go_simp
              with_reducible rfl
            rotate_left
            · simp only [Act.put, List.setIfInBounds_toArray, List.set_cons_zero, List.set_cons_succ, i64_w, i32_w]
              rfl
            refine take_ (i := 16) (N := some 189) (v := ?_) (a' := ?_) #[true, true, true, true, true, true, true, true, true, true, true, true, true, true, true, true, true, true, true, true, false, false, false, false] rfl rfl (by kernel_rfl) (fun _ _ _ h => h) (Or.inl ⟨by rfl, ?_⟩) hHeld ?_ ?_
            rotate_left
            · rintro w' ⟨s0, s1⟩
              go_simp
              with_reducible rfl
            rotate_left
            · simp only [Act.put, List.setIfInBounds_toArray, List.set_cons_zero, List.set_cons_succ, i64_w, i32_w]
              rfl
            refine take_ (i := 20) (N := some 193) (v := ?_) (a' := ?_) #[true, true, true, true, true, true, true, true, true, true, true, true, true, true, true, true, true, true, true, true, true, false, false, false] rfl rfl (by kernel_rfl) (fun _ _ _ h => h) (Or.inl ⟨by rfl, ?_⟩) hHeld ?_ ?_
            rotate_left
            · rintro w' ⟨s0, s1⟩
              go_simp
              with_reducible rfl
            rotate_left
            · simp only [Act.put, List.setIfInBounds_toArray, List.set_cons_zero, List.set_cons_succ, i64_w, i32_w]
              rfl
            refine pure_ (i := 21) (N := some 194) (v := ?_) (a' := ?_) #[true, true, true, true, true, true, true, true, true, true, true, true, true, true, true, true, true, true, true, true, true, true, false, false] rfl rfl (by kernel_rfl) (fun _ _ _ h => h) (Or.inl ⟨by rfl, ?_⟩) ?_ ?_
            rotate_left
            · intro w'
              go_simp
              with_reducible rfl
            rotate_left
            · simp only [Act.put, List.setIfInBounds_toArray, List.set_cons_zero, List.set_cons_succ, i64_w, i32_w]
              rfl
            refine pure_ (i := 22) (N := some 195) (v := ?_) (a' := ?_) #[true, true, true, true, true, true, true, true, true, true, true, true, true, true, true, true, true, true, true, true, true, true, true, false] rfl rfl (by kernel_rfl) (fun _ _ _ h => h) (Or.inl ⟨by rfl, ?_⟩) ?_ ?_
            rotate_left
            · intro w'
              go_simp
              with_reducible rfl
            rotate_left
            · simp only [Act.put, List.setIfInBounds_toArray, List.set_cons_zero, List.set_cons_succ, i64_w, i32_w]
              rfl
            refine pure_ (i := 23) (N := some 196) (v := ?_) (a' := ?_) #[true, true, true, true, true, true, true, true, true, true, true, true, true, true, true, true, true, true, true, true, true, true, true, true] rfl rfl (by kernel_rfl) (fun _ _ _ h => h) (Or.inl ⟨by rfl, ?_⟩) ?_ ?_
            rotate_left
            · intro w'
              go_simp
              with_reducible rfl
            rotate_left
            · simp only [Act.put, List.setIfInBounds_toArray, List.set_cons_zero, List.set_cons_succ, i64_w, i32_w]
              rfl
            refine done_ (by kernel_rfl) ?_

            clear hHeld
            go_wp2
            go_roundw
            case rel => exact ⟨k + 1, by go_num, HK.out, ⟨HQ.out.below (below_drawn2 _)⟩, ⟨HV.out.below (below_drawn2 _)⟩⟩
            case measure =>
              have := HK.out
              simp [intOf]; omega
          · have d2 : decide ((r0 : Int) ≤ (a : Int)) = true := decide_eq_true (by omega)
            have d2' : decide (r0 ≤ a) = true := decide_eq_true h1
            have d3 : decide ((a : Int) < (r0 : Int) + (tr : Int)) = true := decide_eq_true (by omega)
            have d3' : decide (a < r0 + tr) = true := decide_eq_true h2
            have d4 : decide ((c0 : Int) ≤ (b : Int)) = false := decide_eq_false (by omega)
            have d4' : decide (c0 ≤ b) = false := decide_eq_false h3
            have hy := HLa.out.out_l HTi.out HKab.out HbC.out (by omega)
            have hm1 := HV.out.at_ad k (by rw [HLa.out.len]; exact HK.out)
            have hm2 := (HL.out.below HQ.out.be).at_ad k HK.out
            rw [hy] at hm1
            generalize l.getD k 0 = v at *
            clear hy
            have q1 : (0 : Int) ≤ (k : Int) := by omega
            have q2 : (k : Int) < (l.length : Int) := by have := HK.out; omega
            clear h1 h2 h3
            go_wp2_with fail
            clear e2 cC t0 t1 t2 t3 d2 d2' d3 d3' d4 d4'
            refine start_ (n := 24) (S := fun w' => w'.cell? (am.add k) = some (.int .u64 v) ∧ w'.cell? (ad.add k) = some (.int .u64 v)) (ds := []) #[false, false, false, false, false, false, false, false, false, false, false, false, false, false, false, false, false, false, false, false, false, false, false, false] (by kernel_rfl) rfl rfl ⟨hm1, hm2⟩ (fun hHeld => ?_)
            refine pure_ (i := 0) (N := some 173) (v := ?_) (a' := ?_) #[true, false, false, false, false, false, false, false, false, false, false, false, false, false, false, false, false, false, false, false, false, false, false, false] rfl rfl (by kernel_rfl) (fun _ _ _ h => h) (Or.inl ⟨by rfl, ?_⟩) ?_ ?_
            rotate_left
            · intro w'
              go_simp
              with_reducible rfl
            rotate_left
            · simp only [Act.put, List.setIfInBounds_toArray, List.set_cons_zero, List.set_cons_succ, i64_w, i32_w]
              rfl
            refine pure_ (i := 1) (N := some 174) (v := ?_) (a' := ?_) #[true, true, false, false, false, false, false, false, false, false, false, false, false, false, false, false, false, false, false, false, false, false, false, false] rfl rfl (by kernel_rfl) (fun _ _ _ h => h) (Or.inl ⟨by rfl, ?_⟩) ?_ ?_
            rotate_left
            · intro w'
              go_simp
              with_reducible rfl
            rotate_left
            · simp only [Act.put, List.setIfInBounds_toArray, List.set_cons_zero, List.set_cons_succ, i64_w, i32_w]
              rfl
            refine pure_ (i := 2) (N := some 175) (v := undef) (a' := ?_) #[true, true, true, false, false, false, false, false, false, false, false, false, false, false, false, false, false, false, false, false, false, false, false, false] rfl rfl (by kernel_rfl) (fun _ _ _ h => h) (Or.inr ⟨by rfl, rfl⟩) ?_ ?_
            rotate_left
            · simp only [Act.put, List.setIfInBounds_toArray, List.set_cons_zero, List.set_cons_succ, i64_w, i32_w]
              rfl
            refine pure_ (i := 3) (N := some 176) (v := undef) (a' := ?_) #[true, true, true, true, false, false, false, false, false, false, false, false, false, false, false, false, false, false, false, false, false, false, false, false] rfl rfl (by kernel_rfl) (fun _ _ _ h => h) (Or.inr ⟨by rfl, rfl⟩) ?_ ?_
            rotate_left
            · simp only [Act.put, List.setIfInBounds_toArray, List.set_cons_zero, List.set_cons_succ, i64_w, i32_w]
              rfl
            refine pure_ (i := 4) (N := some 177) (v := undef) (a' := ?_) #[true, true, true, true, true, false, false, false, false, false, false, false, false, false, false, false, false, false, false, false, false, false, false, false] rfl rfl (by kernel_rfl) (fun _ _ _ h => h) (Or.inr ⟨by rfl, rfl⟩) ?_ ?_
            rotate_left
            · simp only [Act.put, List.setIfInBounds_toArray, List.set_cons_zero, List.set_cons_succ, i64_w, i32_w]
              rfl
            refine pure_ (i := 5) (N := some 178) (v := undef) (a' := ?_) #[true, true, true, true, true, true, false, false, false, false, false, false, false, false, false, false, false, false, false, false, false, false, false, false] rfl rfl (by kernel_rfl) (fun _ _ _ h => h) (Or.inr ⟨by rfl, rfl⟩) ?_ ?_
            rotate_left
            · simp only [Act.put, List.setIfInBounds_toArray, List.set_cons_zero, List.set_cons_succ, i64_w, i32_w]
              rfl
            refine pure_ (i := 6) (N := some 179) (v := undef) (a' := ?_) #[true, true, true, true, true, true, true, false, false, false, false, false, false, false, false, false, false, false, false, false, false, false, false, false] rfl rfl (by kernel_rfl) (fun _ _ _ h => h) (Or.inr ⟨by rfl, rfl⟩) ?_ ?_
            rotate_left
            · simp only [Act.put, List.setIfInBounds_toArray, List.set_cons_zero, List.set_cons_succ, i64_w, i32_w]
              rfl
            refine pure_ (i := 7) (N := some 180) (v := undef) (a' := ?_) #[true, true, true, true, true, true, true, true, false, false, false, false, false, false, false, false, false, false, false, false, false, false, false, false] rfl rfl (by kernel_rfl) (fun _ _ _ h => h) (Or.inr ⟨by rfl, rfl⟩) ?_ ?_
            rotate_left
            · simp only [Act.put, List.setIfInBounds_toArray, List.set_cons_zero, List.set_cons_succ, i64_w, i32_w]
              rfl
            refine pure_ (i := 8) (N := some 181) (v := ?_) (a' := ?_) #[true, true, true, true, true, true, true, true, true, false, false, false, false, false, false, false, false, false, false, false, false, false, false, false] rfl rfl (by kernel_rfl) (fun _ _ _ h => h) (Or.inl ⟨by rfl, ?_⟩) ?_ ?_
            rotate_left
            · intro w'
              go_simp
              with_reducible rfl
            rotate_left
            · simp only [Act.put, List.setIfInBounds_toArray, List.set_cons_zero, List.set_cons_succ, i64_w, i32_w]
              rfl
            refine pure_ (i := 9) (N := some 182) (v := ?_) (a' := ?_) #[true, true, true, true, true, true, true, true, true, true, false, false, false, false, false, false, false, false, false, false, false, false, false, false] rfl rfl (by kernel_rfl) (fun _ _ _ h => h) (Or.inl ⟨by rfl, ?_⟩) ?_ ?_
            rotate_left
            · intro w'
              go_simp
              with_reducible rfl
            rotate_left
            · simp only [Act.put, List.setIfInBounds_toArray, List.set_cons_zero, List.set_cons_succ, i64_w, i32_w]
              rfl
            refine pure_ (i := 10) (N := some 183) (v := ?_) (a' := ?_) #[true, true, true, true, true, true, true, true, true, true, true, false, false, false, false, false, false, false, false, false, false, false, false, false] rfl rfl (by kernel_rfl) (fun _ _ _ h => h) (Or.inl ⟨by rfl, ?_⟩) ?_ ?_
            rotate_left
            · intro w'
              go_simp
              with_reducible rfl
            rotate_left
            · simp only [Act.put, List.setIfInBounds_toArray, List.set_cons_zero, List.set_cons_succ, i64_w, i32_w]
              rfl
            refine pure_ (i := 11) (N := some 184) (v := ?_) (a' := ?_) #[true, true, true, true, true, true, true, true, true, true, true, true, false, false, false, false, false, false, false, false, false, false, false, false] rfl rfl (by kernel_rfl) (fun _ _ _ h => h) (Or.inl ⟨by rfl, ?_⟩) ?_ ?_
            rotate_left
            · intro w'
              go_simp
              with_reducible rfl
            rotate_left
            · simp only [Act.put, List.setIfInBounds_toArray, List.set_cons_zero, List.set_cons_succ, i64_w, i32_w]
              rfl
            refine pure_ (i := 12) (N := some 185) (v := ?_) (a' := ?_) #[true, true, true, true, true, true, true, true, true, true, true, true, true, false, false, false, false, false, false, false, false, false, false, false] rfl rfl (by kernel_rfl) (fun _ _ _ h => h) (Or.inl ⟨by rfl, ?_⟩) ?_ ?_
            rotate_left
            · intro w'
              go_simp
              with_reducible rfl
            rotate_left
            · simp only [Act.put, List.setIfInBounds_toArray, List.set_cons_zero, List.set_cons_succ, i64_w, i32_w]
              rfl
            refine pure_ (i := 13) (N := some 186) (v := ?_) (a' := ?_) #[true, true, true, true, true, true, true, true, true, true, true, true, true, true, false, false, false, false, false, false, false, false, false, false] rfl rfl (by kernel_rfl) (fun _ _ _ h => h) (Or.inl ⟨by rfl, ?_⟩) ?_ ?_
            rotate_left
            · intro w'
              go_simp
              with_reducible rfl
            rotate_left
            · simp only [Act.put, List.setIfInBounds_toArray, List.set_cons_zero, List.set_cons_succ, i64_w, i32_w]
              rfl
            refine pure_ (i := 14) (N := some 187) (v := ?_) (a' := ?_) #[true, true, true, true, true, true, true, true, true, true, true, true, true, true, true, false, false, false, false, false, false, false, false, false] rfl rfl (by kernel_rfl) (fun _ _ _ h => h) (Or.inl ⟨by rfl, ?_⟩) ?_ ?_
            rotate_left
            · intro w'
              go_simp
              with_reducible rfl
            rotate_left
            · simp only [Act.put, List.setIfInBounds_toArray, List.set_cons_zero, List.set_cons_succ, i64_w, i32_w]
              rfl
            refine pure_ (i := 15) (N := some 188) (v := ?_) (a' := ?_) #[true, true, true, true, true, true, true, true, true, true, true, true, true, true, true, true, false, false, false, false, false, false, false, false] rfl rfl (by kernel_rfl) (fun _ _ _ h => h) (Or.inl ⟨by rfl, ?_⟩) ?_ ?_
            rotate_left
            · intro w'
              go_simp
              with_reducible rfl
            rotate_left
            · simp only [Act.put, List.setIfInBounds_toArray, List.set_cons_zero, List.set_cons_succ, i64_w, i32_w]
              rfl
            refine pure_ (i := 17) (N := some 190) (v := ?_) (a' := ?_) #[true, true, true, true, true, true, true, true, true, true, true, true, true, true, true, true, false, true, false, false, false, false, false, false] rfl rfl (by kernel_rfl) (fun _ _ _ h => h) (Or.inl ⟨by rfl, ?_⟩) ?_ ?_
            rotate_left
            · intro w'
              go_simp
              with_reducible rfl
            rotate_left
            · simp only [Act.put, List.setIfInBounds_toArray, List.set_cons_zero, List.set_cons_succ, i64_w, i32_w]
              rfl
            refine pure_ (i := 18) (N := some 191) (v := ?_) (a' := ?_) #[true, true, true, true, true, true, true, true, true, true, true, true, true, true, true, true, false, true, true, false, false, false, false, false] rfl rfl (by kernel_rfl) (fun _ _ _ h => h) (Or.inl ⟨by rfl, ?_⟩) ?_ ?_
            rotate_left
            · intro w'
              go_simp
              with_reducible rfl
            rotate_left
            · simp only [Act.put, List.setIfInBounds_toArray, List.set_cons_zero, List.set_cons_succ, i64_w, i32_w]
              rfl
            refine pure_ (i := 19) (N := some 192) (v := ?_) (a' := ?_) #[true, true, true, true, true, true, true, true, true, true, true, true, true, true, true, true, false, true, true, true, false, false, false, false] rfl rfl (by kernel_rfl) (fun _ _ _ h => h) (Or.inl ⟨by rfl, ?_⟩) ?_ ?_
            rotate_left
            · intro w'
              go_simp
              with_reducible rfl
            rotate_left
            · simp only [Act.put, List.setIfInBounds_toArray, List.set_cons_zero, List.set_cons_succ, i64_w, i32_w]
              rfl
            refine take_ (i := 16) (N := some 189) (v := ?_) (a' := ?_) #[true, true, true, true, true, true, true, true, true, true, true, true, true, true, true, true, true, true, true, true, false, false, false, false] rfl rfl (by kernel_rfl) (fun _ _ _ h => h) (Or.inl ⟨by rfl, ?_⟩) hHeld ?_ ?_
            rotate_left
            · rintro w' ⟨s0, s1⟩
              go_simp
              with_reducible rfl
            rotate_left
            · simp only [Act.put, List.setIfInBounds_toArray, List.set_cons_zero, List.set_cons_succ, i64_w, i32_w]
              rfl
            refine take_ (i := 20) (N := some 193) (v := ?_) (a' := ?_) #[true, true, true, true, true, true, true, true, true, true, true, true, true, true, true, true, true, true, true, true, true, false, false, false] rfl rfl (by kernel_rfl) (fun _ _ _ h => h) (Or.inl ⟨by rfl, ?_⟩) hHeld ?_ ?_
            rotate_left
            · rintro w' ⟨s0, s1⟩
              go_simp
              with_reducible rfl
            rotate_left
            · simp only [Act.put, List.setIfInBounds_toArray, List.set_cons_zero, List.set_cons_succ, i64_w, i32_w]
              rfl
            refine pure_ (i := 21) (N := some 194) (v := ?_) (a' := ?_) #[true, true, true, true, true, true, true, true, true, true, true, true, true, true, true, true, true, true, true, true, true, true, false, false] rfl rfl (by kernel_rfl) (fun _ _ _ h => h) (Or.inl ⟨by rfl, ?_⟩) ?_ ?_
            rotate_left
            · intro w'
              go_simp
              with_reducible rfl
            rotate_left
            · simp only [Act.put, List.setIfInBounds_toArray, List.set_cons_zero, List.set_cons_succ, i64_w, i32_w]
              rfl
            refine pure_ (i := 22) (N := some 195) (v := ?_) (a' := ?_) #[true, true, true, true, true, true, true, true, true, true, true, true, true, true, true, true, true, true, true, true, true, true, true, false] rfl rfl (by kernel_rfl) (fun _ _ _ h => h) (Or.inl ⟨by rfl, ?_⟩) ?_ ?_
            rotate_left
            · intro w'
              go_simp
              with_reducible rfl
            rotate_left
            · simp only [Act.put, List.setIfInBounds_toArray, List.set_cons_zero, List.set_cons_succ, i64_w, i32_w]
              rfl
            refine pure_ (i := 23) (N := some 196) (v := ?_) (a' := ?_) #[true, true, true, true, true, true, true, true, true, true, true, true, true, true, true, true, true, true, true, true, true, true, true, true] rfl rfl (by kernel_rfl) (fun _ _ _ h => h) (Or.inl ⟨by rfl, ?_⟩) ?_ ?_
            rotate_left
            · intro w'
              go_simp
              with_reducible rfl
            rotate_left
            · simp only [Act.put, List.setIfInBounds_toArray, List.set_cons_zero, List.set_cons_succ, i64_w, i32_w]
              rfl
            refine done_ (by kernel_rfl) ?_

            clear hHeld
            go_wp2
            go_roundw
            case rel => exact ⟨k + 1, by go_num, HK.out, ⟨HQ.out.below (below_drawn2 _)⟩, ⟨HV.out.below (below_drawn2 _)⟩⟩
            case measure =>
              have := HK.out
              simp [intOf]; omega
          · have d2 : decide ((r0 : Int) ≤ (a : Int)) = true := decide_eq_true (by omega)
            have d2' : decide (r0 ≤ a) = true := decide_eq_true h1
            have d3 : decide ((a : Int) < (r0 : Int) + (tr : Int)) = true := decide_eq_true (by omega)
            have d3' : decide (a < r0 + tr) = true := decide_eq_true h2
            have d4 : decide ((c0 : Int) ≤ (b : Int)) = true := decide_eq_true (by omega)
            have d4' : decide (c0 ≤ b) = true := decide_eq_true h3
            have d5 : decide ((b : Int) < (c0 : Int) + (tc : Int)) = false := decide_eq_false (by omega)
            have d5' : decide (b < c0 + tc) = false := decide_eq_false h4
            have hy := HLa.out.out_l HTi.out HKab.out HbC.out (by omega)
            have hm1 := HV.out.at_ad k (by rw [HLa.out.len]; exact HK.out)
            have hm2 := (HL.out.below HQ.out.be).at_ad k HK.out
            rw [hy] at hm1
            generalize l.getD k 0 = v at *
            clear hy
            have q1 : (0 : Int) ≤ (k : Int) := by omega
            have q2 : (k : Int) < (l.length : Int) := by have := HK.out; omega
            clear h1 h2 h3 h4
            go_wp2_with fail
            clear e2 cC t0 t1 t2 t3 d2 d2' d3 d3' d4 d4' d5 d5'
            refine start_ (n := 24) (S := fun w' => w'.cell? (am.add k) = some (.int .u64 v) ∧ w'.cell? (ad.add k) = some (.int .u64 v)) (ds := []) #[false, false, false, false, false, false, false, false, false, false, false, false, false, false, false, false, false, false, false, false, false, false, false, false] (by kernel_rfl) rfl rfl ⟨hm1, hm2⟩ (fun hHeld => ?_)
            refine pure_ (i := 0) (N := some 173) (v := ?_) (a' := ?_) #[true, false, false, false, false, false, false, false, false, false, false, false, false, false, false, false, false, false, false, false, false, false, false, false] rfl rfl (by kernel_rfl) (fun _ _ _ h => h) (Or.inl ⟨by rfl, ?_⟩) ?_ ?_
            rotate_left
            · intro w'
              go_simp
              with_reducible rfl
            rotate_left
            · simp only [Act.put, List.setIfInBounds_toArray, List.set_cons_zero, List.set_cons_succ, i64_w, i32_w]
              rfl
            refine pure_ (i := 1) (N := some 174) (v := ?_) (a' := ?_) #[true, true, false, false, false, false, false, false, false, false, false, false, false, false, false, false, false, false, false, false, false, false, false, false] rfl rfl (by kernel_rfl) (fun _ _ _ h => h) (Or.inl ⟨by rfl, ?_⟩) ?_ ?_
            rotate_left
            · intro w'
              go_simp
              with_reducible rfl
            rotate_left
            · simp only [Act.put, List.setIfInBounds_toArray, List.set_cons_zero, List.set_cons_succ, i64_w, i32_w]
              rfl
            refine pure_ (i := 2) (N := some 175) (v := undef) (a' := ?_) #[true, true, true, false, false, false, false, false, false, false, false, false, false, false, false, false, false, false, false, false, false, false, false, false] rfl rfl (by kernel_rfl) (fun _ _ _ h => h) (Or.inr ⟨by rfl, rfl⟩) ?_ ?_
            rotate_left
            · simp only [Act.put, List.setIfInBounds_toArray, List.set_cons_zero, List.set_cons_succ, i64_w, i32_w]
              rfl
            refine pure_ (i := 3) (N := some 176) (v := undef) (a' := ?_) #[true, true, true, true, false, false, false, false, false, false, false, false, false, false, false, false, false, false, false, false, false, false, false, false] rfl rfl (by kernel_rfl) (fun _ _ _ h => h) (Or.inr ⟨by rfl, rfl⟩) ?_ ?_
            rotate_left
            · simp only [Act.put, List.setIfInBounds_toArray, List.set_cons_zero, List.set_cons_succ, i64_w, i32_w]
              rfl
            refine pure_ (i := 4) (N := some 177) (v := undef) (a' := ?_) #[true, true, true, true, true, false, false, false, false, false, false, false, false, false, false, false, false, false, false, false, false, false, false, false] rfl rfl (by kernel_rfl) (fun _ _ _ h => h) (Or.inr ⟨by rfl, rfl⟩) ?_ ?_
            rotate_left
            · simp only [Act.put, List.setIfInBounds_toArray, List.set_cons_zero, List.set_cons_succ, i64_w, i32_w]
              rfl
            refine pure_ (i := 5) (N := some 178) (v := undef) (a' := ?_) #[true, true, true, true, true, true, false, false, false, false, false, false, false, false, false, false, false, false, false, false, false, false, false, false] rfl rfl (by kernel_rfl) (fun _ _ _ h => h) (Or.inr ⟨by rfl, rfl⟩) ?_ ?_
            rotate_left
            · simp only [Act.put, List.setIfInBounds_toArray, List.set_cons_zero, List.set_cons_succ, i64_w, i32_w]
              rfl
            refine pure_ (i := 6) (N := some 179) (v := undef) (a' := ?_) #[true, true, true, true, true, true, true, false, false, false, false, false, false, false, false, false, false, false, false, false, false, false, false, false] rfl rfl (by kernel_rfl) (fun _ _ _ h => h) (Or.inr ⟨by rfl, rfl⟩) ?_ ?_
            rotate_left
            · simp only [Act.put, List.setIfInBounds_toArray, List.set_cons_zero, List.set_cons_succ, i64_w, i32_w]
              rfl
            refine pure_ (i := 7) (N := some 180) (v := undef) (a' := ?_) #[true, true, true, true, true, true, true, true, false, false, false, false, false, false, false, false, false, false, false, false, false, false, false, false] rfl rfl (by kernel_rfl) (fun _ _ _ h => h) (Or.inr ⟨by rfl, rfl⟩) ?_ ?_
            rotate_left
            · simp only [Act.put, List.setIfInBounds_toArray, List.set_cons_zero, List.set_cons_succ, i64_w, i32_w]
              rfl
            refine pure_ (i := 8) (N := some 181) (v := ?_) (a' := ?_) #[true, true, true, true, true, true, true, true, true, false, false, false, false, false, false, false, false, false, false, false, false, false, false, false] rfl rfl (by kernel_rfl) (fun _ _ _ h => h) (Or.inl ⟨by rfl, ?_⟩) ?_ ?_
            rotate_left
            · intro w'
              go_simp
              with_reducible rfl
            rotate_left
            · simp only [Act.put, List.setIfInBounds_toArray, List.set_cons_zero, List.set_cons_succ, i64_w, i32_w]
              rfl
            refine pure_ (i := 9) (N := some 182) (v := ?_) (a' := ?_) #[true, true, true, true, true, true, true, true, true, true, false, false, false, false, false, false, false, false, false, false, false, false, false, false] rfl rfl (by kernel_rfl) (fun _ _ _ h => h) (Or.inl ⟨by rfl, ?_⟩) ?_ ?_
            rotate_left
            · intro w'
              go_simp
              with_reducible rfl
            rotate_left
            · simp only [Act.put, List.setIfInBounds_toArray, List.set_cons_zero, List.set_cons_succ, i64_w, i32_w]
              rfl
            refine pure_ (i := 10) (N := some 183) (v := ?_) (a' := ?_) #[true, true, true, true, true, true, true, true, true, true, true, false, false, false, false, false, false, false, false, false, false, false, false, false] rfl rfl (by kernel_rfl) (fun _ _ _ h => h) (Or.inl ⟨by rfl, ?_⟩) ?_ ?_
            rotate_left
            · intro w'
              go_simp
              with_reducible rfl
            rotate_left
            · simp only [Act.put, List.setIfInBounds_toArray, List.set_cons_zero, List.set_cons_succ, i64_w, i32_w]
              rfl
            refine pure_ (i := 11) (N := some 184) (v := ?_) (a' := ?_) #[true, true, true, true, true, true, true, true, true, true, true, true, false, false, false, false, false, false, false, false, false, false, false, false] rfl rfl (by kernel_rfl) (fun _ _ _ h => h) (Or.inl ⟨by rfl, ?_⟩) ?_ ?_
            rotate_left
            · intro w'
              go_simp
              with_reducible rfl
            rotate_left
            · simp only [Act.put, List.setIfInBounds_toArray, List.set_cons_zero, List.set_cons_succ, i64_w, i32_w]
              rfl
            refine pure_ (i := 12) (N := some 185) (v := ?_) (a' := ?_) #[true, true, true, true, true, true, true, true, true, true, true, true, true, false, false, false, false, false, false, false, false, false, false, false] rfl rfl (by kernel_rfl) (fun _ _ _ h => h) (Or.inl ⟨by rfl, ?_⟩) ?_ ?_
            rotate_left
            · intro w'
              go_simp
              with_reducible rfl
            rotate_left
            · simp only [Act.put, List.setIfInBounds_toArray, List.set_cons_zero, List.set_cons_succ, i64_w, i32_w]
              rfl
            refine pure_ (i := 13) (N := some 186) (v := ?_) (a' := ?_) #[true, true, true, true, true, true, true, true, true, true, true, true, true, true, false, false, false, false, false, false, false, false, false, false] rfl rfl (by kernel_rfl) (fun _ _ _ h => h) (Or.inl ⟨by rfl, ?_⟩) ?_ ?_
            rotate_left
            · intro w'
              go_simp
              with_reducible rfl
            rotate_left
            · simp only [Act.put, List.setIfInBounds_toArray, List.set_cons_zero, List.set_cons_succ, i64_w, i32_w]
              rfl
            refine pure_ (i := 14) (N := some 187) (v := ?_) (a' := ?_) #[true, true, true, true, true, true, true, true, true, true, true, true, true, true, true, false, false, false, false, false, false, false, false, false] rfl rfl (by kernel_rfl) (fun _ _ _ h => h) (Or.inl ⟨by rfl, ?_⟩) ?_ ?_
            rotate_left
            · intro w'
              go_simp
              with_reducible rfl
            rotate_left
            · simp only [Act.put, List.setIfInBounds_toArray, List.set_cons_zero, List.set_cons_succ, i64_w, i32_w]
              rfl
            refine pure_ (i := 15) (N := some 188) (v := ?_) (a' := ?_) #[true, true, true, true, true, true, true, true, true, true, true, true, true, true, true, true, false, false, false, false, false, false, false, false] rfl rfl (by kernel_rfl) (fun _ _ _ h => h) (Or.inl ⟨by rfl, ?_⟩) ?_ ?_
            rotate_left
            · intro w'
              go_simp
              with_reducible rfl
            rotate_left
            · simp only [Act.put, List.setIfInBounds_toArray, List.set_cons_zero, List.set_cons_succ, i64_w, i32_w]
              rfl
            refine pure_ (i := 17) (N := some 190) (v := ?_) (a' := ?_) #[true, true, true, true, true, true, true, true, true, true, true, true, true, true, true, true, false, true, false, false, false, false, false, false] rfl rfl (by kernel_rfl) (fun _ _ _ h => h) (Or.inl ⟨by rfl, ?_⟩) ?_ ?_
            rotate_left
            · intro w'
              go_simp
              with_reducible rfl
            rotate_left
            · simp only [Act.put, List.setIfInBounds_toArray, List.set_cons_zero, List.set_cons_succ, i64_w, i32_w]
              rfl
            refine pure_ (i := 18) (N := some 191) (v := ?_) (a' := ?_) #[true, true, true, true, true, true, true, true, true, true, true, true, true, true, true, true, false, true, true, false, false, false, false, false] rfl rfl (by kernel_rfl) (fun _ _ _ h => h) (Or.inl ⟨by rfl, ?_⟩) ?_ ?_
            rotate_left
            · intro w'
              go_simp
              with_reducible rfl
            rotate_left
            · simp only [Act.put, List.setIfInBounds_toArray, List.set_cons_zero, List.set_cons_succ, i64_w, i32_w]
              rfl
            refine pure_ (i := 19) (N := some 192) (v := ?_) (a' := ?_) #[true, true, true, true, true, true, true, true, true, true, true, true, true, true, true, true, false, true, true, true, false, false, false, false] rfl rfl (by kernel_rfl) (fun _ _ _ h => h) (Or.inl ⟨by rfl, ?_⟩) ?_ ?_
            rotate_left
            · intro w'
              go_simp
              with_reducible rfl
            rotate_left
            · simp only [Act.put, List.setIfInBounds_toArray, List.set_cons_zero, List.set_cons_succ, i64_w, i32_w]
              rfl
            refine take_ (i := 16) (N := some 189) (v := ?_) (a' := ?_) #[true, true, true, true, true, true, true, true, true, true, true, true, true, true, true, true, true, true, true, true, false, false, false, false] rfl rfl (by kernel_rfl) (fun _ _ _ h => h) (Or.inl ⟨by rfl, ?_⟩) hHeld ?_ ?_
            rotate_left
            · rintro w' ⟨s0, s1⟩
              go_simp
              with_reducible rfl
            rotate_left
            · simp only [Act.put, List.setIfInBounds_toArray, List.set_cons_zero, List.set_cons_succ, i64_w, i32_w]
              rfl
            refine take_ (i := 20) (N := some 193) (v := ?_) (a' := ?_) #[true, true, true, true, true, true, true, true, true, true, true, true, true, true, true, true, true, true, true, true, true, false, false, false] rfl rfl (by kernel_rfl) (fun _ _ _ h => h) (Or.inl ⟨by rfl, ?_⟩) hHeld ?_ ?_
            rotate_left
            · rintro w' ⟨s0, s1⟩
              go_simp
              with_reducible rfl
            rotate_left
            · simp only [Act.put, List.setIfInBounds_toArray, List.set_cons_zero, List.set_cons_succ, i64_w, i32_w]
              rfl
            refine pure_ (i := 21) (N := some 194) (v := ?_) (a' := ?_) #[true, true, true, true, true, true, true, true, true, true, true, true, true, true, true, true, true, true, true, true, true, true, false, false] rfl rfl (by kernel_rfl) (fun _ _ _ h => h) (Or.inl ⟨by rfl, ?_⟩) ?_ ?_
            rotate_left
            · intro w'
              go_simp
              with_reducible rfl
            rotate_left
            · simp only [Act.put, List.setIfInBounds_toArray, List.set_cons_zero, List.set_cons_succ, i64_w, i32_w]
              rfl
            refine pure_ (i := 22) (N := some 195) (v := ?_) (a' := ?_) #[true, true, true, true, true, true, true, true, true, true, true, true, true, true, true, true, true, true, true, true, true, true, true, false] rfl rfl (by kernel_rfl) (fun _ _ _ h => h) (Or.inl ⟨by rfl, ?_⟩) ?_ ?_
            rotate_left
            · intro w'
              go_simp
              with_reducible rfl
            rotate_left
            · simp only [Act.put, List.setIfInBounds_toArray, List.set_cons_zero, List.set_cons_succ, i64_w, i32_w]
              rfl
            refine pure_ (i := 23) (N := some 196) (v := ?_) (a' := ?_) #[true, true, true, true, true, true, true, true, true, true, true, true, true, true, true, true, true, true, true, true, true, true, true, true] rfl rfl (by kernel_rfl) (fun _ _ _ h => h) (Or.inl ⟨by rfl, ?_⟩) ?_ ?_
            rotate_left
            · intro w'
              go_simp
              with_reducible rfl
            rotate_left
            · simp only [Act.put, List.setIfInBounds_toArray, List.set_cons_zero, List.set_cons_succ, i64_w, i32_w]
              rfl
            refine done_ (by kernel_rfl) ?_

            clear hHeld
            go_wp2
            go_roundw
            case rel => exact ⟨k + 1, by go_num, HK.out, ⟨HQ.out.below (below_drawn2 _)⟩, ⟨HV.out.below (below_drawn2 _)⟩⟩
            case measure =>
              have := HK.out
              simp [intOf]; omega
          · have d2 : decide ((r0 : Int) ≤ (a : Int)) = true := decide_eq_true (by omega)
            have d2' : decide (r0 ≤ a) = true := decide_eq_true h1
            have d3 : decide ((a : Int) < (r0 : Int) + (tr : Int)) = true := decide_eq_true (by omega)
            have d3' : decide (a < r0 + tr) = true := decide_eq_true h2
            have d4 : decide ((c0 : Int) ≤ (b : Int)) = true := decide_eq_true (by omega)
            have d4' : decide (c0 ≤ b) = true := decide_eq_true h3
            have d5 : decide ((b : Int) < (c0 : Int) + (tc : Int)) = true := decide_eq_true (by omega)
            have d5' : decide (b < c0 + tc) = true := decide_eq_true h4
            have hy := HLa.out.in_x HMx.out HTi.out HKab.out h1 h2 h3 h4
            have hm1 := HV.out.at_ad k (by rw [HLa.out.len]; exact HK.out)
            rw [hy] at hm1
            clear hy
            have q1 : (0 : Int) ≤ (k : Int) := by omega
            have q2 : (k : Int) < (l.length : Int) := by have := HK.out; omega
            clear h1 h2 h3 h4
            go_wp2_with fail
            clear e2 cC t0 t1 t2 t3 d2 d2' d3 d3' d4 d4' d5 d5'
            refine start_ (n := 24) (S := fun w' => w'.cell? (am.add k) = some (.int .u64 x)) (ds := []) #[false, false, false, false, false, false, false, false, false, false, false, false, false, false, false, false, false, false, false, false, false, false, false, false] (by kernel_rfl) rfl rfl (hm1) (fun hHeld => ?_)
            refine pure_ (i := 0) (N := some 173) (v := ?_) (a' := ?_) #[true, false, false, false, false, false, false, false, false, false, false, false, false, false, false, false, false, false, false, false, false, false, false, false] rfl rfl (by kernel_rfl) (fun _ _ _ h => h) (Or.inl ⟨by rfl, ?_⟩) ?_ ?_
            rotate_left
            · intro w'
              go_simp
              with_reducible rfl
            rotate_left
            · simp only [Act.put, List.setIfInBounds_toArray, List.set_cons_zero, List.set_cons_succ, i64_w, i32_w]
              rfl
            refine pure_ (i := 1) (N := some 174) (v := ?_) (a' := ?_) #[true, true, false, false, false, false, false, false, false, false, false, false, false, false, false, false, false, false, false, false, false, false, false, false] rfl rfl (by kernel_rfl) (fun _ _ _ h => h) (Or.inl ⟨by rfl, ?_⟩) ?_ ?_
            rotate_left
            · intro w'
              go_simp
              with_reducible rfl
            rotate_left
            · simp only [Act.put, List.setIfInBounds_toArray, List.set_cons_zero, List.set_cons_succ, i64_w, i32_w]
              rfl
            refine pure_ (i := 2) (N := some 175) (v := ?_) (a' := ?_) #[true, true, true, false, false, false, false, false, false, false, false, false, false, false, false, false, false, false, false, false, false, false, false, false] rfl rfl (by kernel_rfl) (fun _ _ _ h => h) (Or.inl ⟨by rfl, ?_⟩) ?_ ?_
            rotate_left
            · intro w'
              go_simp
              with_reducible rfl
            rotate_left
            · simp only [Act.put, List.setIfInBounds_toArray, List.set_cons_zero, List.set_cons_succ, i64_w, i32_w]
              rfl
            refine pure_ (i := 3) (N := some 176) (v := ?_) (a' := ?_) #[true, true, true, true, false, false, false, false, false, false, false, false, false, false, false, false, false, false, false, false, false, false, false, false] rfl rfl (by kernel_rfl) (fun _ _ _ h => h) (Or.inl ⟨by rfl, ?_⟩) ?_ ?_
            rotate_left
            · intro w'
              go_simp
              with_reducible rfl
            rotate_left
            · simp only [Act.put, List.setIfInBounds_toArray, List.set_cons_zero, List.set_cons_succ, i64_w, i32_w]
              rfl
            refine pure_ (i := 4) (N := some 177) (v := ?_) (a' := ?_) #[true, true, true, true, true, false, false, false, false, false, false, false, false, false, false, false, false, false, false, false, false, false, false, false] rfl rfl (by kernel_rfl) (fun _ _ _ h => h) (Or.inl ⟨by rfl, ?_⟩) ?_ ?_
            rotate_left
            · intro w'
              go_simp
              with_reducible rfl
            rotate_left
            · simp only [Act.put, List.setIfInBounds_toArray, List.set_cons_zero, List.set_cons_succ, i64_w, i32_w]
              rfl
            refine pure_ (i := 6) (N := some 179) (v := ?_) (a' := ?_) #[true, true, true, true, true, false, true, false, false, false, false, false, false, false, false, false, false, false, false, false, false, false, false, false] rfl rfl (by kernel_rfl) (fun _ _ _ h => h) (Or.inl ⟨by rfl, ?_⟩) ?_ ?_
            rotate_left
            · intro w'
              go_simp
              with_reducible rfl
            rotate_left
            · simp only [Act.put, List.setIfInBounds_toArray, List.set_cons_zero, List.set_cons_succ, i64_w, i32_w]
              rfl
            refine take_ (i := 5) (N := some 178) (v := ?_) (a' := ?_) #[true, true, true, true, true, true, true, false, false, false, false, false, false, false, false, false, false, false, false, false, false, false, false, false] rfl rfl (by kernel_rfl) (fun _ _ _ h => h) (Or.inl ⟨by rfl, ?_⟩) hHeld ?_ ?_
            rotate_left
            · intro w' s0
              go_simp
              with_reducible rfl
            rotate_left
            · simp only [Act.put, List.setIfInBounds_toArray, List.set_cons_zero, List.set_cons_succ, i64_w, i32_w]
              rfl
            refine pure_ (i := 7) (N := some 180) (v := ?_) (a' := ?_) #[true, true, true, true, true, true, true, true, false, false, false, false, false, false, false, false, false, false, false, false, false, false, false, false] rfl rfl (by kernel_rfl) (fun _ _ _ h => h) (Or.inl ⟨by rfl, ?_⟩) ?_ ?_
            rotate_left
            · intro w'
              go_simp
              with_reducible rfl
            rotate_left
            · simp only [Act.put, List.setIfInBounds_toArray, List.set_cons_zero, List.set_cons_succ, i64_w, i32_w]
              rfl
            refine pure_ (i := 8) (N := some 181) (v := ?_) (a' := ?_) #[true, true, true, true, true, true, true, true, true, false, false, false, false, false, false, false, false, false, false, false, false, false, false, false] rfl rfl (by kernel_rfl) (fun _ _ _ h => h) (Or.inl ⟨by rfl, ?_⟩) ?_ ?_
            rotate_left
            · intro w'
              go_simp
              with_reducible rfl
            rotate_left
            · simp only [Act.put, List.setIfInBounds_toArray, List.set_cons_zero, List.set_cons_succ, i64_w, i32_w]
              rfl
            refine pure_ (i := 9) (N := some 182) (v := ?_) (a' := ?_) #[true, true, true, true, true, true, true, true, true, true, false, false, false, false, false, false, false, false, false, false, false, false, false, false] rfl rfl (by kernel_rfl) (fun _ _ _ h => h) (Or.inl ⟨by rfl, ?_⟩) ?_ ?_
            rotate_left
            · intro w'
              go_simp
              with_reducible rfl
            rotate_left
            · simp only [Act.put, List.setIfInBounds_toArray, List.set_cons_zero, List.set_cons_succ, i64_w, i32_w]
              rfl
            refine pure_ (i := 10) (N := some 183) (v := ?_) (a' := ?_) #[true, true, true, true, true, true, true, true, true, true, true, false, false, false, false, false, false, false, false, false, false, false, false, false] rfl rfl (by kernel_rfl) (fun _ _ _ h => h) (Or.inl ⟨by rfl, ?_⟩) ?_ ?_
            rotate_left
            · intro w'
              go_simp
              with_reducible rfl
            rotate_left
            · simp only [Act.put, List.setIfInBounds_toArray, List.set_cons_zero, List.set_cons_succ, i64_w, i32_w]
              rfl
            refine pure_ (i := 11) (N := some 184) (v := ?_) (a' := ?_) #[true, true, true, true, true, true, true, true, true, true, true, true, false, false, false, false, false, false, false, false, false, false, false, false] rfl rfl (by kernel_rfl) (fun _ _ _ h => h) (Or.inl ⟨by rfl, ?_⟩) ?_ ?_
            rotate_left
            · intro w'
              go_simp
              with_reducible rfl
            rotate_left
            · simp only [Act.put, List.setIfInBounds_toArray, List.set_cons_zero, List.set_cons_succ, i64_w, i32_w]
              rfl
            refine pure_ (i := 12) (N := some 185) (v := ?_) (a' := ?_) #[true, true, true, true, true, true, true, true, true, true, true, true, true, false, false, false, false, false, false, false, false, false, false, false] rfl rfl (by kernel_rfl) (fun _ _ _ h => h) (Or.inl ⟨by rfl, ?_⟩) ?_ ?_
            rotate_left
            · intro w'
              go_simp
              with_reducible rfl
            rotate_left
            · simp only [Act.put, List.setIfInBounds_toArray, List.set_cons_zero, List.set_cons_succ, i64_w, i32_w]
              rfl
            refine pure_ (i := 13) (N := some 186) (v := undef) (a' := ?_) #[true, true, true, true, true, true, true, true, true, true, true, true, true, true, false, false, false, false, false, false, false, false, false, false] rfl rfl (by kernel_rfl) (fun _ _ _ h => h) (Or.inr ⟨by rfl, rfl⟩) ?_ ?_
            rotate_left
            · simp only [Act.put, List.setIfInBounds_toArray, List.set_cons_zero, List.set_cons_succ, i64_w, i32_w]
              rfl
            refine pure_ (i := 14) (N := some 187) (v := undef) (a' := ?_) #[true, true, true, true, true, true, true, true, true, true, true, true, true, true, true, false, false, false, false, false, false, false, false, false] rfl rfl (by kernel_rfl) (fun _ _ _ h => h) (Or.inr ⟨by rfl, rfl⟩) ?_ ?_
            rotate_left
            · simp only [Act.put, List.setIfInBounds_toArray, List.set_cons_zero, List.set_cons_succ, i64_w, i32_w]
              rfl
            refine pure_ (i := 15) (N := some 188) (v := undef) (a' := ?_) #[true, true, true, true, true, true, true, true, true, true, true, true, true, true, true, true, false, false, false, false, false, false, false, false] rfl rfl (by kernel_rfl) (fun _ _ _ h => h) (Or.inr ⟨by rfl, rfl⟩) ?_ ?_
            rotate_left
            · simp only [Act.put, List.setIfInBounds_toArray, List.set_cons_zero, List.set_cons_succ, i64_w, i32_w]
              rfl
            refine pure_ (i := 16) (N := some 189) (v := undef) (a' := ?_) #[true, true, true, true, true, true, true, true, true, true, true, true, true, true, true, true, true, false, false, false, false, false, false, false] rfl rfl (by kernel_rfl) (fun _ _ _ h => h) (Or.inr ⟨by rfl, rfl⟩) ?_ ?_
            rotate_left
            · simp only [Act.put, List.setIfInBounds_toArray, List.set_cons_zero, List.set_cons_succ, i64_w, i32_w]
              rfl
            refine pure_ (i := 17) (N := some 190) (v := undef) (a' := ?_) #[true, true, true, true, true, true, true, true, true, true, true, true, true, true, true, true, true, true, false, false, false, false, false, false] rfl rfl (by kernel_rfl) (fun _ _ _ h => h) (Or.inr ⟨by rfl, rfl⟩) ?_ ?_
            rotate_left
            · simp only [Act.put, List.setIfInBounds_toArray, List.set_cons_zero, List.set_cons_succ, i64_w, i32_w]
              rfl
            refine pure_ (i := 18) (N := some 191) (v := undef) (a' := ?_) #[true, true, true, true, true, true, true, true, true, true, true, true, true, true, true, true, true, true, true, false, false, false, false, false] rfl rfl (by kernel_rfl) (fun _ _ _ h => h) (Or.inr ⟨by rfl, rfl⟩) ?_ ?_
            rotate_left
            · simp only [Act.put, List.setIfInBounds_toArray, List.set_cons_zero, List.set_cons_succ, i64_w, i32_w]
              rfl
            refine pure_ (i := 19) (N := some 192) (v := undef) (a' := ?_) #[true, true, true, true, true, true, true, true, true, true, true, true, true, true, true, true, true, true, true, true, false, false, false, false] rfl rfl (by kernel_rfl) (fun _ _ _ h => h) (Or.inr ⟨by rfl, rfl⟩) ?_ ?_
            rotate_left
            · simp only [Act.put, List.setIfInBounds_toArray, List.set_cons_zero, List.set_cons_succ, i64_w, i32_w]
              rfl
            refine pure_ (i := 20) (N := some 193) (v := undef) (a' := ?_) #[true, true, true, true, true, true, true, true, true, true, true, true, true, true, true, true, true, true, true, true, true, false, false, false] rfl rfl (by kernel_rfl) (fun _ _ _ h => h) (Or.inr ⟨by rfl, rfl⟩) ?_ ?_
            rotate_left
            · simp only [Act.put, List.setIfInBounds_toArray, List.set_cons_zero, List.set_cons_succ, i64_w, i32_w]
              rfl
            refine pure_ (i := 21) (N := some 194) (v := undef) (a' := ?_) #[true, true, true, true, true, true, true, true, true, true, true, true, true, true, true, true, true, true, true, true, true, true, false, false] rfl rfl (by kernel_rfl) (fun _ _ _ h => h) (Or.inr ⟨by rfl, rfl⟩) ?_ ?_
            rotate_left
            · simp only [Act.put, List.setIfInBounds_toArray, List.set_cons_zero, List.set_cons_succ, i64_w, i32_w]
              rfl
            refine pure_ (i := 22) (N := some 195) (v := ?_) (a' := ?_) #[true, true, true, true, true, true, true, true, true, true, true, true, true, true, true, true, true, true, true, true, true, true, true, false] rfl rfl (by kernel_rfl) (fun _ _ _ h => h) (Or.inl ⟨by rfl, ?_⟩) ?_ ?_
            rotate_left
            · intro w'
              go_simp
              with_reducible rfl
            rotate_left
            · simp only [Act.put, List.setIfInBounds_toArray, List.set_cons_zero, List.set_cons_succ, i64_w, i32_w]
              rfl
            refine pure_ (i := 23) (N := some 196) (v := ?_) (a' := ?_) #[true, true, true, true, true, true, true, true, true, true, true, true, true, true, true, true, true, true, true, true, true, true, true, true] rfl rfl (by kernel_rfl) (fun _ _ _ h => h) (Or.inl ⟨by rfl, ?_⟩) ?_ ?_
            rotate_left
            · intro w'
              go_simp
              with_reducible rfl
            rotate_left
            · simp only [Act.put, List.setIfInBounds_toArray, List.set_cons_zero, List.set_cons_succ, i64_w, i32_w]
              rfl
            refine done_ (by kernel_rfl) ?_

            clear hHeld
            go_wp2
            go_roundw
            case rel => exact ⟨k + 1, by go_num, HK.out, ⟨HQ.out.below (below_drawn2 _)⟩, ⟨HV.out.below (below_drawn2 _)⟩⟩
            case measure =>
              have := HK.out
              simp [intOf]; omega
        · obtain rfl : l.length = k := by omega
          have d1 : decide ((l.length : Int) < (l.length : Int)) = false := by simp
          have cC := HQ.out.box.cell 0
          go_wp2_with fail
          clear cC
          refine (lay_no p g q h R C tr tc R 0 ys zs _ HQ.out.blk HQ.out.prt (fun hh => by have := hh.2.2.2.2.2.1; have := HTi.out.pos; omega) (TabOK.below HT.out HQ.out.be)).mono ?_
          rintro e w12 ⟨rfl, hb⟩
          have HQc := Aside0.mk (HQ.out.below hb)
          clear hb HQ
          go_wp2
          go_ret
          exact ⟨rfl, HQc.out.be⟩
end Go.Proofs.YthppiphldaopnaaDoor.Obj
