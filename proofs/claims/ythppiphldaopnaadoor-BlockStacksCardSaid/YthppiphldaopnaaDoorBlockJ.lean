import Derived.Test.YthppiphldaopnaaDoorBlockI
/-! Blocks: a block is laid into another one. -/
namespace Go.Proofs.YthppiphldaopnaaDoor.Obj
open Go.RowKit Go.Proofs.YthppiphldaopnaaDoor Go.Proofs.YthppiphldaopnaaDoor.Ext Go.Proofs.YthppiphldaopnaaDoor.PShape Go.Proofs.YthppiphldaopnaaDoor.PBlk Go.Proofs.YthppiphldaopnaaDoor.Pure Go.Proofs.YthppiphldaopnaaDoorW.PrintWords Go.Proofs.YthppiphldaopnaaDoorW.PrintLast Go.Proofs.YthppiphldaopnaaDoorW.PrintMore
set_option linter.unusedVariables false
set_option linter.unusedSimpArgs false
set_option maxRecDepth 100000

theorem part_no (p g : Nat) (R C tr tc r0 c0 : Int) (xs : List Int) (w : World) (h : Blo w p g R C xs) (hh : ¬ Lies R C tr tc r0 c0) (hT : TabOK w) :
    Calls Tryd.prog 44 #[.pointer (some ⟨p, 0, none⟩), .agg #[.int .i64 tr, .int .i64 tc, .int .i64 r0, .int .i64 c0]] w fun e w' => e = .returned (.tuple #[.pointer none, .int .i64 2]) ∧ Below w.heap.size w w' := by
  have hbe0 := below_alloc (Below.refl w.heap.size w) (Obj.cells #[.int .i64 tr, .int .i64 tc, .int .i64 r0, .int .i64 c0] 38)
  have HX := Aside0.mk (h.below hbe0)
  have HB := Aside0.mk (Bk.new w 38 [.int .i64 tr, .int .i64 tc, .int .i64 r0, .int .i64 c0])
  have HT := Aside0.mk (TabOK.below hT hbe0)
  have HBe0 := Aside0.mk hbe0
  have HL := Aside0.mk hh
  have t0 := HB.out.cell 0
  have t1 := HB.out.cell 1
  have t2 := HB.out.cell 2
  have t3 := HB.out.cell 3
  clear h hT hh hbe0
  go_enter Tryd.func44, Tryd.ntmps44
  go_wp2_with fail
  refine start_ (n := 6) (S := fun w' => w'.cell? ⟨w.heap.size, 0, none⟩ = some (.int .i64 tr) ∧ w'.cell? ⟨w.heap.size, 1, none⟩ = some (.int .i64 tc) ∧ w'.cell? ⟨w.heap.size, 2, none⟩ = some (.int .i64 r0) ∧ w'.cell? ⟨w.heap.size, 3, none⟩ = some (.int .i64 c0) ∧ Aside0 (Below w.heap.size w w' ∧ Blo w' p g R C xs ∧ Bk w' w.heap.size 38 [.int .i64 tr, .int .i64 tc, .int .i64 r0, .int .i64 c0] ∧ TabOK w')) (ds := []) #[false, false, false, false, false, false] (by kernel_rfl) rfl rfl ⟨t0, t1, t2, t3, ⟨below_drew1 HBe0.out, HX.out.below (below_drew1 (Below.refl _ _)), HB.out, HT.out.drew⟩⟩ (fun hHeld => ?_)
  refine pure_ (i := 0) (N := some 8) (v := ?_) (a' := ?_) #[true, false, false, false, false, false] rfl rfl (by kernel_rfl) (fun _ _ _ h => h) (Or.inl ⟨by rfl, ?_⟩) ?_ ?_
  rotate_left
  · intro w'
    go_simp
    with_reducible rfl
  rotate_left
  · simp only [Act.put, List.setIfInBounds_toArray, List.set_cons_zero, List.set_cons_succ, i64_w, i32_w]
    rfl
  refine pure_ (i := 1) (N := some 9) (v := ?_) (a' := ?_) #[true, true, false, false, false, false] rfl rfl (by kernel_rfl) (fun _ _ _ h => h) (Or.inl ⟨by rfl, ?_⟩) ?_ ?_
  rotate_left
  · intro w'
    go_simp
    with_reducible rfl
  rotate_left
  · simp only [Act.put, List.setIfInBounds_toArray, List.set_cons_zero, List.set_cons_succ, i64_w, i32_w]
    rfl
  refine pure_ (i := 2) (N := some 10) (v := ?_) (a' := ?_) #[true, true, true, false, false, false] rfl rfl (by kernel_rfl) (fun _ _ _ h => h) (Or.inl ⟨by rfl, ?_⟩) ?_ ?_
  rotate_left
  · intro w'
    go_simp
    with_reducible rfl
  rotate_left
  · simp only [Act.put, List.setIfInBounds_toArray, List.set_cons_zero, List.set_cons_succ, i64_w, i32_w]
    rfl
  refine take_ (i := 3) (N := some 11) (v := ?_) (a' := ?_) #[true, true, true, true, false, false] rfl rfl (by kernel_rfl) (fun _ _ _ h => h) (Or.inl ⟨by rfl, ?_⟩) hHeld ?_ ?_
  rotate_left
  · rintro w' ⟨s0, s1, s2, s3, s4⟩
    go_simp
    with_reducible rfl
  rotate_left
  · simp only [Act.put, List.setIfInBounds_toArray, List.set_cons_zero, List.set_cons_succ, i64_w, i32_w]
    rfl
  refine one_ (i := 4) (N := some 12) #[true, true, true, true, true, false] rfl rfl (by kernel_rfl) (by decide) (fun K hK => ?_)
  refine goes_ Tryd.func61 (by kernel_rfl) rfl #[.pointer (some ⟨p, 0, none⟩), .agg #[.int .i64 tr, .int .i64 tc, .int .i64 r0, .int .i64 c0]] (by rfl) rfl rfl (by simp only [List.map_toArray, List.map_cons, List.map_nil]; rfl) ?_
  with_reducible refine (holds_no p g R C tr tc r0 c0 xs _ hHeld.2.2.2.2.out.2.1 HL.out hHeld.2.2.2.2.out.2.2.2).mono ?_
  rintro e w1 ⟨rfl, hb⟩
  refine ⟨_, rfl, ?_⟩
  have nX := hHeld.2.2.2.2.out.2.1.below hb
  have nB := hHeld.2.2.2.2.out.2.2.1.below hb
  have nT := TabOK.below hHeld.2.2.2.2.out.2.2.2 hb
  have nE := below_step hHeld.2.2.2.2.out.1 hb
  clear hHeld hb
  refine hK.out _ _ ⟨nB.cell 0, nB.cell 1, nB.cell 2, nB.cell 3, ⟨nE, nX, nB, nT⟩⟩ (fun hHeld => ?_)
  clear hK K
  refine norm_ (a' := ?_) ?_ ?_
  rotate_left
  · show Act.put _ (some 12) _ = _
    simp only [Act.put, List.setIfInBounds_toArray, List.set_cons_zero, List.set_cons_succ, i64_w, i32_w]
    rfl
  refine pure_ (i := 5) (N := some 13) (v := ?_) (a' := ?_) #[true, true, true, true, true, true] rfl rfl (by kernel_rfl) (fun _ _ _ h => h) (Or.inl ⟨by rfl, ?_⟩) ?_ ?_
  rotate_left
  · intro w'
    go_simp
    with_reducible rfl
  rotate_left
  · simp only [Act.put, List.setIfInBounds_toArray, List.set_cons_zero, List.set_cons_succ, i64_w, i32_w]
    rfl
  refine done_ (by kernel_rfl) ?_

  have HS := hHeld.2.2.2.2
  clear hHeld
  go_wp2
  refine bodyPost_ret (v := .tuple #[.pointer none, .int .i64 2]) (by simp [results, Tryd.results44, go_sem]) rfl ?_
  exact ⟨rfl, HS.out.1⟩
theorem lay_nil (p : Nat) (r0 c0 : Int) (w : World) :
    Calls Tryd.prog 45 #[.pointer (some ⟨p, 0, none⟩), .int .i64 r0, .int .i64 c0, .pointer none] w fun e w' => e = .returned (.int .i64 1) ∧ Below w.heap.size w w' := by
  go_enter Tryd.func45, Tryd.ntmps45
  go_wp2
  go_ret
  exact ⟨rfl, Below.refl _ _⟩
/-- What a block holds when another one has been laid into it, as far as row i. -/
structure Laid (xs zs ys : List Int) (C tc r0 c0 i : Nat) : Prop where
  len : ys.length = xs.length
  in_ : ∀ a b, a < i → b < tc → ys.getD ((r0 + a) * C + c0 + b) 0 = zs.getD (a * tc + b) 0
  out : ∀ k, (∀ a b, a < i → b < tc → k ≠ (r0 + a) * C + c0 + b) → ys.getD k 0 = xs.getD k 0
theorem Laid.next {R C tr tc r0 c0 i at_ u : Nat} {xs zs ys : List Int} (h : Laid xs zs ys C tc r0 c0 i) (ht : Til R C tr tc r0 c0 xs.length) (hl : zs.length = tr * tc) (hi : i < tr) (ha : (r0 + i) * C + c0 = at_) (hu : i * tc = u) :
    Laid xs zs (splice ys at_ ((zs.drop u).take tc)) C tc r0 c0 (i + 1) := by
  have h1 := ht.in_ hi
  have h2 := ht.at_ hi
  have hlen := h.len
  have hy : ((zs.drop u).take tc).length = tc := len_part (by omega)
  refine ⟨(splice_len (by omega)).trans hlen, fun a b ha2 hb => ?_, fun k hk => ?_⟩
  · by_cases e : a = i
    · subst e
      rw [splice_in (by omega) (by omega) (by omega), show (r0 + a) * C + c0 + b - at_ = b by omega, getD_part hb, hu]
    · have h3 : (r0 + a) * C + C ≤ (r0 + i) * C := by
        have : (r0 + a + 1) * C ≤ (r0 + i) * C := Nat.mul_le_mul_right _ (by omega)
        rw [Nat.add_mul] at this
        omega
      have := ht.c
      rw [splice_out (by omega) (.inl (by omega))]
      exact h.in_ a b (by omega) hb
  · rw [splice_out (by omega) (by
      rcases Nat.lt_or_ge k at_ with h4 | h4
      · exact .inl h4
      · right
        rcases Nat.lt_or_ge k (at_ + tc) with h5 | h5
        · exact absurd (show k = (r0 + i) * C + c0 + (k - at_) by omega) (hk i (k - at_) (by omega) (by omega))
        · omega)]
    exact h.out k fun a b ha2 hb => hk a b (by omega) hb
theorem Til.mul1 {R C tr tc r0 c0 n i u : Nat} (ht : Til R C tr tc r0 c0 n) (hi : i < tr) (hu : i * tc = u) : ∃ m : Nat, wrap64 ((i : Int) + 1) = (m : Int) ∧ wrap64 ((m : Int) * (tc : Int)) = ((u + tc : Nat) : Int) := by
  have := ht.in_ hi
  have := ht.small
  have := ht.r
  have e : (i + 1) * tc = u + tc := by rw [Nat.add_mul, hu, Nat.one_mul]
  refine ⟨i + 1, wsum i 1 (by omega), ?_⟩
  rw [← e]
  exact wmul (i + 1) tc (by omega)
structure Lst (w0 w : World) (t p g q h gw cw : Nat) (R C tr tc r0 c0 : Nat) (ys zs : List Int) : Prop where
  blk : Blo w p g R C ys
  box : Bk w t 38 [.int .i64 tr, .int .i64 tc, .int .i64 r0, .int .i64 c0]
  other : Blo w q h tr tc zs
  row : Rs w gw cw zs
  fr : Fr w0 w [g]
  hgw : w0.heap.size ≤ gw
  hgt : w0.heap.size ≤ t
  ne : p ≠ q ∧ g ≠ h
  old : g < w0.heap.size ∧ p < w0.heap.size
theorem Lst.below {w0 w w' : World} {t p g q h gw cw R C tr tc r0 c0 : Nat} {ys zs : List Int} (k : Lst w0 w t p g q h gw cw R C tr tc r0 c0 ys zs) (hb : Below w.heap.size w w') : Lst w0 w' t p g q h gw cw R C tr tc r0 c0 ys zs :=
  ⟨k.blk.below hb, k.box.below hb, k.other.below hb, k.row.below hb, k.fr.trans (Fr.of_below hb [g]), k.hgw, k.hgt, k.ne, k.old⟩
theorem Lst.copied {w0 w w' : World} {t p g q h gw cw R C tr tc r0 c0 : Nat} {ys ys' zs : List Int} (k : Lst w0 w t p g q h gw cw R C tr tc r0 c0 ys zs) (hr : Rw w' g ys') (hl : ys'.length = ys.length) (hf : Fr w w' [g]) : Lst w0 w' t p g q h gw cw R C tr tc r0 c0 ys' zs :=
  ⟨⟨by rw [hl]; exact k.blk.obj.fr hf (by simpa using k.blk.ne), hr, k.blk.good, by rw [hl]; exact k.blk.len, by rw [hl]; exact k.blk.max⟩,
    k.box.fr hf (by simpa using k.box.ne k.blk.row (by decide)), k.other.fr hf (by simpa using k.other.obj.ne k.blk.row (by decide)) (by simpa using k.ne.2.symm),
    k.row.fr hf (by have := k.old; have := k.hgw; simp; omega), k.fr.trans hf, k.hgw, k.hgt, k.ne, k.old⟩
set_option maxHeartbeats 4000000 in
theorem lay_yes (p g q h R C tr tc r0 c0 : Nat) (xs zs : List Int) (w : World) (hx : Blo w p g R C xs) (hz : Blo w q h tr tc zs) (ht : Til R C tr tc r0 c0 xs.length) (hpq : p ≠ q) (hgh : g ≠ h) (hT : TabOK w) :
    Calls Tryd.prog 45 #[.pointer (some ⟨p, 0, none⟩), .int .i64 r0, .int .i64 c0, .pointer (some ⟨q, 0, none⟩)] w fun e w' => e = .returned (.int .i64 0) ∧ ∃ ys, Blo w' p g R C ys ∧ Laid xs zs ys C tc r0 c0 tr ∧ Fr w w' [g] := by
  have HX := Aside0.mk hx
  have HZ := Aside0.mk hz
  have HT := Aside0.mk hT
  have HTi := Aside0.mk ht
  have HNe := Aside0.mk (And.intro hpq hgh)
  have HLies : Aside0 (Lies R C tr tc r0 c0) := ⟨ht.good, by omega, by omega, by have := ht.r; omega, by have := ht.c; omega, by have := ht.r; omega, by have := ht.c; omega⟩
  have HOld := Aside0.mk (And.intro hx.row.lt hx.obj.lt)
  have q0 := hz.c0
  have q1 := hz.c1
  have hbe0 := below_alloc (Below.refl w.heap.size w) (Obj.cells #[.int .i64 (tr : Int), .int .i64 (tc : Int), .int .i64 (r0 : Int), .int .i64 (c0 : Int)] 38)
  have HX0 := Aside0.mk (hx.below hbe0)
  have HB := Aside0.mk (Bk.new w 38 [.int .i64 tr, .int .i64 tc, .int .i64 r0, .int .i64 c0])
  have HT0 := Aside0.mk (TabOK.below hT hbe0)
  have HBe0 := Aside0.mk hbe0
  have t0 := HB.out.cell 0
  have t1 := HB.out.cell 1
  have t2 := HB.out.cell 2
  have t3 := HB.out.cell 3
  clear hx hz hT ht hpq hgh hbe0
  go_enter Tryd.func45, Tryd.ntmps45
  go_wp2_with fail
  refine start_ (n := 6) (S := fun w' => w'.cell? ⟨w.heap.size, 0, none⟩ = some (.int .i64 (tr : Int)) ∧ w'.cell? ⟨w.heap.size, 1, none⟩ = some (.int .i64 (tc : Int)) ∧ w'.cell? ⟨w.heap.size, 2, none⟩ = some (.int .i64 (r0 : Int)) ∧ w'.cell? ⟨w.heap.size, 3, none⟩ = some (.int .i64 (c0 : Int)) ∧ Aside0 (Below w.heap.size w w' ∧ Blo w' p g R C xs ∧ Bk w' w.heap.size 38 [.int .i64 tr, .int .i64 tc, .int .i64 r0, .int .i64 c0])) (ds := []) #[false, false, false, false, false, false] (by kernel_rfl) rfl rfl ⟨t0, t1, t2, t3, ⟨below_drew1 HBe0.out, HX0.out.below (below_drew1 (Below.refl _ _)), HB.out⟩⟩ (fun hHeld => ?_)
  refine pure_ (i := 0) (N := some 22) (v := ?_) (a' := ?_) #[true, false, false, false, false, false] rfl rfl (by kernel_rfl) (fun _ _ _ h => h) (Or.inl ⟨by rfl, ?_⟩) ?_ ?_
  rotate_left
  · intro w'
    go_simp
    with_reducible rfl
  rotate_left
  · simp only [Act.put, List.setIfInBounds_toArray, List.set_cons_zero, List.set_cons_succ, i64_w, i32_w]
    rfl
  refine pure_ (i := 1) (N := some 23) (v := ?_) (a' := ?_) #[true, true, false, false, false, false] rfl rfl (by kernel_rfl) (fun _ _ _ h => h) (Or.inl ⟨by rfl, ?_⟩) ?_ ?_
  rotate_left
  · intro w'
    go_simp
    with_reducible rfl
  rotate_left
  · simp only [Act.put, List.setIfInBounds_toArray, List.set_cons_zero, List.set_cons_succ, i64_w, i32_w]
    rfl
  refine pure_ (i := 2) (N := some 24) (v := ?_) (a' := ?_) #[true, true, true, false, false, false] rfl rfl (by kernel_rfl) (fun _ _ _ h => h) (Or.inl ⟨by rfl, ?_⟩) ?_ ?_
  rotate_left
  · intro w'
    go_simp
    with_reducible rfl
  rotate_left
  · simp only [Act.put, List.setIfInBounds_toArray, List.set_cons_zero, List.set_cons_succ, i64_w, i32_w]
    rfl
  refine take_ (i := 3) (N := some 25) (v := ?_) (a' := ?_) #[true, true, true, true, false, false] rfl rfl (by kernel_rfl) (fun _ _ _ h => h) (Or.inl ⟨by rfl, ?_⟩) hHeld ?_ ?_
  rotate_left
  · rintro w' ⟨s0, s1, s2, s3, s4⟩
    go_simp
    with_reducible rfl
  rotate_left
  · simp only [Act.put, List.setIfInBounds_toArray, List.set_cons_zero, List.set_cons_succ, i64_w, i32_w]
    rfl
  refine one_ (i := 4) (N := some 26) #[true, true, true, true, true, false] rfl rfl (by kernel_rfl) (by decide) (fun K hK => ?_)
  refine goes_ Tryd.func61 (by kernel_rfl) rfl #[.pointer (some ⟨p, 0, none⟩), .agg #[.int .i64 tr, .int .i64 tc, .int .i64 r0, .int .i64 c0]] (by rfl) rfl rfl (by simp only [List.map_toArray, List.map_cons, List.map_nil]; rfl) ?_
  with_reducible refine (holds_yes p g R C tr tc r0 c0 xs _ hHeld.2.2.2.2.out.2.1 HLies.out HT0.out.drew).mono ?_
  rintro e w1 ⟨rfl, hb⟩
  refine ⟨_, rfl, ?_⟩
  have nX := hHeld.2.2.2.2.out.2.1.below hb
  have nB := hHeld.2.2.2.2.out.2.2.below hb
  have nE := below_step hHeld.2.2.2.2.out.1 hb
  clear hHeld hb
  refine hK.out _ _ ⟨nB.cell 0, nB.cell 1, nB.cell 2, nB.cell 3, ⟨nE, nX, nB⟩⟩ (fun hHeld => ?_)
  clear hK K
  refine norm_ (a' := ?_) ?_ ?_
  rotate_left
  · show Act.put _ (some 26) _ = _
    simp only [Act.put, List.setIfInBounds_toArray, List.set_cons_zero, List.set_cons_succ, i64_w, i32_w]
    rfl
  refine pure_ (i := 5) (N := some 27) (v := ?_) (a' := ?_) #[true, true, true, true, true, true] rfl rfl (by kernel_rfl) (fun _ _ _ h => h) (Or.inl ⟨by rfl, ?_⟩) ?_ ?_
  rotate_left
  · intro w'
    go_simp
    with_reducible rfl
  rotate_left
  · simp only [Act.put, List.setIfInBounds_toArray, List.set_cons_zero, List.set_cons_succ, i64_w, i32_w]
    rfl
  refine done_ (by kernel_rfl) ?_

  have HS := hHeld.2.2.2.2
  clear hHeld t0 t1 t2 t3 HX0 HB HT0 HBe0
  go_wp2_with fail
  refine (words_ q h tr tc zs _ (HZ.out.below HS.out.1)).mono ?_
  rintro e w2 ⟨v, rfl, hR, hb⟩
  obtain ⟨gw, cw, rfl, hrs, hg1, hg2⟩ := Rs.of hR (by have := HTi.out.zlen HZ.out; have := HTi.out.pos; have : 1 * 1 ≤ tr * tc := Nat.mul_le_mul (by omega) (by omega); omega)
  have HL0 := Aside0.mk (Lst.mk (HS.out.2.1.below hb) (HS.out.2.2.below hb) ((HZ.out.below HS.out.1).below hb) hrs (Fr.of_below (below_step HS.out.1 hb) [g]) (Nat.le_trans HS.out.1.size hg1) (Nat.le_refl _) HNe.out HOld.out)
  clear hR hb hrs hg1 hg2 HS q0 q1
  have t0 := HL0.out.box.cell 0
  go_wp2
  clear t0
  go_loopw [33] (fun v33 wr => ∃ (i : Nat) (ys : List Int), v33 = .int .i64 i ∧ i ≤ tr ∧ Aside0 (Lst w wr w.heap.size p g q h gw cw R C tr tc r0 c0 ys zs) ∧ Aside0 (Laid xs zs ys C tc r0 c0 i)) (fun v33 _ => tr - (intOf v33).toNat)
  case atStart => exact ⟨0, _, rfl, Nat.zero_le _, HL0, ⟨rfl, fun a b ha => by omega, fun k _ => rfl⟩⟩
  case round =>
    clear HL0
    obtain ⟨i, ys, rfl, hi, HP, HG⟩ := hrel
    by_cases h1 : i < tr
    · obtain ⟨at_, ha⟩ : ∃ at_, (r0 + i) * C + c0 = at_ := ⟨_, rfl⟩
      obtain ⟨u, hu⟩ : ∃ u, i * tc = u := ⟨_, rfl⟩
      have hyl := HG.out.len
      have HTy := Aside0.mk (hyl ▸ HTi.out : Til R C tr tc r0 c0 ys.length)
      have hzl := HTi.out.zlen HP.out.other
      have hin := HTi.out.in_ h1
      have hat := HTi.out.at_ h1
      have hps := HTi.out.pos
      have hcw := HP.out.row.cap_le
      have hpt : ((zs.drop u).take tc).length = tc := len_part (by omega)
      have q1 : (0 : Int) ≤ (u : Int) := by omega
      have q2 : (u : Int) ≤ ((u + tc : Nat) : Int) := by omega
      have q3 : ((u + tc : Nat) : Int) ≤ (cw : Int) := by omega
      have q4 : ¬ cw = u := by omega
      have q5 : u + tc - u = tc := by omega
      have d1 : decide ((i : Int) < (tr : Int)) = true := decide_eq_true (by omega)
      have d1' : decide (i < tr) = true := decide_eq_true h1
      have F1 : Aside0 (((zs.drop u).take tc).length = Nat.min tc tc) := ⟨by rw [hpt]; show tc = min tc _; omega⟩
      have F2 : Aside0 (at_ + ((zs.drop u).take tc).length ≤ ys.length) := ⟨by omega⟩
      have F3 : Aside0 (u + ((zs.drop u).take tc).length ≤ zs.length) := ⟨by rw [hpt]; omega⟩
      have HG2 := Aside0.mk (HG.out.next HTi.out hzl h1 ha hu)
      have hT1 : tr ≤ 1048576 := by have := HTi.out.r; have := HTi.out.small; omega
      have HI := Aside0.mk h1
      have HA := Aside0.mk ha
      have hmu := HTi.out.mul_ h1 hu
      obtain ⟨i1, hm1, hmv⟩ := HTi.out.mul1 h1 hu
      clear h1 hzl hin hat hps hpt ha hu HG hyl hcw
      generalize u + tc = v at *
      go_wp2_with fail
      refine start_ (n := 20) (S := fun w' => w'.cell? ⟨w.heap.size, 0, none⟩ = some (.int .i64 (tr : Int)) ∧ w'.cell? ⟨w.heap.size, 1, none⟩ = some (.int .i64 (tc : Int)) ∧ w'.cell? ⟨w.heap.size, 2, none⟩ = some (.int .i64 (r0 : Int)) ∧ w'.cell? ⟨w.heap.size, 3, none⟩ = some (.int .i64 (c0 : Int)) ∧ Aside0 (Lst w w' w.heap.size p g q h gw cw R C tr tc r0 c0 ys zs)) (ds := [19]) #[false, false, false, false, false, false, false, false, false, false, false, false, false, false, false, false, false, false, false, false] (by kernel_rfl) rfl rfl ⟨HP.out.box.cell 0, HP.out.box.cell 1, HP.out.box.cell 2, HP.out.box.cell 3, ⟨HP.out.below (below_drew1 (Below.refl _ _))⟩⟩ (fun hHeld => ?_)
      refine pure_ (i := 0) (N := some 36) (v := ?_) (a' := ?_) #[true, false, false, false, false, false, false, false, false, false, false, false, false, false, false, false, false, false, false, false] rfl rfl (by kernel_rfl) (fun _ _ _ h => h) (Or.inl ⟨by rfl, ?_⟩) ?_ ?_
      rotate_left
      · intro w'
        go_simp
        with_reducible rfl
      rotate_left
      · simp only [Act.put, List.setIfInBounds_toArray, List.set_cons_zero, List.set_cons_succ, i64_w, i32_w]
        rfl
      refine pure_ (i := 1) (N := some 37) (v := ?_) (a' := ?_) #[true, true, false, false, false, false, false, false, false, false, false, false, false, false, false, false, false, false, false, false] rfl rfl (by kernel_rfl) (fun _ _ _ h => h) (Or.inl ⟨by rfl, ?_⟩) ?_ ?_
      rotate_left
      · intro w'
        go_simp
        with_reducible rfl
      rotate_left
      · simp only [Act.put, List.setIfInBounds_toArray, List.set_cons_zero, List.set_cons_succ, i64_w, i32_w]
        rfl
      refine pure_ (i := 2) (N := some 38) (v := ?_) (a' := ?_) #[true, true, true, false, false, false, false, false, false, false, false, false, false, false, false, false, false, false, false, false] rfl rfl (by kernel_rfl) (fun _ _ _ h => h) (Or.inl ⟨by rfl, ?_⟩) ?_ ?_
      rotate_left
      · intro w'
        go_simp
        with_reducible rfl
      rotate_left
      · simp only [Act.put, List.setIfInBounds_toArray, List.set_cons_zero, List.set_cons_succ, i64_w, i32_w]
        rfl
      refine pure_ (i := 4) (N := some 40) (v := ?_) (a' := ?_) #[true, true, true, false, true, false, false, false, false, false, false, false, false, false, false, false, false, false, false, false] rfl rfl (by kernel_rfl) (fun _ _ _ h => h) (Or.inl ⟨by rfl, ?_⟩) ?_ ?_
      rotate_left
      · intro w'
        go_simp
        with_reducible rfl
      rotate_left
      · simp only [Act.put, List.setIfInBounds_toArray, List.set_cons_zero, List.set_cons_succ, i64_w, i32_w]
        rfl
      refine pure_ (i := 6) (N := some 42) (v := ?_) (a' := ?_) #[true, true, true, false, true, false, true, false, false, false, false, false, false, false, false, false, false, false, false, false] rfl rfl (by kernel_rfl) (fun _ _ _ h => h) (Or.inl ⟨by rfl, ?_⟩) ?_ ?_
      rotate_left
      · intro w'
        go_simp
        with_reducible rfl
      rotate_left
      · simp only [Act.put, List.setIfInBounds_toArray, List.set_cons_zero, List.set_cons_succ, i64_w, i32_w]
        rfl
      refine pure_ (i := 7) (N := some 43) (v := ?_) (a' := ?_) #[true, true, true, false, true, false, true, true, false, false, false, false, false, false, false, false, false, false, false, false] rfl rfl (by kernel_rfl) (fun _ _ _ h => h) (Or.inl ⟨by rfl, ?_⟩) ?_ ?_
      rotate_left
      · intro w'
        go_simp
        with_reducible rfl
      rotate_left
      · simp only [Act.put, List.setIfInBounds_toArray, List.set_cons_zero, List.set_cons_succ, i64_w, i32_w]
        rfl
      refine pure_ (i := 8) (N := some 44) (v := ?_) (a' := ?_) #[true, true, true, false, true, false, true, true, true, false, false, false, false, false, false, false, false, false, false, false] rfl rfl (by kernel_rfl) (fun _ _ _ h => h) (Or.inl ⟨by rfl, ?_⟩) ?_ ?_
      rotate_left
      · intro w'
        go_simp
        with_reducible rfl
      rotate_left
      · simp only [Act.put, List.setIfInBounds_toArray, List.set_cons_zero, List.set_cons_succ, i64_w, i32_w]
        rfl
      refine pure_ (i := 9) (N := some 45) (v := ?_) (a' := ?_) #[true, true, true, false, true, false, true, true, true, true, false, false, false, false, false, false, false, false, false, false] rfl rfl (by kernel_rfl) (fun _ _ _ h => h) (Or.inl ⟨by rfl, ?_⟩) ?_ ?_
      rotate_left
      · intro w'
        go_simp
        with_reducible rfl
      rotate_left
      · simp only [Act.put, List.setIfInBounds_toArray, List.set_cons_zero, List.set_cons_succ, i64_w, i32_w]
        rfl
      refine pure_ (i := 12) (N := some 48) (v := ?_) (a' := ?_) #[true, true, true, false, true, false, true, true, true, true, false, false, true, false, false, false, false, false, false, false] rfl rfl (by kernel_rfl) (fun _ _ _ h => h) (Or.inl ⟨by rfl, ?_⟩) ?_ ?_
      rotate_left
      · intro w'
        go_simp
        with_reducible rfl
      rotate_left
      · simp only [Act.put, List.setIfInBounds_toArray, List.set_cons_zero, List.set_cons_succ, i64_w, i32_w]
        rfl
      refine pure_ (i := 13) (N := some 49) (v := ?_) (a' := ?_) #[true, true, true, false, true, false, true, true, true, true, false, false, true, true, false, false, false, false, false, false] rfl rfl (by kernel_rfl) (fun _ _ _ h => h) (Or.inl ⟨by rfl, ?_⟩) ?_ ?_
      rotate_left
      · intro w'
        go_simp
        with_reducible rfl
      rotate_left
      · simp only [Act.put, List.setIfInBounds_toArray, List.set_cons_zero, List.set_cons_succ, i64_w, i32_w]
        rfl
      refine pure_ (i := 14) (N := some 50) (v := ?_) (a' := ?_) #[true, true, true, false, true, false, true, true, true, true, false, false, true, true, true, false, false, false, false, false] rfl rfl (by kernel_rfl) (fun _ _ _ h => h) (Or.inl ⟨by rfl, ?_⟩) ?_ ?_
      rotate_left
      · intro w'
        go_simp
        with_reducible rfl
      rotate_left
      · simp only [Act.put, List.setIfInBounds_toArray, List.set_cons_zero, List.set_cons_succ, i64_w, i32_w]
        rfl
      refine pure_ (i := 15) (N := some 51) (v := ?_) (a' := ?_) #[true, true, true, false, true, false, true, true, true, true, false, false, true, true, true, true, false, false, false, false] rfl rfl (by kernel_rfl) (fun _ _ _ h => h) (Or.inl ⟨by rfl, ?_⟩) ?_ ?_
      rotate_left
      · intro w'
        go_simp
        with_reducible rfl
      rotate_left
      · simp only [Act.put, List.setIfInBounds_toArray, List.set_cons_zero, List.set_cons_succ, i64_w, i32_w]
        rfl
      refine take_ (i := 3) (N := some 39) (v := ?_) (a' := ?_) #[true, true, true, true, true, false, true, true, true, true, false, false, true, true, true, true, false, false, false, false] rfl rfl (by kernel_rfl) (fun _ _ _ h => h) (Or.inl ⟨by rfl, ?_⟩) hHeld ?_ ?_
      rotate_left
      · rintro w' ⟨s0, s1, s2, s3, s4⟩
        go_simp
        with_reducible rfl
      rotate_left
      · simp only [Act.put, List.setIfInBounds_toArray, List.set_cons_zero, List.set_cons_succ, i64_w, i32_w]
        rfl
      refine take_ (i := 10) (N := some 46) (v := ?_) (a' := ?_) #[true, true, true, true, true, false, true, true, true, true, true, false, true, true, true, true, false, false, false, false] rfl rfl (by kernel_rfl) (fun _ _ _ h => h) (Or.inl ⟨by rfl, ?_⟩) hHeld ?_ ?_
      rotate_left
      · rintro w' ⟨s0, s1, s2, s3, s4⟩
        go_simp
        with_reducible rfl
      rotate_left
      · simp only [Act.put, List.setIfInBounds_toArray, List.set_cons_zero, List.set_cons_succ, i64_w, i32_w]
        rfl
      refine pure_ (i := 11) (N := some 47) (v := ?_) (a' := ?_) #[true, true, true, true, true, false, true, true, true, true, true, true, true, true, true, true, false, false, false, false] rfl rfl (by kernel_rfl) (fun _ _ _ h => h) (Or.inl ⟨by rfl, ?_⟩) ?_ ?_
      rotate_left
      · intro w'
        go_simp
        with_reducible rfl
      rotate_left
      · simp only [Act.put, List.setIfInBounds_toArray, List.set_cons_zero, List.set_cons_succ, i64_w, i32_w]
        rfl
      refine take_ (i := 16) (N := some 52) (v := ?_) (a' := ?_) #[true, true, true, true, true, false, true, true, true, true, true, true, true, true, true, true, true, false, false, false] rfl rfl (by kernel_rfl) (fun _ _ _ h => h) (Or.inl ⟨by rfl, ?_⟩) hHeld ?_ ?_
      rotate_left
      · rintro w' ⟨s0, s1, s2, s3, s4⟩
        go_simp
        with_reducible rfl
      rotate_left
      · simp only [Act.put, List.setIfInBounds_toArray, List.set_cons_zero, List.set_cons_succ, i64_w, i32_w]
        rfl
      refine pure_ (i := 17) (N := some 53) (v := ?_) (a' := ?_) #[true, true, true, true, true, false, true, true, true, true, true, true, true, true, true, true, true, true, false, false] rfl rfl (by kernel_rfl) (fun _ _ _ h => h) (Or.inl ⟨by rfl, ?_⟩) ?_ ?_
      rotate_left
      · intro w'
        go_simp
        with_reducible rfl
      rotate_left
      · simp only [Act.put, List.setIfInBounds_toArray, List.set_cons_zero, List.set_cons_succ, i64_w, i32_w]
        rfl
      refine pure_ (i := 18) (N := some 54) (v := ?_) (a' := ?_) #[true, true, true, true, true, false, true, true, true, true, true, true, true, true, true, true, true, true, true, false] rfl rfl (by kernel_rfl) (fun _ _ _ h => h) (Or.inl ⟨by rfl, ?_⟩) ?_ ?_
      rotate_left
      · intro w'
        go_simp
        with_reducible rfl
      rotate_left
      · simp only [Act.put, List.setIfInBounds_toArray, List.set_cons_zero, List.set_cons_succ, i64_w, i32_w]
        rfl
      refine one_ (i := 5) (N := some 41) #[true, true, true, true, true, true, true, true, true, true, true, true, true, true, true, true, true, true, true, false] rfl rfl (by kernel_rfl) (by decide) (fun K hK => ?_)
      refine goes_ Tryd.func63 (by kernel_rfl) rfl #[.pointer (some ⟨p, 0, none⟩), .agg #[.int .i64 tr, .int .i64 tc, .int .i64 r0, .int .i64 c0], .int .i64 i] (by rfl) rfl rfl (by simp only [List.map_toArray, List.map_cons, List.map_nil]; rfl) ?_
      with_reducible refine (row_ p g R C tr tc r0 c0 i at_ ys _ hHeld.2.2.2.2.out.blk HTy.out HI.out HA.out).mono ?_
      rintro e w3 ⟨rfl, hb⟩
      refine ⟨_, rfl, ?_⟩
      have nP := hHeld.2.2.2.2.out.below hb
      clear hHeld hb
      refine hK.out _ _ ⟨nP.box.cell 0, nP.box.cell 1, nP.box.cell 2, nP.box.cell 3, ⟨nP⟩⟩ (fun hHeld => ?_)
      clear hK K
      refine norm_ (a' := ?_) ?_ ?_
      rotate_left
      · show Act.put _ (some 41) _ = _
        simp only [Act.put, List.setIfInBounds_toArray, List.set_cons_zero, List.set_cons_succ, i64_w, i32_w]
        rfl
      refine last_ (i := 19) (N := some 55) #[true, true, true, true, true, true, true, true, true, true, true, true, true, true, true, true, true, true, true, true] rfl rfl (by kernel_rfl) (by decide) (fun K hK => ?_)
      refine copy_step (by rfl) rfl (.tmp 41) (.tmp 54) 47 47 rfl Tryd.underlying47 size66 g at_ tc (ys.length - at_) ⟨gw, u, none⟩ tc (cw - u) rfl rfl ys ((zs.drop u).take tc) hHeld.2.2.2.2.out.blk.row F1.out ?hsrc F2.out ?_
      case hsrc =>
        intro j hj
        have hj2 := F3.out
        have hj3 : j < tc := Nat.lt_of_lt_of_le hj (List.length_take_le _ _)
        rw [getD_part hj3]
        rw [add_at]
        exact hHeld.2.2.2.2.out.row.cell (u + j) (by omega)
      intro w4 hr hf hsz
      have HP2 := Aside0.mk (hHeld.2.2.2.2.out.copied hr (splice_len F2.out) hf)
      clear hHeld hr hf hsz
      refine hK.out _ _ ?_
      clear hK K
      refine norm_ (a' := ?_) ?_ ?_
      rotate_left
      · show Act.put _ (some 55) _ = _
        simp only [Act.put, List.setIfInBounds_toArray, List.set_cons_zero, List.set_cons_succ, i64_w, i32_w]
        rfl
      refine done_ (by kernel_rfl) ?_

      clear hmu hm1 hmv q1 q2 q3 q4 q5
      go_wp2
      go_roundw
      case rel => exact ⟨i + 1, _, by go_num, HI.out, HP2, HG2⟩
      case measure =>
        have := HI.out
        simp [intOf]; omega
    · obtain rfl : i = tr := by omega
      have d1 : decide ((i : Int) < (i : Int)) = false := by simp
      go_wp2
      go_ret
      exact ⟨rfl, ys, HP.out.blk, HG.out, HP.out.fr⟩
set_option maxHeartbeats 4000000 in
theorem lay_no (p g q h : Nat) (R C tr tc r0 c0 : Int) (xs zs : List Int) (w : World) (hx : Blo w p g R C xs) (hz : Blo w q h tr tc zs) (hl : ¬ Lies R C tr tc r0 c0) (hT : TabOK w) :
    Calls Tryd.prog 45 #[.pointer (some ⟨p, 0, none⟩), .int .i64 r0, .int .i64 c0, .pointer (some ⟨q, 0, none⟩)] w fun e w' => e = .returned (.int .i64 2) ∧ Below w.heap.size w w' := by
  have HLies := Aside0.mk hl
  have q0 := hz.c0
  have q1 := hz.c1
  have hbe0 := below_alloc (Below.refl w.heap.size w) (Obj.cells #[.int .i64 tr, .int .i64 tc, .int .i64 r0, .int .i64 c0] 38)
  have HX0 := Aside0.mk (hx.below hbe0)
  have HB := Aside0.mk (Bk.new w 38 [.int .i64 tr, .int .i64 tc, .int .i64 r0, .int .i64 c0])
  have HT0 := Aside0.mk (TabOK.below hT hbe0)
  have HBe0 := Aside0.mk hbe0
  have t0 := HB.out.cell 0
  have t1 := HB.out.cell 1
  have t2 := HB.out.cell 2
  have t3 := HB.out.cell 3
  clear hx hz hT hl hbe0
  go_enter Tryd.func45, Tryd.ntmps45
  go_wp2_with fail
  refine start_ (n := 6) (S := fun w' => w'.cell? ⟨w.heap.size, 0, none⟩ = some (.int .i64 tr) ∧ w'.cell? ⟨w.heap.size, 1, none⟩ = some (.int .i64 tc) ∧ w'.cell? ⟨w.heap.size, 2, none⟩ = some (.int .i64 r0) ∧ w'.cell? ⟨w.heap.size, 3, none⟩ = some (.int .i64 c0) ∧ Aside0 (Below w.heap.size w w' ∧ Blo w' p g R C xs ∧ Bk w' w.heap.size 38 [.int .i64 tr, .int .i64 tc, .int .i64 r0, .int .i64 c0])) (ds := []) #[false, false, false, false, false, false] (by kernel_rfl) rfl rfl ⟨t0, t1, t2, t3, ⟨below_drew1 HBe0.out, HX0.out.below (below_drew1 (Below.refl _ _)), HB.out⟩⟩ (fun hHeld => ?_)
  refine pure_ (i := 0) (N := some 22) (v := ?_) (a' := ?_) #[true, false, false, false, false, false] rfl rfl (by kernel_rfl) (fun _ _ _ h => h) (Or.inl ⟨by rfl, ?_⟩) ?_ ?_
  rotate_left
  · intro w'
    go_simp
    with_reducible rfl
  rotate_left
  · simp only [Act.put, List.setIfInBounds_toArray, List.set_cons_zero, List.set_cons_succ, i64_w, i32_w]
    rfl
  refine pure_ (i := 1) (N := some 23) (v := ?_) (a' := ?_) #[true, true, false, false, false, false] rfl rfl (by kernel_rfl) (fun _ _ _ h => h) (Or.inl ⟨by rfl, ?_⟩) ?_ ?_
  rotate_left
  · intro w'
    go_simp
    with_reducible rfl
  rotate_left
  · simp only [Act.put, List.setIfInBounds_toArray, List.set_cons_zero, List.set_cons_succ, i64_w, i32_w]
    rfl
  refine pure_ (i := 2) (N := some 24) (v := ?_) (a' := ?_) #[true, true, true, false, false, false] rfl rfl (by kernel_rfl) (fun _ _ _ h => h) (Or.inl ⟨by rfl, ?_⟩) ?_ ?_
  rotate_left
  · intro w'
    go_simp
    with_reducible rfl
  rotate_left
  · simp only [Act.put, List.setIfInBounds_toArray, List.set_cons_zero, List.set_cons_succ, i64_w, i32_w]
    rfl
  refine take_ (i := 3) (N := some 25) (v := ?_) (a' := ?_) #[true, true, true, true, false, false] rfl rfl (by kernel_rfl) (fun _ _ _ h => h) (Or.inl ⟨by rfl, ?_⟩) hHeld ?_ ?_
  rotate_left
  · rintro w' ⟨s0, s1, s2, s3, s4⟩
    go_simp
    with_reducible rfl
  rotate_left
  · simp only [Act.put, List.setIfInBounds_toArray, List.set_cons_zero, List.set_cons_succ, i64_w, i32_w]
    rfl
  refine one_ (i := 4) (N := some 26) #[true, true, true, true, true, false] rfl rfl (by kernel_rfl) (by decide) (fun K hK => ?_)
  refine goes_ Tryd.func61 (by kernel_rfl) rfl #[.pointer (some ⟨p, 0, none⟩), .agg #[.int .i64 tr, .int .i64 tc, .int .i64 r0, .int .i64 c0]] (by rfl) rfl rfl (by simp only [List.map_toArray, List.map_cons, List.map_nil]; rfl) ?_
  with_reducible refine (holds_no p g R C tr tc r0 c0 xs _ hHeld.2.2.2.2.out.2.1 HLies.out HT0.out.drew).mono ?_
  rintro e w1 ⟨rfl, hb⟩
  refine ⟨_, rfl, ?_⟩
  have nX := hHeld.2.2.2.2.out.2.1.below hb
  have nB := hHeld.2.2.2.2.out.2.2.below hb
  have nE := below_step hHeld.2.2.2.2.out.1 hb
  clear hHeld hb
  refine hK.out _ _ ⟨nB.cell 0, nB.cell 1, nB.cell 2, nB.cell 3, ⟨nE, nX, nB⟩⟩ (fun hHeld => ?_)
  clear hK K
  refine norm_ (a' := ?_) ?_ ?_
  rotate_left
  · show Act.put _ (some 26) _ = _
    simp only [Act.put, List.setIfInBounds_toArray, List.set_cons_zero, List.set_cons_succ, i64_w, i32_w]
    rfl
  refine pure_ (i := 5) (N := some 27) (v := ?_) (a' := ?_) #[true, true, true, true, true, true] rfl rfl (by kernel_rfl) (fun _ _ _ h => h) (Or.inl ⟨by rfl, ?_⟩) ?_ ?_
  rotate_left
  · intro w'
    go_simp
    with_reducible rfl
  rotate_left
  · simp only [Act.put, List.setIfInBounds_toArray, List.set_cons_zero, List.set_cons_succ, i64_w, i32_w]
    rfl
  refine done_ (by kernel_rfl) ?_

  have HS := hHeld.2.2.2.2
  clear hHeld t0 t1 t2 t3 HX0 HB HT0 HBe0
  go_wp2
  go_ret
  exact ⟨rfl, HS.out.1⟩
end Go.Proofs.YthppiphldaopnaaDoor.Obj
