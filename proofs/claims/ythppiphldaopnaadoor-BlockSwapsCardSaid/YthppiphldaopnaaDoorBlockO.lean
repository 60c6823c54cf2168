import Derived.Test.YthppiphldaopnaaDoorBlockN
import Derived.Test.YthppiphldaopnaaDoorBlockE
/-! Blocks: the law of swaps. -/
namespace Go.Proofs.YthppiphldaopnaaDoor.Obj
open Go.RowKit Go.Proofs.YthppiphldaopnaaDoor Go.Proofs.YthppiphldaopnaaDoor.Ext Go.Proofs.YthppiphldaopnaaDoor.PShape Go.Proofs.YthppiphldaopnaaDoor.PBlk Go.Proofs.YthppiphldaopnaaDoor.Pure Go.Proofs.YthppiphldaopnaaDoorW.PrintWords Go.Proofs.YthppiphldaopnaaDoorW.PrintLast Go.Proofs.YthppiphldaopnaaDoorW.PrintMore
set_option linter.unusedVariables false
set_option linter.unusedSimpArgs false
set_option maxRecDepth 100000
attribute [local go_sem high] eqA26 eqA38

structure S5 (w0 w : World) (t u v p g ga ca gm cm : Nat) (R C tr tc r0 c0 r1 c1 : Nat) (l met : List Int) : Prop where
  box : Bk w t 26 [.int .i64 R, .int .i64 C]
  til : Bk w u 38 [.int .i64 tr, .int .i64 tc, .int .i64 r0, .int .i64 c0]
  oth : Bk w v 38 [.int .i64 tr, .int .i64 tc, .int .i64 r1, .int .i64 c1]
  wm : Rs w ga ca l
  met : Rs w gm cm met
  be : Below w0.heap.size w0 w
  new : w0.heap.size ≤ gm
  ne : ga ≠ gm
section
variable {w0 w w' : World} {t u v p g ga ca gm cm R C tr tc r0 c0 r1 c1 : Nat} {l met met' : List Int}
theorem S5.below (k : S5 w0 w t u v p g ga ca gm cm R C tr tc r0 c0 r1 c1 l met) (hb : Below w.heap.size w w') : S5 w0 w' t u v p g ga ca gm cm R C tr tc r0 c0 r1 c1 l met :=
  ⟨k.box.below hb, k.til.below hb, k.oth.below hb, k.wm.below hb, k.met.below hb, below_then k.be k.be.size hb, k.new, k.ne⟩
theorem S5.set (k : S5 w0 w t u v p g ga ca gm cm R C tr tc r0 c0 r1 c1 l met) (j : Nat) (x : Int) : S5 w0 (w.setCell ⟨gm, j, none⟩ (.int .u64 x)) t u v p g ga ca gm cm R C tr tc r0 c0 r1 c1 l (met.set j x) := by
  have hf := (Fr.refl w [gm]).set gm j (.int .u64 x) (.inl (by simp))
  exact ⟨k.box.fr hf (by simpa using (k.met.ne k.box (by decide)).symm), k.til.fr hf (by simpa using (k.met.ne k.til (by decide)).symm), k.oth.fr hf (by simpa using (k.met.ne k.oth (by decide)).symm), k.wm.fr hf (by simpa using k.ne), k.met.put j x,
    k.be.trans (hf.below k.be.size (fun i hi => by simp at hi; have := k.new; omega)), k.new, k.ne⟩
end
theorem shr_on {tr tc r0 c0 r1 c1 i j : Nat} (h : shr tr tc r0 c0 r1 c1 (i * tc + j) = true) : shr tr tc r0 c0 r1 c1 (i * tc + (j + 1)) = true := by
  rw [← Nat.add_assoc]; simp only [shr]; rw [h]; rfl
theorem shr_at {tr tc r0 c0 r1 c1 i j : Nat} (hj : j < tc) (h : shr tr tc r0 c0 r1 c1 (i * tc + j) = false) (b : Bool) (hb : b = true ↔ (r0 ≤ r1 + i ∧ r1 + i < r0 + tr ∧ c0 ≤ c1 + j ∧ c1 + j < c0 + tc)) : shr tr tc r0 c0 r1 c1 (i * tc + (j + 1)) = b := by
  have h1 : (i * tc + j) / tc = i := by rw [Nat.mul_comm, Nat.mul_add_div (by omega), Nat.div_eq_of_lt hj, Nat.add_zero]
  have h2 : (i * tc + j) % tc = j := by rw [Nat.mul_comm, Nat.mul_add_mod, Nat.mod_eq_of_lt hj]
  rw [← Nat.add_assoc]; simp only [shr]; rw [h, Bool.false_or]
  have e : inT tr tc r0 c0 r1 c1 (i * tc + j) ↔ (r0 ≤ r1 + i ∧ r1 + i < r0 + tr ∧ c0 ≤ c1 + j ∧ c1 + j < c0 + tc) := by unfold inT; rw [h1, h2]
  cases b with
  | true => exact decide_eq_true (e.2 (hb.1 rfl))
  | false => exact decide_eq_false (fun hh => by have := hb.2 (e.1 hh); cases this)
theorem mets_at {l : List Int} {C tr tc r0 c0 r1 c1 i j k k' : Nat} (hj : j < tc) (hk : (r0 + i) * C + c0 + j = k) (hk' : (r1 + i) * C + c1 + j = k') :
    mets l (pl C tc r0 c0) (pl C tc r1 c1) (i * tc + (j + 1)) = ((mets l (pl C tc r0 c0) (pl C tc r1 c1) (i * tc + j)).set k (l.getD k' 0)).set k' (l.getD k 0) := by
  rw [← Nat.add_assoc]; simp only [mets]
  rw [pl_at C r0 c0 i hj, pl_at C r1 c1 i hj, hk, hk']
set_option maxHeartbeats 8000000 in
theorem swaps_in (R C tr tc r0 c0 r1 c1 : Nat) (A : Option Addr) (n : Nat) (l : List Int) (w : World) (hg : GoodS R C) (hn : R * C = l.length) (hm : l.length ≤ 256) (hl : In w A n l) (ht : Til R C tr tc r0 c0 l.length) (hu : Til R C tr tc r1 c1 l.length) (hT : TabOK w) :
    Calls Tryd.prog 10 #[.agg #[.int .i64 R, .int .i64 C], .slice A l.length n, .agg #[.int .i64 tr, .int .i64 tc, .int .i64 r0, .int .i64 c0], .int .i64 r1, .int .i64 c1] w fun e w' => e = .returned (.bool true) ∧ Below w.heap.size w w' := by
  have hpos : 0 < l.length := by have := ht.len; have := ht.r; have := ht.c; have := ht.pos; have : 1 * 1 ≤ R * C := Nat.mul_le_mul (by omega) (by omega); omega
  obtain ⟨ad, rfl, _⟩ := C_at hl.r 0 hpos
  obtain ⟨k2, h2⟩ := (inside_yes hg ht.lies).rounds
  obtain ⟨k3, h3⟩ := (inside_yes hg hu.lies).rounds
  have hbe0 := below_alloc (below_alloc (Below.refl w.heap.size w) (Obj.cells #[.int .i64 (R : Int), .int .i64 (C : Int)] 26)) (Obj.cells #[.int .i64 (tr : Int), .int .i64 (tc : Int), .int .i64 (r0 : Int), .int .i64 (c0 : Int)] 38)
  have K2 := Aside0.mk h2
  have K3 := Aside0.mk h3
  have HG := Aside0.mk hg
  have HN := Aside0.mk hn
  have HL := Aside0.mk hl
  have HT := Aside0.mk hT
  have H0 := Aside0.mk ht
  have H1 := Aside0.mk hu
  have HM := Aside0.mk hm
  have HPos := Aside0.mk hpos
  have HBe0 := Aside0.mk hbe0
  have HX0 := Aside0.mk ((Bk.new w 26 [.int .i64 R, .int .i64 C]).alloc (Obj.cells #[.int .i64 (tr : Int), .int .i64 (tc : Int), .int .i64 (r0 : Int), .int .i64 (c0 : Int)] 38))
  have HU0 : Aside0 (Bk ((w.alloc (Obj.cells #[.int .i64 (R : Int), .int .i64 (C : Int)] 26)).alloc (Obj.cells #[.int .i64 (tr : Int), .int .i64 (tc : Int), .int .i64 (r0 : Int), .int .i64 (c0 : Int)] 38)) (w.heap.size + 1) 38 [.int .i64 tr, .int .i64 tc, .int .i64 r0, .int .i64 c0]) := ⟨by
    have := Bk.new (w.alloc (Obj.cells #[.int .i64 (R : Int), .int .i64 (C : Int)] 26)) 38 [.int .i64 tr, .int .i64 tc, .int .i64 r0, .int .i64 c0]
    simpa using this⟩
  clear h2 h3 hg hn hl hT ht hu hm hbe0 hpos
  go_enter Tryd.func10, Tryd.ntmps10
  go_wp2_with fail
  refine (bawake_ _ (TabOK.below HT.out HBe0.out)).mono ?_
  rintro e w1 ⟨rfl, hb⟩
  have HB1 := Aside0.mk (below_then HBe0.out HBe0.out.size hb)
  have HX1 := Aside0.mk (HX0.out.below hb)
  have HU1 := Aside0.mk (HU0.out.below hb)
  clear hb HBe0 HX0 HU0
  have c0' := HX1.out.cell 0
  have c1' := HX1.out.cell 1
  go_wp2_with fail
  refine (made_yes R C (some ad) n l _ HG.out (by rw [← Int.natCast_mul, HN.out]) HM.out (HL.out.below HB1.out) (TabOK.below HT.out HB1.out)).mono ?_
  rintro e w2 ⟨p, g, rfl, hb, hbe, hp, hg⟩
  have hbe2 := below_alloc (Below.refl w2.heap.size w2) (Obj.cells #[.int .i64 (tr : Int), .int .i64 (tc : Int), .int .i64 (r1 : Int), .int .i64 (c1 : Int)] 38)
  have t0 := (HU1.out.below hbe).cell 0
  have t1 := (HU1.out.below hbe).cell 1
  have t2 := (HU1.out.below hbe).cell 2
  have t3 := (HU1.out.below hbe).cell 3
  have s0 := ((HU1.out.below hbe).below hbe2).cell 0
  have s1 := ((HU1.out.below hbe).below hbe2).cell 1
  have s2 := ((HU1.out.below hbe).below hbe2).cell 2
  have s3 := ((HU1.out.below hbe).below hbe2).cell 3
  have HB2 := Aside0.mk (below_then (below_then HB1.out HB1.out.size hbe) (below_then HB1.out HB1.out.size hbe).size hbe2)
  have HX2 := Aside0.mk ((HX1.out.below hbe).below hbe2)
  have HU2 := Aside0.mk ((HU1.out.below hbe).below hbe2)
  have HV2 := Aside0.mk (Bk.new w2 38 [.int .i64 (tr : Int), .int .i64 (tc : Int), .int .i64 (r1 : Int), .int .i64 (c1 : Int)])
  have HP2 := Aside0.mk (hb.below hbe2)
  have HN2 : Aside0 (w.heap.size ≤ g) := ⟨Nat.le_trans HB1.out.size hg⟩
  clear hb hbe hp hg HB1 HX1 HU1 c0' c1' hbe2
  go_wp2_with fail
  clear t0 t1 t2 t3
  refine (swap_ p g R C tr tc r0 c0 r1 c1 l _ HP2.out H0.out H1.out (TabOK.below HT.out HB2.out)).mono ?_
  rintro e w3 ⟨en, ys, rfl, hres, hb, hf⟩
  have HRes := Aside0.mk hres
  have HP3 := Aside0.mk hb
  have HX3 := Aside0.mk (HX2.out.fr hf (by simpa using HX2.out.ne HP2.out.row (by decide)))
  have HU3 := Aside0.mk (HU2.out.fr hf (by simpa using HU2.out.ne HP2.out.row (by decide)))
  have HV3 := Aside0.mk (HV2.out.fr hf (by simpa using HV2.out.ne HP2.out.row (by decide)))
  have HB3 := Aside0.mk (HB2.out.trans (hf.below HB2.out.size (fun i hi => by simp at hi; have := HN2.out; omega)))
  have hyl : ys.length = l.length := by cases hres <;> first | rfl | exact swp_len ..
  have HYl := Aside0.mk hyl
  clear hres hb hf HB2 HX2 HU2 HV2 HP2 HN2 s0 s1 s2 s3
  go_wp2_with fail
  refine (words_ p g R C ys _ HP3.out).mono ?_
  rintro e w4 ⟨v, rfl, hR, hb⟩
  obtain ⟨ga, ca, rfl, hrs, hg1, hg2⟩ := Rs.of hR (by rw [hyl]; exact HPos.out)
  have HA4 := Aside0.mk hrs
  have HX4 := Aside0.mk (HX3.out.below hb)
  have HU4 := Aside0.mk (HU3.out.below hb)
  have HV4 := Aside0.mk (HV3.out.below hb)
  have HB4 := Aside0.mk (below_then HB3.out HB3.out.size hb)
  clear hR hb hrs hg1 hg2 HB3 HX3 HU3 HV3 HP3
  rw [hyl]
  clear hyl
  have c0' := HX4.out.cell 0
  have c1' := HX4.out.cell 1
  have t0 := HU4.out.cell 0
  have t1 := HU4.out.cell 1
  have t2 := HU4.out.cell 2
  have t3 := HU4.out.cell 3
  go_wp2_with fail
  refine (abacistlaw12_inside.calls k2 R C tr tc r0 c0 true _ K2.out).mono ?_
  rintro e w5 ⟨rfl, hb⟩
  have HA5 := Aside0.mk (HA4.out.below hb)
  have HX5 := Aside0.mk (HX4.out.below hb)
  have HU5 := Aside0.mk (HU4.out.below hb)
  have HV5 := Aside0.mk (HV4.out.below hb)
  have HB5 := Aside0.mk (below_then HB4.out HB4.out.size hb)
  clear hb HA4 HX4 HU4 HV4 HB4 c0' c1' t0 t1 t2 t3
  have c0' := HX5.out.cell 0
  have c1' := HX5.out.cell 1
  have t0 := HV5.out.cell 0
  have t1 := HV5.out.cell 1
  have t2 := HV5.out.cell 2
  have t3 := HV5.out.cell 3
  go_wp2_with fail
  refine (abacistlaw12_inside.calls k3 R C tr tc r1 c1 true _ K3.out).mono ?_
  rintro e w6 ⟨rfl, hb⟩
  have HA6 := Aside0.mk (HA5.out.below hb)
  have HX6 := Aside0.mk (HX5.out.below hb)
  have HU6 := Aside0.mk (HU5.out.below hb)
  have HV6 := Aside0.mk (HV5.out.below hb)
  have HB6 := Aside0.mk (below_then HB5.out HB5.out.size hb)
  clear hb HA5 HX5 HU5 HV5 HB5 c0' c1' t0 t1 t2 t3
  go_wp2_with (first | ((with_reducible refine gate_dst (N := 57) rfl ?_); refine Kd.R_lit (Kd.int .u64) _ 66 ?hg (N := 57) ?hd (xs := []) (inner := []) (ok := fun _ => True) (okp := fun _ => True) ?hr ?hp (fun _ hk => hk) trivial (Below.refl _ _) (Nat.le_refl _) (by simp) ?_; (case hd => rfl); (case hg => rfl); (case hr => first | (go_simp; done) | (go_simp; rfl)); (case hp => exact (Reps.none _ _)); intro v7 w7 ho hb hg_ hnew_; have HOx := Aside0.mk ho; have HBx := Aside0.mk hb; clear hg_ hnew_ ho hb) | ((with_reducible refine gate_builtin (b := .append) (xs := #[.tmp 57, .tmp 58]) rfl ?_); at_builtin; refine Kd.R_append_rows (Kd.int .u64) (w0 := w6) w6.heap.size rfl (.tmp 57) (.tmp 58) 47 66 (.int .u64 0) 8 rfl Tryd.underlying47 info66 rfl (by decide) (by omega) v7 [] (l) _ _ _ (fun _ => True) (fun _ => False) rfl rfl ?aO ?aR (fun _ _ h => h) (fun _ h => h.elim) ?aF ?aB ?aS ?aL ?_; (case aR => exact (Kd.C_below ((HL.out.below HB6.out).r) HBx.out)); (case aB => exact HBx.out); (case aF => exact (fun _ _ => trivial)); (case aO => exact HOx.out); (case aS => exact HBx.out.size); (case aL => (simp only [List.length_nil]; (have := HM.out; omega))); intro v8 w8 ho2 hb2 hg_ hat_; clear hg_ hat_; clear HOx HBx; obtain ⟨gm, cm, hv, hrs, hbm, hlm⟩ := Rs.of (xs := l) ho2 HPos.out; subst hv; have HS := Aside0.mk (S5.mk (p := p) (g := g) (HX6.out.below hb2) (HU6.out.below hb2) (HV6.out.below hb2) (HA6.out.below hb2) hrs (below_then HB6.out HB6.out.size hb2) (Nat.le_trans HB6.out.size hbm) (by have := HA6.out.lt; omega)); clear ho2 hb2 hrs hbm hlm))
  clear HA6 HX6 HU6 HV6 HB6
  have htr : tr ≤ 1048576 := by have := H0.out.r; have := H0.out.small; omega
  have htc : tc ≤ 1048576 := by have := H0.out.c; have := H0.out.small; omega
  have hr0 : r0 ≤ 1048576 := by have := H0.out.r; have := H0.out.small; omega
  have hc0 : c0 ≤ 1048576 := by have := H0.out.c; have := H0.out.small; omega
  have hr1 : r1 ≤ 1048576 := by have := H1.out.r; have := H1.out.small; omega
  have hc1 : c1 ≤ 1048576 := by have := H1.out.c; have := H1.out.small; omega
  go_loopw [16, 17] (fun v16 v17 wr => ∃ (i : Nat), v17 = .int .i64 i ∧ i ≤ tr ∧ v16 = .bool (shr tr tc r0 c0 r1 c1 (i * tc)) ∧ Aside0 (S5 w wr w.heap.size (w.heap.size + 1) w2.heap.size p g ga ca gm cm R C tr tc r0 c0 r1 c1 ys (mets l (pl C tc r0 c0) (pl C tc r1 c1) (i * tc)))) (fun _ v17 _ => tr - (intOf v17).toNat)
  case atStart => exact ⟨0, rfl, Nat.zero_le _, by rw [Nat.zero_mul]; rfl, ⟨by rw [Nat.zero_mul]; exact HS.out⟩⟩
  case round =>
    clear HS
    obtain ⟨i, rfl, hi, rfl, HS⟩ := hrel
    by_cases h1 : i < tr
    · have d1 : decide ((i : Int) < (tr : Int)) = true := decide_eq_true (by omega)
      have d1' : decide (i < tr) = true := decide_eq_true h1
      have HI := Aside0.mk h1
      have t0 := HS.out.til.cell 0
      clear h1
      go_wp2
      clear t0 d1 d1'
      go_loopw [16, 18] (fun v16 v18 wr => ∃ (j : Nat), v18 = .int .i64 j ∧ j ≤ tc ∧ v16 = .bool (shr tr tc r0 c0 r1 c1 (i * tc + j)) ∧ Aside0 (S5 w wr w.heap.size (w.heap.size + 1) w2.heap.size p g ga ca gm cm R C tr tc r0 c0 r1 c1 ys (mets l (pl C tc r0 c0) (pl C tc r1 c1) (i * tc + j)))) (fun _ v18 _ => tc - (intOf v18).toNat)
      case atStart => exact ⟨0, rfl, Nat.zero_le _, rfl, HS⟩
      case round =>
        clear HS
        obtain ⟨j, rfl, hj, rfl, HS⟩ := hrel
        by_cases h2 : j < tc
        · have d1 : decide ((j : Int) < (tc : Int)) = true := decide_eq_true (by omega)
          have d1' : decide (j < tc) = true := decide_eq_true h2
          obtain ⟨z, y, y2, k, m, hk, hm, hkl, hml, hmI, e1, e2, e3, e4⟩ := H0.out.nums2 HI.out h2
          obtain ⟨z', y', y2', k', m', hk', hm', hkl', hml', hmI', e1', e2', e3', e4'⟩ := H1.out.nums2 HI.out h2
          have HN := Aside0.mk (mets_at (l := l) (tr := tr) h2 hk hk')
          have HKl := Aside0.mk hkl
          have HKl' := Aside0.mk hkl'
          have HJ := Aside0.mk h2
          have hml2 := mets_len l (pl C tc r0 c0) (pl C tc r1 c1) (i * tc + j)
          obtain ⟨met, hmet⟩ : ∃ met, met = mets l (pl C tc r0 c0) (pl C tc r1 c1) (i * tc + j) := ⟨_, rfl⟩
          rw [← hmet] at HN HS hml2
          have HMl := Aside0.mk hml2
          obtain ⟨sv, hsv⟩ : ∃ sv, sv = shr tr tc r0 c0 r1 c1 (i * tc + j) := ⟨_, rfl⟩
          rw [← hsv]
          have HSv := Aside0.mk hsv
          have t0 := HS.out.til.cell 0
          have t1 := HS.out.til.cell 1
          have t2 := HS.out.til.cell 2
          have t3 := HS.out.til.cell 3
          have cC := HS.out.box.cell 1
          clear h2 hk hm hkl hml hmI hk' hm' hkl' hml' hmI' hml2 hmet hsv
          go_wp2_with fail
          refine start_ (n := 24) (S := fun w' => w'.cell? ⟨w.heap.size + 1, 2, none⟩ = some (.int .i64 (r0 : Int)) ∧ w'.cell? ⟨w.heap.size + 1, 3, none⟩ = some (.int .i64 (c0 : Int)) ∧ w'.cell? ⟨w.heap.size, 1, none⟩ = some (.int .i64 (C : Int))) (ds := []) #[false, false, false, false, false, false, false, false, false, false, false, false, false, false, false, false, false, false, false, false, false, false, false, false] (by kernel_rfl) rfl rfl ⟨t2, t3, cC⟩ (fun hHeld => ?_)
          refine pure_ (i := 0) (N := some 74) (v := ?_) (a' := ?_) #[true, false, false, false, false, false, false, false, false, false, false, false, false, false, false, false, false, false, false, false, false, false, false, false] rfl rfl (by kernel_rfl) (fun _ _ _ h => h) (Or.inl ⟨by rfl, ?_⟩) ?_ ?_
          rotate_left
          · intro w'
            go_simp
            with_reducible rfl
          rotate_left
          · simp only [Act.put, List.setIfInBounds_toArray, List.set_cons_zero, List.set_cons_succ, i64_w, i32_w]
            rfl
          refine pure_ (i := 2) (N := some 76) (v := ?_) (a' := ?_) #[true, false, true, false, false, false, false, false, false, false, false, false, false, false, false, false, false, false, false, false, false, false, false, false] rfl rfl (by kernel_rfl) (fun _ _ _ h => h) (Or.inl ⟨by rfl, ?_⟩) ?_ ?_
          rotate_left
          · intro w'
            go_simp
            with_reducible rfl
          rotate_left
          · simp only [Act.put, List.setIfInBounds_toArray, List.set_cons_zero, List.set_cons_succ, i64_w, i32_w]
            rfl
          refine pure_ (i := 4) (N := some 78) (v := ?_) (a' := ?_) #[true, false, true, false, true, false, false, false, false, false, false, false, false, false, false, false, false, false, false, false, false, false, false, false] rfl rfl (by kernel_rfl) (fun _ _ _ h => h) (Or.inl ⟨by rfl, ?_⟩) ?_ ?_
          rotate_left
          · intro w'
            go_simp
            with_reducible rfl
          rotate_left
          · simp only [Act.put, List.setIfInBounds_toArray, List.set_cons_zero, List.set_cons_succ, i64_w, i32_w]
            rfl
          refine pure_ (i := 7) (N := some 81) (v := ?_) (a' := ?_) #[true, false, true, false, true, false, false, true, false, false, false, false, false, false, false, false, false, false, false, false, false, false, false, false] rfl rfl (by kernel_rfl) (fun _ _ _ h => h) (Or.inl ⟨by rfl, ?_⟩) ?_ ?_
          rotate_left
          · intro w'
            go_simp
            with_reducible rfl
          rotate_left
          · simp only [Act.put, List.setIfInBounds_toArray, List.set_cons_zero, List.set_cons_succ, i64_w, i32_w]
            rfl
          refine pure_ (i := 10) (N := some 84) (v := ?_) (a' := ?_) #[true, false, true, false, true, false, false, true, false, false, true, false, false, false, false, false, false, false, false, false, false, false, false, false] rfl rfl (by kernel_rfl) (fun _ _ _ h => h) (Or.inl ⟨by rfl, ?_⟩) ?_ ?_
          rotate_left
          · intro w'
            go_simp
            with_reducible rfl
          rotate_left
          · simp only [Act.put, List.setIfInBounds_toArray, List.set_cons_zero, List.set_cons_succ, i64_w, i32_w]
            rfl
          refine pure_ (i := 12) (N := some 86) (v := ?_) (a' := ?_) #[true, false, true, false, true, false, false, true, false, false, true, false, true, false, false, false, false, false, false, false, false, false, false, false] rfl rfl (by kernel_rfl) (fun _ _ _ h => h) (Or.inl ⟨by rfl, ?_⟩) ?_ ?_
          rotate_left
          · intro w'
            go_simp
            with_reducible rfl
          rotate_left
          · simp only [Act.put, List.setIfInBounds_toArray, List.set_cons_zero, List.set_cons_succ, i64_w, i32_w]
            rfl
          refine pure_ (i := 13) (N := some 87) (v := ?_) (a' := ?_) #[true, false, true, false, true, false, false, true, false, false, true, false, true, true, false, false, false, false, false, false, false, false, false, false] rfl rfl (by kernel_rfl) (fun _ _ _ h => h) (Or.inl ⟨by rfl, ?_⟩) ?_ ?_
          rotate_left
          · intro w'
            go_simp
            with_reducible rfl
          rotate_left
          · simp only [Act.put, List.setIfInBounds_toArray, List.set_cons_zero, List.set_cons_succ, i64_w, i32_w]
            rfl
          refine pure_ (i := 14) (N := some 88) (v := ?_) (a' := ?_) #[true, false, true, false, true, false, false, true, false, false, true, false, true, true, true, false, false, false, false, false, false, false, false, false] rfl rfl (by kernel_rfl) (fun _ _ _ h => h) (Or.inl ⟨by rfl, ?_⟩) ?_ ?_
          rotate_left
          · intro w'
            go_simp
            with_reducible rfl
          rotate_left
          · simp only [Act.put, List.setIfInBounds_toArray, List.set_cons_zero, List.set_cons_succ, i64_w, i32_w]
            rfl
          refine pure_ (i := 15) (N := some 89) (v := ?_) (a' := ?_) #[true, false, true, false, true, false, false, true, false, false, true, false, true, true, true, true, false, false, false, false, false, false, false, false] rfl rfl (by kernel_rfl) (fun _ _ _ h => h) (Or.inl ⟨by rfl, ?_⟩) ?_ ?_
          rotate_left
          · intro w'
            go_simp
            with_reducible rfl
          rotate_left
          · simp only [Act.put, List.setIfInBounds_toArray, List.set_cons_zero, List.set_cons_succ, i64_w, i32_w]
            rfl
          refine pure_ (i := 18) (N := some 92) (v := ?_) (a' := ?_) #[true, false, true, false, true, false, false, true, false, false, true, false, true, true, true, true, false, false, true, false, false, false, false, false] rfl rfl (by kernel_rfl) (fun _ _ _ h => h) (Or.inl ⟨by rfl, ?_⟩) ?_ ?_
          rotate_left
          · intro w'
            go_simp
            with_reducible rfl
          rotate_left
          · simp only [Act.put, List.setIfInBounds_toArray, List.set_cons_zero, List.set_cons_succ, i64_w, i32_w]
            rfl
          refine pure_ (i := 20) (N := some 94) (v := ?_) (a' := ?_) #[true, false, true, false, true, false, false, true, false, false, true, false, true, true, true, true, false, false, true, false, true, false, false, false] rfl rfl (by kernel_rfl) (fun _ _ _ h => h) (Or.inl ⟨by rfl, ?_⟩) ?_ ?_
          rotate_left
          · intro w'
            go_simp
            with_reducible rfl
          rotate_left
          · simp only [Act.put, List.setIfInBounds_toArray, List.set_cons_zero, List.set_cons_succ, i64_w, i32_w]
            rfl
          refine take_ (i := 1) (N := some 75) (v := ?_) (a' := ?_) #[true, true, true, false, true, false, false, true, false, false, true, false, true, true, true, true, false, false, true, false, true, false, false, false] rfl rfl (by kernel_rfl) (fun _ _ _ h => h) (Or.inl ⟨by rfl, ?_⟩) hHeld ?_ ?_
          rotate_left
          · rintro w' ⟨s0, s1, s2⟩
            go_simp
            with_reducible rfl
          rotate_left
          · simp only [Act.put, List.setIfInBounds_toArray, List.set_cons_zero, List.set_cons_succ, i64_w, i32_w]
            rfl
          refine pure_ (i := 3) (N := some 77) (v := ?_) (a' := ?_) #[true, true, true, true, true, false, false, true, false, false, true, false, true, true, true, true, false, false, true, false, true, false, false, false] rfl rfl (by kernel_rfl) (fun _ _ _ h => h) (Or.inl ⟨by rfl, ?_⟩) ?_ ?_
          rotate_left
          · intro w'
            go_simp
            with_reducible rfl
          rotate_left
          · simp only [Act.put, List.setIfInBounds_toArray, List.set_cons_zero, List.set_cons_succ, i64_w, i32_w]
            rfl
          refine take_ (i := 5) (N := some 79) (v := ?_) (a' := ?_) #[true, true, true, true, true, true, false, true, false, false, true, false, true, true, true, true, false, false, true, false, true, false, false, false] rfl rfl (by kernel_rfl) (fun _ _ _ h => h) (Or.inl ⟨by rfl, ?_⟩) hHeld ?_ ?_
          rotate_left
          · rintro w' ⟨s0, s1, s2⟩
            go_simp
            with_reducible rfl
          rotate_left
          · simp only [Act.put, List.setIfInBounds_toArray, List.set_cons_zero, List.set_cons_succ, i64_w, i32_w]
            rfl
          refine pure_ (i := 6) (N := some 80) (v := ?_) (a' := ?_) #[true, true, true, true, true, true, true, true, false, false, true, false, true, true, true, true, false, false, true, false, true, false, false, false] rfl rfl (by kernel_rfl) (fun _ _ _ h => h) (Or.inl ⟨by rfl, ?_⟩) ?_ ?_
          rotate_left
          · intro w'
            go_simp
            with_reducible rfl
          rotate_left
          · simp only [Act.put, List.setIfInBounds_toArray, List.set_cons_zero, List.set_cons_succ, i64_w, i32_w]
            rfl
          refine take_ (i := 8) (N := some 82) (v := ?_) (a' := ?_) #[true, true, true, true, true, true, true, true, true, false, true, false, true, true, true, true, false, false, true, false, true, false, false, false] rfl rfl (by kernel_rfl) (fun _ _ _ h => h) (Or.inl ⟨by rfl, ?_⟩) hHeld ?_ ?_
          rotate_left
          · rintro w' ⟨s0, s1, s2⟩
            go_simp
            with_reducible rfl
          rotate_left
          · simp only [Act.put, List.setIfInBounds_toArray, List.set_cons_zero, List.set_cons_succ, i64_w, i32_w]
            rfl
          refine pure_ (i := 9) (N := some 83) (v := ?_) (a' := ?_) #[true, true, true, true, true, true, true, true, true, true, true, false, true, true, true, true, false, false, true, false, true, false, false, false] rfl rfl (by kernel_rfl) (fun _ _ _ h => h) (Or.inl ⟨by rfl, ?_⟩) ?_ ?_
          rotate_left
          · intro w'
            go_simp
            with_reducible rfl
          rotate_left
          · simp only [Act.put, List.setIfInBounds_toArray, List.set_cons_zero, List.set_cons_succ, i64_w, i32_w]
            rfl
          refine pure_ (i := 11) (N := some 85) (v := ?_) (a' := ?_) #[true, true, true, true, true, true, true, true, true, true, true, true, true, true, true, true, false, false, true, false, true, false, false, false] rfl rfl (by kernel_rfl) (fun _ _ _ h => h) (Or.inl ⟨by rfl, ?_⟩) ?_ ?_
          rotate_left
          · intro w'
            go_simp
            with_reducible rfl
          rotate_left
          · simp only [Act.put, List.setIfInBounds_toArray, List.set_cons_zero, List.set_cons_succ, i64_w, i32_w]
            rfl
          refine pure_ (i := 22) (N := some 19) (v := ?_) (a' := ?_) #[true, true, true, true, true, true, true, true, true, true, true, true, true, true, true, true, false, false, true, false, true, false, true, false] rfl rfl (by kernel_rfl) (fun _ _ _ h => h) (Or.inl ⟨by rfl, ?_⟩) ?_ ?_
          rotate_left
          · intro w'
            go_simp
            with_reducible rfl
          rotate_left
          · simp only [Act.put, List.setIfInBounds_toArray, List.set_cons_zero, List.set_cons_succ, i64_w, i32_w]
            rfl
          refine take_ (i := 16) (N := some 90) (v := ?_) (a' := ?_) #[true, true, true, true, true, true, true, true, true, true, true, true, true, true, true, true, true, false, true, false, true, false, true, false] rfl rfl (by kernel_rfl) (fun _ _ _ h => h) (Or.inl ⟨by rfl, ?_⟩) hHeld ?_ ?_
          rotate_left
          · rintro w' ⟨s0, s1, s2⟩
            go_simp
            with_reducible rfl
          rotate_left
          · simp only [Act.put, List.setIfInBounds_toArray, List.set_cons_zero, List.set_cons_succ, i64_w, i32_w]
            rfl
          refine pure_ (i := 17) (N := some 91) (v := ?_) (a' := ?_) #[true, true, true, true, true, true, true, true, true, true, true, true, true, true, true, true, true, true, true, false, true, false, true, false] rfl rfl (by kernel_rfl) (fun _ _ _ h => h) (Or.inl ⟨by rfl, ?_⟩) ?_ ?_
          rotate_left
          · intro w'
            go_simp
            with_reducible rfl
          rotate_left
          · simp only [Act.put, List.setIfInBounds_toArray, List.set_cons_zero, List.set_cons_succ, i64_w, i32_w]
            rfl
          refine pure_ (i := 19) (N := some 93) (v := ?_) (a' := ?_) #[true, true, true, true, true, true, true, true, true, true, true, true, true, true, true, true, true, true, true, true, true, false, true, false] rfl rfl (by kernel_rfl) (fun _ _ _ h => h) (Or.inl ⟨by rfl, ?_⟩) ?_ ?_
          rotate_left
          · intro w'
            go_simp
            with_reducible rfl
          rotate_left
          · simp only [Act.put, List.setIfInBounds_toArray, List.set_cons_zero, List.set_cons_succ, i64_w, i32_w]
            rfl
          refine pure_ (i := 21) (N := some 95) (v := ?_) (a' := ?_) #[true, true, true, true, true, true, true, true, true, true, true, true, true, true, true, true, true, true, true, true, true, true, true, false] rfl rfl (by kernel_rfl) (fun _ _ _ h => h) (Or.inl ⟨by rfl, ?_⟩) ?_ ?_
          rotate_left
          · intro w'
            go_simp
            with_reducible rfl
          rotate_left
          · simp only [Act.put, List.setIfInBounds_toArray, List.set_cons_zero, List.set_cons_succ, i64_w, i32_w]
            rfl
          refine pure_ (i := 23) (N := some 20) (v := ?_) (a' := ?_) #[true, true, true, true, true, true, true, true, true, true, true, true, true, true, true, true, true, true, true, true, true, true, true, true] rfl rfl (by kernel_rfl) (fun _ _ _ h => h) (Or.inl ⟨by rfl, ?_⟩) ?_ ?_
          rotate_left
          · intro w'
            go_simp
            with_reducible rfl
          rotate_left
          · simp only [Act.put, List.setIfInBounds_toArray, List.set_cons_zero, List.set_cons_succ, i64_w, i32_w]
            rfl
          refine done_ (by kernel_rfl) ?_

          clear hHeld t0 t1 t2 t3 cC e1 e2 e3 e4 e1' e2' e3' e4'
          have HS2 := HS
          have q1 : (0 : Int) ≤ (k : Int) := by omega
          have q2 : (k : Int) < (l.length : Int) := by have := HKl.out; omega
          have q1' : (0 : Int) ≤ (k' : Int) := by omega
          have q2' : (k' : Int) < (l.length : Int) := by have := HKl'.out; omega
          have x1 := (HL.out.below HS2.out.be).at_ad k' HKl'.out
          have m1 := HS2.out.met.cell k (by rw [HMl.out]; exact HKl.out)
          have f1 := HS2.out.met.frozen k (by rw [HMl.out]; exact HKl.out)
          have HS3 := Aside0.mk (HS2.out.set k (l.getD k' 0))
          have x2 := (HL.out.below HS3.out.be).at_ad k HKl.out
          have m2 := HS3.out.met.cell k' (by rw [List.length_set, HMl.out]; exact HKl'.out)
          have f2 := HS3.out.met.frozen k' (by rw [List.length_set, HMl.out]; exact HKl'.out)
          have HS4 := Aside0.mk (HS3.out.set k' (l.getD k 0))
          have t0 := HS4.out.til.cell 0
          have t1 := HS4.out.til.cell 1
          have t2 := HS4.out.til.cell 2
          have t3 := HS4.out.til.cell 3
          have HS4 := Aside0.mk (HS4.out.below (below_drew1 (Below.refl _ _)))
          rw [← HN.out] at HS4
          clear HS HS2 HS3 HN
          generalize l.getD k 0 = v1 at *
          generalize l.getD k' 0 = v2 at *
          generalize met.getD k 0 = v3 at *
          generalize (met.set k v2).getD k' 0 = v4 at *
          cases sv
          · rcases (show ¬ r0 ≤ r1 + i ∨ (r0 ≤ r1 + i ∧ ¬ r1 + i < r0 + tr) ∨ (r0 ≤ r1 + i ∧ r1 + i < r0 + tr ∧ ¬ c0 ≤ c1 + j) ∨ (r0 ≤ r1 + i ∧ r1 + i < r0 + tr ∧ c0 ≤ c1 + j ∧ ¬ c1 + j < c0 + tc) ∨ (r0 ≤ r1 + i ∧ r1 + i < r0 + tr ∧ c0 ≤ c1 + j ∧ c1 + j < c0 + tc) by omega) with g1 | ⟨g1, g2⟩ | ⟨g1, g2, g3⟩ | ⟨g1, g2, g3, g4⟩ | ⟨g1, g2, g3, g4⟩
            · have d2 : decide ((r0 : Int) ≤ (r1 : Int) + (i : Int)) = false := decide_eq_false (by omega)
              have d2' : decide (r0 ≤ r1 + i) = false := decide_eq_false g1
              have HSn := Aside0.mk (shr_at HJ.out HSv.out.symm false (by simp; omega))
              clear g1
              go_wp2
              go_roundw
              case rel => exact ⟨j + 1, by go_num, HJ.out, by rw [HSn.out], HS4⟩
              case measure =>
                have := HJ.out
                simp [intOf]; omega
            · have d2 : decide ((r0 : Int) ≤ (r1 : Int) + (i : Int)) = true := decide_eq_true (by omega)
              have d2' : decide (r0 ≤ r1 + i) = true := decide_eq_true g1
              have d3 : decide ((r1 : Int) + (i : Int) < (r0 : Int) + (tr : Int)) = false := decide_eq_false (by omega)
              have d3' : decide (r1 + i < r0 + tr) = false := decide_eq_false g2
              have HSn := Aside0.mk (shr_at HJ.out HSv.out.symm false (by simp; omega))
              clear g1 g2
              go_wp2
              go_roundw
              case rel => exact ⟨j + 1, by go_num, HJ.out, by rw [HSn.out], HS4⟩
              case measure =>
                have := HJ.out
                simp [intOf]; omega
            · have d2 : decide ((r0 : Int) ≤ (r1 : Int) + (i : Int)) = true := decide_eq_true (by omega)
              have d2' : decide (r0 ≤ r1 + i) = true := decide_eq_true g1
              have d3 : decide ((r1 : Int) + (i : Int) < (r0 : Int) + (tr : Int)) = true := decide_eq_true (by omega)
              have d3' : decide (r1 + i < r0 + tr) = true := decide_eq_true g2
              have d4 : decide ((c0 : Int) ≤ (c1 : Int) + (j : Int)) = false := decide_eq_false (by omega)
              have d4' : decide (c0 ≤ c1 + j) = false := decide_eq_false g3
              have HSn := Aside0.mk (shr_at HJ.out HSv.out.symm false (by simp; omega))
              clear g1 g2 g3
              go_wp2
              go_roundw
              case rel => exact ⟨j + 1, by go_num, HJ.out, by rw [HSn.out], HS4⟩
              case measure =>
                have := HJ.out
                simp [intOf]; omega
            · have d2 : decide ((r0 : Int) ≤ (r1 : Int) + (i : Int)) = true := decide_eq_true (by omega)
              have d2' : decide (r0 ≤ r1 + i) = true := decide_eq_true g1
              have d3 : decide ((r1 : Int) + (i : Int) < (r0 : Int) + (tr : Int)) = true := decide_eq_true (by omega)
              have d3' : decide (r1 + i < r0 + tr) = true := decide_eq_true g2
              have d4 : decide ((c0 : Int) ≤ (c1 : Int) + (j : Int)) = true := decide_eq_true (by omega)
              have d4' : decide (c0 ≤ c1 + j) = true := decide_eq_true g3
              have d5 : decide ((c1 : Int) + (j : Int) < (c0 : Int) + (tc : Int)) = false := decide_eq_false (by omega)
              have d5' : decide (c1 + j < c0 + tc) = false := decide_eq_false g4
              have HSn := Aside0.mk (shr_at HJ.out HSv.out.symm false (by simp; omega))
              clear g1 g2 g3 g4
              go_wp2
              go_roundw
              case rel => exact ⟨j + 1, by go_num, HJ.out, by rw [HSn.out], HS4⟩
              case measure =>
                have := HJ.out
                simp [intOf]; omega
            · have d2 : decide ((r0 : Int) ≤ (r1 : Int) + (i : Int)) = true := decide_eq_true (by omega)
              have d2' : decide (r0 ≤ r1 + i) = true := decide_eq_true g1
              have d3 : decide ((r1 : Int) + (i : Int) < (r0 : Int) + (tr : Int)) = true := decide_eq_true (by omega)
              have d3' : decide (r1 + i < r0 + tr) = true := decide_eq_true g2
              have d4 : decide ((c0 : Int) ≤ (c1 : Int) + (j : Int)) = true := decide_eq_true (by omega)
              have d4' : decide (c0 ≤ c1 + j) = true := decide_eq_true g3
              have d5 : decide ((c1 : Int) + (j : Int) < (c0 : Int) + (tc : Int)) = true := decide_eq_true (by omega)
              have d5' : decide (c1 + j < c0 + tc) = true := decide_eq_true g4
              have HSn := Aside0.mk (shr_at HJ.out HSv.out.symm true (by simp; omega))
              clear g1 g2 g3 g4
              go_wp2
              go_roundw
              case rel => exact ⟨j + 1, by go_num, HJ.out, by rw [HSn.out], HS4⟩
              case measure =>
                have := HJ.out
                simp [intOf]; omega
          · have HSn := Aside0.mk (shr_on HSv.out.symm)
            go_wp2
            go_roundw
            case rel => exact ⟨j + 1, by go_num, HJ.out, by rw [HSn.out], HS4⟩
            case measure =>
              have := HJ.out
              simp [intOf]; omega
        · obtain rfl : tc = j := by omega
          have d1 : decide ((tc : Int) < (tc : Int)) = false := by simp
          have t1 := HS.out.til.cell 1
          go_wp2
          clear t1
          go_roundw
          case rel => exact ⟨i + 1, by go_num, HI.out, by rw [Nat.add_mul, Nat.one_mul], ⟨by rw [Nat.add_mul, Nat.one_mul]; exact HS.out⟩⟩
          case measure =>
            have := HI.out
            simp [intOf]; omega
    · obtain rfl : tr = i := by omega
      have d1 : decide ((tr : Int) < (tr : Int)) = false := by simp
      clear h1 hi d1
      have hd0 := HRes.out
      rcases (show (r0 = r1 ∧ c0 = c1 ∧ en = 0 ∧ l = ys) ∨ (¬ (r0 = r1 ∧ c0 = c1) ∧ ¬ Apart tr tc r0 c0 r1 c1 ∧ en = 19 ∧ l = ys) ∨ (¬ (r0 = r1 ∧ c0 = c1) ∧ Apart tr tc r0 c0 r1 c1 ∧ en = 0 ∧ ys = mets l (pl C tc r0 c0) (pl C tc r1 c1) (tr * tc)) by
        cases hd0 with
        | same a b => exact .inl ⟨a, b, rfl, rfl⟩
        | odd a b => exact .inr (.inl ⟨a, b, rfl, rfl⟩)
        | ok a b => exact .inr (.inr ⟨a, b, rfl, swp_ok H0.out H1.out b⟩)) with ⟨g1, g2, rfl, rfl⟩ | ⟨g1, g2, rfl, rfl⟩ | ⟨g1, g2, rfl, hys⟩
      · clear hd0
        have hs := shr_yes (r0 := r0) (c0 := c0) (r1 := r1) (c1 := c1) H0.out.pos (by unfold Apart; have := H0.out.pos; omega)
        subst g1
        subst g2
        rw [hs]
        have hys := (mets_same (l := l) (f := pl C tc r0 c0) (m := tr * tc) fun j hj => pl_lt H0.out hj).symm
        rw [← hys] at HS
        clear hs
        have hys2 : l = l := rfl
        obtain ⟨k5, h5⟩ := (same_ l l (by have := HM.out; omega)).rounds
        rw [decide_eq_true rfl] at h5
        have K5 := Aside0.mk h5
        have t0 := HS.out.til.cell 0
        have t1 := HS.out.til.cell 1
        have t2 := HS.out.til.cell 2
        have t3 := HS.out.til.cell 3
        have u0 := HS.out.oth.cell 0
        have u1 := HS.out.oth.cell 1
        have u2 := HS.out.oth.cell 2
        have u3 := HS.out.oth.cell 3
        clear h5 hys hys2
        go_wp2_with fail
        clear t0 t1 t2 t3 u0 u1 u2 u3
        with_reducible refine (same_call k5 (some ⟨ga, 0, none⟩) ca l (some ⟨gm, 0, none⟩) cm l _ _ true _ rfl rfl HS.out.wm.reads HS.out.wm.cap_le HS.out.met.reads HS.out.met.cap_le K5.out).mono ?_
        rintro e w9 ⟨rfl, hb⟩
        have HB9 := Aside0.mk (below_then HS.out.be HS.out.be.size hb.below)
        clear hb HS
        go_wp2
        go_ret
        exact ⟨rfl, HB9.out⟩
      · clear hd0
        rw [shr_yes H0.out.pos g2]
        rcases (show ¬ r0 = r1 ∨ (r0 = r1 ∧ ¬ c0 = c1) by omega) with g3 | ⟨g3, g4⟩
        · have b1 : ((r0 : Int) == (r1 : Int)) = false := by simp; omega
          have b1' : (r0 == r1) = false := by simp; omega
          obtain ⟨k5, h5⟩ := (same_ l l (by have := HM.out; omega)).rounds
          rw [decide_eq_true rfl] at h5
          have K5 := Aside0.mk h5
          have t0 := HS.out.til.cell 0
          have t1 := HS.out.til.cell 1
          have t2 := HS.out.til.cell 2
          have t3 := HS.out.til.cell 3
          have u0 := HS.out.oth.cell 0
          have u1 := HS.out.oth.cell 1
          have u2 := HS.out.oth.cell 2
          have u3 := HS.out.oth.cell 3
          clear g1 g2 g3 h5
          go_wp2_with fail
          clear t0 t1 t2 t3 u0 u1 u2 u3
          with_reducible refine (same_call k5 (some ⟨ga, 0, none⟩) ca l (some ad) n l _ _ true _ rfl rfl HS.out.wm.reads HS.out.wm.cap_le (HL.out.below HS.out.be).r HL.out.c K5.out).mono ?_
          rintro e w9 ⟨rfl, hb⟩
          have HB9 := Aside0.mk (below_then HS.out.be HS.out.be.size hb.below)
          clear hb HS
          go_wp2
          go_ret
          exact ⟨rfl, HB9.out⟩
        · have b1 : ((r0 : Int) == (r1 : Int)) = true := by simp [g3]
          have b1' : (r0 == r1) = true := by simp [g3]
          have b2 : ((c0 : Int) == (c1 : Int)) = false := by simp; omega
          have b2' : (c0 == c1) = false := by simp; omega
          obtain ⟨k5, h5⟩ := (same_ l l (by have := HM.out; omega)).rounds
          rw [decide_eq_true rfl] at h5
          have K5 := Aside0.mk h5
          have t0 := HS.out.til.cell 0
          have t1 := HS.out.til.cell 1
          have t2 := HS.out.til.cell 2
          have t3 := HS.out.til.cell 3
          have u0 := HS.out.oth.cell 0
          have u1 := HS.out.oth.cell 1
          have u2 := HS.out.oth.cell 2
          have u3 := HS.out.oth.cell 3
          clear g1 g2 g3 g4 h5
          go_wp2_with fail
          clear t0 t1 t2 t3 u0 u1 u2 u3
          with_reducible refine (same_call k5 (some ⟨ga, 0, none⟩) ca l (some ad) n l _ _ true _ rfl rfl HS.out.wm.reads HS.out.wm.cap_le (HL.out.below HS.out.be).r HL.out.c K5.out).mono ?_
          rintro e w9 ⟨rfl, hb⟩
          have HB9 := Aside0.mk (below_then HS.out.be HS.out.be.size hb.below)
          clear hb HS
          go_wp2
          go_ret
          exact ⟨rfl, HB9.out⟩
      · clear hd0
        rw [shr_no H0.out.pos g2]
        · skip
          obtain ⟨k5, h5⟩ := (same_ ys (mets l (pl C tc r0 c0) (pl C tc r1 c1) (tr * tc)) (by rw [HYl.out]; have := HM.out; omega)).rounds
          rw [decide_eq_true hys] at h5
          have K5 := Aside0.mk h5
          have t0 := HS.out.til.cell 0
          have t1 := HS.out.til.cell 1
          have t2 := HS.out.til.cell 2
          have t3 := HS.out.til.cell 3
          have u0 := HS.out.oth.cell 0
          have u1 := HS.out.oth.cell 1
          have u2 := HS.out.oth.cell 2
          have u3 := HS.out.oth.cell 3
          clear g1 g2 h5 hys
          go_wp2_with fail
          clear t0 t1 t2 t3 u0 u1 u2 u3
          with_reducible refine (same_call k5 (some ⟨ga, 0, none⟩) ca ys (some ⟨gm, 0, none⟩) cm (mets l (pl C tc r0 c0) (pl C tc r1 c1) (tr * tc)) _ _ true _ HYl.out.symm (mets_len ..).symm HS.out.wm.reads HS.out.wm.cap_le HS.out.met.reads HS.out.met.cap_le K5.out).mono ?_
          rintro e w9 ⟨rfl, hb⟩
          have HB9 := Aside0.mk (below_then HS.out.be HS.out.be.size hb.below)
          clear hb HS
          go_wp2
          go_ret
          exact ⟨rfl, HB9.out⟩
end Go.Proofs.YthppiphldaopnaaDoor.Obj
