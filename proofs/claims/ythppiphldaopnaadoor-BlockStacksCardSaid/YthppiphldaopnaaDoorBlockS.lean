import Derived.Test.YthppiphldaopnaaDoorBlockR
import Derived.Test.YthppiphldaopnaaDoorBlockE
/-! Blocks: the law of stacks. -/
namespace Go.Proofs.YthppiphldaopnaaDoor.Obj
open Go.RowKit Go.Proofs.YthppiphldaopnaaDoor Go.Proofs.YthppiphldaopnaaDoor.Ext Go.Proofs.YthppiphldaopnaaDoor.PShape Go.Proofs.YthppiphldaopnaaDoor.PBlk Go.Proofs.YthppiphldaopnaaDoor.Pure Go.Proofs.YthppiphldaopnaaDoorW.PrintWords Go.Proofs.YthppiphldaopnaaDoorW.PrintLast Go.Proofs.YthppiphldaopnaaDoorW.PrintMore
set_option linter.unusedVariables false
set_option linter.unusedSimpArgs false
set_option maxRecDepth 100000
attribute [local go_sem high] eqA26

structure Ast (w0 w : World) (t p g : Nat) (R C : Int) (l : List Int) (v v' : Value) (i j : Nat) : Prop where
  blk : Blo w p g R C l
  box : Bk w t 26 [.int .i64 R, .int .i64 C]
  all : PK.R 48 w w0.heap.size (fun _ => True) v (List.replicate i (some ⟨p, 0, none⟩))
  words : Kd.R (Kd.int .u64) 66 w w0.heap.size (fun k => k ≠ g) v' (reps j l)
  be : Below w0.heap.size w0 w
theorem Ast.below {w0 w w' : World} {t p g : Nat} {R C : Int} {l : List Int} {v v' : Value} {i j : Nat} (h : Ast w0 w t p g R C l v v' i j) (hb : Below w.heap.size w w') : Ast w0 w' t p g R C l v v' i j :=
  ⟨h.blk.below hb, h.box.below hb, Kd.R_below h.all hb, Kd.R_below h.words hb, below_then h.be h.be.size hb⟩
theorem grown_bk {w w' : World} {v : Value} {t T e base : Nat} {cs : List Value} {α : Type} {d : Kd α} {ok : Nat → Prop} {xs : List α} (h : Bk w t T cs) (hr : d.R e w base ok v xs) (hne : e ≠ T) (hg : w.grownBy w' v.ownBlock) : Bk w' t T cs :=
  (hg.block t h.lt (fun q => by
    obtain ⟨cells, hc⟩ := Kd.R_typed hr t q.symm
    unfold Bk at h
    rw [hc] at h
    simp at h
    exact hne h.2)).trans h
theorem Ast.one {w0 w w' : World} {t p g : Nat} {R C : Int} {l : List Int} {v v' u : Value} {i j : Nat} (h : Ast w0 w t p g R C l v v' i j) (hr : PK.R 48 w' w0.heap.size (fun _ => True) u (List.replicate i (some ⟨p, 0, none⟩) ++ [some ⟨p, 0, none⟩])) (hb : Below w0.heap.size w0 w') (hg : w.grownBy w' v.ownBlock) : Ast w0 w' t p g R C l u v' (i + 1) j :=
  ⟨⟨grown_bk h.blk.obj h.all (by decide) hg, grown_bk h.blk.row h.all (by decide) hg, h.blk.good, h.blk.len, h.blk.max⟩, grown_bk h.box h.all (by decide) hg, by rw [List.replicate_succ']; exact hr,
    Kd.R_over h.words h.all (by intro q hq; simp [Kd.int, Kd.scalar] at hq; subst hq; decide) hg, hb⟩
theorem Ast.two {w0 w w' : World} {t p g : Nat} {R C : Int} {l : List Int} {v v' u : Value} {i j : Nat} (h : Ast w0 w t p g R C l v v' i j) (hr : Kd.R (Kd.int .u64) 66 w' w0.heap.size (fun k => k ≠ g) u (reps j l ++ l)) (hb : Below w0.heap.size w0 w') (hg : w.grownBy w' v'.ownBlock) : Ast w0 w' t p g R C l v u i (j + 1) :=
  ⟨⟨grown_bk h.blk.obj h.words (by decide) hg, (hg.block g h.blk.row.lt (Kd.R_away h.words (fun k hk => hk))).trans h.blk.row, h.blk.good, h.blk.len, h.blk.max⟩, grown_bk h.box h.words (by decide) hg,
    Kd.R_over h.all h.words (by intro q hq; simp [PK, Kd.scalar] at hq; subst hq; decide) hg, by rw [reps_succ]; exact hr, hb⟩
theorem pow_mod3 (m : Nat) : 2 ^ m % 3 = 1 ∨ 2 ^ m % 3 = 2 := by
  induction m with
  | zero => left; rfl
  | succ m ih => rw [Nat.pow_succ]; omega
theorem pow_mod5 (m : Nat) : 2 ^ m % 5 ≠ 0 := by
  induction m with
  | zero => decide
  | succ m ih => rw [Nat.pow_succ]; omega
theorem pow_mod7 (m : Nat) : 2 ^ m % 7 ≠ 0 := by
  induction m with
  | zero => decide
  | succ m ih => rw [Nat.pow_succ]; omega
theorem pw_small {R : Nat} {a : Nat} (h : Pw (R : Int) a) (hR : R ≤ 64) : a ≤ 6 := by
  rcases Nat.lt_or_ge 6 a with h1 | h1
  · have := pow_mono (i := 7) (j := a) (by omega)
    have := h.2
    omega
  · exact h1
theorem good_mul {R C K e : Nat} (hg : GoodS R C) (hR : R ≤ 64) (hC : C ≤ 64) (hK : K = 2 ^ e) (he : e ≤ 3) : GoodS ((K : Int) * R) C := by
  obtain ⟨a, b, h1, h2, h3⟩ := hg
  have ha := pw_small h2 hR
  have hb := pw_small h3 hC
  refine ⟨e + a, b, by omega, ⟨by omega, ?_⟩, h3⟩
  have := h2.2
  rw [this, hK, Nat.pow_add, Int.natCast_mul]
theorem good_nmul {R C K : Nat} (hK : K = 3 ∨ K = 5 ∨ K = 6 ∨ K = 7) : ¬ GoodS ((K : Int) * R) C := by
  rintro ⟨a, b, h1, h2, h3⟩
  have e : (K : Int) * R = ((2 ^ a : Nat) : Int) := h2.2
  rw [← Int.natCast_mul] at e
  have e2 : K * R = 2 ^ a := by omega
  have m3 := pow_mod3 a
  have m5 := pow_mod5 a
  have m7 := pow_mod7 a
  rw [← e2] at m3 m5 m7
  rcases hK with rfl | rfl | rfl | rfl <;> omega
theorem and_good {R C K : Nat} (hg : GoodS R C) (hR : R ≤ 64) (hC : C ≤ 64) (hK : 1 ≤ K ∧ K ≤ 8) : (GoodS ((K : Int) * R) C ∧ (bits BinOp.and IntKind.i64 (K : Int) ((K : Int) - 1) != 0) = false) ∨ (¬ GoodS ((K : Int) * R) C ∧ (bits BinOp.and IntKind.i64 (K : Int) ((K : Int) - 1) != 0) = true) := by
  rcases (show K = 1 ∨ K = 2 ∨ K = 3 ∨ K = 4 ∨ K = 5 ∨ K = 6 ∨ K = 7 ∨ K = 8 by omega) with rfl | rfl | rfl | rfl | rfl | rfl | rfl | rfl
  · exact .inl ⟨good_mul (e := 0) hg hR hC rfl (by omega), by rfl⟩
  · exact .inl ⟨good_mul (e := 1) hg hR hC rfl (by omega), by rfl⟩
  · exact .inr ⟨good_nmul (by omega), by rfl⟩
  · exact .inl ⟨good_mul (e := 2) hg hR hC rfl (by omega), by rfl⟩
  · exact .inr ⟨good_nmul (by omega), by rfl⟩
  · exact .inr ⟨good_nmul (by omega), by rfl⟩
  · exact .inr ⟨good_nmul (by omega), by rfl⟩
  · exact .inl ⟨good_mul (e := 3) hg hR hC rfl (by omega), by rfl⟩
theorem reps_getD (K : Nat) (l : List Int) (i : Nat) (hi : i < K) (k : Nat) (hk : k < l.length) : (reps K l).getD (i * l.length + k) 0 = l.getD k 0 := by
  induction K with
  | zero => omega
  | succ K ih =>
    rw [reps_succ]
    have hl := reps_len K l
    by_cases e : i = K
    · subst e
      simp only [List.getD]
      rw [List.getElem?_append_right (by omega), hl]
      congr 2
      omega
    · have h1 : i * l.length + k < (reps K l).length := by
        rw [hl]
        have : (i + 1) * l.length ≤ K * l.length := Nat.mul_le_mul_right _ (by omega)
        rw [Nat.add_mul] at this
        omega
      have := ih (by omega)
      simp only [List.getD] at this ⊢
      rw [List.getElem?_append_left h1]
      exact this
theorem PK_two {w : World} {g : Nat} {a b : Option Addr} (h : Bk w g 48 [.pointer a, .pointer b]) : PK.C w (some ⟨g, 0, none⟩) 2 [a, b] := by
  refine ⟨rfl, by omega, fun _ => ⟨_, rfl, fun j p hj => ⟨[.pointer p], rfl, rfl, fun i u hu => ?_⟩⟩⟩
  rcases i with _ | i
  · simp only [List.getElem?_cons_zero, Option.some.injEq] at hu
    subst hu
    have hsz : PK.sz = 1 := rfl
    rw [hsz, add_at, Bk.cell h]
    rcases j with _ | _ | j
    · simp at hj; subst hj; rfl
    · simp at hj; subst hj; rfl
    · simp at hj
  · simp at hu
theorem got_last {R C K k1 : Nat} {l ys : List Int} (hK : K = k1 + 1) (hn : R * C = l.length) (hy : ys.length = R * C) (h : Got (reps K l) ys C C (k1 * R) 0 R) : ys = l := by
  refine getD_ext (hy.trans hn) fun k hk => ?_
  rw [hy] at hk
  obtain ⟨b, a, hb, ha, rfl⟩ := place_of (R := C) (C := R) (by rw [Nat.mul_comm]; exact hk)
  rw [h a b ha hb, Nat.add_mul, Nat.mul_assoc, hn, Nat.add_zero, Nat.add_assoc]
  exact reps_getD K l k1 (by omega) (a * C + b) (by have := place_lt' ha hb; omega)
structure Zst (w0 w : World) (t p g q h : Nat) (R C : Nat) (K : Nat) (l : List Int) (v v' : Value) : Prop where
  a : Ast w0 w t p g R C l v v' K K
  x : Blo w q h ((K * R : Nat) : Int) C (reps K l)
theorem Zst.below {w0 w w' : World} {t p g q h R C K : Nat} {l : List Int} {v v' : Value} (k : Zst w0 w t p g q h R C K l v v') (hb : Below w.heap.size w w') : Zst w0 w' t p g q h R C K l v v' := ⟨k.a.below hb, k.x.below hb⟩
set_option maxHeartbeats 8000000 in
theorem stacks_in (R C : Nat) (A : Option Addr) (n kk : Nat) (l : List Int) (x : Int) (w : World) (hg : GoodS R C) (hn : R * C = l.length) (hm : l.length ≤ 64) (hl : In w A n l) (hx : wrap64 (1 + (wrap64 x).tmod 8) = (kk : Int)) (hK : 1 ≤ kk ∧ kk ≤ 8) (hT : TabOK w) :
    Calls Tryd.prog 11 #[.agg #[.int .i64 R, .int .i64 C], .slice A l.length n, .int .u8 x] w fun e w' => e = .returned (.bool true) ∧ Below w.heap.size w w' := by
  have hgp := good_pos hg
  have hpos : 0 < l.length := by rw [← hn]; exact Nat.mul_pos (by omega) (by omega)
  have hRl : R ≤ 64 := by have : R * 1 ≤ R * C := Nat.mul_le_mul_left _ (by omega)
                          omega
  have hCl : C ≤ 64 := by have : 1 * C ≤ R * C := Nat.mul_le_mul_right _ (by omega)
                          omega
  have dl : decide (64 < (l.length : Int)) = false := decide_eq_false (by omega)
  have HG := Aside0.mk hg
  have HN := Aside0.mk hn
  have HL := Aside0.mk hl
  have HT := Aside0.mk hT
  have HM := Aside0.mk hm
  have HPos := Aside0.mk hpos
  have HBe0 := Aside0.mk (below_alloc (Below.refl w.heap.size w) (Obj.cells #[.int .i64 (R : Int), .int .i64 (C : Int)] 26))
  have HX0 := Aside0.mk (Bk.new w 26 [.int .i64 R, .int .i64 C])
  clear hg hn hl hT hm hgp hpos
  go_enter Tryd.func11, Tryd.ntmps11
  go_wp2_with fail
  refine (bawake_ _ (TabOK.below HT.out HBe0.out)).mono ?_
  rintro e w1 ⟨rfl, hb⟩
  have HB1 := Aside0.mk (below_then HBe0.out HBe0.out.size hb)
  have HX1 := Aside0.mk (HX0.out.below hb)
  clear hb HBe0 HX0
  have c0' := HX1.out.cell 0
  have c1' := HX1.out.cell 1
  go_wp2_with fail
  refine (made_yes R C A n l _ HG.out (by rw [← Int.natCast_mul, HN.out]) (by have := HM.out; omega) (HL.out.below HB1.out) (TabOK.below HT.out HB1.out)).mono ?_
  rintro e w2 ⟨p, g, rfl, hb, hbe, hp, hg⟩
  have HS := Aside0.mk (Ast.mk (w0 := w) (v := .slice none 0 0) (v' := .slice none 0 0) (i := 0) (j := 0) hb (HX1.out.below hbe) (Kd.R_nil PK _ _ _ _) (Kd.R_nil (Kd.int .u64) _ _ _ _) (below_then HB1.out HB1.out.size hbe))
  have HNe : Aside0 (w.heap.size ≤ p ∧ w.heap.size ≤ g) := ⟨Nat.le_trans HB1.out.size hp, Nat.le_trans HB1.out.size hg⟩
  clear hb hbe hp hg c0' c1' HX1 HB1
  go_wp2_with fail
  rw [hx]
  clear hx
  have HK := Aside0.mk hK
  have hK8 : kk ≤ 8 := hK.2
  clear hK
  go_loopw [11, 12, 13] (fun v11 v12 v13 wr => ∃ (i : Nat), v13 = .int .i64 i ∧ i ≤ kk ∧ Aside0 (Ast w wr w.heap.size p g R C l v11 v12 i i)) (fun _ _ v13 _ => kk - (intOf v13).toNat)
  case atStart => exact ⟨0, rfl, Nat.zero_le _, HS⟩
  case round =>
    clear HS
    obtain ⟨i, rfl, hi, HS⟩ := hrel
    by_cases h1 : i < kk
    · have d1 : decide ((i : Int) < (kk : Int)) = true := decide_eq_true (by omega)
      have d1' : decide (i < kk) = true := decide_eq_true h1
      have HI := Aside0.mk h1
      clear h1
      go_wp2_with (first | ((with_reducible refine gate_builtin (b := .append) (xs := #[.tmp 51, .tmp 53]) rfl ?_); at_builtin; refine Kd.R_append PK (w0 := w) w.heap.size rfl (.tmp 51) (.tmp 53) 77 48 (.pointer none) 8 rfl Tryd.underlying77 info48 rfl (by decide) (by omega) _ (List.replicate i (some ⟨p, 0, none⟩)) (some ⟨p, 0, none⟩) [.pointer (some ⟨p, 0, none⟩)] (fun _ => True) (fun _ => False) rfl rfl rfl (fun _ h => h.elim) (fun _ _ => trivial) HS.out.all HS.out.be HS.out.be.size (by rw [List.length_replicate]; omega) ?_; intro v9 w9 ho2 hb2 hg_ hat_; have HS2 := Aside0.mk (HS.out.one ho2 hb2 hg_); clear ho2 hb2 hg_ hat_; clear HS) | ((with_reducible refine gate_builtin (b := .append) (xs := #[.tmp 55, .tmp 56]) rfl ?_); at_builtin; refine Kd.R_append_rows (Kd.int .u64) (w0 := w) w.heap.size rfl (.tmp 55) (.tmp 56) 47 66 (.int .u64 0) 8 rfl Tryd.underlying47 info66 rfl (by decide) (by omega) _ (reps i l) l _ _ _ (fun k => k ≠ g) (fun _ => False) rfl rfl ?aO ?aR (fun _ _ h => h) (fun _ h => h.elim) ?aF ?aB ?aS ?aL ?_; (case aR => exact (HL.out.below HS2.out.be).r); (case aB => exact HS2.out.be); (case aF => exact (fun k hk => by have := HS2.out.blk.row.lt; omega)); (case aO => exact HS2.out.words); (case aS => exact HS2.out.be.size); (case aL => (rw [reps_len]; have := HM.out; have : i * l.length ≤ 8 * 64 := Nat.mul_le_mul (by omega) (by omega); omega)); intro v10 w10 ho2 hb2 hg_ hat_; have HS3 := Aside0.mk (HS2.out.two ho2 hb2 hg_); clear ho2 hb2 hg_ hat_; clear HS2))
      go_roundw
      case rel => exact ⟨i + 1, by go_num, HI.out, HS3⟩
      case measure =>
        have := HI.out
        simp [intOf]; omega
    · obtain rfl : kk = i := by omega
      have d1 : decide ((kk : Int) < (kk : Int)) = false := by simp
      clear h1 hi
      obtain ⟨Aa, ca, rfl, hca, hCa⟩ := Kd.R_reads HS.out.all
      rw [List.length_replicate] at hca hCa ⊢
      have HCa := Aside0.mk hCa
      clear hca hCa
      go_wp2_with fail
      refine (stack_ Aa ca kk p g R C l _ HCa.out HK.out HS.out.blk HM.out (TabOK.below HT.out HS.out.be)).mono ?_
      rintro e w3 ⟨hres, hbe⟩
      have HS2 := Aside0.mk (HS.out.below hbe)
      have HRes := Aside0.mk (And.intro hres (And.intro HS.out.be.size hbe.size))
      clear hbe HS
      rcases and_good HG.out hRl hCl HK.out with ⟨hgd, hand⟩ | ⟨hgd, hand⟩
      · obtain ⟨q, h, rfl, hb, h1, h2⟩ : ∃ q h, e = .returned (.tuple #[.pointer (some ⟨q, 0, none⟩), .int .i64 0]) ∧ Blo w3 q h (kk * R) C (reps kk l) ∧ wr.heap.size ≤ q ∧ wr.heap.size ≤ h := by
          cases hres with
          | yes q h hg hb h1 h2 => exact ⟨q, h, rfl, hb, h1, h2⟩
          | no hg => exact absurd hgd hg
        rw [← Int.natCast_mul] at hb
        have HQ := Aside0.mk hb
        have HKG := Aside0.mk hgd
        clear hres HRes hb hgd h1 h2
        go_wp2_with fail
        clear hand
        have e1 : wrap64 ((kk : Int) * (R : Int)) = ((kk * R : Nat) : Int) := wmul kk R (by have : kk * R ≤ 8 * 64 := Nat.mul_le_mul hK8 hRl; omega)
        obtain ⟨k1, hk1⟩ : ∃ k1, kk = k1 + 1 := ⟨kk - 1, by have := HK.out; omega⟩
        have hkI : (kk : Int) - 1 = (k1 : Int) := by clear e1; omega
        have e2 : wrap64 ((k1 : Int) * (R : Int)) = ((k1 * R : Nat) : Int) := wmul k1 R (by clear e1; have : k1 * R ≤ 8 * 64 := Nat.mul_le_mul (by omega) hRl; omega)
        have HK1 := Aside0.mk hk1
        obtain ⟨k5, h5⟩ := (same_ (reps kk l) (reps kk l) (by rw [reps_len]; have := HM.out; have : kk * l.length ≤ 8 * 64 := Nat.mul_le_mul hK8 this; clear e1 e2; omega)).rounds
        rw [decide_eq_true rfl] at h5
        have K5 := Aside0.mk h5
        obtain ⟨k6, h6⟩ := (same_ l l (by have := HM.out; clear e1 e2; omega)).rounds
        rw [decide_eq_true rfl] at h6
        have K6 := Aside0.mk h6
        obtain ⟨Aw, cw, rfl, hcw, hCw⟩ := Kd.R_reads HS2.out.words
        have HW0 := Aside0.mk (In.mk hCw hcw)
        have HZ := Aside0.mk (Zst.mk HS2.out HQ.out)
        have HTil : Aside0 (Til (kk * R) C R C (k1 * R) 0 (reps kk l).length) := ⟨⟨HG.out, by rw [hk1, Nat.add_mul, Nat.one_mul]; exact Nat.le_refl _, by clear e1 e2; omega, by rw [reps_len, Nat.mul_assoc, HN.out], by rw [reps_len]; have := HM.out; have : kk * l.length ≤ 8 * 64 := Nat.mul_le_mul hK8 this; clear e1 e2; omega, by have := good_pos HG.out; clear e1 e2; omega⟩⟩
        clear HS2 HQ h5 h6 hcw hCw hk1
        have c0' := HZ.out.a.box.cell 0
        have c1' := HZ.out.a.box.cell 1
        refine start_ (n := 25) (S := fun w' => w'.cell? ⟨w.heap.size, 0, none⟩ = some (.int .i64 (R : Int)) ∧ w'.cell? ⟨w.heap.size, 1, none⟩ = some (.int .i64 (C : Int)) ∧ Aside0 (Zst w w' w.heap.size p g q h R C kk l (Value.slice Aa (List.replicate kk (some (⟨p, 0, none⟩ : Addr))).length ca) (Value.slice Aw (reps kk l).length cw) ∧ In w' Aw cw (reps kk l))) (ds := []) #[false, false, false, false, false, false, false, false, false, false, false, false, false, false, false, false, false, false, false, false, false, false, false, false, false] (by kernel_rfl) rfl rfl ⟨c0', c1', ⟨HZ.out.below (below_drew1 (Below.refl _ _)), HW0.out.drew⟩⟩ (fun hHeld => ?_)
        refine pure_ (i := 0) (N := some 74) (v := ?_) (a' := ?_) #[true, false, false, false, false, false, false, false, false, false, false, false, false, false, false, false, false, false, false, false, false, false, false, false, false] rfl rfl (by kernel_rfl) (fun _ _ _ h => h) (Or.inl ⟨by rfl, ?_⟩) ?_ ?_
        rotate_left
        · intro w'
          go_simp
          with_reducible rfl
        rotate_left
        · simp only [Act.put, List.setIfInBounds_toArray, List.set_cons_zero, List.set_cons_succ, i64_w, i32_w]
          rfl
        refine pure_ (i := 1) (N := some 75) (v := ?_) (a' := ?_) #[true, true, false, false, false, false, false, false, false, false, false, false, false, false, false, false, false, false, false, false, false, false, false, false, false] rfl rfl (by kernel_rfl) (fun _ _ _ h => h) (Or.inl ⟨by rfl, ?_⟩) ?_ ?_
        rotate_left
        · intro w'
          go_simp
          with_reducible rfl
        rotate_left
        · simp only [Act.put, List.setIfInBounds_toArray, List.set_cons_zero, List.set_cons_succ, i64_w, i32_w]
          rfl
        refine pure_ (i := 2) (N := some 76) (v := ?_) (a' := ?_) #[true, true, true, false, false, false, false, false, false, false, false, false, false, false, false, false, false, false, false, false, false, false, false, false, false] rfl rfl (by kernel_rfl) (fun _ _ _ h => h) (Or.inl ⟨by rfl, ?_⟩) ?_ ?_
        rotate_left
        · intro w'
          go_simp
          with_reducible rfl
        rotate_left
        · simp only [Act.put, List.setIfInBounds_toArray, List.set_cons_zero, List.set_cons_succ, i64_w, i32_w]
          rfl
        refine pure_ (i := 3) (N := some 77) (v := ?_) (a' := ?_) #[true, true, true, true, false, false, false, false, false, false, false, false, false, false, false, false, false, false, false, false, false, false, false, false, false] rfl rfl (by kernel_rfl) (fun _ _ _ h => h) (Or.inl ⟨by rfl, ?_⟩) ?_ ?_
        rotate_left
        · intro w'
          go_simp
          with_reducible rfl
        rotate_left
        · simp only [Act.put, List.setIfInBounds_toArray, List.set_cons_zero, List.set_cons_succ, i64_w, i32_w]
          rfl
        refine pure_ (i := 4) (N := some 78) (v := ?_) (a' := ?_) #[true, true, true, true, true, false, false, false, false, false, false, false, false, false, false, false, false, false, false, false, false, false, false, false, false] rfl rfl (by kernel_rfl) (fun _ _ _ h => h) (Or.inl ⟨by rfl, ?_⟩) ?_ ?_
        rotate_left
        · intro w'
          go_simp
          with_reducible rfl
        rotate_left
        · simp only [Act.put, List.setIfInBounds_toArray, List.set_cons_zero, List.set_cons_succ, i64_w, i32_w]
          rfl
        refine pure_ (i := 5) (N := some 79) (v := ?_) (a' := ?_) #[true, true, true, true, true, true, false, false, false, false, false, false, false, false, false, false, false, false, false, false, false, false, false, false, false] rfl rfl (by kernel_rfl) (fun _ _ _ h => h) (Or.inl ⟨by rfl, ?_⟩) ?_ ?_
        rotate_left
        · intro w'
          go_simp
          with_reducible rfl
        rotate_left
        · simp only [Act.put, List.setIfInBounds_toArray, List.set_cons_zero, List.set_cons_succ, i64_w, i32_w]
          rfl
        refine pure_ (i := 6) (N := some 80) (v := ?_) (a' := ?_) #[true, true, true, true, true, true, true, false, false, false, false, false, false, false, false, false, false, false, false, false, false, false, false, false, false] rfl rfl (by kernel_rfl) (fun _ _ _ h => h) (Or.inl ⟨by rfl, ?_⟩) ?_ ?_
        rotate_left
        · intro w'
          go_simp
          with_reducible rfl
        rotate_left
        · simp only [Act.put, List.setIfInBounds_toArray, List.set_cons_zero, List.set_cons_succ, i64_w, i32_w]
          rfl
        refine pure_ (i := 7) (N := some 81) (v := ?_) (a' := ?_) #[true, true, true, true, true, true, true, true, false, false, false, false, false, false, false, false, false, false, false, false, false, false, false, false, false] rfl rfl (by kernel_rfl) (fun _ _ _ h => h) (Or.inl ⟨by rfl, ?_⟩) ?_ ?_
        rotate_left
        · intro w'
          go_simp
          with_reducible rfl
        rotate_left
        · simp only [Act.put, List.setIfInBounds_toArray, List.set_cons_zero, List.set_cons_succ, i64_w, i32_w]
          rfl
        refine pure_ (i := 9) (N := some 83) (v := ?_) (a' := ?_) #[true, true, true, true, true, true, true, true, false, true, false, false, false, false, false, false, false, false, false, false, false, false, false, false, false] rfl rfl (by kernel_rfl) (fun _ _ _ h => h) (Or.inl ⟨by rfl, ?_⟩) ?_ ?_
        rotate_left
        · intro w'
          go_simp
          with_reducible rfl
        rotate_left
        · simp only [Act.put, List.setIfInBounds_toArray, List.set_cons_zero, List.set_cons_succ, i64_w, i32_w]
          rfl
        refine pure_ (i := 10) (N := some 84) (v := ?_) (a' := ?_) #[true, true, true, true, true, true, true, true, false, true, true, false, false, false, false, false, false, false, false, false, false, false, false, false, false] rfl rfl (by kernel_rfl) (fun _ _ _ h => h) (Or.inl ⟨by rfl, ?_⟩) ?_ ?_
        rotate_left
        · intro w'
          go_simp
          with_reducible rfl
        rotate_left
        · simp only [Act.put, List.setIfInBounds_toArray, List.set_cons_zero, List.set_cons_succ, i64_w, i32_w]
          rfl
        refine pure_ (i := 13) (N := some 87) (v := ?_) (a' := ?_) #[true, true, true, true, true, true, true, true, false, true, true, false, false, true, false, false, false, false, false, false, false, false, false, false, false] rfl rfl (by kernel_rfl) (fun _ _ _ h => h) (Or.inl ⟨by rfl, ?_⟩) ?_ ?_
        rotate_left
        · intro w'
          go_simp
          with_reducible rfl
        rotate_left
        · simp only [Act.put, List.setIfInBounds_toArray, List.set_cons_zero, List.set_cons_succ, i64_w, i32_w]
          rfl
        refine take_ (i := 11) (N := some 85) (v := ?_) (a' := ?_) #[true, true, true, true, true, true, true, true, false, true, true, true, false, true, false, false, false, false, false, false, false, false, false, false, false] rfl rfl (by kernel_rfl) (fun _ _ _ h => h) (Or.inl ⟨by rfl, ?_⟩) hHeld ?_ ?_
        rotate_left
        · rintro w' ⟨s0, s1, s2⟩
          go_simp
          with_reducible rfl
        rotate_left
        · simp only [Act.put, List.setIfInBounds_toArray, List.set_cons_zero, List.set_cons_succ, i64_w, i32_w]
          rfl
        refine pure_ (i := 12) (N := some 86) (v := ?_) (a' := ?_) #[true, true, true, true, true, true, true, true, false, true, true, true, true, true, false, false, false, false, false, false, false, false, false, false, false] rfl rfl (by kernel_rfl) (fun _ _ _ h => h) (Or.inl ⟨by rfl, ?_⟩) ?_ ?_
        rotate_left
        · intro w'
          go_simp
          with_reducible rfl
        rotate_left
        · simp only [Act.put, List.setIfInBounds_toArray, List.set_cons_zero, List.set_cons_succ, i64_w, i32_w]
          rfl
        refine take_ (i := 14) (N := some 88) (v := ?_) (a' := ?_) #[true, true, true, true, true, true, true, true, false, true, true, true, true, true, true, false, false, false, false, false, false, false, false, false, false] rfl rfl (by kernel_rfl) (fun _ _ _ h => h) (Or.inl ⟨by rfl, ?_⟩) hHeld ?_ ?_
        rotate_left
        · rintro w' ⟨s0, s1, s2⟩
          go_simp
          with_reducible rfl
        rotate_left
        · simp only [Act.put, List.setIfInBounds_toArray, List.set_cons_zero, List.set_cons_succ, i64_w, i32_w]
          rfl
        refine pure_ (i := 15) (N := some 89) (v := ?_) (a' := ?_) #[true, true, true, true, true, true, true, true, false, true, true, true, true, true, true, true, false, false, false, false, false, false, false, false, false] rfl rfl (by kernel_rfl) (fun _ _ _ h => h) (Or.inl ⟨by rfl, ?_⟩) ?_ ?_
        rotate_left
        · intro w'
          go_simp
          with_reducible rfl
        rotate_left
        · simp only [Act.put, List.setIfInBounds_toArray, List.set_cons_zero, List.set_cons_succ, i64_w, i32_w]
          rfl
        refine one_ (i := 8) (N := some 82) #[true, true, true, true, true, true, true, true, true, true, true, true, true, true, true, true, false, false, false, false, false, false, false, false, false] rfl rfl (by kernel_rfl) (by decide) (fun K hK => ?_)
        refine goes_ Tryd.func25 (by kernel_rfl) rfl #[.pointer (some ⟨q, 0, none⟩)] (by rfl) rfl rfl (by simp only [List.map_toArray, List.map_cons, List.map_nil]; rfl) ?_
        with_reducible refine (shape_ q h _ _ _ _ hHeld.2.2.out.1.x).mono ?_
        rintro e w4 ⟨rfl, hb⟩
        refine ⟨_, rfl, ?_⟩
        have nZ := hHeld.2.2.out.1.below hb
        have nW := hHeld.2.2.out.2.below hb
        clear hHeld hb
        refine hK.out _ _ ⟨nZ.a.box.cell 0, nZ.a.box.cell 1, ⟨nZ, nW⟩⟩ (fun hHeld => ?_)
        clear hK K
        refine norm_ (a' := ?_) ?_ ?_
        rotate_left
        · show Act.put _ (some 82) _ = _
          simp only [Act.put, List.setIfInBounds_toArray, List.set_cons_zero, List.set_cons_succ, i64_w, i32_w]
          rfl
        refine pure_ (i := 16) (N := some 90) (v := ?_) (a' := ?_) #[true, true, true, true, true, true, true, true, true, true, true, true, true, true, true, true, true, false, false, false, false, false, false, false, false] rfl rfl (by kernel_rfl) (fun _ _ _ h => h) (Or.inl ⟨by rfl, ?_⟩) ?_ ?_
        rotate_left
        · intro w'
          go_simp
          with_reducible rfl
        rotate_left
        · simp only [Act.put, List.setIfInBounds_toArray, List.set_cons_zero, List.set_cons_succ, i64_w, i32_w]
          rfl
        refine pure_ (i := 17) (N := some 91) (v := ?_) (a' := ?_) #[true, true, true, true, true, true, true, true, true, true, true, true, true, true, true, true, true, true, false, false, false, false, false, false, false] rfl rfl (by kernel_rfl) (fun _ _ _ h => h) (Or.inl ⟨by rfl, ?_⟩) ?_ ?_
        rotate_left
        · intro w'
          go_simp
          with_reducible rfl
        rotate_left
        · simp only [Act.put, List.setIfInBounds_toArray, List.set_cons_zero, List.set_cons_succ, i64_w, i32_w]
          rfl
        refine pure_ (i := 18) (N := some 92) (v := ?_) (a' := ?_) #[true, true, true, true, true, true, true, true, true, true, true, true, true, true, true, true, true, true, true, false, false, false, false, false, false] rfl rfl (by kernel_rfl) (fun _ _ _ h => h) (Or.inl ⟨by rfl, ?_⟩) ?_ ?_
        rotate_left
        · intro w'
          go_simp
          with_reducible rfl
        rotate_left
        · simp only [Act.put, List.setIfInBounds_toArray, List.set_cons_zero, List.set_cons_succ, i64_w, i32_w]
          rfl
        refine pure_ (i := 19) (N := some 93) (v := ?_) (a' := ?_) #[true, true, true, true, true, true, true, true, true, true, true, true, true, true, true, true, true, true, true, true, false, false, false, false, false] rfl rfl (by kernel_rfl) (fun _ _ _ h => h) (Or.inl ⟨by rfl, ?_⟩) ?_ ?_
        rotate_left
        · intro w'
          go_simp
          with_reducible rfl
        rotate_left
        · simp only [Act.put, List.setIfInBounds_toArray, List.set_cons_zero, List.set_cons_succ, i64_w, i32_w]
          rfl
        refine pure_ (i := 21) (N := some 95) (v := ?_) (a' := ?_) #[true, true, true, true, true, true, true, true, true, true, true, true, true, true, true, true, true, true, true, true, false, true, false, false, false] rfl rfl (by kernel_rfl) (fun _ _ _ h => h) (Or.inl ⟨by rfl, ?_⟩) ?_ ?_
        rotate_left
        · intro w'
          go_simp
          with_reducible rfl
        rotate_left
        · simp only [Act.put, List.setIfInBounds_toArray, List.set_cons_zero, List.set_cons_succ, i64_w, i32_w]
          rfl
        refine one_ (i := 20) (N := some 94) #[true, true, true, true, true, true, true, true, true, true, true, true, true, true, true, true, true, true, true, true, true, true, false, false, false] rfl rfl (by kernel_rfl) (by decide) (fun K hK => ?_)
        refine goes_ Tryd.func27 (by kernel_rfl) rfl #[.pointer (some ⟨q, 0, none⟩)] (by rfl) rfl rfl (by simp only [List.map_toArray, List.map_cons, List.map_nil]; rfl) ?_
        with_reducible refine (words_ q h _ _ _ _ hHeld.2.2.out.1.x).mono ?_
        rintro e w5 ⟨v, rfl, hR, hb⟩
        refine ⟨_, rfl, ?_⟩
        obtain ⟨Av, cv, rfl, hcv, hCv⟩ := Kd.R_reads hR
        have HV := Aside0.mk (In.mk hCv hcv)
        have nZ := hHeld.2.2.out.1.below hb
        have nW := hHeld.2.2.out.2.below hb
        clear hHeld hb hR hcv hCv
        refine hK.out _ _ ⟨nZ.a.box.cell 0, nZ.a.box.cell 1, ⟨nZ, nW⟩⟩ (fun hHeld => ?_)
        clear hK K
        refine norm_ (a' := ?_) ?_ ?_
        rotate_left
        · show Act.put _ (some 94) _ = _
          simp only [Act.put, List.setIfInBounds_toArray, List.set_cons_zero, List.set_cons_succ, i64_w, i32_w]
          rfl
        refine one_ (i := 22) (N := some 96) #[true, true, true, true, true, true, true, true, true, true, true, true, true, true, true, true, true, true, true, true, true, true, true, false, false] rfl rfl (by kernel_rfl) (by decide) (fun K hK => ?_)
        refine goes_ Tryd.func26 (by kernel_rfl) rfl #[.slice Av (reps kk l).length cv, .slice Aw (reps kk l).length cw] (by rfl) rfl rfl (by simp only [List.map_toArray, List.map_cons, List.map_nil]; rfl) ?_
        with_reducible refine (abacistref04_Same.calls k5 Av cv (reps kk l) Aw cw (reps kk l) _ _ HV.out.r HV.out.c hHeld.2.2.out.2.r hHeld.2.2.out.2.c K5.out).mono ?_
        rintro e w6 ⟨rfl, hb⟩
        refine ⟨_, rfl, ?_⟩
        have nZ := hHeld.2.2.out.1.below hb.below
        have nW := hHeld.2.2.out.2.below hb.below
        clear hHeld hb HV
        refine hK.out _ _ ⟨nZ.a.box.cell 0, nZ.a.box.cell 1, ⟨nZ, nW⟩⟩ (fun hHeld => ?_)
        clear hK K
        refine norm_ (a' := ?_) ?_ ?_
        rotate_left
        · show Act.put _ (some 96) _ = _
          simp only [Act.put, List.setIfInBounds_toArray, List.set_cons_zero, List.set_cons_succ, i64_w, i32_w]
          rfl
        refine pure_ (i := 23) (N := some 97) (v := ?_) (a' := ?_) #[true, true, true, true, true, true, true, true, true, true, true, true, true, true, true, true, true, true, true, true, true, true, true, true, false] rfl rfl (by kernel_rfl) (fun _ _ _ h => h) (Or.inl ⟨by rfl, ?_⟩) ?_ ?_
        rotate_left
        · intro w'
          go_simp
          with_reducible rfl
        rotate_left
        · simp only [Act.put, List.setIfInBounds_toArray, List.set_cons_zero, List.set_cons_succ, i64_w, i32_w]
          rfl
        refine pure_ (i := 24) (N := some 98) (v := ?_) (a' := ?_) #[true, true, true, true, true, true, true, true, true, true, true, true, true, true, true, true, true, true, true, true, true, true, true, true, true] rfl rfl (by kernel_rfl) (fun _ _ _ h => h) (Or.inl ⟨by rfl, ?_⟩) ?_ ?_
        rotate_left
        · intro w'
          go_simp
          with_reducible rfl
        rotate_left
        · simp only [Act.put, List.setIfInBounds_toArray, List.set_cons_zero, List.set_cons_succ, i64_w, i32_w]
          rfl
        refine done_ (by kernel_rfl) ?_

        have HZ2 : Aside0 (Zst w _ w.heap.size p g q h R C kk l _ _) := ⟨hHeld.2.2.out.1⟩
        clear hHeld HZ HW0 c0' c1'
        have c0' := HZ2.out.a.box.cell 0
        have c1' := HZ2.out.a.box.cell 1
        go_wp2_with fail
        clear c0' c1' e1 e2 hkI
        refine (part_yes q h (kk * R) C R C (k1 * R) 0 (reps kk l) _ HZ2.out.x HTil.out (TabOK.below HT.out HZ2.out.a.be)).mono ?_
        rintro e w7 ⟨q2, h2, ys, rfl, hb, hgot, hbe, hq2, hh2⟩
        have hyl : ys.length = R * C := by
          have := hb.len
          rw [← Int.natCast_mul] at this
          omega
        obtain rfl : l = ys := (got_last HK1.out HN.out hyl hgot).symm
        have HY := Aside0.mk hb
        have HZ3 := Aside0.mk (HZ2.out.below hbe)
        clear hb hgot hbe hq2 hh2 hyl HZ2
        go_wp2_with fail
        have hbe2 := below_alloc (Below.refl w7.heap.size w7) (Obj.cells #[Value.pointer (some ⟨p, 0, none⟩), Value.pointer none] 48)
        have HZ4 := Aside0.mk (HZ3.out.below hbe2)
        have HY4 := Aside0.mk (HY.out.below hbe2)
        have HPk := Aside0.mk (PK_two (Bk.new w7 48 [Value.pointer (some ⟨p, 0, none⟩), Value.pointer none]))
        clear hbe2 HZ3 HY
        refine (stack_nil w7.heap.size 2 p g R C l _ HPk.out HZ4.out.a.blk HM.out (TabOK.below HT.out HZ4.out.a.be)).mono ?_
        rintro e w8 ⟨rfl, hb⟩
        have HZ5 := Aside0.mk (HZ4.out.below hb)
        have HY5 := Aside0.mk (HY4.out.below hb)
        clear hb HZ4 HY4 HPk
        go_wp2_with fail
        refine (words_ q2 h2 R C l _ HY5.out).mono ?_
        rintro e w9 ⟨v, rfl, hR, hb⟩
        obtain ⟨Av2, cv2, rfl, hcv, hCv⟩ := Kd.R_reads hR
        have HV := Aside0.mk (In.mk hCv hcv)
        have HZ6 := Aside0.mk (HZ5.out.below hb)
        clear hR hb hcv hCv HZ5 HY5
        go_wp2_with fail
        refine (abacistref04_Same.calls k6 Av2 cv2 l A n l _ _ HV.out.r HV.out.c (HL.out.below HZ6.out.a.be).r HL.out.c K6.out).mono ?_
        rintro e w10 ⟨rfl, hb⟩
        have HZ7 := Aside0.mk (HZ6.out.below hb.below)
        clear hb HV HZ6
        go_wp2
        go_ret
        exact ⟨rfl, HZ7.out.a.be⟩
      · obtain rfl : e = .returned (.tuple #[.pointer none, .int .i64 19]) := by
          cases hres with
          | yes q h hg hb h1 h2 => exact absurd hg hgd
          | no hg => rfl
        clear hres HRes hgd
        go_wp2
        go_ret
        exact ⟨rfl, HS2.out.be⟩
set_option maxHeartbeats 4000000 in
theorem stacks_none (R C : Int) (A : Option Addr) (n : Nat) (l : List Int) (x : Int) (w : World) (hg : ¬ (GoodS R C ∧ l.length ≤ 256 ∧ R * C = (l.length : Int))) (hT : TabOK w) :
    Calls Tryd.prog 11 #[.agg #[.int .i64 R, .int .i64 C], .slice A l.length n, .int .u8 x] w fun e w' => e = .returned (.bool true) ∧ Below w.heap.size w w' := by
  have HG := Aside0.mk hg
  have HT := Aside0.mk hT
  have HBe0 := Aside0.mk (below_alloc (Below.refl w.heap.size w) (Obj.cells #[.int .i64 R, .int .i64 C] 26))
  have HX0 := Aside0.mk (Bk.new w 26 [.int .i64 R, .int .i64 C])
  clear hg hT
  go_enter Tryd.func11, Tryd.ntmps11
  go_wp2_with fail
  refine (bawake_ _ (TabOK.below HT.out HBe0.out)).mono ?_
  rintro e w1 ⟨rfl, hb⟩
  have HB1 := Aside0.mk (below_then HBe0.out HBe0.out.size hb)
  have HX1 := Aside0.mk (HX0.out.below hb)
  clear hb HBe0 HX0
  have c0' := HX1.out.cell 0
  have c1' := HX1.out.cell 1
  go_wp2_with fail
  refine (made_no R C A n l _ HG.out (TabOK.below HT.out HB1.out)).mono ?_
  rintro e w2 ⟨rfl, hbe⟩
  have HB2 := Aside0.mk (below_then HB1.out HB1.out.size hbe)
  clear hbe HB1 HX1 c0' c1'
  go_wp2_with fail
  refine (stack_none _).mono ?_
  rintro e w3 ⟨rfl, hb⟩
  have HB3 := Aside0.mk (below_then HB2.out HB2.out.size hb)
  clear hb HB2
  go_wp2
  go_ret
  exact ⟨rfl, HB3.out⟩
set_option maxHeartbeats 4000000 in
theorem stacks_long (R C : Int) (A : Option Addr) (n : Nat) (l : List Int) (x : Int) (w : World) (hg : GoodS R C) (hn : R * C = (l.length : Int)) (hm : l.length ≤ 256) (hm2 : 64 < l.length) (hl : In w A n l) (hT : TabOK w) :
    Calls Tryd.prog 11 #[.agg #[.int .i64 R, .int .i64 C], .slice A l.length n, .int .u8 x] w fun e w' => e = .returned (.bool true) ∧ Below w.heap.size w w' := by
  have dl : decide (64 < (l.length : Int)) = true := decide_eq_true (by omega)
  have HG := Aside0.mk hg
  have HN := Aside0.mk hn
  have HL := Aside0.mk hl
  have HT := Aside0.mk hT
  have HM := Aside0.mk hm
  have HBe0 := Aside0.mk (below_alloc (Below.refl w.heap.size w) (Obj.cells #[.int .i64 R, .int .i64 C] 26))
  have HX0 := Aside0.mk (Bk.new w 26 [.int .i64 R, .int .i64 C])
  clear hg hn hl hT hm hm2
  go_enter Tryd.func11, Tryd.ntmps11
  go_wp2_with fail
  refine (bawake_ _ (TabOK.below HT.out HBe0.out)).mono ?_
  rintro e w1 ⟨rfl, hb⟩
  have HB1 := Aside0.mk (below_then HBe0.out HBe0.out.size hb)
  have HX1 := Aside0.mk (HX0.out.below hb)
  clear hb HBe0 HX0
  have c0' := HX1.out.cell 0
  have c1' := HX1.out.cell 1
  go_wp2_with fail
  refine (made_yes R C A n l _ HG.out HN.out HM.out (HL.out.below HB1.out) (TabOK.below HT.out HB1.out)).mono ?_
  rintro e w2 ⟨p, g, rfl, hb, hbe, hp, hg⟩
  have HB2 := Aside0.mk (below_then HB1.out HB1.out.size hbe)
  clear hb hbe hp hg HB1 HX1 c0' c1'
  go_wp2_with fail
  refine (stack_none _).mono ?_
  rintro e w3 ⟨rfl, hb⟩
  have HB3 := Aside0.mk (below_then HB2.out HB2.out.size hb)
  clear hb HB2
  go_wp2
  go_ret
  exact ⟨rfl, HB3.out⟩
theorem byte_K (x : Int) (h0 : 0 ≤ x) (h1 : x ≤ 255) : ∃ K : Nat, wrap64 (1 + (wrap64 x).tmod 8) = (K : Int) ∧ 1 ≤ K ∧ K ≤ 8 := by
  have e : wrap64 x = x := by unfold wrap64; omega
  rw [e, Int.tmod_eq_emod_of_nonneg h0]
  refine ⟨(1 + x % 8).toNat, ?_, by omega, by omega⟩
  unfold wrap64
  omega
theorem BlockStacksRow (R C : Int) (a1 : Option Addr) (len1 cap1 : Nat) (z1 : List Int) (x : Int) (hx : (Lit.int .u8 x).wf = true) (w : World)
    (w1 : (a1 = none ∧ len1 = 0 ∧ cap1 = 0 ∧ z1 = []) ∨ ∃ x, a1 = some x ∧ len1 ≤ cap1 ∧ cap1 ≤ maxLen ∧ z1.length = cap1 ∧ (∀ i, i < z1.length → w.cell? (x.add i) = some (.int .u64 (z1.getD i 0))) ∧ ∀ n ∈ z1, (Lit.int .u64 n).wf = true) (hT : TabOK w) :
    Calls Tryd.prog 11 #[.agg #[.int .i64 R, .int .i64 C], .slice a1 len1 cap1, .int .u8 x] w fun e w' => e = .returned (.bool true) ∧ Below w.heap.size w w' := by
  obtain ⟨l, rfl, hl, _⟩ := In.of w1
  by_cases h1 : GoodS R C ∧ l.length ≤ 256 ∧ R * C = (l.length : Int)
  · by_cases h2 : l.length ≤ 64
    · obtain ⟨hg, hm, hn⟩ := h1
      obtain ⟨R, C, rfl, rfl, _⟩ := good_bounds hg
      have hn2 : R * C = l.length := by rw [← Int.natCast_mul] at hn; omega
      have hb : 0 ≤ x ∧ x ≤ 255 := by simp [Lit.wf, IntKind.min, IntKind.max, IntKind.signed, IntKind.bits] at hx; omega
      obtain ⟨K, h3, h4⟩ := byte_K x hb.1 hb.2
      exact stacks_in R C a1 cap1 K l x w hg hn2 h2 hl h3 h4 hT
    · exact stacks_long R C a1 cap1 l x w h1.1 h1.2.2 h1.2.1 (by omega) hl hT
  · exact stacks_none R C a1 cap1 l x w h1 hT
end Go.Proofs.YthppiphldaopnaaDoor.Obj
