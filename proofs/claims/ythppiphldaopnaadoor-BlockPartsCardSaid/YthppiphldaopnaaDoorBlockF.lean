import Derived.Test.YthppiphldaopnaaDoorBlockE
import Derived.Test.YthppiphldaopnaaDoorOwn
/-! Blocks: the law of words. -/
namespace Go.Proofs.YthppiphldaopnaaDoor.Obj
open Go.RowKit Go.Proofs.YthppiphldaopnaaDoor Go.Proofs.YthppiphldaopnaaDoor.Ext Go.Proofs.YthppiphldaopnaaDoor.PShape Go.Proofs.YthppiphldaopnaaDoor.PBlk Go.Proofs.YthppiphldaopnaaDoor.Pure Go.Proofs.YthppiphldaopnaaDoorW.PrintWords Go.Proofs.YthppiphldaopnaaDoorW.PrintLast Go.Proofs.YthppiphldaopnaaDoorW.PrintMore
set_option linter.unusedVariables false
set_option linter.unusedSimpArgs false
set_option maxRecDepth 100000

/-- The law's own state: the box of the shape at t, the block at p, its words at g. -/
structure Sw (w0 w : World) (t p g : Nat) (R C : Int) (xs : List Int) : Prop where
  blk : Blo w p g R C xs
  box : Bk w t 26 [.int .i64 R, .int .i64 C]
  be : Below w0.heap.size w0 w
  new : w0.heap.size ≤ p
  newg : w0.heap.size ≤ g
theorem Sw.below {w0 w w' : World} {t p g : Nat} {R C : Int} {xs : List Int} (h : Sw w0 w t p g R C xs) (hb : Below w.heap.size w w') : Sw w0 w' t p g R C xs := ⟨h.blk.below hb, h.box.below hb, below_then h.be h.be.size hb, h.new, h.newg⟩
theorem Sw.drawn {w0 w w' : World} {t p g : Nat} {R C : Int} {xs : List Int} (h : Sw w0 w t p g R C xs) (hd : Drawn0 w w') : Sw w0 w' t p g R C xs := h.below hd.below
theorem Sw.drew {w0 w : World} {t p g : Nat} {R C : Int} {xs : List Int} (h : Sw w0 w t p g R C xs) : Sw w0 w.drew t p g R C xs := h.below (below_drew1 (Below.refl _ _))
theorem Sw.put {w0 w w' : World} {t p g : Nat} {R C : Int} {xs ys : List Int} (h : Sw w0 w t p g R C xs) (hb : Blo w' p g R C ys) (hf : Fr w w' [g]) : Sw w0 w' t p g R C ys :=
  ⟨hb, h.box.fr hf (by simpa using h.box.ne h.blk.row (by decide)), h.be.trans (hf.below h.be.size (fun k hk => by simp at hk; have := h.newg; omega)), h.new, h.newg⟩
/-- Another row is written, that lies elsewhere. -/
theorem Sw.far {w0 w w' : World} {t p g q : Nat} {R C : Int} {xs : List Int} (h : Sw w0 w t p g R C xs) (hf : Fr w w' [q]) (h1 : t ≠ q) (h2 : p ≠ q) (h3 : g ≠ q) (h4 : w0.heap.size ≤ q) : Sw w0 w' t p g R C xs :=
  ⟨h.blk.fr hf (by simpa using h2) (by simpa using h3), h.box.fr hf (by simpa using h1), h.be.trans (hf.below h.be.size (fun k hk => by simp at hk; omega)), h.new, h.newg⟩
theorem place_in {R C r c : Int} {l : List Int} (hg : GoodS R C) (hn : R * C = (l.length : Int)) (hr : 0 ≤ r ∧ r < R) (hc : 0 ≤ c ∧ c < C) : ∃ n : Nat, r * C + c = (n : Int) ∧ wrap64 (wrap64 (r * C) + c) = (n : Int) ∧ n < l.length := by
  have h0 : 0 ≤ r * C := Int.mul_nonneg hr.1 (by omega)
  obtain ⟨n, h⟩ := Int.eq_ofNat_of_zero_le (show 0 ≤ r * C + c by omega)
  have := idx_ hg hn hr hc h
  exact ⟨n, h, this.1, this.2⟩
theorem In.at_ad {w : World} {ad : Addr} {c : Nat} {l : List Int} (h : In w (some ad) c l) (i : Nat) (hi : i < l.length) : w.cell? (ad.add i) = some (.int .u64 (l.getD i 0)) := by
  obtain ⟨a, e, h⟩ := C_at h.r i hi
  injection e with e
  rw [e]; exact h
theorem bundle {w0 w w' : World} {t p g q h gm cm : Nat} {R C : Int} {xs ys zs : List Int} (k : Sw w0 w t p g R C xs ∧ Rs w gm cm ys ∧ Blo w q h R C zs) (hb : Below w.heap.size w w') : Sw w0 w' t p g R C xs ∧ Rs w' gm cm ys ∧ Blo w' q h R C zs :=
  ⟨k.1.below hb, k.2.1.below hb, k.2.2.below hb⟩
theorem same_call (k : Nat) (A : Option Addr) (c : Nat) (xs : List Int) (B : Option Addr) (d : Nat) (ys : List Int) (n m : Nat) (b : Bool) (w : World) (hn : n = xs.length) (hm : m = ys.length) (h1 : Kd.C (Kd.int .u64) w A xs.length xs) (h2 : xs.length ≤ c) (h3 : Kd.C (Kd.int .u64) w B ys.length ys) (h4 : ys.length ≤ d)
    (h : abacistref04_Same.f k xs ys = some b) : Calls Tryd.prog 26 #[.slice A n c, .slice B m d] w fun e w' => e = .returned (.bool b) ∧ Drawn0 w w' := by
  subst hn hm
  exact abacistref04_Same.calls k A c xs B d ys b w h1 h2 h3 h4 h
set_option maxHeartbeats 4000000 in
theorem words_in (R C : Int) (A : Option Addr) (n : Nat) (l : List Int) (r c x : Int) (w : World) (hg : GoodS R C) (hn : R * C = (l.length : Int)) (hm : l.length ≤ 256) (hl : In w A n l) (hr : 0 ≤ r ∧ r < R) (hc : 0 ≤ c ∧ c < C) (hT : TabOK w) :
    Calls Tryd.prog 9 #[.agg #[.int .i64 R, .int .i64 C], .slice A l.length n, .int .i64 r, .int .i64 c, .int .u64 x] w fun e w' => e = .returned (.bool true) ∧ Below w.heap.size w w' := by
  obtain ⟨i, hi, hw, hlt⟩ := place_in hg hn hr hc
  have hsx : (l.set i x).length = l.length := List.length_set ..
  obtain ⟨k1, h1⟩ := (same_ (l.set i x) (l.set i x) (by omega)).rounds
  rw [decide_eq_true rfl] at h1
  obtain ⟨k2, h2⟩ := (same_ (List.replicate l.length (0 : Int)) (List.replicate l.length (0 : Int)) (by rw [List.length_replicate]; omega)).rounds
  rw [decide_eq_true rfl] at h2
  obtain ⟨ad, rfl, hcell⟩ := C_at hl.r i hlt
  have K1 := Aside0.mk h1
  have K2 := Aside0.mk h2
  have HG := Aside0.mk hg
  have HN := Aside0.mk hn
  have HL := Aside0.mk hl
  have HT := Aside0.mk hT
  have HM := Aside0.mk hm
  have HR := Aside0.mk hr
  have HC := Aside0.mk hc
  have HI := Aside0.mk hi
  have HLt := Aside0.mk hlt
  have HSx := Aside0.mk hsx
  have d1 : decide (r < 0) = false := decide_eq_false (by omega)
  have d2 : decide (R ≤ r) = false := decide_eq_false (by omega)
  have d3 : decide (c < 0) = false := decide_eq_false (by omega)
  have d4 : decide (C ≤ c) = false := decide_eq_false (by omega)
  have hI1 : (0 : Int) ≤ (i : Int) := by omega
  have hI2 : (i : Int) < (l.length : Int) := by omega
  have HW := Aside0.mk hw
  clear h1 h2 hg hn hl hT hm hr hc hi hsx hcell hw
  go_enter Tryd.func9, Tryd.ntmps9
  go_wp2_with fail
  refine (bawake_ _ (TabOK.below HT.out (below_alloc (Below.refl _ _) _))).mono ?_
  rintro e w1 ⟨rfl, hb1⟩
  have HB1 := Aside0.mk (below_then (below_alloc (Below.refl w.heap.size w) _) (below_alloc (Below.refl w.heap.size w) _).size hb1)
  have HX1 := Aside0.mk ((Bk.new w 26 [.int .i64 R, .int .i64 C]).below hb1)
  have c0 := HX1.out.cell 0
  have c1 := HX1.out.cell 1
  clear hb1
  go_wp2_with fail
  refine (made_yes R C (some ad) n l _ HG.out HN.out HM.out (HL.out.below HB1.out) (TabOK.below HT.out HB1.out)).mono ?_
  rintro e w2 ⟨p, g, rfl, hb, hbe, hp, hg⟩
  have HS := Aside0.mk (Sw.mk hb (HX1.out.below hbe) (below_then HB1.out HB1.out.size hbe) (Nat.le_trans HB1.out.size hp) (Nat.le_trans HB1.out.size hg))
  clear hb hbe hp hg c0 c1 HX1 HB1
  go_wp2_with fail
  refine (get_yes p g R C r c i l _ HS.out.blk HR.out HC.out HI.out (TabOK.below HT.out HS.out.be)).mono ?_
  rintro e w3 ⟨rfl, hb⟩
  have HS3 := Aside0.mk (HS.out.below hb)
  clear hb HS
  have hy : ∃ y, y = l.getD i 0 := ⟨_, rfl⟩
  obtain ⟨y, hy⟩ := hy
  have HY := Aside0.mk hy
  rw [← hy]
  clear hy
  go_wp2_with fail
  refine (put_yes p g R C r c x i l _ HS3.out.blk HR.out HC.out HI.out (TabOK.below HT.out HS3.out.be)).mono ?_
  rintro e w4 ⟨rfl, hb, hf⟩
  have HS4 := Aside0.mk (HS3.out.put hb hf)
  clear hb hf HS3
  have c0 := HS4.out.box.cell 0
  have c1 := HS4.out.box.cell 1
  go_wp2_with (first | ((with_reducible refine gate_dst (N := 73) rfl ?_); refine Kd.R_lit (Kd.int .u64) _ 66 ?hg (N := 73) ?hd (xs := []) (inner := []) (ok := fun _ => True) (okp := fun _ => True) ?hr ?hp (fun _ hk => hk) trivial (Below.refl _ _) (Nat.le_refl _) (by simp) ?_; (case hd => rfl); (case hg => rfl); (case hr => first | (go_simp; done) | (go_simp; rfl)); (case hp => exact (Reps.none _ _)); intro v5 w5 ho hb hg_ hnew_; have HOx := Aside0.mk ho; have HBx := Aside0.mk hb; clear hg_ hnew_ ho hb) | ((with_reducible refine gate_builtin (b := .append) (xs := #[.tmp 73, .tmp 74]) rfl ?_); at_builtin; refine Kd.R_append_rows (Kd.int .u64) (w0 := w4) w4.heap.size rfl (.tmp 73) (.tmp 74) 47 66 (.int .u64 0) 8 rfl Tryd.underlying47 info66 rfl (by decide) (by omega) v5 [] (l) _ _ _ (fun _ => True) (fun _ => False) rfl rfl ?aO ?aR (fun _ _ h => h) (fun _ h => h.elim) ?aF ?aB ?aS ?aL ?_; (case aR => exact (Kd.C_below ((HL.out.below HS4.out.be).r) HBx.out)); (case aB => exact HBx.out); (case aF => exact (fun _ _ => trivial)); (case aO => exact HOx.out); (case aS => exact HBx.out.size); (case aL => (simp only [List.length_nil]; (have := HM.out; omega))); intro v6 w6 ho2 hb2 hg_ hat_; clear hg_ hat_; clear HOx HBx; obtain ⟨gm, cm, hv, hrs, hbm, hlm⟩ := Rs.of (xs := l) ho2 (by have := HLt.out; omega); subst hv; have HRs := Aside0.mk hrs; have HS6 := Aside0.mk (HS4.out.below hb2); have HBm := Aside0.mk hbm; clear ho2 hb2 hrs hbm hlm c0 c1; have c0 := HS6.out.box.cell 0; have c1 := HS6.out.box.cell 1; have m1 := HRs.out.cell i hlt; have f1 := HRs.out.frozen i hlt; have HS7 := Aside0.mk (HS6.out.far ((Fr.refl w6 [gm]).set gm i (.int .u64 x) (.inl (by simp))) (HRs.out.ne HS6.out.box (by decide)).symm (HRs.out.ne HS6.out.blk.obj (by decide)).symm (by have := HS4.out.blk.row.lt; have := HBm.out; omega) (Nat.le_trans HS4.out.be.size HBm.out)); have HR7 := Aside0.mk (HRs.out.put i x); have s0 := HS7.out.box.cell 0; have s1 := HS7.out.box.cell 1; have hw := HW.out))
  clear c0 c1 m1 f1 HRs HS6 HS4
  refine (new_yes R C l.length _ HG.out HN.out (Nat.le_trans HM.out (by decide)) (TabOK.below HT.out HS7.out.be)).mono ?_
  rintro e w8 ⟨q, h, rfl, hb, hbe, hq, hh⟩
  have HS8 := Aside0.mk (HS7.out.below hbe)
  have HR8 := Aside0.mk (HR7.out.below hbe)
  have HQ8 := Aside0.mk hb
  clear hb hbe hq hh s0 s1 HS7 HR7 hw
  have hw := HW.out
  have hwi := HW.out
  have hc8 : w8.cell? (ad.add i) = some (.int .u64 y) := by rw [HY.out]; exact (HL.out.below HS8.out.be).at_ad i HLt.out
  have HB8 := Aside0.mk (And.intro HS8.out (And.intro HR8.out HQ8.out))
  clear HS8 HR8 HQ8
  go_wp2_with fail
  refine start_ (n := 44) (S := fun w' => w'.cell? ⟨w.heap.size, 0, none⟩ = some (.int .i64 R) ∧ w'.cell? ⟨w.heap.size, 1, none⟩ = some (.int .i64 C) ∧ w'.cell? (ad.add i) = some (.int .u64 y) ∧ Aside0 (Sw w w' w.heap.size p g R C (l.set i x) ∧ Rs w' gm cm (l.set i x) ∧ Blo w' q h R C (List.replicate l.length (0 : Int)))) (ds := []) #[false, false, false, false, false, false, false, false, false, false, false, false, false, false, false, false, false, false, false, false, false, false, false, false, false, false, false, false, false, false, false, false, false, false, false, false, false, false, false, false, false, false, false, false] (by kernel_rfl) rfl rfl ⟨HB8.out.1.drew.box.cell 0, HB8.out.1.drew.box.cell 1, hc8, ⟨HB8.out.1.drew, HB8.out.2.1.drew, HB8.out.2.2.below (below_drew1 (Below.refl _ _))⟩⟩ (fun hHeld => ?_)
  refine pure_ (i := 0) (N := some 87) (v := ?_) (a' := ?_) #[true, false, false, false, false, false, false, false, false, false, false, false, false, false, false, false, false, false, false, false, false, false, false, false, false, false, false, false, false, false, false, false, false, false, false, false, false, false, false, false, false, false, false, false] rfl rfl (by kernel_rfl) (fun _ _ _ h => h) (Or.inl ⟨by rfl, ?_⟩) ?_ ?_
  rotate_left
  · intro w'
    go_simp
    with_reducible rfl
  rotate_left
  · simp only [Act.put, List.setIfInBounds_toArray, List.set_cons_zero, List.set_cons_succ, i64_w, i32_w]
    rfl
  refine pure_ (i := 1) (N := some 88) (v := ?_) (a' := ?_) #[true, true, false, false, false, false, false, false, false, false, false, false, false, false, false, false, false, false, false, false, false, false, false, false, false, false, false, false, false, false, false, false, false, false, false, false, false, false, false, false, false, false, false, false] rfl rfl (by kernel_rfl) (fun _ _ _ h => h) (Or.inl ⟨by rfl, ?_⟩) ?_ ?_
  rotate_left
  · intro w'
    go_simp
    with_reducible rfl
  rotate_left
  · simp only [Act.put, List.setIfInBounds_toArray, List.set_cons_zero, List.set_cons_succ, i64_w, i32_w]
    rfl
  refine pure_ (i := 2) (N := some 89) (v := ?_) (a' := ?_) #[true, true, true, false, false, false, false, false, false, false, false, false, false, false, false, false, false, false, false, false, false, false, false, false, false, false, false, false, false, false, false, false, false, false, false, false, false, false, false, false, false, false, false, false] rfl rfl (by kernel_rfl) (fun _ _ _ h => h) (Or.inl ⟨by rfl, ?_⟩) ?_ ?_
  rotate_left
  · intro w'
    go_simp
    with_reducible rfl
  rotate_left
  · simp only [Act.put, List.setIfInBounds_toArray, List.set_cons_zero, List.set_cons_succ, i64_w, i32_w]
    rfl
  refine pure_ (i := 3) (N := some 90) (v := ?_) (a' := ?_) #[true, true, true, true, false, false, false, false, false, false, false, false, false, false, false, false, false, false, false, false, false, false, false, false, false, false, false, false, false, false, false, false, false, false, false, false, false, false, false, false, false, false, false, false] rfl rfl (by kernel_rfl) (fun _ _ _ h => h) (Or.inl ⟨by rfl, ?_⟩) ?_ ?_
  rotate_left
  · intro w'
    go_simp
    with_reducible rfl
  rotate_left
  · simp only [Act.put, List.setIfInBounds_toArray, List.set_cons_zero, List.set_cons_succ, i64_w, i32_w]
    rfl
  refine pure_ (i := 4) (N := some 91) (v := ?_) (a' := ?_) #[true, true, true, true, true, false, false, false, false, false, false, false, false, false, false, false, false, false, false, false, false, false, false, false, false, false, false, false, false, false, false, false, false, false, false, false, false, false, false, false, false, false, false, false] rfl rfl (by kernel_rfl) (fun _ _ _ h => h) (Or.inl ⟨by rfl, ?_⟩) ?_ ?_
  rotate_left
  · intro w'
    go_simp
    with_reducible rfl
  rotate_left
  · simp only [Act.put, List.setIfInBounds_toArray, List.set_cons_zero, List.set_cons_succ, i64_w, i32_w]
    rfl
  refine pure_ (i := 5) (N := some 92) (v := ?_) (a' := ?_) #[true, true, true, true, true, true, false, false, false, false, false, false, false, false, false, false, false, false, false, false, false, false, false, false, false, false, false, false, false, false, false, false, false, false, false, false, false, false, false, false, false, false, false, false] rfl rfl (by kernel_rfl) (fun _ _ _ h => h) (Or.inl ⟨by rfl, ?_⟩) ?_ ?_
  rotate_left
  · intro w'
    go_simp
    with_reducible rfl
  rotate_left
  · simp only [Act.put, List.setIfInBounds_toArray, List.set_cons_zero, List.set_cons_succ, i64_w, i32_w]
    rfl
  refine pure_ (i := 6) (N := some 93) (v := ?_) (a' := ?_) #[true, true, true, true, true, true, true, false, false, false, false, false, false, false, false, false, false, false, false, false, false, false, false, false, false, false, false, false, false, false, false, false, false, false, false, false, false, false, false, false, false, false, false, false] rfl rfl (by kernel_rfl) (fun _ _ _ h => h) (Or.inl ⟨by rfl, ?_⟩) ?_ ?_
  rotate_left
  · intro w'
    go_simp
    with_reducible rfl
  rotate_left
  · simp only [Act.put, List.setIfInBounds_toArray, List.set_cons_zero, List.set_cons_succ, i64_w, i32_w]
    rfl
  refine pure_ (i := 7) (N := some 94) (v := ?_) (a' := ?_) #[true, true, true, true, true, true, true, true, false, false, false, false, false, false, false, false, false, false, false, false, false, false, false, false, false, false, false, false, false, false, false, false, false, false, false, false, false, false, false, false, false, false, false, false] rfl rfl (by kernel_rfl) (fun _ _ _ h => h) (Or.inl ⟨by rfl, ?_⟩) ?_ ?_
  rotate_left
  · intro w'
    go_simp
    with_reducible rfl
  rotate_left
  · simp only [Act.put, List.setIfInBounds_toArray, List.set_cons_zero, List.set_cons_succ, i64_w, i32_w]
    rfl
  refine pure_ (i := 8) (N := some 95) (v := ?_) (a' := ?_) #[true, true, true, true, true, true, true, true, true, false, false, false, false, false, false, false, false, false, false, false, false, false, false, false, false, false, false, false, false, false, false, false, false, false, false, false, false, false, false, false, false, false, false, false] rfl rfl (by kernel_rfl) (fun _ _ _ h => h) (Or.inl ⟨by rfl, ?_⟩) ?_ ?_
  rotate_left
  · intro w'
    go_simp
    with_reducible rfl
  rotate_left
  · simp only [Act.put, List.setIfInBounds_toArray, List.set_cons_zero, List.set_cons_succ, i64_w, i32_w]
    rfl
  refine pure_ (i := 9) (N := some 96) (v := ?_) (a' := ?_) #[true, true, true, true, true, true, true, true, true, true, false, false, false, false, false, false, false, false, false, false, false, false, false, false, false, false, false, false, false, false, false, false, false, false, false, false, false, false, false, false, false, false, false, false] rfl rfl (by kernel_rfl) (fun _ _ _ h => h) (Or.inl ⟨by rfl, ?_⟩) ?_ ?_
  rotate_left
  · intro w'
    go_simp
    with_reducible rfl
  rotate_left
  · simp only [Act.put, List.setIfInBounds_toArray, List.set_cons_zero, List.set_cons_succ, i64_w, i32_w]
    rfl
  refine pure_ (i := 10) (N := some 97) (v := ?_) (a' := ?_) #[true, true, true, true, true, true, true, true, true, true, true, false, false, false, false, false, false, false, false, false, false, false, false, false, false, false, false, false, false, false, false, false, false, false, false, false, false, false, false, false, false, false, false, false] rfl rfl (by kernel_rfl) (fun _ _ _ h => h) (Or.inl ⟨by rfl, ?_⟩) ?_ ?_
  rotate_left
  · intro w'
    go_simp
    with_reducible rfl
  rotate_left
  · simp only [Act.put, List.setIfInBounds_toArray, List.set_cons_zero, List.set_cons_succ, i64_w, i32_w]
    rfl
  refine pure_ (i := 13) (N := some 100) (v := ?_) (a' := ?_) #[true, true, true, true, true, true, true, true, true, true, true, false, false, true, false, false, false, false, false, false, false, false, false, false, false, false, false, false, false, false, false, false, false, false, false, false, false, false, false, false, false, false, false, false] rfl rfl (by kernel_rfl) (fun _ _ _ h => h) (Or.inl ⟨by rfl, ?_⟩) ?_ ?_
  rotate_left
  · intro w'
    go_simp
    with_reducible rfl
  rotate_left
  · simp only [Act.put, List.setIfInBounds_toArray, List.set_cons_zero, List.set_cons_succ, i64_w, i32_w]
    rfl
  refine take_ (i := 11) (N := some 98) (v := ?_) (a' := ?_) #[true, true, true, true, true, true, true, true, true, true, true, true, false, true, false, false, false, false, false, false, false, false, false, false, false, false, false, false, false, false, false, false, false, false, false, false, false, false, false, false, false, false, false, false] rfl rfl (by kernel_rfl) (fun _ _ _ h => h) (Or.inl ⟨by rfl, ?_⟩) hHeld ?_ ?_
  rotate_left
  · rintro w' ⟨s0, s1, s2, s3⟩
    go_simp
    with_reducible rfl
  rotate_left
  · simp only [Act.put, List.setIfInBounds_toArray, List.set_cons_zero, List.set_cons_succ, i64_w, i32_w]
    rfl
  refine pure_ (i := 12) (N := some 99) (v := ?_) (a' := ?_) #[true, true, true, true, true, true, true, true, true, true, true, true, true, true, false, false, false, false, false, false, false, false, false, false, false, false, false, false, false, false, false, false, false, false, false, false, false, false, false, false, false, false, false, false] rfl rfl (by kernel_rfl) (fun _ _ _ h => h) (Or.inl ⟨by rfl, ?_⟩) ?_ ?_
  rotate_left
  · intro w'
    go_simp
    with_reducible rfl
  rotate_left
  · simp only [Act.put, List.setIfInBounds_toArray, List.set_cons_zero, List.set_cons_succ, i64_w, i32_w]
    rfl
  refine pure_ (i := 14) (N := some 101) (v := ?_) (a' := ?_) #[true, true, true, true, true, true, true, true, true, true, true, true, true, true, true, false, false, false, false, false, false, false, false, false, false, false, false, false, false, false, false, false, false, false, false, false, false, false, false, false, false, false, false, false] rfl rfl (by kernel_rfl) (fun _ _ _ h => h) (Or.inl ⟨by rfl, ?_⟩) ?_ ?_
  rotate_left
  · intro w'
    go_simp
    with_reducible rfl
  rotate_left
  · simp only [Act.put, List.setIfInBounds_toArray, List.set_cons_zero, List.set_cons_succ, i64_w, i32_w]
    rfl
  refine pure_ (i := 15) (N := some 102) (v := ?_) (a' := ?_) #[true, true, true, true, true, true, true, true, true, true, true, true, true, true, true, true, false, false, false, false, false, false, false, false, false, false, false, false, false, false, false, false, false, false, false, false, false, false, false, false, false, false, false, false] rfl rfl (by kernel_rfl) (fun _ _ _ h => h) (Or.inl ⟨by rfl, ?_⟩) ?_ ?_
  rotate_left
  · intro w'
    go_simp
    with_reducible rfl
  rotate_left
  · simp only [Act.put, List.setIfInBounds_toArray, List.set_cons_zero, List.set_cons_succ, i64_w, i32_w]
    rfl
  refine take_ (i := 16) (N := some 103) (v := ?_) (a' := ?_) #[true, true, true, true, true, true, true, true, true, true, true, true, true, true, true, true, true, false, false, false, false, false, false, false, false, false, false, false, false, false, false, false, false, false, false, false, false, false, false, false, false, false, false, false] rfl rfl (by kernel_rfl) (fun _ _ _ h => h) (Or.inl ⟨by rfl, ?_⟩) hHeld ?_ ?_
  rotate_left
  · rintro w' ⟨s0, s1, s2, s3⟩
    go_simp
    with_reducible rfl
  rotate_left
  · simp only [Act.put, List.setIfInBounds_toArray, List.set_cons_zero, List.set_cons_succ, i64_w, i32_w]
    rfl
  refine pure_ (i := 17) (N := some 104) (v := ?_) (a' := ?_) #[true, true, true, true, true, true, true, true, true, true, true, true, true, true, true, true, true, true, false, false, false, false, false, false, false, false, false, false, false, false, false, false, false, false, false, false, false, false, false, false, false, false, false, false] rfl rfl (by kernel_rfl) (fun _ _ _ h => h) (Or.inl ⟨by rfl, ?_⟩) ?_ ?_
  rotate_left
  · intro w'
    go_simp
    with_reducible rfl
  rotate_left
  · simp only [Act.put, List.setIfInBounds_toArray, List.set_cons_zero, List.set_cons_succ, i64_w, i32_w]
    rfl
  refine pure_ (i := 18) (N := some 105) (v := ?_) (a' := ?_) #[true, true, true, true, true, true, true, true, true, true, true, true, true, true, true, true, true, true, true, false, false, false, false, false, false, false, false, false, false, false, false, false, false, false, false, false, false, false, false, false, false, false, false, false] rfl rfl (by kernel_rfl) (fun _ _ _ h => h) (Or.inl ⟨by rfl, ?_⟩) ?_ ?_
  rotate_left
  · intro w'
    go_simp
    with_reducible rfl
  rotate_left
  · simp only [Act.put, List.setIfInBounds_toArray, List.set_cons_zero, List.set_cons_succ, i64_w, i32_w]
    rfl
  refine pure_ (i := 19) (N := some 106) (v := ?_) (a' := ?_) #[true, true, true, true, true, true, true, true, true, true, true, true, true, true, true, true, true, true, true, true, false, false, false, false, false, false, false, false, false, false, false, false, false, false, false, false, false, false, false, false, false, false, false, false] rfl rfl (by kernel_rfl) (fun _ _ _ h => h) (Or.inl ⟨by rfl, ?_⟩) ?_ ?_
  rotate_left
  · intro w'
    go_simp
    with_reducible rfl
  rotate_left
  · simp only [Act.put, List.setIfInBounds_toArray, List.set_cons_zero, List.set_cons_succ, i64_w, i32_w]
    rfl
  refine pure_ (i := 20) (N := some 107) (v := ?_) (a' := ?_) #[true, true, true, true, true, true, true, true, true, true, true, true, true, true, true, true, true, true, true, true, true, false, false, false, false, false, false, false, false, false, false, false, false, false, false, false, false, false, false, false, false, false, false, false] rfl rfl (by kernel_rfl) (fun _ _ _ h => h) (Or.inl ⟨by rfl, ?_⟩) ?_ ?_
  rotate_left
  · intro w'
    go_simp
    with_reducible rfl
  rotate_left
  · simp only [Act.put, List.setIfInBounds_toArray, List.set_cons_zero, List.set_cons_succ, i64_w, i32_w]
    rfl
  refine pure_ (i := 22) (N := some 109) (v := ?_) (a' := ?_) #[true, true, true, true, true, true, true, true, true, true, true, true, true, true, true, true, true, true, true, true, true, false, true, false, false, false, false, false, false, false, false, false, false, false, false, false, false, false, false, false, false, false, false, false] rfl rfl (by kernel_rfl) (fun _ _ _ h => h) (Or.inl ⟨by rfl, ?_⟩) ?_ ?_
  rotate_left
  · intro w'
    go_simp
    with_reducible rfl
  rotate_left
  · simp only [Act.put, List.setIfInBounds_toArray, List.set_cons_zero, List.set_cons_succ, i64_w, i32_w]
    rfl
  refine one_ (i := 21) (N := some 108) #[true, true, true, true, true, true, true, true, true, true, true, true, true, true, true, true, true, true, true, true, true, true, true, false, false, false, false, false, false, false, false, false, false, false, false, false, false, false, false, false, false, false, false, false] rfl rfl (by kernel_rfl) (by decide) (fun K hK => ?_)
  refine goes_ Tryd.func27 (by kernel_rfl) rfl #[.pointer (some ⟨p, 0, none⟩)] (by rfl) rfl rfl (by simp only [List.map_toArray, List.map_cons, List.map_nil]; rfl) ?_
  with_reducible refine (words_ p g R C (l.set i x) _ hHeld.2.2.2.out.1.blk).mono ?_
  rintro e w9 ⟨v, rfl, hR, hb⟩
  refine ⟨_, rfl, ?_⟩
  obtain ⟨Av, cv, rfl, hcv, hCv⟩ := Kd.R_reads hR
  have HV := Aside0.mk (In.mk hCv hcv)
  have nS := bundle hHeld.2.2.2.out hb
  have nL := pw_cell_below hb hHeld.2.2.1
  clear hHeld hb hR hcv hCv
  refine hK.out _ _ ⟨nS.1.box.cell 0, nS.1.box.cell 1, nL, ⟨nS⟩⟩ (fun hHeld => ?_)
  clear hK K
  refine norm_ (a' := ?_) ?_ ?_
  rotate_left
  · show Act.put _ (some 108) _ = _
    simp only [Act.put, List.setIfInBounds_toArray, List.set_cons_zero, List.set_cons_succ, i64_w, i32_w]
    rfl
  refine one_ (i := 23) (N := some 110) #[true, true, true, true, true, true, true, true, true, true, true, true, true, true, true, true, true, true, true, true, true, true, true, true, false, false, false, false, false, false, false, false, false, false, false, false, false, false, false, false, false, false, false, false] rfl rfl (by kernel_rfl) (by decide) (fun K hK => ?_)
  refine goes_ Tryd.func26 (by kernel_rfl) rfl #[.slice Av (l.set i x).length cv, .slice (some ⟨gm, 0, none⟩) l.length cm] (by rfl) rfl rfl (by simp only [List.map_toArray, List.map_cons, List.map_nil]; rfl) ?_
  with_reducible refine (same_call k1 Av cv (l.set i x) (some ⟨gm, 0, none⟩) cm (l.set i x) _ _ _ _ rfl HSx.out.symm HV.out.r HV.out.c hHeld.2.2.2.out.2.1.reads hHeld.2.2.2.out.2.1.cap_le K1.out).mono ?_
  rintro e w10 ⟨rfl, hb⟩
  refine ⟨_, rfl, ?_⟩
  have nS := bundle hHeld.2.2.2.out hb.below
  have nL := pw_cell_below hb.below hHeld.2.2.1
  clear hHeld hb HV
  refine hK.out _ _ ⟨nS.1.box.cell 0, nS.1.box.cell 1, nL, ⟨nS⟩⟩ (fun hHeld => ?_)
  clear hK K
  refine norm_ (a' := ?_) ?_ ?_
  rotate_left
  · show Act.put _ (some 110) _ = _
    simp only [Act.put, List.setIfInBounds_toArray, List.set_cons_zero, List.set_cons_succ, i64_w, i32_w]
    rfl
  refine pure_ (i := 24) (N := some 111) (v := ?_) (a' := ?_) #[true, true, true, true, true, true, true, true, true, true, true, true, true, true, true, true, true, true, true, true, true, true, true, true, true, false, false, false, false, false, false, false, false, false, false, false, false, false, false, false, false, false, false, false] rfl rfl (by kernel_rfl) (fun _ _ _ h => h) (Or.inl ⟨by rfl, ?_⟩) ?_ ?_
  rotate_left
  · intro w'
    go_simp
    with_reducible rfl
  rotate_left
  · simp only [Act.put, List.setIfInBounds_toArray, List.set_cons_zero, List.set_cons_succ, i64_w, i32_w]
    rfl
  refine pure_ (i := 25) (N := some 112) (v := ?_) (a' := ?_) #[true, true, true, true, true, true, true, true, true, true, true, true, true, true, true, true, true, true, true, true, true, true, true, true, true, true, false, false, false, false, false, false, false, false, false, false, false, false, false, false, false, false, false, false] rfl rfl (by kernel_rfl) (fun _ _ _ h => h) (Or.inl ⟨by rfl, ?_⟩) ?_ ?_
  rotate_left
  · intro w'
    go_simp
    with_reducible rfl
  rotate_left
  · simp only [Act.put, List.setIfInBounds_toArray, List.set_cons_zero, List.set_cons_succ, i64_w, i32_w]
    rfl
  refine pure_ (i := 26) (N := some 113) (v := ?_) (a' := ?_) #[true, true, true, true, true, true, true, true, true, true, true, true, true, true, true, true, true, true, true, true, true, true, true, true, true, true, true, false, false, false, false, false, false, false, false, false, false, false, false, false, false, false, false, false] rfl rfl (by kernel_rfl) (fun _ _ _ h => h) (Or.inl ⟨by rfl, ?_⟩) ?_ ?_
  rotate_left
  · intro w'
    go_simp
    with_reducible rfl
  rotate_left
  · simp only [Act.put, List.setIfInBounds_toArray, List.set_cons_zero, List.set_cons_succ, i64_w, i32_w]
    rfl
  refine pure_ (i := 27) (N := some 114) (v := ?_) (a' := ?_) #[true, true, true, true, true, true, true, true, true, true, true, true, true, true, true, true, true, true, true, true, true, true, true, true, true, true, true, true, false, false, false, false, false, false, false, false, false, false, false, false, false, false, false, false] rfl rfl (by kernel_rfl) (fun _ _ _ h => h) (Or.inl ⟨by rfl, ?_⟩) ?_ ?_
  rotate_left
  · intro w'
    go_simp
    with_reducible rfl
  rotate_left
  · simp only [Act.put, List.setIfInBounds_toArray, List.set_cons_zero, List.set_cons_succ, i64_w, i32_w]
    rfl
  refine pure_ (i := 28) (N := some 115) (v := ?_) (a' := ?_) #[true, true, true, true, true, true, true, true, true, true, true, true, true, true, true, true, true, true, true, true, true, true, true, true, true, true, true, true, true, false, false, false, false, false, false, false, false, false, false, false, false, false, false, false] rfl rfl (by kernel_rfl) (fun _ _ _ h => h) (Or.inl ⟨by rfl, ?_⟩) ?_ ?_
  rotate_left
  · intro w'
    go_simp
    with_reducible rfl
  rotate_left
  · simp only [Act.put, List.setIfInBounds_toArray, List.set_cons_zero, List.set_cons_succ, i64_w, i32_w]
    rfl
  refine pure_ (i := 29) (N := some 116) (v := ?_) (a' := ?_) #[true, true, true, true, true, true, true, true, true, true, true, true, true, true, true, true, true, true, true, true, true, true, true, true, true, true, true, true, true, true, false, false, false, false, false, false, false, false, false, false, false, false, false, false] rfl rfl (by kernel_rfl) (fun _ _ _ h => h) (Or.inl ⟨by rfl, ?_⟩) ?_ ?_
  rotate_left
  · intro w'
    go_simp
    with_reducible rfl
  rotate_left
  · simp only [Act.put, List.setIfInBounds_toArray, List.set_cons_zero, List.set_cons_succ, i64_w, i32_w]
    rfl
  refine pure_ (i := 30) (N := some 117) (v := ?_) (a' := ?_) #[true, true, true, true, true, true, true, true, true, true, true, true, true, true, true, true, true, true, true, true, true, true, true, true, true, true, true, true, true, true, true, false, false, false, false, false, false, false, false, false, false, false, false, false] rfl rfl (by kernel_rfl) (fun _ _ _ h => h) (Or.inl ⟨by rfl, ?_⟩) ?_ ?_
  rotate_left
  · intro w'
    go_simp
    with_reducible rfl
  rotate_left
  · simp only [Act.put, List.setIfInBounds_toArray, List.set_cons_zero, List.set_cons_succ, i64_w, i32_w]
    rfl
  refine take_ (i := 32) (N := some 119) (v := ?_) (a' := ?_) #[true, true, true, true, true, true, true, true, true, true, true, true, true, true, true, true, true, true, true, true, true, true, true, true, true, true, true, true, true, true, true, false, true, false, false, false, false, false, false, false, false, false, false, false] rfl rfl (by kernel_rfl) (fun _ _ _ h => h) (Or.inl ⟨by rfl, ?_⟩) hHeld ?_ ?_
  rotate_left
  · rintro w' ⟨s0, s1, s2, s3⟩
    go_simp
    with_reducible rfl
  rotate_left
  · simp only [Act.put, List.setIfInBounds_toArray, List.set_cons_zero, List.set_cons_succ, i64_w, i32_w]
    rfl
  refine one_ (i := 31) (N := some 118) #[true, true, true, true, true, true, true, true, true, true, true, true, true, true, true, true, true, true, true, true, true, true, true, true, true, true, true, true, true, true, true, true, true, false, false, false, false, false, false, false, false, false, false, false] rfl rfl (by kernel_rfl) (by decide) (fun K hK => ?_)
  refine goes_ Tryd.func25 (by kernel_rfl) rfl #[.pointer (some ⟨q, 0, none⟩)] (by rfl) rfl rfl (by simp only [List.map_toArray, List.map_cons, List.map_nil]; rfl) ?_
  with_reducible refine (shape_ q h R C _ _ hHeld.2.2.2.out.2.2).mono ?_
  rintro e w11 ⟨rfl, hb⟩
  refine ⟨_, rfl, ?_⟩
  have nS := bundle hHeld.2.2.2.out hb
  have nL := pw_cell_below hb hHeld.2.2.1
  clear hHeld hb
  refine hK.out _ _ ⟨nS.1.box.cell 0, nS.1.box.cell 1, nL, ⟨nS⟩⟩ (fun hHeld => ?_)
  clear hK K
  refine norm_ (a' := ?_) ?_ ?_
  rotate_left
  · show Act.put _ (some 118) _ = _
    simp only [Act.put, List.setIfInBounds_toArray, List.set_cons_zero, List.set_cons_succ, i64_w, i32_w]
    rfl
  refine pure_ (i := 33) (N := some 120) (v := ?_) (a' := ?_) #[true, true, true, true, true, true, true, true, true, true, true, true, true, true, true, true, true, true, true, true, true, true, true, true, true, true, true, true, true, true, true, true, true, true, false, false, false, false, false, false, false, false, false, false] rfl rfl (by kernel_rfl) (fun _ _ _ h => h) (Or.inl ⟨by rfl, ?_⟩) ?_ ?_
  rotate_left
  · intro w'
    go_simp
    with_reducible rfl
  rotate_left
  · simp only [Act.put, List.setIfInBounds_toArray, List.set_cons_zero, List.set_cons_succ, i64_w, i32_w]
    rfl
  refine pure_ (i := 34) (N := some 121) (v := ?_) (a' := ?_) #[true, true, true, true, true, true, true, true, true, true, true, true, true, true, true, true, true, true, true, true, true, true, true, true, true, true, true, true, true, true, true, true, true, true, true, false, false, false, false, false, false, false, false, false] rfl rfl (by kernel_rfl) (fun _ _ _ h => h) (Or.inl ⟨by rfl, ?_⟩) ?_ ?_
  rotate_left
  · intro w'
    go_simp
    with_reducible rfl
  rotate_left
  · simp only [Act.put, List.setIfInBounds_toArray, List.set_cons_zero, List.set_cons_succ, i64_w, i32_w]
    rfl
  refine pure_ (i := 35) (N := some 122) (v := ?_) (a' := ?_) #[true, true, true, true, true, true, true, true, true, true, true, true, true, true, true, true, true, true, true, true, true, true, true, true, true, true, true, true, true, true, true, true, true, true, true, true, false, false, false, false, false, false, false, false] rfl rfl (by kernel_rfl) (fun _ _ _ h => h) (Or.inl ⟨by rfl, ?_⟩) ?_ ?_
  rotate_left
  · intro w'
    go_simp
    with_reducible rfl
  rotate_left
  · simp only [Act.put, List.setIfInBounds_toArray, List.set_cons_zero, List.set_cons_succ, i64_w, i32_w]
    rfl
  refine pure_ (i := 36) (N := some 123) (v := ?_) (a' := ?_) #[true, true, true, true, true, true, true, true, true, true, true, true, true, true, true, true, true, true, true, true, true, true, true, true, true, true, true, true, true, true, true, true, true, true, true, true, true, false, false, false, false, false, false, false] rfl rfl (by kernel_rfl) (fun _ _ _ h => h) (Or.inl ⟨by rfl, ?_⟩) ?_ ?_
  rotate_left
  · intro w'
    go_simp
    with_reducible rfl
  rotate_left
  · simp only [Act.put, List.setIfInBounds_toArray, List.set_cons_zero, List.set_cons_succ, i64_w, i32_w]
    rfl
  refine pure_ (i := 38) (N := some 125) (v := ?_) (a' := ?_) #[true, true, true, true, true, true, true, true, true, true, true, true, true, true, true, true, true, true, true, true, true, true, true, true, true, true, true, true, true, true, true, true, true, true, true, true, true, false, true, false, false, false, false, false] rfl rfl (by kernel_rfl) (fun _ _ _ h => h) (Or.inl ⟨by rfl, ?_⟩) ?_ ?_
  rotate_left
  · intro w'
    go_simp
    with_reducible rfl
  rotate_left
  · simp only [Act.put, List.setIfInBounds_toArray, List.set_cons_zero, List.set_cons_succ, i64_w, i32_w]
    rfl
  refine pure_ (i := 39) (N := some 126) (v := ?_) (a' := ?_) #[true, true, true, true, true, true, true, true, true, true, true, true, true, true, true, true, true, true, true, true, true, true, true, true, true, true, true, true, true, true, true, true, true, true, true, true, true, false, true, true, false, false, false, false] rfl rfl (by kernel_rfl) (fun _ _ _ h => h) (Or.inl ⟨by rfl, ?_⟩) ?_ ?_
  rotate_left
  · intro w'
    go_simp
    with_reducible rfl
  rotate_left
  · simp only [Act.put, List.setIfInBounds_toArray, List.set_cons_zero, List.set_cons_succ, i64_w, i32_w]
    rfl
  refine join_ (σ := Option Addr × Nat × Nat) 3 #[true, true, true, true, true, true, true, true, true, true, true, true, true, true, true, true, true, true, true, true, true, true, true, true, true, true, true, true, true, true, true, true, true, true, true, true, true, true, true, true, true, false, false, false] (fun s => [(124, .slice s.1 (List.replicate l.length (0 : Int)).length s.2.1), (127, .slice (some ⟨s.2.2, 0, none⟩) l.length l.length)]) (fun s w' => (w'.cell? ⟨w.heap.size, 0, none⟩ = some (.int .i64 R) ∧ w'.cell? ⟨w.heap.size, 1, none⟩ = some (.int .i64 C) ∧ w'.cell? (ad.add i) = some (.int .u64 y) ∧ Aside0 (Sw w w' w.heap.size p g R C (l.set i x) ∧ Rs w' gm cm (l.set i x) ∧ Blo w' q h R C (List.replicate l.length (0 : Int)))) ∧ Aside0 (In w' s.1 s.2.1 (List.replicate l.length (0 : Int))) ∧ Aside0 (Rw w' s.2.2 (List.replicate l.length (0 : Int)))) ?_ ?_
  rotate_left
  · intro hCont
    refine two_ (i := 37) (j := 40) (Ni := some 124) (Nj := some 127) #[true, true, true, true, true, true, true, true, true, true, true, true, true, true, true, true, true, true, true, true, true, true, true, true, true, true, true, true, true, true, true, true, true, true, true, true, true, true, true, true, false, false, false, false] #[true, true, true, true, true, true, true, true, true, true, true, true, true, true, true, true, true, true, true, true, true, true, true, true, true, true, true, true, true, true, true, true, true, true, true, true, true, false, true, true, true, false, false, false] rfl rfl rfl rfl (by kernel_rfl) (by decide) (by decide) (fun K hK => ?_) (fun K hK => ?_)
    · skip
      refine goes_ Tryd.func27 (by kernel_rfl) rfl #[.pointer (some ⟨q, 0, none⟩)] (by rfl) rfl rfl (by simp only [List.map_toArray, List.map_cons, List.map_nil]; rfl) ?_
      with_reducible refine (words_ q h R C _ _ hHeld.2.2.2.out.2.2).mono ?_
      rintro e w12 ⟨v, rfl, hR, hb⟩
      refine ⟨_, rfl, ?_⟩
      obtain ⟨Aq, cq, rfl, hcq, hCq⟩ := Kd.R_reads hR
      have HV := Aside0.mk (In.mk hCq hcq)
      have nS := bundle hHeld.2.2.2.out hb
      have nL := pw_cell_below hb hHeld.2.2.1
      clear hHeld hb
      clear hR hcq hCq
      refine hK.out _ _ ⟨nS.1.box.cell 0, nS.1.box.cell 1, nL, ⟨nS⟩⟩ (fun hHeld => ?_)
      clear hK K
      refine norm_ (a' := ?_) ?_ ?_
      rotate_left
      · show Act.put _ (some 124) _ = _
        simp only [Act.put, List.setIfInBounds_toArray, List.set_cons_zero, List.set_cons_succ, i64_w, i32_w]
        rfl
      refine one_ (i := 40) (N := some 127) #[true, true, true, true, true, true, true, true, true, true, true, true, true, true, true, true, true, true, true, true, true, true, true, true, true, true, true, true, true, true, true, true, true, true, true, true, true, true, true, true, true, false, false, false] rfl rfl (by kernel_rfl) (by decide) (fun K hK => ?_)
      refine make_step 47 _ _ l.length (by rfl) rfl rfl rfl rfl (by kernel_rfl) info66 (by have := HM.out; omega) ?_
      intro w13 hrow hb hsz
      have nR := HV.out.below hb
      clear HV
      have HV := Aside0.mk nR
      clear nR
      have HZ := Aside0.mk hrow
      have nS := bundle hHeld.2.2.2.out hb
      have nL := pw_cell_below hb hHeld.2.2.1
      clear hHeld hb
      clear hrow hsz
      refine hK.out _ _ ⟨nS.1.box.cell 0, nS.1.box.cell 1, nL, ⟨nS⟩⟩ (fun hHeld => ?_)
      clear hK K
      refine norm_ (a' := ?_) ?_ ?_
      rotate_left
      · show Act.put _ (some 127) _ = _
        simp only [Act.put, List.setIfInBounds_toArray, List.set_cons_zero, List.set_cons_succ, i64_w, i32_w]
        rfl
      exact norm_ (by first | (simp only [putAll, Act.put, List.setIfInBounds_toArray, List.set_cons_zero, List.set_cons_succ]; done) | (simp only [putAll, Act.put, List.setIfInBounds_toArray, List.set_cons_zero, List.set_cons_succ]; rfl)) (hCont (Aq, cq, w12.heap.size) _ ⟨hHeld, HV, HZ⟩)
    · skip
      refine make_step 47 _ _ l.length (by rfl) rfl rfl rfl rfl (by kernel_rfl) info66 (by have := HM.out; omega) ?_
      intro w12 hrow hb hsz
      have HZ := Aside0.mk hrow
      have nS := bundle hHeld.2.2.2.out hb
      have nL := pw_cell_below hb hHeld.2.2.1
      clear hHeld hb
      clear hrow hsz
      refine hK.out _ _ ⟨nS.1.box.cell 0, nS.1.box.cell 1, nL, ⟨nS⟩⟩ (fun hHeld => ?_)
      clear hK K
      refine norm_ (a' := ?_) ?_ ?_
      rotate_left
      · show Act.put _ (some 127) _ = _
        simp only [Act.put, List.setIfInBounds_toArray, List.set_cons_zero, List.set_cons_succ, i64_w, i32_w]
        rfl
      refine one_ (i := 37) (N := some 124) #[true, true, true, true, true, true, true, true, true, true, true, true, true, true, true, true, true, true, true, true, true, true, true, true, true, true, true, true, true, true, true, true, true, true, true, true, true, true, true, true, true, false, false, false] rfl rfl (by kernel_rfl) (by decide) (fun K hK => ?_)
      refine goes_ Tryd.func27 (by kernel_rfl) rfl #[.pointer (some ⟨q, 0, none⟩)] (by rfl) rfl rfl (by simp only [List.map_toArray, List.map_cons, List.map_nil]; rfl) ?_
      with_reducible refine (words_ q h R C _ _ hHeld.2.2.2.out.2.2).mono ?_
      rintro e w13 ⟨v, rfl, hR, hb⟩
      refine ⟨_, rfl, ?_⟩
      obtain ⟨Aq, cq, rfl, hcq, hCq⟩ := Kd.R_reads hR
      have nQ := HZ.out.below hb
      clear HZ
      have HZ := Aside0.mk nQ
      clear nQ
      have HV := Aside0.mk (In.mk hCq hcq)
      have nS := bundle hHeld.2.2.2.out hb
      have nL := pw_cell_below hb hHeld.2.2.1
      clear hHeld hb
      clear hR hcq hCq
      refine hK.out _ _ ⟨nS.1.box.cell 0, nS.1.box.cell 1, nL, ⟨nS⟩⟩ (fun hHeld => ?_)
      clear hK K
      refine norm_ (a' := ?_) ?_ ?_
      rotate_left
      · show Act.put _ (some 124) _ = _
        simp only [Act.put, List.setIfInBounds_toArray, List.set_cons_zero, List.set_cons_succ, i64_w, i32_w]
        rfl
      exact norm_ (by first | (simp only [putAll, Act.put, List.setIfInBounds_toArray, List.set_cons_zero, List.set_cons_succ]; done) | (simp only [putAll, Act.put, List.setIfInBounds_toArray, List.set_cons_zero, List.set_cons_succ]; rfl)) (hCont (Aq, cq, w11.heap.size) _ ⟨hHeld, HV, HZ⟩)
  rintro ⟨Aq, cq, gz⟩ w14 ⟨hHeld, HV, HZ⟩
  dsimp only at HV HZ
  refine norm_ (a' := ?_) ?_ ?_
  rotate_left
  · simp only [putAll, Act.put, List.setIfInBounds_toArray, List.set_cons_zero, List.set_cons_succ]
    rfl
  refine one_ (i := 41) (N := some 128) #[true, true, true, true, true, true, true, true, true, true, true, true, true, true, true, true, true, true, true, true, true, true, true, true, true, true, true, true, true, true, true, true, true, true, true, true, true, true, true, true, true, true, false, false] rfl rfl (by kernel_rfl) (by decide) (fun K hK => ?_)
  refine goes_ Tryd.func26 (by kernel_rfl) rfl #[.slice Aq (List.replicate l.length (0 : Int)).length cq, .slice (some ⟨gz, 0, none⟩) l.length l.length] (by rfl) rfl rfl (by simp only [List.map_toArray, List.map_cons, List.map_nil]; rfl) ?_
  with_reducible refine (same_call k2 Aq cq (List.replicate l.length (0 : Int)) (some ⟨gz, 0, none⟩) l.length (List.replicate l.length (0 : Int)) _ _ _ _ rfl (by rw [List.length_replicate]) HV.out.r HV.out.c (HZ.out.whole (by rw [List.length_replicate]; have := HM.out; omega)) (by rw [List.length_replicate]; exact Nat.le_refl _) K2.out).mono ?_
  rintro e w15 ⟨rfl, hb⟩
  refine ⟨_, rfl, ?_⟩
  have nS := bundle hHeld.2.2.2.out hb.below
  have nL := pw_cell_below hb.below hHeld.2.2.1
  clear hHeld hb HV HZ
  refine hK.out _ _ ⟨nS.1.box.cell 0, nS.1.box.cell 1, nL, ⟨nS⟩⟩ (fun hHeld => ?_)
  clear hK K
  refine norm_ (a' := ?_) ?_ ?_
  rotate_left
  · show Act.put _ (some 128) _ = _
    simp only [Act.put, List.setIfInBounds_toArray, List.set_cons_zero, List.set_cons_succ, i64_w, i32_w]
    rfl
  refine pure_ (i := 42) (N := some 129) (v := ?_) (a' := ?_) #[true, true, true, true, true, true, true, true, true, true, true, true, true, true, true, true, true, true, true, true, true, true, true, true, true, true, true, true, true, true, true, true, true, true, true, true, true, true, true, true, true, true, true, false] rfl rfl (by kernel_rfl) (fun _ _ _ h => h) (Or.inl ⟨by rfl, ?_⟩) ?_ ?_
  rotate_left
  · intro w'
    go_simp
    with_reducible rfl
  rotate_left
  · simp only [Act.put, List.setIfInBounds_toArray, List.set_cons_zero, List.set_cons_succ, i64_w, i32_w]
    rfl
  refine pure_ (i := 43) (N := some 10) (v := ?_) (a' := ?_) #[true, true, true, true, true, true, true, true, true, true, true, true, true, true, true, true, true, true, true, true, true, true, true, true, true, true, true, true, true, true, true, true, true, true, true, true, true, true, true, true, true, true, true, true] rfl rfl (by kernel_rfl) (fun _ _ _ h => h) (Or.inl ⟨by rfl, ?_⟩) ?_ ?_
  rotate_left
  · intro w'
    go_simp
    with_reducible rfl
  rotate_left
  · simp only [Act.put, List.setIfInBounds_toArray, List.set_cons_zero, List.set_cons_succ, i64_w, i32_w]
    rfl
  refine done_ (by kernel_rfl) ?_

  have HS9 := hHeld.2.2.2
  clear hHeld
  go_wp2
  go_ret
  exact ⟨rfl, HS9.out.1.be⟩
set_option maxHeartbeats 4000000 in
theorem words_out (R C : Int) (A : Option Addr) (n : Nat) (l : List Int) (r c x : Int) (w : World) (hg : GoodS R C) (hn : R * C = (l.length : Int)) (hm : l.length ≤ 256) (hl : In w A n l) (hh : ¬ (0 ≤ r ∧ r < R ∧ 0 ≤ c ∧ c < C)) (hT : TabOK w) :
    Calls Tryd.prog 9 #[.agg #[.int .i64 R, .int .i64 C], .slice A l.length n, .int .i64 r, .int .i64 c, .int .u64 x] w fun e w' => e = .returned (.bool true) ∧ Below w.heap.size w w' := by
  obtain ⟨k1, h1⟩ := (same_ l l (by omega)).rounds
  rw [decide_eq_true rfl] at h1
  rcases (show r < 0 ∨ (¬ r < 0 ∧ R ≤ r) ∨ (¬ r < 0 ∧ ¬ R ≤ r ∧ c < 0) ∨ (¬ r < 0 ∧ ¬ R ≤ r ∧ ¬ c < 0 ∧ C ≤ c) by omega) with a1 | ⟨a1, a2⟩ | ⟨a1, a2, a3⟩ | ⟨a1, a2, a3, a4⟩
  · have d1 : decide (r < 0) = true := decide_eq_true a1
    clear a1
    have K1 := Aside0.mk h1
    have HG := Aside0.mk hg
    have HN := Aside0.mk hn
    have HL := Aside0.mk hl
    have HT := Aside0.mk hT
    have HM := Aside0.mk hm
    have HH := Aside0.mk hh
    clear h1 hg hn hl hT hm hh
    go_enter Tryd.func9, Tryd.ntmps9
    go_wp2_with fail
    refine (bawake_ _ (TabOK.below HT.out (below_alloc (Below.refl _ _) _))).mono ?_
    rintro e w1 ⟨rfl, hb1⟩
    have HB1 := Aside0.mk (below_then (below_alloc (Below.refl w.heap.size w) _) (below_alloc (Below.refl w.heap.size w) _).size hb1)
    have HX1 := Aside0.mk ((Bk.new w 26 [.int .i64 R, .int .i64 C]).below hb1)
    have c0 := HX1.out.cell 0
    have c1 := HX1.out.cell 1
    clear hb1
    go_wp2_with fail
    refine (made_yes R C A n l _ HG.out HN.out HM.out (HL.out.below HB1.out) (TabOK.below HT.out HB1.out)).mono ?_
    rintro e w2 ⟨p, g, rfl, hb, hbe, hp, hg⟩
    have HS := Aside0.mk (Sw.mk hb (HX1.out.below hbe) (below_then HB1.out HB1.out.size hbe) (Nat.le_trans HB1.out.size hp) (Nat.le_trans HB1.out.size hg))
    clear hb hbe hp hg c0 c1 HX1 HB1
    go_wp2_with fail
    refine (get_no p g R C r c l _ HS.out.blk HH.out (TabOK.below HT.out HS.out.be)).mono ?_
    rintro e w3 ⟨rfl, hb⟩
    have HS3 := Aside0.mk (HS.out.below hb)
    clear hb HS
    go_wp2_with fail
    refine (put_no p g R C r c x l _ HS3.out.blk HH.out (TabOK.below HT.out HS3.out.be)).mono ?_
    rintro e w4 ⟨rfl, hb⟩
    have HS4 := Aside0.mk (HS3.out.below hb)
    clear hb HS3
    have c0 := HS4.out.box.cell 0
    have c1 := HS4.out.box.cell 1
    go_wp2_with fail
    refine (words_ p g R C l _ HS4.out.blk).mono ?_
    rintro e w9 ⟨v, rfl, hR, hb⟩
    obtain ⟨Av, cv, rfl, hcv, hCv⟩ := Kd.R_reads hR
    have HV := Aside0.mk (In.mk hCv hcv)
    have HS5 := Aside0.mk (HS4.out.below hb)
    clear hb hR hcv hCv HS4 c0 c1
    go_wp2_with fail
    refine (abacistref04_Same.calls k1 Av cv l A n l _ _ HV.out.r HV.out.c (HL.out.below HS5.out.be).r HL.out.c K1.out).mono ?_
    rintro e w10 ⟨rfl, hb⟩
    have HS6 := Aside0.mk (HS5.out.drawn hb)
    clear hb HV HS5
    go_wp2
    go_ret
    exact ⟨rfl, HS6.out.be⟩
  · have d1 : decide (r < 0) = false := decide_eq_false a1
    have d2 : decide (R ≤ r) = true := decide_eq_true a2
    clear a1 a2
    have K1 := Aside0.mk h1
    have HG := Aside0.mk hg
    have HN := Aside0.mk hn
    have HL := Aside0.mk hl
    have HT := Aside0.mk hT
    have HM := Aside0.mk hm
    have HH := Aside0.mk hh
    clear h1 hg hn hl hT hm hh
    go_enter Tryd.func9, Tryd.ntmps9
    go_wp2_with fail
    refine (bawake_ _ (TabOK.below HT.out (below_alloc (Below.refl _ _) _))).mono ?_
    rintro e w1 ⟨rfl, hb1⟩
    have HB1 := Aside0.mk (below_then (below_alloc (Below.refl w.heap.size w) _) (below_alloc (Below.refl w.heap.size w) _).size hb1)
    have HX1 := Aside0.mk ((Bk.new w 26 [.int .i64 R, .int .i64 C]).below hb1)
    have c0 := HX1.out.cell 0
    have c1 := HX1.out.cell 1
    clear hb1
    go_wp2_with fail
    refine (made_yes R C A n l _ HG.out HN.out HM.out (HL.out.below HB1.out) (TabOK.below HT.out HB1.out)).mono ?_
    rintro e w2 ⟨p, g, rfl, hb, hbe, hp, hg⟩
    have HS := Aside0.mk (Sw.mk hb (HX1.out.below hbe) (below_then HB1.out HB1.out.size hbe) (Nat.le_trans HB1.out.size hp) (Nat.le_trans HB1.out.size hg))
    clear hb hbe hp hg c0 c1 HX1 HB1
    go_wp2_with fail
    refine (get_no p g R C r c l _ HS.out.blk HH.out (TabOK.below HT.out HS.out.be)).mono ?_
    rintro e w3 ⟨rfl, hb⟩
    have HS3 := Aside0.mk (HS.out.below hb)
    clear hb HS
    go_wp2_with fail
    refine (put_no p g R C r c x l _ HS3.out.blk HH.out (TabOK.below HT.out HS3.out.be)).mono ?_
    rintro e w4 ⟨rfl, hb⟩
    have HS4 := Aside0.mk (HS3.out.below hb)
    clear hb HS3
    have c0 := HS4.out.box.cell 0
    have c1 := HS4.out.box.cell 1
    go_wp2_with fail
    refine (words_ p g R C l _ HS4.out.blk).mono ?_
    rintro e w9 ⟨v, rfl, hR, hb⟩
    obtain ⟨Av, cv, rfl, hcv, hCv⟩ := Kd.R_reads hR
    have HV := Aside0.mk (In.mk hCv hcv)
    have HS5 := Aside0.mk (HS4.out.below hb)
    clear hb hR hcv hCv HS4 c0 c1
    go_wp2_with fail
    refine (abacistref04_Same.calls k1 Av cv l A n l _ _ HV.out.r HV.out.c (HL.out.below HS5.out.be).r HL.out.c K1.out).mono ?_
    rintro e w10 ⟨rfl, hb⟩
    have HS6 := Aside0.mk (HS5.out.drawn hb)
    clear hb HV HS5
    go_wp2
    go_ret
    exact ⟨rfl, HS6.out.be⟩
  · have d1 : decide (r < 0) = false := decide_eq_false a1
    have d2 : decide (R ≤ r) = false := decide_eq_false a2
    have d3 : decide (c < 0) = true := decide_eq_true a3
    clear a1 a2 a3
    have K1 := Aside0.mk h1
    have HG := Aside0.mk hg
    have HN := Aside0.mk hn
    have HL := Aside0.mk hl
    have HT := Aside0.mk hT
    have HM := Aside0.mk hm
    have HH := Aside0.mk hh
    clear h1 hg hn hl hT hm hh
    go_enter Tryd.func9, Tryd.ntmps9
    go_wp2_with fail
    refine (bawake_ _ (TabOK.below HT.out (below_alloc (Below.refl _ _) _))).mono ?_
    rintro e w1 ⟨rfl, hb1⟩
    have HB1 := Aside0.mk (below_then (below_alloc (Below.refl w.heap.size w) _) (below_alloc (Below.refl w.heap.size w) _).size hb1)
    have HX1 := Aside0.mk ((Bk.new w 26 [.int .i64 R, .int .i64 C]).below hb1)
    have c0 := HX1.out.cell 0
    have c1 := HX1.out.cell 1
    clear hb1
    go_wp2_with fail
    refine (made_yes R C A n l _ HG.out HN.out HM.out (HL.out.below HB1.out) (TabOK.below HT.out HB1.out)).mono ?_
    rintro e w2 ⟨p, g, rfl, hb, hbe, hp, hg⟩
    have HS := Aside0.mk (Sw.mk hb (HX1.out.below hbe) (below_then HB1.out HB1.out.size hbe) (Nat.le_trans HB1.out.size hp) (Nat.le_trans HB1.out.size hg))
    clear hb hbe hp hg c0 c1 HX1 HB1
    go_wp2_with fail
    refine (get_no p g R C r c l _ HS.out.blk HH.out (TabOK.below HT.out HS.out.be)).mono ?_
    rintro e w3 ⟨rfl, hb⟩
    have HS3 := Aside0.mk (HS.out.below hb)
    clear hb HS
    go_wp2_with fail
    refine (put_no p g R C r c x l _ HS3.out.blk HH.out (TabOK.below HT.out HS3.out.be)).mono ?_
    rintro e w4 ⟨rfl, hb⟩
    have HS4 := Aside0.mk (HS3.out.below hb)
    clear hb HS3
    have c0 := HS4.out.box.cell 0
    have c1 := HS4.out.box.cell 1
    go_wp2_with fail
    refine (words_ p g R C l _ HS4.out.blk).mono ?_
    rintro e w9 ⟨v, rfl, hR, hb⟩
    obtain ⟨Av, cv, rfl, hcv, hCv⟩ := Kd.R_reads hR
    have HV := Aside0.mk (In.mk hCv hcv)
    have HS5 := Aside0.mk (HS4.out.below hb)
    clear hb hR hcv hCv HS4 c0 c1
    go_wp2_with fail
    refine (abacistref04_Same.calls k1 Av cv l A n l _ _ HV.out.r HV.out.c (HL.out.below HS5.out.be).r HL.out.c K1.out).mono ?_
    rintro e w10 ⟨rfl, hb⟩
    have HS6 := Aside0.mk (HS5.out.drawn hb)
    clear hb HV HS5
    go_wp2
    go_ret
    exact ⟨rfl, HS6.out.be⟩
  · have d1 : decide (r < 0) = false := decide_eq_false a1
    have d2 : decide (R ≤ r) = false := decide_eq_false a2
    have d3 : decide (c < 0) = false := decide_eq_false a3
    have d4 : decide (C ≤ c) = true := decide_eq_true a4
    clear a1 a2 a3 a4
    have K1 := Aside0.mk h1
    have HG := Aside0.mk hg
    have HN := Aside0.mk hn
    have HL := Aside0.mk hl
    have HT := Aside0.mk hT
    have HM := Aside0.mk hm
    have HH := Aside0.mk hh
    clear h1 hg hn hl hT hm hh
    go_enter Tryd.func9, Tryd.ntmps9
    go_wp2_with fail
    refine (bawake_ _ (TabOK.below HT.out (below_alloc (Below.refl _ _) _))).mono ?_
    rintro e w1 ⟨rfl, hb1⟩
    have HB1 := Aside0.mk (below_then (below_alloc (Below.refl w.heap.size w) _) (below_alloc (Below.refl w.heap.size w) _).size hb1)
    have HX1 := Aside0.mk ((Bk.new w 26 [.int .i64 R, .int .i64 C]).below hb1)
    have c0 := HX1.out.cell 0
    have c1 := HX1.out.cell 1
    clear hb1
    go_wp2_with fail
    refine (made_yes R C A n l _ HG.out HN.out HM.out (HL.out.below HB1.out) (TabOK.below HT.out HB1.out)).mono ?_
    rintro e w2 ⟨p, g, rfl, hb, hbe, hp, hg⟩
    have HS := Aside0.mk (Sw.mk hb (HX1.out.below hbe) (below_then HB1.out HB1.out.size hbe) (Nat.le_trans HB1.out.size hp) (Nat.le_trans HB1.out.size hg))
    clear hb hbe hp hg c0 c1 HX1 HB1
    go_wp2_with fail
    refine (get_no p g R C r c l _ HS.out.blk HH.out (TabOK.below HT.out HS.out.be)).mono ?_
    rintro e w3 ⟨rfl, hb⟩
    have HS3 := Aside0.mk (HS.out.below hb)
    clear hb HS
    go_wp2_with fail
    refine (put_no p g R C r c x l _ HS3.out.blk HH.out (TabOK.below HT.out HS3.out.be)).mono ?_
    rintro e w4 ⟨rfl, hb⟩
    have HS4 := Aside0.mk (HS3.out.below hb)
    clear hb HS3
    have c0 := HS4.out.box.cell 0
    have c1 := HS4.out.box.cell 1
    go_wp2_with fail
    refine (words_ p g R C l _ HS4.out.blk).mono ?_
    rintro e w9 ⟨v, rfl, hR, hb⟩
    obtain ⟨Av, cv, rfl, hcv, hCv⟩ := Kd.R_reads hR
    have HV := Aside0.mk (In.mk hCv hcv)
    have HS5 := Aside0.mk (HS4.out.below hb)
    clear hb hR hcv hCv HS4 c0 c1
    go_wp2_with fail
    refine (abacistref04_Same.calls k1 Av cv l A n l _ _ HV.out.r HV.out.c (HL.out.below HS5.out.be).r HL.out.c K1.out).mono ?_
    rintro e w10 ⟨rfl, hb⟩
    have HS6 := Aside0.mk (HS5.out.drawn hb)
    clear hb HV HS5
    go_wp2
    go_ret
    exact ⟨rfl, HS6.out.be⟩
theorem good_odd (c : Int) : ¬ GoodS 3 c := by
  rintro ⟨a, b, h1, h2, h3⟩
  have h4 : (3 : Int) = ((2 ^ a : Nat) : Int) := h2.2
  rcases a with _ | a
  · simp at h4
  · rw [Nat.pow_succ] at h4
    omega
set_option maxHeartbeats 4000000 in
theorem words_none (R C : Int) (A : Option Addr) (n : Nat) (l : List Int) (r c x : Int) (w : World) (hg : ¬ (GoodS R C ∧ l.length ≤ 256 ∧ R * C = (l.length : Int))) (hT : TabOK w) :
    Calls Tryd.prog 9 #[.agg #[.int .i64 R, .int .i64 C], .slice A l.length n, .int .i64 r, .int .i64 c, .int .u64 x] w fun e w' => e = .returned (.bool true) ∧ Below w.heap.size w w' := by
  have HG := Aside0.mk hg
  have HT := Aside0.mk hT
  clear hg hT
  go_enter Tryd.func9, Tryd.ntmps9
  go_wp2_with fail
  refine (bawake_ _ (TabOK.below HT.out (below_alloc (Below.refl _ _) _))).mono ?_
  rintro e w1 ⟨rfl, hb1⟩
  have HB1 := Aside0.mk (below_then (below_alloc (Below.refl w.heap.size w) _) (below_alloc (Below.refl w.heap.size w) _).size hb1)
  have HX1 := Aside0.mk ((Bk.new w 26 [.int .i64 R, .int .i64 C]).below hb1)
  have c0 := HX1.out.cell 0
  have c1 := HX1.out.cell 1
  clear hb1
  go_wp2_with fail
  refine (made_no R C A n l _ HG.out (TabOK.below HT.out HB1.out)).mono ?_
  rintro e w2 ⟨rfl, hb⟩
  have HB2 := Aside0.mk (below_then HB1.out HB1.out.size hb)
  clear hb c0 c1
  go_wp2_with fail
  refine (new_no 3 1 _ (fun h => good_odd _ h.1) (TabOK.below HT.out HB2.out)).mono ?_
  rintro e w3 ⟨rfl, hb⟩
  have HB3 := Aside0.mk (below_then HB2.out HB2.out.size hb)
  clear hb
  go_wp2
  go_ret
  exact ⟨rfl, HB3.out⟩
theorem BlockWordsRow (R C : Int) (a1 : Option Addr) (len1 cap1 : Nat) (z1 : List Int) (r c x : Int) (w : World)
    (w1 : (a1 = none ∧ len1 = 0 ∧ cap1 = 0 ∧ z1 = []) ∨ ∃ x, a1 = some x ∧ len1 ≤ cap1 ∧ cap1 ≤ maxLen ∧ z1.length = cap1 ∧ (∀ i, i < z1.length → w.cell? (x.add i) = some (.int .u64 (z1.getD i 0))) ∧ ∀ n ∈ z1, (Lit.int .u64 n).wf = true) (hT : TabOK w) :
    Calls Tryd.prog 9 #[.agg #[.int .i64 R, .int .i64 C], .slice a1 len1 cap1, .int .i64 r, .int .i64 c, .int .u64 x] w fun e w' => e = .returned (.bool true) ∧ Below w.heap.size w w' := by
  obtain ⟨l, rfl, hl, _⟩ := In.of w1
  by_cases h1 : GoodS R C ∧ l.length ≤ 256 ∧ R * C = (l.length : Int)
  · by_cases h2 : 0 ≤ r ∧ r < R ∧ 0 ≤ c ∧ c < C
    · exact words_in R C a1 cap1 l r c x w h1.1 h1.2.2 h1.2.1 hl ⟨h2.1, h2.2.1⟩ h2.2.2 hT
    · exact words_out R C a1 cap1 l r c x w h1.1 h1.2.2 h1.2.1 hl h2 hT
  · exact words_none R C a1 cap1 l r c x w h1 hT
end Go.Proofs.YthppiphldaopnaaDoor.Obj
