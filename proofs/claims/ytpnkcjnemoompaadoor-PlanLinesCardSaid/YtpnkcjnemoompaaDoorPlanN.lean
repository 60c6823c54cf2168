import Derived.Test.YtpnkcjnemoompaaDoorPlanM
/-! Plan: a pass's line, for a pass of rows. -/
namespace Go.Proofs.YtpnkcjnemoompaaDoor.Plan
open Go.RowKit Go.Proofs.YtpnkcjnemoompaaDoor Go.Proofs.YtpnkcjnemoompaaDoor.Ext Go.Proofs.YtpnkcjnemoompaaDoor.PPlan Go.Proofs.YtpnkcjnemoompaaDoor.Pure Go.Proofs.YtpnkcjnemoompaaDoor.Obj Go.Proofs.YtpnkcjnemoompaaDoorW.PrintWords Go.Proofs.YtpnkcjnemoompaaDoorW.PrintLast Go.Proofs.YtpnkcjnemoompaaDoorW.PrintMore
set_option linter.unusedVariables false
set_option linter.unusedSimpArgs false
set_option maxRecDepth 100000

theorem info9 : (Tryd.prog.info? 9).map (fun i => (i.zero, i.size, i.bytes)) = some (some (.string ⟨#[]⟩), 1, 16) := by kernel_rfl
theorem R_of_bk {w : World} {b : Nat} {xs : List ByteArray} (h : Bk w b 9 (xs.map Value.string)) (base : Nat) (hb : base ≤ b) (hm : xs.length ≤ maxLen) : Kd.string.R 9 w base (fun _ => True) (.slice (some ⟨b, 0, none⟩) xs.length xs.length) xs :=
  Kd.R_of_own (enc := Value.string) (h1 := fun _ => rfl) ⟨by simp [encs], .inr ⟨b, xs.length, (xs.map Value.string).toArray, rfl, hb, h, Nat.le_refl _, hm, by simp, by rw [Nat.mul_one, List.take_of_length_le (by simp)]; rfl⟩⟩ (fun _ _ => trivial)
theorem jn_own (v : Value) (xs : List ByteArray) (w : World) (base : Nat) (ok : Nat → Prop) (hR : Kd.string.R 9 w base ok v xs) (h0 : 0 < xs.length) (hn2 : xs.length ≤ 1000) (hj : (Lib.join (xs.map (·.data.toList)) [32]).length ≤ 140737488355328) :
    Calls Tryd.prog 82 #[v, .string ⟨#[32]⟩] w fun e w' => e = .returned (.string (jn xs)) ∧ Below w.heap.size w w' := by
  obtain ⟨_, inner, ⟨hl, hv⟩, hr⟩ := hR
  rcases hv with ⟨_, h⟩ | ⟨g, cap, cur, rfl, hg, hh, hc, hm, hcs, ht⟩
  · omega
  · refine Lay.strings_Join g 0 cap xs ⟨#[32]⟩ w (fun j x hx => ?_) (blk_lt hh) (by unfold maxLen at hm; omega) hc hj
    have hx' := (hr.2 j x hx)
    have hsz : Kd.string.sz = 1 := rfl
    rw [hsz, Nat.mul_one] at hx'
    have hjl : j < xs.length := (List.getElem?_eq_some_iff.1 hx).1
    have hin : inner[j]? = some (.string x) := by
      have := congrArg (·[0]?) (show (inner.drop j).take 1 = [Value.string x] from hx')
      simpa [List.getElem?_take, List.getElem?_drop] using this
    rw [Nat.zero_add, blk_cell hh j, ← Array.getElem?_toList]
    rw [← ht, hsz, Nat.mul_one, List.getElem?_take, if_pos hjl] at hin
    exact hin
theorem C_str {w : World} {b : Nat} {xs : List ByteArray} (h : Bk w b 9 (xs.map Value.string)) (hm : xs.length ≤ 9223372036854775807) : Kd.C Kd.string w (some ⟨b, 0, none⟩) xs.length xs := by
  refine ⟨rfl, hm, fun _ => ⟨_, rfl, fun j p hj => ⟨[.string p], rfl, rfl, fun i u hu => ?_⟩⟩⟩
  rcases i with _ | i
  · simp only [List.getElem?_cons_zero, Option.some.injEq] at hu
    subst hu
    have hsz : Kd.string.sz = 1 := rfl
    rw [hsz, add_at]
    rw [Bk.cell h]
    simp only [Nat.mul_one, Nat.add_zero, Nat.zero_add]
    rw [List.getElem?_map, hj]
    rfl
  · simp at hu
theorem jn8 (F O : Nat) (R C d t : Int) (s : Nat) (hR : -9223372036854775808 ≤ R ∧ R ≤ 9223372036854775807) (hC : -9223372036854775808 ≤ C ∧ C ≤ 9223372036854775807) (hd : -9223372036854775808 ≤ d ∧ d ≤ 9223372036854775807) (ht : -9223372036854775808 ≤ t ∧ t ≤ 9223372036854775807) (hs : s < 18446744073709551616) :
    (Lib.join ([(⟨#[114, 111, 119, 115]⟩ : ByteArray), extw F, extw O, ita R, ita C, ita d, ita t, dig s].map (·.data.toList)) [32]).length ≤ 140737488355328 := by
  have h1 := extw_le F
  have h2 := extw_le O
  have h3 := Lib.itoa_length_le R hR.1 hR.2
  have h4 := Lib.itoa_length_le C hC.1 hC.2
  have h5 := Lib.itoa_length_le d hd.1 hd.2
  have h6 := Lib.itoa_length_le t ht.1 ht.2
  have h7 : (Lib.decDigits s).length ≤ 20 := by
    rw [Lib.decDigits_length]
    by_cases h0 : s = 0
    · subst h0; decide +kernel
    · have := Lib.numDigits_eq s (by omega) hs; split at this <;> omega
  simp [Lib.join, List.intercalate, ita, dig] at *
  omega
/-- Behind the list: what is known. -/
structure Pls (w0 w : World) (b g : Nat) (ls : List ByteArray) (R C d t s k f o : Int) : Prop where
  box : Bk w b 51 [.int .i64 R, .int .i64 C, .int .i64 d, .int .i64 t, .int .u64 s, .int .i64 k, .int .i64 f, .int .i64 o]
  be : Below w0.heap.size w0 w
  tab : TabP w
  ls : Bk w g 9 (ls.map Value.string)
  g : w0.heap.size ≤ g
theorem Pls.below {w0 w w1 : World} {b g : Nat} {ls : List ByteArray} {R C d t s k f o : Int} (h : Pls w0 w b g ls R C d t s k f o) (hb : Below w.heap.size w w1) : Pls w0 w1 b g ls R C d t s k f o := ⟨h.box.below hb, below_then h.be h.be.size hb, h.tab.below hb, h.ls.below hb, h.g⟩
theorem Pls.drew {w0 w : World} {b g : Nat} {ls : List ByteArray} {R C d t s k f o : Int} (h : Pls w0 w b g ls R C d t s k f o) : Pls w0 w.drew b g ls R C d t s k f o := h.below (below_drew1 (Below.refl _ _))
set_option maxHeartbeats 8000000 in
theorem line_rows (R C d t : Int) (s F O : Nat) (w : World) (hF : F < 4) (hO : O < 4) (hR : -9223372036854775808 ≤ R ∧ R ≤ 9223372036854775807) (hC : -9223372036854775808 ≤ C ∧ C ≤ 9223372036854775807) (hd : -9223372036854775808 ≤ d ∧ d ≤ 9223372036854775807) (ht : -9223372036854775808 ≤ t ∧ t ≤ 9223372036854775807) (hs : s < 18446744073709551616) (hT : TabP w) :
    Calls Tryd.prog 30 #[.agg #[.int .i64 R, .int .i64 C, .int .i64 d, .int .i64 t, .int .u64 s, .int .i64 2, .int .i64 F, .int .i64 O]] w fun e w' => e = .returned (.string (jn [⟨#[114, 111, 119, 115]⟩, extw F, extw O, ita R, ita C, ita d, ita t, dig s])) ∧ Below w.heap.size w w' := by
  have HP := Aside0.mk (Pl.new R C d t s 2 F O hT)
  have HT0 := Aside0.mk hT
  have HF := Aside0.mk hF
  have HO := Aside0.mk hO
  have HR := Aside0.mk hR
  have HC := Aside0.mk hC
  have HD := Aside0.mk hd
  have HTw := Aside0.mk ht
  have HS0 := Aside0.mk hs
  have hr : rightq 2 F O = true := by simp [rightq, inq]; omega
  have q1 : (0 : Int) ≤ (F : Int) := by omega
  have q2 : (F : Int) < 4 := by omega
  have q3 : (0 : Int) ≤ (O : Int) := by omega
  have q4 : (O : Int) < 4 := by omega
  clear hT hF hO hR hC hd ht hs
  go_enter Tryd.func30, Tryd.ntmps30
  go_wp2_with fail
  refine (right_calls R C d t s 2 F O _).mono ?_
  rintro e w1 ⟨rfl, hb⟩
  have HP1 := Aside0.mk (HP.out.below hb)
  clear hb HP
  rw [hr]
  clear hr
  go_wp2_with fail
  refine start_ (n := 20) (S := fun w' => w'.cell? ⟨w.heap.size, 6, none⟩ = some (.int .i64 (F : Int)) ∧ w'.cell? ⟨w.heap.size, 7, none⟩ = some (.int .i64 (O : Int)) ∧ w'.cell? ⟨w.heap.size, 0, none⟩ = some (.int .i64 R) ∧ w'.cell? ⟨w.heap.size, 1, none⟩ = some (.int .i64 C) ∧ w'.cell? ⟨0, F, none⟩ = some (.string (extw F)) ∧ w'.cell? ⟨0, O, none⟩ = some (.string (extw O)) ∧ Aside0 (Pl w w' w.heap.size R C d t s 2 F O)) (ds := []) #[false, false, false, false, false, false, false, false, false, false, false, false, false, false, false, false, false, false, false, false] (by kernel_rfl) rfl rfl ⟨HP1.out.drew.box.cell 6, HP1.out.drew.box.cell 7, HP1.out.drew.box.cell 0, HP1.out.drew.box.cell 1, HP1.out.drew.tab.ext F HF.out, HP1.out.drew.tab.ext O HO.out, ⟨HP1.out.drew⟩⟩ (fun hHeld => ?_)
  refine pure_ (i := 0) (N := some 7) (v := ?_) (a' := ?_) #[true, false, false, false, false, false, false, false, false, false, false, false, false, false, false, false, false, false, false, false] rfl rfl (by kernel_rfl) (fun _ _ _ h => h) (Or.inl ⟨by rfl, ?_⟩) ?_ ?_
  rotate_left
  · intro w'
    go_simp
    with_reducible rfl
  rotate_left
  · simp only [Act.put, List.setIfInBounds_toArray, List.set_cons_zero, List.set_cons_succ, i64_w, i32_w]
    rfl
  refine pure_ (i := 4) (N := some 11) (v := ?_) (a' := ?_) #[true, false, false, false, true, false, false, false, false, false, false, false, false, false, false, false, false, false, false, false] rfl rfl (by kernel_rfl) (fun _ _ _ h => h) (Or.inl ⟨by rfl, ?_⟩) ?_ ?_
  rotate_left
  · intro w'
    go_simp
    with_reducible rfl
  rotate_left
  · simp only [Act.put, List.setIfInBounds_toArray, List.set_cons_zero, List.set_cons_succ, i64_w, i32_w]
    rfl
  refine pure_ (i := 8) (N := some 15) (v := ?_) (a' := ?_) #[true, false, false, false, true, false, false, false, true, false, false, false, false, false, false, false, false, false, false, false] rfl rfl (by kernel_rfl) (fun _ _ _ h => h) (Or.inl ⟨by rfl, ?_⟩) ?_ ?_
  rotate_left
  · intro w'
    go_simp
    with_reducible rfl
  rotate_left
  · simp only [Act.put, List.setIfInBounds_toArray, List.set_cons_zero, List.set_cons_succ, i64_w, i32_w]
    rfl
  refine pure_ (i := 9) (N := some 16) (v := ?_) (a' := ?_) #[true, false, false, false, true, false, false, false, true, true, false, false, false, false, false, false, false, false, false, false] rfl rfl (by kernel_rfl) (fun _ _ _ h => h) (Or.inl ⟨by rfl, ?_⟩) ?_ ?_
  rotate_left
  · intro w'
    go_simp
    with_reducible rfl
  rotate_left
  · simp only [Act.put, List.setIfInBounds_toArray, List.set_cons_zero, List.set_cons_succ, i64_w, i32_w]
    rfl
  refine pure_ (i := 10) (N := some 17) (v := ?_) (a' := ?_) #[true, false, false, false, true, false, false, false, true, true, true, false, false, false, false, false, false, false, false, false] rfl rfl (by kernel_rfl) (fun _ _ _ h => h) (Or.inl ⟨by rfl, ?_⟩) ?_ ?_
  rotate_left
  · intro w'
    go_simp
    with_reducible rfl
  rotate_left
  · simp only [Act.put, List.setIfInBounds_toArray, List.set_cons_zero, List.set_cons_succ, i64_w, i32_w]
    rfl
  refine pure_ (i := 13) (N := some 20) (v := ?_) (a' := ?_) #[true, false, false, false, true, false, false, false, true, true, true, false, false, true, false, false, false, false, false, false] rfl rfl (by kernel_rfl) (fun _ _ _ h => h) (Or.inl ⟨by rfl, ?_⟩) ?_ ?_
  rotate_left
  · intro w'
    go_simp
    with_reducible rfl
  rotate_left
  · simp only [Act.put, List.setIfInBounds_toArray, List.set_cons_zero, List.set_cons_succ, i64_w, i32_w]
    rfl
  refine pure_ (i := 14) (N := some 21) (v := ?_) (a' := ?_) #[true, false, false, false, true, false, false, false, true, true, true, false, false, true, true, false, false, false, false, false] rfl rfl (by kernel_rfl) (fun _ _ _ h => h) (Or.inl ⟨by rfl, ?_⟩) ?_ ?_
  rotate_left
  · intro w'
    go_simp
    with_reducible rfl
  rotate_left
  · simp only [Act.put, List.setIfInBounds_toArray, List.set_cons_zero, List.set_cons_succ, i64_w, i32_w]
    rfl
  refine pure_ (i := 15) (N := some 22) (v := ?_) (a' := ?_) #[true, false, false, false, true, false, false, false, true, true, true, false, false, true, true, true, false, false, false, false] rfl rfl (by kernel_rfl) (fun _ _ _ h => h) (Or.inl ⟨by rfl, ?_⟩) ?_ ?_
  rotate_left
  · intro w'
    go_simp
    with_reducible rfl
  rotate_left
  · simp only [Act.put, List.setIfInBounds_toArray, List.set_cons_zero, List.set_cons_succ, i64_w, i32_w]
    rfl
  refine take_ (i := 1) (N := some 8) (v := ?_) (a' := ?_) #[true, true, false, false, true, false, false, false, true, true, true, false, false, true, true, true, false, false, false, false] rfl rfl (by kernel_rfl) (fun _ _ _ h => h) (Or.inl ⟨by rfl, ?_⟩) hHeld ?_ ?_
  rotate_left
  · rintro w' ⟨s0, s1, s2, s3, s4, s5, s6⟩
    go_simp
    with_reducible rfl
  rotate_left
  · simp only [Act.put, List.setIfInBounds_toArray, List.set_cons_zero, List.set_cons_succ, i64_w, i32_w]
    rfl
  refine pure_ (i := 2) (N := some 9) (v := ?_) (a' := ?_) #[true, true, true, false, true, false, false, false, true, true, true, false, false, true, true, true, false, false, false, false] rfl rfl (by kernel_rfl) (fun _ _ _ h => h) (Or.inl ⟨by rfl, ?_⟩) ?_ ?_
  rotate_left
  · intro w'
    go_simp
    with_reducible rfl
  rotate_left
  · simp only [Act.put, List.setIfInBounds_toArray, List.set_cons_zero, List.set_cons_succ, i64_w, i32_w]
    rfl
  refine take_ (i := 3) (N := some 10) (v := ?_) (a' := ?_) #[true, true, true, true, true, false, false, false, true, true, true, false, false, true, true, true, false, false, false, false] rfl rfl (by kernel_rfl) (fun _ _ _ h => h) (Or.inl ⟨by rfl, ?_⟩) hHeld ?_ ?_
  rotate_left
  · rintro w' ⟨s0, s1, s2, s3, s4, s5, s6⟩
    go_simp
    with_reducible rfl
  rotate_left
  · simp only [Act.put, List.setIfInBounds_toArray, List.set_cons_zero, List.set_cons_succ, i64_w, i32_w]
    rfl
  refine take_ (i := 5) (N := some 12) (v := ?_) (a' := ?_) #[true, true, true, true, true, true, false, false, true, true, true, false, false, true, true, true, false, false, false, false] rfl rfl (by kernel_rfl) (fun _ _ _ h => h) (Or.inl ⟨by rfl, ?_⟩) hHeld ?_ ?_
  rotate_left
  · rintro w' ⟨s0, s1, s2, s3, s4, s5, s6⟩
    go_simp
    with_reducible rfl
  rotate_left
  · simp only [Act.put, List.setIfInBounds_toArray, List.set_cons_zero, List.set_cons_succ, i64_w, i32_w]
    rfl
  refine pure_ (i := 6) (N := some 13) (v := ?_) (a' := ?_) #[true, true, true, true, true, true, true, false, true, true, true, false, false, true, true, true, false, false, false, false] rfl rfl (by kernel_rfl) (fun _ _ _ h => h) (Or.inl ⟨by rfl, ?_⟩) ?_ ?_
  rotate_left
  · intro w'
    go_simp
    with_reducible rfl
  rotate_left
  · simp only [Act.put, List.setIfInBounds_toArray, List.set_cons_zero, List.set_cons_succ, i64_w, i32_w]
    rfl
  refine take_ (i := 7) (N := some 14) (v := ?_) (a' := ?_) #[true, true, true, true, true, true, true, true, true, true, true, false, false, true, true, true, false, false, false, false] rfl rfl (by kernel_rfl) (fun _ _ _ h => h) (Or.inl ⟨by rfl, ?_⟩) hHeld ?_ ?_
  rotate_left
  · rintro w' ⟨s0, s1, s2, s3, s4, s5, s6⟩
    go_simp
    with_reducible rfl
  rotate_left
  · simp only [Act.put, List.setIfInBounds_toArray, List.set_cons_zero, List.set_cons_succ, i64_w, i32_w]
    rfl
  refine take_ (i := 11) (N := some 18) (v := ?_) (a' := ?_) #[true, true, true, true, true, true, true, true, true, true, true, true, false, true, true, true, false, false, false, false] rfl rfl (by kernel_rfl) (fun _ _ _ h => h) (Or.inl ⟨by rfl, ?_⟩) hHeld ?_ ?_
  rotate_left
  · rintro w' ⟨s0, s1, s2, s3, s4, s5, s6⟩
    go_simp
    with_reducible rfl
  rotate_left
  · simp only [Act.put, List.setIfInBounds_toArray, List.set_cons_zero, List.set_cons_succ, i64_w, i32_w]
    rfl
  refine take_ (i := 16) (N := some 23) (v := ?_) (a' := ?_) #[true, true, true, true, true, true, true, true, true, true, true, true, false, true, true, true, true, false, false, false] rfl rfl (by kernel_rfl) (fun _ _ _ h => h) (Or.inl ⟨by rfl, ?_⟩) hHeld ?_ ?_
  rotate_left
  · rintro w' ⟨s0, s1, s2, s3, s4, s5, s6⟩
    go_simp
    with_reducible rfl
  rotate_left
  · simp only [Act.put, List.setIfInBounds_toArray, List.set_cons_zero, List.set_cons_succ, i64_w, i32_w]
    rfl
  refine one_ (i := 12) (N := some 19) #[true, true, true, true, true, true, true, true, true, true, true, true, true, true, true, true, true, false, false, false] rfl rfl (by kernel_rfl) (by decide) (fun K hK => ?_)
  refine goes_ Tryd.func80 (by kernel_rfl) rfl #[.int .i64 R] (by rfl) rfl rfl (by simp only [List.map_toArray, List.map_cons, List.map_nil]; rfl) ?_
  with_reducible refine (itoa_calls R _ HR.out.1 HR.out.2 hHeld.2.2.2.2.2.2.out.tab).mono ?_
  rintro e w4 ⟨rfl, hb⟩
  refine ⟨_, rfl, ?_⟩
  have nS := hHeld.2.2.2.2.2.2.out.below hb
  clear hHeld hb
  refine hK.out _ _ ⟨nS.box.cell 6, nS.box.cell 7, nS.box.cell 0, nS.box.cell 1, nS.tab.ext F HF.out, nS.tab.ext O HO.out, ⟨nS⟩⟩ (fun hHeld => ?_)
  clear hK K
  refine norm_ (a' := ?_) ?_ ?_
  rotate_left
  · show Act.put _ (some 19) _ = _
    simp only [Act.put, List.setIfInBounds_toArray, List.set_cons_zero, List.set_cons_succ, i64_w, i32_w]
    rfl
  refine one_ (i := 17) (N := some 24) #[true, true, true, true, true, true, true, true, true, true, true, true, true, true, true, true, true, true, false, false] rfl rfl (by kernel_rfl) (by decide) (fun K hK => ?_)
  refine goes_ Tryd.func80 (by kernel_rfl) rfl #[.int .i64 C] (by rfl) rfl rfl (by simp only [List.map_toArray, List.map_cons, List.map_nil]; rfl) ?_
  with_reducible refine (itoa_calls C _ HC.out.1 HC.out.2 hHeld.2.2.2.2.2.2.out.tab).mono ?_
  rintro e w5 ⟨rfl, hb⟩
  refine ⟨_, rfl, ?_⟩
  have nS := hHeld.2.2.2.2.2.2.out.below hb
  clear hHeld hb
  refine hK.out _ _ ⟨nS.box.cell 6, nS.box.cell 7, nS.box.cell 0, nS.box.cell 1, nS.tab.ext F HF.out, nS.tab.ext O HO.out, ⟨nS⟩⟩ (fun hHeld => ?_)
  clear hK K
  refine norm_ (a' := ?_) ?_ ?_
  rotate_left
  · show Act.put _ (some 24) _ = _
    simp only [Act.put, List.setIfInBounds_toArray, List.set_cons_zero, List.set_cons_succ, i64_w, i32_w]
    rfl
  refine one_ (i := 18) (N := some 25) #[true, true, true, true, true, true, true, true, true, true, true, true, true, true, true, true, true, true, true, false] rfl rfl (by kernel_rfl) (by decide) (fun K hK => ?_)
  refine value_ (w1 := ?_) (v := ?_) (by rfl) rfl ?_ ?_
  rotate_left 2
  · go_simp
    constructor
    · rfl
    · rfl
  have nS := hHeld.2.2.2.2.2.2.out.below (below_alloc (Below.refl _ _) (Obj.cells #[.string ⟨#[116, 117, 114, 110]⟩, .string (extw F), .string (extw O), .string ⟨(Lib.itoa R).toArray⟩, .string ⟨(Lib.itoa C).toArray⟩] 9))
  clear hHeld
  refine hK.out _ _ ⟨nS.box.cell 6, nS.box.cell 7, nS.box.cell 0, nS.box.cell 1, nS.tab.ext F HF.out, nS.tab.ext O HO.out, ⟨nS⟩⟩ (fun hHeld => ?_)
  clear hK K
  refine norm_ (a' := ?_) ?_ ?_
  rotate_left
  · show Act.put _ (some 25) _ = _
    simp only [Act.put, List.setIfInBounds_toArray, List.set_cons_zero, List.set_cons_succ, i64_w, i32_w]
    rfl
  refine pure_ (i := 19) (N := some 3) (v := ?_) (a' := ?_) #[true, true, true, true, true, true, true, true, true, true, true, true, true, true, true, true, true, true, true, true] rfl rfl (by kernel_rfl) (fun _ _ _ h => h) (Or.inl ⟨by rfl, ?_⟩) ?_ ?_
  rotate_left
  · intro w'
    go_simp
    with_reducible rfl
  rotate_left
  · simp only [Act.put, List.setIfInBounds_toArray, List.set_cons_zero, List.set_cons_succ, i64_w, i32_w]
    rfl
  refine done_ (by kernel_rfl) ?_

  have HS := hHeld.2.2.2.2.2.2
  have HL0 : Aside0 (Bk (w5.alloc (Obj.cells #[.string ⟨#[116, 117, 114, 110]⟩, .string (extw F), .string (extw O), .string ⟨(Lib.itoa R).toArray⟩, .string ⟨(Lib.itoa C).toArray⟩] 9)) w5.heap.size 9 [.string ⟨#[116, 117, 114, 110]⟩, .string (extw F), .string (extw O), .string (ita R), .string (ita C)]) := ⟨Bk.new w5 9 [.string ⟨#[116, 117, 114, 110]⟩, .string (extw F), .string (extw O), .string (ita R), .string (ita C)]⟩
  obtain ⟨wl, hwl⟩ : ∃ wl, wl = w5.alloc (Obj.cells #[.string ⟨#[116, 117, 114, 110]⟩, .string (extw F), .string (extw O), .string ⟨(Lib.itoa R).toArray⟩, .string ⟨(Lib.itoa C).toArray⟩] 9) := ⟨_, rfl⟩
  obtain ⟨gl, hgl⟩ : ∃ gl, gl = w5.heap.size := ⟨_, rfl⟩
  have HG : Aside0 (w.heap.size ≤ gl) := ⟨by rw [hgl]; have := HS.out.box.lt; simp at this; omega⟩
  rw [← hwl, ← hgl] at HL0 ⊢
  rw [← hwl] at HS
  clear hHeld HP1 hwl hgl
  have u5 := HS.out.box.cell 5
  have l0 := HL0.out.cell 0
  have f0 := HL0.out.frozen 0
  go_wp2_with fail
  obtain ⟨wm, hwm⟩ : ∃ wm, wm = wl.setCell ⟨gl, 0, none⟩ (.string ⟨#[114, 111, 119, 115]⟩) := ⟨_, rfl⟩
  have hne : w.heap.size ≠ gl := HS.out.box.ne HL0.out (by decide)
  have hbe : Below w.heap.size w wm := by rw [hwm]; exact HS.out.be.setCell (p := ⟨gl, 0, none⟩) HG.out _
  have HM : Aside0 (Pls w wm w.heap.size gl [⟨#[114, 111, 119, 115]⟩, extw F, extw O, ita R, ita C] R C d t s 2 F O) := ⟨by rw [hwm]; exact HS.out.box.far 0 _ hne, hbe, HT0.out.below hbe, by rw [hwm]; exact HL0.out.put 0 _, HG.out⟩
  rw [← hwm]
  clear hne hbe HS HL0 hwm u5 l0 f0
  refine start_ (n := 16) (S := fun w' => w'.cell? ⟨w.heap.size, 2, none⟩ = some (.int .i64 d) ∧ w'.cell? ⟨w.heap.size, 3, none⟩ = some (.int .i64 t) ∧ w'.cell? ⟨w.heap.size, 4, none⟩ = some (.int .u64 (s : Int)) ∧ Aside0 (Pls w w' w.heap.size gl [⟨#[114, 111, 119, 115]⟩, extw F, extw O, ita R, ita C] R C d t s 2 F O)) (ds := [14]) #[false, false, false, false, false, false, false, false, false, false, false, false, false, false, false, false] (by kernel_rfl) rfl rfl ⟨HM.out.drew.box.cell 2, HM.out.drew.box.cell 3, HM.out.drew.box.cell 4, ⟨HM.out.drew⟩⟩ (fun hHeld => ?_)
  refine pure_ (i := 0) (N := some 31) (v := ?_) (a' := ?_) #[true, false, false, false, false, false, false, false, false, false, false, false, false, false, false, false] rfl rfl (by kernel_rfl) (fun _ _ _ h => h) (Or.inl ⟨by rfl, ?_⟩) ?_ ?_
  rotate_left
  · intro w'
    go_simp
    with_reducible rfl
  rotate_left
  · simp only [Act.put, List.setIfInBounds_toArray, List.set_cons_zero, List.set_cons_succ, i64_w, i32_w]
    rfl
  refine pure_ (i := 1) (N := some 32) (v := ?_) (a' := ?_) #[true, true, false, false, false, false, false, false, false, false, false, false, false, false, false, false] rfl rfl (by kernel_rfl) (fun _ _ _ h => h) (Or.inl ⟨by rfl, ?_⟩) ?_ ?_
  rotate_left
  · intro w'
    go_simp
    with_reducible rfl
  rotate_left
  · simp only [Act.put, List.setIfInBounds_toArray, List.set_cons_zero, List.set_cons_succ, i64_w, i32_w]
    rfl
  refine pure_ (i := 2) (N := some 33) (v := ?_) (a' := ?_) #[true, true, true, false, false, false, false, false, false, false, false, false, false, false, false, false] rfl rfl (by kernel_rfl) (fun _ _ _ h => h) (Or.inl ⟨by rfl, ?_⟩) ?_ ?_
  rotate_left
  · intro w'
    go_simp
    with_reducible rfl
  rotate_left
  · simp only [Act.put, List.setIfInBounds_toArray, List.set_cons_zero, List.set_cons_succ, i64_w, i32_w]
    rfl
  refine pure_ (i := 5) (N := some 36) (v := ?_) (a' := ?_) #[true, true, true, false, false, true, false, false, false, false, false, false, false, false, false, false] rfl rfl (by kernel_rfl) (fun _ _ _ h => h) (Or.inl ⟨by rfl, ?_⟩) ?_ ?_
  rotate_left
  · intro w'
    go_simp
    with_reducible rfl
  rotate_left
  · simp only [Act.put, List.setIfInBounds_toArray, List.set_cons_zero, List.set_cons_succ, i64_w, i32_w]
    rfl
  refine pure_ (i := 6) (N := some 37) (v := ?_) (a' := ?_) #[true, true, true, false, false, true, true, false, false, false, false, false, false, false, false, false] rfl rfl (by kernel_rfl) (fun _ _ _ h => h) (Or.inl ⟨by rfl, ?_⟩) ?_ ?_
  rotate_left
  · intro w'
    go_simp
    with_reducible rfl
  rotate_left
  · simp only [Act.put, List.setIfInBounds_toArray, List.set_cons_zero, List.set_cons_succ, i64_w, i32_w]
    rfl
  refine pure_ (i := 9) (N := some 40) (v := ?_) (a' := ?_) #[true, true, true, false, false, true, true, false, false, true, false, false, false, false, false, false] rfl rfl (by kernel_rfl) (fun _ _ _ h => h) (Or.inl ⟨by rfl, ?_⟩) ?_ ?_
  rotate_left
  · intro w'
    go_simp
    with_reducible rfl
  rotate_left
  · simp only [Act.put, List.setIfInBounds_toArray, List.set_cons_zero, List.set_cons_succ, i64_w, i32_w]
    rfl
  refine pure_ (i := 10) (N := some 41) (v := ?_) (a' := ?_) #[true, true, true, false, false, true, true, false, false, true, true, false, false, false, false, false] rfl rfl (by kernel_rfl) (fun _ _ _ h => h) (Or.inl ⟨by rfl, ?_⟩) ?_ ?_
  rotate_left
  · intro w'
    go_simp
    with_reducible rfl
  rotate_left
  · simp only [Act.put, List.setIfInBounds_toArray, List.set_cons_zero, List.set_cons_succ, i64_w, i32_w]
    rfl
  refine take_ (i := 3) (N := some 34) (v := ?_) (a' := ?_) #[true, true, true, true, false, true, true, false, false, true, true, false, false, false, false, false] rfl rfl (by kernel_rfl) (fun _ _ _ h => h) (Or.inl ⟨by rfl, ?_⟩) hHeld ?_ ?_
  rotate_left
  · rintro w' ⟨s0, s1, s2, s3⟩
    go_simp
    with_reducible rfl
  rotate_left
  · simp only [Act.put, List.setIfInBounds_toArray, List.set_cons_zero, List.set_cons_succ, i64_w, i32_w]
    rfl
  refine take_ (i := 7) (N := some 38) (v := ?_) (a' := ?_) #[true, true, true, true, false, true, true, true, false, true, true, false, false, false, false, false] rfl rfl (by kernel_rfl) (fun _ _ _ h => h) (Or.inl ⟨by rfl, ?_⟩) hHeld ?_ ?_
  rotate_left
  · rintro w' ⟨s0, s1, s2, s3⟩
    go_simp
    with_reducible rfl
  rotate_left
  · simp only [Act.put, List.setIfInBounds_toArray, List.set_cons_zero, List.set_cons_succ, i64_w, i32_w]
    rfl
  refine take_ (i := 11) (N := some 42) (v := ?_) (a' := ?_) #[true, true, true, true, false, true, true, true, false, true, true, true, false, false, false, false] rfl rfl (by kernel_rfl) (fun _ _ _ h => h) (Or.inl ⟨by rfl, ?_⟩) hHeld ?_ ?_
  rotate_left
  · rintro w' ⟨s0, s1, s2, s3⟩
    go_simp
    with_reducible rfl
  rotate_left
  · simp only [Act.put, List.setIfInBounds_toArray, List.set_cons_zero, List.set_cons_succ, i64_w, i32_w]
    rfl
  refine one_ (i := 4) (N := some 35) #[true, true, true, true, true, true, true, true, false, true, true, true, false, false, false, false] rfl rfl (by kernel_rfl) (by decide) (fun K hK => ?_)
  refine goes_ Tryd.func80 (by kernel_rfl) rfl #[.int .i64 d] (by rfl) rfl rfl (by simp only [List.map_toArray, List.map_cons, List.map_nil]; rfl) ?_
  with_reducible refine (itoa_calls d _ HD.out.1 HD.out.2 hHeld.2.2.2.out.tab).mono ?_
  rintro e w6 ⟨rfl, hb⟩
  refine ⟨_, rfl, ?_⟩
  have nS := hHeld.2.2.2.out.below hb
  clear hHeld hb
  refine hK.out _ _ ⟨nS.box.cell 2, nS.box.cell 3, nS.box.cell 4, ⟨nS⟩⟩ (fun hHeld => ?_)
  clear hK K
  refine norm_ (a' := ?_) ?_ ?_
  rotate_left
  · show Act.put _ (some 35) _ = _
    simp only [Act.put, List.setIfInBounds_toArray, List.set_cons_zero, List.set_cons_succ, i64_w, i32_w]
    rfl
  refine one_ (i := 8) (N := some 39) #[true, true, true, true, true, true, true, true, true, true, true, true, false, false, false, false] rfl rfl (by kernel_rfl) (by decide) (fun K hK => ?_)
  refine goes_ Tryd.func80 (by kernel_rfl) rfl #[.int .i64 t] (by rfl) rfl rfl (by simp only [List.map_toArray, List.map_cons, List.map_nil]; rfl) ?_
  with_reducible refine (itoa_calls t _ HTw.out.1 HTw.out.2 hHeld.2.2.2.out.tab).mono ?_
  rintro e w7 ⟨rfl, hb⟩
  refine ⟨_, rfl, ?_⟩
  have nS := hHeld.2.2.2.out.below hb
  clear hHeld hb
  refine hK.out _ _ ⟨nS.box.cell 2, nS.box.cell 3, nS.box.cell 4, ⟨nS⟩⟩ (fun hHeld => ?_)
  clear hK K
  refine norm_ (a' := ?_) ?_ ?_
  rotate_left
  · show Act.put _ (some 39) _ = _
    simp only [Act.put, List.setIfInBounds_toArray, List.set_cons_zero, List.set_cons_succ, i64_w, i32_w]
    rfl
  refine one_ (i := 12) (N := some 43) #[true, true, true, true, true, true, true, true, true, true, true, true, true, false, false, false] rfl rfl (by kernel_rfl) (by decide) (fun K hK => ?_)
  refine goes_ Tryd.func81 (by kernel_rfl) rfl #[.int .u64 (s : Int), .int .i64 10] (by rfl) rfl rfl (by simp only [List.map_toArray, List.map_cons, List.map_nil]; rfl) ?_
  with_reducible refine (fu_calls s HS0.out _ hHeld.2.2.2.out.tab).mono ?_
  rintro e w8 ⟨rfl, hb⟩
  refine ⟨_, rfl, ?_⟩
  have nS := hHeld.2.2.2.out.below hb
  clear hHeld hb
  refine hK.out _ _ ⟨nS.box.cell 2, nS.box.cell 3, nS.box.cell 4, ⟨nS⟩⟩ (fun hHeld => ?_)
  clear hK K
  refine norm_ (a' := ?_) ?_ ?_
  rotate_left
  · show Act.put _ (some 43) _ = _
    simp only [Act.put, List.setIfInBounds_toArray, List.set_cons_zero, List.set_cons_succ, i64_w, i32_w]
    rfl
  refine one_ (i := 13) (N := some 44) #[true, true, true, true, true, true, true, true, true, true, true, true, true, true, false, false] rfl rfl (by kernel_rfl) (by decide) (fun K hK => ?_)
  refine value_ (w1 := ?_) (v := ?_) (by rfl) rfl ?_ ?_
  rotate_left 2
  · go_simp
    constructor
    · rfl
    · rfl
  have nS := hHeld.2.2.2.out.below (below_alloc (Below.refl _ _) (Obj.cells #[.string ⟨(Lib.itoa d).toArray⟩, .string ⟨(Lib.itoa t).toArray⟩, .string (dig s)] 9))
  have HB3 : Aside0 (Bk (w8.alloc (Obj.cells #[.string ⟨(Lib.itoa d).toArray⟩, .string ⟨(Lib.itoa t).toArray⟩, .string (dig s)] 9)) w8.heap.size 9 ([ita d, ita t, dig s].map Value.string)) := ⟨Bk.new w8 9 [.string ⟨(Lib.itoa d).toArray⟩, .string ⟨(Lib.itoa t).toArray⟩, .string (dig s)]⟩
  clear hHeld
  refine hK.out _ _ ⟨nS.box.cell 2, nS.box.cell 3, nS.box.cell 4, ⟨nS⟩⟩ (fun hHeld => ?_)
  clear hK K
  refine norm_ (a' := ?_) ?_ ?_
  rotate_left
  · show Act.put _ (some 44) _ = _
    simp only [Act.put, List.setIfInBounds_toArray, List.set_cons_zero, List.set_cons_succ, i64_w, i32_w]
    rfl
  refine last_ (i := 14) (N := some 45) #[true, true, true, true, true, true, true, true, true, true, true, true, true, true, true, false] rfl rfl (by kernel_rfl) (by decide) (fun K hK => ?_)
  refine Kd.R_append_rows_step Kd.string (w0 := w) w.heap.size (by rfl) (.tmp 31) (.tmp 44) 106 9 (.string ⟨#[]⟩) 16 rfl Tryd.underlying106 info9 rfl (by decide) (by omega) (.slice (some ⟨gl, 0, none⟩) 5 5) [⟨#[114, 111, 119, 115]⟩, extw F, extw O, ita R, ita C] [ita d, ita t, dig s] (some ⟨w8.heap.size, 0, none⟩) 3 3 (fun _ => True) (fun _ => False) rfl rfl (R_of_bk hHeld.2.2.2.out.ls w.heap.size hHeld.2.2.2.out.g (by simp [maxLen])) (C_str HB3.out (by simp)) (fun _ _ h => h) (fun _ h => h.elim) (fun _ _ => trivial) hHeld.2.2.2.out.be hHeld.2.2.2.out.be.size (by simp) ?_
  intro v9 w9 hR9 hb9 hg9 hat9
  have H9 := Aside0.mk hR9
  have HB9 := Aside0.mk hb9
  clear hR9 hb9 hg9 hat9
  refine hK.out _ _ ?_
  clear hK K
  refine norm_ (a' := ?_) ?_ ?_
  rotate_left
  · show Act.put _ (some 45) _ = _
    simp only [Act.put, List.setIfInBounds_toArray, List.set_cons_zero, List.set_cons_succ, i64_w, i32_w]
    rfl
  refine pure_ (i := 15) (N := some 3) (v := ?_) (a' := ?_) #[true, true, true, true, true, true, true, true, true, true, true, true, true, true, true, true] rfl rfl (by kernel_rfl) (fun _ _ _ h => h) (Or.inl ⟨by rfl, ?_⟩) ?_ ?_
  rotate_left
  · intro w'
    go_simp
    with_reducible rfl
  rotate_left
  · simp only [Act.put, List.setIfInBounds_toArray, List.set_cons_zero, List.set_cons_succ, i64_w, i32_w]
    rfl
  refine done_ (by kernel_rfl) ?_

  clear hHeld
  go_wp2_with fail
  refine (jn_own v9 [⟨#[114, 111, 119, 115]⟩, extw F, extw O, ita R, ita C, ita d, ita t, dig s] _ w.heap.size (fun _ => True) H9.out (by simp) (by simp) (jn8 F O R C d t s HR.out HC.out HD.out HTw.out HS0.out)).mono ?_
  rintro e w10 ⟨rfl, hb⟩
  have HB10 := Aside0.mk (below_then HB9.out HB9.out.size hb)
  clear hb
  go_wp2_with fail
  go_ret
  exact ⟨rfl, HB10.out⟩
end Go.Proofs.YtpnkcjnemoompaaDoor.Plan
