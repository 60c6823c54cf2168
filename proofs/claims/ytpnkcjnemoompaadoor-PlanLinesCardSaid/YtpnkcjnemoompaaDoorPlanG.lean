import Derived.Test.YtpnkcjnemoompaaDoorPlanF
import Derived.BigQuiet
import Derived.Deep.QuietTactic
import Derived.StillTailTactics
import Derived.Outline
import Derived.Lib.ItoaLen
/-! Plan: a pass's line. -/
namespace Go.Proofs.YtpnkcjnemoompaaDoor.Plan
open Go.RowKit Go.Proofs.YtpnkcjnemoompaaDoor Go.Proofs.YtpnkcjnemoompaaDoor.Ext Go.Proofs.YtpnkcjnemoompaaDoor.PPlan Go.Proofs.YtpnkcjnemoompaaDoor.Pure Go.Proofs.YtpnkcjnemoompaaDoor.Obj Go.Proofs.YtpnkcjnemoompaaDoorW.PrintWords Go.Proofs.YtpnkcjnemoompaaDoorW.PrintLast Go.Proofs.YtpnkcjnemoompaaDoorW.PrintMore
set_option linter.unusedVariables false
set_option linter.unusedSimpArgs false
set_option maxRecDepth 100000

theorem TabP.below {w W : World} (h : TabP w) (hb : Below w.heap.size w W) : TabP W := ⟨fun j hj => pw_cell_below hb (h.ext j hj), tab_below pow_g h.pow hb (by decide), h.bits.below hb⟩
structure Pl (w0 w : World) (b : Nat) (R C d t s k f o : Int) : Prop where
  box : Bk w b 51 [.int .i64 R, .int .i64 C, .int .i64 d, .int .i64 t, .int .u64 s, .int .i64 k, .int .i64 f, .int .i64 o]
  be : Below w0.heap.size w0 w
  tab : TabP w
theorem Pl.below {w0 w w1 : World} {b : Nat} {R C d t s k f o : Int} (h : Pl w0 w b R C d t s k f o) (hb : Below w.heap.size w w1) : Pl w0 w1 b R C d t s k f o := ⟨h.box.below hb, below_then h.be h.be.size hb, h.tab.below hb⟩
theorem Pl.drew {w0 w : World} {b : Nat} {R C d t s k f o : Int} (h : Pl w0 w b R C d t s k f o) : Pl w0 w.drew b R C d t s k f o := h.below (below_drew1 (Below.refl _ _))
theorem Pl.new {w : World} (R C d t s k f o : Int) (h : TabP w) : Pl w (w.alloc (.cells #[.int .i64 R, .int .i64 C, .int .i64 d, .int .i64 t, .int .u64 s, .int .i64 k, .int .i64 f, .int .i64 o] 51)) w.heap.size R C d t s k f o :=
  ⟨Bk.new w 51 [.int .i64 R, .int .i64 C, .int .i64 d, .int .i64 t, .int .u64 s, .int .i64 k, .int .i64 f, .int .i64 o], below_alloc (Below.refl _ _) _, h.below (below_alloc (Below.refl _ _) _)⟩
set_option maxHeartbeats 4000000 in
theorem line_no (R C d t s k f o : Int) (w : World) (hr : rightq k f o = false) (hT : TabP w) : Calls Tryd.prog 30 #[.agg #[.int .i64 R, .int .i64 C, .int .i64 d, .int .i64 t, .int .u64 s, .int .i64 k, .int .i64 f, .int .i64 o]] w fun e w' => e = .returned (.string ⟨#[]⟩) ∧ Below w.heap.size w w' := by
  have HP := Aside0.mk (Pl.new R C d t s k f o hT)
  clear hT
  go_enter Tryd.func30, Tryd.ntmps30
  go_wp2_with fail
  refine (right_calls R C d t s k f o _).mono ?_
  rintro e w1 ⟨rfl, hb⟩
  have HP1 := Aside0.mk (HP.out.below hb)
  clear hb HP
  rw [hr]
  go_wp2_with fail
  go_ret
  exact ⟨rfl, HP1.out.be⟩
def jn (xs : List ByteArray) : ByteArray := ⟨(Lib.join (xs.map (·.data.toList)) [32]).toArray⟩
theorem jn_calls (b n : Nat) (xs : List ByteArray) (w : World) (hB : Bk w b 9 (xs.map Value.string)) (hn : xs.length = n) (hj : (Lib.join (xs.map (·.data.toList)) [32]).length ≤ 140737488355328) (hn2 : n ≤ 1000) :
    Calls Tryd.prog 82 #[.slice (some ⟨b, 0, none⟩) n n, .string ⟨#[32]⟩] w fun e w' => e = .returned (.string (jn xs)) ∧ Below w.heap.size w w' := by
  subst hn
  refine Lay.strings_Join b 0 xs.length xs ⟨#[32]⟩ w (fun j x hx => ?_) hB.lt (by omega) (Nat.le_refl _) hj
  rw [Nat.zero_add, hB.cell j, List.getElem?_map, hx]
  rfl
def ita (n : Int) : ByteArray := ⟨(Lib.itoa n).toArray⟩
theorem extw_le (n : Nat) : (extw n).data.toList.length ≤ 6 := by unfold extw; split <;> (try split) <;> (try split) <;> simp
theorem jn5 (F O : Nat) (R C : Int) (hR : -9223372036854775808 ≤ R ∧ R ≤ 9223372036854775807) (hC : -9223372036854775808 ≤ C ∧ C ≤ 9223372036854775807) : (Lib.join ([(⟨#[116, 117, 114, 110]⟩ : ByteArray), extw F, extw O, ita R, ita C].map (·.data.toList)) [32]).length ≤ 140737488355328 := by
  have h1 := extw_le F
  have h2 := extw_le O
  have h3 := Lib.itoa_length_le R hR.1 hR.2
  have h4 := Lib.itoa_length_le C hC.1 hC.2
  simp [Lib.join, List.intercalate, ita] at *
  omega
set_option maxHeartbeats 4000000 in
theorem line_turn (R C d t s : Int) (F O : Nat) (w : World) (hF : F < 4) (hO : O < 4) (hR : -9223372036854775808 ≤ R ∧ R ≤ 9223372036854775807) (hC : -9223372036854775808 ≤ C ∧ C ≤ 9223372036854775807) (hT : TabP w) :
    Calls Tryd.prog 30 #[.agg #[.int .i64 R, .int .i64 C, .int .i64 d, .int .i64 t, .int .u64 s, .int .i64 1, .int .i64 F, .int .i64 O]] w fun e w' => e = .returned (.string (jn [⟨#[116, 117, 114, 110]⟩, extw F, extw O, ita R, ita C])) ∧ Below w.heap.size w w' := by
  have HP := Aside0.mk (Pl.new R C d t s 1 F O hT)
  have HF := Aside0.mk hF
  have HO := Aside0.mk hO
  have HR := Aside0.mk hR
  have HC := Aside0.mk hC
  have hr : rightq 1 F O = true := by simp [rightq, inq]; omega
  have q1 : (0 : Int) ≤ (F : Int) := by omega
  have q2 : (F : Int) < 4 := by omega
  have q3 : (0 : Int) ≤ (O : Int) := by omega
  have q4 : (O : Int) < 4 := by omega
  clear hT hF hO hR hC
  go_enter Tryd.func30, Tryd.ntmps30
  go_wp2_with fail
  refine (right_calls R C d t s 1 F O _).mono ?_
  rintro e w1 ⟨rfl, hb⟩
  have HP1 := Aside0.mk (HP.out.below hb)
  clear hb HP
  rw [hr]
  clear hr
  go_wp2_with fail
  refine start_ (n := 20) (S := fun w' => w'.cell? ⟨w.heap.size, 6, none⟩ = some (.int .i64 (F : Int)) ∧ w'.cell? ⟨w.heap.size, 7, none⟩ = some (.int .i64 (O : Int)) ∧ w'.cell? ⟨w.heap.size, 0, none⟩ = some (.int .i64 R) ∧ w'.cell? ⟨w.heap.size, 1, none⟩ = some (.int .i64 C) ∧ w'.cell? ⟨0, F, none⟩ = some (.string (extw F)) ∧ w'.cell? ⟨0, O, none⟩ = some (.string (extw O)) ∧ Aside0 (Pl w w' w.heap.size R C d t s 1 F O)) (ds := []) #[false, false, false, false, false, false, false, false, false, false, false, false, false, false, false, false, false, false, false, false] (by kernel_rfl) rfl rfl ⟨HP1.out.drew.box.cell 6, HP1.out.drew.box.cell 7, HP1.out.drew.box.cell 0, HP1.out.drew.box.cell 1, HP1.out.drew.tab.ext F HF.out, HP1.out.drew.tab.ext O HO.out, ⟨HP1.out.drew⟩⟩ (fun hHeld => ?_)
  refine pure_ (i := 0) (N := some 7) (v := ?_) (a' := ?_) #[true, false, false, false, false, false, false, false, false, false, false, false, false, false, false, false, false, false, false, false] rfl rfl (by kernel_rfl) (fun _ _ _ h => h) (Or.inl ⟨by rfl, ?_⟩) ?_ ?_
  rotate_left
  · intro w'
    go_simp
    with_reducible rfl
  rotate_left
  · simp only [Act.put, List.setIfInBounds_toArray, List.set_cons_zero, List.set_cons_succ, i64_w, i32_w]
    rfl
  refine pure_ (i := 4) (N := some 11) (v := ?_) (a' := ?_) #[true, false, false, false, true, false, false, false, false, false, false, false, false, false, false, false, false, false, false, false] rfl rfl (by kernel_rfl) (fun _ _ _ h => h) (Or.inl ⟨by rfl, ?_⟩) ?_ ?_
  rotate_left
  · intro w'
    go_simp
    with_reducible rfl
  rotate_left
  · simp only [Act.put, List.setIfInBounds_toArray, List.set_cons_zero, List.set_cons_succ, i64_w, i32_w]
    rfl
  refine pure_ (i := 8) (N := some 15) (v := ?_) (a' := ?_) #[true, false, false, false, true, false, false, false, true, false, false, false, false, false, false, false, false, false, false, false] rfl rfl (by kernel_rfl) (fun _ _ _ h => h) (Or.inl ⟨by rfl, ?_⟩) ?_ ?_
  rotate_left
  · intro w'
    go_simp
    with_reducible rfl
  rotate_left
  · simp only [Act.put, List.setIfInBounds_toArray, List.set_cons_zero, List.set_cons_succ, i64_w, i32_w]
    rfl
  refine pure_ (i := 9) (N := some 16) (v := ?_) (a' := ?_) #[true, false, false, false, true, false, false, false, true, true, false, false, false, false, false, false, false, false, false, false] rfl rfl (by kernel_rfl) (fun _ _ _ h => h) (Or.inl ⟨by rfl, ?_⟩) ?_ ?_
  rotate_left
  · intro w'
    go_simp
    with_reducible rfl
  rotate_left
  · simp only [Act.put, List.setIfInBounds_toArray, List.set_cons_zero, List.set_cons_succ, i64_w, i32_w]
    rfl
  refine pure_ (i := 10) (N := some 17) (v := ?_) (a' := ?_) #[true, false, false, false, true, false, false, false, true, true, true, false, false, false, false, false, false, false, false, false] rfl rfl (by kernel_rfl) (fun _ _ _ h => h) (Or.inl ⟨by rfl, ?_⟩) ?_ ?_
  rotate_left
  · intro w'
    go_simp
    with_reducible rfl
  rotate_left
  · simp only [Act.put, List.setIfInBounds_toArray, List.set_cons_zero, List.set_cons_succ, i64_w, i32_w]
    rfl
  refine pure_ (i := 13) (N := some 20) (v := ?_) (a' := ?_) #[true, false, false, false, true, false, false, false, true, true, true, false, false, true, false, false, false, false, false, false] rfl rfl (by kernel_rfl) (fun _ _ _ h => h) (Or.inl ⟨by rfl, ?_⟩) ?_ ?_
  rotate_left
  · intro w'
    go_simp
    with_reducible rfl
  rotate_left
  · simp only [Act.put, List.setIfInBounds_toArray, List.set_cons_zero, List.set_cons_succ, i64_w, i32_w]
    rfl
  refine pure_ (i := 14) (N := some 21) (v := ?_) (a' := ?_) #[true, false, false, false, true, false, false, false, true, true, true, false, false, true, true, false, false, false, false, false] rfl rfl (by kernel_rfl) (fun _ _ _ h => h) (Or.inl ⟨by rfl, ?_⟩) ?_ ?_
  rotate_left
  · intro w'
    go_simp
    with_reducible rfl
  rotate_left
  · simp only [Act.put, List.setIfInBounds_toArray, List.set_cons_zero, List.set_cons_succ, i64_w, i32_w]
    rfl
  refine pure_ (i := 15) (N := some 22) (v := ?_) (a' := ?_) #[true, false, false, false, true, false, false, false, true, true, true, false, false, true, true, true, false, false, false, false] rfl rfl (by kernel_rfl) (fun _ _ _ h => h) (Or.inl ⟨by rfl, ?_⟩) ?_ ?_
  rotate_left
  · intro w'
    go_simp
    with_reducible rfl
  rotate_left
  · simp only [Act.put, List.setIfInBounds_toArray, List.set_cons_zero, List.set_cons_succ, i64_w, i32_w]
    rfl
  refine take_ (i := 1) (N := some 8) (v := ?_) (a' := ?_) #[true, true, false, false, true, false, false, false, true, true, true, false, false, true, true, true, false, false, false, false] rfl rfl (by kernel_rfl) (fun _ _ _ h => h) (Or.inl ⟨by rfl, ?_⟩) hHeld ?_ ?_
  rotate_left
  · rintro w' ⟨s0, s1, s2, s3, s4, s5, s6⟩
    go_simp
    with_reducible rfl
  rotate_left
  · simp only [Act.put, List.setIfInBounds_toArray, List.set_cons_zero, List.set_cons_succ, i64_w, i32_w]
    rfl
  refine pure_ (i := 2) (N := some 9) (v := ?_) (a' := ?_) #[true, true, true, false, true, false, false, false, true, true, true, false, false, true, true, true, false, false, false, false] rfl rfl (by kernel_rfl) (fun _ _ _ h => h) (Or.inl ⟨by rfl, ?_⟩) ?_ ?_
  rotate_left
  · intro w'
    go_simp
    with_reducible rfl
  rotate_left
  · simp only [Act.put, List.setIfInBounds_toArray, List.set_cons_zero, List.set_cons_succ, i64_w, i32_w]
    rfl
  refine take_ (i := 3) (N := some 10) (v := ?_) (a' := ?_) #[true, true, true, true, true, false, false, false, true, true, true, false, false, true, true, true, false, false, false, false] rfl rfl (by kernel_rfl) (fun _ _ _ h => h) (Or.inl ⟨by rfl, ?_⟩) hHeld ?_ ?_
  rotate_left
  · rintro w' ⟨s0, s1, s2, s3, s4, s5, s6⟩
    go_simp
    with_reducible rfl
  rotate_left
  · simp only [Act.put, List.setIfInBounds_toArray, List.set_cons_zero, List.set_cons_succ, i64_w, i32_w]
    rfl
  refine take_ (i := 5) (N := some 12) (v := ?_) (a' := ?_) #[true, true, true, true, true, true, false, false, true, true, true, false, false, true, true, true, false, false, false, false] rfl rfl (by kernel_rfl) (fun _ _ _ h => h) (Or.inl ⟨by rfl, ?_⟩) hHeld ?_ ?_
  rotate_left
  · rintro w' ⟨s0, s1, s2, s3, s4, s5, s6⟩
    go_simp
    with_reducible rfl
  rotate_left
  · simp only [Act.put, List.setIfInBounds_toArray, List.set_cons_zero, List.set_cons_succ, i64_w, i32_w]
    rfl
  refine pure_ (i := 6) (N := some 13) (v := ?_) (a' := ?_) #[true, true, true, true, true, true, true, false, true, true, true, false, false, true, true, true, false, false, false, false] rfl rfl (by kernel_rfl) (fun _ _ _ h => h) (Or.inl ⟨by rfl, ?_⟩) ?_ ?_
  rotate_left
  · intro w'
    go_simp
    with_reducible rfl
  rotate_left
  · simp only [Act.put, List.setIfInBounds_toArray, List.set_cons_zero, List.set_cons_succ, i64_w, i32_w]
    rfl
  refine take_ (i := 7) (N := some 14) (v := ?_) (a' := ?_) #[true, true, true, true, true, true, true, true, true, true, true, false, false, true, true, true, false, false, false, false] rfl rfl (by kernel_rfl) (fun _ _ _ h => h) (Or.inl ⟨by rfl, ?_⟩) hHeld ?_ ?_
  rotate_left
  · rintro w' ⟨s0, s1, s2, s3, s4, s5, s6⟩
    go_simp
    with_reducible rfl
  rotate_left
  · simp only [Act.put, List.setIfInBounds_toArray, List.set_cons_zero, List.set_cons_succ, i64_w, i32_w]
    rfl
  refine take_ (i := 11) (N := some 18) (v := ?_) (a' := ?_) #[true, true, true, true, true, true, true, true, true, true, true, true, false, true, true, true, false, false, false, false] rfl rfl (by kernel_rfl) (fun _ _ _ h => h) (Or.inl ⟨by rfl, ?_⟩) hHeld ?_ ?_
  rotate_left
  · rintro w' ⟨s0, s1, s2, s3, s4, s5, s6⟩
    go_simp
    with_reducible rfl
  rotate_left
  · simp only [Act.put, List.setIfInBounds_toArray, List.set_cons_zero, List.set_cons_succ, i64_w, i32_w]
    rfl
  refine take_ (i := 16) (N := some 23) (v := ?_) (a' := ?_) #[true, true, true, true, true, true, true, true, true, true, true, true, false, true, true, true, true, false, false, false] rfl rfl (by kernel_rfl) (fun _ _ _ h => h) (Or.inl ⟨by rfl, ?_⟩) hHeld ?_ ?_
  rotate_left
  · rintro w' ⟨s0, s1, s2, s3, s4, s5, s6⟩
    go_simp
    with_reducible rfl
  rotate_left
  · simp only [Act.put, List.setIfInBounds_toArray, List.set_cons_zero, List.set_cons_succ, i64_w, i32_w]
    rfl
  refine one_ (i := 12) (N := some 19) #[true, true, true, true, true, true, true, true, true, true, true, true, true, true, true, true, true, false, false, false] rfl rfl (by kernel_rfl) (by decide) (fun K hK => ?_)
  refine goes_ Tryd.func80 (by kernel_rfl) rfl #[.int .i64 R] (by rfl) rfl rfl (by simp only [List.map_toArray, List.map_cons, List.map_nil]; rfl) ?_
  with_reducible refine (itoa_calls R _ HR.out.1 HR.out.2 hHeld.2.2.2.2.2.2.out.tab).mono ?_
  rintro e w4 ⟨rfl, hb⟩
  refine ⟨_, rfl, ?_⟩
  have nS := hHeld.2.2.2.2.2.2.out.below hb
  clear hHeld hb
  refine hK.out _ _ ⟨nS.box.cell 6, nS.box.cell 7, nS.box.cell 0, nS.box.cell 1, nS.tab.ext F HF.out, nS.tab.ext O HO.out, ⟨nS⟩⟩ (fun hHeld => ?_)
  clear hK K
  refine norm_ (a' := ?_) ?_ ?_
  rotate_left
  · show Act.put _ (some 19) _ = _
    simp only [Act.put, List.setIfInBounds_toArray, List.set_cons_zero, List.set_cons_succ, i64_w, i32_w]
    rfl
  refine one_ (i := 17) (N := some 24) #[true, true, true, true, true, true, true, true, true, true, true, true, true, true, true, true, true, true, false, false] rfl rfl (by kernel_rfl) (by decide) (fun K hK => ?_)
  refine goes_ Tryd.func80 (by kernel_rfl) rfl #[.int .i64 C] (by rfl) rfl rfl (by simp only [List.map_toArray, List.map_cons, List.map_nil]; rfl) ?_
  with_reducible refine (itoa_calls C _ HC.out.1 HC.out.2 hHeld.2.2.2.2.2.2.out.tab).mono ?_
  rintro e w5 ⟨rfl, hb⟩
  refine ⟨_, rfl, ?_⟩
  have nS := hHeld.2.2.2.2.2.2.out.below hb
  clear hHeld hb
  refine hK.out _ _ ⟨nS.box.cell 6, nS.box.cell 7, nS.box.cell 0, nS.box.cell 1, nS.tab.ext F HF.out, nS.tab.ext O HO.out, ⟨nS⟩⟩ (fun hHeld => ?_)
  clear hK K
  refine norm_ (a' := ?_) ?_ ?_
  rotate_left
  · show Act.put _ (some 24) _ = _
    simp only [Act.put, List.setIfInBounds_toArray, List.set_cons_zero, List.set_cons_succ, i64_w, i32_w]
    rfl
  refine one_ (i := 18) (N := some 25) #[true, true, true, true, true, true, true, true, true, true, true, true, true, true, true, true, true, true, true, false] rfl rfl (by kernel_rfl) (by decide) (fun K hK => ?_)
  refine value_ (w1 := ?_) (v := ?_) (by rfl) rfl ?_ ?_
  rotate_left 2
  · go_simp
    constructor
    · rfl
    · rfl
  have nS := hHeld.2.2.2.2.2.2.out.below (below_alloc (Below.refl _ _) (Obj.cells #[.string ⟨#[116, 117, 114, 110]⟩, .string (extw F), .string (extw O), .string ⟨(Lib.itoa R).toArray⟩, .string ⟨(Lib.itoa C).toArray⟩] 9))
  clear hHeld
  refine hK.out _ _ ⟨nS.box.cell 6, nS.box.cell 7, nS.box.cell 0, nS.box.cell 1, nS.tab.ext F HF.out, nS.tab.ext O HO.out, ⟨nS⟩⟩ (fun hHeld => ?_)
  clear hK K
  refine norm_ (a' := ?_) ?_ ?_
  rotate_left
  · show Act.put _ (some 25) _ = _
    simp only [Act.put, List.setIfInBounds_toArray, List.set_cons_zero, List.set_cons_succ, i64_w, i32_w]
    rfl
  refine pure_ (i := 19) (N := some 3) (v := ?_) (a' := ?_) #[true, true, true, true, true, true, true, true, true, true, true, true, true, true, true, true, true, true, true, true] rfl rfl (by kernel_rfl) (fun _ _ _ h => h) (Or.inl ⟨by rfl, ?_⟩) ?_ ?_
  rotate_left
  · intro w'
    go_simp
    with_reducible rfl
  rotate_left
  · simp only [Act.put, List.setIfInBounds_toArray, List.set_cons_zero, List.set_cons_succ, i64_w, i32_w]
    rfl
  refine done_ (by kernel_rfl) ?_

  have HS := hHeld.2.2.2.2.2.2
  have HL : Aside0 (Bk (w5.alloc (Obj.cells #[.string ⟨#[116, 117, 114, 110]⟩, .string (extw F), .string (extw O), .string ⟨(Lib.itoa R).toArray⟩, .string ⟨(Lib.itoa C).toArray⟩] 9)) w5.heap.size 9 [.string ⟨#[116, 117, 114, 110]⟩, .string (extw F), .string (extw O), .string (ita R), .string (ita C)]) := ⟨Bk.new w5 9 [.string ⟨#[116, 117, 114, 110]⟩, .string (extw F), .string (extw O), .string (ita R), .string (ita C)]⟩
  clear hHeld HP1
  have u5 := HS.out.box.cell 5
  go_wp2_with fail
  clear u5
  refine (jn_calls w5.heap.size 5 [⟨#[116, 117, 114, 110]⟩, extw F, extw O, ita R, ita C] _ HL.out rfl (jn5 F O R C HR.out HC.out) (by decide)).mono ?_
  rintro e w6 ⟨rfl, hb⟩
  have HS6 := HS.out.below hb
  clear hb HS HL
  go_wp2_with fail
  go_ret
  exact ⟨rfl, HS6.be⟩
end Go.Proofs.YtpnkcjnemoompaaDoor.Plan
