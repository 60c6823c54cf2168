-- Written by a program (wip/myprint) out of the translation; Lean checks it.
import Derived.Test.YthppiphldaopnaaDoorPRevx0
import Derived.Test.YthppiphldaopnaaDoorPRevx1
namespace Go.Proofs.YthppiphldaopnaaDoor.PRev
open Go.RowKit Go.Proofs.YthppiphldaopnaaDoor.Ext Go.Proofs.YthppiphldaopnaaDoor.PRevA Go.Proofs.YthppiphldaopnaaDoorW.PrintWords Go.Proofs.YthppiphldaopnaaDoorW.PrintLast Go.Proofs.YthppiphldaopnaaDoorW.PrintMore
attribute [local go_sem] max2_int min2_int max_two min_two max_three min_three max_four min_four   -- for this text's walks alone
set_option linter.unusedVariables false
set_option linter.unusedSimpArgs false

/-! ### abacistlaw05_RevHalves: function 8 -/
mutual
def abacistlaw05_RevHalves.j0 : Nat → List Int → List Int → Bool → Option (Bool)
  | 0, _, _, _ => none
  | k + 1, x0, x1, x28 => if x28 = true then (some true) else ((rev_Even.f k x0).bind fun bt126 => ((rev_Weave.f k bt126.1 bt126.2).bind fun bt132 => (if bt132.2 = 0 then ((abacistref04_Same.f k bt132.1 x0).bind fun t136 => (if t136 = true then (abacistlaw05_RevHalves.j1 k x0 x1 bt126.1 bt126.2 ((wrap64 ((bt126.1.length : Int) - (bt126.2.length : Int))) != ((x0.length : Int) % 2))) else (abacistlaw05_RevHalves.j1 k x0 x1 bt126.1 bt126.2 true))) else (abacistlaw05_RevHalves.j1 k x0 x1 bt126.1 bt126.2 true))))
def abacistlaw05_RevHalves.j1 : Nat → List Int → List Int → List Int → List Int → Bool → Option (Bool)
  | 0, _, _, _, _, _ => none
  | k + 1, x0, x1, x5, x6, x58 => if x58 = true then (some false) else ((rev_Weave.f k x0 x1).bind fun bt137 => (if (x0.length : Int) < (x1.length : Int) then (abacistlaw05_RevHalves.j2 k x0 x1 x5 x6 bt137.1 bt137.2 true) else (abacistlaw05_RevHalves.j2 k x0 x1 x5 x6 bt137.1 bt137.2 (decide ((wrap64 ((x0.length : Int) - (x1.length : Int))) > 1)))))
def abacistlaw05_RevHalves.j2 : Nat → List Int → List Int → List Int → List Int → List Int → Int → Bool → Option (Bool)
  | 0, _, _, _, _, _, _, _ => none
  | k + 1, x0, x1, x5, x6, x9, x10, x77 => if x77 = true then (if x10 = 19 then (if (x9.length : Int) = 0 then (abacistlaw05_RevHalves.j3 k x0 x5 x6) else (some false)) else (some false)) else ((rev_Even.f k x9).bind fun bt141 => (if x10 = 0 then ((abacistref04_Same.f k bt141.1 x0).bind fun t147 => (if t147 = true then ((abacistref04_Same.f k bt141.2 x1).bind fun t148 => (if t148 = true then (abacistlaw05_RevHalves.j3 k x0 x5 x6) else (some false))) else (some false))) else (some false)))
def abacistlaw05_RevHalves.j3 : Nat → List Int → List Int → List Int → Option (Bool)
  | 0, _, _, _ => none
  | k + 1, x0, x5, x6 => (rev_Turn.f x0).bind fun bt149 => (if bt149.2 = 0 then (abacistlaw05_RevHalves.j4 k x5 x6 bt149.1 (decide ((x0.length : Int) < 2))) else (abacistlaw05_RevHalves.j4 k x5 x6 bt149.1 true))
def abacistlaw05_RevHalves.j4 : Nat → List Int → List Int → List Int → Bool → Option (Bool)
  | 0, _, _, _, _ => none
  | k + 1, x5, x6, x13, x115 => if x115 = true then (some true) else ((rev_Turn.f x5).bind fun bt153 => ((rev_Turn.f x6).bind fun bt157 => (if bt153.2 = 0 then (if bt157.2 = 0 then ((some (([] : List Int) : List Int)).bind fun y161 => (if y161.length + bt153.1.length < 17592186044416 then ((some (y161 ++ bt153.1 : List Int)).bind fun y164 => (if y164.length + bt157.1.length < 17592186044416 then ((abacistref04_Same.f k x13 (y164 ++ bt157.1)).bind fun t170 => (some t170)) else (none))) else (none))) else (some false)) else (some false))))
end
def abacistlaw05_RevHalves.f (k : Nat) (l0 : List Int) (l1 : List Int) : Option (Bool) := (abacistlaw05_awake.f).bind fun t125 => (if t125 = true then (if (l0.length : Int) > 256 then (abacistlaw05_RevHalves.j0 k l0 l1 true) else (abacistlaw05_RevHalves.j0 k l0 l1 (decide ((l1.length : Int) > 256)))) else (some false))
theorem abacistlaw05_RevHalves.mono_l : ∀ k, (∀ y0 y1 y2, LeO (abacistlaw05_RevHalves.j0 k y0 y1 y2) (abacistlaw05_RevHalves.j0 (k + 1) y0 y1 y2)) ∧ (∀ y0 y1 y2 y3 y4, LeO (abacistlaw05_RevHalves.j1 k y0 y1 y2 y3 y4) (abacistlaw05_RevHalves.j1 (k + 1) y0 y1 y2 y3 y4)) ∧ (∀ y0 y1 y2 y3 y4 y5 y6, LeO (abacistlaw05_RevHalves.j2 k y0 y1 y2 y3 y4 y5 y6) (abacistlaw05_RevHalves.j2 (k + 1) y0 y1 y2 y3 y4 y5 y6)) ∧ (∀ y0 y1 y2, LeO (abacistlaw05_RevHalves.j3 k y0 y1 y2) (abacistlaw05_RevHalves.j3 (k + 1) y0 y1 y2)) ∧ (∀ y0 y1 y2 y3, LeO (abacistlaw05_RevHalves.j4 k y0 y1 y2 y3) (abacistlaw05_RevHalves.j4 (k + 1) y0 y1 y2 y3))
  | 0 => ⟨fun _ _ _ r h => by simp [abacistlaw05_RevHalves.j0] at h, fun _ _ _ _ _ r h => by simp [abacistlaw05_RevHalves.j1] at h, fun _ _ _ _ _ _ _ r h => by simp [abacistlaw05_RevHalves.j2] at h, fun _ _ _ r h => by simp [abacistlaw05_RevHalves.j3] at h, fun _ _ _ _ r h => by simp [abacistlaw05_RevHalves.j4] at h⟩
  | k + 1 => by
    obtain ⟨ih0, ih1, ih2, ih3, ih4⟩ := abacistlaw05_RevHalves.mono_l k
    refine ⟨?_, ?_, ?_, ?_, ?_⟩
    · intro y0 y1 y2
      unfold abacistlaw05_RevHalves.j0
      repeat' first
      | (with_reducible exact ih0 _ _ _)
      | (with_reducible exact ih1 _ _ _ _ _)
      | (with_reducible exact ih2 _ _ _ _ _ _ _)
      | (with_reducible exact ih3 _ _ _)
      | (with_reducible exact ih4 _ _ _ _)
      | (with_reducible exact abacistref04_Same.mono _ _ _)
      | (with_reducible exact rev_Even.mono _ _)
      | (with_reducible exact rev_Weave.mono _ _ _)
      | (with_reducible exact LeO.refl _)
      | (with_reducible exact LeO.none _)
      | (with_reducible refine LeO.ite ?_ ?_)
      | (with_reducible refine LeO.bind ?_ (fun _ => ?_))
      | exact ih0 _ _ _
      | exact ih1 _ _ _ _ _
      | exact ih2 _ _ _ _ _ _ _
      | exact ih3 _ _ _
      | exact ih4 _ _ _ _
      | exact abacistref04_Same.mono _ _ _
      | exact rev_Even.mono _ _
      | exact rev_Weave.mono _ _ _
      | exact LeO.none _
      | refine LeO.ite ?_ ?_
      | refine LeO.bind ?_ (fun _ => ?_)
    · intro y0 y1 y2 y3 y4
      unfold abacistlaw05_RevHalves.j1
      repeat' first
      | (with_reducible exact ih0 _ _ _)
      | (with_reducible exact ih1 _ _ _ _ _)
      | (with_reducible exact ih2 _ _ _ _ _ _ _)
      | (with_reducible exact ih3 _ _ _)
      | (with_reducible exact ih4 _ _ _ _)
      | (with_reducible exact abacistref04_Same.mono _ _ _)
      | (with_reducible exact rev_Even.mono _ _)
      | (with_reducible exact rev_Weave.mono _ _ _)
      | (with_reducible exact LeO.refl _)
      | (with_reducible exact LeO.none _)
      | (with_reducible refine LeO.ite ?_ ?_)
      | (with_reducible refine LeO.bind ?_ (fun _ => ?_))
      | exact ih0 _ _ _
      | exact ih1 _ _ _ _ _
      | exact ih2 _ _ _ _ _ _ _
      | exact ih3 _ _ _
      | exact ih4 _ _ _ _
      | exact abacistref04_Same.mono _ _ _
      | exact rev_Even.mono _ _
      | exact rev_Weave.mono _ _ _
      | exact LeO.none _
      | refine LeO.ite ?_ ?_
      | refine LeO.bind ?_ (fun _ => ?_)
    · intro y0 y1 y2 y3 y4 y5 y6
      unfold abacistlaw05_RevHalves.j2
      repeat' first
      | (with_reducible exact ih0 _ _ _)
      | (with_reducible exact ih1 _ _ _ _ _)
      | (with_reducible exact ih2 _ _ _ _ _ _ _)
      | (with_reducible exact ih3 _ _ _)
      | (with_reducible exact ih4 _ _ _ _)
      | (with_reducible exact abacistref04_Same.mono _ _ _)
      | (with_reducible exact rev_Even.mono _ _)
      | (with_reducible exact rev_Weave.mono _ _ _)
      | (with_reducible exact LeO.refl _)
      | (with_reducible exact LeO.none _)
      | (with_reducible refine LeO.ite ?_ ?_)
      | (with_reducible refine LeO.bind ?_ (fun _ => ?_))
      | exact ih0 _ _ _
      | exact ih1 _ _ _ _ _
      | exact ih2 _ _ _ _ _ _ _
      | exact ih3 _ _ _
      | exact ih4 _ _ _ _
      | exact abacistref04_Same.mono _ _ _
      | exact rev_Even.mono _ _
      | exact rev_Weave.mono _ _ _
      | exact LeO.none _
      | refine LeO.ite ?_ ?_
      | refine LeO.bind ?_ (fun _ => ?_)
    · intro y0 y1 y2
      unfold abacistlaw05_RevHalves.j3
      repeat' first
      | (with_reducible exact ih0 _ _ _)
      | (with_reducible exact ih1 _ _ _ _ _)
      | (with_reducible exact ih2 _ _ _ _ _ _ _)
      | (with_reducible exact ih3 _ _ _)
      | (with_reducible exact ih4 _ _ _ _)
      | (with_reducible exact abacistref04_Same.mono _ _ _)
      | (with_reducible exact rev_Even.mono _ _)
      | (with_reducible exact rev_Weave.mono _ _ _)
      | (with_reducible exact LeO.refl _)
      | (with_reducible exact LeO.none _)
      | (with_reducible refine LeO.ite ?_ ?_)
      | (with_reducible refine LeO.bind ?_ (fun _ => ?_))
      | exact ih0 _ _ _
      | exact ih1 _ _ _ _ _
      | exact ih2 _ _ _ _ _ _ _
      | exact ih3 _ _ _
      | exact ih4 _ _ _ _
      | exact abacistref04_Same.mono _ _ _
      | exact rev_Even.mono _ _
      | exact rev_Weave.mono _ _ _
      | exact LeO.none _
      | refine LeO.ite ?_ ?_
      | refine LeO.bind ?_ (fun _ => ?_)
    · intro y0 y1 y2 y3
      unfold abacistlaw05_RevHalves.j4
      repeat' first
      | (with_reducible exact ih0 _ _ _)
      | (with_reducible exact ih1 _ _ _ _ _)
      | (with_reducible exact ih2 _ _ _ _ _ _ _)
      | (with_reducible exact ih3 _ _ _)
      | (with_reducible exact ih4 _ _ _ _)
      | (with_reducible exact abacistref04_Same.mono _ _ _)
      | (with_reducible exact rev_Even.mono _ _)
      | (with_reducible exact rev_Weave.mono _ _ _)
      | (with_reducible exact LeO.refl _)
      | (with_reducible exact LeO.none _)
      | (with_reducible refine LeO.ite ?_ ?_)
      | (with_reducible refine LeO.bind ?_ (fun _ => ?_))
      | exact ih0 _ _ _
      | exact ih1 _ _ _ _ _
      | exact ih2 _ _ _ _ _ _ _
      | exact ih3 _ _ _
      | exact ih4 _ _ _ _
      | exact abacistref04_Same.mono _ _ _
      | exact rev_Even.mono _ _
      | exact rev_Weave.mono _ _ _
      | exact LeO.none _
      | refine LeO.ite ?_ ?_
      | refine LeO.bind ?_ (fun _ => ?_)
theorem abacistlaw05_RevHalves.mono : ∀ a0 a1 k, LeO (abacistlaw05_RevHalves.f k a0 a1) (abacistlaw05_RevHalves.f (k + 1) a0 a1) := by
  intro a0 a1 k
  obtain ⟨ih0, ih1, ih2, ih3, ih4⟩ := abacistlaw05_RevHalves.mono_l k
  unfold abacistlaw05_RevHalves.f
  repeat' first
      | (with_reducible exact ih0 _ _ _)
      | (with_reducible exact ih1 _ _ _ _ _)
      | (with_reducible exact ih2 _ _ _ _ _ _ _)
      | (with_reducible exact ih3 _ _ _)
      | (with_reducible exact ih4 _ _ _ _)
      | (with_reducible exact abacistref04_Same.mono _ _ _)
      | (with_reducible exact rev_Even.mono _ _)
      | (with_reducible exact rev_Weave.mono _ _ _)
      | (with_reducible exact LeO.refl _)
      | (with_reducible exact LeO.none _)
      | (with_reducible refine LeO.ite ?_ ?_)
      | (with_reducible refine LeO.bind ?_ (fun _ => ?_))
      | exact ih0 _ _ _
      | exact ih1 _ _ _ _ _
      | exact ih2 _ _ _ _ _ _ _
      | exact ih3 _ _ _
      | exact ih4 _ _ _ _
      | exact abacistref04_Same.mono _ _ _
      | exact rev_Even.mono _ _
      | exact rev_Weave.mono _ _ _
      | exact LeO.none _
      | refine LeO.ite ?_ ?_
      | refine LeO.bind ?_ (fun _ => ?_)
set_option maxHeartbeats 8000000 in
set_option maxRecDepth 100000 in
theorem abacistlaw05_RevHalves.calls (k : Nat) (A0 : Option Addr) (c0 : Nat) (l0 : List Int) (A1 : Option Addr) (c1 : Nat) (l1 : List Int) (r : Bool) (w : World) (hr0 : Kd.C (Kd.int .u64) w A0 l0.length l0) (hc0 : l0.length ≤ c0) (hr1 : Kd.C (Kd.int .u64) w A1 l1.length l1) (hc1 : l1.length ≤ c1) (h : abacistlaw05_RevHalves.f k l0 l1 = some r) (hT : TabOK w) :
    Calls Tryd.prog 8 #[.slice A0 l0.length c0, .slice A1 l1.length c1] w fun e w' => e = .returned (.bool r) ∧ Below w.heap.size w w' := by
  have HR0 := Aside0.mk hr0
  have HC0 := Aside0.mk hc0
  clear hr0 hc0
  have HR1 := Aside0.mk hr1
  have HC1 := Aside0.mk hc1
  clear hr1 hc1
  have HB := Aside0.mk (Below.refl w.heap.size w)
  have H : ((abacistlaw05_awake.f).bind fun t125 => (if t125 = true then (if (l0.length : Int) > 256 then (abacistlaw05_RevHalves.j0 k l0 l1 true) else (abacistlaw05_RevHalves.j0 k l0 l1 (decide ((l1.length : Int) > 256)))) else (some false))) = some r := h
  clear h
  replace H := Option.bind_eq_some_iff.mp H
  obtain ⟨t125, A30, H⟩ := H
  replace H : (if t125 = true then (if (l0.length : Int) > 256 then (abacistlaw05_RevHalves.j0 k l0 l1 true) else (abacistlaw05_RevHalves.j0 k l0 l1 (decide ((l1.length : Int) > 256)))) else (some false)) = some r := H
  have A3 := Aside0.mk A30
  clear A30
  by_cases c4 : t125 = true
  · subst c4
    have H1 : (if (l0.length : Int) > 256 then (abacistlaw05_RevHalves.j0 k l0 l1 true) else (abacistlaw05_RevHalves.j0 k l0 l1 (decide ((l1.length : Int) > 256)))) = some r := by rw [if_pos rfl] at H; exact H
    clear H
    have H := H1
    clear H1
    have HC5 := Aside0.mk H
    clear H
    go_enter Tryd.func8, Tryd.ntmps8
    go_upto_region 3 with (first | ((with_reducible refine gate_callee (f := 30) rfl ?_); refine goesL_ (some 19) rfl rfl Tryd.func30 (by kernel_rfl) rfl #[] rfl (by (try simp only [List.map_toArray, List.map_cons, List.map_nil]); first | done | rfl | (simp only [List.length_drop, List.length_take]; rfl)) ?_; (with_reducible refine (abacistlaw05_awake.calls  true _ A3.out).mono ?_); rintro e w' ⟨rfl, ⟨nd, rfl⟩⟩; refine ⟨_, rfl, ?_⟩))
    (try simp only [Act.put, List.setIfInBounds_toArray, List.set_cons_zero, List.set_cons_succ])
    go_cut [28] (fun v28 wc => ∃ (kq : Nat) (x28_4 : Bool), v28 = .bool x28_4 ∧ Aside0 (abacistlaw05_RevHalves.j0 kq l0 l1 x28_4 = some r) ∧ Aside0 (kq ≤ k) ∧ Aside0 (Below w.heap.size w wc))
    case first =>
      have H := HC5.out
      clear HC5
      by_cases c6 : (l0.length : Int) > 256
      · rw [if_pos c6] at H
        have c6b0 : decide (256 < (l0.length : Int)) = true := decide_eq_true c6
        have c6b1 : decide (256 < l0.length) = true := decide_eq_true (by omega)
        clear c6
        (first | rw [c6b0] | (simp only [i64_w, i32_w]; rw [c6b0]) | skip)
        have H' := Aside0.mk H
        clear H
        go_wp2
        go_meet
        case rel => exact ⟨_, (true), (by first | rfl | (simp; done) | (simp [*]; done)), H', ⟨by first | omega | exact Nat.le_refl _⟩, ⟨by repeat (first | (with_reducible first | exact HB.out | apply below_alloc | apply pw_below_drewN | apply below_drew1) | exact HB.out)⟩⟩
      · rw [if_neg c6] at H
        have c6b0 : decide (256 < (l0.length : Int)) = false := decide_eq_false c6
        have c6b1 : decide (256 < l0.length) = false := decide_eq_false (by omega)
        clear c6
        (first | rw [c6b0] | (simp only [i64_w, i32_w]; rw [c6b0]) | skip)
        have H' := Aside0.mk H
        clear H
        go_wp2
        go_meet
        case rel => exact ⟨_, (decide ((l1.length : Int) > 256)), (by first | rfl | (simp; done) | (simp [*]; done)), H', ⟨by first | omega | exact Nat.le_refl _⟩, ⟨by repeat (first | (with_reducible first | exact HB.out | apply below_alloc | apply pw_below_drewN | apply below_drew1) | exact HB.out)⟩⟩
    case rest =>
      clear HC5
      try clear c1
      try clear p2
      try clear c3
      try clear c4
      try clear c6
      try clear c6b0
      try clear c6b1
      obtain ⟨kq, x28_4, rfl, HA, HJ4, HB⟩ := hcut
      cases kq with
      | zero => exact absurd HA.out (by simp [abacistlaw05_RevHalves.j0])
      | succ kj4 =>
        have H := HA.out
        clear HA
        simp only [abacistlaw05_RevHalves.j0] at H
        by_cases c7 : x28_4 = true
        · subst c7
          have H1 : (some true) = some r := by rw [if_pos rfl] at H; exact H
          clear H
          have H := H1
          clear H1
          obtain rfl := Option.some.inj H
          go_wp2
          go_ret
          exact ⟨by first | rfl | (simp [errW_none, errW_some] <;> rfl) | (simp [*, errW_none, errW_some] <;> rfl), by repeat (first | (with_reducible first | exact HB.out | apply below_alloc | apply pw_below_drewN | apply below_drew1) | exact HB.out)⟩
        · replace c7 := Bool.eq_false_iff.mpr c7
          subst c7
          have H1 : ((rev_Even.f kj4 l0).bind fun bt126 => ((rev_Weave.f kj4 bt126.1 bt126.2).bind fun bt132 => (if bt132.2 = 0 then ((abacistref04_Same.f kj4 bt132.1 l0).bind fun t136 => (if t136 = true then (abacistlaw05_RevHalves.j1 kj4 l0 l1 bt126.1 bt126.2 ((wrap64 ((bt126.1.length : Int) - (bt126.2.length : Int))) != ((l0.length : Int) % 2))) else (abacistlaw05_RevHalves.j1 kj4 l0 l1 bt126.1 bt126.2 true))) else (abacistlaw05_RevHalves.j1 kj4 l0 l1 bt126.1 bt126.2 true)))) = some r := by rw [if_neg (show ¬ (false = true) by decide)] at H; exact H
          clear H
          have H := H1
          clear H1
          replace H := Option.bind_eq_some_iff.mp H
          obtain ⟨⟨t126, t127⟩, A80, H⟩ := H
          replace H : ((rev_Weave.f kj4 t126 t127).bind fun bt132 => (if bt132.2 = 0 then ((abacistref04_Same.f kj4 bt132.1 l0).bind fun t136 => (if t136 = true then (abacistlaw05_RevHalves.j1 kj4 l0 l1 t126 t127 ((wrap64 ((t126.length : Int) - (t127.length : Int))) != ((l0.length : Int) % 2))) else (abacistlaw05_RevHalves.j1 kj4 l0 l1 t126 t127 true))) else (abacistlaw05_RevHalves.j1 kj4 l0 l1 t126 t127 true))) = some r := H
          have A8 := Aside0.mk A80
          clear A80
          replace H := Option.bind_eq_some_iff.mp H
          obtain ⟨⟨t132, t133⟩, A90, H⟩ := H
          replace H : (if t133 = 0 then ((abacistref04_Same.f kj4 t132 l0).bind fun t136 => (if t136 = true then (abacistlaw05_RevHalves.j1 kj4 l0 l1 t126 t127 ((wrap64 ((t126.length : Int) - (t127.length : Int))) != ((l0.length : Int) % 2))) else (abacistlaw05_RevHalves.j1 kj4 l0 l1 t126 t127 true))) else (abacistlaw05_RevHalves.j1 kj4 l0 l1 t126 t127 true)) = some r := H
          have A9 := Aside0.mk A90
          clear A90
          have HC10 := Aside0.mk H
          clear H
          go_upto_region 7 with (first | ((with_reducible refine gate_callee (f := 35) rfl ?_); refine goesL_ (some 31) rfl rfl Tryd.func35 (by kernel_rfl) rfl #[.slice A0 l0.length c0] rfl (by (try simp only [List.map_toArray, List.map_cons, List.map_nil]); first | done | rfl | (simp only [List.length_drop, List.length_take]; rfl)) ?_; (with_reducible refine (rev_Even.calls kj4 _ _ l0 t126 t127 _ ?side1 ?side2 A8.out).mono ?_); (case side1 => repeat (first | exact (Kd.C_below HR0.out HB.out) | (with_reducible refine Kd.C_alloc ?_ _) | (with_reducible refine Kd.C_drewN ?_ _) | (with_reducible refine Kd.C_drew ?_))); (case side2 => exact HC0.out); rintro e w11 ⟨v128, v130, rfl, ho0, ho1, hb⟩; refine ⟨_, rfl, ?_⟩; have n0_ := Aside0.mk (Kd.R_lower ho0 (below_size (by repeat (first | (with_reducible first | exact HB.out | apply below_alloc | apply pw_below_drewN | apply below_drew1) | exact HB.out)))); have n1_ := Aside0.mk (Kd.R_lower ho1 (below_size (by repeat (first | (with_reducible first | exact HB.out | apply below_alloc | apply pw_below_drewN | apply below_drew1) | exact HB.out)))); have n2_ := Aside0.mk (below_step (by repeat (first | (with_reducible first | exact HB.out | apply below_alloc | apply pw_below_drewN | apply below_drew1) | exact HB.out)) hb); clear HB; have HO129 := n0_; have HO131 := n1_; have HB := n2_; clear n0_ n1_ n2_; (try clear hb); (try clear hb2); (try clear hk); (try clear hi); (try clear ho0); (try clear ho1); obtain ⟨Ao12, co12, eo12⟩ := Kd.R_slice HO129.out; subst eo12; obtain ⟨Ao13, co13, eo13⟩ := Kd.R_slice HO131.out; subst eo13) | ((with_reducible refine gate_callee (f := 36) rfl ?_); refine goesL_ (some 37) rfl rfl Tryd.func36 (by kernel_rfl) rfl #[.slice Ao12 t126.length co12, .slice Ao13 t127.length co13] rfl (by (try simp only [List.map_toArray, List.map_cons, List.map_nil]); first | done | rfl | (simp only [List.length_drop, List.length_take]; rfl)) ?_; (with_reducible refine (rev_Weave.calls kj4 _ _ t126 _ _ t127 t132 t133 _ ?side1 ?side2 ?side3 ?side4 A9.out).mono ?_); (case side1 => repeat (first | exact (Kd.R_reads' HO129.out).2.2 | (with_reducible refine Kd.C_alloc ?_ _) | (with_reducible refine Kd.C_drewN ?_ _) | (with_reducible refine Kd.C_drew ?_))); (case side2 => exact (Kd.R_reads' HO129.out).2.1); (case side3 => repeat (first | exact (Kd.R_reads' HO131.out).2.2 | (with_reducible refine Kd.C_alloc ?_ _) | (with_reducible refine Kd.C_drewN ?_ _) | (with_reducible refine Kd.C_drew ?_))); (case side4 => exact (Kd.R_reads' HO131.out).2.1); rintro e w14 ⟨v134, rfl, ho0, hb⟩; refine ⟨_, rfl, ?_⟩; have n0_ := Aside0.mk (Kd.R_elder' (by (with_reducible repeat (first | apply Kd.R_alloc | apply Kd.R_drewN | apply Kd.R_drew)); exact HO129.out) (Kd.R_base ho0) hb); have n1_ := Aside0.mk (Kd.R_elder' (by (with_reducible repeat (first | apply Kd.R_alloc | apply Kd.R_drewN | apply Kd.R_drew)); exact HO131.out) (Kd.R_base ho0) hb); have n2_ := Aside0.mk (Kd.R_lower (Kd.R_new' (Kd.R_new' ho0 (Kd.R_lt (by (with_reducible repeat (first | apply Kd.R_alloc | apply Kd.R_drewN | apply Kd.R_drew)); exact HO129.out))) (Kd.R_lt (by (with_reducible repeat (first | apply Kd.R_alloc | apply Kd.R_drewN | apply Kd.R_drew)); exact HO131.out))) (below_size (by repeat (first | (with_reducible first | exact HB.out | apply below_alloc | apply pw_below_drewN | apply below_drew1) | exact HB.out)))); have n3_ := Aside0.mk (below_step (by repeat (first | (with_reducible first | exact HB.out | apply below_alloc | apply pw_below_drewN | apply below_drew1) | exact HB.out)) hb); clear HO129; clear HO131; clear HB; have HO129 := n0_; have HO131 := n1_; have HO135 := n2_; have HB := n3_; clear n0_ n1_ n2_ n3_; (try clear hb); (try clear hb2); (try clear hk); (try clear hi); (try clear ho0)))
          (try simp only [Act.put, List.setIfInBounds_toArray, List.set_cons_zero, List.set_cons_succ])
          go_cut [58] (fun v58 wc => ∃ (kq : Nat) (x58_9 : Bool), v58 = .bool x58_9 ∧ Aside0 (abacistlaw05_RevHalves.j1 kq l0 l1 t126 t127 x58_9 = some r) ∧ Aside0 (kq ≤ kj4) ∧ Aside0 (Kd.R (Kd.int .u64) 66 wc w.heap.size (fun k_ => some k_ ≠ ((.slice Ao13 t127.length co13) : Value).ownBlock) (.slice Ao12 t126.length co12) t126) ∧ Aside0 (Kd.R (Kd.int .u64) 66 wc w.heap.size (fun k_ => some k_ ≠ ((.slice Ao12 t126.length co12) : Value).ownBlock) (.slice Ao13 t127.length co13) t127) ∧ Aside0 (Below w.heap.size w wc))
          case first =>
            have H := HC10.out
            clear HC10
            by_cases c15 : t133 = 0
            · rw [if_pos c15] at H
              have c15b0 : (t133 == 0) = true := beq_iff_eq.mpr c15
              have c15b1 : (t133 != 0) = false := bne_eq_false_iff_eq.mpr c15
              clear c15
              (first | rw [c15b0] | (simp only [i64_w, i32_w]; rw [c15b0]) | skip)
              replace H := Option.bind_eq_some_iff.mp H
              obtain ⟨t136, A160, H⟩ := H
              replace H : (if t136 = true then (abacistlaw05_RevHalves.j1 kj4 l0 l1 t126 t127 ((wrap64 ((t126.length : Int) - (t127.length : Int))) != ((l0.length : Int) % 2))) else (abacistlaw05_RevHalves.j1 kj4 l0 l1 t126 t127 true)) = some r := H
              have A16 := Aside0.mk A160
              clear A160
              by_cases c17 : t136 = true
              · subst c17
                have H1 : (abacistlaw05_RevHalves.j1 kj4 l0 l1 t126 t127 ((wrap64 ((t126.length : Int) - (t127.length : Int))) != ((l0.length : Int) % 2))) = some r := by rw [if_pos rfl] at H; exact H
                clear H
                have H := H1
                clear H1
                have H' := Aside0.mk H
                clear H
                obtain ⟨Ao18, co18, eo18⟩ := Kd.R_slice HO135.out
                subst eo18
                go_wp2_with (first | (go_at_call 26; (with_reducible refine (abacistref04_Same.calls kj4 _ _ t132 _ _ l0 true _ ?side1 ?side2 ?side3 ?side4 A16.out).mono ?_); (case side1 => repeat (first | exact (Kd.R_reads' HO135.out).2.2 | (with_reducible refine Kd.C_alloc ?_ _) | (with_reducible refine Kd.C_drewN ?_ _) | (with_reducible refine Kd.C_drew ?_))); (case side2 => exact (Kd.R_reads' HO135.out).2.1); (case side3 => repeat (first | exact (Kd.C_below HR0.out HB.out) | (with_reducible refine Kd.C_alloc ?_ _) | (with_reducible refine Kd.C_drewN ?_ _) | (with_reducible refine Kd.C_drew ?_))); (case side4 => exact HC0.out); rintro e w' ⟨rfl, ⟨nd, rfl⟩⟩))
                go_meet
                case rel => exact ⟨_, (((wrap64 ((t126.length : Int) - (t127.length : Int))) != ((l0.length : Int) % 2))), (by first | rfl | (simp; done) | (simp [*]; done)), H', ⟨by have := HJ4.out; first | omega | exact Nat.le_refl _⟩, ⟨by (with_reducible repeat (first | apply Kd.R_alloc | apply Kd.R_drewN | apply Kd.R_drew)); exact Kd.R_mono HO129.out (fun _ hk => hk.1)⟩, ⟨by (with_reducible repeat (first | apply Kd.R_alloc | apply Kd.R_drewN | apply Kd.R_drew)); exact Kd.R_mono HO131.out (fun _ hk => hk.1)⟩, ⟨by repeat (first | (with_reducible first | exact HB.out | apply below_alloc | apply pw_below_drewN | apply below_drew1) | exact HB.out)⟩⟩
              · replace c17 := Bool.eq_false_iff.mpr c17
                subst c17
                have H1 : (abacistlaw05_RevHalves.j1 kj4 l0 l1 t126 t127 true) = some r := by rw [if_neg (show ¬ (false = true) by decide)] at H; exact H
                clear H
                have H := H1
                clear H1
                have H' := Aside0.mk H
                clear H
                obtain ⟨Ao19, co19, eo19⟩ := Kd.R_slice HO135.out
                subst eo19
                go_wp2_with (first | (go_at_call 26; (with_reducible refine (abacistref04_Same.calls kj4 _ _ t132 _ _ l0 false _ ?side1 ?side2 ?side3 ?side4 A16.out).mono ?_); (case side1 => repeat (first | exact (Kd.R_reads' HO135.out).2.2 | (with_reducible refine Kd.C_alloc ?_ _) | (with_reducible refine Kd.C_drewN ?_ _) | (with_reducible refine Kd.C_drew ?_))); (case side2 => exact (Kd.R_reads' HO135.out).2.1); (case side3 => repeat (first | exact (Kd.C_below HR0.out HB.out) | (with_reducible refine Kd.C_alloc ?_ _) | (with_reducible refine Kd.C_drewN ?_ _) | (with_reducible refine Kd.C_drew ?_))); (case side4 => exact HC0.out); rintro e w' ⟨rfl, ⟨nd, rfl⟩⟩))
                go_meet
                case rel => exact ⟨_, (true), (by first | rfl | (simp; done) | (simp [*]; done)), H', ⟨by have := HJ4.out; first | omega | exact Nat.le_refl _⟩, ⟨by (with_reducible repeat (first | apply Kd.R_alloc | apply Kd.R_drewN | apply Kd.R_drew)); exact Kd.R_mono HO129.out (fun _ hk => hk.1)⟩, ⟨by (with_reducible repeat (first | apply Kd.R_alloc | apply Kd.R_drewN | apply Kd.R_drew)); exact Kd.R_mono HO131.out (fun _ hk => hk.1)⟩, ⟨by repeat (first | (with_reducible first | exact HB.out | apply below_alloc | apply pw_below_drewN | apply below_drew1) | exact HB.out)⟩⟩
            · rw [if_neg c15] at H
              have c15b0 : (t133 == 0) = false := beq_eq_false_iff_ne.mpr c15
              have c15b1 : (t133 != 0) = true := bne_iff_ne.mpr c15
              (first | rw [c15b0] | (simp only [i64_w, i32_w]; rw [c15b0]) | skip)
              have H' := Aside0.mk H
              clear H
              go_wp2
              go_meet
              case rel => exact ⟨_, (true), (by first | rfl | (simp; done) | (simp [*]; done)), H', ⟨by have := HJ4.out; first | omega | exact Nat.le_refl _⟩, ⟨by (with_reducible repeat (first | apply Kd.R_alloc | apply Kd.R_drewN | apply Kd.R_drew)); exact Kd.R_mono HO129.out (fun _ hk => hk.1)⟩, ⟨by (with_reducible repeat (first | apply Kd.R_alloc | apply Kd.R_drewN | apply Kd.R_drew)); exact Kd.R_mono HO131.out (fun _ hk => hk.1)⟩, ⟨by repeat (first | (with_reducible first | exact HB.out | apply below_alloc | apply pw_below_drewN | apply below_drew1) | exact HB.out)⟩⟩
          case rest =>
            clear HC10
            try clear c1
            try clear p2
            try clear c3
            try clear c4
            try clear c6
            try clear c6b0
            try clear c6b1
            try clear p6
            try clear c7
            try clear c8
            try clear c15
            try clear c15b0
            try clear c15b1
            try clear c17
            try clear p2
            obtain ⟨kq, x58_9, rfl, HA, HJ9, HO_5, HO_6, HB⟩ := hcut
            cases kq with
            | zero => exact absurd HA.out (by simp [abacistlaw05_RevHalves.j1])
            | succ kj9 =>
              have H := HA.out
              clear HA
              simp only [abacistlaw05_RevHalves.j1] at H
              by_cases c20 : x58_9 = true
              · subst c20
                have H1 : (some false) = some r := by rw [if_pos rfl] at H; exact H
                clear H
                have H := H1
                clear H1
                obtain rfl := Option.some.inj H
                go_wp2
                go_ret
                exact ⟨by first | rfl | (simp [errW_none, errW_some] <;> rfl) | (simp [*, errW_none, errW_some] <;> rfl), by repeat (first | (with_reducible first | exact HB.out | apply below_alloc | apply pw_below_drewN | apply below_drew1) | exact HB.out)⟩
              · replace c20 := Bool.eq_false_iff.mpr c20
                subst c20
                have H1 : ((rev_Weave.f kj9 l0 l1).bind fun bt137 => (if (l0.length : Int) < (l1.length : Int) then (abacistlaw05_RevHalves.j2 kj9 l0 l1 t126 t127 bt137.1 bt137.2 true) else (abacistlaw05_RevHalves.j2 kj9 l0 l1 t126 t127 bt137.1 bt137.2 (decide ((wrap64 ((l0.length : Int) - (l1.length : Int))) > 1))))) = some r := by rw [if_neg (show ¬ (false = true) by decide)] at H; exact H
                clear H
                have H := H1
                clear H1
                replace H := Option.bind_eq_some_iff.mp H
                obtain ⟨⟨t137, t138⟩, A210, H⟩ := H
                replace H : (if (l0.length : Int) < (l1.length : Int) then (abacistlaw05_RevHalves.j2 kj9 l0 l1 t126 t127 t137 t138 true) else (abacistlaw05_RevHalves.j2 kj9 l0 l1 t126 t127 t137 t138 (decide ((wrap64 ((l0.length : Int) - (l1.length : Int))) > 1)))) = some r := H
                have A21 := Aside0.mk A210
                clear A210
                have HC22 := Aside0.mk H
                clear H
                go_upto_region 10 with (first | ((with_reducible refine gate_callee (f := 36) rfl ?_); refine goesL_ (some 62) rfl rfl Tryd.func36 (by kernel_rfl) rfl #[.slice A0 l0.length c0, .slice A1 l1.length c1] rfl (by (try simp only [List.map_toArray, List.map_cons, List.map_nil]); first | done | rfl | (simp only [List.length_drop, List.length_take]; rfl)) ?_; (with_reducible refine (rev_Weave.calls kj9 _ _ l0 _ _ l1 t137 t138 _ ?side1 ?side2 ?side3 ?side4 A21.out).mono ?_); (case side1 => repeat (first | exact (Kd.C_below HR0.out HB.out) | (with_reducible refine Kd.C_alloc ?_ _) | (with_reducible refine Kd.C_drewN ?_ _) | (with_reducible refine Kd.C_drew ?_))); (case side2 => exact HC0.out); (case side3 => repeat (first | exact (Kd.C_below HR1.out HB.out) | (with_reducible refine Kd.C_alloc ?_ _) | (with_reducible refine Kd.C_drewN ?_ _) | (with_reducible refine Kd.C_drew ?_))); (case side4 => exact HC1.out); rintro e w23 ⟨v139, rfl, ho0, hb⟩; refine ⟨_, rfl, ?_⟩; have n0_ := Aside0.mk (Kd.R_elder' (by (with_reducible repeat (first | apply Kd.R_alloc | apply Kd.R_drewN | apply Kd.R_drew)); exact HO_5.out) (Kd.R_base ho0) hb); have n1_ := Aside0.mk (Kd.R_elder' (by (with_reducible repeat (first | apply Kd.R_alloc | apply Kd.R_drewN | apply Kd.R_drew)); exact HO_6.out) (Kd.R_base ho0) hb); have n2_ := Aside0.mk (Kd.R_lower (Kd.R_new' (Kd.R_new' ho0 (Kd.R_lt (by (with_reducible repeat (first | apply Kd.R_alloc | apply Kd.R_drewN | apply Kd.R_drew)); exact HO_5.out))) (Kd.R_lt (by (with_reducible repeat (first | apply Kd.R_alloc | apply Kd.R_drewN | apply Kd.R_drew)); exact HO_6.out))) (below_size (by repeat (first | (with_reducible first | exact HB.out | apply below_alloc | apply pw_below_drewN | apply below_drew1) | exact HB.out)))); have n3_ := Aside0.mk (below_step (by repeat (first | (with_reducible first | exact HB.out | apply below_alloc | apply pw_below_drewN | apply below_drew1) | exact HB.out)) hb); clear HO_5; clear HO_6; clear HB; have HO_5 := n0_; have HO_6 := n1_; have HO140 := n2_; have HB := n3_; clear n0_ n1_ n2_ n3_; (try clear hb); (try clear hb2); (try clear hk); (try clear hi); (try clear ho0)))
                (try simp only [Act.put, List.setIfInBounds_toArray, List.set_cons_zero, List.set_cons_succ])
                go_cut [77] (fun v77 wc => ∃ (kq : Nat) (x77_21 : Bool), v77 = .bool x77_21 ∧ Aside0 (abacistlaw05_RevHalves.j2 kq l0 l1 t126 t127 t137 t138 x77_21 = some r) ∧ Aside0 (kq ≤ kj9) ∧ Aside0 (Kd.R (Kd.int .u64) 66 wc w.heap.size (fun k_ => some k_ ≠ ((.slice Ao13 t127.length co13) : Value).ownBlock ∧ some k_ ≠ (v139 : Value).ownBlock) (.slice Ao12 t126.length co12) t126) ∧ Aside0 (Kd.R (Kd.int .u64) 66 wc w.heap.size (fun k_ => some k_ ≠ ((.slice Ao12 t126.length co12) : Value).ownBlock ∧ some k_ ≠ (v139 : Value).ownBlock) (.slice Ao13 t127.length co13) t127) ∧ Aside0 (Kd.R (Kd.int .u64) 66 wc w.heap.size (fun k_ => some k_ ≠ ((.slice Ao12 t126.length co12) : Value).ownBlock ∧ some k_ ≠ ((.slice Ao13 t127.length co13) : Value).ownBlock) v139 t137) ∧ Aside0 (Below w.heap.size w wc))
                case first =>
                  have H := HC22.out
                  clear HC22
                  by_cases c24 : (l0.length : Int) < (l1.length : Int)
                  · rw [if_pos c24] at H
                    have c24b0 : decide ((l0.length : Int) < (l1.length : Int)) = true := decide_eq_true c24
                    have c24b1 : decide (l0.length < l1.length) = true := decide_eq_true (Int.ofNat_lt.mp c24)
                    clear c24
                    (first | rw [c24b0] | (simp only [i64_w, i32_w]; rw [c24b0]) | skip)
                    have H' := Aside0.mk H
                    clear H
                    go_wp2
                    go_meet
                    case rel => exact ⟨_, (true), (by first | rfl | (simp; done) | (simp [*]; done)), H', ⟨by have := HJ4.out; have := HJ9.out; first | omega | exact Nat.le_refl _⟩, ⟨by (with_reducible repeat (first | apply Kd.R_alloc | apply Kd.R_drewN | apply Kd.R_drew)); exact HO_5.out⟩, ⟨by (with_reducible repeat (first | apply Kd.R_alloc | apply Kd.R_drewN | apply Kd.R_drew)); exact HO_6.out⟩, ⟨by (with_reducible repeat (first | apply Kd.R_alloc | apply Kd.R_drewN | apply Kd.R_drew)); exact Kd.R_mono HO140.out (fun _ hk => ⟨hk.1.2, hk.2⟩)⟩, ⟨by repeat (first | (with_reducible first | exact HB.out | apply below_alloc | apply pw_below_drewN | apply below_drew1) | exact HB.out)⟩⟩
                  · rw [if_neg c24] at H
                    have c24b0 : decide ((l0.length : Int) < (l1.length : Int)) = false := decide_eq_false c24
                    have c24b1 : decide (l0.length < l1.length) = false := decide_eq_false (fun h => c24 (Int.ofNat_lt.mpr h))
                    clear c24
                    (first | rw [c24b0] | (simp only [i64_w, i32_w]; rw [c24b0]) | skip)
                    have H' := Aside0.mk H
                    clear H
                    go_wp2
                    go_meet
                    case rel => exact ⟨_, (decide ((wrap64 ((l0.length : Int) - (l1.length : Int))) > 1)), (by first | rfl | (simp; done) | (simp [*]; done)), H', ⟨by have := HJ4.out; have := HJ9.out; first | omega | exact Nat.le_refl _⟩, ⟨by (with_reducible repeat (first | apply Kd.R_alloc | apply Kd.R_drewN | apply Kd.R_drew)); exact HO_5.out⟩, ⟨by (with_reducible repeat (first | apply Kd.R_alloc | apply Kd.R_drewN | apply Kd.R_drew)); exact HO_6.out⟩, ⟨by (with_reducible repeat (first | apply Kd.R_alloc | apply Kd.R_drewN | apply Kd.R_drew)); exact Kd.R_mono HO140.out (fun _ hk => ⟨hk.1.2, hk.2⟩)⟩, ⟨by repeat (first | (with_reducible first | exact HB.out | apply below_alloc | apply pw_below_drewN | apply below_drew1) | exact HB.out)⟩⟩
                case rest =>
                  clear HC22
                  try clear c1
                  try clear c2
                  try clear p2
                  try clear c3
                  try clear c4
                  try clear c6
                  try clear c6b0
                  try clear c6b1
                  try clear p6
                  try clear c7
                  try clear c8
                  try clear c15
                  try clear c15b0
                  try clear c15b1
                  try clear c17
                  try clear c20
                  try clear c24
                  try clear c24b0
                  try clear c24b1
                  try clear p2
                  try clear p6
                  obtain ⟨kq, x77_21, rfl, HA, HJ21, HO_5, HO_6, HO_9, HB⟩ := hcut
                  cases kq with
                  | zero => exact absurd HA.out (by simp [abacistlaw05_RevHalves.j2])
                  | succ kj21 =>
                    have H := HA.out
                    clear HA
                    simp only [abacistlaw05_RevHalves.j2] at H
                    have HC25 := Aside0.mk H
                    clear H
                    go_upto_if 77 with (fail)
                    go_cut [] (fun wc => ∃ (kq : Nat), Aside0 (abacistlaw05_RevHalves.j3 kq l0 t126 t127 = some r) ∧ Aside0 (kq ≤ kj21) ∧ Aside0 (Kd.R (Kd.int .u64) 66 wc w.heap.size (fun k_ => some k_ ≠ ((.slice Ao13 t127.length co13) : Value).ownBlock) (.slice Ao12 t126.length co12) t126) ∧ Aside0 (Kd.R (Kd.int .u64) 66 wc w.heap.size (fun k_ => some k_ ≠ ((.slice Ao12 t126.length co12) : Value).ownBlock) (.slice Ao13 t127.length co13) t127) ∧ Aside0 (Below w.heap.size w wc))
                    case first =>
                      have H := HC25.out
                      clear HC25
                      by_cases c26 : x77_21 = true
                      · subst c26
                        have H1 : (if t138 = 19 then (if (t137.length : Int) = 0 then (abacistlaw05_RevHalves.j3 kj21 l0 t126 t127) else (some false)) else (some false)) = some r := by rw [if_pos rfl] at H; exact H
                        clear H
                        have H := H1
                        clear H1
                        by_cases c27 : t138 = 19
                        · rw [if_pos c27] at H
                          have c27b0 : (t138 == 19) = true := beq_iff_eq.mpr c27
                          have c27b1 : (t138 != 19) = false := bne_eq_false_iff_eq.mpr c27
                          clear c27
                          (first | rw [c27b0] | (simp only [i64_w, i32_w]; rw [c27b0]) | skip)
                          by_cases c28 : (t137.length : Int) = 0
                          · rw [if_pos c28] at H
                            have c28b0 : ((t137.length : Int) == 0) = true := beq_iff_eq.mpr c28
                            have c28b1 : ((t137.length : Int) != 0) = false := bne_eq_false_iff_eq.mpr c28
                            clear c28
                            have H' := Aside0.mk H
                            clear H
                            obtain ⟨Ao29, co29, eo29⟩ := Kd.R_slice HO_9.out
                            subst eo29
                            go_wp2
                            go_meet
                            case rel => exact ⟨_, H', ⟨by have := HJ4.out; have := HJ9.out; have := HJ21.out; first | omega | exact Nat.le_refl _⟩, ⟨by (with_reducible repeat (first | apply Kd.R_alloc | apply Kd.R_drewN | apply Kd.R_drew)); exact Kd.R_mono HO_5.out (fun _ hk => hk.1)⟩, ⟨by (with_reducible repeat (first | apply Kd.R_alloc | apply Kd.R_drewN | apply Kd.R_drew)); exact Kd.R_mono HO_6.out (fun _ hk => hk.1)⟩, ⟨by repeat (first | (with_reducible first | exact HB.out | apply below_alloc | apply pw_below_drewN | apply below_drew1) | exact HB.out)⟩⟩
                          · rw [if_neg c28] at H
                            have c28b0 : ((t137.length : Int) == 0) = false := beq_eq_false_iff_ne.mpr c28
                            have c28b1 : ((t137.length : Int) != 0) = true := bne_iff_ne.mpr c28
                            have c28b2 : ¬ (t137 = []) := fun h_ => c28 (by rw [h_]; rfl)
                            obtain rfl := Option.some.inj H
                            obtain ⟨Ao30, co30, eo30⟩ := Kd.R_slice HO_9.out
                            subst eo30
                            go_wp2
                            go_ret
                            exact ⟨by first | rfl | (simp [errW_none, errW_some] <;> rfl) | (simp [*, errW_none, errW_some] <;> rfl), by repeat (first | (with_reducible first | exact HB.out | apply below_alloc | apply pw_below_drewN | apply below_drew1) | exact HB.out)⟩
                        · rw [if_neg c27] at H
                          have c27b0 : (t138 == 19) = false := beq_eq_false_iff_ne.mpr c27
                          have c27b1 : (t138 != 19) = true := bne_iff_ne.mpr c27
                          (first | rw [c27b0] | (simp only [i64_w, i32_w]; rw [c27b0]) | skip)
                          obtain rfl := Option.some.inj H
                          go_wp2
                          go_ret
                          exact ⟨by first | rfl | (simp [errW_none, errW_some] <;> rfl) | (simp [*, errW_none, errW_some] <;> rfl), by repeat (first | (with_reducible first | exact HB.out | apply below_alloc | apply pw_below_drewN | apply below_drew1) | exact HB.out)⟩
                      · replace c26 := Bool.eq_false_iff.mpr c26
                        subst c26
                        have H1 : ((rev_Even.f kj21 t137).bind fun bt141 => (if t138 = 0 then ((abacistref04_Same.f kj21 bt141.1 l0).bind fun t147 => (if t147 = true then ((abacistref04_Same.f kj21 bt141.2 l1).bind fun t148 => (if t148 = true then (abacistlaw05_RevHalves.j3 kj21 l0 t126 t127) else (some false))) else (some false))) else (some false))) = some r := by rw [if_neg (show ¬ (false = true) by decide)] at H; exact H
                        clear H
                        have H := H1
                        clear H1
                        replace H := Option.bind_eq_some_iff.mp H
                        obtain ⟨⟨t141, t142⟩, A310, H⟩ := H
                        replace H : (if t138 = 0 then ((abacistref04_Same.f kj21 t141 l0).bind fun t147 => (if t147 = true then ((abacistref04_Same.f kj21 t142 l1).bind fun t148 => (if t148 = true then (abacistlaw05_RevHalves.j3 kj21 l0 t126 t127) else (some false))) else (some false))) else (some false)) = some r := H
                        have A31 := Aside0.mk A310
                        clear A310
                        by_cases c32 : t138 = 0
                        · rw [if_pos c32] at H
                          have c32b0 : (t138 == 0) = true := beq_iff_eq.mpr c32
                          have c32b1 : (t138 != 0) = false := bne_eq_false_iff_eq.mpr c32
                          clear c32
                          replace H := Option.bind_eq_some_iff.mp H
                          obtain ⟨t147, A330, H⟩ := H
                          replace H : (if t147 = true then ((abacistref04_Same.f kj21 t142 l1).bind fun t148 => (if t148 = true then (abacistlaw05_RevHalves.j3 kj21 l0 t126 t127) else (some false))) else (some false)) = some r := H
                          have A33 := Aside0.mk A330
                          clear A330
                          by_cases c34 : t147 = true
                          · subst c34
                            have H1 : ((abacistref04_Same.f kj21 t142 l1).bind fun t148 => (if t148 = true then (abacistlaw05_RevHalves.j3 kj21 l0 t126 t127) else (some false))) = some r := by rw [if_pos rfl] at H; exact H
                            clear H
                            have H := H1
                            clear H1
                            replace H := Option.bind_eq_some_iff.mp H
                            obtain ⟨t148, A350, H⟩ := H
                            replace H : (if t148 = true then (abacistlaw05_RevHalves.j3 kj21 l0 t126 t127) else (some false)) = some r := H
                            have A35 := Aside0.mk A350
                            clear A350
                            by_cases c36 : t148 = true
                            · subst c36
                              have H1 : (abacistlaw05_RevHalves.j3 kj21 l0 t126 t127) = some r := by rw [if_pos rfl] at H; exact H
                              clear H
                              have H := H1
                              clear H1
                              have H' := Aside0.mk H
                              clear H
                              obtain ⟨Ao37, co37, eo37⟩ := Kd.R_slice HO_9.out
                              subst eo37
                              go_wp2_with (first | ((with_reducible refine gate_callee (f := 35) rfl ?_); refine goesL_ (some 87) rfl rfl Tryd.func35 (by kernel_rfl) rfl #[.slice Ao37 t137.length co37] rfl (by (try simp only [List.map_toArray, List.map_cons, List.map_nil]); first | done | rfl | (simp only [List.length_drop, List.length_take]; rfl)) ?_; (with_reducible refine (rev_Even.calls kj21 _ _ t137 t141 t142 _ ?side1 ?side2 A31.out).mono ?_); (case side1 => repeat (first | exact (Kd.R_reads' HO_9.out).2.2 | (with_reducible refine Kd.C_alloc ?_ _) | (with_reducible refine Kd.C_drewN ?_ _) | (with_reducible refine Kd.C_drew ?_))); (case side2 => exact (Kd.R_reads' HO_9.out).2.1); rintro e w38 ⟨v143, v145, rfl, ho0, ho1, hb⟩; refine ⟨_, rfl, ?_⟩; have n0_ := Aside0.mk (Kd.R_mono (Kd.R_told (Kd.R_told (Kd.R_old (by (with_reducible repeat (first | apply Kd.R_alloc | apply Kd.R_drewN | apply Kd.R_drew)); exact HO_5.out) hb) (Kd.R_base ho0)) (Kd.R_base ho1)) (fun _ h_ => h_.1)); have n1_ := Aside0.mk (Kd.R_mono (Kd.R_told (Kd.R_told (Kd.R_old (by (with_reducible repeat (first | apply Kd.R_alloc | apply Kd.R_drewN | apply Kd.R_drew)); exact HO_6.out) hb) (Kd.R_base ho0)) (Kd.R_base ho1)) (fun _ h_ => h_.1)); have n2_ := Aside0.mk (Kd.R_mono (Kd.R_told (Kd.R_told (Kd.R_old (by (with_reducible repeat (first | apply Kd.R_alloc | apply Kd.R_drewN | apply Kd.R_drew)); exact HO_9.out) hb) (Kd.R_base ho0)) (Kd.R_base ho1)) (fun _ h_ => h_.1)); have n3_ := Aside0.mk (Kd.R_lower (Kd.R_new' (Kd.R_new' (Kd.R_new' ho0 (Kd.R_lt (by (with_reducible repeat (first | apply Kd.R_alloc | apply Kd.R_drewN | apply Kd.R_drew)); exact HO_5.out))) (Kd.R_lt (by (with_reducible repeat (first | apply Kd.R_alloc | apply Kd.R_drewN | apply Kd.R_drew)); exact HO_6.out))) (Kd.R_lt (by (with_reducible repeat (first | apply Kd.R_alloc | apply Kd.R_drewN | apply Kd.R_drew)); exact HO_9.out))) (below_size (by repeat (first | (with_reducible first | exact HB.out | apply below_alloc | apply pw_below_drewN | apply below_drew1) | exact HB.out)))); have n4_ := Aside0.mk (Kd.R_lower (Kd.R_new' (Kd.R_new' (Kd.R_new' ho1 (Kd.R_lt (by (with_reducible repeat (first | apply Kd.R_alloc | apply Kd.R_drewN | apply Kd.R_drew)); exact HO_5.out))) (Kd.R_lt (by (with_reducible repeat (first | apply Kd.R_alloc | apply Kd.R_drewN | apply Kd.R_drew)); exact HO_6.out))) (Kd.R_lt (by (with_reducible repeat (first | apply Kd.R_alloc | apply Kd.R_drewN | apply Kd.R_drew)); exact HO_9.out))) (below_size (by repeat (first | (with_reducible first | exact HB.out | apply below_alloc | apply pw_below_drewN | apply below_drew1) | exact HB.out)))); have n5_ := Aside0.mk (below_step (by repeat (first | (with_reducible first | exact HB.out | apply below_alloc | apply pw_below_drewN | apply below_drew1) | exact HB.out)) hb); clear HO_5; clear HO_6; clear HO_9; clear HB; have HO_5 := n0_; have HO_6 := n1_; have HO_9 := n2_; have HO144 := n3_; have HO146 := n4_; have HB := n5_; clear n0_ n1_ n2_ n3_ n4_ n5_; (try clear hb); (try clear hb2); (try clear hk); (try clear hi); (try clear ho0); (try clear ho1); obtain ⟨Ao39, co39, eo39⟩ := Kd.R_slice HO144.out; subst eo39) | (go_at_call 26; (with_reducible refine (abacistref04_Same.calls kj21 _ _ t141 _ _ l0 true _ ?side1 ?side2 ?side3 ?side4 A33.out).mono ?_); (case side1 => repeat (first | exact (Kd.R_reads' HO144.out).2.2 | (with_reducible refine Kd.C_alloc ?_ _) | (with_reducible refine Kd.C_drewN ?_ _) | (with_reducible refine Kd.C_drew ?_))); (case side2 => exact (Kd.R_reads' HO144.out).2.1); (case side3 => repeat (first | exact (Kd.C_below HR0.out HB.out) | (with_reducible refine Kd.C_alloc ?_ _) | (with_reducible refine Kd.C_drewN ?_ _) | (with_reducible refine Kd.C_drew ?_))); (case side4 => exact HC0.out); rintro e w' ⟨rfl, ⟨nd, rfl⟩⟩; obtain ⟨Ao40, co40, eo40⟩ := Kd.R_slice HO146.out; subst eo40) | (go_at_call 26; (with_reducible refine (abacistref04_Same.calls kj21 _ _ t142 _ _ l1 true _ ?side1 ?side2 ?side3 ?side4 A35.out).mono ?_); (case side1 => repeat (first | exact (Kd.R_reads' HO146.out).2.2 | (with_reducible refine Kd.C_alloc ?_ _) | (with_reducible refine Kd.C_drewN ?_ _) | (with_reducible refine Kd.C_drew ?_))); (case side2 => exact (Kd.R_reads' HO146.out).2.1); (case side3 => repeat (first | exact (Kd.C_below HR1.out (by repeat (first | (with_reducible first | exact HB.out | apply below_alloc | apply pw_below_drewN | apply below_drew1) | exact HB.out))) | (with_reducible refine Kd.C_alloc ?_ _) | (with_reducible refine Kd.C_drewN ?_ _) | (with_reducible refine Kd.C_drew ?_))); (case side4 => exact HC1.out); rintro e w' ⟨rfl, ⟨nd, rfl⟩⟩))
                              go_meet
                              case rel => exact ⟨_, H', ⟨by have := HJ4.out; have := HJ9.out; have := HJ21.out; first | omega | exact Nat.le_refl _⟩, ⟨by (with_reducible repeat (first | apply Kd.R_alloc | apply Kd.R_drewN | apply Kd.R_drew)); exact Kd.R_mono HO_5.out (fun _ hk => hk.1.1.1)⟩, ⟨by (with_reducible repeat (first | apply Kd.R_alloc | apply Kd.R_drewN | apply Kd.R_drew)); exact Kd.R_mono HO_6.out (fun _ hk => hk.1.1.1)⟩, ⟨by repeat (first | (with_reducible first | exact HB.out | apply below_alloc | apply pw_below_drewN | apply below_drew1) | exact HB.out)⟩⟩
                            · replace c36 := Bool.eq_false_iff.mpr c36
                              subst c36
                              have H1 : (some false) = some r := by rw [if_neg (show ¬ (false = true) by decide)] at H; exact H
                              clear H
                              have H := H1
                              clear H1
                              obtain rfl := Option.some.inj H
                              obtain ⟨Ao41, co41, eo41⟩ := Kd.R_slice HO_9.out
                              subst eo41
                              go_wp2_with (first | ((with_reducible refine gate_callee (f := 35) rfl ?_); refine goesL_ (some 87) rfl rfl Tryd.func35 (by kernel_rfl) rfl #[.slice Ao41 t137.length co41] rfl (by (try simp only [List.map_toArray, List.map_cons, List.map_nil]); first | done | rfl | (simp only [List.length_drop, List.length_take]; rfl)) ?_; (with_reducible refine (rev_Even.calls kj21 _ _ t137 t141 t142 _ ?side1 ?side2 A31.out).mono ?_); (case side1 => repeat (first | exact (Kd.R_reads' HO_9.out).2.2 | (with_reducible refine Kd.C_alloc ?_ _) | (with_reducible refine Kd.C_drewN ?_ _) | (with_reducible refine Kd.C_drew ?_))); (case side2 => exact (Kd.R_reads' HO_9.out).2.1); rintro e w42 ⟨v143, v145, rfl, ho0, ho1, hb⟩; refine ⟨_, rfl, ?_⟩; have n0_ := Aside0.mk (Kd.R_mono (Kd.R_told (Kd.R_told (Kd.R_old (by (with_reducible repeat (first | apply Kd.R_alloc | apply Kd.R_drewN | apply Kd.R_drew)); exact HO_5.out) hb) (Kd.R_base ho0)) (Kd.R_base ho1)) (fun _ h_ => h_.1)); have n1_ := Aside0.mk (Kd.R_mono (Kd.R_told (Kd.R_told (Kd.R_old (by (with_reducible repeat (first | apply Kd.R_alloc | apply Kd.R_drewN | apply Kd.R_drew)); exact HO_6.out) hb) (Kd.R_base ho0)) (Kd.R_base ho1)) (fun _ h_ => h_.1)); have n2_ := Aside0.mk (Kd.R_mono (Kd.R_told (Kd.R_told (Kd.R_old (by (with_reducible repeat (first | apply Kd.R_alloc | apply Kd.R_drewN | apply Kd.R_drew)); exact HO_9.out) hb) (Kd.R_base ho0)) (Kd.R_base ho1)) (fun _ h_ => h_.1)); have n3_ := Aside0.mk (Kd.R_lower (Kd.R_new' (Kd.R_new' (Kd.R_new' ho0 (Kd.R_lt (by (with_reducible repeat (first | apply Kd.R_alloc | apply Kd.R_drewN | apply Kd.R_drew)); exact HO_5.out))) (Kd.R_lt (by (with_reducible repeat (first | apply Kd.R_alloc | apply Kd.R_drewN | apply Kd.R_drew)); exact HO_6.out))) (Kd.R_lt (by (with_reducible repeat (first | apply Kd.R_alloc | apply Kd.R_drewN | apply Kd.R_drew)); exact HO_9.out))) (below_size (by repeat (first | (with_reducible first | exact HB.out | apply below_alloc | apply pw_below_drewN | apply below_drew1) | exact HB.out)))); have n4_ := Aside0.mk (Kd.R_lower (Kd.R_new' (Kd.R_new' (Kd.R_new' ho1 (Kd.R_lt (by (with_reducible repeat (first | apply Kd.R_alloc | apply Kd.R_drewN | apply Kd.R_drew)); exact HO_5.out))) (Kd.R_lt (by (with_reducible repeat (first | apply Kd.R_alloc | apply Kd.R_drewN | apply Kd.R_drew)); exact HO_6.out))) (Kd.R_lt (by (with_reducible repeat (first | apply Kd.R_alloc | apply Kd.R_drewN | apply Kd.R_drew)); exact HO_9.out))) (below_size (by repeat (first | (with_reducible first | exact HB.out | apply below_alloc | apply pw_below_drewN | apply below_drew1) | exact HB.out)))); have n5_ := Aside0.mk (below_step (by repeat (first | (with_reducible first | exact HB.out | apply below_alloc | apply pw_below_drewN | apply below_drew1) | exact HB.out)) hb); clear HO_5; clear HO_6; clear HO_9; clear HB; have HO_5 := n0_; have HO_6 := n1_; have HO_9 := n2_; have HO144 := n3_; have HO146 := n4_; have HB := n5_; clear n0_ n1_ n2_ n3_ n4_ n5_; (try clear hb); (try clear hb2); (try clear hk); (try clear hi); (try clear ho0); (try clear ho1); obtain ⟨Ao43, co43, eo43⟩ := Kd.R_slice HO144.out; subst eo43) | (go_at_call 26; (with_reducible refine (abacistref04_Same.calls kj21 _ _ t141 _ _ l0 true _ ?side1 ?side2 ?side3 ?side4 A33.out).mono ?_); (case side1 => repeat (first | exact (Kd.R_reads' HO144.out).2.2 | (with_reducible refine Kd.C_alloc ?_ _) | (with_reducible refine Kd.C_drewN ?_ _) | (with_reducible refine Kd.C_drew ?_))); (case side2 => exact (Kd.R_reads' HO144.out).2.1); (case side3 => repeat (first | exact (Kd.C_below HR0.out HB.out) | (with_reducible refine Kd.C_alloc ?_ _) | (with_reducible refine Kd.C_drewN ?_ _) | (with_reducible refine Kd.C_drew ?_))); (case side4 => exact HC0.out); rintro e w' ⟨rfl, ⟨nd, rfl⟩⟩; obtain ⟨Ao44, co44, eo44⟩ := Kd.R_slice HO146.out; subst eo44) | (go_at_call 26; (with_reducible refine (abacistref04_Same.calls kj21 _ _ t142 _ _ l1 false _ ?side1 ?side2 ?side3 ?side4 A35.out).mono ?_); (case side1 => repeat (first | exact (Kd.R_reads' HO146.out).2.2 | (with_reducible refine Kd.C_alloc ?_ _) | (with_reducible refine Kd.C_drewN ?_ _) | (with_reducible refine Kd.C_drew ?_))); (case side2 => exact (Kd.R_reads' HO146.out).2.1); (case side3 => repeat (first | exact (Kd.C_below HR1.out (by repeat (first | (with_reducible first | exact HB.out | apply below_alloc | apply pw_below_drewN | apply below_drew1) | exact HB.out))) | (with_reducible refine Kd.C_alloc ?_ _) | (with_reducible refine Kd.C_drewN ?_ _) | (with_reducible refine Kd.C_drew ?_))); (case side4 => exact HC1.out); rintro e w' ⟨rfl, ⟨nd, rfl⟩⟩))
                              go_ret
                              exact ⟨by first | rfl | (simp [errW_none, errW_some] <;> rfl) | (simp [*, errW_none, errW_some] <;> rfl), by repeat (first | (with_reducible first | exact HB.out | apply below_alloc | apply pw_below_drewN | apply below_drew1) | exact HB.out)⟩
                          · replace c34 := Bool.eq_false_iff.mpr c34
                            subst c34
                            have H1 : (some false) = some r := by rw [if_neg (show ¬ (false = true) by decide)] at H; exact H
                            clear H
                            have H := H1
                            clear H1
                            obtain rfl := Option.some.inj H
                            obtain ⟨Ao45, co45, eo45⟩ := Kd.R_slice HO_9.out
                            subst eo45
                            go_wp2_with (first | ((with_reducible refine gate_callee (f := 35) rfl ?_); refine goesL_ (some 87) rfl rfl Tryd.func35 (by kernel_rfl) rfl #[.slice Ao45 t137.length co45] rfl (by (try simp only [List.map_toArray, List.map_cons, List.map_nil]); first | done | rfl | (simp only [List.length_drop, List.length_take]; rfl)) ?_; (with_reducible refine (rev_Even.calls kj21 _ _ t137 t141 t142 _ ?side1 ?side2 A31.out).mono ?_); (case side1 => repeat (first | exact (Kd.R_reads' HO_9.out).2.2 | (with_reducible refine Kd.C_alloc ?_ _) | (with_reducible refine Kd.C_drewN ?_ _) | (with_reducible refine Kd.C_drew ?_))); (case side2 => exact (Kd.R_reads' HO_9.out).2.1); rintro e w46 ⟨v143, v145, rfl, ho0, ho1, hb⟩; refine ⟨_, rfl, ?_⟩; have n0_ := Aside0.mk (Kd.R_mono (Kd.R_told (Kd.R_told (Kd.R_old (by (with_reducible repeat (first | apply Kd.R_alloc | apply Kd.R_drewN | apply Kd.R_drew)); exact HO_5.out) hb) (Kd.R_base ho0)) (Kd.R_base ho1)) (fun _ h_ => h_.1)); have n1_ := Aside0.mk (Kd.R_mono (Kd.R_told (Kd.R_told (Kd.R_old (by (with_reducible repeat (first | apply Kd.R_alloc | apply Kd.R_drewN | apply Kd.R_drew)); exact HO_6.out) hb) (Kd.R_base ho0)) (Kd.R_base ho1)) (fun _ h_ => h_.1)); have n2_ := Aside0.mk (Kd.R_mono (Kd.R_told (Kd.R_told (Kd.R_old (by (with_reducible repeat (first | apply Kd.R_alloc | apply Kd.R_drewN | apply Kd.R_drew)); exact HO_9.out) hb) (Kd.R_base ho0)) (Kd.R_base ho1)) (fun _ h_ => h_.1)); have n3_ := Aside0.mk (Kd.R_lower (Kd.R_new' (Kd.R_new' (Kd.R_new' ho0 (Kd.R_lt (by (with_reducible repeat (first | apply Kd.R_alloc | apply Kd.R_drewN | apply Kd.R_drew)); exact HO_5.out))) (Kd.R_lt (by (with_reducible repeat (first | apply Kd.R_alloc | apply Kd.R_drewN | apply Kd.R_drew)); exact HO_6.out))) (Kd.R_lt (by (with_reducible repeat (first | apply Kd.R_alloc | apply Kd.R_drewN | apply Kd.R_drew)); exact HO_9.out))) (below_size (by repeat (first | (with_reducible first | exact HB.out | apply below_alloc | apply pw_below_drewN | apply below_drew1) | exact HB.out)))); have n4_ := Aside0.mk (Kd.R_lower (Kd.R_new' (Kd.R_new' (Kd.R_new' ho1 (Kd.R_lt (by (with_reducible repeat (first | apply Kd.R_alloc | apply Kd.R_drewN | apply Kd.R_drew)); exact HO_5.out))) (Kd.R_lt (by (with_reducible repeat (first | apply Kd.R_alloc | apply Kd.R_drewN | apply Kd.R_drew)); exact HO_6.out))) (Kd.R_lt (by (with_reducible repeat (first | apply Kd.R_alloc | apply Kd.R_drewN | apply Kd.R_drew)); exact HO_9.out))) (below_size (by repeat (first | (with_reducible first | exact HB.out | apply below_alloc | apply pw_below_drewN | apply below_drew1) | exact HB.out)))); have n5_ := Aside0.mk (below_step (by repeat (first | (with_reducible first | exact HB.out | apply below_alloc | apply pw_below_drewN | apply below_drew1) | exact HB.out)) hb); clear HO_5; clear HO_6; clear HO_9; clear HB; have HO_5 := n0_; have HO_6 := n1_; have HO_9 := n2_; have HO144 := n3_; have HO146 := n4_; have HB := n5_; clear n0_ n1_ n2_ n3_ n4_ n5_; (try clear hb); (try clear hb2); (try clear hk); (try clear hi); (try clear ho0); (try clear ho1); obtain ⟨Ao47, co47, eo47⟩ := Kd.R_slice HO144.out; subst eo47) | (go_at_call 26; (with_reducible refine (abacistref04_Same.calls kj21 _ _ t141 _ _ l0 false _ ?side1 ?side2 ?side3 ?side4 A33.out).mono ?_); (case side1 => repeat (first | exact (Kd.R_reads' HO144.out).2.2 | (with_reducible refine Kd.C_alloc ?_ _) | (with_reducible refine Kd.C_drewN ?_ _) | (with_reducible refine Kd.C_drew ?_))); (case side2 => exact (Kd.R_reads' HO144.out).2.1); (case side3 => repeat (first | exact (Kd.C_below HR0.out HB.out) | (with_reducible refine Kd.C_alloc ?_ _) | (with_reducible refine Kd.C_drewN ?_ _) | (with_reducible refine Kd.C_drew ?_))); (case side4 => exact HC0.out); rintro e w' ⟨rfl, ⟨nd, rfl⟩⟩))
                            go_ret
                            exact ⟨by first | rfl | (simp [errW_none, errW_some] <;> rfl) | (simp [*, errW_none, errW_some] <;> rfl), by repeat (first | (with_reducible first | exact HB.out | apply below_alloc | apply pw_below_drewN | apply below_drew1) | exact HB.out)⟩
                        · rw [if_neg c32] at H
                          have c32b0 : (t138 == 0) = false := beq_eq_false_iff_ne.mpr c32
                          have c32b1 : (t138 != 0) = true := bne_iff_ne.mpr c32
                          obtain rfl := Option.some.inj H
                          obtain ⟨Ao48, co48, eo48⟩ := Kd.R_slice HO_9.out
                          subst eo48
                          go_wp2_with (first | ((with_reducible refine gate_callee (f := 35) rfl ?_); refine goesL_ (some 87) rfl rfl Tryd.func35 (by kernel_rfl) rfl #[.slice Ao48 t137.length co48] rfl (by (try simp only [List.map_toArray, List.map_cons, List.map_nil]); first | done | rfl | (simp only [List.length_drop, List.length_take]; rfl)) ?_; (with_reducible refine (rev_Even.calls kj21 _ _ t137 t141 t142 _ ?side1 ?side2 A31.out).mono ?_); (case side1 => repeat (first | exact (Kd.R_reads' HO_9.out).2.2 | (with_reducible refine Kd.C_alloc ?_ _) | (with_reducible refine Kd.C_drewN ?_ _) | (with_reducible refine Kd.C_drew ?_))); (case side2 => exact (Kd.R_reads' HO_9.out).2.1); rintro e w49 ⟨v143, v145, rfl, ho0, ho1, hb⟩; refine ⟨_, rfl, ?_⟩; have n0_ := Aside0.mk (Kd.R_mono (Kd.R_told (Kd.R_told (Kd.R_old (by (with_reducible repeat (first | apply Kd.R_alloc | apply Kd.R_drewN | apply Kd.R_drew)); exact HO_5.out) hb) (Kd.R_base ho0)) (Kd.R_base ho1)) (fun _ h_ => h_.1)); have n1_ := Aside0.mk (Kd.R_mono (Kd.R_told (Kd.R_told (Kd.R_old (by (with_reducible repeat (first | apply Kd.R_alloc | apply Kd.R_drewN | apply Kd.R_drew)); exact HO_6.out) hb) (Kd.R_base ho0)) (Kd.R_base ho1)) (fun _ h_ => h_.1)); have n2_ := Aside0.mk (Kd.R_mono (Kd.R_told (Kd.R_told (Kd.R_old (by (with_reducible repeat (first | apply Kd.R_alloc | apply Kd.R_drewN | apply Kd.R_drew)); exact HO_9.out) hb) (Kd.R_base ho0)) (Kd.R_base ho1)) (fun _ h_ => h_.1)); have n3_ := Aside0.mk (Kd.R_lower (Kd.R_new' (Kd.R_new' (Kd.R_new' ho0 (Kd.R_lt (by (with_reducible repeat (first | apply Kd.R_alloc | apply Kd.R_drewN | apply Kd.R_drew)); exact HO_5.out))) (Kd.R_lt (by (with_reducible repeat (first | apply Kd.R_alloc | apply Kd.R_drewN | apply Kd.R_drew)); exact HO_6.out))) (Kd.R_lt (by (with_reducible repeat (first | apply Kd.R_alloc | apply Kd.R_drewN | apply Kd.R_drew)); exact HO_9.out))) (below_size (by repeat (first | (with_reducible first | exact HB.out | apply below_alloc | apply pw_below_drewN | apply below_drew1) | exact HB.out)))); have n4_ := Aside0.mk (Kd.R_lower (Kd.R_new' (Kd.R_new' (Kd.R_new' ho1 (Kd.R_lt (by (with_reducible repeat (first | apply Kd.R_alloc | apply Kd.R_drewN | apply Kd.R_drew)); exact HO_5.out))) (Kd.R_lt (by (with_reducible repeat (first | apply Kd.R_alloc | apply Kd.R_drewN | apply Kd.R_drew)); exact HO_6.out))) (Kd.R_lt (by (with_reducible repeat (first | apply Kd.R_alloc | apply Kd.R_drewN | apply Kd.R_drew)); exact HO_9.out))) (below_size (by repeat (first | (with_reducible first | exact HB.out | apply below_alloc | apply pw_below_drewN | apply below_drew1) | exact HB.out)))); have n5_ := Aside0.mk (below_step (by repeat (first | (with_reducible first | exact HB.out | apply below_alloc | apply pw_below_drewN | apply below_drew1) | exact HB.out)) hb); clear HO_5; clear HO_6; clear HO_9; clear HB; have HO_5 := n0_; have HO_6 := n1_; have HO_9 := n2_; have HO144 := n3_; have HO146 := n4_; have HB := n5_; clear n0_ n1_ n2_ n3_ n4_ n5_; (try clear hb); (try clear hb2); (try clear hk); (try clear hi); (try clear ho0); (try clear ho1)))
                          go_ret
                          exact ⟨by first | rfl | (simp [errW_none, errW_some] <;> rfl) | (simp [*, errW_none, errW_some] <;> rfl), by repeat (first | (with_reducible first | exact HB.out | apply below_alloc | apply pw_below_drewN | apply below_drew1) | exact HB.out)⟩
                    case rest =>
                      clear HC25
                      try clear c1
                      try clear c2
                      try clear p2
                      try clear c3
                      try clear c4
                      try clear c6
                      try clear c6b0
                      try clear c6b1
                      try clear p6
                      try clear c7
                      try clear c8
                      try clear c15
                      try clear c15b0
                      try clear c15b1
                      try clear c17
                      try clear c20
                      try clear c24
                      try clear c24b0
                      try clear c24b1
                      try clear c26
                      try clear c27
                      try clear c27b0
                      try clear c27b1
                      try clear c28
                      try clear c28b0
                      try clear c28b1
                      try clear c28b2
                      try clear c30
                      try clear c32
                      try clear c32b0
                      try clear c32b1
                      try clear c34
                      try clear c35
                      try clear c36
                      try clear p2
                      try clear p6
                      obtain ⟨kq, HA, HJ24, HO_5, HO_6, HB⟩ := hcut
                      cases kq with
                      | zero => exact absurd HA.out (by simp [abacistlaw05_RevHalves.j3])
                      | succ kj24 =>
                        have H := HA.out
                        clear HA
                        simp only [abacistlaw05_RevHalves.j3] at H
                        replace H := Option.bind_eq_some_iff.mp H
                        obtain ⟨⟨t149, t150⟩, A500, H⟩ := H
                        replace H : (if t150 = 0 then (abacistlaw05_RevHalves.j4 kj24 t126 t127 t149 (decide ((l0.length : Int) < 2))) else (abacistlaw05_RevHalves.j4 kj24 t126 t127 t149 true)) = some r := H
                        have A50 := Aside0.mk A500
                        clear A500
                        have HC51 := Aside0.mk H
                        clear H
                        go_upto_region 17 with (first | ((with_reducible refine gate_callee (f := 32) rfl ?_); refine goesL_ (some 106) rfl rfl Tryd.func32 (by kernel_rfl) rfl #[.slice A0 l0.length c0] rfl (by (try simp only [List.map_toArray, List.map_cons, List.map_nil]); first | done | rfl | (simp only [List.length_drop, List.length_take]; rfl)) ?_; (with_reducible refine (rev_Turn.calls _ _ l0 t149 t150 _ ?side1 ?side2 A50.out (TabOK.below hT (by repeat (first | (with_reducible first | exact HB.out | apply below_alloc | apply pw_below_drewN | apply below_drew1) | exact HB.out)))).mono ?_); (case side1 => repeat (first | exact (Kd.C_below HR0.out HB.out) | (with_reducible refine Kd.C_alloc ?_ _) | (with_reducible refine Kd.C_drewN ?_ _) | (with_reducible refine Kd.C_drew ?_))); (case side2 => exact HC0.out); rintro e w52 ⟨v151, rfl, ho0, hb⟩; refine ⟨_, rfl, ?_⟩; have n0_ := Aside0.mk (Kd.R_elder' (by (with_reducible repeat (first | apply Kd.R_alloc | apply Kd.R_drewN | apply Kd.R_drew)); exact HO_5.out) (Kd.R_base ho0) hb); have n1_ := Aside0.mk (Kd.R_elder' (by (with_reducible repeat (first | apply Kd.R_alloc | apply Kd.R_drewN | apply Kd.R_drew)); exact HO_6.out) (Kd.R_base ho0) hb); have n2_ := Aside0.mk (Kd.R_lower (Kd.R_new' (Kd.R_new' ho0 (Kd.R_lt (by (with_reducible repeat (first | apply Kd.R_alloc | apply Kd.R_drewN | apply Kd.R_drew)); exact HO_5.out))) (Kd.R_lt (by (with_reducible repeat (first | apply Kd.R_alloc | apply Kd.R_drewN | apply Kd.R_drew)); exact HO_6.out))) (below_size (by repeat (first | (with_reducible first | exact HB.out | apply below_alloc | apply pw_below_drewN | apply below_drew1) | exact HB.out)))); have n3_ := Aside0.mk (below_step (by repeat (first | (with_reducible first | exact HB.out | apply below_alloc | apply pw_below_drewN | apply below_drew1) | exact HB.out)) hb); clear HO_5; clear HO_6; clear HB; have HO_5 := n0_; have HO_6 := n1_; have HO152 := n2_; have HB := n3_; clear n0_ n1_ n2_ n3_; (try clear hb); (try clear hb2); (try clear hk); (try clear hi); (try clear ho0)))
                        (try simp only [Act.put, List.setIfInBounds_toArray, List.set_cons_zero, List.set_cons_succ])
                        go_cut [115] (fun v115 wc => ∃ (kq : Nat) (x115_50 : Bool), v115 = .bool x115_50 ∧ Aside0 (abacistlaw05_RevHalves.j4 kq t126 t127 t149 x115_50 = some r) ∧ Aside0 (kq ≤ kj24) ∧ Aside0 (Kd.R (Kd.int .u64) 66 wc w.heap.size (fun k_ => some k_ ≠ ((.slice Ao13 t127.length co13) : Value).ownBlock ∧ some k_ ≠ (v151 : Value).ownBlock) (.slice Ao12 t126.length co12) t126) ∧ Aside0 (Kd.R (Kd.int .u64) 66 wc w.heap.size (fun k_ => some k_ ≠ ((.slice Ao12 t126.length co12) : Value).ownBlock ∧ some k_ ≠ (v151 : Value).ownBlock) (.slice Ao13 t127.length co13) t127) ∧ Aside0 (Kd.R (Kd.int .u64) 66 wc w.heap.size (fun k_ => some k_ ≠ ((.slice Ao12 t126.length co12) : Value).ownBlock ∧ some k_ ≠ ((.slice Ao13 t127.length co13) : Value).ownBlock) v151 t149) ∧ Aside0 (Below w.heap.size w wc))
                        case first =>
                          have H := HC51.out
                          clear HC51
                          by_cases c53 : t150 = 0
                          · rw [if_pos c53] at H
                            have c53b0 : (t150 == 0) = true := beq_iff_eq.mpr c53
                            have c53b1 : (t150 != 0) = false := bne_eq_false_iff_eq.mpr c53
                            clear c53
                            (first | rw [c53b0] | (simp only [i64_w, i32_w]; rw [c53b0]) | skip)
                            have H' := Aside0.mk H
                            clear H
                            go_wp2
                            go_meet
                            case rel => exact ⟨_, (decide ((l0.length : Int) < 2)), (by first | rfl | (simp; done) | (simp [*]; done)), H', ⟨by have := HJ4.out; have := HJ9.out; have := HJ21.out; have := HJ24.out; first | omega | exact Nat.le_refl _⟩, ⟨by (with_reducible repeat (first | apply Kd.R_alloc | apply Kd.R_drewN | apply Kd.R_drew)); exact HO_5.out⟩, ⟨by (with_reducible repeat (first | apply Kd.R_alloc | apply Kd.R_drewN | apply Kd.R_drew)); exact HO_6.out⟩, ⟨by (with_reducible repeat (first | apply Kd.R_alloc | apply Kd.R_drewN | apply Kd.R_drew)); exact Kd.R_mono HO152.out (fun _ hk => ⟨hk.1.2, hk.2⟩)⟩, ⟨by repeat (first | (with_reducible first | exact HB.out | apply below_alloc | apply pw_below_drewN | apply below_drew1) | exact HB.out)⟩⟩
                          · rw [if_neg c53] at H
                            have c53b0 : (t150 == 0) = false := beq_eq_false_iff_ne.mpr c53
                            have c53b1 : (t150 != 0) = true := bne_iff_ne.mpr c53
                            (first | rw [c53b0] | (simp only [i64_w, i32_w]; rw [c53b0]) | skip)
                            have H' := Aside0.mk H
                            clear H
                            go_wp2
                            go_meet
                            case rel => exact ⟨_, (true), (by first | rfl | (simp; done) | (simp [*]; done)), H', ⟨by have := HJ4.out; have := HJ9.out; have := HJ21.out; have := HJ24.out; first | omega | exact Nat.le_refl _⟩, ⟨by (with_reducible repeat (first | apply Kd.R_alloc | apply Kd.R_drewN | apply Kd.R_drew)); exact HO_5.out⟩, ⟨by (with_reducible repeat (first | apply Kd.R_alloc | apply Kd.R_drewN | apply Kd.R_drew)); exact HO_6.out⟩, ⟨by (with_reducible repeat (first | apply Kd.R_alloc | apply Kd.R_drewN | apply Kd.R_drew)); exact Kd.R_mono HO152.out (fun _ hk => ⟨hk.1.2, hk.2⟩)⟩, ⟨by repeat (first | (with_reducible first | exact HB.out | apply below_alloc | apply pw_below_drewN | apply below_drew1) | exact HB.out)⟩⟩
                        case rest =>
                          clear HC51
                          try clear c1
                          try clear c2
                          try clear p2
                          try clear c3
                          try clear c4
                          try clear c5
                          try clear c6
                          try clear c6b0
                          try clear c6b1
                          try clear p6
                          try clear c7
                          try clear c8
                          try clear c15
                          try clear c15b0
                          try clear c15b1
                          try clear c17
                          try clear c20
                          try clear c24
                          try clear c24b0
                          try clear c24b1
                          try clear c26
                          try clear c27
                          try clear c27b0
                          try clear c27b1
                          try clear c28
                          try clear c28b0
                          try clear c28b1
                          try clear c28b2
                          try clear c30
                          try clear c32
                          try clear c32b0
                          try clear c32b1
                          try clear c34
                          try clear c35
                          try clear c36
                          try clear c53
                          try clear c53b0
                          try clear c53b1
                          try clear p2
                          try clear p6
                          obtain ⟨kq, x115_50, rfl, HA, HJ50, HO_5, HO_6, HO_13, HB⟩ := hcut
                          cases kq with
                          | zero => exact absurd HA.out (by simp [abacistlaw05_RevHalves.j4])
                          | succ kj50 =>
                            have H := HA.out
                            clear HA
                            simp only [abacistlaw05_RevHalves.j4] at H
                            by_cases c54 : x115_50 = true
                            · subst c54
                              have H1 : (some true) = some r := by rw [if_pos rfl] at H; exact H
                              clear H
                              have H := H1
                              clear H1
                              obtain rfl := Option.some.inj H
                              go_wp2
                              go_ret
                              exact ⟨by first | rfl | (simp [errW_none, errW_some] <;> rfl) | (simp [*, errW_none, errW_some] <;> rfl), by repeat (first | (with_reducible first | exact HB.out | apply below_alloc | apply pw_below_drewN | apply below_drew1) | exact HB.out)⟩
                            · replace c54 := Bool.eq_false_iff.mpr c54
                              subst c54
                              have H1 : ((rev_Turn.f t126).bind fun bt153 => ((rev_Turn.f t127).bind fun bt157 => (if bt153.2 = 0 then (if bt157.2 = 0 then ((some (([] : List Int) : List Int)).bind fun y161 => (if y161.length + bt153.1.length < 17592186044416 then ((some (y161 ++ bt153.1 : List Int)).bind fun y164 => (if y164.length + bt157.1.length < 17592186044416 then ((abacistref04_Same.f kj50 t149 (y164 ++ bt157.1)).bind fun t170 => (some t170)) else (none))) else (none))) else (some false)) else (some false)))) = some r := by rw [if_neg (show ¬ (false = true) by decide)] at H; exact H
                              clear H
                              have H := H1
                              clear H1
                              replace H := Option.bind_eq_some_iff.mp H
                              obtain ⟨⟨t153, t154⟩, A550, H⟩ := H
                              replace H : ((rev_Turn.f t127).bind fun bt157 => (if t154 = 0 then (if bt157.2 = 0 then ((some (([] : List Int) : List Int)).bind fun y161 => (if y161.length + t153.length < 17592186044416 then ((some (y161 ++ t153 : List Int)).bind fun y164 => (if y164.length + bt157.1.length < 17592186044416 then ((abacistref04_Same.f kj50 t149 (y164 ++ bt157.1)).bind fun t170 => (some t170)) else (none))) else (none))) else (some false)) else (some false))) = some r := H
                              have A55 := Aside0.mk A550
                              clear A550
                              replace H := Option.bind_eq_some_iff.mp H
                              obtain ⟨⟨t157, t158⟩, A560, H⟩ := H
                              replace H : (if t154 = 0 then (if t158 = 0 then ((some (([] : List Int) : List Int)).bind fun y161 => (if y161.length + t153.length < 17592186044416 then ((some (y161 ++ t153 : List Int)).bind fun y164 => (if y164.length + t157.length < 17592186044416 then ((abacistref04_Same.f kj50 t149 (y164 ++ t157)).bind fun t170 => (some t170)) else (none))) else (none))) else (some false)) else (some false)) = some r := H
                              have A56 := Aside0.mk A560
                              clear A560
                              by_cases c57 : t154 = 0
                              · rw [if_pos c57] at H
                                have c57b0 : (t154 == 0) = true := beq_iff_eq.mpr c57
                                have c57b1 : (t154 != 0) = false := bne_eq_false_iff_eq.mpr c57
                                clear c57
                                by_cases c58 : t158 = 0
                                · rw [if_pos c58] at H
                                  have c58b0 : (t158 == 0) = true := beq_iff_eq.mpr c58
                                  have c58b1 : (t158 != 0) = false := bne_eq_false_iff_eq.mpr c58
                                  clear c58
                                  obtain ⟨y161, hy161⟩ : ∃ y_ : List Int, y_ = (([] : List Int)) := ⟨_, rfl⟩
                                  replace H : (if y161.length + t153.length < 17592186044416 then ((some (y161 ++ t153 : List Int)).bind fun y164 => (if y164.length + t157.length < 17592186044416 then ((abacistref04_Same.f kj50 t149 (y164 ++ t157)).bind fun t170 => (some t170)) else (none))) else (none)) = some r := by first | (rw [hy161]; with_reducible exact H) | (have H2_ := (Option.bind_some _ _).symm.trans H; rw [hy161]; with_reducible exact H2_) | (have H2_ := (Option.bind_some _ _).symm.trans H; with_reducible exact H2_) | with_reducible exact H | (rw [hy161]; exact H) | exact H
                                  have Ny161 := Aside0.mk hy161
                                  clear hy161
                                  by_cases c59 : y161.length + t153.length < 17592186044416
                                  · rw [if_pos c59] at H
                                    have LMc59 := Aside0.mk c59
                                    clear c59
                                    obtain ⟨y164, hy164⟩ : ∃ y_ : List Int, y_ = (y161 ++ t153) := ⟨_, rfl⟩
                                    replace H : (if y164.length + t157.length < 17592186044416 then ((abacistref04_Same.f kj50 t149 (y164 ++ t157)).bind fun t170 => (some t170)) else (none)) = some r := by first | (rw [hy164]; with_reducible exact H) | (have H2_ := (Option.bind_some _ _).symm.trans H; rw [hy164]; with_reducible exact H2_) | (have H2_ := (Option.bind_some _ _).symm.trans H; with_reducible exact H2_) | with_reducible exact H | (rw [hy164]; exact H) | exact H
                                    have Ny164 := Aside0.mk hy164
                                    clear hy164
                                    by_cases c60 : y164.length + t157.length < 17592186044416
                                    · rw [if_pos c60] at H
                                      have LMc60 := Aside0.mk c60
                                      clear c60
                                      obtain ⟨y167, hy167⟩ : ∃ y_ : List Int, y_ = (y164 ++ t157) := ⟨_, rfl⟩
                                      replace H : ((abacistref04_Same.f kj50 t149 y167).bind fun t170 => (some t170)) = some r := by first | (rw [hy167]; with_reducible exact H) | (have H2_ := (Option.bind_some _ _).symm.trans H; rw [hy167]; with_reducible exact H2_) | (have H2_ := (Option.bind_some _ _).symm.trans H; with_reducible exact H2_) | with_reducible exact H | (rw [hy167]; exact H) | exact H
                                      have Ny167 := Aside0.mk hy167
                                      clear hy167
                                      replace H := Option.bind_eq_some_iff.mp H
                                      obtain ⟨t170, A610, H⟩ := H
                                      replace H : (some t170) = some r := H
                                      have A61 := Aside0.mk A610
                                      clear A610
                                      obtain rfl := Option.some.inj H
                                      go_wp2_with (first | ((with_reducible refine gate_callee (f := 32) rfl ?_); refine goesL_ (some 118) rfl rfl Tryd.func32 (by kernel_rfl) rfl #[.slice Ao12 t126.length co12] rfl (by (try simp only [List.map_toArray, List.map_cons, List.map_nil]); first | done | rfl | (simp only [List.length_drop, List.length_take]; rfl)) ?_; (with_reducible refine (rev_Turn.calls _ _ t126 t153 t154 _ ?side1 ?side2 A55.out (TabOK.below hT (by repeat (first | (with_reducible first | exact HB.out | apply below_alloc | apply pw_below_drewN | apply below_drew1) | exact HB.out)))).mono ?_); (case side1 => repeat (first | exact (Kd.R_reads' HO_5.out).2.2 | (with_reducible refine Kd.C_alloc ?_ _) | (with_reducible refine Kd.C_drewN ?_ _) | (with_reducible refine Kd.C_drew ?_))); (case side2 => exact (Kd.R_reads' HO_5.out).2.1); rintro e w62 ⟨v155, rfl, ho0, hb⟩; refine ⟨_, rfl, ?_⟩; have n0_ := Aside0.mk (Kd.R_elder' (by (with_reducible repeat (first | apply Kd.R_alloc | apply Kd.R_drewN | apply Kd.R_drew)); exact HO_5.out) (Kd.R_base ho0) hb); have n1_ := Aside0.mk (Kd.R_elder' (by (with_reducible repeat (first | apply Kd.R_alloc | apply Kd.R_drewN | apply Kd.R_drew)); exact HO_6.out) (Kd.R_base ho0) hb); have n2_ := Aside0.mk (Kd.R_elder' (by (with_reducible repeat (first | apply Kd.R_alloc | apply Kd.R_drewN | apply Kd.R_drew)); exact HO_13.out) (Kd.R_base ho0) hb); have n3_ := Aside0.mk (Kd.R_lower (Kd.R_new' (Kd.R_new' (Kd.R_new' ho0 (Kd.R_lt (by (with_reducible repeat (first | apply Kd.R_alloc | apply Kd.R_drewN | apply Kd.R_drew)); exact HO_5.out))) (Kd.R_lt (by (with_reducible repeat (first | apply Kd.R_alloc | apply Kd.R_drewN | apply Kd.R_drew)); exact HO_6.out))) (Kd.R_lt (by (with_reducible repeat (first | apply Kd.R_alloc | apply Kd.R_drewN | apply Kd.R_drew)); exact HO_13.out))) (below_size (by repeat (first | (with_reducible first | exact HB.out | apply below_alloc | apply pw_below_drewN | apply below_drew1) | exact HB.out)))); have n4_ := Aside0.mk (below_step (by repeat (first | (with_reducible first | exact HB.out | apply below_alloc | apply pw_below_drewN | apply below_drew1) | exact HB.out)) hb); clear HO_5; clear HO_6; clear HO_13; clear HB; have HO_5 := n0_; have HO_6 := n1_; have HO_13 := n2_; have HO156 := n3_; have HB := n4_; clear n0_ n1_ n2_ n3_ n4_; (try clear hb); (try clear hb2); (try clear hk); (try clear hi); (try clear ho0)) | ((with_reducible refine gate_callee (f := 32) rfl ?_); refine goesL_ (some 123) rfl rfl Tryd.func32 (by kernel_rfl) rfl #[.slice Ao13 t127.length co13] rfl (by (try simp only [List.map_toArray, List.map_cons, List.map_nil]); first | done | rfl | (simp only [List.length_drop, List.length_take]; rfl)) ?_; (with_reducible refine (rev_Turn.calls _ _ t127 t157 t158 _ ?side1 ?side2 A56.out (TabOK.below hT (by repeat (first | (with_reducible first | exact HB.out | apply below_alloc | apply pw_below_drewN | apply below_drew1) | exact HB.out)))).mono ?_); (case side1 => repeat (first | exact (Kd.R_reads' HO_6.out).2.2 | (with_reducible refine Kd.C_alloc ?_ _) | (with_reducible refine Kd.C_drewN ?_ _) | (with_reducible refine Kd.C_drew ?_))); (case side2 => exact (Kd.R_reads' HO_6.out).2.1); rintro e w63 ⟨v159, rfl, ho0, hb⟩; refine ⟨_, rfl, ?_⟩; have n0_ := Aside0.mk (Kd.R_elder' (by (with_reducible repeat (first | apply Kd.R_alloc | apply Kd.R_drewN | apply Kd.R_drew)); exact HO_5.out) (Kd.R_base ho0) hb); have n1_ := Aside0.mk (Kd.R_elder' (by (with_reducible repeat (first | apply Kd.R_alloc | apply Kd.R_drewN | apply Kd.R_drew)); exact HO_6.out) (Kd.R_base ho0) hb); have n2_ := Aside0.mk (Kd.R_elder' (by (with_reducible repeat (first | apply Kd.R_alloc | apply Kd.R_drewN | apply Kd.R_drew)); exact HO_13.out) (Kd.R_base ho0) hb); have n3_ := Aside0.mk (Kd.R_elder' (by (with_reducible repeat (first | apply Kd.R_alloc | apply Kd.R_drewN | apply Kd.R_drew)); exact HO156.out) (Kd.R_base ho0) hb); have n4_ := Aside0.mk (Kd.R_lower (Kd.R_new' (Kd.R_new' (Kd.R_new' (Kd.R_new' ho0 (Kd.R_lt (by (with_reducible repeat (first | apply Kd.R_alloc | apply Kd.R_drewN | apply Kd.R_drew)); exact HO_5.out))) (Kd.R_lt (by (with_reducible repeat (first | apply Kd.R_alloc | apply Kd.R_drewN | apply Kd.R_drew)); exact HO_6.out))) (Kd.R_lt (by (with_reducible repeat (first | apply Kd.R_alloc | apply Kd.R_drewN | apply Kd.R_drew)); exact HO_13.out))) (Kd.R_lt (by (with_reducible repeat (first | apply Kd.R_alloc | apply Kd.R_drewN | apply Kd.R_drew)); exact HO156.out))) (below_size (by repeat (first | (with_reducible first | exact HB.out | apply below_alloc | apply pw_below_drewN | apply below_drew1) | exact HB.out)))); have n5_ := Aside0.mk (below_step (by repeat (first | (with_reducible first | exact HB.out | apply below_alloc | apply pw_below_drewN | apply below_drew1) | exact HB.out)) hb); clear HO_5; clear HO_6; clear HO_13; clear HO156; clear HB; have HO_5 := n0_; have HO_6 := n1_; have HO_13 := n2_; have HO156 := n3_; have HO160 := n4_; have HB := n5_; clear n0_ n1_ n2_ n3_ n4_ n5_; (try clear hb); (try clear hb2); (try clear hk); (try clear hi); (try clear ho0)) | ((with_reducible refine gate_dst (N := 134) rfl ?_); (try (refine gate_guard (by rfl) ?_; dsimp only)); refine Kd.R_lit (Kd.int .u64) _ 66 ?hg (N := 134) ?hd (xs := ([] : List Int)) (inner := []) (ok := fun _ => True) (okp := fun _ => True) ?hr ?hp (fun _ hk => hk) trivial (Below.refl _ _) (Nat.le_refl _) (by simp) ?_; (case hd => rfl); (case hg => rfl); (case hr => first | (go_simp; done) | (go_simp; rfl)); (case hp => exact (Reps.none _ _)); intro v162 w64 ho65 hb hg_ hnew_; clear hg_ hnew_; (first | rw [← Ny161.out] at ho65 | (simp only [Int.reduceToNat] at ho65; rw [← Ny161.out] at ho65)); have n0_ := Aside0.mk (Kd.R_elder' (by (with_reducible repeat (first | apply Kd.R_alloc | apply Kd.R_drewN | apply Kd.R_drew)); exact HO_5.out) (Kd.R_base ho65) hb); have n1_ := Aside0.mk (Kd.R_elder' (by (with_reducible repeat (first | apply Kd.R_alloc | apply Kd.R_drewN | apply Kd.R_drew)); exact HO_6.out) (Kd.R_base ho65) hb); have n2_ := Aside0.mk (Kd.R_elder' (by (with_reducible repeat (first | apply Kd.R_alloc | apply Kd.R_drewN | apply Kd.R_drew)); exact HO_13.out) (Kd.R_base ho65) hb); have n3_ := Aside0.mk (Kd.R_elder' (by (with_reducible repeat (first | apply Kd.R_alloc | apply Kd.R_drewN | apply Kd.R_drew)); exact HO156.out) (Kd.R_base ho65) hb); have n4_ := Aside0.mk (Kd.R_elder' (by (with_reducible repeat (first | apply Kd.R_alloc | apply Kd.R_drewN | apply Kd.R_drew)); exact HO160.out) (Kd.R_base ho65) hb); have n5_ := Aside0.mk (Kd.R_lower (Kd.R_new' (Kd.R_new' (Kd.R_new' (Kd.R_new' (Kd.R_new' ho65 (Kd.R_lt (by (with_reducible repeat (first | apply Kd.R_alloc | apply Kd.R_drewN | apply Kd.R_drew)); exact HO_5.out))) (Kd.R_lt (by (with_reducible repeat (first | apply Kd.R_alloc | apply Kd.R_drewN | apply Kd.R_drew)); exact HO_6.out))) (Kd.R_lt (by (with_reducible repeat (first | apply Kd.R_alloc | apply Kd.R_drewN | apply Kd.R_drew)); exact HO_13.out))) (Kd.R_lt (by (with_reducible repeat (first | apply Kd.R_alloc | apply Kd.R_drewN | apply Kd.R_drew)); exact HO156.out))) (Kd.R_lt (by (with_reducible repeat (first | apply Kd.R_alloc | apply Kd.R_drewN | apply Kd.R_drew)); exact HO160.out))) (below_size (by repeat (first | (with_reducible first | exact HB.out | apply below_alloc | apply pw_below_drewN | apply below_drew1) | exact HB.out)))); have n6_ := Aside0.mk (below_step (by repeat (first | (with_reducible first | exact HB.out | apply below_alloc | apply pw_below_drewN | apply below_drew1) | exact HB.out)) hb); clear HO_5; clear HO_6; clear HO_13; clear HO156; clear HO160; clear HB; have HO_5 := n0_; have HO_6 := n1_; have HO_13 := n2_; have HO156 := n3_; have HO160 := n4_; have HO163 := n5_; have HB := n6_; clear n0_ n1_ n2_ n3_ n4_ n5_ n6_; clear hb ho65; obtain ⟨Ao67, co67, eo67⟩ := Kd.R_slice HO156.out; subst eo67) | ((with_reducible refine gate_builtin (b := .append) (xs := #[.tmp 134, .tmp 135]) rfl ?_); (try (refine gate_guard (by rfl) ?_; dsimp only)); at_builtin; refine Kd.R_append_rows (Kd.int .u64) (w0 := w) w.heap.size rfl (.tmp 134) (.tmp 135) 47 66 (.int .u64 0) 8 rfl Tryd.underlying47 info66 rfl (by decide) (by omega) v162 y161 t153 _ _ _ (fun k_ => some k_ ≠ (.slice Ao12 t126.length co12 : Value).ownBlock ∧ some k_ ≠ (.slice Ao13 t127.length co13 : Value).ownBlock ∧ some k_ ≠ (v151 : Value).ownBlock ∧ some k_ ≠ (.slice Ao67 t153.length co67 : Value).ownBlock ∧ some k_ ≠ (v159 : Value).ownBlock) (fun _ => False) rfl rfl ?aO ?aR (fun _ _ h => h) (fun _ h => h.elim) ?aF ?aB ?aS ?aL ?_; (case aR => repeat (first | exact (Kd.R_reads' HO156.out).2.2 | (with_reducible refine Kd.C_alloc ?_ _) | (with_reducible refine Kd.C_drewN ?_ _) | (with_reducible refine Kd.C_drew ?_))); (case aB => exact (by repeat (first | (with_reducible first | exact HB.out | apply below_alloc | apply pw_below_drewN | apply below_drew1) | exact HB.out))); (case aF => exact (fun k_ hk => ⟨Kd.fresh' (Kd.R_lt (by (with_reducible repeat (first | apply Kd.R_alloc | apply Kd.R_drewN | apply Kd.R_drew)); exact HO_5.out)) k_ hk, Kd.fresh' (Kd.R_lt (by (with_reducible repeat (first | apply Kd.R_alloc | apply Kd.R_drewN | apply Kd.R_drew)); exact HO_6.out)) k_ hk, Kd.fresh' (Kd.R_lt (by (with_reducible repeat (first | apply Kd.R_alloc | apply Kd.R_drewN | apply Kd.R_drew)); exact HO_13.out)) k_ hk, Kd.fresh' (Kd.R_lt (by (with_reducible repeat (first | apply Kd.R_alloc | apply Kd.R_drewN | apply Kd.R_drew)); exact HO156.out)) k_ hk, Kd.fresh' (Kd.R_lt (by (with_reducible repeat (first | apply Kd.R_alloc | apply Kd.R_drewN | apply Kd.R_drew)); exact HO160.out)) k_ hk⟩)); (case aO => exact (by (with_reducible repeat (first | apply Kd.R_alloc | apply Kd.R_drewN | apply Kd.R_drew)); exact Kd.R_mono HO163.out (fun _ hk => ⟨hk.1.1.1.1.2, ⟨hk.1.1.1.2, ⟨hk.1.1.2, ⟨hk.1.2, hk.2⟩⟩⟩⟩))); (case aS => exact (below_size (by repeat (first | (with_reducible first | exact HB.out | apply below_alloc | apply pw_below_drewN | apply below_drew1) | exact HB.out)))); (case aL => have := LMc59.out; omega); intro v165 w66 ho hb hg hat; rw [← Ny164.out] at ho; have n0_ := Aside0.mk (Kd.R_after (ok := (fun k_ => some k_ ≠ (.slice Ao13 t127.length co13 : Value).ownBlock ∧ some k_ ≠ (v151 : Value).ownBlock ∧ some k_ ≠ (.slice Ao67 t153.length co67 : Value).ownBlock ∧ some k_ ≠ (v159 : Value).ownBlock)) (by (with_reducible repeat (first | apply Kd.R_alloc | apply Kd.R_drewN | apply Kd.R_drew)); exact Kd.R_mono HO_5.out (fun _ hk => ⟨⟨hk.1.1.1.1, ⟨hk.1.1.1.2, ⟨hk.1.1.2, hk.1.2⟩⟩⟩, hk.2⟩)) hg hat); have n1_ := Aside0.mk (Kd.R_after (ok := (fun k_ => some k_ ≠ (.slice Ao12 t126.length co12 : Value).ownBlock ∧ some k_ ≠ (v151 : Value).ownBlock ∧ some k_ ≠ (.slice Ao67 t153.length co67 : Value).ownBlock ∧ some k_ ≠ (v159 : Value).ownBlock)) (by (with_reducible repeat (first | apply Kd.R_alloc | apply Kd.R_drewN | apply Kd.R_drew)); exact Kd.R_mono HO_6.out (fun _ hk => ⟨⟨hk.1.1.1.1, ⟨hk.1.1.1.2, ⟨hk.1.1.2, hk.1.2⟩⟩⟩, hk.2⟩)) hg hat); have n2_ := Aside0.mk (Kd.R_after (ok := (fun k_ => some k_ ≠ (.slice Ao12 t126.length co12 : Value).ownBlock ∧ some k_ ≠ (.slice Ao13 t127.length co13 : Value).ownBlock ∧ some k_ ≠ (.slice Ao67 t153.length co67 : Value).ownBlock ∧ some k_ ≠ (v159 : Value).ownBlock)) (by (with_reducible repeat (first | apply Kd.R_alloc | apply Kd.R_drewN | apply Kd.R_drew)); exact Kd.R_mono HO_13.out (fun _ hk => ⟨⟨hk.1.1.1.1, ⟨hk.1.1.1.2, ⟨hk.1.1.2, hk.1.2⟩⟩⟩, hk.2⟩)) hg hat); have n3_ := Aside0.mk (Kd.R_after (ok := (fun k_ => some k_ ≠ (.slice Ao12 t126.length co12 : Value).ownBlock ∧ some k_ ≠ (.slice Ao13 t127.length co13 : Value).ownBlock ∧ some k_ ≠ (v151 : Value).ownBlock ∧ some k_ ≠ (v159 : Value).ownBlock)) (by (with_reducible repeat (first | apply Kd.R_alloc | apply Kd.R_drewN | apply Kd.R_drew)); exact Kd.R_mono HO156.out (fun _ hk => ⟨⟨hk.1.1.1.1.2, ⟨hk.1.1.1.2, ⟨hk.1.1.2, hk.1.2⟩⟩⟩, hk.2⟩)) hg hat); have n4_ := Aside0.mk (Kd.R_after (ok := (fun k_ => some k_ ≠ (.slice Ao12 t126.length co12 : Value).ownBlock ∧ some k_ ≠ (.slice Ao13 t127.length co13 : Value).ownBlock ∧ some k_ ≠ (v151 : Value).ownBlock ∧ some k_ ≠ (.slice Ao67 t153.length co67 : Value).ownBlock)) (by (with_reducible repeat (first | apply Kd.R_alloc | apply Kd.R_drewN | apply Kd.R_drew)); exact Kd.R_mono HO160.out (fun _ hk => ⟨⟨hk.1.1.1.1.2, ⟨hk.1.1.1.2, ⟨hk.1.1.2, hk.1.2⟩⟩⟩, hk.2⟩)) hg hat); have n5_ := Aside0.mk (hb); have n6_ := Aside0.mk (ho); clear HO_5; clear HO_6; clear HO_13; clear HO156; clear HO160; clear HB; clear HO163; have HO_5 := n0_; have HO_6 := n1_; have HO_13 := n2_; have HO156 := n3_; have HO160 := n4_; have HB := n5_; have HO166 := n6_; clear n0_ n1_ n2_ n3_ n4_ n5_ n6_; clear ho hb hg hat; obtain ⟨Ao69, co69, eo69⟩ := Kd.R_slice HO160.out; subst eo69) | ((with_reducible refine gate_builtin (b := .append) (xs := #[.tmp 136, .tmp 137]) rfl ?_); (try (refine gate_guard (by rfl) ?_; dsimp only)); at_builtin; refine Kd.R_append_rows (Kd.int .u64) (w0 := w) w.heap.size rfl (.tmp 136) (.tmp 137) 47 66 (.int .u64 0) 8 rfl Tryd.underlying47 info66 rfl (by decide) (by omega) v165 y164 t157 _ _ _ (fun k_ => some k_ ≠ (.slice Ao12 t126.length co12 : Value).ownBlock ∧ some k_ ≠ (.slice Ao13 t127.length co13 : Value).ownBlock ∧ some k_ ≠ (v151 : Value).ownBlock ∧ some k_ ≠ (.slice Ao67 t153.length co67 : Value).ownBlock ∧ some k_ ≠ (.slice Ao69 t157.length co69 : Value).ownBlock) (fun _ => False) rfl rfl ?aO ?aR (fun _ _ h => h) (fun _ h => h.elim) ?aF ?aB ?aS ?aL ?_; (case aR => repeat (first | exact (Kd.R_reads' HO160.out).2.2 | (with_reducible refine Kd.C_alloc ?_ _) | (with_reducible refine Kd.C_drewN ?_ _) | (with_reducible refine Kd.C_drew ?_))); (case aB => exact (by repeat (first | (with_reducible first | exact HB.out | apply below_alloc | apply pw_below_drewN | apply below_drew1) | exact HB.out))); (case aF => exact (fun k_ hk => ⟨Kd.fresh' (Kd.R_lt (by (with_reducible repeat (first | apply Kd.R_alloc | apply Kd.R_drewN | apply Kd.R_drew)); exact HO_5.out)) k_ hk, Kd.fresh' (Kd.R_lt (by (with_reducible repeat (first | apply Kd.R_alloc | apply Kd.R_drewN | apply Kd.R_drew)); exact HO_6.out)) k_ hk, Kd.fresh' (Kd.R_lt (by (with_reducible repeat (first | apply Kd.R_alloc | apply Kd.R_drewN | apply Kd.R_drew)); exact HO_13.out)) k_ hk, Kd.fresh' (Kd.R_lt (by (with_reducible repeat (first | apply Kd.R_alloc | apply Kd.R_drewN | apply Kd.R_drew)); exact HO156.out)) k_ hk, Kd.fresh' (Kd.R_lt (by (with_reducible repeat (first | apply Kd.R_alloc | apply Kd.R_drewN | apply Kd.R_drew)); exact HO160.out)) k_ hk⟩)); (case aO => exact (by (with_reducible repeat (first | apply Kd.R_alloc | apply Kd.R_drewN | apply Kd.R_drew)); exact HO166.out)); (case aS => exact (below_size (by repeat (first | (with_reducible first | exact HB.out | apply below_alloc | apply pw_below_drewN | apply below_drew1) | exact HB.out)))); (case aL => have := LMc60.out; omega); intro v168 w68 ho hb hg hat; rw [← Ny167.out] at ho; have n0_ := Aside0.mk (Kd.R_after (ok := (fun k_ => some k_ ≠ (.slice Ao13 t127.length co13 : Value).ownBlock ∧ some k_ ≠ (v151 : Value).ownBlock ∧ some k_ ≠ (.slice Ao67 t153.length co67 : Value).ownBlock ∧ some k_ ≠ (.slice Ao69 t157.length co69 : Value).ownBlock)) (by (with_reducible repeat (first | apply Kd.R_alloc | apply Kd.R_drewN | apply Kd.R_drew)); exact HO_5.out) hg hat); have n1_ := Aside0.mk (Kd.R_after (ok := (fun k_ => some k_ ≠ (.slice Ao12 t126.length co12 : Value).ownBlock ∧ some k_ ≠ (v151 : Value).ownBlock ∧ some k_ ≠ (.slice Ao67 t153.length co67 : Value).ownBlock ∧ some k_ ≠ (.slice Ao69 t157.length co69 : Value).ownBlock)) (by (with_reducible repeat (first | apply Kd.R_alloc | apply Kd.R_drewN | apply Kd.R_drew)); exact HO_6.out) hg hat); have n2_ := Aside0.mk (Kd.R_after (ok := (fun k_ => some k_ ≠ (.slice Ao12 t126.length co12 : Value).ownBlock ∧ some k_ ≠ (.slice Ao13 t127.length co13 : Value).ownBlock ∧ some k_ ≠ (.slice Ao67 t153.length co67 : Value).ownBlock ∧ some k_ ≠ (.slice Ao69 t157.length co69 : Value).ownBlock)) (by (with_reducible repeat (first | apply Kd.R_alloc | apply Kd.R_drewN | apply Kd.R_drew)); exact HO_13.out) hg hat); have n3_ := Aside0.mk (Kd.R_after (ok := (fun k_ => some k_ ≠ (.slice Ao12 t126.length co12 : Value).ownBlock ∧ some k_ ≠ (.slice Ao13 t127.length co13 : Value).ownBlock ∧ some k_ ≠ (v151 : Value).ownBlock ∧ some k_ ≠ (.slice Ao69 t157.length co69 : Value).ownBlock)) (by (with_reducible repeat (first | apply Kd.R_alloc | apply Kd.R_drewN | apply Kd.R_drew)); exact HO156.out) hg hat); have n4_ := Aside0.mk (Kd.R_after (ok := (fun k_ => some k_ ≠ (.slice Ao12 t126.length co12 : Value).ownBlock ∧ some k_ ≠ (.slice Ao13 t127.length co13 : Value).ownBlock ∧ some k_ ≠ (v151 : Value).ownBlock ∧ some k_ ≠ (.slice Ao67 t153.length co67 : Value).ownBlock)) (by (with_reducible repeat (first | apply Kd.R_alloc | apply Kd.R_drewN | apply Kd.R_drew)); exact HO160.out) hg hat); have n5_ := Aside0.mk (hb); have n6_ := Aside0.mk (ho); clear HO_5; clear HO_6; clear HO_13; clear HO156; clear HO160; clear HB; clear HO166; have HO_5 := n0_; have HO_6 := n1_; have HO_13 := n2_; have HO156 := n3_; have HO160 := n4_; have HB := n5_; have HO169 := n6_; clear n0_ n1_ n2_ n3_ n4_ n5_ n6_; clear ho hb hg hat; obtain ⟨Ao70, co70, eo70⟩ := Kd.R_slice HO_13.out; subst eo70; obtain ⟨Ao71, co71, eo71⟩ := Kd.R_slice HO169.out; subst eo71) | (go_at_call 26; (with_reducible refine (abacistref04_Same.calls kj50 _ _ t149 _ _ y167 t170 _ ?side1 ?side2 ?side3 ?side4 A61.out).mono ?_); (case side1 => repeat (first | exact (Kd.R_reads' HO_13.out).2.2 | (with_reducible refine Kd.C_alloc ?_ _) | (with_reducible refine Kd.C_drewN ?_ _) | (with_reducible refine Kd.C_drew ?_))); (case side2 => exact (Kd.R_reads' HO_13.out).2.1); (case side3 => repeat (first | exact (Kd.R_reads' HO169.out).2.2 | (with_reducible refine Kd.C_alloc ?_ _) | (with_reducible refine Kd.C_drewN ?_ _) | (with_reducible refine Kd.C_drew ?_))); (case side4 => exact (Kd.R_reads' HO169.out).2.1); rintro e w' ⟨rfl, ⟨nd, rfl⟩⟩))
                                      go_ret
                                      exact ⟨by first | rfl | (simp [errW_none, errW_some] <;> rfl) | (simp [*, errW_none, errW_some] <;> rfl), by repeat (first | (with_reducible first | exact HB.out | apply below_alloc | apply pw_below_drewN | apply below_drew1) | exact HB.out)⟩
                                    · rw [if_neg c60] at H
                                      exact absurd H (by simp)
                                  · rw [if_neg c59] at H
                                    exact absurd H (by simp)
                                · rw [if_neg c58] at H
                                  have c58b0 : (t158 == 0) = false := beq_eq_false_iff_ne.mpr c58
                                  have c58b1 : (t158 != 0) = true := bne_iff_ne.mpr c58
                                  obtain rfl := Option.some.inj H
                                  go_wp2_with (first | ((with_reducible refine gate_callee (f := 32) rfl ?_); refine goesL_ (some 118) rfl rfl Tryd.func32 (by kernel_rfl) rfl #[.slice Ao12 t126.length co12] rfl (by (try simp only [List.map_toArray, List.map_cons, List.map_nil]); first | done | rfl | (simp only [List.length_drop, List.length_take]; rfl)) ?_; (with_reducible refine (rev_Turn.calls _ _ t126 t153 t154 _ ?side1 ?side2 A55.out (TabOK.below hT (by repeat (first | (with_reducible first | exact HB.out | apply below_alloc | apply pw_below_drewN | apply below_drew1) | exact HB.out)))).mono ?_); (case side1 => repeat (first | exact (Kd.R_reads' HO_5.out).2.2 | (with_reducible refine Kd.C_alloc ?_ _) | (with_reducible refine Kd.C_drewN ?_ _) | (with_reducible refine Kd.C_drew ?_))); (case side2 => exact (Kd.R_reads' HO_5.out).2.1); rintro e w72 ⟨v155, rfl, ho0, hb⟩; refine ⟨_, rfl, ?_⟩; have n0_ := Aside0.mk (Kd.R_elder' (by (with_reducible repeat (first | apply Kd.R_alloc | apply Kd.R_drewN | apply Kd.R_drew)); exact HO_5.out) (Kd.R_base ho0) hb); have n1_ := Aside0.mk (Kd.R_elder' (by (with_reducible repeat (first | apply Kd.R_alloc | apply Kd.R_drewN | apply Kd.R_drew)); exact HO_6.out) (Kd.R_base ho0) hb); have n2_ := Aside0.mk (Kd.R_elder' (by (with_reducible repeat (first | apply Kd.R_alloc | apply Kd.R_drewN | apply Kd.R_drew)); exact HO_13.out) (Kd.R_base ho0) hb); have n3_ := Aside0.mk (Kd.R_lower (Kd.R_new' (Kd.R_new' (Kd.R_new' ho0 (Kd.R_lt (by (with_reducible repeat (first | apply Kd.R_alloc | apply Kd.R_drewN | apply Kd.R_drew)); exact HO_5.out))) (Kd.R_lt (by (with_reducible repeat (first | apply Kd.R_alloc | apply Kd.R_drewN | apply Kd.R_drew)); exact HO_6.out))) (Kd.R_lt (by (with_reducible repeat (first | apply Kd.R_alloc | apply Kd.R_drewN | apply Kd.R_drew)); exact HO_13.out))) (below_size (by repeat (first | (with_reducible first | exact HB.out | apply below_alloc | apply pw_below_drewN | apply below_drew1) | exact HB.out)))); have n4_ := Aside0.mk (below_step (by repeat (first | (with_reducible first | exact HB.out | apply below_alloc | apply pw_below_drewN | apply below_drew1) | exact HB.out)) hb); clear HO_5; clear HO_6; clear HO_13; clear HB; have HO_5 := n0_; have HO_6 := n1_; have HO_13 := n2_; have HO156 := n3_; have HB := n4_; clear n0_ n1_ n2_ n3_ n4_; (try clear hb); (try clear hb2); (try clear hk); (try clear hi); (try clear ho0)) | ((with_reducible refine gate_callee (f := 32) rfl ?_); refine goesL_ (some 123) rfl rfl Tryd.func32 (by kernel_rfl) rfl #[.slice Ao13 t127.length co13] rfl (by (try simp only [List.map_toArray, List.map_cons, List.map_nil]); first | done | rfl | (simp only [List.length_drop, List.length_take]; rfl)) ?_; (with_reducible refine (rev_Turn.calls _ _ t127 t157 t158 _ ?side1 ?side2 A56.out (TabOK.below hT (by repeat (first | (with_reducible first | exact HB.out | apply below_alloc | apply pw_below_drewN | apply below_drew1) | exact HB.out)))).mono ?_); (case side1 => repeat (first | exact (Kd.R_reads' HO_6.out).2.2 | (with_reducible refine Kd.C_alloc ?_ _) | (with_reducible refine Kd.C_drewN ?_ _) | (with_reducible refine Kd.C_drew ?_))); (case side2 => exact (Kd.R_reads' HO_6.out).2.1); rintro e w73 ⟨v159, rfl, ho0, hb⟩; refine ⟨_, rfl, ?_⟩; have n0_ := Aside0.mk (Kd.R_elder' (by (with_reducible repeat (first | apply Kd.R_alloc | apply Kd.R_drewN | apply Kd.R_drew)); exact HO_5.out) (Kd.R_base ho0) hb); have n1_ := Aside0.mk (Kd.R_elder' (by (with_reducible repeat (first | apply Kd.R_alloc | apply Kd.R_drewN | apply Kd.R_drew)); exact HO_6.out) (Kd.R_base ho0) hb); have n2_ := Aside0.mk (Kd.R_elder' (by (with_reducible repeat (first | apply Kd.R_alloc | apply Kd.R_drewN | apply Kd.R_drew)); exact HO_13.out) (Kd.R_base ho0) hb); have n3_ := Aside0.mk (Kd.R_elder' (by (with_reducible repeat (first | apply Kd.R_alloc | apply Kd.R_drewN | apply Kd.R_drew)); exact HO156.out) (Kd.R_base ho0) hb); have n4_ := Aside0.mk (Kd.R_lower (Kd.R_new' (Kd.R_new' (Kd.R_new' (Kd.R_new' ho0 (Kd.R_lt (by (with_reducible repeat (first | apply Kd.R_alloc | apply Kd.R_drewN | apply Kd.R_drew)); exact HO_5.out))) (Kd.R_lt (by (with_reducible repeat (first | apply Kd.R_alloc | apply Kd.R_drewN | apply Kd.R_drew)); exact HO_6.out))) (Kd.R_lt (by (with_reducible repeat (first | apply Kd.R_alloc | apply Kd.R_drewN | apply Kd.R_drew)); exact HO_13.out))) (Kd.R_lt (by (with_reducible repeat (first | apply Kd.R_alloc | apply Kd.R_drewN | apply Kd.R_drew)); exact HO156.out))) (below_size (by repeat (first | (with_reducible first | exact HB.out | apply below_alloc | apply pw_below_drewN | apply below_drew1) | exact HB.out)))); have n5_ := Aside0.mk (below_step (by repeat (first | (with_reducible first | exact HB.out | apply below_alloc | apply pw_below_drewN | apply below_drew1) | exact HB.out)) hb); clear HO_5; clear HO_6; clear HO_13; clear HO156; clear HB; have HO_5 := n0_; have HO_6 := n1_; have HO_13 := n2_; have HO156 := n3_; have HO160 := n4_; have HB := n5_; clear n0_ n1_ n2_ n3_ n4_ n5_; (try clear hb); (try clear hb2); (try clear hk); (try clear hi); (try clear ho0)))
                                  go_ret
                                  exact ⟨by first | rfl | (simp [errW_none, errW_some] <;> rfl) | (simp [*, errW_none, errW_some] <;> rfl), by repeat (first | (with_reducible first | exact HB.out | apply below_alloc | apply pw_below_drewN | apply below_drew1) | exact HB.out)⟩
                              · rw [if_neg c57] at H
                                have c57b0 : (t154 == 0) = false := beq_eq_false_iff_ne.mpr c57
                                have c57b1 : (t154 != 0) = true := bne_iff_ne.mpr c57
                                obtain rfl := Option.some.inj H
                                go_wp2_with (first | ((with_reducible refine gate_callee (f := 32) rfl ?_); refine goesL_ (some 118) rfl rfl Tryd.func32 (by kernel_rfl) rfl #[.slice Ao12 t126.length co12] rfl (by (try simp only [List.map_toArray, List.map_cons, List.map_nil]); first | done | rfl | (simp only [List.length_drop, List.length_take]; rfl)) ?_; (with_reducible refine (rev_Turn.calls _ _ t126 t153 t154 _ ?side1 ?side2 A55.out (TabOK.below hT (by repeat (first | (with_reducible first | exact HB.out | apply below_alloc | apply pw_below_drewN | apply below_drew1) | exact HB.out)))).mono ?_); (case side1 => repeat (first | exact (Kd.R_reads' HO_5.out).2.2 | (with_reducible refine Kd.C_alloc ?_ _) | (with_reducible refine Kd.C_drewN ?_ _) | (with_reducible refine Kd.C_drew ?_))); (case side2 => exact (Kd.R_reads' HO_5.out).2.1); rintro e w74 ⟨v155, rfl, ho0, hb⟩; refine ⟨_, rfl, ?_⟩; have n0_ := Aside0.mk (Kd.R_elder' (by (with_reducible repeat (first | apply Kd.R_alloc | apply Kd.R_drewN | apply Kd.R_drew)); exact HO_5.out) (Kd.R_base ho0) hb); have n1_ := Aside0.mk (Kd.R_elder' (by (with_reducible repeat (first | apply Kd.R_alloc | apply Kd.R_drewN | apply Kd.R_drew)); exact HO_6.out) (Kd.R_base ho0) hb); have n2_ := Aside0.mk (Kd.R_elder' (by (with_reducible repeat (first | apply Kd.R_alloc | apply Kd.R_drewN | apply Kd.R_drew)); exact HO_13.out) (Kd.R_base ho0) hb); have n3_ := Aside0.mk (Kd.R_lower (Kd.R_new' (Kd.R_new' (Kd.R_new' ho0 (Kd.R_lt (by (with_reducible repeat (first | apply Kd.R_alloc | apply Kd.R_drewN | apply Kd.R_drew)); exact HO_5.out))) (Kd.R_lt (by (with_reducible repeat (first | apply Kd.R_alloc | apply Kd.R_drewN | apply Kd.R_drew)); exact HO_6.out))) (Kd.R_lt (by (with_reducible repeat (first | apply Kd.R_alloc | apply Kd.R_drewN | apply Kd.R_drew)); exact HO_13.out))) (below_size (by repeat (first | (with_reducible first | exact HB.out | apply below_alloc | apply pw_below_drewN | apply below_drew1) | exact HB.out)))); have n4_ := Aside0.mk (below_step (by repeat (first | (with_reducible first | exact HB.out | apply below_alloc | apply pw_below_drewN | apply below_drew1) | exact HB.out)) hb); clear HO_5; clear HO_6; clear HO_13; clear HB; have HO_5 := n0_; have HO_6 := n1_; have HO_13 := n2_; have HO156 := n3_; have HB := n4_; clear n0_ n1_ n2_ n3_ n4_; (try clear hb); (try clear hb2); (try clear hk); (try clear hi); (try clear ho0)) | ((with_reducible refine gate_callee (f := 32) rfl ?_); refine goesL_ (some 123) rfl rfl Tryd.func32 (by kernel_rfl) rfl #[.slice Ao13 t127.length co13] rfl (by (try simp only [List.map_toArray, List.map_cons, List.map_nil]); first | done | rfl | (simp only [List.length_drop, List.length_take]; rfl)) ?_; (with_reducible refine (rev_Turn.calls _ _ t127 t157 t158 _ ?side1 ?side2 A56.out (TabOK.below hT (by repeat (first | (with_reducible first | exact HB.out | apply below_alloc | apply pw_below_drewN | apply below_drew1) | exact HB.out)))).mono ?_); (case side1 => repeat (first | exact (Kd.R_reads' HO_6.out).2.2 | (with_reducible refine Kd.C_alloc ?_ _) | (with_reducible refine Kd.C_drewN ?_ _) | (with_reducible refine Kd.C_drew ?_))); (case side2 => exact (Kd.R_reads' HO_6.out).2.1); rintro e w75 ⟨v159, rfl, ho0, hb⟩; refine ⟨_, rfl, ?_⟩; have n0_ := Aside0.mk (Kd.R_elder' (by (with_reducible repeat (first | apply Kd.R_alloc | apply Kd.R_drewN | apply Kd.R_drew)); exact HO_5.out) (Kd.R_base ho0) hb); have n1_ := Aside0.mk (Kd.R_elder' (by (with_reducible repeat (first | apply Kd.R_alloc | apply Kd.R_drewN | apply Kd.R_drew)); exact HO_6.out) (Kd.R_base ho0) hb); have n2_ := Aside0.mk (Kd.R_elder' (by (with_reducible repeat (first | apply Kd.R_alloc | apply Kd.R_drewN | apply Kd.R_drew)); exact HO_13.out) (Kd.R_base ho0) hb); have n3_ := Aside0.mk (Kd.R_elder' (by (with_reducible repeat (first | apply Kd.R_alloc | apply Kd.R_drewN | apply Kd.R_drew)); exact HO156.out) (Kd.R_base ho0) hb); have n4_ := Aside0.mk (Kd.R_lower (Kd.R_new' (Kd.R_new' (Kd.R_new' (Kd.R_new' ho0 (Kd.R_lt (by (with_reducible repeat (first | apply Kd.R_alloc | apply Kd.R_drewN | apply Kd.R_drew)); exact HO_5.out))) (Kd.R_lt (by (with_reducible repeat (first | apply Kd.R_alloc | apply Kd.R_drewN | apply Kd.R_drew)); exact HO_6.out))) (Kd.R_lt (by (with_reducible repeat (first | apply Kd.R_alloc | apply Kd.R_drewN | apply Kd.R_drew)); exact HO_13.out))) (Kd.R_lt (by (with_reducible repeat (first | apply Kd.R_alloc | apply Kd.R_drewN | apply Kd.R_drew)); exact HO156.out))) (below_size (by repeat (first | (with_reducible first | exact HB.out | apply below_alloc | apply pw_below_drewN | apply below_drew1) | exact HB.out)))); have n5_ := Aside0.mk (below_step (by repeat (first | (with_reducible first | exact HB.out | apply below_alloc | apply pw_below_drewN | apply below_drew1) | exact HB.out)) hb); clear HO_5; clear HO_6; clear HO_13; clear HO156; clear HB; have HO_5 := n0_; have HO_6 := n1_; have HO_13 := n2_; have HO156 := n3_; have HO160 := n4_; have HB := n5_; clear n0_ n1_ n2_ n3_ n4_ n5_; (try clear hb); (try clear hb2); (try clear hk); (try clear hi); (try clear ho0)))
                                go_ret
                                exact ⟨by first | rfl | (simp [errW_none, errW_some] <;> rfl) | (simp [*, errW_none, errW_some] <;> rfl), by repeat (first | (with_reducible first | exact HB.out | apply below_alloc | apply pw_below_drewN | apply below_drew1) | exact HB.out)⟩
  · replace c4 := Bool.eq_false_iff.mpr c4
    subst c4
    have H1 : (some false) = some r := by rw [if_neg (show ¬ (false = true) by decide)] at H; exact H
    clear H
    have H := H1
    clear H1
    obtain rfl := Option.some.inj H
    go_enter Tryd.func8, Tryd.ntmps8
    go_wp2_with (first | ((with_reducible refine gate_callee (f := 30) rfl ?_); refine goesL_ (some 19) rfl rfl Tryd.func30 (by kernel_rfl) rfl #[] rfl (by (try simp only [List.map_toArray, List.map_cons, List.map_nil]); first | done | rfl | (simp only [List.length_drop, List.length_take]; rfl)) ?_; (with_reducible refine (abacistlaw05_awake.calls  false _ A3.out).mono ?_); rintro e w' ⟨rfl, ⟨nd, rfl⟩⟩; refine ⟨_, rfl, ?_⟩))
    go_ret
    exact ⟨by first | rfl | (simp [errW_none, errW_some] <;> rfl) | (simp [*, errW_none, errW_some] <;> rfl), by repeat (first | (with_reducible first | exact HB.out | apply below_alloc | apply pw_below_drewN | apply below_drew1) | exact HB.out)⟩

/-- THE ONE PURE STATEMENT of abacistlaw05_RevHalves: yours. -/
def abacistlaw05_RevHalves.Pure : Prop := ∀ (l0 : List Int) (l1 : List Int), l0.length ≤ maxLen → l0.length * 8 ≤ 140737488351232 → (∀ x ∈ l0, (Lit.int .u64 x).wf = true) → l1.length ≤ maxLen → l1.length * 8 ≤ 140737488351232 → (∀ x ∈ l1, (Lit.int .u64 x).wf = true) → ∃ k, abacistlaw05_RevHalves.f k l0 l1 = some true
theorem abacistlaw05_RevHalves.walk (P : abacistlaw05_RevHalves.Pure) (a0 : Option Addr) (len0 cap0 : Nat) (z0 : List Int) (a1 : Option Addr) (len1 cap1 : Nat) (z1 : List Int) (w : World) (w0 : (a0 = none ∧ len0 = 0 ∧ cap0 = 0 ∧ z0 = []) ∨ ∃ x, a0 = some x ∧ len0 ≤ cap0 ∧ cap0 ≤ maxLen ∧ z0.length = cap0 ∧ (∀ i, i < z0.length → w.cell? (x.add i) = some (.int .u64 (z0.getD i 0))) ∧ ∀ n ∈ z0, (Lit.int .u64 n).wf = true) (y0 : len0 * 8 ≤ 140737488351232) (w1 : (a1 = none ∧ len1 = 0 ∧ cap1 = 0 ∧ z1 = []) ∨ ∃ x, a1 = some x ∧ len1 ≤ cap1 ∧ cap1 ≤ maxLen ∧ z1.length = cap1 ∧ (∀ i, i < z1.length → w.cell? (x.add i) = some (.int .u64 (z1.getD i 0))) ∧ ∀ n ∈ z1, (Lit.int .u64 n).wf = true) (y1 : len1 * 8 ≤ 140737488351232) (hT : TabOK w) :
    Calls Tryd.prog 8 #[.slice a0 len0 cap0, .slice a1 len1 cap1] w fun e w' => e = .returned (.bool true) ∧ Below w.heap.size w w' := by
  obtain ⟨l0, rfl, hr0, hm0, hw0, hc0⟩ := ReadsInt.ofRowC w0
  obtain ⟨l1, rfl, hr1, hm1, hw1, hc1⟩ := ReadsInt.ofRowC w1
  obtain ⟨k, h⟩ := P l0 l1 hm0 y0 hw0 hm1 y1 hw1
  refine (abacistlaw05_RevHalves.calls k _ _ l0 _ _ l1 true w (Kd.C_of_reads (d := (0 : Int)) (h1 := fun _ => rfl) hr0) hc0 (Kd.C_of_reads (d := (0 : Int)) (h1 := fun _ => rfl) hr1) hc1 h hT).mono ?_
  rintro e w' ⟨rfl, hd⟩
  exact ⟨rfl, hd⟩

/-! ### abacistref03_Fits: function 31 -/
def abacistref03_Fits.l0 : Nat → Int → Int → Int → Option (Int)
  | 0, _, _, _ => none
  | k + 1, x0, x3, x4 => if x4 ≤ 32 then (if x0 = x3 then (some x4) else (abacistref03_Fits.l0 k x0 (wrap64 (2 * x3)) (wrap64 (x4 + 1)))) else (some (-1))
def abacistref03_Fits.f (k : Nat) (a0 : Int) : Option (Int) := abacistref03_Fits.l0 k a0 1 0
theorem abacistref03_Fits.mono_l : ∀ k, (∀ y0 y1 y2, LeO (abacistref03_Fits.l0 k y0 y1 y2) (abacistref03_Fits.l0 (k + 1) y0 y1 y2))
  | 0 => fun _ _ _ r h => by simp [abacistref03_Fits.l0] at h
  | k + 1 => by
    have ih0 := abacistref03_Fits.mono_l k
    · intro y0 y1 y2
      unfold abacistref03_Fits.l0
      repeat' first
      | (with_reducible exact ih0 _ _ _)
      | (with_reducible exact LeO.refl _)
      | (with_reducible exact LeO.none _)
      | (with_reducible refine LeO.ite ?_ ?_)
      | (with_reducible refine LeO.bind ?_ (fun _ => ?_))
      | exact ih0 _ _ _
      | exact LeO.none _
      | refine LeO.ite ?_ ?_
      | refine LeO.bind ?_ (fun _ => ?_)
theorem abacistref03_Fits.mono : ∀ a0 k, LeO (abacistref03_Fits.f k a0) (abacistref03_Fits.f (k + 1) a0) := by
  intro a0 k
  have ih0 := abacistref03_Fits.mono_l k
  unfold abacistref03_Fits.f
  repeat' first
      | (with_reducible exact ih0 _ _ _)
      | (with_reducible exact LeO.refl _)
      | (with_reducible exact LeO.none _)
      | (with_reducible refine LeO.ite ?_ ?_)
      | (with_reducible refine LeO.bind ?_ (fun _ => ?_))
      | exact ih0 _ _ _
      | exact LeO.none _
      | refine LeO.ite ?_ ?_
      | refine LeO.bind ?_ (fun _ => ?_)
set_option maxHeartbeats 8000000 in
set_option maxRecDepth 100000 in
theorem abacistref03_Fits.calls (k : Nat) (a0 : Int) (r : Int) (w : World) (h : abacistref03_Fits.f k a0 = some r) :
    Calls Tryd.prog 31 #[.int .i64 a0] w fun e w' => e = .returned (.int .i64 r) ∧ Drawn0 w w' := by
  have H : (abacistref03_Fits.l0 k a0 1 0) = some r := h
  clear h
  have H' := Aside0.mk H
  clear H
  go_enter Tryd.func31, Tryd.ntmps31
  go_wp2
  go_loopg [3, 4] k (fun kq v3 v4 w' => ∃ (x3_1 : Int) (x4_1 : Int), v3 = .int .i64 x3_1 ∧ v4 = .int .i64 x4_1 ∧ Aside0 (abacistref03_Fits.l0 kq a0 x3_1 x4_1 = some r) ∧ Aside0 (kq ≤ k) ∧ Drawn0 w w')
  case atStart => exact ⟨(1), (0), (by first | rfl | (simp; done) | (simp [*]; done)), (by first | rfl | (simp; done) | (simp [*]; done)), H', ⟨Nat.le_refl _⟩, by repeat (first | exact Drawn0.refl _ | apply Drawn0.step)⟩
  case round =>
    clear H'
    obtain ⟨x3_1, x4_1, rfl, rfl, HA, HK1, ⟨m1, rfl⟩⟩ := hrel
    cases gk with
    | zero => exact absurd HA.out (by simp [abacistref03_Fits.l0])
    | succ k1 =>
      have H := HA.out
      clear HA
      simp only [abacistref03_Fits.l0] at H
      by_cases c2 : x4_1 ≤ 32
      · rw [if_pos c2] at H
        have c2b0 : decide (x4_1 ≤ 32) = true := decide_eq_true c2
        clear c2
        by_cases c3 : a0 = x3_1
        · rw [if_pos c3] at H
          have c3b0 : (a0 == x3_1) = true := beq_iff_eq.mpr c3
          have c3b1 : (a0 != x3_1) = false := bne_eq_false_iff_eq.mpr c3
          clear c3
          obtain rfl := Option.some.inj H
          go_wp2
          go_ret
          exact ⟨by first | rfl | (simp; done) | (simp [*]; done), by repeat (first | exact Drawn0.refl _ | apply Drawn0.step)⟩
        · rw [if_neg c3] at H
          have c3b0 : (a0 == x3_1) = false := beq_eq_false_iff_ne.mpr c3
          have c3b1 : (a0 != x3_1) = true := bne_iff_ne.mpr c3
          have H' := Aside0.mk H
          clear H
          go_wp2
          go_roundg k1
          case measure => have := HK1.out; omega
          case rel => exact ⟨(wrap64 (2 * x3_1)), (wrap64 (x4_1 + 1)), (by first | rfl | (simp; done) | (simp [*]; done)), (by first | rfl | (simp; done) | (simp [*]; done)), H', ⟨by have := HK1.out; omega⟩, by repeat (first | exact Drawn0.refl _ | apply Drawn0.step)⟩
      · rw [if_neg c2] at H
        have c2b0 : decide (x4_1 ≤ 32) = false := decide_eq_false c2
        clear c2
        obtain rfl := Option.some.inj H
        go_wp2
        go_ret
        exact ⟨by first | rfl | (simp; done) | (simp [*]; done), by repeat (first | exact Drawn0.refl _ | apply Drawn0.step)⟩

end Go.Proofs.YthppiphldaopnaaDoor.PRev
