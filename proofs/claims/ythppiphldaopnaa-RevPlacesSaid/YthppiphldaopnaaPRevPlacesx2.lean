-- PRINTED BY print.sh 35421559b90ae4d0a3588c463048766b98c2df88dd9212a6774a882060cdf62d: not written by this session
import Derived.Test.YthppiphldaopnaaPRevPlacesx0
import Derived.Test.YthppiphldaopnaaPRevPlacesx1
namespace Go.Proofs.Ythppiphldaopnaa.PRevPlaces
open Go.RowKit Go.Proofs.YthppiphldaopnaaW.PrintWords Go.Proofs.YthppiphldaopnaaW.PrintLast Go.Proofs.YthppiphldaopnaaW.PrintMore
attribute [local go_sem] max2_int min2_int max_two min_two max_three min_three max_four min_four   -- for this text's walks alone
set_option linter.unusedVariables false
set_option linter.unusedSimpArgs false

/-! ### abacistlaw05_RevPlaces: function 3 -/
mutual
def abacistlaw05_RevPlaces.j0 : Nat → Int → Int → Int → Int → Int → Int → Int → Bool → Option (Bool)
  | 0, _, _, _, _, _, _, _, _ => none
  | k + 1, x0, x1, x2, x7, x8, x9, x10, x46 => if x46 = true then (if x8 = 1 then (if x10 = 1 then (if x7 = 0 then (some (x9 == 0)) else (some false)) else (some false)) else (some false)) else ((rev_Bits.f x7 x1).bind fun bt115 => (if x8 = 0 then (if bt115.2 = 0 then ((abacistref05_Digits.f k x0 x1 1).bind fun t117 => (if x7 = t117 then (abacistlaw05_RevPlaces.j1 k x0 x1 x2 x9 x10 (bt115.1 != x0)) else (abacistlaw05_RevPlaces.j1 k x0 x1 x2 x9 x10 true))) else (abacistlaw05_RevPlaces.j1 k x0 x1 x2 x9 x10 true)) else (abacistlaw05_RevPlaces.j1 k x0 x1 x2 x9 x10 true)))
def abacistlaw05_RevPlaces.j1 : Nat → Int → Int → Int → Int → Int → Bool → Option (Bool)
  | 0, _, _, _, _, _, _ => none
  | k + 1, x0, x1, x2, x9, x10, x84 => if x84 = true then (some false) else (if x2 < 1 then (abacistlaw05_RevPlaces.j2 k x0 x1 x2 x9 x10 true) else (if x2 > 8 then (abacistlaw05_RevPlaces.j2 k x0 x1 x2 x9 x10 true) else (if x2 = 0 then (none) else (abacistlaw05_RevPlaces.j2 k x0 x1 x2 x9 x10 ((Int.tmod x1 x2) != 0)))))
def abacistlaw05_RevPlaces.j2 : Nat → Int → Int → Int → Int → Int → Bool → Option (Bool)
  | 0, _, _, _, _, _, _ => none
  | k + 1, x0, x1, x2, x9, x10, x96 => if x96 = true then (if x10 = 1 then (some (x9 == 0)) else (some false)) else ((rev_Digits.f k x9 x1 x2).bind fun bt118 => (if x10 = 0 then (if bt118.2 = 0 then ((abacistref05_Digits.f k x0 x1 x2).bind fun t120 => (if x9 = t120 then (some (bt118.1 == x0)) else (some false))) else (some false)) else (some false)))
end
def abacistlaw05_RevPlaces.f (k : Nat) (a0 : Int) (a1 : Int) (a2 : Int) : Option (Bool) := (abacistlaw05_awake.f).bind fun t110 => (if t110 = true then ((rev_Bits.f a0 a1).bind fun bt111 => ((rev_Digits.f k a0 a1 a2).bind fun bt113 => (if a1 < 0 then (abacistlaw05_RevPlaces.j0 k a0 a1 a2 bt111.1 bt111.2 bt113.1 bt113.2 true) else (if a1 > 32 then (abacistlaw05_RevPlaces.j0 k a0 a1 a2 bt111.1 bt111.2 bt113.1 bt113.2 true) else (if a0 < 0 then (abacistlaw05_RevPlaces.j0 k a0 a1 a2 bt111.1 bt111.2 bt113.1 bt113.2 true) else (if 0 ≤ (IntKind.u64.wrap (a1)) then (abacistlaw05_RevPlaces.j0 k a0 a1 a2 bt111.1 bt111.2 bt113.1 bt113.2 (decide (a0 ≥ (shl .i64 1 (IntKind.u64.wrap (a1)))))) else (none))))))) else (some false))
theorem abacistlaw05_RevPlaces.mono_l : ∀ k, (∀ y0 y1 y2 y3 y4 y5 y6 y7, LeO (abacistlaw05_RevPlaces.j0 k y0 y1 y2 y3 y4 y5 y6 y7) (abacistlaw05_RevPlaces.j0 (k + 1) y0 y1 y2 y3 y4 y5 y6 y7)) ∧ (∀ y0 y1 y2 y3 y4 y5, LeO (abacistlaw05_RevPlaces.j1 k y0 y1 y2 y3 y4 y5) (abacistlaw05_RevPlaces.j1 (k + 1) y0 y1 y2 y3 y4 y5)) ∧ (∀ y0 y1 y2 y3 y4 y5, LeO (abacistlaw05_RevPlaces.j2 k y0 y1 y2 y3 y4 y5) (abacistlaw05_RevPlaces.j2 (k + 1) y0 y1 y2 y3 y4 y5))
  | 0 => ⟨fun _ _ _ _ _ _ _ _ r h => by simp [abacistlaw05_RevPlaces.j0] at h, fun _ _ _ _ _ _ r h => by simp [abacistlaw05_RevPlaces.j1] at h, fun _ _ _ _ _ _ r h => by simp [abacistlaw05_RevPlaces.j2] at h⟩
  | k + 1 => by
    obtain ⟨ih0, ih1, ih2⟩ := abacistlaw05_RevPlaces.mono_l k
    refine ⟨?_, ?_, ?_⟩
    · intro y0 y1 y2 y3 y4 y5 y6 y7
      unfold abacistlaw05_RevPlaces.j0
      repeat' first
      | (with_reducible exact ih0 _ _ _ _ _ _ _ _)
      | (with_reducible exact ih1 _ _ _ _ _ _)
      | (with_reducible exact ih2 _ _ _ _ _ _)
      | (with_reducible exact abacistref05_Digits.mono _ _ _ _)
      | (with_reducible exact rev_Digits.mono _ _ _ _)
      | (with_reducible exact LeO.refl _)
      | (with_reducible exact LeO.none _)
      | (with_reducible refine LeO.ite ?_ ?_)
      | (with_reducible refine LeO.bind ?_ (fun _ => ?_))
      | exact ih0 _ _ _ _ _ _ _ _
      | exact ih1 _ _ _ _ _ _
      | exact ih2 _ _ _ _ _ _
      | exact abacistref05_Digits.mono _ _ _ _
      | exact rev_Digits.mono _ _ _ _
      | exact LeO.none _
      | refine LeO.ite ?_ ?_
      | refine LeO.bind ?_ (fun _ => ?_)
    · intro y0 y1 y2 y3 y4 y5
      unfold abacistlaw05_RevPlaces.j1
      repeat' first
      | (with_reducible exact ih0 _ _ _ _ _ _ _ _)
      | (with_reducible exact ih1 _ _ _ _ _ _)
      | (with_reducible exact ih2 _ _ _ _ _ _)
      | (with_reducible exact abacistref05_Digits.mono _ _ _ _)
      | (with_reducible exact rev_Digits.mono _ _ _ _)
      | (with_reducible exact LeO.refl _)
      | (with_reducible exact LeO.none _)
      | (with_reducible refine LeO.ite ?_ ?_)
      | (with_reducible refine LeO.bind ?_ (fun _ => ?_))
      | exact ih0 _ _ _ _ _ _ _ _
      | exact ih1 _ _ _ _ _ _
      | exact ih2 _ _ _ _ _ _
      | exact abacistref05_Digits.mono _ _ _ _
      | exact rev_Digits.mono _ _ _ _
      | exact LeO.none _
      | refine LeO.ite ?_ ?_
      | refine LeO.bind ?_ (fun _ => ?_)
    · intro y0 y1 y2 y3 y4 y5
      unfold abacistlaw05_RevPlaces.j2
      repeat' first
      | (with_reducible exact ih0 _ _ _ _ _ _ _ _)
      | (with_reducible exact ih1 _ _ _ _ _ _)
      | (with_reducible exact ih2 _ _ _ _ _ _)
      | (with_reducible exact abacistref05_Digits.mono _ _ _ _)
      | (with_reducible exact rev_Digits.mono _ _ _ _)
      | (with_reducible exact LeO.refl _)
      | (with_reducible exact LeO.none _)
      | (with_reducible refine LeO.ite ?_ ?_)
      | (with_reducible refine LeO.bind ?_ (fun _ => ?_))
      | exact ih0 _ _ _ _ _ _ _ _
      | exact ih1 _ _ _ _ _ _
      | exact ih2 _ _ _ _ _ _
      | exact abacistref05_Digits.mono _ _ _ _
      | exact rev_Digits.mono _ _ _ _
      | exact LeO.none _
      | refine LeO.ite ?_ ?_
      | refine LeO.bind ?_ (fun _ => ?_)
theorem abacistlaw05_RevPlaces.mono : ∀ a0 a1 a2 k, LeO (abacistlaw05_RevPlaces.f k a0 a1 a2) (abacistlaw05_RevPlaces.f (k + 1) a0 a1 a2) := by
  intro a0 a1 a2 k
  obtain ⟨ih0, ih1, ih2⟩ := abacistlaw05_RevPlaces.mono_l k
  unfold abacistlaw05_RevPlaces.f
  repeat' first
      | (with_reducible exact ih0 _ _ _ _ _ _ _ _)
      | (with_reducible exact ih1 _ _ _ _ _ _)
      | (with_reducible exact ih2 _ _ _ _ _ _)
      | (with_reducible exact abacistref05_Digits.mono _ _ _ _)
      | (with_reducible exact rev_Digits.mono _ _ _ _)
      | (with_reducible exact LeO.refl _)
      | (with_reducible exact LeO.none _)
      | (with_reducible refine LeO.ite ?_ ?_)
      | (with_reducible refine LeO.bind ?_ (fun _ => ?_))
      | exact ih0 _ _ _ _ _ _ _ _
      | exact ih1 _ _ _ _ _ _
      | exact ih2 _ _ _ _ _ _
      | exact abacistref05_Digits.mono _ _ _ _
      | exact rev_Digits.mono _ _ _ _
      | exact LeO.none _
      | refine LeO.ite ?_ ?_
      | refine LeO.bind ?_ (fun _ => ?_)
set_option maxHeartbeats 8000000 in
set_option maxRecDepth 100000 in
theorem abacistlaw05_RevPlaces.calls (k : Nat) (a0 : Int) (a1 : Int) (a2 : Int) (r : Bool) (w : World) (h : abacistlaw05_RevPlaces.f k a0 a1 a2 = some r) :
    Calls Try.prog 3 #[.int .i64 a0, .int .i64 a1, .int .i64 a2] w fun e w' => e = .returned (.bool r) ∧ Drawn0 w w' := by
  have H : ((abacistlaw05_awake.f).bind fun t110 => (if t110 = true then ((rev_Bits.f a0 a1).bind fun bt111 => ((rev_Digits.f k a0 a1 a2).bind fun bt113 => (if a1 < 0 then (abacistlaw05_RevPlaces.j0 k a0 a1 a2 bt111.1 bt111.2 bt113.1 bt113.2 true) else (if a1 > 32 then (abacistlaw05_RevPlaces.j0 k a0 a1 a2 bt111.1 bt111.2 bt113.1 bt113.2 true) else (if a0 < 0 then (abacistlaw05_RevPlaces.j0 k a0 a1 a2 bt111.1 bt111.2 bt113.1 bt113.2 true) else (if 0 ≤ (IntKind.u64.wrap (a1)) then (abacistlaw05_RevPlaces.j0 k a0 a1 a2 bt111.1 bt111.2 bt113.1 bt113.2 (decide (a0 ≥ (shl .i64 1 (IntKind.u64.wrap (a1)))))) else (none))))))) else (some false))) = some r := h
  clear h
  replace H := Option.bind_eq_some_iff.mp H
  obtain ⟨t110, A40, H⟩ := H
  replace H : (if t110 = true then ((rev_Bits.f a0 a1).bind fun bt111 => ((rev_Digits.f k a0 a1 a2).bind fun bt113 => (if a1 < 0 then (abacistlaw05_RevPlaces.j0 k a0 a1 a2 bt111.1 bt111.2 bt113.1 bt113.2 true) else (if a1 > 32 then (abacistlaw05_RevPlaces.j0 k a0 a1 a2 bt111.1 bt111.2 bt113.1 bt113.2 true) else (if a0 < 0 then (abacistlaw05_RevPlaces.j0 k a0 a1 a2 bt111.1 bt111.2 bt113.1 bt113.2 true) else (if 0 ≤ (IntKind.u64.wrap (a1)) then (abacistlaw05_RevPlaces.j0 k a0 a1 a2 bt111.1 bt111.2 bt113.1 bt113.2 (decide (a0 ≥ (shl .i64 1 (IntKind.u64.wrap (a1)))))) else (none))))))) else (some false)) = some r := H
  have A4 := Aside0.mk A40
  clear A40
  by_cases c5 : t110 = true
  · subst c5
    have H1 : ((rev_Bits.f a0 a1).bind fun bt111 => ((rev_Digits.f k a0 a1 a2).bind fun bt113 => (if a1 < 0 then (abacistlaw05_RevPlaces.j0 k a0 a1 a2 bt111.1 bt111.2 bt113.1 bt113.2 true) else (if a1 > 32 then (abacistlaw05_RevPlaces.j0 k a0 a1 a2 bt111.1 bt111.2 bt113.1 bt113.2 true) else (if a0 < 0 then (abacistlaw05_RevPlaces.j0 k a0 a1 a2 bt111.1 bt111.2 bt113.1 bt113.2 true) else (if 0 ≤ (IntKind.u64.wrap (a1)) then (abacistlaw05_RevPlaces.j0 k a0 a1 a2 bt111.1 bt111.2 bt113.1 bt113.2 (decide (a0 ≥ (shl .i64 1 (IntKind.u64.wrap (a1)))))) else (none))))))) = some r := by rw [if_pos rfl] at H; exact H
    clear H
    have H := H1
    clear H1
    replace H := Option.bind_eq_some_iff.mp H
    obtain ⟨⟨t111, t112⟩, A60, H⟩ := H
    replace H : ((rev_Digits.f k a0 a1 a2).bind fun bt113 => (if a1 < 0 then (abacistlaw05_RevPlaces.j0 k a0 a1 a2 t111 t112 bt113.1 bt113.2 true) else (if a1 > 32 then (abacistlaw05_RevPlaces.j0 k a0 a1 a2 t111 t112 bt113.1 bt113.2 true) else (if a0 < 0 then (abacistlaw05_RevPlaces.j0 k a0 a1 a2 t111 t112 bt113.1 bt113.2 true) else (if 0 ≤ (IntKind.u64.wrap (a1)) then (abacistlaw05_RevPlaces.j0 k a0 a1 a2 t111 t112 bt113.1 bt113.2 (decide (a0 ≥ (shl .i64 1 (IntKind.u64.wrap (a1)))))) else (none)))))) = some r := H
    have A6 := Aside0.mk A60
    clear A60
    replace H := Option.bind_eq_some_iff.mp H
    obtain ⟨⟨t113, t114⟩, A70, H⟩ := H
    replace H : (if a1 < 0 then (abacistlaw05_RevPlaces.j0 k a0 a1 a2 t111 t112 t113 t114 true) else (if a1 > 32 then (abacistlaw05_RevPlaces.j0 k a0 a1 a2 t111 t112 t113 t114 true) else (if a0 < 0 then (abacistlaw05_RevPlaces.j0 k a0 a1 a2 t111 t112 t113 t114 true) else (if 0 ≤ (IntKind.u64.wrap (a1)) then (abacistlaw05_RevPlaces.j0 k a0 a1 a2 t111 t112 t113 t114 (decide (a0 ≥ (shl .i64 1 (IntKind.u64.wrap (a1)))))) else (none))))) = some r := H
    have A7 := Aside0.mk A70
    clear A70
    have HC8 := Aside0.mk H
    clear H
    go_enter Try.func3, Try.ntmps3
    go_upto_region 5 with (first | ((with_reducible refine gate_callee (f := 4) rfl ?_); refine goesL_ (some 15) rfl rfl Try.func4 (by kernel_rfl) rfl #[] rfl (by (try simp only [List.map_toArray, List.map_cons, List.map_nil]); first | done | rfl | (simp only [List.length_drop, List.length_take]; rfl)) ?_; (with_reducible refine (abacistlaw05_awake.calls  true _ A4.out).mono ?_); rintro e w' ⟨rfl, ⟨nd, rfl⟩⟩; refine ⟨_, rfl, ?_⟩) | ((with_reducible refine gate_callee (f := 5) rfl ?_); refine goesL_ (some 20) rfl rfl Try.func5 (by kernel_rfl) rfl #[.int .i64 a0, .int .i64 a1] rfl (by (try simp only [List.map_toArray, List.map_cons, List.map_nil]); first | done | rfl | (simp only [List.length_drop, List.length_take]; rfl)) ?_; (with_reducible refine (rev_Bits.calls a0 a1 t111 t112 _ A6.out).mono ?_); rintro e w' ⟨rfl, ⟨nd, rfl⟩⟩; refine ⟨_, rfl, ?_⟩) | ((with_reducible refine gate_callee (f := 6) rfl ?_); refine goesL_ (some 27) rfl rfl Try.func6 (by kernel_rfl) rfl #[.int .i64 a0, .int .i64 a1, .int .i64 a2] rfl (by (try simp only [List.map_toArray, List.map_cons, List.map_nil]); first | done | rfl | (simp only [List.length_drop, List.length_take]; rfl)) ?_; (with_reducible refine (rev_Digits.calls k a0 a1 a2 t113 t114 _ A7.out).mono ?_); rintro e w' ⟨rfl, ⟨nd, rfl⟩⟩; refine ⟨_, rfl, ?_⟩))
    (try simp only [Act.put, List.setIfInBounds_toArray, List.set_cons_zero, List.set_cons_succ])
    go_cut [46] (fun v46 wc => ∃ (kq : Nat) (x46_7 : Bool), v46 = .bool x46_7 ∧ Aside0 (abacistlaw05_RevPlaces.j0 kq a0 a1 a2 t111 t112 t113 t114 x46_7 = some r) ∧ Aside0 (kq ≤ k) ∧ Drawn0 w wc)
    case first =>
      have H := HC8.out
      clear HC8
      by_cases c9 : a1 < 0
      · rw [if_pos c9] at H
        have c9b0 : decide (a1 < 0) = true := decide_eq_true c9
        clear c9
        (first | rw [c9b0] | (simp only [i64_w, i32_w]; rw [c9b0]) | skip)
        have H' := Aside0.mk H
        clear H
        go_wp2
        go_meet
        case rel => exact ⟨_, (true), (by first | rfl | (simp; done) | (simp [*]; done)), H', ⟨by first | omega | exact Nat.le_refl _⟩, by repeat (first | exact Drawn0.refl _ | apply Drawn0.step)⟩
      · rw [if_neg c9] at H
        have c9b0 : decide (a1 < 0) = false := decide_eq_false c9
        clear c9
        (first | rw [c9b0] | (simp only [i64_w, i32_w]; rw [c9b0]) | skip)
        by_cases c10 : a1 > 32
        · rw [if_pos c10] at H
          have c10b0 : decide (32 < a1) = true := decide_eq_true c10
          clear c10
          have H' := Aside0.mk H
          clear H
          go_wp2
          go_meet
          case rel => exact ⟨_, (true), (by first | rfl | (simp; done) | (simp [*]; done)), H', ⟨by first | omega | exact Nat.le_refl _⟩, by repeat (first | exact Drawn0.refl _ | apply Drawn0.step)⟩
        · rw [if_neg c10] at H
          have c10b0 : decide (32 < a1) = false := decide_eq_false c10
          clear c10
          by_cases c11 : a0 < 0
          · rw [if_pos c11] at H
            have c11b0 : decide (a0 < 0) = true := decide_eq_true c11
            clear c11
            have H' := Aside0.mk H
            clear H
            go_wp2
            go_meet
            case rel => exact ⟨_, (true), (by first | rfl | (simp; done) | (simp [*]; done)), H', ⟨by first | omega | exact Nat.le_refl _⟩, by repeat (first | exact Drawn0.refl _ | apply Drawn0.step)⟩
          · rw [if_neg c11] at H
            have c11b0 : decide (a0 < 0) = false := decide_eq_false c11
            clear c11
            obtain ⟨ji12, hji12⟩ : ∃ j_ : Int, (IntKind.u64.wrap (a1)) = j_ := ⟨_, rfl⟩
            replace H : (if 0 ≤ (ji12) then (abacistlaw05_RevPlaces.j0 k a0 a1 a2 t111 t112 t113 t114 (decide (a0 ≥ (shl .i64 1 (ji12))))) else (none)) = some r := by first | (rw [hji12] at H; exact H) | (simp only [hji12] at H ⊢; exact H)
            by_cases c13 : 0 ≤ (ji12)
            · rw [if_pos c13] at H
              have c13b0 := eq_true c13
              have c13b1 : decide (0 ≤ (ji12)) = true := decide_eq_true c13
              clear c13
              obtain ⟨ji14, hji14⟩ : ∃ j_ : Int, (shl .i64 1 (ji12)) = j_ := ⟨_, rfl⟩
              replace H : (abacistlaw05_RevPlaces.j0 k a0 a1 a2 t111 t112 t113 t114 (decide (a0 ≥ (ji14)))) = some r := by first | (rw [hji14] at H; exact H) | (simp only [hji14] at H ⊢; exact H)
              have hji14_ : (IntKind.i64.wrap (1 * 2 ^ min (ji12).toNat 64)) = ji14 := hji14
              have hji14z : (ji12) ≤ 64 → (IntKind.i64.wrap (1 * 2 ^ (ji12).toNat)) = ji14 := shl_small hji14
              have hji14u : (IntKind.i64.wrap (2 ^ min (ji12).toNat 64)) = ji14 := by have h_ := hji14_; rw [Int.one_mul] at h_; exact h_
              have hji14v : (ji12) ≤ 64 → (IntKind.i64.wrap (2 ^ (ji12).toNat)) = ji14 := fun hle_ => by have h_ := hji14z hle_; rw [Int.one_mul] at h_; exact h_
              have hji14y : (wrap64 (1 * 2 ^ min (ji12).toNat 64)) = ji14 := (i64_w _).symm.trans hji14_
              have hji14x : (ji12) ≤ 64 → (wrap64 (1 * 2 ^ (ji12).toNat)) = ji14 := fun h_ => (i64_w _).symm.trans (hji14z h_)
              have H' := Aside0.mk H
              clear H
              go_wp2
              go_meet
              case rel => exact ⟨_, (decide (a0 ≥ (ji14))), (by first | rfl | (simp; done) | (simp only [← hji14] <;> (first | rfl | simp)) | (simp [*]; done)), H', ⟨by first | omega | exact Nat.le_refl _⟩, by repeat (first | exact Drawn0.refl _ | apply Drawn0.step)⟩
            · rw [if_neg c13] at H
              exact absurd H (by simp)
    case rest =>
      clear HC8
      try clear c1
      try clear p2
      try clear c3
      try clear c4
      try clear c5
      try clear c6
      try clear p6
      try clear c9
      try clear c9b0
      try clear c10
      try clear c10b0
      try clear c11
      try clear c11b0
      try clear c13
      try clear c13b0
      try clear c13b1
      obtain ⟨kq, x46_7, rfl, HA, HJ7, ⟨mc7, rfl⟩⟩ := hcut
      cases kq with
      | zero => exact absurd HA.out (by simp [abacistlaw05_RevPlaces.j0])
      | succ kj7 =>
        have H := HA.out
        clear HA
        simp only [abacistlaw05_RevPlaces.j0] at H
        by_cases c15 : x46_7 = true
        · subst c15
          have H1 : (if t112 = 1 then (if t114 = 1 then (if t111 = 0 then (some (t113 == 0)) else (some false)) else (some false)) else (some false)) = some r := by rw [if_pos rfl] at H; exact H
          clear H
          have H := H1
          clear H1
          by_cases c16 : t112 = 1
          · rw [if_pos c16] at H
            have c16b0 : (t112 == 1) = true := beq_iff_eq.mpr c16
            have c16b1 : (t112 != 1) = false := bne_eq_false_iff_eq.mpr c16
            clear c16
            by_cases c17 : t114 = 1
            · rw [if_pos c17] at H
              have c17b0 : (t114 == 1) = true := beq_iff_eq.mpr c17
              have c17b1 : (t114 != 1) = false := bne_eq_false_iff_eq.mpr c17
              clear c17
              by_cases c18 : t111 = 0
              · rw [if_pos c18] at H
                have c18b0 : (t111 == 0) = true := beq_iff_eq.mpr c18
                have c18b1 : (t111 != 0) = false := bne_eq_false_iff_eq.mpr c18
                clear c18
                obtain rfl := Option.some.inj H
                go_wp2
                go_ret
                exact ⟨by first | rfl | (simp; done) | (simp [*]; done), by repeat (first | exact Drawn0.refl _ | apply Drawn0.step)⟩
              · rw [if_neg c18] at H
                have c18b0 : (t111 == 0) = false := beq_eq_false_iff_ne.mpr c18
                have c18b1 : (t111 != 0) = true := bne_iff_ne.mpr c18
                obtain rfl := Option.some.inj H
                go_wp2
                go_ret
                exact ⟨by first | rfl | (simp; done) | (simp [*]; done), by repeat (first | exact Drawn0.refl _ | apply Drawn0.step)⟩
            · rw [if_neg c17] at H
              have c17b0 : (t114 == 1) = false := beq_eq_false_iff_ne.mpr c17
              have c17b1 : (t114 != 1) = true := bne_iff_ne.mpr c17
              obtain rfl := Option.some.inj H
              go_wp2
              go_ret
              exact ⟨by first | rfl | (simp; done) | (simp [*]; done), by repeat (first | exact Drawn0.refl _ | apply Drawn0.step)⟩
          · rw [if_neg c16] at H
            have c16b0 : (t112 == 1) = false := beq_eq_false_iff_ne.mpr c16
            have c16b1 : (t112 != 1) = true := bne_iff_ne.mpr c16
            obtain rfl := Option.some.inj H
            go_wp2
            go_ret
            exact ⟨by first | rfl | (simp; done) | (simp [*]; done), by repeat (first | exact Drawn0.refl _ | apply Drawn0.step)⟩
        · replace c15 := Bool.eq_false_iff.mpr c15
          subst c15
          have H1 : ((rev_Bits.f t111 a1).bind fun bt115 => (if t112 = 0 then (if bt115.2 = 0 then ((abacistref05_Digits.f kj7 a0 a1 1).bind fun t117 => (if t111 = t117 then (abacistlaw05_RevPlaces.j1 kj7 a0 a1 a2 t113 t114 (bt115.1 != a0)) else (abacistlaw05_RevPlaces.j1 kj7 a0 a1 a2 t113 t114 true))) else (abacistlaw05_RevPlaces.j1 kj7 a0 a1 a2 t113 t114 true)) else (abacistlaw05_RevPlaces.j1 kj7 a0 a1 a2 t113 t114 true))) = some r := by rw [if_neg (show ¬ (false = true) by decide)] at H; exact H
          clear H
          have H := H1
          clear H1
          replace H := Option.bind_eq_some_iff.mp H
          obtain ⟨⟨t115, t116⟩, A190, H⟩ := H
          replace H : (if t112 = 0 then (if t116 = 0 then ((abacistref05_Digits.f kj7 a0 a1 1).bind fun t117 => (if t111 = t117 then (abacistlaw05_RevPlaces.j1 kj7 a0 a1 a2 t113 t114 (t115 != a0)) else (abacistlaw05_RevPlaces.j1 kj7 a0 a1 a2 t113 t114 true))) else (abacistlaw05_RevPlaces.j1 kj7 a0 a1 a2 t113 t114 true)) else (abacistlaw05_RevPlaces.j1 kj7 a0 a1 a2 t113 t114 true)) = some r := H
          have A19 := Aside0.mk A190
          clear A190
          have HC20 := Aside0.mk H
          clear H
          go_upto_region 8 with (first | ((with_reducible refine gate_callee (f := 5) rfl ?_); refine goesL_ (some 64) rfl rfl Try.func5 (by kernel_rfl) rfl #[.int .i64 t111, .int .i64 a1] rfl (by (try simp only [List.map_toArray, List.map_cons, List.map_nil]); first | done | rfl | (simp only [List.length_drop, List.length_take]; rfl)) ?_; (with_reducible refine (rev_Bits.calls t111 a1 t115 t116 _ A19.out).mono ?_); rintro e w' ⟨rfl, ⟨nd, rfl⟩⟩; refine ⟨_, rfl, ?_⟩))
          (try simp only [Act.put, List.setIfInBounds_toArray, List.set_cons_zero, List.set_cons_succ])
          go_cut [84] (fun v84 wc => ∃ (kq : Nat) (x84_19 : Bool), v84 = .bool x84_19 ∧ Aside0 (abacistlaw05_RevPlaces.j1 kq a0 a1 a2 t113 t114 x84_19 = some r) ∧ Aside0 (kq ≤ kj7) ∧ Drawn0 w wc)
          case first =>
            have H := HC20.out
            clear HC20
            by_cases c21 : t112 = 0
            · rw [if_pos c21] at H
              have c21b0 : (t112 == 0) = true := beq_iff_eq.mpr c21
              have c21b1 : (t112 != 0) = false := bne_eq_false_iff_eq.mpr c21
              clear c21
              (first | rw [c21b0] | (simp only [i64_w, i32_w]; rw [c21b0]) | skip)
              by_cases c22 : t116 = 0
              · rw [if_pos c22] at H
                have c22b0 : (t116 == 0) = true := beq_iff_eq.mpr c22
                have c22b1 : (t116 != 0) = false := bne_eq_false_iff_eq.mpr c22
                clear c22
                replace H := Option.bind_eq_some_iff.mp H
                obtain ⟨t117, A230, H⟩ := H
                replace H : (if t111 = t117 then (abacistlaw05_RevPlaces.j1 kj7 a0 a1 a2 t113 t114 (t115 != a0)) else (abacistlaw05_RevPlaces.j1 kj7 a0 a1 a2 t113 t114 true)) = some r := H
                have A23 := Aside0.mk A230
                clear A230
                by_cases c24 : t111 = t117
                · rw [if_pos c24] at H
                  have c24b0 : (t111 == t117) = true := beq_iff_eq.mpr c24
                  have c24b1 : (t111 != t117) = false := bne_eq_false_iff_eq.mpr c24
                  clear c24
                  have H' := Aside0.mk H
                  clear H
                  go_wp2_with (first | (go_at_call 7; (with_reducible refine (abacistref05_Digits.calls kj7 a0 a1 1 t117 _ A23.out).mono ?_); rintro e w' ⟨rfl, ⟨nd, rfl⟩⟩))
                  go_meet
                  case rel => exact ⟨_, ((t115 != a0)), (by first | rfl | (simp; done) | (simp [*]; done)), H', ⟨by have := HJ7.out; first | omega | exact Nat.le_refl _⟩, by repeat (first | exact Drawn0.refl _ | apply Drawn0.step)⟩
                · rw [if_neg c24] at H
                  have c24b0 : (t111 == t117) = false := beq_eq_false_iff_ne.mpr c24
                  have c24b1 : (t111 != t117) = true := bne_iff_ne.mpr c24
                  have H' := Aside0.mk H
                  clear H
                  go_wp2_with (first | (go_at_call 7; (with_reducible refine (abacistref05_Digits.calls kj7 a0 a1 1 t117 _ A23.out).mono ?_); rintro e w' ⟨rfl, ⟨nd, rfl⟩⟩))
                  go_meet
                  case rel => exact ⟨_, (true), (by first | rfl | (simp; done) | (simp [*]; done)), H', ⟨by have := HJ7.out; first | omega | exact Nat.le_refl _⟩, by repeat (first | exact Drawn0.refl _ | apply Drawn0.step)⟩
              · rw [if_neg c22] at H
                have c22b0 : (t116 == 0) = false := beq_eq_false_iff_ne.mpr c22
                have c22b1 : (t116 != 0) = true := bne_iff_ne.mpr c22
                have H' := Aside0.mk H
                clear H
                go_wp2
                go_meet
                case rel => exact ⟨_, (true), (by first | rfl | (simp; done) | (simp [*]; done)), H', ⟨by have := HJ7.out; first | omega | exact Nat.le_refl _⟩, by repeat (first | exact Drawn0.refl _ | apply Drawn0.step)⟩
            · rw [if_neg c21] at H
              have c21b0 : (t112 == 0) = false := beq_eq_false_iff_ne.mpr c21
              have c21b1 : (t112 != 0) = true := bne_iff_ne.mpr c21
              (first | rw [c21b0] | (simp only [i64_w, i32_w]; rw [c21b0]) | skip)
              have H' := Aside0.mk H
              clear H
              go_wp2
              go_meet
              case rel => exact ⟨_, (true), (by first | rfl | (simp; done) | (simp [*]; done)), H', ⟨by have := HJ7.out; first | omega | exact Nat.le_refl _⟩, by repeat (first | exact Drawn0.refl _ | apply Drawn0.step)⟩
          case rest =>
            clear HC20
            try clear c1
            try clear c2
            try clear p2
            try clear c3
            try clear c4
            try clear c5
            try clear c6
            try clear p6
            try clear c7
            try clear c9
            try clear c9b0
            try clear c10
            try clear c10b0
            try clear c11
            try clear c11b0
            try clear c13
            try clear c13b0
            try clear c13b1
            try clear c15
            try clear c16
            try clear c16b0
            try clear c16b1
            try clear c17
            try clear c17b0
            try clear c17b1
            try clear c18
            try clear c18b0
            try clear c18b1
            try clear c21
            try clear c21b0
            try clear c21b1
            try clear c22
            try clear c22b0
            try clear c22b1
            try clear c24
            try clear c24b0
            try clear c24b1
            try clear p2
            try clear p6
            obtain ⟨kq, x84_19, rfl, HA, HJ19, ⟨mc19, rfl⟩⟩ := hcut
            cases kq with
            | zero => exact absurd HA.out (by simp [abacistlaw05_RevPlaces.j1])
            | succ kj19 =>
              have H := HA.out
              clear HA
              simp only [abacistlaw05_RevPlaces.j1] at H
              by_cases c25 : x84_19 = true
              · subst c25
                have H1 : (some false) = some r := by rw [if_pos rfl] at H; exact H
                clear H
                have H := H1
                clear H1
                obtain rfl := Option.some.inj H
                go_wp2
                go_ret
                exact ⟨by first | rfl | (simp; done) | (simp [*]; done), by repeat (first | exact Drawn0.refl _ | apply Drawn0.step)⟩
              · replace c25 := Bool.eq_false_iff.mpr c25
                subst c25
                have H1 : (if a2 < 1 then (abacistlaw05_RevPlaces.j2 kj19 a0 a1 a2 t113 t114 true) else (if a2 > 8 then (abacistlaw05_RevPlaces.j2 kj19 a0 a1 a2 t113 t114 true) else (if a2 = 0 then (none) else (abacistlaw05_RevPlaces.j2 kj19 a0 a1 a2 t113 t114 ((Int.tmod a1 a2) != 0))))) = some r := by rw [if_neg (show ¬ (false = true) by decide)] at H; exact H
                clear H
                have H := H1
                clear H1
                have HC26 := Aside0.mk H
                clear H
                go_upto_region 10 with (fail)
                go_cut [96] (fun v96 wc => ∃ (kq : Nat) (x96_25 : Bool), v96 = .bool x96_25 ∧ Aside0 (abacistlaw05_RevPlaces.j2 kq a0 a1 a2 t113 t114 x96_25 = some r) ∧ Aside0 (kq ≤ kj19) ∧ Drawn0 w wc)
                case first =>
                  have H := HC26.out
                  clear HC26
                  by_cases c27 : a2 < 1
                  · rw [if_pos c27] at H
                    have c27b0 : decide (a2 < 1) = true := decide_eq_true c27
                    clear c27
                    (first | rw [c27b0] | (simp only [i64_w, i32_w]; rw [c27b0]) | skip)
                    have H' := Aside0.mk H
                    clear H
                    go_wp2
                    go_meet
                    case rel => exact ⟨_, (true), (by first | rfl | (simp; done) | (simp [*]; done)), H', ⟨by have := HJ7.out; have := HJ19.out; first | omega | exact Nat.le_refl _⟩, by repeat (first | exact Drawn0.refl _ | apply Drawn0.step)⟩
                  · rw [if_neg c27] at H
                    have c27b0 : decide (a2 < 1) = false := decide_eq_false c27
                    clear c27
                    (first | rw [c27b0] | (simp only [i64_w, i32_w]; rw [c27b0]) | skip)
                    by_cases c28 : a2 > 8
                    · rw [if_pos c28] at H
                      have c28b0 : decide (8 < a2) = true := decide_eq_true c28
                      clear c28
                      have H' := Aside0.mk H
                      clear H
                      go_wp2
                      go_meet
                      case rel => exact ⟨_, (true), (by first | rfl | (simp; done) | (simp [*]; done)), H', ⟨by have := HJ7.out; have := HJ19.out; first | omega | exact Nat.le_refl _⟩, by repeat (first | exact Drawn0.refl _ | apply Drawn0.step)⟩
                    · rw [if_neg c28] at H
                      have c28b0 : decide (8 < a2) = false := decide_eq_false c28
                      clear c28
                      by_cases c29 : a2 = 0
                      · rw [if_pos c29] at H
                        exact absurd H (by simp)
                      · rw [if_neg c29] at H
                        have c29b0 : (a2 == 0) = false := beq_eq_false_iff_ne.mpr c29
                        have c29b1 : (a2 != 0) = true := bne_iff_ne.mpr c29
                        have H' := Aside0.mk H
                        clear H
                        go_wp2
                        go_meet
                        case rel => exact ⟨_, (((Int.tmod a1 a2) != 0)), (by first | rfl | (simp; done) | (simp [*]; done)), H', ⟨by have := HJ7.out; have := HJ19.out; first | omega | exact Nat.le_refl _⟩, by repeat (first | exact Drawn0.refl _ | apply Drawn0.step)⟩
                case rest =>
                  clear HC26
                  try clear c1
                  try clear c2
                  try clear p2
                  try clear c3
                  try clear c4
                  try clear c5
                  try clear c6
                  try clear p6
                  try clear c7
                  try clear c9
                  try clear c9b0
                  try clear c10
                  try clear c10b0
                  try clear c11
                  try clear c11b0
                  try clear c13
                  try clear c13b0
                  try clear c13b1
                  try clear c15
                  try clear c16
                  try clear c16b0
                  try clear c16b1
                  try clear c17
                  try clear c17b0
                  try clear c17b1
                  try clear c18
                  try clear c18b0
                  try clear c18b1
                  try clear c19
                  try clear c21
                  try clear c21b0
                  try clear c21b1
                  try clear c22
                  try clear c22b0
                  try clear c22b1
                  try clear c24
                  try clear c24b0
                  try clear c24b1
                  try clear c25
                  try clear c27
                  try clear c27b0
                  try clear c28
                  try clear c28b0
                  try clear c29
                  try clear c29b0
                  try clear c29b1
                  try clear p2
                  try clear p6
                  obtain ⟨kq, x96_25, rfl, HA, HJ25, ⟨mc25, rfl⟩⟩ := hcut
                  cases kq with
                  | zero => exact absurd HA.out (by simp [abacistlaw05_RevPlaces.j2])
                  | succ kj25 =>
                    have H := HA.out
                    clear HA
                    simp only [abacistlaw05_RevPlaces.j2] at H
                    by_cases c30 : x96_25 = true
                    · subst c30
                      have H1 : (if t114 = 1 then (some (t113 == 0)) else (some false)) = some r := by rw [if_pos rfl] at H; exact H
                      clear H
                      have H := H1
                      clear H1
                      by_cases c31 : t114 = 1
                      · rw [if_pos c31] at H
                        have c31b0 : (t114 == 1) = true := beq_iff_eq.mpr c31
                        have c31b1 : (t114 != 1) = false := bne_eq_false_iff_eq.mpr c31
                        clear c31
                        obtain rfl := Option.some.inj H
                        go_wp2
                        go_ret
                        exact ⟨by first | rfl | (simp; done) | (simp [*]; done), by repeat (first | exact Drawn0.refl _ | apply Drawn0.step)⟩
                      · rw [if_neg c31] at H
                        have c31b0 : (t114 == 1) = false := beq_eq_false_iff_ne.mpr c31
                        have c31b1 : (t114 != 1) = true := bne_iff_ne.mpr c31
                        obtain rfl := Option.some.inj H
                        go_wp2
                        go_ret
                        exact ⟨by first | rfl | (simp; done) | (simp [*]; done), by repeat (first | exact Drawn0.refl _ | apply Drawn0.step)⟩
                    · replace c30 := Bool.eq_false_iff.mpr c30
                      subst c30
                      have H1 : ((rev_Digits.f kj25 t113 a1 a2).bind fun bt118 => (if t114 = 0 then (if bt118.2 = 0 then ((abacistref05_Digits.f kj25 a0 a1 a2).bind fun t120 => (if t113 = t120 then (some (bt118.1 == a0)) else (some false))) else (some false)) else (some false))) = some r := by rw [if_neg (show ¬ (false = true) by decide)] at H; exact H
                      clear H
                      have H := H1
                      clear H1
                      replace H := Option.bind_eq_some_iff.mp H
                      obtain ⟨⟨t118, t119⟩, A320, H⟩ := H
                      replace H : (if t114 = 0 then (if t119 = 0 then ((abacistref05_Digits.f kj25 a0 a1 a2).bind fun t120 => (if t113 = t120 then (some (t118 == a0)) else (some false))) else (some false)) else (some false)) = some r := H
                      have A32 := Aside0.mk A320
                      clear A320
                      by_cases c33 : t114 = 0
                      · rw [if_pos c33] at H
                        have c33b0 : (t114 == 0) = true := beq_iff_eq.mpr c33
                        have c33b1 : (t114 != 0) = false := bne_eq_false_iff_eq.mpr c33
                        clear c33
                        by_cases c34 : t119 = 0
                        · rw [if_pos c34] at H
                          have c34b0 : (t119 == 0) = true := beq_iff_eq.mpr c34
                          have c34b1 : (t119 != 0) = false := bne_eq_false_iff_eq.mpr c34
                          clear c34
                          replace H := Option.bind_eq_some_iff.mp H
                          obtain ⟨t120, A350, H⟩ := H
                          replace H : (if t113 = t120 then (some (t118 == a0)) else (some false)) = some r := H
                          have A35 := Aside0.mk A350
                          clear A350
                          by_cases c36 : t113 = t120
                          · rw [if_pos c36] at H
                            have c36b0 : (t113 == t120) = true := beq_iff_eq.mpr c36
                            have c36b1 : (t113 != t120) = false := bne_eq_false_iff_eq.mpr c36
                            clear c36
                            obtain rfl := Option.some.inj H
                            go_wp2_with (first | ((with_reducible refine gate_callee (f := 6) rfl ?_); refine goesL_ (some 107) rfl rfl Try.func6 (by kernel_rfl) rfl #[.int .i64 t113, .int .i64 a1, .int .i64 a2] rfl (by (try simp only [List.map_toArray, List.map_cons, List.map_nil]); first | done | rfl | (simp only [List.length_drop, List.length_take]; rfl)) ?_; (with_reducible refine (rev_Digits.calls kj25 t113 a1 a2 t118 t119 _ A32.out).mono ?_); rintro e w' ⟨rfl, ⟨nd, rfl⟩⟩; refine ⟨_, rfl, ?_⟩) | (go_at_call 7; (with_reducible refine (abacistref05_Digits.calls kj25 a0 a1 a2 t120 _ A35.out).mono ?_); rintro e w' ⟨rfl, ⟨nd, rfl⟩⟩))
                            go_ret
                            exact ⟨by first | rfl | (simp; done) | (simp [*]; done), by repeat (first | exact Drawn0.refl _ | apply Drawn0.step)⟩
                          · rw [if_neg c36] at H
                            have c36b0 : (t113 == t120) = false := beq_eq_false_iff_ne.mpr c36
                            have c36b1 : (t113 != t120) = true := bne_iff_ne.mpr c36
                            obtain rfl := Option.some.inj H
                            go_wp2_with (first | ((with_reducible refine gate_callee (f := 6) rfl ?_); refine goesL_ (some 107) rfl rfl Try.func6 (by kernel_rfl) rfl #[.int .i64 t113, .int .i64 a1, .int .i64 a2] rfl (by (try simp only [List.map_toArray, List.map_cons, List.map_nil]); first | done | rfl | (simp only [List.length_drop, List.length_take]; rfl)) ?_; (with_reducible refine (rev_Digits.calls kj25 t113 a1 a2 t118 t119 _ A32.out).mono ?_); rintro e w' ⟨rfl, ⟨nd, rfl⟩⟩; refine ⟨_, rfl, ?_⟩) | (go_at_call 7; (with_reducible refine (abacistref05_Digits.calls kj25 a0 a1 a2 t120 _ A35.out).mono ?_); rintro e w' ⟨rfl, ⟨nd, rfl⟩⟩))
                            go_ret
                            exact ⟨by first | rfl | (simp; done) | (simp [*]; done), by repeat (first | exact Drawn0.refl _ | apply Drawn0.step)⟩
                        · rw [if_neg c34] at H
                          have c34b0 : (t119 == 0) = false := beq_eq_false_iff_ne.mpr c34
                          have c34b1 : (t119 != 0) = true := bne_iff_ne.mpr c34
                          obtain rfl := Option.some.inj H
                          go_wp2_with (first | ((with_reducible refine gate_callee (f := 6) rfl ?_); refine goesL_ (some 107) rfl rfl Try.func6 (by kernel_rfl) rfl #[.int .i64 t113, .int .i64 a1, .int .i64 a2] rfl (by (try simp only [List.map_toArray, List.map_cons, List.map_nil]); first | done | rfl | (simp only [List.length_drop, List.length_take]; rfl)) ?_; (with_reducible refine (rev_Digits.calls kj25 t113 a1 a2 t118 t119 _ A32.out).mono ?_); rintro e w' ⟨rfl, ⟨nd, rfl⟩⟩; refine ⟨_, rfl, ?_⟩))
                          go_ret
                          exact ⟨by first | rfl | (simp; done) | (simp [*]; done), by repeat (first | exact Drawn0.refl _ | apply Drawn0.step)⟩
                      · rw [if_neg c33] at H
                        have c33b0 : (t114 == 0) = false := beq_eq_false_iff_ne.mpr c33
                        have c33b1 : (t114 != 0) = true := bne_iff_ne.mpr c33
                        obtain rfl := Option.some.inj H
                        go_wp2_with (first | ((with_reducible refine gate_callee (f := 6) rfl ?_); refine goesL_ (some 107) rfl rfl Try.func6 (by kernel_rfl) rfl #[.int .i64 t113, .int .i64 a1, .int .i64 a2] rfl (by (try simp only [List.map_toArray, List.map_cons, List.map_nil]); first | done | rfl | (simp only [List.length_drop, List.length_take]; rfl)) ?_; (with_reducible refine (rev_Digits.calls kj25 t113 a1 a2 t118 t119 _ A32.out).mono ?_); rintro e w' ⟨rfl, ⟨nd, rfl⟩⟩; refine ⟨_, rfl, ?_⟩))
                        go_ret
                        exact ⟨by first | rfl | (simp; done) | (simp [*]; done), by repeat (first | exact Drawn0.refl _ | apply Drawn0.step)⟩
  · replace c5 := Bool.eq_false_iff.mpr c5
    subst c5
    have H1 : (some false) = some r := by rw [if_neg (show ¬ (false = true) by decide)] at H; exact H
    clear H
    have H := H1
    clear H1
    obtain rfl := Option.some.inj H
    go_enter Try.func3, Try.ntmps3
    go_wp2_with (first | ((with_reducible refine gate_callee (f := 4) rfl ?_); refine goesL_ (some 15) rfl rfl Try.func4 (by kernel_rfl) rfl #[] rfl (by (try simp only [List.map_toArray, List.map_cons, List.map_nil]); first | done | rfl | (simp only [List.length_drop, List.length_take]; rfl)) ?_; (with_reducible refine (abacistlaw05_awake.calls  false _ A4.out).mono ?_); rintro e w' ⟨rfl, ⟨nd, rfl⟩⟩; refine ⟨_, rfl, ?_⟩))
    go_ret
    exact ⟨by first | rfl | (simp; done) | (simp [*]; done), by repeat (first | exact Drawn0.refl _ | apply Drawn0.step)⟩

/-- THE ONE PURE STATEMENT of abacistlaw05_RevPlaces: yours. -/
def abacistlaw05_RevPlaces.Pure : Prop := ∀ (a0 : Int) (a1 : Int) (a2 : Int), (Lit.int .i64 a0).wf = true → (Lit.int .i64 a1).wf = true → (Lit.int .i64 a2).wf = true → ∃ k, abacistlaw05_RevPlaces.f k a0 a1 a2 = some true
theorem abacistlaw05_RevPlaces.walk (P : abacistlaw05_RevPlaces.Pure) (a0 : Int) (a1 : Int) (a2 : Int) (w : World) (w0 : (Lit.int .i64 a0).wf = true) (w1 : (Lit.int .i64 a1).wf = true) (w2 : (Lit.int .i64 a2).wf = true) :
    Calls Try.prog 3 #[.int .i64 a0, .int .i64 a1, .int .i64 a2] w fun e w' => e = .returned (.bool true) ∧ Below w.heap.size w w' := by
  obtain ⟨k, h⟩ := P a0 a1 a2 w0 w1 w2
  refine (abacistlaw05_RevPlaces.calls k a0 a1 a2 true w h).mono ?_
  rintro e w' ⟨rfl, hd⟩
  exact ⟨rfl, hd.below⟩

end Go.Proofs.Ythppiphldaopnaa.PRevPlaces
