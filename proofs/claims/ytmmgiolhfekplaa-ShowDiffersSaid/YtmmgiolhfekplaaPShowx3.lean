-- Written by a program (wip/myprint) out of the translation; Lean checks it.
import Derived.Test.YtmmgiolhfekplaaPShowx0
import Derived.Test.YtmmgiolhfekplaaPShowx1
import Derived.Test.YtmmgiolhfekplaaPShowx2
namespace Go.Proofs.Ytmmgiolhfekplaa.PShow
open Go.RowKit Go.Proofs.Ytmmgiolhfekplaa.Ext Go.Proofs.YtmmgiolhfekplaaW.PrintWords Go.Proofs.YtmmgiolhfekplaaW.PrintLast Go.Proofs.YtmmgiolhfekplaaW.PrintMore
attribute [local go_sem] max2_int min2_int max_two min_two max_three min_three max_four min_four   -- for this text's walks alone
set_option linter.unusedVariables false
set_option linter.unusedSimpArgs false

/-! ### abacistlaw39_ShowHex: function 4 -/
mutual
def abacistlaw39_ShowHex.j0 : Nat → List Int → ByteArray → Bool → Option (Bool)
  | 0, _, _, _ => none
  | k + 1, x0, x1, x24 => if x24 = true then (some true) else (abacistlaw39_ShowHex.l0 k x0 x1 (⟨#[]⟩ : ByteArray) 0)
def abacistlaw39_ShowHex.l0 : Nat → List Int → ByteArray → ByteArray → Int → Option (Bool)
  | 0, _, _, _, _ => none
  | k + 1, x0, x1, x5, x6 => if x6 < (x0.length : Int) then (if 0 ≤ x6 then ((abacistlaw39_hex.f k (rd x0 x6)).bind fun t136 => (if x5.size + t136.size ≤ 9223372036854775807 then (abacistlaw39_ShowHex.l0 k x0 x1 (x5 ++ t136) (wrap64 (x6 + 1))) else (none))) else (none)) else ((show_Hex.f x0).bind fun t137 => ((show_ReadHex.f k t137).bind fun bt138 => (if t137.toList = x5.toList then (if bt138.2.2 = 0 then (if bt138.2.1 = 0 then ((abacistref04_Same.f k bt138.1 x0).bind fun t143 => (abacistlaw39_ShowHex.j2 k x1 (!t143))) else (abacistlaw39_ShowHex.j2 k x1 true)) else (abacistlaw39_ShowHex.j2 k x1 true)) else (abacistlaw39_ShowHex.j2 k x1 true))))
def abacistlaw39_ShowHex.j2 : Nat → ByteArray → Bool → Option (Bool)
  | 0, _, _ => none
  | k + 1, x1, x62 => if x62 = true then (some false) else ((show_ReadHex.f k x1).bind fun bt144 => (abacistlaw39_ShowHex.l1 k x1 bt144.1 bt144.2.1 bt144.2.2 0))
def abacistlaw39_ShowHex.l1 : Nat → ByteArray → List Int → Int → Int → Int → Option (Bool)
  | 0, _, _, _, _, _ => none
  | k + 1, x1, x11, x12, x13, x14 => if x14 < (x1.size : Int) then (if 0 ≤ x14 then (if (bt x1 x14) < 48 then (if (bt x1 x14) < 97 then (if x13 = 17 then (if x12 = x14 then (some ((x11.length : Int) == 0)) else (some false)) else (some false)) else (if (bt x1 x14) > 102 then (if x13 = 17 then (if x12 = x14 then (some ((x11.length : Int) == 0)) else (some false)) else (some false)) else (abacistlaw39_ShowHex.l1 k x1 x11 x12 x13 (wrap64 (x14 + 1))))) else (if (bt x1 x14) > 57 then (if (bt x1 x14) < 97 then (if x13 = 17 then (if x12 = x14 then (some ((x11.length : Int) == 0)) else (some false)) else (some false)) else (if (bt x1 x14) > 102 then (if x13 = 17 then (if x12 = x14 then (some ((x11.length : Int) == 0)) else (some false)) else (some false)) else (abacistlaw39_ShowHex.l1 k x1 x11 x12 x13 (wrap64 (x14 + 1))))) else (abacistlaw39_ShowHex.l1 k x1 x11 x12 x13 (wrap64 (x14 + 1))))) else (none)) else (if ((x1.size : Int) % 16) = 0 then (if x13 = 0 then (if x12 = 0 then ((show_Hex.f x11).bind fun t149 => (some (t149.toList == x1.toList))) else (some false)) else (some false)) else (if x13 = 15 then (if x12 = (wrap64 ((wrap64 ((x1.size : Int) / 16)) * 16)) then (some ((x11.length : Int) == 0)) else (some false)) else (some false)))
end
def abacistlaw39_ShowHex.f (k : Nat) (l0 : List Int) (a1 : ByteArray) : Option (Bool) := (abacistlaw39_awake.f k).bind fun t134 => (if t134 = true then (if (l0.length : Int) > 40 then (abacistlaw39_ShowHex.j0 k l0 a1 true) else (abacistlaw39_ShowHex.j0 k l0 a1 (decide ((a1.size : Int) > 400)))) else (some false))
theorem abacistlaw39_ShowHex.mono_l : ∀ k, (∀ y0 y1 y2, LeO (abacistlaw39_ShowHex.j0 k y0 y1 y2) (abacistlaw39_ShowHex.j0 (k + 1) y0 y1 y2)) ∧ (∀ y0 y1 y2 y3, LeO (abacistlaw39_ShowHex.l0 k y0 y1 y2 y3) (abacistlaw39_ShowHex.l0 (k + 1) y0 y1 y2 y3)) ∧ (∀ y0 y1, LeO (abacistlaw39_ShowHex.j2 k y0 y1) (abacistlaw39_ShowHex.j2 (k + 1) y0 y1)) ∧ (∀ y0 y1 y2 y3 y4, LeO (abacistlaw39_ShowHex.l1 k y0 y1 y2 y3 y4) (abacistlaw39_ShowHex.l1 (k + 1) y0 y1 y2 y3 y4))
  | 0 => ⟨fun _ _ _ r h => by simp [abacistlaw39_ShowHex.j0] at h, fun _ _ _ _ r h => by simp [abacistlaw39_ShowHex.l0] at h, fun _ _ r h => by simp [abacistlaw39_ShowHex.j2] at h, fun _ _ _ _ _ r h => by simp [abacistlaw39_ShowHex.l1] at h⟩
  | k + 1 => by
    obtain ⟨ih0, ih1, ih2, ih3⟩ := abacistlaw39_ShowHex.mono_l k
    refine ⟨?_, ?_, ?_, ?_⟩
    · intro y0 y1 y2
      unfold abacistlaw39_ShowHex.j0
      repeat' first
      | (with_reducible exact ih0 _ _ _)
      | (with_reducible exact ih1 _ _ _ _)
      | (with_reducible exact ih2 _ _)
      | (with_reducible exact ih3 _ _ _ _ _)
      | (with_reducible exact abacistlaw39_awake.mono _)
      | (with_reducible exact abacistlaw39_hex.mono _ _)
      | (with_reducible exact abacistref04_Same.mono _ _ _)
      | (with_reducible exact show_ReadHex.mono _ _)
      | (with_reducible exact LeO.refl _)
      | (with_reducible exact LeO.none _)
      | (with_reducible refine LeO.ite ?_ ?_)
      | (with_reducible refine LeO.bind ?_ (fun _ => ?_))
      | exact ih0 _ _ _
      | exact ih1 _ _ _ _
      | exact ih2 _ _
      | exact ih3 _ _ _ _ _
      | exact abacistlaw39_awake.mono _
      | exact abacistlaw39_hex.mono _ _
      | exact abacistref04_Same.mono _ _ _
      | exact show_ReadHex.mono _ _
      | exact LeO.none _
      | refine LeO.ite ?_ ?_
      | refine LeO.bind ?_ (fun _ => ?_)
    · intro y0 y1 y2 y3
      unfold abacistlaw39_ShowHex.l0
      repeat' first
      | (with_reducible exact ih0 _ _ _)
      | (with_reducible exact ih1 _ _ _ _)
      | (with_reducible exact ih2 _ _)
      | (with_reducible exact ih3 _ _ _ _ _)
      | (with_reducible exact abacistlaw39_awake.mono _)
      | (with_reducible exact abacistlaw39_hex.mono _ _)
      | (with_reducible exact abacistref04_Same.mono _ _ _)
      | (with_reducible exact show_ReadHex.mono _ _)
      | (with_reducible exact LeO.refl _)
      | (with_reducible exact LeO.none _)
      | (with_reducible refine LeO.ite ?_ ?_)
      | (with_reducible refine LeO.bind ?_ (fun _ => ?_))
      | exact ih0 _ _ _
      | exact ih1 _ _ _ _
      | exact ih2 _ _
      | exact ih3 _ _ _ _ _
      | exact abacistlaw39_awake.mono _
      | exact abacistlaw39_hex.mono _ _
      | exact abacistref04_Same.mono _ _ _
      | exact show_ReadHex.mono _ _
      | exact LeO.none _
      | refine LeO.ite ?_ ?_
      | refine LeO.bind ?_ (fun _ => ?_)
    · intro y0 y1
      unfold abacistlaw39_ShowHex.j2
      repeat' first
      | (with_reducible exact ih0 _ _ _)
      | (with_reducible exact ih1 _ _ _ _)
      | (with_reducible exact ih2 _ _)
      | (with_reducible exact ih3 _ _ _ _ _)
      | (with_reducible exact abacistlaw39_awake.mono _)
      | (with_reducible exact abacistlaw39_hex.mono _ _)
      | (with_reducible exact abacistref04_Same.mono _ _ _)
      | (with_reducible exact show_ReadHex.mono _ _)
      | (with_reducible exact LeO.refl _)
      | (with_reducible exact LeO.none _)
      | (with_reducible refine LeO.ite ?_ ?_)
      | (with_reducible refine LeO.bind ?_ (fun _ => ?_))
      | exact ih0 _ _ _
      | exact ih1 _ _ _ _
      | exact ih2 _ _
      | exact ih3 _ _ _ _ _
      | exact abacistlaw39_awake.mono _
      | exact abacistlaw39_hex.mono _ _
      | exact abacistref04_Same.mono _ _ _
      | exact show_ReadHex.mono _ _
      | exact LeO.none _
      | refine LeO.ite ?_ ?_
      | refine LeO.bind ?_ (fun _ => ?_)
    · intro y0 y1 y2 y3 y4
      unfold abacistlaw39_ShowHex.l1
      repeat' first
      | (with_reducible exact ih0 _ _ _)
      | (with_reducible exact ih1 _ _ _ _)
      | (with_reducible exact ih2 _ _)
      | (with_reducible exact ih3 _ _ _ _ _)
      | (with_reducible exact abacistlaw39_awake.mono _)
      | (with_reducible exact abacistlaw39_hex.mono _ _)
      | (with_reducible exact abacistref04_Same.mono _ _ _)
      | (with_reducible exact show_ReadHex.mono _ _)
      | (with_reducible exact LeO.refl _)
      | (with_reducible exact LeO.none _)
      | (with_reducible refine LeO.ite ?_ ?_)
      | (with_reducible refine LeO.bind ?_ (fun _ => ?_))
      | exact ih0 _ _ _
      | exact ih1 _ _ _ _
      | exact ih2 _ _
      | exact ih3 _ _ _ _ _
      | exact abacistlaw39_awake.mono _
      | exact abacistlaw39_hex.mono _ _
      | exact abacistref04_Same.mono _ _ _
      | exact show_ReadHex.mono _ _
      | exact LeO.none _
      | refine LeO.ite ?_ ?_
      | refine LeO.bind ?_ (fun _ => ?_)
theorem abacistlaw39_ShowHex.mono : ∀ a0 a1 k, LeO (abacistlaw39_ShowHex.f k a0 a1) (abacistlaw39_ShowHex.f (k + 1) a0 a1) := by
  intro a0 a1 k
  obtain ⟨ih0, ih1, ih2, ih3⟩ := abacistlaw39_ShowHex.mono_l k
  unfold abacistlaw39_ShowHex.f
  repeat' first
      | (with_reducible exact ih0 _ _ _)
      | (with_reducible exact ih1 _ _ _ _)
      | (with_reducible exact ih2 _ _)
      | (with_reducible exact ih3 _ _ _ _ _)
      | (with_reducible exact abacistlaw39_awake.mono _)
      | (with_reducible exact abacistlaw39_hex.mono _ _)
      | (with_reducible exact abacistref04_Same.mono _ _ _)
      | (with_reducible exact show_ReadHex.mono _ _)
      | (with_reducible exact LeO.refl _)
      | (with_reducible exact LeO.none _)
      | (with_reducible refine LeO.ite ?_ ?_)
      | (with_reducible refine LeO.bind ?_ (fun _ => ?_))
      | exact ih0 _ _ _
      | exact ih1 _ _ _ _
      | exact ih2 _ _
      | exact ih3 _ _ _ _ _
      | exact abacistlaw39_awake.mono _
      | exact abacistlaw39_hex.mono _ _
      | exact abacistref04_Same.mono _ _ _
      | exact show_ReadHex.mono _ _
      | exact LeO.none _
      | refine LeO.ite ?_ ?_
      | refine LeO.bind ?_ (fun _ => ?_)
set_option maxHeartbeats 8000000 in
set_option maxRecDepth 100000 in
theorem abacistlaw39_ShowHex.calls (k : Nat) (A0 : Option Addr) (c0 : Nat) (l0 : List Int) (a1 : ByteArray) (r : Bool) (w : World) (hr0 : Kd.C (Kd.int .u64) w A0 l0.length l0) (hc0 : l0.length ≤ c0) (h : abacistlaw39_ShowHex.f k l0 a1 = some r) :
    Calls Try.prog 4 #[.slice A0 l0.length c0, .string a1] w fun e w' => e = .returned (.bool r) ∧ Below w.heap.size w w' := by
  have HR0 := Aside0.mk hr0
  have HC0 := Aside0.mk hc0
  clear hr0 hc0
  have HB := Aside0.mk (Below.refl w.heap.size w)
  have H : ((abacistlaw39_awake.f k).bind fun t134 => (if t134 = true then (if (l0.length : Int) > 40 then (abacistlaw39_ShowHex.j0 k l0 a1 true) else (abacistlaw39_ShowHex.j0 k l0 a1 (decide ((a1.size : Int) > 400)))) else (some false))) = some r := h
  clear h
  replace H := Option.bind_eq_some_iff.mp H
  obtain ⟨t134, A30, H⟩ := H
  replace H : (if t134 = true then (if (l0.length : Int) > 40 then (abacistlaw39_ShowHex.j0 k l0 a1 true) else (abacistlaw39_ShowHex.j0 k l0 a1 (decide ((a1.size : Int) > 400)))) else (some false)) = some r := H
  have A3 := Aside0.mk A30
  clear A30
  by_cases c4 : t134 = true
  · subst c4
    have H1 : (if (l0.length : Int) > 40 then (abacistlaw39_ShowHex.j0 k l0 a1 true) else (abacistlaw39_ShowHex.j0 k l0 a1 (decide ((a1.size : Int) > 400)))) = some r := by rw [if_pos rfl] at H; exact H
    clear H
    have H := H1
    clear H1
    have HC5 := Aside0.mk H
    clear H
    go_enter Try.func4, Try.ntmps4
    go_upto_region 3 with (first | ((with_reducible refine gate_callee (f := 11) rfl ?_); refine goesL_ (some 15) rfl rfl Try.func11 (by kernel_rfl) rfl #[] rfl (by (try simp only [List.map_toArray, List.map_cons, List.map_nil]); first | done | rfl | (simp only [List.length_drop, List.length_take]; rfl)) ?_; (with_reducible refine (abacistlaw39_awake.calls k  true _ A3.out).mono ?_); rintro e w6 ⟨rfl, hb⟩; refine ⟨_, rfl, ?_⟩; have n0_ := Aside0.mk (below_step (by repeat (first | (with_reducible first | exact HB.out | apply below_alloc | apply pw_below_drewN | apply below_drew1) | exact HB.out)) hb); clear HB; have HB := n0_; clear n0_; (try clear hb); (try clear hb2); (try clear hk); (try clear hi)))
    (try simp only [Act.put, List.setIfInBounds_toArray, List.set_cons_zero, List.set_cons_succ])
    go_cut [24] (fun v24 wc => ∃ (kq : Nat) (x24_4 : Bool), v24 = .bool x24_4 ∧ Aside0 (abacistlaw39_ShowHex.j0 kq l0 a1 x24_4 = some r) ∧ Aside0 (kq ≤ k) ∧ Aside0 (Below w.heap.size w wc))
    case first =>
      have H := HC5.out
      clear HC5
      by_cases c7 : (l0.length : Int) > 40
      · rw [if_pos c7] at H
        have c7b0 : decide (40 < (l0.length : Int)) = true := decide_eq_true c7
        have c7b1 : decide (40 < l0.length) = true := decide_eq_true (by omega)
        clear c7
        (first | rw [c7b0] | (simp only [i64_w, i32_w]; rw [c7b0]) | skip)
        have H' := Aside0.mk H
        clear H
        go_wp2
        go_meet
        case rel => exact ⟨_, (true), (by first | rfl | (simp; done) | (simp [*]; done)), H', ⟨by first | omega | exact Nat.le_refl _⟩, ⟨by repeat (first | (with_reducible first | exact HB.out | apply below_alloc | apply pw_below_drewN | apply below_drew1) | exact HB.out)⟩⟩
      · rw [if_neg c7] at H
        have c7b0 : decide (40 < (l0.length : Int)) = false := decide_eq_false c7
        have c7b1 : decide (40 < l0.length) = false := decide_eq_false (by omega)
        clear c7
        (first | rw [c7b0] | (simp only [i64_w, i32_w]; rw [c7b0]) | skip)
        have H' := Aside0.mk H
        clear H
        go_wp2
        go_meet
        case rel => exact ⟨_, (decide ((a1.size : Int) > 400)), (by first | rfl | (simp; done) | (simp [*]; done)), H', ⟨by first | omega | exact Nat.le_refl _⟩, ⟨by repeat (first | (with_reducible first | exact HB.out | apply below_alloc | apply pw_below_drewN | apply below_drew1) | exact HB.out)⟩⟩
    case rest =>
      clear HC5
      try clear c1
      try clear p2
      try clear c4
      try clear c7
      try clear c7b0
      try clear c7b1
      obtain ⟨kq, x24_4, rfl, HA, HJ4, HB⟩ := hcut
      cases kq with
      | zero => exact absurd HA.out (by simp [abacistlaw39_ShowHex.j0])
      | succ kj4 =>
        have H := HA.out
        clear HA
        simp only [abacistlaw39_ShowHex.j0] at H
        by_cases c8 : x24_4 = true
        · subst c8
          have H1 : (some true) = some r := by rw [if_pos rfl] at H; exact H
          clear H
          have H := H1
          clear H1
          obtain rfl := Option.some.inj H
          go_wp2
          go_ret
          exact ⟨by first | rfl | (simp [errW_none, errW_some] <;> rfl) | (simp [*, errW_none, errW_some] <;> rfl), by repeat (first | (with_reducible first | exact HB.out | apply below_alloc | apply pw_below_drewN | apply below_drew1) | exact HB.out)⟩
        · replace c8 := Bool.eq_false_iff.mpr c8
          subst c8
          have H1 : (abacistlaw39_ShowHex.l0 kj4 l0 a1 (⟨#[]⟩ : ByteArray) 0) = some r := by rw [if_neg (show ¬ (false = true) by decide)] at H; exact H
          clear H
          have H := H1
          clear H1
          have H' := Aside0.mk H
          clear H
          go_wp2
          go_loopg [5, 6] kj4 (fun kq v5 v6 w' => ∃ (x5_2 : ByteArray) (x6_2 : Int), v5 = .string x5_2 ∧ v6 = .int .i64 x6_2 ∧ Aside0 (abacistlaw39_ShowHex.l0 kq l0 a1 x5_2 x6_2 = some r) ∧ Aside0 (kq ≤ kj4) ∧ Aside0 (Below w.heap.size w w'))
          case atStart => exact ⟨((⟨#[]⟩ : ByteArray)), (0), (by first | rfl | (simp; done) | (simp [*]; done)), (by first | rfl | (simp; done) | (simp [*]; done)), H', ⟨Nat.le_refl _⟩, ⟨by repeat (first | (with_reducible first | exact HB.out | apply below_alloc | apply pw_below_drewN | apply below_drew1) | exact HB.out)⟩⟩
          case round =>
            clear H'
            try clear c1
            try clear p2
            try clear c4
            try clear c7
            try clear c7b0
            try clear c7b1
            try clear c8
            try clear p2
            obtain ⟨x5_2, x6_2, rfl, rfl, HA, HK2, HB⟩ := hrel
            cases gk with
            | zero => exact absurd HA.out (by simp [abacistlaw39_ShowHex.l0])
            | succ k2 =>
              have H := HA.out
              clear HA
              simp only [abacistlaw39_ShowHex.l0] at H
              by_cases c9 : x6_2 < (l0.length : Int)
              · rw [if_pos c9] at H
                have c9b0 : decide (x6_2 < (l0.length : Int)) = true := decide_eq_true c9
                clear c9
                by_cases c10 : 0 ≤ x6_2
                · rw [if_pos c10] at H
                  have c10b0 : decide (0 ≤ x6_2) = true := decide_eq_true c10
                  clear c10
                  replace H := Option.bind_eq_some_iff.mp H
                  obtain ⟨t136, A110, H⟩ := H
                  replace H : (if x5_2.size + t136.size ≤ 9223372036854775807 then (abacistlaw39_ShowHex.l0 k2 l0 a1 (x5_2 ++ t136) (wrap64 (x6_2 + 1))) else (none)) = some r := H
                  have A11 := Aside0.mk A110
                  clear A110
                  by_cases c12 : x5_2.size + t136.size ≤ 9223372036854775807
                  · rw [if_pos c12] at H
                    have c12b0 := eq_true c12
                    have c12b1 : decide (x5_2.size + t136.size ≤ 9223372036854775807) = true := decide_eq_true c12
                    try have c12b2 : (9223372036854775807 < x5_2.size + t136.size) = False := eq_false (Nat.not_lt.2 c12)
                    have H' := Aside0.mk H
                    clear H
                    have p135 : 0 ≤ (x6_2 : Int) := of_decide_eq_true (by first | (with_reducible assumption) | assumption)
                    have q135 : x6_2 < (l0.length : Int) := of_decide_eq_true (by first | (with_reducible assumption) | assumption)
                    obtain ⟨ad135, e135, hx135_0⟩ := Kd.at_int HR0.out x6_2 p135 q135
                    cases e135
                    replace hx135_0 := (HB.out.cell (World.block_lt_of_cell? w _ hx135_0)).trans hx135_0
                    replace p135 := eq_true p135
                    replace q135 := eq_true q135
                    go_wp2_with (first | ((with_reducible refine gate_callee (f := 15) rfl ?_); refine goesL_ (some 36) rfl rfl Try.func15 (by kernel_rfl) rfl #[.int .u64 (rd l0 x6_2)] rfl (by (try simp only [List.map_toArray, List.map_cons, List.map_nil]); first | done | rfl | (simp only [List.length_drop, List.length_take]; rfl)) ?_; (with_reducible refine (abacistlaw39_hex.calls k2 (rd l0 x6_2) t136 _ A11.out).mono ?_); rintro e w13 ⟨rfl, hb⟩; refine ⟨_, rfl, ?_⟩; have n0_ := Aside0.mk (below_step (by repeat (first | (with_reducible first | exact HB.out | apply below_alloc | apply pw_below_drewN | apply below_drew1) | exact HB.out)) hb); clear HB; have HB := n0_; clear n0_; (try clear hb); (try clear hb2); (try clear hk); (try clear hi)))
                    go_roundg k2
                    case measure => have := HJ4.out; have := HK2.out; omega
                    case rel => exact ⟨(x5_2 ++ t136), (wrap64 (x6_2 + 1)), (by first | rfl | (simp; done) | (simp [*]; done)), (by first | rfl | (simp; done) | (simp [*]; done)), H', ⟨by have := HJ4.out; have := HK2.out; omega⟩, ⟨by repeat (first | (with_reducible first | exact HB.out | apply below_alloc | apply pw_below_drewN | apply below_drew1) | exact HB.out)⟩⟩
                  · rw [if_neg c12] at H
                    exact absurd H (by simp)
                · rw [if_neg c10] at H
                  exact absurd H (by simp)
              · rw [if_neg c9] at H
                have c9b0 : decide (x6_2 < (l0.length : Int)) = false := decide_eq_false c9
                clear c9
                replace H := Option.bind_eq_some_iff.mp H
                obtain ⟨t137, A140, H⟩ := H
                replace H : ((show_ReadHex.f k2 t137).bind fun bt138 => (if t137.toList = x5_2.toList then (if bt138.2.2 = 0 then (if bt138.2.1 = 0 then ((abacistref04_Same.f k2 bt138.1 l0).bind fun t143 => (abacistlaw39_ShowHex.j2 k2 a1 (!t143))) else (abacistlaw39_ShowHex.j2 k2 a1 true)) else (abacistlaw39_ShowHex.j2 k2 a1 true)) else (abacistlaw39_ShowHex.j2 k2 a1 true))) = some r := H
                have A14 := Aside0.mk A140
                clear A140
                replace H := Option.bind_eq_some_iff.mp H
                obtain ⟨⟨t138, t139, t140⟩, A150, H⟩ := H
                replace H : (if t137.toList = x5_2.toList then (if t140 = 0 then (if t139 = 0 then ((abacistref04_Same.f k2 t138 l0).bind fun t143 => (abacistlaw39_ShowHex.j2 k2 a1 (!t143))) else (abacistlaw39_ShowHex.j2 k2 a1 true)) else (abacistlaw39_ShowHex.j2 k2 a1 true)) else (abacistlaw39_ShowHex.j2 k2 a1 true)) = some r := H
                have A15 := Aside0.mk A150
                clear A150
                have HC16 := Aside0.mk H
                clear H
                go_upto_region 12 with (first | ((with_reducible refine gate_callee (f := 16) rfl ?_); refine goesL_ (some 39) rfl rfl Try.func16 (by kernel_rfl) rfl #[.slice A0 l0.length c0] rfl (by (try simp only [List.map_toArray, List.map_cons, List.map_nil]); first | done | rfl | (simp only [List.length_drop, List.length_take]; rfl)) ?_; (with_reducible refine (show_Hex.calls _ _ l0 t137 _ ?side1 ?side2 A14.out).mono ?_); (case side1 => repeat (first | exact (Kd.C_below HR0.out HB.out) | (with_reducible refine Kd.C_alloc ?_ _) | (with_reducible refine Kd.C_drewN ?_ _) | (with_reducible refine Kd.C_drew ?_))); (case side2 => exact HC0.out); rintro e w17 ⟨rfl, hb⟩; refine ⟨_, rfl, ?_⟩; have n0_ := Aside0.mk (below_step (by repeat (first | (with_reducible first | exact HB.out | apply below_alloc | apply pw_below_drewN | apply below_drew1) | exact HB.out)) hb); clear HB; have HB := n0_; clear n0_; (try clear hb); (try clear hb2); (try clear hk); (try clear hi)) | ((with_reducible refine gate_callee (f := 17) rfl ?_); refine goesL_ (some 42) rfl rfl Try.func17 (by kernel_rfl) rfl #[.string t137] rfl (by (try simp only [List.map_toArray, List.map_cons, List.map_nil]); first | done | rfl | (simp only [List.length_drop, List.length_take]; rfl)) ?_; (with_reducible refine (show_ReadHex.calls k2 t137 t138 t139 t140 _ A15.out).mono ?_); rintro e w18 ⟨v141, rfl, ho0, hb⟩; refine ⟨_, rfl, ?_⟩; have n0_ := Aside0.mk (Kd.R_lower ho0 (below_size (by repeat (first | (with_reducible first | exact HB.out | apply below_alloc | apply pw_below_drewN | apply below_drew1) | exact HB.out)))); have n1_ := Aside0.mk (below_step (by repeat (first | (with_reducible first | exact HB.out | apply below_alloc | apply pw_below_drewN | apply below_drew1) | exact HB.out)) hb); clear HB; have HO142 := n0_; have HB := n1_; clear n0_ n1_; (try clear hb); (try clear hb2); (try clear hk); (try clear hi); (try clear ho0)))
                (try simp only [Act.put, List.setIfInBounds_toArray, List.set_cons_zero, List.set_cons_succ])
                go_cut [62] (fun v62 wc => ∃ (kq : Nat) (x62_15 : Bool), v62 = .bool x62_15 ∧ Aside0 (abacistlaw39_ShowHex.j2 kq a1 x62_15 = some r) ∧ Aside0 (kq ≤ k2) ∧ Aside0 (Below w.heap.size w wc))
                case first =>
                  have H := HC16.out
                  clear HC16
                  by_cases c19 : t137.toList = x5_2.toList
                  · rw [if_pos c19] at H
                    have c19b0 : (t137.toList == x5_2.toList) = true := beq_iff_eq.mpr c19
                    have c19b1 : (t137.toList != x5_2.toList) = false := bne_eq_false_iff_eq.mpr c19
                    clear c19
                    (first | rw [c19b0] | (simp only [i64_w, i32_w]; rw [c19b0]) | skip)
                    by_cases c20 : t140 = 0
                    · rw [if_pos c20] at H
                      have c20b0 : (t140 == 0) = true := beq_iff_eq.mpr c20
                      have c20b1 : (t140 != 0) = false := bne_eq_false_iff_eq.mpr c20
                      clear c20
                      by_cases c21 : t139 = 0
                      · rw [if_pos c21] at H
                        have c21b0 : (t139 == 0) = true := beq_iff_eq.mpr c21
                        have c21b1 : (t139 != 0) = false := bne_eq_false_iff_eq.mpr c21
                        clear c21
                        replace H := Option.bind_eq_some_iff.mp H
                        obtain ⟨t143, A220, H⟩ := H
                        replace H : (abacistlaw39_ShowHex.j2 k2 a1 (!t143)) = some r := H
                        have A22 := Aside0.mk A220
                        clear A220
                        have H' := Aside0.mk H
                        clear H
                        obtain ⟨Ao23, co23, eo23⟩ := Kd.R_slice HO142.out
                        subst eo23
                        go_wp2_with (first | (go_at_call 14; (with_reducible refine (abacistref04_Same.calls k2 _ _ t138 _ _ l0 t143 _ ?side1 ?side2 ?side3 ?side4 A22.out).mono ?_); (case side1 => repeat (first | exact (Kd.R_reads' HO142.out).2.2 | (with_reducible refine Kd.C_alloc ?_ _) | (with_reducible refine Kd.C_drewN ?_ _) | (with_reducible refine Kd.C_drew ?_))); (case side2 => exact (Kd.R_reads' HO142.out).2.1); (case side3 => repeat (first | exact (Kd.C_below HR0.out HB.out) | (with_reducible refine Kd.C_alloc ?_ _) | (with_reducible refine Kd.C_drewN ?_ _) | (with_reducible refine Kd.C_drew ?_))); (case side4 => exact HC0.out); rintro e w' ⟨rfl, ⟨nd, rfl⟩⟩))
                        go_meet
                        case rel => exact ⟨_, (!t143), (by first | rfl | (simp; done) | (simp [*]; done)), H', ⟨by have := HJ4.out; have := HK2.out; first | omega | exact Nat.le_refl _⟩, ⟨by repeat (first | (with_reducible first | exact HB.out | apply below_alloc | apply pw_below_drewN | apply below_drew1) | exact HB.out)⟩⟩
                      · rw [if_neg c21] at H
                        have c21b0 : (t139 == 0) = false := beq_eq_false_iff_ne.mpr c21
                        have c21b1 : (t139 != 0) = true := bne_iff_ne.mpr c21
                        have H' := Aside0.mk H
                        clear H
                        go_wp2
                        go_meet
                        case rel => exact ⟨_, (true), (by first | rfl | (simp; done) | (simp [*]; done)), H', ⟨by have := HJ4.out; have := HK2.out; first | omega | exact Nat.le_refl _⟩, ⟨by repeat (first | (with_reducible first | exact HB.out | apply below_alloc | apply pw_below_drewN | apply below_drew1) | exact HB.out)⟩⟩
                    · rw [if_neg c20] at H
                      have c20b0 : (t140 == 0) = false := beq_eq_false_iff_ne.mpr c20
                      have c20b1 : (t140 != 0) = true := bne_iff_ne.mpr c20
                      have H' := Aside0.mk H
                      clear H
                      go_wp2
                      go_meet
                      case rel => exact ⟨_, (true), (by first | rfl | (simp; done) | (simp [*]; done)), H', ⟨by have := HJ4.out; have := HK2.out; first | omega | exact Nat.le_refl _⟩, ⟨by repeat (first | (with_reducible first | exact HB.out | apply below_alloc | apply pw_below_drewN | apply below_drew1) | exact HB.out)⟩⟩
                  · rw [if_neg c19] at H
                    have c19b0 : (t137.toList == x5_2.toList) = false := beq_eq_false_iff_ne.mpr c19
                    have c19b1 : (t137.toList != x5_2.toList) = true := bne_iff_ne.mpr c19
                    (first | rw [c19b0] | (simp only [i64_w, i32_w]; rw [c19b0]) | skip)
                    have H' := Aside0.mk H
                    clear H
                    go_wp2
                    go_meet
                    case rel => exact ⟨_, (true), (by first | rfl | (simp; done) | (simp [*]; done)), H', ⟨by have := HJ4.out; have := HK2.out; first | omega | exact Nat.le_refl _⟩, ⟨by repeat (first | (with_reducible first | exact HB.out | apply below_alloc | apply pw_below_drewN | apply below_drew1) | exact HB.out)⟩⟩
                case rest =>
                  clear HC16
                  try clear c1
                  try clear p1
                  try clear q1
                  try clear hx1
                  try clear c2
                  try clear p2
                  try clear c4
                  try clear p6
                  try clear c7
                  try clear c7b0
                  try clear c7b1
                  try clear c8
                  try clear c9
                  try clear c9b0
                  try clear c10
                  try clear c10b0
                  try clear c11
                  try clear c12
                  try clear c12b0
                  try clear c12b1
                  try clear c12b2
                  try clear p13
                  try clear q13
                  try clear hx13
                  try clear c15
                  try clear c16
                  try clear c17
                  try clear c19
                  try clear c19b0
                  try clear c19b1
                  try clear c20
                  try clear c20b0
                  try clear c20b1
                  try clear c21
                  try clear c21b0
                  try clear c21b1
                  try clear hx135_0
                  try clear p135
                  try clear p2
                  try clear q135
                  obtain ⟨kq, x62_15, rfl, HA, HJ15, HB⟩ := hcut
                  cases kq with
                  | zero => exact absurd HA.out (by simp [abacistlaw39_ShowHex.j2])
                  | succ kj15 =>
                    have H := HA.out
                    clear HA
                    simp only [abacistlaw39_ShowHex.j2] at H
                    by_cases c24 : x62_15 = true
                    · subst c24
                      have H1 : (some false) = some r := by rw [if_pos rfl] at H; exact H
                      clear H
                      have H := H1
                      clear H1
                      obtain rfl := Option.some.inj H
                      go_wp2
                      go_ret
                      exact ⟨by first | rfl | (simp [errW_none, errW_some] <;> rfl) | (simp [*, errW_none, errW_some] <;> rfl), by repeat (first | (with_reducible first | exact HB.out | apply below_alloc | apply pw_below_drewN | apply below_drew1) | exact HB.out)⟩
                    · replace c24 := Bool.eq_false_iff.mpr c24
                      subst c24
                      have H1 : ((show_ReadHex.f kj15 a1).bind fun bt144 => (abacistlaw39_ShowHex.l1 kj15 a1 bt144.1 bt144.2.1 bt144.2.2 0)) = some r := by rw [if_neg (show ¬ (false = true) by decide)] at H; exact H
                      clear H
                      have H := H1
                      clear H1
                      replace H := Option.bind_eq_some_iff.mp H
                      obtain ⟨⟨t144, t145, t146⟩, A250, H⟩ := H
                      replace H : (abacistlaw39_ShowHex.l1 kj15 a1 t144 t145 t146 0) = some r := H
                      have A25 := Aside0.mk A250
                      clear A250
                      have H' := Aside0.mk H
                      clear H
                      go_wp2_with (first | ((with_reducible refine gate_callee (f := 17) rfl ?_); refine goesL_ (some 65) rfl rfl Try.func17 (by kernel_rfl) rfl #[.string a1] rfl (by (try simp only [List.map_toArray, List.map_cons, List.map_nil]); first | done | rfl | (simp only [List.length_drop, List.length_take]; rfl)) ?_; (with_reducible refine (show_ReadHex.calls kj15 a1 t144 t145 t146 _ A25.out).mono ?_); rintro e w26 ⟨v147, rfl, ho0, hb⟩; refine ⟨_, rfl, ?_⟩; have n0_ := Aside0.mk (Kd.R_lower ho0 (below_size (by repeat (first | (with_reducible first | exact HB.out | apply below_alloc | apply pw_below_drewN | apply below_drew1) | exact HB.out)))); have n1_ := Aside0.mk (below_step (by repeat (first | (with_reducible first | exact HB.out | apply below_alloc | apply pw_below_drewN | apply below_drew1) | exact HB.out)) hb); clear HB; have HO148 := n0_; have HB := n1_; clear n0_ n1_; (try clear hb); (try clear hb2); (try clear hk); (try clear hi); (try clear ho0)))
                      go_loopg [14] kj15 (fun kq v14 w' => ∃ (x14_4 : Int), v14 = .int .i64 x14_4 ∧ Aside0 (abacistlaw39_ShowHex.l1 kq a1 t144 t145 t146 x14_4 = some r) ∧ Aside0 (kq ≤ kj15) ∧ Aside0 (Kd.R (Kd.int .u64) 30 w' w.heap.size (fun _ => True) v147 t144) ∧ Aside0 (Below w.heap.size w w'))
                      case atStart => exact ⟨(0), (by first | rfl | (simp; done) | (simp [*]; done)), H', ⟨Nat.le_refl _⟩, ⟨by (with_reducible repeat (first | apply Kd.R_alloc | apply Kd.R_drewN | apply Kd.R_drew)); exact HO148.out⟩, ⟨by repeat (first | (with_reducible first | exact HB.out | apply below_alloc | apply pw_below_drewN | apply below_drew1) | exact HB.out)⟩⟩
                      case round =>
                        clear H'
                        try clear c1
                        try clear p1
                        try clear q1
                        try clear hx1
                        try clear c2
                        try clear p2
                        try clear c4
                        try clear p6
                        try clear c7
                        try clear c7b0
                        try clear c7b1
                        try clear c8
                        try clear c9
                        try clear c9b0
                        try clear c10
                        try clear c10b0
                        try clear c11
                        try clear c12
                        try clear c12b0
                        try clear c12b1
                        try clear c12b2
                        try clear p13
                        try clear q13
                        try clear hx13
                        try clear c15
                        try clear c16
                        try clear c17
                        try clear c19
                        try clear c19b0
                        try clear c19b1
                        try clear c20
                        try clear c20b0
                        try clear c20b1
                        try clear c21
                        try clear c21b0
                        try clear c21b1
                        try clear c24
                        try clear hx135_0
                        try clear p1
                        try clear p13
                        try clear p135
                        try clear p2
                        try clear p6
                        try clear q1
                        try clear q13
                        try clear q135
                        obtain ⟨x14_4, rfl, HA, HK4, HO_11, HB⟩ := hrel
                        cases gk with
                        | zero => exact absurd HA.out (by simp [abacistlaw39_ShowHex.l1])
                        | succ k4 =>
                          have H := HA.out
                          clear HA
                          simp only [abacistlaw39_ShowHex.l1] at H
                          by_cases c27 : x14_4 < (a1.size : Int)
                          · rw [if_pos c27] at H
                            have c27b0 : decide (x14_4 < (a1.size : Int)) = true := decide_eq_true c27
                            clear c27
                            by_cases c28 : 0 ≤ x14_4
                            · rw [if_pos c28] at H
                              have c28b0 : decide (0 ≤ x14_4) = true := decide_eq_true c28
                              clear c28
                              by_cases c30 : (bt a1 x14_4) < 48
                              · rw [if_pos c30] at H
                                have c30b0 : decide ((bt a1 x14_4) < 48) = true := decide_eq_true c30
                                clear c30
                                by_cases c32 : (bt a1 x14_4) < 97
                                · rw [if_pos c32] at H
                                  have c32b0 : decide ((bt a1 x14_4) < 97) = true := decide_eq_true c32
                                  clear c32
                                  by_cases c33 : t146 = 17
                                  · rw [if_pos c33] at H
                                    have c33b0 : (t146 == 17) = true := beq_iff_eq.mpr c33
                                    have c33b1 : (t146 != 17) = false := bne_eq_false_iff_eq.mpr c33
                                    clear c33
                                    by_cases c34 : t145 = x14_4
                                    · rw [if_pos c34] at H
                                      have c34b0 : (t145 == x14_4) = true := beq_iff_eq.mpr c34
                                      have c34b1 : (t145 != x14_4) = false := bne_eq_false_iff_eq.mpr c34
                                      clear c34
                                      obtain rfl := Option.some.inj H
                                      have p29 : 0 ≤ (x14_4 : Int) := of_decide_eq_true (by first | (with_reducible assumption) | assumption)
                                      have q29 : x14_4 < (a1.size : Int) := of_decide_eq_true (by first | (with_reducible assumption) | assumption)
                                      have hx29 := bt_at a1 x14_4
                                      replace p29 := eq_true p29
                                      replace q29 := eq_true q29
                                      have p31 : 0 ≤ (x14_4 : Int) := of_decide_eq_true (by first | (with_reducible assumption) | assumption)
                                      have q31 : x14_4 < (a1.size : Int) := of_decide_eq_true (by first | (with_reducible assumption) | assumption)
                                      have hx31 := bt_at a1 x14_4
                                      replace p31 := eq_true p31
                                      replace q31 := eq_true q31
                                      obtain ⟨Ao35, co35, eo35⟩ := Kd.R_slice HO_11.out
                                      subst eo35
                                      go_wp2
                                      go_ret
                                      exact ⟨by first | rfl | (simp [errW_none, errW_some] <;> rfl) | (simp [*, errW_none, errW_some] <;> rfl), by repeat (first | (with_reducible first | exact HB.out | apply below_alloc | apply pw_below_drewN | apply below_drew1) | exact HB.out)⟩
                                    · rw [if_neg c34] at H
                                      have c34b0 : (t145 == x14_4) = false := beq_eq_false_iff_ne.mpr c34
                                      have c34b1 : (t145 != x14_4) = true := bne_iff_ne.mpr c34
                                      obtain rfl := Option.some.inj H
                                      have p29 : 0 ≤ (x14_4 : Int) := of_decide_eq_true (by first | (with_reducible assumption) | assumption)
                                      have q29 : x14_4 < (a1.size : Int) := of_decide_eq_true (by first | (with_reducible assumption) | assumption)
                                      have hx29 := bt_at a1 x14_4
                                      replace p29 := eq_true p29
                                      replace q29 := eq_true q29
                                      have p31 : 0 ≤ (x14_4 : Int) := of_decide_eq_true (by first | (with_reducible assumption) | assumption)
                                      have q31 : x14_4 < (a1.size : Int) := of_decide_eq_true (by first | (with_reducible assumption) | assumption)
                                      have hx31 := bt_at a1 x14_4
                                      replace p31 := eq_true p31
                                      replace q31 := eq_true q31
                                      go_wp2
                                      go_ret
                                      exact ⟨by first | rfl | (simp [errW_none, errW_some] <;> rfl) | (simp [*, errW_none, errW_some] <;> rfl), by repeat (first | (with_reducible first | exact HB.out | apply below_alloc | apply pw_below_drewN | apply below_drew1) | exact HB.out)⟩
                                  · rw [if_neg c33] at H
                                    have c33b0 : (t146 == 17) = false := beq_eq_false_iff_ne.mpr c33
                                    have c33b1 : (t146 != 17) = true := bne_iff_ne.mpr c33
                                    obtain rfl := Option.some.inj H
                                    have p29 : 0 ≤ (x14_4 : Int) := of_decide_eq_true (by first | (with_reducible assumption) | assumption)
                                    have q29 : x14_4 < (a1.size : Int) := of_decide_eq_true (by first | (with_reducible assumption) | assumption)
                                    have hx29 := bt_at a1 x14_4
                                    replace p29 := eq_true p29
                                    replace q29 := eq_true q29
                                    have p31 : 0 ≤ (x14_4 : Int) := of_decide_eq_true (by first | (with_reducible assumption) | assumption)
                                    have q31 : x14_4 < (a1.size : Int) := of_decide_eq_true (by first | (with_reducible assumption) | assumption)
                                    have hx31 := bt_at a1 x14_4
                                    replace p31 := eq_true p31
                                    replace q31 := eq_true q31
                                    go_wp2
                                    go_ret
                                    exact ⟨by first | rfl | (simp [errW_none, errW_some] <;> rfl) | (simp [*, errW_none, errW_some] <;> rfl), by repeat (first | (with_reducible first | exact HB.out | apply below_alloc | apply pw_below_drewN | apply below_drew1) | exact HB.out)⟩
                                · rw [if_neg c32] at H
                                  have c32b0 : decide ((bt a1 x14_4) < 97) = false := decide_eq_false c32
                                  clear c32
                                  by_cases c37 : (bt a1 x14_4) > 102
                                  · rw [if_pos c37] at H
                                    have c37b0 : decide (102 < (bt a1 x14_4)) = true := decide_eq_true c37
                                    clear c37
                                    by_cases c38 : t146 = 17
                                    · rw [if_pos c38] at H
                                      have c38b0 : (t146 == 17) = true := beq_iff_eq.mpr c38
                                      have c38b1 : (t146 != 17) = false := bne_eq_false_iff_eq.mpr c38
                                      clear c38
                                      by_cases c39 : t145 = x14_4
                                      · rw [if_pos c39] at H
                                        have c39b0 : (t145 == x14_4) = true := beq_iff_eq.mpr c39
                                        have c39b1 : (t145 != x14_4) = false := bne_eq_false_iff_eq.mpr c39
                                        clear c39
                                        obtain rfl := Option.some.inj H
                                        have p29 : 0 ≤ (x14_4 : Int) := of_decide_eq_true (by first | (with_reducible assumption) | assumption)
                                        have q29 : x14_4 < (a1.size : Int) := of_decide_eq_true (by first | (with_reducible assumption) | assumption)
                                        have hx29 := bt_at a1 x14_4
                                        replace p29 := eq_true p29
                                        replace q29 := eq_true q29
                                        have p31 : 0 ≤ (x14_4 : Int) := of_decide_eq_true (by first | (with_reducible assumption) | assumption)
                                        have q31 : x14_4 < (a1.size : Int) := of_decide_eq_true (by first | (with_reducible assumption) | assumption)
                                        have hx31 := bt_at a1 x14_4
                                        replace p31 := eq_true p31
                                        replace q31 := eq_true q31
                                        have p36 : 0 ≤ (x14_4 : Int) := of_decide_eq_true (by first | (with_reducible assumption) | assumption)
                                        have q36 : x14_4 < (a1.size : Int) := of_decide_eq_true (by first | (with_reducible assumption) | assumption)
                                        have hx36 := bt_at a1 x14_4
                                        replace p36 := eq_true p36
                                        replace q36 := eq_true q36
                                        obtain ⟨Ao40, co40, eo40⟩ := Kd.R_slice HO_11.out
                                        subst eo40
                                        go_wp2
                                        go_ret
                                        exact ⟨by first | rfl | (simp [errW_none, errW_some] <;> rfl) | (simp [*, errW_none, errW_some] <;> rfl), by repeat (first | (with_reducible first | exact HB.out | apply below_alloc | apply pw_below_drewN | apply below_drew1) | exact HB.out)⟩
                                      · rw [if_neg c39] at H
                                        have c39b0 : (t145 == x14_4) = false := beq_eq_false_iff_ne.mpr c39
                                        have c39b1 : (t145 != x14_4) = true := bne_iff_ne.mpr c39
                                        obtain rfl := Option.some.inj H
                                        have p29 : 0 ≤ (x14_4 : Int) := of_decide_eq_true (by first | (with_reducible assumption) | assumption)
                                        have q29 : x14_4 < (a1.size : Int) := of_decide_eq_true (by first | (with_reducible assumption) | assumption)
                                        have hx29 := bt_at a1 x14_4
                                        replace p29 := eq_true p29
                                        replace q29 := eq_true q29
                                        have p31 : 0 ≤ (x14_4 : Int) := of_decide_eq_true (by first | (with_reducible assumption) | assumption)
                                        have q31 : x14_4 < (a1.size : Int) := of_decide_eq_true (by first | (with_reducible assumption) | assumption)
                                        have hx31 := bt_at a1 x14_4
                                        replace p31 := eq_true p31
                                        replace q31 := eq_true q31
                                        have p36 : 0 ≤ (x14_4 : Int) := of_decide_eq_true (by first | (with_reducible assumption) | assumption)
                                        have q36 : x14_4 < (a1.size : Int) := of_decide_eq_true (by first | (with_reducible assumption) | assumption)
                                        have hx36 := bt_at a1 x14_4
                                        replace p36 := eq_true p36
                                        replace q36 := eq_true q36
                                        go_wp2
                                        go_ret
                                        exact ⟨by first | rfl | (simp [errW_none, errW_some] <;> rfl) | (simp [*, errW_none, errW_some] <;> rfl), by repeat (first | (with_reducible first | exact HB.out | apply below_alloc | apply pw_below_drewN | apply below_drew1) | exact HB.out)⟩
                                    · rw [if_neg c38] at H
                                      have c38b0 : (t146 == 17) = false := beq_eq_false_iff_ne.mpr c38
                                      have c38b1 : (t146 != 17) = true := bne_iff_ne.mpr c38
                                      obtain rfl := Option.some.inj H
                                      have p29 : 0 ≤ (x14_4 : Int) := of_decide_eq_true (by first | (with_reducible assumption) | assumption)
                                      have q29 : x14_4 < (a1.size : Int) := of_decide_eq_true (by first | (with_reducible assumption) | assumption)
                                      have hx29 := bt_at a1 x14_4
                                      replace p29 := eq_true p29
                                      replace q29 := eq_true q29
                                      have p31 : 0 ≤ (x14_4 : Int) := of_decide_eq_true (by first | (with_reducible assumption) | assumption)
                                      have q31 : x14_4 < (a1.size : Int) := of_decide_eq_true (by first | (with_reducible assumption) | assumption)
                                      have hx31 := bt_at a1 x14_4
                                      replace p31 := eq_true p31
                                      replace q31 := eq_true q31
                                      have p36 : 0 ≤ (x14_4 : Int) := of_decide_eq_true (by first | (with_reducible assumption) | assumption)
                                      have q36 : x14_4 < (a1.size : Int) := of_decide_eq_true (by first | (with_reducible assumption) | assumption)
                                      have hx36 := bt_at a1 x14_4
                                      replace p36 := eq_true p36
                                      replace q36 := eq_true q36
                                      go_wp2
                                      go_ret
                                      exact ⟨by first | rfl | (simp [errW_none, errW_some] <;> rfl) | (simp [*, errW_none, errW_some] <;> rfl), by repeat (first | (with_reducible first | exact HB.out | apply below_alloc | apply pw_below_drewN | apply below_drew1) | exact HB.out)⟩
                                  · rw [if_neg c37] at H
                                    have c37b0 : decide (102 < (bt a1 x14_4)) = false := decide_eq_false c37
                                    clear c37
                                    have H' := Aside0.mk H
                                    clear H
                                    have p29 : 0 ≤ (x14_4 : Int) := of_decide_eq_true (by first | (with_reducible assumption) | assumption)
                                    have q29 : x14_4 < (a1.size : Int) := of_decide_eq_true (by first | (with_reducible assumption) | assumption)
                                    have hx29 := bt_at a1 x14_4
                                    replace p29 := eq_true p29
                                    replace q29 := eq_true q29
                                    have p31 : 0 ≤ (x14_4 : Int) := of_decide_eq_true (by first | (with_reducible assumption) | assumption)
                                    have q31 : x14_4 < (a1.size : Int) := of_decide_eq_true (by first | (with_reducible assumption) | assumption)
                                    have hx31 := bt_at a1 x14_4
                                    replace p31 := eq_true p31
                                    replace q31 := eq_true q31
                                    have p36 : 0 ≤ (x14_4 : Int) := of_decide_eq_true (by first | (with_reducible assumption) | assumption)
                                    have q36 : x14_4 < (a1.size : Int) := of_decide_eq_true (by first | (with_reducible assumption) | assumption)
                                    have hx36 := bt_at a1 x14_4
                                    replace p36 := eq_true p36
                                    replace q36 := eq_true q36
                                    go_wp2
                                    go_roundg k4
                                    case measure => have := HJ4.out; have := HK2.out; have := HJ15.out; have := HK4.out; omega
                                    case rel => exact ⟨(wrap64 (x14_4 + 1)), (by first | rfl | (simp; done) | (simp [*]; done)), H', ⟨by have := HJ4.out; have := HK2.out; have := HJ15.out; have := HK4.out; omega⟩, ⟨by (with_reducible repeat (first | apply Kd.R_alloc | apply Kd.R_drewN | apply Kd.R_drew)); exact HO_11.out⟩, ⟨by repeat (first | (with_reducible first | exact HB.out | apply below_alloc | apply pw_below_drewN | apply below_drew1) | exact HB.out)⟩⟩
                              · rw [if_neg c30] at H
                                have c30b0 : decide ((bt a1 x14_4) < 48) = false := decide_eq_false c30
                                clear c30
                                by_cases c42 : (bt a1 x14_4) > 57
                                · rw [if_pos c42] at H
                                  have c42b0 : decide (57 < (bt a1 x14_4)) = true := decide_eq_true c42
                                  clear c42
                                  by_cases c44 : (bt a1 x14_4) < 97
                                  · rw [if_pos c44] at H
                                    have c44b0 : decide ((bt a1 x14_4) < 97) = true := decide_eq_true c44
                                    clear c44
                                    by_cases c45 : t146 = 17
                                    · rw [if_pos c45] at H
                                      have c45b0 : (t146 == 17) = true := beq_iff_eq.mpr c45
                                      have c45b1 : (t146 != 17) = false := bne_eq_false_iff_eq.mpr c45
                                      clear c45
                                      by_cases c46 : t145 = x14_4
                                      · rw [if_pos c46] at H
                                        have c46b0 : (t145 == x14_4) = true := beq_iff_eq.mpr c46
                                        have c46b1 : (t145 != x14_4) = false := bne_eq_false_iff_eq.mpr c46
                                        clear c46
                                        obtain rfl := Option.some.inj H
                                        have p29 : 0 ≤ (x14_4 : Int) := of_decide_eq_true (by first | (with_reducible assumption) | assumption)
                                        have q29 : x14_4 < (a1.size : Int) := of_decide_eq_true (by first | (with_reducible assumption) | assumption)
                                        have hx29 := bt_at a1 x14_4
                                        replace p29 := eq_true p29
                                        replace q29 := eq_true q29
                                        have p41 : 0 ≤ (x14_4 : Int) := of_decide_eq_true (by first | (with_reducible assumption) | assumption)
                                        have q41 : x14_4 < (a1.size : Int) := of_decide_eq_true (by first | (with_reducible assumption) | assumption)
                                        have hx41 := bt_at a1 x14_4
                                        replace p41 := eq_true p41
                                        replace q41 := eq_true q41
                                        have p43 : 0 ≤ (x14_4 : Int) := of_decide_eq_true (by first | (with_reducible assumption) | assumption)
                                        have q43 : x14_4 < (a1.size : Int) := of_decide_eq_true (by first | (with_reducible assumption) | assumption)
                                        have hx43 := bt_at a1 x14_4
                                        replace p43 := eq_true p43
                                        replace q43 := eq_true q43
                                        obtain ⟨Ao47, co47, eo47⟩ := Kd.R_slice HO_11.out
                                        subst eo47
                                        go_wp2
                                        go_ret
                                        exact ⟨by first | rfl | (simp [errW_none, errW_some] <;> rfl) | (simp [*, errW_none, errW_some] <;> rfl), by repeat (first | (with_reducible first | exact HB.out | apply below_alloc | apply pw_below_drewN | apply below_drew1) | exact HB.out)⟩
                                      · rw [if_neg c46] at H
                                        have c46b0 : (t145 == x14_4) = false := beq_eq_false_iff_ne.mpr c46
                                        have c46b1 : (t145 != x14_4) = true := bne_iff_ne.mpr c46
                                        obtain rfl := Option.some.inj H
                                        have p29 : 0 ≤ (x14_4 : Int) := of_decide_eq_true (by first | (with_reducible assumption) | assumption)
                                        have q29 : x14_4 < (a1.size : Int) := of_decide_eq_true (by first | (with_reducible assumption) | assumption)
                                        have hx29 := bt_at a1 x14_4
                                        replace p29 := eq_true p29
                                        replace q29 := eq_true q29
                                        have p41 : 0 ≤ (x14_4 : Int) := of_decide_eq_true (by first | (with_reducible assumption) | assumption)
                                        have q41 : x14_4 < (a1.size : Int) := of_decide_eq_true (by first | (with_reducible assumption) | assumption)
                                        have hx41 := bt_at a1 x14_4
                                        replace p41 := eq_true p41
                                        replace q41 := eq_true q41
                                        have p43 : 0 ≤ (x14_4 : Int) := of_decide_eq_true (by first | (with_reducible assumption) | assumption)
                                        have q43 : x14_4 < (a1.size : Int) := of_decide_eq_true (by first | (with_reducible assumption) | assumption)
                                        have hx43 := bt_at a1 x14_4
                                        replace p43 := eq_true p43
                                        replace q43 := eq_true q43
                                        go_wp2
                                        go_ret
                                        exact ⟨by first | rfl | (simp [errW_none, errW_some] <;> rfl) | (simp [*, errW_none, errW_some] <;> rfl), by repeat (first | (with_reducible first | exact HB.out | apply below_alloc | apply pw_below_drewN | apply below_drew1) | exact HB.out)⟩
                                    · rw [if_neg c45] at H
                                      have c45b0 : (t146 == 17) = false := beq_eq_false_iff_ne.mpr c45
                                      have c45b1 : (t146 != 17) = true := bne_iff_ne.mpr c45
                                      obtain rfl := Option.some.inj H
                                      have p29 : 0 ≤ (x14_4 : Int) := of_decide_eq_true (by first | (with_reducible assumption) | assumption)
                                      have q29 : x14_4 < (a1.size : Int) := of_decide_eq_true (by first | (with_reducible assumption) | assumption)
                                      have hx29 := bt_at a1 x14_4
                                      replace p29 := eq_true p29
                                      replace q29 := eq_true q29
                                      have p41 : 0 ≤ (x14_4 : Int) := of_decide_eq_true (by first | (with_reducible assumption) | assumption)
                                      have q41 : x14_4 < (a1.size : Int) := of_decide_eq_true (by first | (with_reducible assumption) | assumption)
                                      have hx41 := bt_at a1 x14_4
                                      replace p41 := eq_true p41
                                      replace q41 := eq_true q41
                                      have p43 : 0 ≤ (x14_4 : Int) := of_decide_eq_true (by first | (with_reducible assumption) | assumption)
                                      have q43 : x14_4 < (a1.size : Int) := of_decide_eq_true (by first | (with_reducible assumption) | assumption)
                                      have hx43 := bt_at a1 x14_4
                                      replace p43 := eq_true p43
                                      replace q43 := eq_true q43
                                      go_wp2
                                      go_ret
                                      exact ⟨by first | rfl | (simp [errW_none, errW_some] <;> rfl) | (simp [*, errW_none, errW_some] <;> rfl), by repeat (first | (with_reducible first | exact HB.out | apply below_alloc | apply pw_below_drewN | apply below_drew1) | exact HB.out)⟩
                                  · rw [if_neg c44] at H
                                    have c44b0 : decide ((bt a1 x14_4) < 97) = false := decide_eq_false c44
                                    clear c44
                                    by_cases c49 : (bt a1 x14_4) > 102
                                    · rw [if_pos c49] at H
                                      have c49b0 : decide (102 < (bt a1 x14_4)) = true := decide_eq_true c49
                                      clear c49
                                      by_cases c50 : t146 = 17
                                      · rw [if_pos c50] at H
                                        have c50b0 : (t146 == 17) = true := beq_iff_eq.mpr c50
                                        have c50b1 : (t146 != 17) = false := bne_eq_false_iff_eq.mpr c50
                                        clear c50
                                        by_cases c51 : t145 = x14_4
                                        · rw [if_pos c51] at H
                                          have c51b0 : (t145 == x14_4) = true := beq_iff_eq.mpr c51
                                          have c51b1 : (t145 != x14_4) = false := bne_eq_false_iff_eq.mpr c51
                                          clear c51
                                          obtain rfl := Option.some.inj H
                                          have p29 : 0 ≤ (x14_4 : Int) := of_decide_eq_true (by first | (with_reducible assumption) | assumption)
                                          have q29 : x14_4 < (a1.size : Int) := of_decide_eq_true (by first | (with_reducible assumption) | assumption)
                                          have hx29 := bt_at a1 x14_4
                                          replace p29 := eq_true p29
                                          replace q29 := eq_true q29
                                          have p41 : 0 ≤ (x14_4 : Int) := of_decide_eq_true (by first | (with_reducible assumption) | assumption)
                                          have q41 : x14_4 < (a1.size : Int) := of_decide_eq_true (by first | (with_reducible assumption) | assumption)
                                          have hx41 := bt_at a1 x14_4
                                          replace p41 := eq_true p41
                                          replace q41 := eq_true q41
                                          have p43 : 0 ≤ (x14_4 : Int) := of_decide_eq_true (by first | (with_reducible assumption) | assumption)
                                          have q43 : x14_4 < (a1.size : Int) := of_decide_eq_true (by first | (with_reducible assumption) | assumption)
                                          have hx43 := bt_at a1 x14_4
                                          replace p43 := eq_true p43
                                          replace q43 := eq_true q43
                                          have p48 : 0 ≤ (x14_4 : Int) := of_decide_eq_true (by first | (with_reducible assumption) | assumption)
                                          have q48 : x14_4 < (a1.size : Int) := of_decide_eq_true (by first | (with_reducible assumption) | assumption)
                                          have hx48 := bt_at a1 x14_4
                                          replace p48 := eq_true p48
                                          replace q48 := eq_true q48
                                          obtain ⟨Ao52, co52, eo52⟩ := Kd.R_slice HO_11.out
                                          subst eo52
                                          go_wp2
                                          go_ret
                                          exact ⟨by first | rfl | (simp [errW_none, errW_some] <;> rfl) | (simp [*, errW_none, errW_some] <;> rfl), by repeat (first | (with_reducible first | exact HB.out | apply below_alloc | apply pw_below_drewN | apply below_drew1) | exact HB.out)⟩
                                        · rw [if_neg c51] at H
                                          have c51b0 : (t145 == x14_4) = false := beq_eq_false_iff_ne.mpr c51
                                          have c51b1 : (t145 != x14_4) = true := bne_iff_ne.mpr c51
                                          obtain rfl := Option.some.inj H
                                          have p29 : 0 ≤ (x14_4 : Int) := of_decide_eq_true (by first | (with_reducible assumption) | assumption)
                                          have q29 : x14_4 < (a1.size : Int) := of_decide_eq_true (by first | (with_reducible assumption) | assumption)
                                          have hx29 := bt_at a1 x14_4
                                          replace p29 := eq_true p29
                                          replace q29 := eq_true q29
                                          have p41 : 0 ≤ (x14_4 : Int) := of_decide_eq_true (by first | (with_reducible assumption) | assumption)
                                          have q41 : x14_4 < (a1.size : Int) := of_decide_eq_true (by first | (with_reducible assumption) | assumption)
                                          have hx41 := bt_at a1 x14_4
                                          replace p41 := eq_true p41
                                          replace q41 := eq_true q41
                                          have p43 : 0 ≤ (x14_4 : Int) := of_decide_eq_true (by first | (with_reducible assumption) | assumption)
                                          have q43 : x14_4 < (a1.size : Int) := of_decide_eq_true (by first | (with_reducible assumption) | assumption)
                                          have hx43 := bt_at a1 x14_4
                                          replace p43 := eq_true p43
                                          replace q43 := eq_true q43
                                          have p48 : 0 ≤ (x14_4 : Int) := of_decide_eq_true (by first | (with_reducible assumption) | assumption)
                                          have q48 : x14_4 < (a1.size : Int) := of_decide_eq_true (by first | (with_reducible assumption) | assumption)
                                          have hx48 := bt_at a1 x14_4
                                          replace p48 := eq_true p48
                                          replace q48 := eq_true q48
                                          go_wp2
                                          go_ret
                                          exact ⟨by first | rfl | (simp [errW_none, errW_some] <;> rfl) | (simp [*, errW_none, errW_some] <;> rfl), by repeat (first | (with_reducible first | exact HB.out | apply below_alloc | apply pw_below_drewN | apply below_drew1) | exact HB.out)⟩
                                      · rw [if_neg c50] at H
                                        have c50b0 : (t146 == 17) = false := beq_eq_false_iff_ne.mpr c50
                                        have c50b1 : (t146 != 17) = true := bne_iff_ne.mpr c50
                                        obtain rfl := Option.some.inj H
                                        have p29 : 0 ≤ (x14_4 : Int) := of_decide_eq_true (by first | (with_reducible assumption) | assumption)
                                        have q29 : x14_4 < (a1.size : Int) := of_decide_eq_true (by first | (with_reducible assumption) | assumption)
                                        have hx29 := bt_at a1 x14_4
                                        replace p29 := eq_true p29
                                        replace q29 := eq_true q29
                                        have p41 : 0 ≤ (x14_4 : Int) := of_decide_eq_true (by first | (with_reducible assumption) | assumption)
                                        have q41 : x14_4 < (a1.size : Int) := of_decide_eq_true (by first | (with_reducible assumption) | assumption)
                                        have hx41 := bt_at a1 x14_4
                                        replace p41 := eq_true p41
                                        replace q41 := eq_true q41
                                        have p43 : 0 ≤ (x14_4 : Int) := of_decide_eq_true (by first | (with_reducible assumption) | assumption)
                                        have q43 : x14_4 < (a1.size : Int) := of_decide_eq_true (by first | (with_reducible assumption) | assumption)
                                        have hx43 := bt_at a1 x14_4
                                        replace p43 := eq_true p43
                                        replace q43 := eq_true q43
                                        have p48 : 0 ≤ (x14_4 : Int) := of_decide_eq_true (by first | (with_reducible assumption) | assumption)
                                        have q48 : x14_4 < (a1.size : Int) := of_decide_eq_true (by first | (with_reducible assumption) | assumption)
                                        have hx48 := bt_at a1 x14_4
                                        replace p48 := eq_true p48
                                        replace q48 := eq_true q48
                                        go_wp2
                                        go_ret
                                        exact ⟨by first | rfl | (simp [errW_none, errW_some] <;> rfl) | (simp [*, errW_none, errW_some] <;> rfl), by repeat (first | (with_reducible first | exact HB.out | apply below_alloc | apply pw_below_drewN | apply below_drew1) | exact HB.out)⟩
                                    · rw [if_neg c49] at H
                                      have c49b0 : decide (102 < (bt a1 x14_4)) = false := decide_eq_false c49
                                      clear c49
                                      have H' := Aside0.mk H
                                      clear H
                                      have p29 : 0 ≤ (x14_4 : Int) := of_decide_eq_true (by first | (with_reducible assumption) | assumption)
                                      have q29 : x14_4 < (a1.size : Int) := of_decide_eq_true (by first | (with_reducible assumption) | assumption)
                                      have hx29 := bt_at a1 x14_4
                                      replace p29 := eq_true p29
                                      replace q29 := eq_true q29
                                      have p41 : 0 ≤ (x14_4 : Int) := of_decide_eq_true (by first | (with_reducible assumption) | assumption)
                                      have q41 : x14_4 < (a1.size : Int) := of_decide_eq_true (by first | (with_reducible assumption) | assumption)
                                      have hx41 := bt_at a1 x14_4
                                      replace p41 := eq_true p41
                                      replace q41 := eq_true q41
                                      have p43 : 0 ≤ (x14_4 : Int) := of_decide_eq_true (by first | (with_reducible assumption) | assumption)
                                      have q43 : x14_4 < (a1.size : Int) := of_decide_eq_true (by first | (with_reducible assumption) | assumption)
                                      have hx43 := bt_at a1 x14_4
                                      replace p43 := eq_true p43
                                      replace q43 := eq_true q43
                                      have p48 : 0 ≤ (x14_4 : Int) := of_decide_eq_true (by first | (with_reducible assumption) | assumption)
                                      have q48 : x14_4 < (a1.size : Int) := of_decide_eq_true (by first | (with_reducible assumption) | assumption)
                                      have hx48 := bt_at a1 x14_4
                                      replace p48 := eq_true p48
                                      replace q48 := eq_true q48
                                      go_wp2
                                      go_roundg k4
                                      case measure => have := HJ4.out; have := HK2.out; have := HJ15.out; have := HK4.out; omega
                                      case rel => exact ⟨(wrap64 (x14_4 + 1)), (by first | rfl | (simp; done) | (simp [*]; done)), H', ⟨by have := HJ4.out; have := HK2.out; have := HJ15.out; have := HK4.out; omega⟩, ⟨by (with_reducible repeat (first | apply Kd.R_alloc | apply Kd.R_drewN | apply Kd.R_drew)); exact HO_11.out⟩, ⟨by repeat (first | (with_reducible first | exact HB.out | apply below_alloc | apply pw_below_drewN | apply below_drew1) | exact HB.out)⟩⟩
                                · rw [if_neg c42] at H
                                  have c42b0 : decide (57 < (bt a1 x14_4)) = false := decide_eq_false c42
                                  clear c42
                                  have H' := Aside0.mk H
                                  clear H
                                  have p29 : 0 ≤ (x14_4 : Int) := of_decide_eq_true (by first | (with_reducible assumption) | assumption)
                                  have q29 : x14_4 < (a1.size : Int) := of_decide_eq_true (by first | (with_reducible assumption) | assumption)
                                  have hx29 := bt_at a1 x14_4
                                  replace p29 := eq_true p29
                                  replace q29 := eq_true q29
                                  have p41 : 0 ≤ (x14_4 : Int) := of_decide_eq_true (by first | (with_reducible assumption) | assumption)
                                  have q41 : x14_4 < (a1.size : Int) := of_decide_eq_true (by first | (with_reducible assumption) | assumption)
                                  have hx41 := bt_at a1 x14_4
                                  replace p41 := eq_true p41
                                  replace q41 := eq_true q41
                                  go_wp2
                                  go_roundg k4
                                  case measure => have := HJ4.out; have := HK2.out; have := HJ15.out; have := HK4.out; omega
                                  case rel => exact ⟨(wrap64 (x14_4 + 1)), (by first | rfl | (simp; done) | (simp [*]; done)), H', ⟨by have := HJ4.out; have := HK2.out; have := HJ15.out; have := HK4.out; omega⟩, ⟨by (with_reducible repeat (first | apply Kd.R_alloc | apply Kd.R_drewN | apply Kd.R_drew)); exact HO_11.out⟩, ⟨by repeat (first | (with_reducible first | exact HB.out | apply below_alloc | apply pw_below_drewN | apply below_drew1) | exact HB.out)⟩⟩
                            · rw [if_neg c28] at H
                              exact absurd H (by simp)
                          · rw [if_neg c27] at H
                            have c27b0 : decide (x14_4 < (a1.size : Int)) = false := decide_eq_false c27
                            clear c27
                            by_cases c53 : ((a1.size : Int) % 16) = 0
                            · rw [if_pos c53] at H
                              have c53b0 : (((a1.size : Int) % 16) == 0) = true := beq_iff_eq.mpr c53
                              have c53b1 : (((a1.size : Int) % 16) != 0) = false := bne_eq_false_iff_eq.mpr c53
                              clear c53
                              by_cases c54 : t146 = 0
                              · rw [if_pos c54] at H
                                have c54b0 : (t146 == 0) = true := beq_iff_eq.mpr c54
                                have c54b1 : (t146 != 0) = false := bne_eq_false_iff_eq.mpr c54
                                clear c54
                                by_cases c55 : t145 = 0
                                · rw [if_pos c55] at H
                                  have c55b0 : (t145 == 0) = true := beq_iff_eq.mpr c55
                                  have c55b1 : (t145 != 0) = false := bne_eq_false_iff_eq.mpr c55
                                  clear c55
                                  replace H := Option.bind_eq_some_iff.mp H
                                  obtain ⟨t149, A560, H⟩ := H
                                  replace H : (some (t149.toList == a1.toList)) = some r := H
                                  have A56 := Aside0.mk A560
                                  clear A560
                                  obtain rfl := Option.some.inj H
                                  obtain ⟨Ao57, co57, eo57⟩ := Kd.R_slice HO_11.out
                                  subst eo57
                                  go_wp2_with (first | (go_at_call 16; (with_reducible refine (show_Hex.calls _ _ t144 t149 _ ?side1 ?side2 A56.out).mono ?_); (case side1 => repeat (first | exact (Kd.R_reads' HO_11.out).2.2 | (with_reducible refine Kd.C_alloc ?_ _) | (with_reducible refine Kd.C_drewN ?_ _) | (with_reducible refine Kd.C_drew ?_))); (case side2 => exact (Kd.R_reads' HO_11.out).2.1); rintro e w58 ⟨rfl, hb⟩; have n0_ := Aside0.mk (Kd.R_below (by (with_reducible repeat (first | apply Kd.R_alloc | apply Kd.R_drewN | apply Kd.R_drew)); exact HO_11.out) hb); have n1_ := Aside0.mk (below_step (by repeat (first | (with_reducible first | exact HB.out | apply below_alloc | apply pw_below_drewN | apply below_drew1) | exact HB.out)) hb); clear HO_11; clear HB; have HO_11 := n0_; have HB := n1_; clear n0_ n1_; (try clear hb); (try clear hb2); (try clear hk); (try clear hi)))
                                  go_ret
                                  exact ⟨by first | rfl | (simp [errW_none, errW_some] <;> rfl) | (simp [*, errW_none, errW_some] <;> rfl), by repeat (first | (with_reducible first | exact HB.out | apply below_alloc | apply pw_below_drewN | apply below_drew1) | exact HB.out)⟩
                                · rw [if_neg c55] at H
                                  have c55b0 : (t145 == 0) = false := beq_eq_false_iff_ne.mpr c55
                                  have c55b1 : (t145 != 0) = true := bne_iff_ne.mpr c55
                                  obtain rfl := Option.some.inj H
                                  go_wp2
                                  go_ret
                                  exact ⟨by first | rfl | (simp [errW_none, errW_some] <;> rfl) | (simp [*, errW_none, errW_some] <;> rfl), by repeat (first | (with_reducible first | exact HB.out | apply below_alloc | apply pw_below_drewN | apply below_drew1) | exact HB.out)⟩
                              · rw [if_neg c54] at H
                                have c54b0 : (t146 == 0) = false := beq_eq_false_iff_ne.mpr c54
                                have c54b1 : (t146 != 0) = true := bne_iff_ne.mpr c54
                                obtain rfl := Option.some.inj H
                                go_wp2
                                go_ret
                                exact ⟨by first | rfl | (simp [errW_none, errW_some] <;> rfl) | (simp [*, errW_none, errW_some] <;> rfl), by repeat (first | (with_reducible first | exact HB.out | apply below_alloc | apply pw_below_drewN | apply below_drew1) | exact HB.out)⟩
                            · rw [if_neg c53] at H
                              have c53b0 : (((a1.size : Int) % 16) == 0) = false := beq_eq_false_iff_ne.mpr c53
                              have c53b1 : (((a1.size : Int) % 16) != 0) = true := bne_iff_ne.mpr c53
                              by_cases c59 : t146 = 15
                              · rw [if_pos c59] at H
                                have c59b0 : (t146 == 15) = true := beq_iff_eq.mpr c59
                                have c59b1 : (t146 != 15) = false := bne_eq_false_iff_eq.mpr c59
                                clear c59
                                by_cases c60 : t145 = (wrap64 ((wrap64 ((a1.size : Int) / 16)) * 16))
                                · rw [if_pos c60] at H
                                  have c60b0 : (t145 == (wrap64 ((wrap64 ((a1.size : Int) / 16)) * 16))) = true := beq_iff_eq.mpr c60
                                  have c60b1 : (t145 != (wrap64 ((wrap64 ((a1.size : Int) / 16)) * 16))) = false := bne_eq_false_iff_eq.mpr c60
                                  clear c60
                                  obtain rfl := Option.some.inj H
                                  obtain ⟨Ao61, co61, eo61⟩ := Kd.R_slice HO_11.out
                                  subst eo61
                                  go_wp2
                                  go_ret
                                  exact ⟨by first | rfl | (simp [errW_none, errW_some] <;> rfl) | (simp [*, errW_none, errW_some] <;> rfl), by repeat (first | (with_reducible first | exact HB.out | apply below_alloc | apply pw_below_drewN | apply below_drew1) | exact HB.out)⟩
                                · rw [if_neg c60] at H
                                  have c60b0 : (t145 == (wrap64 ((wrap64 ((a1.size : Int) / 16)) * 16))) = false := beq_eq_false_iff_ne.mpr c60
                                  have c60b1 : (t145 != (wrap64 ((wrap64 ((a1.size : Int) / 16)) * 16))) = true := bne_iff_ne.mpr c60
                                  obtain rfl := Option.some.inj H
                                  go_wp2
                                  go_ret
                                  exact ⟨by first | rfl | (simp [errW_none, errW_some] <;> rfl) | (simp [*, errW_none, errW_some] <;> rfl), by repeat (first | (with_reducible first | exact HB.out | apply below_alloc | apply pw_below_drewN | apply below_drew1) | exact HB.out)⟩
                              · rw [if_neg c59] at H
                                have c59b0 : (t146 == 15) = false := beq_eq_false_iff_ne.mpr c59
                                have c59b1 : (t146 != 15) = true := bne_iff_ne.mpr c59
                                obtain rfl := Option.some.inj H
                                go_wp2
                                go_ret
                                exact ⟨by first | rfl | (simp [errW_none, errW_some] <;> rfl) | (simp [*, errW_none, errW_some] <;> rfl), by repeat (first | (with_reducible first | exact HB.out | apply below_alloc | apply pw_below_drewN | apply below_drew1) | exact HB.out)⟩
  · replace c4 := Bool.eq_false_iff.mpr c4
    subst c4
    have H1 : (some false) = some r := by rw [if_neg (show ¬ (false = true) by decide)] at H; exact H
    clear H
    have H := H1
    clear H1
    obtain rfl := Option.some.inj H
    go_enter Try.func4, Try.ntmps4
    go_wp2_with (first | ((with_reducible refine gate_callee (f := 11) rfl ?_); refine goesL_ (some 15) rfl rfl Try.func11 (by kernel_rfl) rfl #[] rfl (by (try simp only [List.map_toArray, List.map_cons, List.map_nil]); first | done | rfl | (simp only [List.length_drop, List.length_take]; rfl)) ?_; (with_reducible refine (abacistlaw39_awake.calls k  false _ A3.out).mono ?_); rintro e w62 ⟨rfl, hb⟩; refine ⟨_, rfl, ?_⟩; have n0_ := Aside0.mk (below_step (by repeat (first | (with_reducible first | exact HB.out | apply below_alloc | apply pw_below_drewN | apply below_drew1) | exact HB.out)) hb); clear HB; have HB := n0_; clear n0_; (try clear hb); (try clear hb2); (try clear hk); (try clear hi)))
    go_ret
    exact ⟨by first | rfl | (simp [errW_none, errW_some] <;> rfl) | (simp [*, errW_none, errW_some] <;> rfl), by repeat (first | (with_reducible first | exact HB.out | apply below_alloc | apply pw_below_drewN | apply below_drew1) | exact HB.out)⟩

/-- THE ONE PURE STATEMENT of abacistlaw39_ShowHex: yours. -/
def abacistlaw39_ShowHex.Pure : Prop := ∀ (l0 : List Int) (a1 : ByteArray), l0.length ≤ maxLen → l0.length * 8 ≤ 140737488351232 → (∀ x ∈ l0, (Lit.int .u64 x).wf = true) → a1.size ≤ 140737488351232 → ∃ k, abacistlaw39_ShowHex.f k l0 a1 = some true
theorem abacistlaw39_ShowHex.walk (P : abacistlaw39_ShowHex.Pure) (a0 : Option Addr) (len0 cap0 : Nat) (z0 : List Int) (a1 : ByteArray) (w : World) (w0 : (a0 = none ∧ len0 = 0 ∧ cap0 = 0 ∧ z0 = []) ∨ ∃ x, a0 = some x ∧ len0 ≤ cap0 ∧ cap0 ≤ maxLen ∧ z0.length = cap0 ∧ (∀ i, i < z0.length → w.cell? (x.add i) = some (.int .u64 (z0.getD i 0))) ∧ ∀ n ∈ z0, (Lit.int .u64 n).wf = true) (y0 : len0 * 8 ≤ 140737488351232) (w1 : a1.size ≤ 140737488351232) :
    Calls Try.prog 4 #[.slice a0 len0 cap0, .string a1] w fun e w' => e = .returned (.bool true) ∧ Below w.heap.size w w' := by
  obtain ⟨l0, rfl, hr0, hm0, hw0, hc0⟩ := ReadsInt.ofRowC w0
  obtain ⟨k, h⟩ := P l0 a1 hm0 y0 hw0 w1
  refine (abacistlaw39_ShowHex.calls k _ _ l0 a1 true w (Kd.C_of_reads (d := (0 : Int)) (h1 := fun _ => rfl) hr0) hc0 h).mono ?_
  rintro e w' ⟨rfl, hd⟩
  exact ⟨rfl, hd⟩

end Go.Proofs.Ytmmgiolhfekplaa.PShow
