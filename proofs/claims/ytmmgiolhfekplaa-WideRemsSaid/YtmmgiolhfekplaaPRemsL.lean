-- Written by a program (wip/myprint) out of the translation; Lean checks it.
import Derived.Test.YtmmgiolhfekplaaPWidex6
import Derived.Test.YtmmgiolhfekplaaPWidex5
namespace Go.Proofs.Ytmmgiolhfekplaa.PRems
open Go.RowKit Go.Proofs.Ytmmgiolhfekplaa.Ext Go.Proofs.Ytmmgiolhfekplaa.PWide Go.Proofs.YtmmgiolhfekplaaW.PrintWords Go.Proofs.YtmmgiolhfekplaaW.PrintLast Go.Proofs.YtmmgiolhfekplaaW.PrintMore
attribute [local go_sem] max2_int min2_int max_two min_two max_three min_three max_four min_four   -- for this text's walks alone
set_option linter.unusedVariables false
set_option linter.unusedSimpArgs false

attribute [local go_sem high] eqA40
/-! ### abacistlaw01_WideRems: function 9 -/
def abacistlaw01_WideRems.f (k : Nat) (a0_0 : Int) (a0_1 : Int) (a1 : Int) : Option (Bool) := (abacistlaw01_awake.f k).bind fun t150 => (if t150 = true then ((wide_Rem.f k a0_0 a0_1 a1).bind fun bt151 => (if a1 = 0 then (if bt151.2.2.2 = 13 then (if (bt151.1 == 0 && (bt151.2.1 == 0)) = true then (some (bt151.2.2.1 == 0)) else (none)) else (none)) else ((abacistref01_Rem.f k a0_0 a0_1 a1).bind fun bt156 => ((wide_Mul.f bt151.2.1 a1).bind fun bt160 => ((wide_Mul.f bt151.1 a1).bind fun bt162 => ((wide_Shl.f bt162.1 bt162.2 64).bind fun bt166 => ((wide_Sum.f k (([(⟨bt160.1, bt160.2⟩ : S40), (⟨bt166.1, bt166.2⟩ : S40), (⟨0, bt151.2.2.1⟩ : S40)] : List (S40)))).bind fun bt171 => (if bt151.2.2.2 = 0 then (if (bt151.1 == bt156.1 && (bt151.2.1 == bt156.2.1)) = true then (if bt151.2.2.1 = bt156.2.2 then (if bt151.2.2.1 < a1 then (if (bt171.1 == a0_0 && (bt171.2 == a0_1)) = true then (some (bt162.1 == 0)) else (none)) else (none)) else (none)) else (none)) else (none))))))))) else (none))
theorem abacistlaw01_WideRems.mono : ∀ a0 a1 a2 k, LeO (abacistlaw01_WideRems.f k a0 a1 a2) (abacistlaw01_WideRems.f (k + 1) a0 a1 a2) := by
  intro a0 a1 a2 k
  unfold abacistlaw01_WideRems.f
  repeat' first
      | (with_reducible exact abacistlaw01_awake.mono _)
      | (with_reducible exact abacistref01_Rem.mono _ _ _ _)
      | (with_reducible exact wide_Rem.mono _ _ _ _)
      | (with_reducible exact wide_Sum.mono _ _)
      | (with_reducible exact LeO.refl _)
      | (with_reducible exact LeO.none _)
      | (with_reducible refine LeO.ite ?_ ?_)
      | (with_reducible refine LeO.bind ?_ (fun _ => ?_))
      | exact abacistlaw01_awake.mono _
      | exact abacistref01_Rem.mono _ _ _ _
      | exact wide_Rem.mono _ _ _ _
      | exact wide_Sum.mono _ _
      | exact LeO.none _
      | refine LeO.ite ?_ ?_
      | refine LeO.bind ?_ (fun _ => ?_)
def abacistlaw01_WideRems.T7 : Bool × List (List Nat × List Nat) := (true, [([], []), ([0], [0]), ([], []), ([1, 2], [1, 2]), ([], []), ([4], [4]), ([], []), ([5, 6, 3], [5, 6]), ([], []), ([], []), ([8, 3, 7, 0, 1, 2, 3, 8, 9], [3, 8]), ([9, 7, 10, 0, 1, 2, 3, 4, 5, 6, 7, 8, 9, 10], [7, 9])])
def abacistlaw01_WideRems.B7 : List Nat := [0, 1, 0, 7, 0, 16, 0, 127, 0, 0, 1023, 2047]
theorem abacistlaw01_WideRems.tab7 : rtab .any (opsOf Try.f9 7) = abacistlaw01_WideRems.T7 := by kernel_rfl
theorem abacistlaw01_WideRems.bits7 : waitsOk abacistlaw01_WideRems.T7.2 abacistlaw01_WideRems.B7 = true := by kernel_rfl
def abacistlaw01_WideRems.T8 : Bool × List (List Nat × List Nat) := (true, [([], []), ([], []), ([1], [1]), ([], []), ([3], [3]), ([0, 2, 4], [0, 2, 4]), ([5, 2], [5]), ([], []), ([7, 6, 6, 0, 1, 2, 3, 4, 5, 6, 7], [6, 7])])
def abacistlaw01_WideRems.B8 : List Nat := [0, 0, 2, 0, 8, 31, 63, 0, 255]
theorem abacistlaw01_WideRems.tab8 : rtab .any (opsOf Try.f9 8) = abacistlaw01_WideRems.T8 := by kernel_rfl
theorem abacistlaw01_WideRems.bits8 : waitsOk abacistlaw01_WideRems.T8.2 abacistlaw01_WideRems.B8 = true := by kernel_rfl
set_option maxHeartbeats 8000000 in
set_option maxRecDepth 100000 in
theorem abacistlaw01_WideRems.calls (k : Nat) (a0_0 : Int) (a0_1 : Int) (a1 : Int) (r : Bool) (w : World) (h : abacistlaw01_WideRems.f k a0_0 a0_1 a1 = some r) :
  Calls Try.prog 9 #[.agg #[.int .u64 a0_0, .int .u64 a0_1], .int .u64 a1] w fun e w' => e = .returned (.bool r) ∧ Below w.heap.size w w' := by
 have hu40 := Try.underlying40
 have HB := Aside0.mk (Below.refl w.heap.size w)
 have H : ((abacistlaw01_awake.f k).bind fun t150 => (if t150 = true then ((wide_Rem.f k a0_0 a0_1 a1).bind fun bt151 => (if a1 = 0 then (if bt151.2.2.2 = 13 then (if (bt151.1 == 0 && (bt151.2.1 == 0)) = true then (some (bt151.2.2.1 == 0)) else (none)) else (none)) else ((abacistref01_Rem.f k a0_0 a0_1 a1).bind fun bt156 => ((wide_Mul.f bt151.2.1 a1).bind fun bt160 => ((wide_Mul.f bt151.1 a1).bind fun bt162 => ((wide_Shl.f bt162.1 bt162.2 64).bind fun bt166 => ((wide_Sum.f k (([(⟨bt160.1, bt160.2⟩ : S40), (⟨bt166.1, bt166.2⟩ : S40), (⟨0, bt151.2.2.1⟩ : S40)] : List (S40)))).bind fun bt171 => (if bt151.2.2.2 = 0 then (if (bt151.1 == bt156.1 && (bt151.2.1 == bt156.2.1)) = true then (if bt151.2.2.1 = bt156.2.2 then (if bt151.2.2.1 < a1 then (if (bt171.1 == a0_0 && (bt171.2 == a0_1)) = true then (some (bt162.1 == 0)) else (none)) else (none)) else (none)) else (none)) else (none))))))))) else (none))) = some r := h
 clear h
 replace H := Option.bind_eq_some_iff.mp H
 obtain ⟨t150, A30, H⟩ := H
 replace H : (if t150 = true then ((wide_Rem.f k a0_0 a0_1 a1).bind fun bt151 => (if a1 = 0 then (if bt151.2.2.2 = 13 then (if (bt151.1 == 0 && (bt151.2.1 == 0)) = true then (some (bt151.2.2.1 == 0)) else (none)) else (none)) else ((abacistref01_Rem.f k a0_0 a0_1 a1).bind fun bt156 => ((wide_Mul.f bt151.2.1 a1).bind fun bt160 => ((wide_Mul.f bt151.1 a1).bind fun bt162 => ((wide_Shl.f bt162.1 bt162.2 64).bind fun bt166 => ((wide_Sum.f k (([(⟨bt160.1, bt160.2⟩ : S40), (⟨bt166.1, bt166.2⟩ : S40), (⟨0, bt151.2.2.1⟩ : S40)] : List (S40)))).bind fun bt171 => (if bt151.2.2.2 = 0 then (if (bt151.1 == bt156.1 && (bt151.2.1 == bt156.2.1)) = true then (if bt151.2.2.1 = bt156.2.2 then (if bt151.2.2.1 < a1 then (if (bt171.1 == a0_0 && (bt171.2 == a0_1)) = true then (some (bt162.1 == 0)) else (none)) else (none)) else (none)) else (none)) else (none))))))))) else (none)) = some r := H
 have A3 := Aside0.mk A30
 clear A30
 by_cases c4 : t150 = true
 {
 subst c4
 have H1 : ((wide_Rem.f k a0_0 a0_1 a1).bind fun bt151 => (if a1 = 0 then (if bt151.2.2.2 = 13 then (if (bt151.1 == 0 && (bt151.2.1 == 0)) = true then (some (bt151.2.2.1 == 0)) else (none)) else (none)) else ((abacistref01_Rem.f k a0_0 a0_1 a1).bind fun bt156 => ((wide_Mul.f bt151.2.1 a1).bind fun bt160 => ((wide_Mul.f bt151.1 a1).bind fun bt162 => ((wide_Shl.f bt162.1 bt162.2 64).bind fun bt166 => ((wide_Sum.f k (([(⟨bt160.1, bt160.2⟩ : S40), (⟨bt166.1, bt166.2⟩ : S40), (⟨0, bt151.2.2.1⟩ : S40)] : List (S40)))).bind fun bt171 => (if bt151.2.2.2 = 0 then (if (bt151.1 == bt156.1 && (bt151.2.1 == bt156.2.1)) = true then (if bt151.2.2.1 = bt156.2.2 then (if bt151.2.2.1 < a1 then (if (bt171.1 == a0_0 && (bt171.2 == a0_1)) = true then (some (bt162.1 == 0)) else (none)) else (none)) else (none)) else (none)) else (none))))))))) = some r := by rw [if_pos rfl] at H; exact H
 clear H
 have H := H1
 clear H1
 replace H := Option.bind_eq_some_iff.mp H
 obtain ⟨⟨t151, t152, t153, t154⟩, A50, H⟩ := H
 replace H : (if a1 = 0 then (if t154 = 13 then (if (t151 == 0 && (t152 == 0)) = true then (some (t153 == 0)) else (none)) else (none)) else ((abacistref01_Rem.f k a0_0 a0_1 a1).bind fun bt156 => ((wide_Mul.f t152 a1).bind fun bt160 => ((wide_Mul.f t151 a1).bind fun bt162 => ((wide_Shl.f bt162.1 bt162.2 64).bind fun bt166 => ((wide_Sum.f k (([(⟨bt160.1, bt160.2⟩ : S40), (⟨bt166.1, bt166.2⟩ : S40), (⟨0, t153⟩ : S40)] : List (S40)))).bind fun bt171 => (if t154 = 0 then (if (t151 == bt156.1 && (t152 == bt156.2.1)) = true then (if t153 = bt156.2.2 then (if t153 < a1 then (if (bt171.1 == a0_0 && (bt171.2 == a0_1)) = true then (some (bt162.1 == 0)) else (none)) else (none)) else (none)) else (none)) else (none)))))))) = some r := H
 have A5 := Aside0.mk A50
 clear A50
 by_cases c6 : a1 = 0
 {
 rw [if_pos c6] at H
 have c6b0 : (a1 == 0) = true := beq_iff_eq.mpr c6
 have c6b1 : (a1 != 0) = false := bne_eq_false_iff_eq.mpr c6
 clear c6
 by_cases c7 : t154 = 13
 {
 rw [if_pos c7] at H
 have c7b0 : (t154 == 13) = true := beq_iff_eq.mpr c7
 have c7b1 : (t154 != 13) = false := bne_eq_false_iff_eq.mpr c7
 clear c7
 by_cases c8 : (t151 == 0 && (t152 == 0)) = true
 {
 rw [if_pos c8] at H
 have c8b0 : (t151 == 0 && (t152 == 0)) = true := c8
 (try (have c8b1 : decide (t151 = 0 && (t152 == 0)) = true := by simpa using c8))
 (try (have c8b2 : (t151 == 0 && (t152 == 0)) = true := by simpa using c8))
 clear c8
 obtain rfl := Option.some.inj H
 go_enter Try.func9, Try.ntmps9
 go_wp2_with (first | ((with_reducible refine gate_dst (N := 2) rfl ?_); refine box_event ?hg (N := 2) ?hd (cs := #[.int .u64 a0_0, .int .u64 a0_1]) (t := 40) ?hr ?_; (case hd => rfl); (case hg => rfl); (case hr => first | (go_simp; done) | (go_simp; rfl)); intro gb149 hg w9 hbox hb; have n0_ := Aside0.mk (below_step (by repeat (first | (with_reducible first | exact HB.out | apply below_alloc | apply pw_below_drewN | apply below_drew1) | exact HB.out)) hb); have n1_ := Aside0.mk (hbox); have n2_ := Aside0.mk ((by rw [hg]; exact (below_size (by repeat (first | (with_reducible first | exact HB.out | apply below_alloc | apply pw_below_drewN | apply below_drew1) | exact HB.out))) : w.heap.size ≤ gb149)); have n3_ := Aside0.mk ((by rw [hg]; exact (below_size (by repeat (first | (with_reducible first | exact HB.out | apply below_alloc | apply pw_below_drewN | apply below_drew1) | exact HB.out))) : w.heap.size ≤ gb149)); clear HB; have HB := n0_; have BK149 := n1_; have GW149 := n2_; have GE149 := n3_; clear n0_ n1_ n2_ n3_; clear hb hbox hg) | ((with_reducible refine gate_callee (f := 18) rfl ?_); refine goesL_ (some 13) rfl rfl Try.func18 (by kernel_rfl) rfl #[] rfl (by (try simp only [List.map_toArray, List.map_cons, List.map_nil]); first | done | rfl | (simp only [List.length_drop, List.length_take]; rfl)) ?_; (with_reducible refine (abacistlaw01_awake.calls k  true _ A3.out).mono ?_); rintro e w10 ⟨rfl, hb⟩; refine ⟨_, rfl, ?_⟩; have n0_ := Aside0.mk (blk_below (g := gb149) (o := .cells #[.int .u64 a0_0, .int .u64 a0_1] 40 (0, 0)) (by (with_reducible repeat (first | refine blk_drewN ?_ _ | refine blk_drew ?_ | refine blk_alloc ?_ _)); exact BK149.out) hb); have n1_ := Aside0.mk (below_step (by repeat (first | (with_reducible first | exact HB.out | apply below_alloc | apply pw_below_drewN | apply below_drew1 | refine below_set ?_ GE149.out) | exact HB.out)) hb); clear BK149; clear HB; have BK149 := n0_; have HB := n1_; clear n0_ n1_; (try clear hb); (try clear hb2); (try clear hk); (try clear hi); have hcz11_0 : w10.cell? ⟨gb149, 0, none⟩ = some (.int .u64 a0_0) := (blk_cell BK149.out 0).trans rfl; have hcz11_1 : w10.cell? ⟨gb149, 1, none⟩ = some (.int .u64 a0_1) := (blk_cell BK149.out 1).trans rfl; have hfz11_0 := blk_frozen BK149.out 0; have hfz11_1 := blk_frozen BK149.out 1) | ((with_reducible refine gate_callee (f := 31) rfl ?_); refine goesL_ (some 18) rfl rfl Try.func31 (by kernel_rfl) rfl #[.agg #[.int .u64 a0_0, .int .u64 a0_1], .int .u64 a1] rfl (by (try simp only [List.map_toArray, List.map_cons, List.map_nil]); first | done | rfl | (simp only [List.length_drop, List.length_take]; rfl)) ?_; (with_reducible refine (wide_Rem.calls k a0_0 a0_1 a1 t151 t152 t153 t154 _ A5.out).mono ?_); rintro e w12 ⟨rfl, hb⟩; refine ⟨_, rfl, ?_⟩; have n0_ := Aside0.mk (blk_below (g := gb149) (o := .cells #[.int .u64 a0_0, .int .u64 a0_1] 40 (0, 0)) (by (with_reducible repeat (first | refine blk_drewN ?_ _ | refine blk_drew ?_ | refine blk_alloc ?_ _)); exact BK149.out) hb); have n1_ := Aside0.mk (below_step (by repeat (first | (with_reducible first | exact HB.out | apply below_alloc | apply pw_below_drewN | apply below_drew1 | refine below_set ?_ GE149.out) | exact HB.out)) hb); clear BK149; clear HB; have BK149 := n0_; have HB := n1_; clear n0_ n1_; (try clear hb); (try clear hb2); (try clear hk); (try clear hi)) | ((with_reducible refine gate_dst (N := 5) rfl ?_); refine box_event ?hg (N := 5) ?hd (cs := #[.int .u64 0, .int .u64 0]) (t := 40) ?hr ?_; (case hd => rfl); (case hg => rfl); (case hr => first | (go_simp; done) | (go_simp; rfl)); intro gb155 hg w13 hbox hb; have n0_ := Aside0.mk (blk_below (g := gb149) (o := .cells #[.int .u64 a0_0, .int .u64 a0_1] 40 (0, 0)) (by (with_reducible repeat (first | refine blk_drewN ?_ _ | refine blk_drew ?_ | refine blk_alloc ?_ _)); exact BK149.out) hb); have n1_ := Aside0.mk (below_step (by repeat (first | (with_reducible first | exact HB.out | apply below_alloc | apply pw_below_drewN | apply below_drew1 | refine below_set ?_ GE149.out) | exact HB.out)) hb); have n2_ := Aside0.mk (hbox); have n3_ := Aside0.mk ((by rw [hg]; exact (below_size (by repeat (first | (with_reducible first | exact HB.out | apply below_alloc | apply pw_below_drewN | apply below_drew1 | refine below_set ?_ GE149.out) | exact HB.out))) : w.heap.size ≤ gb155)); have n4_ := Aside0.mk ((by rw [hg]; exact (below_size (by repeat (first | (with_reducible first | exact HB.out | apply below_alloc | apply pw_below_drewN | apply below_drew1 | refine below_set ?_ GE149.out) | exact HB.out))) : w.heap.size ≤ gb155)); have n5_ := Aside0.mk ((by rw [hg]; exact Nat.ne_of_lt (blk_lt (g := gb149) (o := .cells #[.int .u64 a0_0, .int .u64 a0_1] 40 (0, 0)) (by (with_reducible repeat (first | refine blk_drewN ?_ _ | refine blk_drew ?_ | refine blk_alloc ?_ _)); exact BK149.out)) : gb149 ≠ gb155)); have n6_ := Aside0.mk ((by rw [hg]; exact Nat.ne_of_gt (blk_lt (g := gb149) (o := .cells #[.int .u64 a0_0, .int .u64 a0_1] 40 (0, 0)) (by (with_reducible repeat (first | refine blk_drewN ?_ _ | refine blk_drew ?_ | refine blk_alloc ?_ _)); exact BK149.out)) : gb155 ≠ gb149)); clear BK149; clear HB; have BK149 := n0_; have HB := n1_; have BK155 := n2_; have GW155 := n3_; have GE155 := n4_; have NB149_155 := n5_; have NB155_149 := n6_; clear n0_ n1_ n2_ n3_ n4_ n5_ n6_; clear hb hbox hg; have hnb14 := NB155_149.out; have hnc14 := NB149_155.out; have hcz15_0 : w13.cell? ⟨gb155, 0, none⟩ = some (.int .u64 0) := (blk_cell BK155.out 0).trans rfl; have hcz15_1 : w13.cell? ⟨gb155, 1, none⟩ = some (.int .u64 0) := (blk_cell BK155.out 1).trans rfl; have hfz15_0 := blk_frozen BK155.out 0; have hfz15_1 := blk_frozen BK155.out 1))
 go_ret
 exact ⟨by first | rfl | (simp [errW_none, errW_some] <;> rfl) | (simp [*, errW_none, errW_some] <;> rfl), by repeat (first | (with_reducible first | exact HB.out | apply below_alloc | apply pw_below_drewN | apply below_drew1 | refine below_set ?_ GE149.out | refine below_set ?_ GE155.out) | exact HB.out)⟩
 }
 {
 rw [if_neg c8] at H
 exact absurd H (by simp)
 }}
 {
 rw [if_neg c7] at H
 exact absurd H (by simp)
 }}
 {
 rw [if_neg c6] at H
 have c6b0 : (a1 == 0) = false := beq_eq_false_iff_ne.mpr c6
 have c6b1 : (a1 != 0) = true := bne_iff_ne.mpr c6
 replace H := Option.bind_eq_some_iff.mp H
 obtain ⟨⟨t156, t157, t158⟩, A160, H⟩ := H
 replace H : ((wide_Mul.f t152 a1).bind fun bt160 => ((wide_Mul.f t151 a1).bind fun bt162 => ((wide_Shl.f bt162.1 bt162.2 64).bind fun bt166 => ((wide_Sum.f k (([(⟨bt160.1, bt160.2⟩ : S40), (⟨bt166.1, bt166.2⟩ : S40), (⟨0, t153⟩ : S40)] : List (S40)))).bind fun bt171 => (if t154 = 0 then (if (t151 == t156 && (t152 == t157)) = true then (if t153 = t158 then (if t153 < a1 then (if (bt171.1 == a0_0 && (bt171.2 == a0_1)) = true then (some (bt162.1 == 0)) else (none)) else (none)) else (none)) else (none)) else (none)))))) = some r := H
 have A16 := Aside0.mk A160
 clear A160
 replace H := Option.bind_eq_some_iff.mp H
 obtain ⟨⟨t160, t161⟩, A170, H⟩ := H
 replace H : ((wide_Mul.f t151 a1).bind fun bt162 => ((wide_Shl.f bt162.1 bt162.2 64).bind fun bt166 => ((wide_Sum.f k (([(⟨t160, t161⟩ : S40), (⟨bt166.1, bt166.2⟩ : S40), (⟨0, t153⟩ : S40)] : List (S40)))).bind fun bt171 => (if t154 = 0 then (if (t151 == t156 && (t152 == t157)) = true then (if t153 = t158 then (if t153 < a1 then (if (bt171.1 == a0_0 && (bt171.2 == a0_1)) = true then (some (bt162.1 == 0)) else (none)) else (none)) else (none)) else (none)) else (none))))) = some r := H
 have A17 := Aside0.mk A170
 clear A170
 replace H := Option.bind_eq_some_iff.mp H
 obtain ⟨⟨t162, t163⟩, A180, H⟩ := H
 replace H : ((wide_Shl.f t162 t163 64).bind fun bt166 => ((wide_Sum.f k (([(⟨t160, t161⟩ : S40), (⟨bt166.1, bt166.2⟩ : S40), (⟨0, t153⟩ : S40)] : List (S40)))).bind fun bt171 => (if t154 = 0 then (if (t151 == t156 && (t152 == t157)) = true then (if t153 = t158 then (if t153 < a1 then (if (bt171.1 == a0_0 && (bt171.2 == a0_1)) = true then (some (t162 == 0)) else (none)) else (none)) else (none)) else (none)) else (none)))) = some r := H
 have A18 := Aside0.mk A180
 clear A180
 replace H := Option.bind_eq_some_iff.mp H
 obtain ⟨⟨t166, t167⟩, A190, H⟩ := H
 replace H : ((wide_Sum.f k (([(⟨t160, t161⟩ : S40), (⟨t166, t167⟩ : S40), (⟨0, t153⟩ : S40)] : List (S40)))).bind fun bt171 => (if t154 = 0 then (if (t151 == t156 && (t152 == t157)) = true then (if t153 = t158 then (if t153 < a1 then (if (bt171.1 == a0_0 && (bt171.2 == a0_1)) = true then (some (t162 == 0)) else (none)) else (none)) else (none)) else (none)) else (none))) = some r := H
 have A19 := Aside0.mk A190
 clear A190
 obtain ⟨y168, hy168⟩ : ∃ y_ : List (S40), y_ = (([(⟨t160, t161⟩ : S40), (⟨t166, t167⟩ : S40), (⟨0, t153⟩ : S40)] : List (S40))) := ⟨_, rfl⟩
 replace H : ((wide_Sum.f k y168).bind fun bt171 => (if t154 = 0 then (if (t151 == t156 && (t152 == t157)) = true then (if t153 = t158 then (if t153 < a1 then (if (bt171.1 == a0_0 && (bt171.2 == a0_1)) = true then (some (t162 == 0)) else (none)) else (none)) else (none)) else (none)) else (none))) = some r := by first | (rw [hy168]; with_reducible exact H) | (have H2_ := (Option.bind_some _ _).symm.trans H; rw [hy168]; with_reducible exact H2_) | (have H2_ := (Option.bind_some _ _).symm.trans H; with_reducible exact H2_) | with_reducible exact H | (rw [hy168]; exact H) | exact H
 have Ny168 := Aside0.mk hy168
 clear hy168
 replace H := Option.bind_eq_some_iff.mp H
 obtain ⟨⟨t171, t172⟩, A200, H⟩ := H
 replace H : (if t154 = 0 then (if (t151 == t156 && (t152 == t157)) = true then (if t153 = t158 then (if t153 < a1 then (if (t171 == a0_0 && (t172 == a0_1)) = true then (some (t162 == 0)) else (none)) else (none)) else (none)) else (none)) else (none)) = some r := H
 have A20 := Aside0.mk A200
 clear A200
 by_cases c21 : t154 = 0
 {
 rw [if_pos c21] at H
 have c21b0 : (t154 == 0) = true := beq_iff_eq.mpr c21
 have c21b1 : (t154 != 0) = false := bne_eq_false_iff_eq.mpr c21
 clear c21
 by_cases c22 : (t151 == t156 && (t152 == t157)) = true
 {
 rw [if_pos c22] at H
 have c22b0 : (t151 == t156 && (t152 == t157)) = true := c22
 (try (have c22b1 : decide (t151 = t156 && (t152 == t157)) = true := by simpa using c22))
 (try (have c22b2 : (t151 == t156 && (t152 == t157)) = true := by simpa using c22))
 clear c22
 by_cases c23 : t153 = t158
 {
 rw [if_pos c23] at H
 have c23b0 : (t153 == t158) = true := beq_iff_eq.mpr c23
 have c23b1 : (t153 != t158) = false := bne_eq_false_iff_eq.mpr c23
 clear c23
 by_cases c24 : t153 < a1
 {
 rw [if_pos c24] at H
 have c24b0 : decide (t153 < a1) = true := decide_eq_true c24
 clear c24
 by_cases c25 : (t171 == a0_0 && (t172 == a0_1)) = true
 {
 rw [if_pos c25] at H
 have c25b0 : (t171 == a0_0 && (t172 == a0_1)) = true := c25
 (try (have c25b1 : decide (t171 = a0_0 && (t172 == a0_1)) = true := by simpa using c25))
 (try (have c25b2 : (t171 == a0_0 && (t172 == a0_1)) = true := by simpa using c25))
 clear c25
 obtain rfl := Option.some.inj H
 go_enter Try.func9, Try.ntmps9
 try go_wp2_with (first | ((with_reducible refine gate_dst (N := 2) rfl ?_); refine box_event ?hg (N := 2) ?hd (cs := #[.int .u64 a0_0, .int .u64 a0_1]) (t := 40) ?hr ?_; (case hd => rfl); (case hg => rfl); (case hr => first | (go_simp; done) | (go_simp; rfl)); intro gb149 hg w26 hbox hb; have n0_ := Aside0.mk (below_step (by repeat (first | (with_reducible first | exact HB.out | apply below_alloc | apply pw_below_drewN | apply below_drew1) | exact HB.out)) hb); have n1_ := Aside0.mk (hbox); have n2_ := Aside0.mk ((by rw [hg]; exact (below_size (by repeat (first | (with_reducible first | exact HB.out | apply below_alloc | apply pw_below_drewN | apply below_drew1) | exact HB.out))) : w.heap.size ≤ gb149)); have n3_ := Aside0.mk ((by rw [hg]; exact (below_size (by repeat (first | (with_reducible first | exact HB.out | apply below_alloc | apply pw_below_drewN | apply below_drew1) | exact HB.out))) : w.heap.size ≤ gb149)); clear HB; have HB := n0_; have BK149 := n1_; have GW149 := n2_; have GE149 := n3_; clear n0_ n1_ n2_ n3_; clear hb hbox hg) | ((with_reducible refine gate_callee (f := 18) rfl ?_); refine goesL_ (some 13) rfl rfl Try.func18 (by kernel_rfl) rfl #[] rfl (by (try simp only [List.map_toArray, List.map_cons, List.map_nil]); first | done | rfl | (simp only [List.length_drop, List.length_take]; rfl)) ?_; (with_reducible refine (abacistlaw01_awake.calls k  true _ A3.out).mono ?_); rintro e w27 ⟨rfl, hb⟩; refine ⟨_, rfl, ?_⟩; have n0_ := Aside0.mk (blk_below (g := gb149) (o := .cells #[.int .u64 a0_0, .int .u64 a0_1] 40 (0, 0)) (by (with_reducible repeat (first | refine blk_drewN ?_ _ | refine blk_drew ?_ | refine blk_alloc ?_ _)); exact BK149.out) hb); have n1_ := Aside0.mk (below_step (by repeat (first | (with_reducible first | exact HB.out | apply below_alloc | apply pw_below_drewN | apply below_drew1 | refine below_set ?_ GE149.out) | exact HB.out)) hb); clear BK149; clear HB; have BK149 := n0_; have HB := n1_; clear n0_ n1_; (try clear hb); (try clear hb2); (try clear hk); (try clear hi); have hcz28_0 : w27.cell? ⟨gb149, 0, none⟩ = some (.int .u64 a0_0) := (blk_cell BK149.out 0).trans rfl; have hcz28_1 : w27.cell? ⟨gb149, 1, none⟩ = some (.int .u64 a0_1) := (blk_cell BK149.out 1).trans rfl; have hfz28_0 := blk_frozen BK149.out 0; have hfz28_1 := blk_frozen BK149.out 1) | ((with_reducible refine gate_callee (f := 31) rfl ?_); refine goesL_ (some 18) rfl rfl Try.func31 (by kernel_rfl) rfl #[.agg #[.int .u64 a0_0, .int .u64 a0_1], .int .u64 a1] rfl (by (try simp only [List.map_toArray, List.map_cons, List.map_nil]); first | done | rfl | (simp only [List.length_drop, List.length_take]; rfl)) ?_; (with_reducible refine (wide_Rem.calls k a0_0 a0_1 a1 t151 t152 t153 t154 _ A5.out).mono ?_); rintro e w29 ⟨rfl, hb⟩; refine ⟨_, rfl, ?_⟩; have n0_ := Aside0.mk (blk_below (g := gb149) (o := .cells #[.int .u64 a0_0, .int .u64 a0_1] 40 (0, 0)) (by (with_reducible repeat (first | refine blk_drewN ?_ _ | refine blk_drew ?_ | refine blk_alloc ?_ _)); exact BK149.out) hb); have n1_ := Aside0.mk (below_step (by repeat (first | (with_reducible first | exact HB.out | apply below_alloc | apply pw_below_drewN | apply below_drew1 | refine below_set ?_ GE149.out) | exact HB.out)) hb); clear BK149; clear HB; have BK149 := n0_; have HB := n1_; clear n0_ n1_; (try clear hb); (try clear hb2); (try clear hk); (try clear hi)) | ((with_reducible refine gate_dst (N := 5) rfl ?_); refine box_event ?hg (N := 5) ?hd (cs := #[.int .u64 0, .int .u64 0]) (t := 40) ?hr ?_; (case hd => rfl); (case hg => rfl); (case hr => first | (go_simp; done) | (go_simp; rfl)); intro gb155 hg w30 hbox hb; have n0_ := Aside0.mk (blk_below (g := gb149) (o := .cells #[.int .u64 a0_0, .int .u64 a0_1] 40 (0, 0)) (by (with_reducible repeat (first | refine blk_drewN ?_ _ | refine blk_drew ?_ | refine blk_alloc ?_ _)); exact BK149.out) hb); have n1_ := Aside0.mk (below_step (by repeat (first | (with_reducible first | exact HB.out | apply below_alloc | apply pw_below_drewN | apply below_drew1 | refine below_set ?_ GE149.out) | exact HB.out)) hb); have n2_ := Aside0.mk (hbox); have n3_ := Aside0.mk ((by rw [hg]; exact (below_size (by repeat (first | (with_reducible first | exact HB.out | apply below_alloc | apply pw_below_drewN | apply below_drew1 | refine below_set ?_ GE149.out) | exact HB.out))) : w.heap.size ≤ gb155)); have n4_ := Aside0.mk ((by rw [hg]; exact (below_size (by repeat (first | (with_reducible first | exact HB.out | apply below_alloc | apply pw_below_drewN | apply below_drew1 | refine below_set ?_ GE149.out) | exact HB.out))) : w.heap.size ≤ gb155)); have n5_ := Aside0.mk ((by rw [hg]; exact Nat.ne_of_lt (blk_lt (g := gb149) (o := .cells #[.int .u64 a0_0, .int .u64 a0_1] 40 (0, 0)) (by (with_reducible repeat (first | refine blk_drewN ?_ _ | refine blk_drew ?_ | refine blk_alloc ?_ _)); exact BK149.out)) : gb149 ≠ gb155)); have n6_ := Aside0.mk ((by rw [hg]; exact Nat.ne_of_gt (blk_lt (g := gb149) (o := .cells #[.int .u64 a0_0, .int .u64 a0_1] 40 (0, 0)) (by (with_reducible repeat (first | refine blk_drewN ?_ _ | refine blk_drew ?_ | refine blk_alloc ?_ _)); exact BK149.out)) : gb155 ≠ gb149)); clear BK149; clear HB; have BK149 := n0_; have HB := n1_; have BK155 := n2_; have GW155 := n3_; have GE155 := n4_; have NB149_155 := n5_; have NB155_149 := n6_; clear n0_ n1_ n2_ n3_ n4_ n5_ n6_; clear hb hbox hg; have hnb31 := NB155_149.out; have hnc31 := NB149_155.out; have hcz32_0 : w30.cell? ⟨gb155, 0, none⟩ = some (.int .u64 0) := (blk_cell BK155.out 0).trans rfl; have hcz32_1 : w30.cell? ⟨gb155, 1, none⟩ = some (.int .u64 0) := (blk_cell BK155.out 1).trans rfl; have hfz32_0 := blk_frozen BK155.out 0; have hfz32_1 := blk_frozen BK155.out 1; have hcz33_0 : w30.cell? ⟨gb149, 0, none⟩ = some (.int .u64 a0_0) := (blk_cell BK149.out 0).trans rfl; have hcz33_1 : w30.cell? ⟨gb149, 1, none⟩ = some (.int .u64 a0_1) := (blk_cell BK149.out 1).trans rfl; have hfz33_0 := blk_frozen BK149.out 0; have hfz33_1 := blk_frozen BK149.out 1) | ((with_reducible refine gate_callee (f := 32) rfl ?_); refine goesL_ (some 38) rfl rfl Try.func32 (by kernel_rfl) rfl #[.agg #[.int .u64 a0_0, .int .u64 a0_1], .int .u64 a1] rfl (by (try simp only [List.map_toArray, List.map_cons, List.map_nil]); first | done | rfl | (simp only [List.length_drop, List.length_take]; rfl)) ?_; (with_reducible refine (abacistref01_Rem.calls k a0_0 a0_1 a1 t156 t157 t158 _ A16.out).mono ?_); rintro e w34 ⟨rfl, hb⟩; refine ⟨_, rfl, ?_⟩; have n0_ := Aside0.mk (blk_below (g := gb149) (o := .cells #[.int .u64 a0_0, .int .u64 a0_1] 40 (0, 0)) (by (with_reducible repeat (first | refine blk_drewN ?_ _ | refine blk_drew ?_ | refine blk_alloc ?_ _)); refine blk_far ?_ NB149_155.out _; (with_reducible repeat (first | refine blk_drewN ?_ _ | refine blk_drew ?_ | refine blk_alloc ?_ _)); refine blk_far ?_ NB149_155.out _; (with_reducible repeat (first | refine blk_drewN ?_ _ | refine blk_drew ?_ | refine blk_alloc ?_ _)); exact BK149.out) hb); have n1_ := Aside0.mk (blk_below (g := gb155) (o := .cells #[.int .u64 t151, .int .u64 t152] 40 (0, 0)) (by (with_reducible repeat (first | refine blk_drewN ?_ _ | refine blk_drew ?_ | refine blk_alloc ?_ _)); refine blk_put (cs := #[.int .u64 t151, .int .u64 0]) ?_ 1 _ rfl; (with_reducible repeat (first | refine blk_drewN ?_ _ | refine blk_drew ?_ | refine blk_alloc ?_ _)); refine blk_put (cs := #[.int .u64 0, .int .u64 0]) ?_ 0 _ rfl; (with_reducible repeat (first | refine blk_drewN ?_ _ | refine blk_drew ?_ | refine blk_alloc ?_ _)); exact BK155.out) hb); have n2_ := Aside0.mk (below_step (by repeat (first | (with_reducible first | exact HB.out | apply below_alloc | apply pw_below_drewN | apply below_drew1 | refine below_set ?_ GE149.out | refine below_set ?_ GE155.out) | exact HB.out)) hb); clear BK149; clear BK155; clear HB; have BK149 := n0_; have BK155 := n1_; have HB := n2_; clear n0_ n1_ n2_; (try clear hb); (try clear hb2); (try clear hk); (try clear hi)) | ((with_reducible refine gate_dst (N := 8) rfl ?_); refine box_event ?hg (N := 8) ?hd (cs := #[.int .u64 0, .int .u64 0]) (t := 40) ?hr ?_; (case hd => rfl); (case hg => rfl); (case hr => first | (go_simp; done) | (go_simp; rfl)); intro gb159 hg w35 hbox hb; have n0_ := Aside0.mk (blk_below (g := gb149) (o := .cells #[.int .u64 a0_0, .int .u64 a0_1] 40 (0, 0)) (by (with_reducible repeat (first | refine blk_drewN ?_ _ | refine blk_drew ?_ | refine blk_alloc ?_ _)); exact BK149.out) hb); have n1_ := Aside0.mk (blk_below (g := gb155) (o := .cells #[.int .u64 t151, .int .u64 t152] 40 (0, 0)) (by (with_reducible repeat (first | refine blk_drewN ?_ _ | refine blk_drew ?_ | refine blk_alloc ?_ _)); exact BK155.out) hb); have n2_ := Aside0.mk (below_step (by repeat (first | (with_reducible first | exact HB.out | apply below_alloc | apply pw_below_drewN | apply below_drew1 | refine below_set ?_ GE149.out | refine below_set ?_ GE155.out) | exact HB.out)) hb); have n3_ := Aside0.mk (hbox); have n4_ := Aside0.mk ((by rw [hg]; exact (below_size (by repeat (first | (with_reducible first | exact HB.out | apply below_alloc | apply pw_below_drewN | apply below_drew1 | refine below_set ?_ GE149.out | refine below_set ?_ GE155.out) | exact HB.out))) : w.heap.size ≤ gb159)); have n5_ := Aside0.mk ((by rw [hg]; exact (below_size (by repeat (first | (with_reducible first | exact HB.out | apply below_alloc | apply pw_below_drewN | apply below_drew1 | refine below_set ?_ GE149.out | refine below_set ?_ GE155.out) | exact HB.out))) : w.heap.size ≤ gb159)); have n6_ := Aside0.mk ((by rw [hg]; exact Nat.ne_of_lt (blk_lt (g := gb149) (o := .cells #[.int .u64 a0_0, .int .u64 a0_1] 40 (0, 0)) (by (with_reducible repeat (first | refine blk_drewN ?_ _ | refine blk_drew ?_ | refine blk_alloc ?_ _)); exact BK149.out)) : gb149 ≠ gb159)); have n7_ := Aside0.mk ((by rw [hg]; exact Nat.ne_of_gt (blk_lt (g := gb149) (o := .cells #[.int .u64 a0_0, .int .u64 a0_1] 40 (0, 0)) (by (with_reducible repeat (first | refine blk_drewN ?_ _ | refine blk_drew ?_ | refine blk_alloc ?_ _)); exact BK149.out)) : gb159 ≠ gb149)); have n8_ := Aside0.mk ((by rw [hg]; exact Nat.ne_of_lt (blk_lt (g := gb155) (o := .cells #[.int .u64 t151, .int .u64 t152] 40 (0, 0)) (by (with_reducible repeat (first | refine blk_drewN ?_ _ | refine blk_drew ?_ | refine blk_alloc ?_ _)); exact BK155.out)) : gb155 ≠ gb159)); have n9_ := Aside0.mk ((by rw [hg]; exact Nat.ne_of_gt (blk_lt (g := gb155) (o := .cells #[.int .u64 t151, .int .u64 t152] 40 (0, 0)) (by (with_reducible repeat (first | refine blk_drewN ?_ _ | refine blk_drew ?_ | refine blk_alloc ?_ _)); exact BK155.out)) : gb159 ≠ gb155)); clear BK149; clear BK155; clear HB; have BK149 := n0_; have BK155 := n1_; have HB := n2_; have BK159 := n3_; have GW159 := n4_; have GE159 := n5_; have NB149_159 := n6_; have NB159_149 := n7_; have NB155_159 := n8_; have NB159_155 := n9_; clear n0_ n1_ n2_ n3_ n4_ n5_ n6_ n7_ n8_ n9_; clear hb hbox hg; have hnb36 := NB159_149.out; have hnc36 := NB149_159.out; have hnb37 := NB159_155.out; have hnc37 := NB155_159.out; have hcz38_0 : w35.cell? ⟨gb159, 0, none⟩ = some (.int .u64 0) := (blk_cell BK159.out 0).trans rfl; have hcz38_1 : w35.cell? ⟨gb159, 1, none⟩ = some (.int .u64 0) := (blk_cell BK159.out 1).trans rfl; have hfz38_0 := blk_frozen BK159.out 0; have hfz38_1 := blk_frozen BK159.out 1))
 have n0_ : Aside0 (((w35.setCell ⟨gb159, 0, none⟩ (.int .u64 t156)).setCell ⟨gb159, 1, none⟩ (.int .u64 t157)).heap[gb149]? = some (.cells #[.int .u64 a0_0, .int .u64 a0_1] 40 (0, 0))) := ⟨by (with_reducible repeat (first | refine blk_drewN ?_ _ | refine blk_drew ?_ | refine blk_alloc ?_ _)); refine blk_far ?_ NB149_159.out _; (with_reducible repeat (first | refine blk_drewN ?_ _ | refine blk_drew ?_ | refine blk_alloc ?_ _)); refine blk_far ?_ NB149_159.out _; (with_reducible repeat (first | refine blk_drewN ?_ _ | refine blk_drew ?_ | refine blk_alloc ?_ _)); exact BK149.out⟩
 have n1_ : Aside0 (((w35.setCell ⟨gb159, 0, none⟩ (.int .u64 t156)).setCell ⟨gb159, 1, none⟩ (.int .u64 t157)).heap[gb155]? = some (.cells #[.int .u64 t151, .int .u64 t152] 40 (0, 0))) := ⟨by (with_reducible repeat (first | refine blk_drewN ?_ _ | refine blk_drew ?_ | refine blk_alloc ?_ _)); refine blk_far ?_ NB155_159.out _; (with_reducible repeat (first | refine blk_drewN ?_ _ | refine blk_drew ?_ | refine blk_alloc ?_ _)); refine blk_far ?_ NB155_159.out _; (with_reducible repeat (first | refine blk_drewN ?_ _ | refine blk_drew ?_ | refine blk_alloc ?_ _)); exact BK155.out⟩
 have n2_ : Aside0 (((w35.setCell ⟨gb159, 0, none⟩ (.int .u64 t156)).setCell ⟨gb159, 1, none⟩ (.int .u64 t157)).heap[gb159]? = some (.cells #[.int .u64 t156, .int .u64 t157] 40 (0, 0))) := ⟨by (with_reducible repeat (first | refine blk_drewN ?_ _ | refine blk_drew ?_ | refine blk_alloc ?_ _)); refine blk_put (cs := #[.int .u64 t156, .int .u64 0]) ?_ 1 _ rfl; (with_reducible repeat (first | refine blk_drewN ?_ _ | refine blk_drew ?_ | refine blk_alloc ?_ _)); refine blk_put (cs := #[.int .u64 0, .int .u64 0]) ?_ 0 _ rfl; (with_reducible repeat (first | refine blk_drewN ?_ _ | refine blk_drew ?_ | refine blk_alloc ?_ _)); exact BK159.out⟩
 have n3_ : Aside0 (Below w.heap.size w ((w35.setCell ⟨gb159, 0, none⟩ (.int .u64 t156)).setCell ⟨gb159, 1, none⟩ (.int .u64 t157))) := ⟨by repeat (first | (with_reducible first | exact HB.out | apply below_alloc | apply pw_below_drewN | apply below_drew1 | refine below_set ?_ GE149.out | refine below_set ?_ GE155.out | refine below_set ?_ GE159.out) | exact HB.out)⟩
 (try clear BK149)
 (try clear BK155)
 (try clear BK159)
 (try clear HB)
 generalize ((w35.setCell ⟨gb159, 0, none⟩ (.int .u64 t156)).setCell ⟨gb159, 1, none⟩ (.int .u64 t157)) = w39 at n0_ n1_ n2_ n3_ ⊢
 have BK149 := n0_
 have BK155 := n1_
 have BK159 := n2_
 have HB := n3_
 clear n0_ n1_ n2_ n3_
 have n0_ := Aside0.mk (blk_drew BK149.out)
 have n1_ := Aside0.mk (blk_drew BK155.out)
 have n2_ := Aside0.mk (blk_drew BK159.out)
 have n3_ := Aside0.mk (below_drew1 HB.out)
 clear BK149 BK155 BK159 HB
 have BK149 := n0_
 have BK155 := n1_
 have BK159 := n2_
 have HB := n3_
 clear n0_ n1_ n2_ n3_
 refine start_ (n := 12) (S := fun w' => w'.cell? ⟨gb155, 0, none⟩ = some (.int .u64 t151) ∧ w'.cell? ⟨gb155, 1, none⟩ = some (.int .u64 t152)) (ds := []) #[false, false, false, false, false, false, false, false, false, false, false, false] (by kernel_rfl) rfl rfl ⟨(blk_cell BK155.out 0).trans rfl, (blk_cell BK155.out 1).trans rfl⟩ (fun hHeld => ?_); refine with_tabW abacistlaw01_WideRems.tab7 abacistlaw01_WideRems.bits7 (fun HT_ HW_ => ?_)
 generalize w39.drew = w40 at BK149 BK155 BK159 HB hHeld ⊢
 refine pure_ (i := 0) (N := some 41) (v := ?_) (a' := ?_) #[true, false, false, false, false, false, false, false, false, false, false, false] rfl rfl (any_of HT_.out (by kernel_rfl)) (fun _ _ _ h => h) (Or.inl ⟨by rfl, ?_⟩) ?_ ?_
 rotate_left
 {
 intro w'
 go_simp
 with_reducible rfl
 }
 rotate_left
 {
 simp only [Act.put, List.setIfInBounds_toArray, List.set_cons_zero, List.set_cons_succ, i64_w, i32_w]
 rfl
 }
 refine pure_ (i := 2) (N := some 43) (v := ?_) (a' := ?_) #[true, false, true, false, false, false, false, false, false, false, false, false] rfl rfl (any_of HT_.out (by kernel_rfl)) (fun _ _ _ h => h) (Or.inl ⟨by rfl, ?_⟩) ?_ ?_
 rotate_left
 {
 intro w'
 go_simp
 with_reducible rfl
 }
 rotate_left
 {
 simp only [Act.put, List.setIfInBounds_toArray, List.set_cons_zero, List.set_cons_succ, i64_w, i32_w]
 rfl
 }
 refine pure_ (i := 4) (N := some 45) (v := ?_) (a' := ?_) #[true, false, true, false, true, false, false, false, false, false, false, false] rfl rfl (any_of HT_.out (by kernel_rfl)) (fun _ _ _ h => h) (Or.inl ⟨by rfl, ?_⟩) ?_ ?_
 rotate_left
 {
 intro w'
 go_simp
 with_reducible rfl
 }
 rotate_left
 {
 simp only [Act.put, List.setIfInBounds_toArray, List.set_cons_zero, List.set_cons_succ, i64_w, i32_w]
 rfl
 }
 refine pure_ (i := 6) (N := some 47) (v := ?_) (a' := ?_) #[true, false, true, false, true, false, true, false, false, false, false, false] rfl rfl (any_of HT_.out (by kernel_rfl)) (fun _ _ _ h => h) (Or.inl ⟨by rfl, ?_⟩) ?_ ?_
 rotate_left
 {
 intro w'
 go_simp
 with_reducible rfl
 }
 rotate_left
 {
 simp only [Act.put, List.setIfInBounds_toArray, List.set_cons_zero, List.set_cons_succ, i64_w, i32_w]
 rfl
 }
 refine take_ (i := 1) (N := some 42) (v := ?_) (a' := ?_) #[true, true, true, false, true, false, true, false, false, false, false, false] rfl rfl (take_ofW HT_.out HW_.out (by kernel_rfl)) (fun _ _ _ h => h) (Or.inl ⟨by rfl, ?_⟩) hHeld ?_ ?_
 rotate_left
 {
 rintro w' ⟨s0, s1⟩
 go_simp
 with_reducible rfl
 }
 rotate_left
 {
 simp only [Act.put, List.setIfInBounds_toArray, List.set_cons_zero, List.set_cons_succ, i64_w, i32_w]
 rfl
 }
 refine take_ (i := 5) (N := some 46) (v := ?_) (a' := ?_) #[true, true, true, false, true, true, true, false, false, false, false, false] rfl rfl (take_ofW HT_.out HW_.out (by kernel_rfl)) (fun _ _ _ h => h) (Or.inl ⟨by rfl, ?_⟩) hHeld ?_ ?_
 rotate_left
 {
 rintro w' ⟨s0, s1⟩
 go_simp
 with_reducible rfl
 }
 rotate_left
 {
 simp only [Act.put, List.setIfInBounds_toArray, List.set_cons_zero, List.set_cons_succ, i64_w, i32_w]
 rfl
 }
 refine join_ (σ := Nat × Nat) 2 #[true, true, true, true, true, true, true, true, true, true, false, false] (fun s_ => [(44, .agg #[.int .u64 t160, .int .u64 t161]), (48, .agg #[.int .u64 t162, .int .u64 t163]), (10, .pointer (some ⟨s_.1, 0, none⟩)), (11, .pointer (some ⟨s_.2, 0, none⟩))]) (fun s_ w' => (w'.cell? ⟨gb155, 0, none⟩ = some (.int .u64 t151) ∧ w'.cell? ⟨gb155, 1, none⟩ = some (.int .u64 t152)) ∧ (w'.heap[gb149]? = some (.cells #[.int .u64 a0_0, .int .u64 a0_1] 40 (0, 0))) ∧ (w'.heap[gb155]? = some (.cells #[.int .u64 t151, .int .u64 t152] 40 (0, 0))) ∧ (w'.heap[gb159]? = some (.cells #[.int .u64 t156, .int .u64 t157] 40 (0, 0))) ∧ (w'.heap[s_.1]? = some (.cells #[.int .u64 0, .int .u64 0] 40 (0, 0))) ∧ (w'.heap[s_.2]? = some (.cells #[.int .u64 0, .int .u64 0] 40 (0, 0))) ∧ (w.heap.size ≤ s_.1) ∧ (w.heap.size ≤ s_.1) ∧ (gb149 ≠ s_.1) ∧ (s_.1 ≠ gb149) ∧ (gb155 ≠ s_.1) ∧ (s_.1 ≠ gb155) ∧ (gb159 ≠ s_.1) ∧ (s_.1 ≠ gb159) ∧ (s_.2 ≠ s_.1) ∧ (s_.1 ≠ s_.2) ∧ (w.heap.size ≤ s_.2) ∧ (w.heap.size ≤ s_.2) ∧ (gb149 ≠ s_.2) ∧ (s_.2 ≠ gb149) ∧ (gb155 ≠ s_.2) ∧ (s_.2 ≠ gb155) ∧ (gb159 ≠ s_.2) ∧ (s_.2 ≠ gb159) ∧ (Below w.heap.size w w')) ?_ ?_
 rotate_left
 {
 intro hJ3_7_8_9
 refine join_ (σ := Nat) 3 #[true, true, true, true, true, true, true, true, true, false, false, false] (fun s_ => [(44, .agg #[.int .u64 t160, .int .u64 t161]), (48, .agg #[.int .u64 t162, .int .u64 t163]), (10, .pointer (some ⟨s_, 0, none⟩))]) (fun s_ w' => (w'.cell? ⟨gb155, 0, none⟩ = some (.int .u64 t151) ∧ w'.cell? ⟨gb155, 1, none⟩ = some (.int .u64 t152)) ∧ (w'.heap[gb149]? = some (.cells #[.int .u64 a0_0, .int .u64 a0_1] 40 (0, 0))) ∧ (w'.heap[gb155]? = some (.cells #[.int .u64 t151, .int .u64 t152] 40 (0, 0))) ∧ (w'.heap[gb159]? = some (.cells #[.int .u64 t156, .int .u64 t157] 40 (0, 0))) ∧ (w'.heap[s_]? = some (.cells #[.int .u64 0, .int .u64 0] 40 (0, 0))) ∧ (w.heap.size ≤ s_) ∧ (w.heap.size ≤ s_) ∧ (gb149 ≠ s_) ∧ (s_ ≠ gb149) ∧ (gb155 ≠ s_) ∧ (s_ ≠ gb155) ∧ (gb159 ≠ s_) ∧ (s_ ≠ gb159) ∧ (Below w.heap.size w w')) ?_ ?_
 rotate_left
 {
 intro hJ3_7_8
 refine join_ (σ := Nat) 3 #[true, true, true, true, true, true, true, true, false, true, false, false] (fun s_ => [(44, .agg #[.int .u64 t160, .int .u64 t161]), (48, .agg #[.int .u64 t162, .int .u64 t163]), (11, .pointer (some ⟨s_, 0, none⟩))]) (fun s_ w' => (w'.cell? ⟨gb155, 0, none⟩ = some (.int .u64 t151) ∧ w'.cell? ⟨gb155, 1, none⟩ = some (.int .u64 t152)) ∧ (w'.heap[gb149]? = some (.cells #[.int .u64 a0_0, .int .u64 a0_1] 40 (0, 0))) ∧ (w'.heap[gb155]? = some (.cells #[.int .u64 t151, .int .u64 t152] 40 (0, 0))) ∧ (w'.heap[gb159]? = some (.cells #[.int .u64 t156, .int .u64 t157] 40 (0, 0))) ∧ (w'.heap[s_]? = some (.cells #[.int .u64 0, .int .u64 0] 40 (0, 0))) ∧ (w.heap.size ≤ s_) ∧ (w.heap.size ≤ s_) ∧ (gb149 ≠ s_) ∧ (s_ ≠ gb149) ∧ (gb155 ≠ s_) ∧ (s_ ≠ gb155) ∧ (gb159 ≠ s_) ∧ (s_ ≠ gb159) ∧ (Below w.heap.size w w')) ?_ ?_
 rotate_left
 {
 intro hJ3_7_9
 refine join_ (σ := Nat × Nat) 3 #[true, true, true, true, true, true, true, false, true, true, false, false] (fun s_ => [(44, .agg #[.int .u64 t160, .int .u64 t161]), (10, .pointer (some ⟨s_.1, 0, none⟩)), (11, .pointer (some ⟨s_.2, 0, none⟩))]) (fun s_ w' => (w'.cell? ⟨gb155, 0, none⟩ = some (.int .u64 t151) ∧ w'.cell? ⟨gb155, 1, none⟩ = some (.int .u64 t152)) ∧ (w'.heap[gb149]? = some (.cells #[.int .u64 a0_0, .int .u64 a0_1] 40 (0, 0))) ∧ (w'.heap[gb155]? = some (.cells #[.int .u64 t151, .int .u64 t152] 40 (0, 0))) ∧ (w'.heap[gb159]? = some (.cells #[.int .u64 t156, .int .u64 t157] 40 (0, 0))) ∧ (w'.heap[s_.1]? = some (.cells #[.int .u64 0, .int .u64 0] 40 (0, 0))) ∧ (w'.heap[s_.2]? = some (.cells #[.int .u64 0, .int .u64 0] 40 (0, 0))) ∧ (w.heap.size ≤ s_.1) ∧ (w.heap.size ≤ s_.1) ∧ (gb149 ≠ s_.1) ∧ (s_.1 ≠ gb149) ∧ (gb155 ≠ s_.1) ∧ (s_.1 ≠ gb155) ∧ (gb159 ≠ s_.1) ∧ (s_.1 ≠ gb159) ∧ (s_.2 ≠ s_.1) ∧ (s_.1 ≠ s_.2) ∧ (w.heap.size ≤ s_.2) ∧ (w.heap.size ≤ s_.2) ∧ (gb149 ≠ s_.2) ∧ (s_.2 ≠ gb149) ∧ (gb155 ≠ s_.2) ∧ (s_.2 ≠ gb155) ∧ (gb159 ≠ s_.2) ∧ (s_.2 ≠ gb159) ∧ (Below w.heap.size w w')) ?_ ?_
 rotate_left
 {
 intro hJ3_8_9
 refine join_ (σ := Unit) 4 #[true, true, true, true, true, true, true, true, false, false, false, false] (fun s_ => [(44, .agg #[.int .u64 t160, .int .u64 t161]), (48, .agg #[.int .u64 t162, .int .u64 t163])]) (fun s_ w' => (w'.cell? ⟨gb155, 0, none⟩ = some (.int .u64 t151) ∧ w'.cell? ⟨gb155, 1, none⟩ = some (.int .u64 t152)) ∧ (w'.heap[gb149]? = some (.cells #[.int .u64 a0_0, .int .u64 a0_1] 40 (0, 0))) ∧ (w'.heap[gb155]? = some (.cells #[.int .u64 t151, .int .u64 t152] 40 (0, 0))) ∧ (w'.heap[gb159]? = some (.cells #[.int .u64 t156, .int .u64 t157] 40 (0, 0))) ∧ (Below w.heap.size w w')) ?_ ?_
 rotate_left
 {
 intro hJ3_7
 refine join_ (σ := Nat) 4 #[true, true, true, true, true, true, true, false, true, false, false, false] (fun s_ => [(44, .agg #[.int .u64 t160, .int .u64 t161]), (10, .pointer (some ⟨s_, 0, none⟩))]) (fun s_ w' => (w'.cell? ⟨gb155, 0, none⟩ = some (.int .u64 t151) ∧ w'.cell? ⟨gb155, 1, none⟩ = some (.int .u64 t152)) ∧ (w'.heap[gb149]? = some (.cells #[.int .u64 a0_0, .int .u64 a0_1] 40 (0, 0))) ∧ (w'.heap[gb155]? = some (.cells #[.int .u64 t151, .int .u64 t152] 40 (0, 0))) ∧ (w'.heap[gb159]? = some (.cells #[.int .u64 t156, .int .u64 t157] 40 (0, 0))) ∧ (w'.heap[s_]? = some (.cells #[.int .u64 0, .int .u64 0] 40 (0, 0))) ∧ (w.heap.size ≤ s_) ∧ (w.heap.size ≤ s_) ∧ (gb149 ≠ s_) ∧ (s_ ≠ gb149) ∧ (gb155 ≠ s_) ∧ (s_ ≠ gb155) ∧ (gb159 ≠ s_) ∧ (s_ ≠ gb159) ∧ (Below w.heap.size w w')) ?_ ?_
 rotate_left
 {
 intro hJ3_8
 refine join_ (σ := Nat) 4 #[true, true, true, true, true, true, true, false, false, true, false, false] (fun s_ => [(44, .agg #[.int .u64 t160, .int .u64 t161]), (11, .pointer (some ⟨s_, 0, none⟩))]) (fun s_ w' => (w'.cell? ⟨gb155, 0, none⟩ = some (.int .u64 t151) ∧ w'.cell? ⟨gb155, 1, none⟩ = some (.int .u64 t152)) ∧ (w'.heap[gb149]? = some (.cells #[.int .u64 a0_0, .int .u64 a0_1] 40 (0, 0))) ∧ (w'.heap[gb155]? = some (.cells #[.int .u64 t151, .int .u64 t152] 40 (0, 0))) ∧ (w'.heap[gb159]? = some (.cells #[.int .u64 t156, .int .u64 t157] 40 (0, 0))) ∧ (w'.heap[s_]? = some (.cells #[.int .u64 0, .int .u64 0] 40 (0, 0))) ∧ (w.heap.size ≤ s_) ∧ (w.heap.size ≤ s_) ∧ (gb149 ≠ s_) ∧ (s_ ≠ gb149) ∧ (gb155 ≠ s_) ∧ (s_ ≠ gb155) ∧ (gb159 ≠ s_) ∧ (s_ ≠ gb159) ∧ (Below w.heap.size w w')) ?_ ?_
 rotate_left
 {
 intro hJ3_9
 refine join_ (σ := Nat × Nat) 4 #[true, true, true, false, true, true, true, false, true, true, false, false] (fun s_ => [(10, .pointer (some ⟨s_.1, 0, none⟩)), (11, .pointer (some ⟨s_.2, 0, none⟩))]) (fun s_ w' => (w'.cell? ⟨gb155, 0, none⟩ = some (.int .u64 t151) ∧ w'.cell? ⟨gb155, 1, none⟩ = some (.int .u64 t152)) ∧ (w'.heap[gb149]? = some (.cells #[.int .u64 a0_0, .int .u64 a0_1] 40 (0, 0))) ∧ (w'.heap[gb155]? = some (.cells #[.int .u64 t151, .int .u64 t152] 40 (0, 0))) ∧ (w'.heap[gb159]? = some (.cells #[.int .u64 t156, .int .u64 t157] 40 (0, 0))) ∧ (w'.heap[s_.1]? = some (.cells #[.int .u64 0, .int .u64 0] 40 (0, 0))) ∧ (w'.heap[s_.2]? = some (.cells #[.int .u64 0, .int .u64 0] 40 (0, 0))) ∧ (w.heap.size ≤ s_.1) ∧ (w.heap.size ≤ s_.1) ∧ (gb149 ≠ s_.1) ∧ (s_.1 ≠ gb149) ∧ (gb155 ≠ s_.1) ∧ (s_.1 ≠ gb155) ∧ (gb159 ≠ s_.1) ∧ (s_.1 ≠ gb159) ∧ (s_.2 ≠ s_.1) ∧ (s_.1 ≠ s_.2) ∧ (w.heap.size ≤ s_.2) ∧ (w.heap.size ≤ s_.2) ∧ (gb149 ≠ s_.2) ∧ (s_.2 ≠ gb149) ∧ (gb155 ≠ s_.2) ∧ (s_.2 ≠ gb155) ∧ (gb159 ≠ s_.2) ∧ (s_.2 ≠ gb159) ∧ (Below w.heap.size w w')) ?_ ?_
 rotate_left
 {
 intro hJ8_9
 refine join_ (σ := Unit) 5 #[true, true, true, true, true, true, true, false, false, false, false, false] (fun s_ => [(44, .agg #[.int .u64 t160, .int .u64 t161])]) (fun s_ w' => (w'.cell? ⟨gb155, 0, none⟩ = some (.int .u64 t151) ∧ w'.cell? ⟨gb155, 1, none⟩ = some (.int .u64 t152)) ∧ (w'.heap[gb149]? = some (.cells #[.int .u64 a0_0, .int .u64 a0_1] 40 (0, 0))) ∧ (w'.heap[gb155]? = some (.cells #[.int .u64 t151, .int .u64 t152] 40 (0, 0))) ∧ (w'.heap[gb159]? = some (.cells #[.int .u64 t156, .int .u64 t157] 40 (0, 0))) ∧ (Below w.heap.size w w')) ?_ ?_
 rotate_left
 {
 intro hJ3
 refine join_ (σ := Nat) 5 #[true, true, true, false, true, true, true, false, true, false, false, false] (fun s_ => [(10, .pointer (some ⟨s_, 0, none⟩))]) (fun s_ w' => (w'.cell? ⟨gb155, 0, none⟩ = some (.int .u64 t151) ∧ w'.cell? ⟨gb155, 1, none⟩ = some (.int .u64 t152)) ∧ (w'.heap[gb149]? = some (.cells #[.int .u64 a0_0, .int .u64 a0_1] 40 (0, 0))) ∧ (w'.heap[gb155]? = some (.cells #[.int .u64 t151, .int .u64 t152] 40 (0, 0))) ∧ (w'.heap[gb159]? = some (.cells #[.int .u64 t156, .int .u64 t157] 40 (0, 0))) ∧ (w'.heap[s_]? = some (.cells #[.int .u64 0, .int .u64 0] 40 (0, 0))) ∧ (w.heap.size ≤ s_) ∧ (w.heap.size ≤ s_) ∧ (gb149 ≠ s_) ∧ (s_ ≠ gb149) ∧ (gb155 ≠ s_) ∧ (s_ ≠ gb155) ∧ (gb159 ≠ s_) ∧ (s_ ≠ gb159) ∧ (Below w.heap.size w w')) ?_ ?_
 rotate_left
 {
 intro hJ8
 refine join_ (σ := Nat) 5 #[true, true, true, false, true, true, true, false, false, true, false, false] (fun s_ => [(11, .pointer (some ⟨s_, 0, none⟩))]) (fun s_ w' => (w'.cell? ⟨gb155, 0, none⟩ = some (.int .u64 t151) ∧ w'.cell? ⟨gb155, 1, none⟩ = some (.int .u64 t152)) ∧ (w'.heap[gb149]? = some (.cells #[.int .u64 a0_0, .int .u64 a0_1] 40 (0, 0))) ∧ (w'.heap[gb155]? = some (.cells #[.int .u64 t151, .int .u64 t152] 40 (0, 0))) ∧ (w'.heap[gb159]? = some (.cells #[.int .u64 t156, .int .u64 t157] 40 (0, 0))) ∧ (w'.heap[s_]? = some (.cells #[.int .u64 0, .int .u64 0] 40 (0, 0))) ∧ (w.heap.size ≤ s_) ∧ (w.heap.size ≤ s_) ∧ (gb149 ≠ s_) ∧ (s_ ≠ gb149) ∧ (gb155 ≠ s_) ∧ (s_ ≠ gb155) ∧ (gb159 ≠ s_) ∧ (s_ ≠ gb159) ∧ (Below w.heap.size w w')) ?_ ?_
 rotate_left
 {
 intro hJ9
 refine three_ (i := 3) (j := 8) (k := 9) (Ni := some 44) (Nj := some 10) (Nk := some 11) #[true, true, true, true, true, true, true, false, false, false, false, false] #[true, true, true, false, true, true, true, false, true, false, false, false] #[true, true, true, false, true, true, true, false, false, true, false, false] rfl rfl rfl rfl rfl rfl (three_of HT_.out (by kernel_rfl)) (by decide) (by decide) (by decide) (fun K hK => ?_) (fun K hK => ?_) (fun K hK => ?_)
 {
 skip
 refine goes_ Try.func19 (by kernel_rfl) rfl #[.int .u64 t152, .int .u64 a1] (by rfl) rfl rfl (by (try simp only [List.map_toArray, List.map_cons, List.map_nil]); first | done | rfl | (simp only [List.length_drop, List.length_take]; rfl)) ?_
 with_reducible refine (wide_Mul.calls t152 a1 t160 t161 _ A17.out).mono ?_
 rintro e w41 ⟨rfl, hb⟩
 refine ⟨_, rfl, ?_⟩
 have n0_ := Aside0.mk (blk_below (g := gb149) (o := .cells #[.int .u64 a0_0, .int .u64 a0_1] 40 (0, 0)) (by (with_reducible repeat (first | refine blk_drewN ?_ _ | refine blk_drew ?_ | refine blk_alloc ?_ _)); exact BK149.out) hb)
 have n1_ := Aside0.mk (blk_below (g := gb155) (o := .cells #[.int .u64 t151, .int .u64 t152] 40 (0, 0)) (by (with_reducible repeat (first | refine blk_drewN ?_ _ | refine blk_drew ?_ | refine blk_alloc ?_ _)); exact BK155.out) hb)
 have n2_ := Aside0.mk (blk_below (g := gb159) (o := .cells #[.int .u64 t156, .int .u64 t157] 40 (0, 0)) (by (with_reducible repeat (first | refine blk_drewN ?_ _ | refine blk_drew ?_ | refine blk_alloc ?_ _)); exact BK159.out) hb)
 have n3_ := Aside0.mk (below_step (by repeat (first | (with_reducible first | exact HB.out | apply below_alloc | apply pw_below_drewN | apply below_drew1 | refine below_set ?_ GE149.out | refine below_set ?_ GE155.out | refine below_set ?_ GE159.out) | exact HB.out)) hb)
 clear BK149 BK155 BK159 HB
 have BK149 := n0_
 have BK155 := n1_
 have BK159 := n2_
 have HB := n3_
 clear n0_ n1_ n2_ n3_
 (try clear hb)
 (try clear hb2)
 (try clear hk)
 (try clear hi)
 refine hK.out _ _ ⟨(blk_cell BK155.out 0).trans rfl, (blk_cell BK155.out 1).trans rfl⟩ (fun hHeld => ?_)
 clear hK K
 refine norm_ (a' := ?_) ?_ ?_
 rotate_left
 {
 show Act.put _ (some 44) _ = _
 simp only [Act.put, List.setIfInBounds_toArray, List.set_cons_zero, List.set_cons_succ, i64_w, i32_w]
 rfl
 }
 exact norm_ (by first | (simp only [putAll, Act.put, List.setIfInBounds_toArray, List.set_cons_zero, List.set_cons_succ]; done) | (simp only [putAll, Act.put, List.setIfInBounds_toArray, List.set_cons_zero, List.set_cons_succ]; rfl)) (hJ3 () _ ⟨hHeld, (by (with_reducible repeat (first | refine blk_drewN ?_ _ | refine blk_drew ?_ | refine blk_alloc ?_ _)); exact BK149.out), (by (with_reducible repeat (first | refine blk_drewN ?_ _ | refine blk_drew ?_ | refine blk_alloc ?_ _)); exact BK155.out), (by (with_reducible repeat (first | refine blk_drewN ?_ _ | refine blk_drew ?_ | refine blk_alloc ?_ _)); exact BK159.out), (by repeat (first | (with_reducible first | exact HB.out | apply below_alloc | apply pw_below_drewN | apply below_drew1 | refine below_set ?_ GE149.out | refine below_set ?_ GE155.out | refine below_set ?_ GE159.out) | exact HB.out))⟩)
 }
 {
 skip
 refine box_step ?hg (N := 10) ?hd (cs := #[.int .u64 0, .int .u64 0]) (t := 40) ?hr ?_; (case hd => rfl); (case hg => rfl); (case hr => first | (go_simp; done) | (go_simp; rfl))
 intro gb164 hg w41 hbox hb
 have n0_ := Aside0.mk (blk_below (g := gb149) (o := .cells #[.int .u64 a0_0, .int .u64 a0_1] 40 (0, 0)) (by (with_reducible repeat (first | refine blk_drewN ?_ _ | refine blk_drew ?_ | refine blk_alloc ?_ _)); exact BK149.out) hb)
 have n1_ := Aside0.mk (blk_below (g := gb155) (o := .cells #[.int .u64 t151, .int .u64 t152] 40 (0, 0)) (by (with_reducible repeat (first | refine blk_drewN ?_ _ | refine blk_drew ?_ | refine blk_alloc ?_ _)); exact BK155.out) hb)
 have n2_ := Aside0.mk (blk_below (g := gb159) (o := .cells #[.int .u64 t156, .int .u64 t157] 40 (0, 0)) (by (with_reducible repeat (first | refine blk_drewN ?_ _ | refine blk_drew ?_ | refine blk_alloc ?_ _)); exact BK159.out) hb)
 have n3_ := Aside0.mk (below_step (by repeat (first | (with_reducible first | exact HB.out | apply below_alloc | apply pw_below_drewN | apply below_drew1 | refine below_set ?_ GE149.out | refine below_set ?_ GE155.out | refine below_set ?_ GE159.out) | exact HB.out)) hb)
 have n4_ := Aside0.mk (hbox)
 have n5_ := Aside0.mk ((by rw [hg]; exact (below_size (by repeat (first | (with_reducible first | exact HB.out | apply below_alloc | apply pw_below_drewN | apply below_drew1 | refine below_set ?_ GE149.out | refine below_set ?_ GE155.out | refine below_set ?_ GE159.out) | exact HB.out))) : w.heap.size ≤ gb164))
 have n6_ := Aside0.mk ((by rw [hg]; exact (below_size (by repeat (first | (with_reducible first | exact HB.out | apply below_alloc | apply pw_below_drewN | apply below_drew1 | refine below_set ?_ GE149.out | refine below_set ?_ GE155.out | refine below_set ?_ GE159.out) | exact HB.out))) : w.heap.size ≤ gb164))
 have n7_ := Aside0.mk ((by rw [hg]; exact Nat.ne_of_lt (blk_lt (g := gb149) (o := .cells #[.int .u64 a0_0, .int .u64 a0_1] 40 (0, 0)) (by (with_reducible repeat (first | refine blk_drewN ?_ _ | refine blk_drew ?_ | refine blk_alloc ?_ _)); exact BK149.out)) : gb149 ≠ gb164))
 have n8_ := Aside0.mk ((by rw [hg]; exact Nat.ne_of_gt (blk_lt (g := gb149) (o := .cells #[.int .u64 a0_0, .int .u64 a0_1] 40 (0, 0)) (by (with_reducible repeat (first | refine blk_drewN ?_ _ | refine blk_drew ?_ | refine blk_alloc ?_ _)); exact BK149.out)) : gb164 ≠ gb149))
 have n9_ := Aside0.mk ((by rw [hg]; exact Nat.ne_of_lt (blk_lt (g := gb155) (o := .cells #[.int .u64 t151, .int .u64 t152] 40 (0, 0)) (by (with_reducible repeat (first | refine blk_drewN ?_ _ | refine blk_drew ?_ | refine blk_alloc ?_ _)); exact BK155.out)) : gb155 ≠ gb164))
 have n10_ := Aside0.mk ((by rw [hg]; exact Nat.ne_of_gt (blk_lt (g := gb155) (o := .cells #[.int .u64 t151, .int .u64 t152] 40 (0, 0)) (by (with_reducible repeat (first | refine blk_drewN ?_ _ | refine blk_drew ?_ | refine blk_alloc ?_ _)); exact BK155.out)) : gb164 ≠ gb155))
 have n11_ := Aside0.mk ((by rw [hg]; exact Nat.ne_of_lt (blk_lt (g := gb159) (o := .cells #[.int .u64 t156, .int .u64 t157] 40 (0, 0)) (by (with_reducible repeat (first | refine blk_drewN ?_ _ | refine blk_drew ?_ | refine blk_alloc ?_ _)); exact BK159.out)) : gb159 ≠ gb164))
 have n12_ := Aside0.mk ((by rw [hg]; exact Nat.ne_of_gt (blk_lt (g := gb159) (o := .cells #[.int .u64 t156, .int .u64 t157] 40 (0, 0)) (by (with_reducible repeat (first | refine blk_drewN ?_ _ | refine blk_drew ?_ | refine blk_alloc ?_ _)); exact BK159.out)) : gb164 ≠ gb159))
 clear BK149 BK155 BK159 HB
 have BK149 := n0_
 have BK155 := n1_
 have BK159 := n2_
 have HB := n3_
 have BK164 := n4_
 have GW164 := n5_
 have GE164 := n6_
 have NB149_164 := n7_
 have NB164_149 := n8_
 have NB155_164 := n9_
 have NB164_155 := n10_
 have NB159_164 := n11_
 have NB164_159 := n12_
 clear n0_ n1_ n2_ n3_ n4_ n5_ n6_ n7_ n8_ n9_ n10_ n11_ n12_ hb hbox hg
 refine hK.out _ _ ⟨(blk_cell BK155.out 0).trans rfl, (blk_cell BK155.out 1).trans rfl⟩ (fun hHeld => ?_)
 clear hK K
 refine norm_ (a' := ?_) ?_ ?_
 rotate_left
 {
 show Act.put _ (some 10) _ = _
 simp only [Act.put, List.setIfInBounds_toArray, List.set_cons_zero, List.set_cons_succ, i64_w, i32_w]
 rfl
 }
 exact norm_ (by first | (simp only [putAll, Act.put, List.setIfInBounds_toArray, List.set_cons_zero, List.set_cons_succ]; done) | (simp only [putAll, Act.put, List.setIfInBounds_toArray, List.set_cons_zero, List.set_cons_succ]; rfl)) (hJ8 (gb164) _ ⟨hHeld, (by (with_reducible repeat (first | refine blk_drewN ?_ _ | refine blk_drew ?_ | refine blk_alloc ?_ _)); exact BK149.out), (by (with_reducible repeat (first | refine blk_drewN ?_ _ | refine blk_drew ?_ | refine blk_alloc ?_ _)); exact BK155.out), (by (with_reducible repeat (first | refine blk_drewN ?_ _ | refine blk_drew ?_ | refine blk_alloc ?_ _)); exact BK159.out), (by (with_reducible repeat (first | refine blk_drewN ?_ _ | refine blk_drew ?_ | refine blk_alloc ?_ _)); exact BK164.out), GW164.out, GE164.out, NB149_164.out, NB164_149.out, NB155_164.out, NB164_155.out, NB159_164.out, NB164_159.out, (by repeat (first | (with_reducible first | exact HB.out | apply below_alloc | apply pw_below_drewN | apply below_drew1 | refine below_set ?_ GE149.out | refine below_set ?_ GE155.out | refine below_set ?_ GE159.out | refine below_set ?_ GE164.out) | exact HB.out))⟩)
 }
 {
 skip
 refine box_step ?hg (N := 11) ?hd (cs := #[.int .u64 0, .int .u64 0]) (t := 40) ?hr ?_; (case hd => rfl); (case hg => rfl); (case hr => first | (go_simp; done) | (go_simp; rfl))
 intro gb165 hg w41 hbox hb
 have n0_ := Aside0.mk (blk_below (g := gb149) (o := .cells #[.int .u64 a0_0, .int .u64 a0_1] 40 (0, 0)) (by (with_reducible repeat (first | refine blk_drewN ?_ _ | refine blk_drew ?_ | refine blk_alloc ?_ _)); exact BK149.out) hb)
 have n1_ := Aside0.mk (blk_below (g := gb155) (o := .cells #[.int .u64 t151, .int .u64 t152] 40 (0, 0)) (by (with_reducible repeat (first | refine blk_drewN ?_ _ | refine blk_drew ?_ | refine blk_alloc ?_ _)); exact BK155.out) hb)
 have n2_ := Aside0.mk (blk_below (g := gb159) (o := .cells #[.int .u64 t156, .int .u64 t157] 40 (0, 0)) (by (with_reducible repeat (first | refine blk_drewN ?_ _ | refine blk_drew ?_ | refine blk_alloc ?_ _)); exact BK159.out) hb)
 have n3_ := Aside0.mk (below_step (by repeat (first | (with_reducible first | exact HB.out | apply below_alloc | apply pw_below_drewN | apply below_drew1 | refine below_set ?_ GE149.out | refine below_set ?_ GE155.out | refine below_set ?_ GE159.out) | exact HB.out)) hb)
 have n4_ := Aside0.mk (hbox)
 have n5_ := Aside0.mk ((by rw [hg]; exact (below_size (by repeat (first | (with_reducible first | exact HB.out | apply below_alloc | apply pw_below_drewN | apply below_drew1 | refine below_set ?_ GE149.out | refine below_set ?_ GE155.out | refine below_set ?_ GE159.out) | exact HB.out))) : w.heap.size ≤ gb165))
 have n6_ := Aside0.mk ((by rw [hg]; exact (below_size (by repeat (first | (with_reducible first | exact HB.out | apply below_alloc | apply pw_below_drewN | apply below_drew1 | refine below_set ?_ GE149.out | refine below_set ?_ GE155.out | refine below_set ?_ GE159.out) | exact HB.out))) : w.heap.size ≤ gb165))
 have n7_ := Aside0.mk ((by rw [hg]; exact Nat.ne_of_lt (blk_lt (g := gb149) (o := .cells #[.int .u64 a0_0, .int .u64 a0_1] 40 (0, 0)) (by (with_reducible repeat (first | refine blk_drewN ?_ _ | refine blk_drew ?_ | refine blk_alloc ?_ _)); exact BK149.out)) : gb149 ≠ gb165))
 have n8_ := Aside0.mk ((by rw [hg]; exact Nat.ne_of_gt (blk_lt (g := gb149) (o := .cells #[.int .u64 a0_0, .int .u64 a0_1] 40 (0, 0)) (by (with_reducible repeat (first | refine blk_drewN ?_ _ | refine blk_drew ?_ | refine blk_alloc ?_ _)); exact BK149.out)) : gb165 ≠ gb149))
 have n9_ := Aside0.mk ((by rw [hg]; exact Nat.ne_of_lt (blk_lt (g := gb155) (o := .cells #[.int .u64 t151, .int .u64 t152] 40 (0, 0)) (by (with_reducible repeat (first | refine blk_drewN ?_ _ | refine blk_drew ?_ | refine blk_alloc ?_ _)); exact BK155.out)) : gb155 ≠ gb165))
 have n10_ := Aside0.mk ((by rw [hg]; exact Nat.ne_of_gt (blk_lt (g := gb155) (o := .cells #[.int .u64 t151, .int .u64 t152] 40 (0, 0)) (by (with_reducible repeat (first | refine blk_drewN ?_ _ | refine blk_drew ?_ | refine blk_alloc ?_ _)); exact BK155.out)) : gb165 ≠ gb155))
 have n11_ := Aside0.mk ((by rw [hg]; exact Nat.ne_of_lt (blk_lt (g := gb159) (o := .cells #[.int .u64 t156, .int .u64 t157] 40 (0, 0)) (by (with_reducible repeat (first | refine blk_drewN ?_ _ | refine blk_drew ?_ | refine blk_alloc ?_ _)); exact BK159.out)) : gb159 ≠ gb165))
 have n12_ := Aside0.mk ((by rw [hg]; exact Nat.ne_of_gt (blk_lt (g := gb159) (o := .cells #[.int .u64 t156, .int .u64 t157] 40 (0, 0)) (by (with_reducible repeat (first | refine blk_drewN ?_ _ | refine blk_drew ?_ | refine blk_alloc ?_ _)); exact BK159.out)) : gb165 ≠ gb159))
 clear BK149 BK155 BK159 HB
 have BK149 := n0_
 have BK155 := n1_
 have BK159 := n2_
 have HB := n3_
 have BK165 := n4_
 have GW165 := n5_
 have GE165 := n6_
 have NB149_165 := n7_
 have NB165_149 := n8_
 have NB155_165 := n9_
 have NB165_155 := n10_
 have NB159_165 := n11_
 have NB165_159 := n12_
 clear n0_ n1_ n2_ n3_ n4_ n5_ n6_ n7_ n8_ n9_ n10_ n11_ n12_ hb hbox hg
 refine hK.out _ _ ⟨(blk_cell BK155.out 0).trans rfl, (blk_cell BK155.out 1).trans rfl⟩ (fun hHeld => ?_)
 clear hK K
 refine norm_ (a' := ?_) ?_ ?_
 rotate_left
 {
 show Act.put _ (some 11) _ = _
 simp only [Act.put, List.setIfInBounds_toArray, List.set_cons_zero, List.set_cons_succ, i64_w, i32_w]
 rfl
 }
 exact norm_ (by first | (simp only [putAll, Act.put, List.setIfInBounds_toArray, List.set_cons_zero, List.set_cons_succ]; done) | (simp only [putAll, Act.put, List.setIfInBounds_toArray, List.set_cons_zero, List.set_cons_succ]; rfl)) (hJ9 (gb165) _ ⟨hHeld, (by (with_reducible repeat (first | refine blk_drewN ?_ _ | refine blk_drew ?_ | refine blk_alloc ?_ _)); exact BK149.out), (by (with_reducible repeat (first | refine blk_drewN ?_ _ | refine blk_drew ?_ | refine blk_alloc ?_ _)); exact BK155.out), (by (with_reducible repeat (first | refine blk_drewN ?_ _ | refine blk_drew ?_ | refine blk_alloc ?_ _)); exact BK159.out), (by (with_reducible repeat (first | refine blk_drewN ?_ _ | refine blk_drew ?_ | refine blk_alloc ?_ _)); exact BK165.out), GW165.out, GE165.out, NB149_165.out, NB165_149.out, NB155_165.out, NB165_155.out, NB159_165.out, NB165_159.out, (by repeat (first | (with_reducible first | exact HB.out | apply below_alloc | apply pw_below_drewN | apply below_drew1 | refine below_set ?_ GE149.out | refine below_set ?_ GE155.out | refine below_set ?_ GE159.out | refine below_set ?_ GE165.out) | exact HB.out))⟩)
 }}
 {
 skip
 rintro gb165 w42 ⟨hS_, h0_, h1_, h2_, h3_, h4_, h5_, h6_, h7_, h8_, h9_, h10_, h11_, h12_⟩
 have n0_ : Aside0 (w42.heap[gb149]? = some (.cells #[.int .u64 a0_0, .int .u64 a0_1] 40 (0, 0))) := ⟨h0_⟩
 have n1_ : Aside0 (w42.heap[gb155]? = some (.cells #[.int .u64 t151, .int .u64 t152] 40 (0, 0))) := ⟨h1_⟩
 have n2_ : Aside0 (w42.heap[gb159]? = some (.cells #[.int .u64 t156, .int .u64 t157] 40 (0, 0))) := ⟨h2_⟩
 have n3_ : Aside0 (w42.heap[gb165]? = some (.cells #[.int .u64 0, .int .u64 0] 40 (0, 0))) := ⟨h3_⟩
 have n4_ : Aside0 (w.heap.size ≤ gb165) := ⟨h4_⟩
 have n5_ : Aside0 (w.heap.size ≤ gb165) := ⟨h5_⟩
 have n6_ : Aside0 (gb149 ≠ gb165) := ⟨h6_⟩
 have n7_ : Aside0 (gb165 ≠ gb149) := ⟨h7_⟩
 have n8_ : Aside0 (gb155 ≠ gb165) := ⟨h8_⟩
 have n9_ : Aside0 (gb165 ≠ gb155) := ⟨h9_⟩
 have n10_ : Aside0 (gb159 ≠ gb165) := ⟨h10_⟩
 have n11_ : Aside0 (gb165 ≠ gb159) := ⟨h11_⟩
 have n12_ : Aside0 (Below w.heap.size w w42) := ⟨h12_⟩
 clear BK149 BK155 BK159 HB h0_ h1_ h2_ h3_ h4_ h5_ h6_ h7_ h8_ h9_ h10_ h11_ h12_
 have BK149 := n0_
 have BK155 := n1_
 have BK159 := n2_
 have BK165 := n3_
 have GW165 := n4_
 have GE165 := n5_
 have NB149_165 := n6_
 have NB165_149 := n7_
 have NB155_165 := n8_
 have NB165_155 := n9_
 have NB159_165 := n10_
 have NB165_159 := n11_
 have HB := n12_
 clear n0_ n1_ n2_ n3_ n4_ n5_ n6_ n7_ n8_ n9_ n10_ n11_ n12_
 have hHeld : w42.cell? ⟨gb155, 0, none⟩ = some (.int .u64 t151) ∧ w42.cell? ⟨gb155, 1, none⟩ = some (.int .u64 t152) := hS_
 refine norm_ (a' := ?_) ?_ ?_
 rotate_left
 {
 simp only [putAll, Act.put, List.setIfInBounds_toArray, List.set_cons_zero, List.set_cons_succ]
 rfl
 }
 refine two_ (i := 3) (j := 8) (Ni := some 44) (Nj := some 10) #[true, true, true, true, true, true, true, false, false, true, false, false] #[true, true, true, false, true, true, true, false, true, true, false, false] rfl rfl rfl rfl (two_of HT_.out (by kernel_rfl)) (by decide) (by decide) (fun K hK => ?_) (fun K hK => ?_)
 {
 skip
 refine goes_ Try.func19 (by kernel_rfl) rfl #[.int .u64 t152, .int .u64 a1] (by rfl) rfl rfl (by (try simp only [List.map_toArray, List.map_cons, List.map_nil]); first | done | rfl | (simp only [List.length_drop, List.length_take]; rfl)) ?_
 with_reducible refine (wide_Mul.calls t152 a1 t160 t161 _ A17.out).mono ?_
 rintro e w43 ⟨rfl, hb⟩
 refine ⟨_, rfl, ?_⟩
 have n0_ := Aside0.mk (blk_below (g := gb149) (o := .cells #[.int .u64 a0_0, .int .u64 a0_1] 40 (0, 0)) (by (with_reducible repeat (first | refine blk_drewN ?_ _ | refine blk_drew ?_ | refine blk_alloc ?_ _)); exact BK149.out) hb)
 have n1_ := Aside0.mk (blk_below (g := gb155) (o := .cells #[.int .u64 t151, .int .u64 t152] 40 (0, 0)) (by (with_reducible repeat (first | refine blk_drewN ?_ _ | refine blk_drew ?_ | refine blk_alloc ?_ _)); exact BK155.out) hb)
 have n2_ := Aside0.mk (blk_below (g := gb159) (o := .cells #[.int .u64 t156, .int .u64 t157] 40 (0, 0)) (by (with_reducible repeat (first | refine blk_drewN ?_ _ | refine blk_drew ?_ | refine blk_alloc ?_ _)); exact BK159.out) hb)
 have n3_ := Aside0.mk (blk_below (g := gb165) (o := .cells #[.int .u64 0, .int .u64 0] 40 (0, 0)) (by (with_reducible repeat (first | refine blk_drewN ?_ _ | refine blk_drew ?_ | refine blk_alloc ?_ _)); exact BK165.out) hb)
 have n4_ := Aside0.mk (below_step (by repeat (first | (with_reducible first | exact HB.out | apply below_alloc | apply pw_below_drewN | apply below_drew1 | refine below_set ?_ GE149.out | refine below_set ?_ GE155.out | refine below_set ?_ GE159.out | refine below_set ?_ GE165.out) | exact HB.out)) hb)
 clear BK149 BK155 BK159 BK165 HB
 have BK149 := n0_
 have BK155 := n1_
 have BK159 := n2_
 have BK165 := n3_
 have HB := n4_
 clear n0_ n1_ n2_ n3_ n4_
 (try clear hb)
 (try clear hb2)
 (try clear hk)
 (try clear hi)
 refine hK.out _ _ ⟨(blk_cell BK155.out 0).trans rfl, (blk_cell BK155.out 1).trans rfl⟩ (fun hHeld => ?_)
 clear hK K
 refine norm_ (a' := ?_) ?_ ?_
 rotate_left
 {
 show Act.put _ (some 44) _ = _
 simp only [Act.put, List.setIfInBounds_toArray, List.set_cons_zero, List.set_cons_succ, i64_w, i32_w]
 rfl
 }
 exact norm_ (by first | (simp only [putAll, Act.put, List.setIfInBounds_toArray, List.set_cons_zero, List.set_cons_succ]; done) | (simp only [putAll, Act.put, List.setIfInBounds_toArray, List.set_cons_zero, List.set_cons_succ]; rfl)) (hJ3_9 (gb165) _ ⟨hHeld, (by (with_reducible repeat (first | refine blk_drewN ?_ _ | refine blk_drew ?_ | refine blk_alloc ?_ _)); exact BK149.out), (by (with_reducible repeat (first | refine blk_drewN ?_ _ | refine blk_drew ?_ | refine blk_alloc ?_ _)); exact BK155.out), (by (with_reducible repeat (first | refine blk_drewN ?_ _ | refine blk_drew ?_ | refine blk_alloc ?_ _)); exact BK159.out), (by (with_reducible repeat (first | refine blk_drewN ?_ _ | refine blk_drew ?_ | refine blk_alloc ?_ _)); exact BK165.out), GW165.out, GE165.out, NB149_165.out, NB165_149.out, NB155_165.out, NB165_155.out, NB159_165.out, NB165_159.out, (by repeat (first | (with_reducible first | exact HB.out | apply below_alloc | apply pw_below_drewN | apply below_drew1 | refine below_set ?_ GE149.out | refine below_set ?_ GE155.out | refine below_set ?_ GE159.out | refine below_set ?_ GE165.out) | exact HB.out))⟩)
 }
 {
 skip
 refine box_step ?hg (N := 10) ?hd (cs := #[.int .u64 0, .int .u64 0]) (t := 40) ?hr ?_; (case hd => rfl); (case hg => rfl); (case hr => first | (go_simp; done) | (go_simp; rfl))
 intro gb164 hg w43 hbox hb
 have n0_ := Aside0.mk (blk_below (g := gb149) (o := .cells #[.int .u64 a0_0, .int .u64 a0_1] 40 (0, 0)) (by (with_reducible repeat (first | refine blk_drewN ?_ _ | refine blk_drew ?_ | refine blk_alloc ?_ _)); exact BK149.out) hb)
 have n1_ := Aside0.mk (blk_below (g := gb155) (o := .cells #[.int .u64 t151, .int .u64 t152] 40 (0, 0)) (by (with_reducible repeat (first | refine blk_drewN ?_ _ | refine blk_drew ?_ | refine blk_alloc ?_ _)); exact BK155.out) hb)
 have n2_ := Aside0.mk (blk_below (g := gb159) (o := .cells #[.int .u64 t156, .int .u64 t157] 40 (0, 0)) (by (with_reducible repeat (first | refine blk_drewN ?_ _ | refine blk_drew ?_ | refine blk_alloc ?_ _)); exact BK159.out) hb)
 have n3_ := Aside0.mk (blk_below (g := gb165) (o := .cells #[.int .u64 0, .int .u64 0] 40 (0, 0)) (by (with_reducible repeat (first | refine blk_drewN ?_ _ | refine blk_drew ?_ | refine blk_alloc ?_ _)); exact BK165.out) hb)
 have n4_ := Aside0.mk (below_step (by repeat (first | (with_reducible first | exact HB.out | apply below_alloc | apply pw_below_drewN | apply below_drew1 | refine below_set ?_ GE149.out | refine below_set ?_ GE155.out | refine below_set ?_ GE159.out | refine below_set ?_ GE165.out) | exact HB.out)) hb)
 have n5_ := Aside0.mk (hbox)
 have n6_ := Aside0.mk ((by rw [hg]; exact (below_size (by repeat (first | (with_reducible first | exact HB.out | apply below_alloc | apply pw_below_drewN | apply below_drew1 | refine below_set ?_ GE149.out | refine below_set ?_ GE155.out | refine below_set ?_ GE159.out | refine below_set ?_ GE165.out) | exact HB.out))) : w.heap.size ≤ gb164))
 have n7_ := Aside0.mk ((by rw [hg]; exact (below_size (by repeat (first | (with_reducible first | exact HB.out | apply below_alloc | apply pw_below_drewN | apply below_drew1 | refine below_set ?_ GE149.out | refine below_set ?_ GE155.out | refine below_set ?_ GE159.out | refine below_set ?_ GE165.out) | exact HB.out))) : w.heap.size ≤ gb164))
 have n8_ := Aside0.mk ((by rw [hg]; exact Nat.ne_of_lt (blk_lt (g := gb149) (o := .cells #[.int .u64 a0_0, .int .u64 a0_1] 40 (0, 0)) (by (with_reducible repeat (first | refine blk_drewN ?_ _ | refine blk_drew ?_ | refine blk_alloc ?_ _)); exact BK149.out)) : gb149 ≠ gb164))
 have n9_ := Aside0.mk ((by rw [hg]; exact Nat.ne_of_gt (blk_lt (g := gb149) (o := .cells #[.int .u64 a0_0, .int .u64 a0_1] 40 (0, 0)) (by (with_reducible repeat (first | refine blk_drewN ?_ _ | refine blk_drew ?_ | refine blk_alloc ?_ _)); exact BK149.out)) : gb164 ≠ gb149))
 have n10_ := Aside0.mk ((by rw [hg]; exact Nat.ne_of_lt (blk_lt (g := gb155) (o := .cells #[.int .u64 t151, .int .u64 t152] 40 (0, 0)) (by (with_reducible repeat (first | refine blk_drewN ?_ _ | refine blk_drew ?_ | refine blk_alloc ?_ _)); exact BK155.out)) : gb155 ≠ gb164))
 have n11_ := Aside0.mk ((by rw [hg]; exact Nat.ne_of_gt (blk_lt (g := gb155) (o := .cells #[.int .u64 t151, .int .u64 t152] 40 (0, 0)) (by (with_reducible repeat (first | refine blk_drewN ?_ _ | refine blk_drew ?_ | refine blk_alloc ?_ _)); exact BK155.out)) : gb164 ≠ gb155))
 have n12_ := Aside0.mk ((by rw [hg]; exact Nat.ne_of_lt (blk_lt (g := gb159) (o := .cells #[.int .u64 t156, .int .u64 t157] 40 (0, 0)) (by (with_reducible repeat (first | refine blk_drewN ?_ _ | refine blk_drew ?_ | refine blk_alloc ?_ _)); exact BK159.out)) : gb159 ≠ gb164))
 have n13_ := Aside0.mk ((by rw [hg]; exact Nat.ne_of_gt (blk_lt (g := gb159) (o := .cells #[.int .u64 t156, .int .u64 t157] 40 (0, 0)) (by (with_reducible repeat (first | refine blk_drewN ?_ _ | refine blk_drew ?_ | refine blk_alloc ?_ _)); exact BK159.out)) : gb164 ≠ gb159))
 have n14_ := Aside0.mk ((by rw [hg]; exact Nat.ne_of_lt (blk_lt (g := gb165) (o := .cells #[.int .u64 0, .int .u64 0] 40 (0, 0)) (by (with_reducible repeat (first | refine blk_drewN ?_ _ | refine blk_drew ?_ | refine blk_alloc ?_ _)); exact BK165.out)) : gb165 ≠ gb164))
 have n15_ := Aside0.mk ((by rw [hg]; exact Nat.ne_of_gt (blk_lt (g := gb165) (o := .cells #[.int .u64 0, .int .u64 0] 40 (0, 0)) (by (with_reducible repeat (first | refine blk_drewN ?_ _ | refine blk_drew ?_ | refine blk_alloc ?_ _)); exact BK165.out)) : gb164 ≠ gb165))
 clear BK149 BK155 BK159 BK165 HB
 have BK149 := n0_
 have BK155 := n1_
 have BK159 := n2_
 have BK165 := n3_
 have HB := n4_
 have BK164 := n5_
 have GW164 := n6_
 have GE164 := n7_
 have NB149_164 := n8_
 have NB164_149 := n9_
 have NB155_164 := n10_
 have NB164_155 := n11_
 have NB159_164 := n12_
 have NB164_159 := n13_
 have NB165_164 := n14_
 have NB164_165 := n15_
 clear n0_ n1_ n2_ n3_ n4_ n5_ n6_ n7_ n8_ n9_ n10_ n11_ n12_ n13_ n14_ n15_ hb hbox hg
 refine hK.out _ _ ⟨(blk_cell BK155.out 0).trans rfl, (blk_cell BK155.out 1).trans rfl⟩ (fun hHeld => ?_)
 clear hK K
 refine norm_ (a' := ?_) ?_ ?_
 rotate_left
 {
 show Act.put _ (some 10) _ = _
 simp only [Act.put, List.setIfInBounds_toArray, List.set_cons_zero, List.set_cons_succ, i64_w, i32_w]
 rfl
 }
 exact norm_ (by first | (simp only [putAll, Act.put, List.setIfInBounds_toArray, List.set_cons_zero, List.set_cons_succ]; done) | (simp only [putAll, Act.put, List.setIfInBounds_toArray, List.set_cons_zero, List.set_cons_succ]; rfl)) (hJ8_9 (gb164, gb165) _ ⟨hHeld, (by (with_reducible repeat (first | refine blk_drewN ?_ _ | refine blk_drew ?_ | refine blk_alloc ?_ _)); exact BK149.out), (by (with_reducible repeat (first | refine blk_drewN ?_ _ | refine blk_drew ?_ | refine blk_alloc ?_ _)); exact BK155.out), (by (with_reducible repeat (first | refine blk_drewN ?_ _ | refine blk_drew ?_ | refine blk_alloc ?_ _)); exact BK159.out), (by (with_reducible repeat (first | refine blk_drewN ?_ _ | refine blk_drew ?_ | refine blk_alloc ?_ _)); exact BK164.out), (by (with_reducible repeat (first | refine blk_drewN ?_ _ | refine blk_drew ?_ | refine blk_alloc ?_ _)); exact BK165.out), GW164.out, GE164.out, NB149_164.out, NB164_149.out, NB155_164.out, NB164_155.out, NB159_164.out, NB164_159.out, NB165_164.out, NB164_165.out, GW165.out, GE165.out, NB149_165.out, NB165_149.out, NB155_165.out, NB165_155.out, NB159_165.out, NB165_159.out, (by repeat (first | (with_reducible first | exact HB.out | apply below_alloc | apply pw_below_drewN | apply below_drew1 | refine below_set ?_ GE149.out | refine below_set ?_ GE155.out | refine below_set ?_ GE159.out | refine below_set ?_ GE165.out | refine below_set ?_ GE164.out) | exact HB.out))⟩)
 }}}
 {
 skip
 rintro gb164 w42 ⟨hS_, h0_, h1_, h2_, h3_, h4_, h5_, h6_, h7_, h8_, h9_, h10_, h11_, h12_⟩
 have n0_ : Aside0 (w42.heap[gb149]? = some (.cells #[.int .u64 a0_0, .int .u64 a0_1] 40 (0, 0))) := ⟨h0_⟩
 have n1_ : Aside0 (w42.heap[gb155]? = some (.cells #[.int .u64 t151, .int .u64 t152] 40 (0, 0))) := ⟨h1_⟩
 have n2_ : Aside0 (w42.heap[gb159]? = some (.cells #[.int .u64 t156, .int .u64 t157] 40 (0, 0))) := ⟨h2_⟩
 have n3_ : Aside0 (w42.heap[gb164]? = some (.cells #[.int .u64 0, .int .u64 0] 40 (0, 0))) := ⟨h3_⟩
 have n4_ : Aside0 (w.heap.size ≤ gb164) := ⟨h4_⟩
 have n5_ : Aside0 (w.heap.size ≤ gb164) := ⟨h5_⟩
 have n6_ : Aside0 (gb149 ≠ gb164) := ⟨h6_⟩
 have n7_ : Aside0 (gb164 ≠ gb149) := ⟨h7_⟩
 have n8_ : Aside0 (gb155 ≠ gb164) := ⟨h8_⟩
 have n9_ : Aside0 (gb164 ≠ gb155) := ⟨h9_⟩
 have n10_ : Aside0 (gb159 ≠ gb164) := ⟨h10_⟩
 have n11_ : Aside0 (gb164 ≠ gb159) := ⟨h11_⟩
 have n12_ : Aside0 (Below w.heap.size w w42) := ⟨h12_⟩
 clear BK149 BK155 BK159 HB h0_ h1_ h2_ h3_ h4_ h5_ h6_ h7_ h8_ h9_ h10_ h11_ h12_
 have BK149 := n0_
 have BK155 := n1_
 have BK159 := n2_
 have BK164 := n3_
 have GW164 := n4_
 have GE164 := n5_
 have NB149_164 := n6_
 have NB164_149 := n7_
 have NB155_164 := n8_
 have NB164_155 := n9_
 have NB159_164 := n10_
 have NB164_159 := n11_
 have HB := n12_
 clear n0_ n1_ n2_ n3_ n4_ n5_ n6_ n7_ n8_ n9_ n10_ n11_ n12_
 have hHeld : w42.cell? ⟨gb155, 0, none⟩ = some (.int .u64 t151) ∧ w42.cell? ⟨gb155, 1, none⟩ = some (.int .u64 t152) := hS_
 refine norm_ (a' := ?_) ?_ ?_
 rotate_left
 {
 simp only [putAll, Act.put, List.setIfInBounds_toArray, List.set_cons_zero, List.set_cons_succ]
 rfl
 }
 refine two_ (i := 3) (j := 9) (Ni := some 44) (Nj := some 11) #[true, true, true, true, true, true, true, false, true, false, false, false] #[true, true, true, false, true, true, true, false, true, true, false, false] rfl rfl rfl rfl (two_of HT_.out (by kernel_rfl)) (by decide) (by decide) (fun K hK => ?_) (fun K hK => ?_)
 {
 skip
 refine goes_ Try.func19 (by kernel_rfl) rfl #[.int .u64 t152, .int .u64 a1] (by rfl) rfl rfl (by (try simp only [List.map_toArray, List.map_cons, List.map_nil]); first | done | rfl | (simp only [List.length_drop, List.length_take]; rfl)) ?_
 with_reducible refine (wide_Mul.calls t152 a1 t160 t161 _ A17.out).mono ?_
 rintro e w43 ⟨rfl, hb⟩
 refine ⟨_, rfl, ?_⟩
 have n0_ := Aside0.mk (blk_below (g := gb149) (o := .cells #[.int .u64 a0_0, .int .u64 a0_1] 40 (0, 0)) (by (with_reducible repeat (first | refine blk_drewN ?_ _ | refine blk_drew ?_ | refine blk_alloc ?_ _)); exact BK149.out) hb)
 have n1_ := Aside0.mk (blk_below (g := gb155) (o := .cells #[.int .u64 t151, .int .u64 t152] 40 (0, 0)) (by (with_reducible repeat (first | refine blk_drewN ?_ _ | refine blk_drew ?_ | refine blk_alloc ?_ _)); exact BK155.out) hb)
 have n2_ := Aside0.mk (blk_below (g := gb159) (o := .cells #[.int .u64 t156, .int .u64 t157] 40 (0, 0)) (by (with_reducible repeat (first | refine blk_drewN ?_ _ | refine blk_drew ?_ | refine blk_alloc ?_ _)); exact BK159.out) hb)
 have n3_ := Aside0.mk (blk_below (g := gb164) (o := .cells #[.int .u64 0, .int .u64 0] 40 (0, 0)) (by (with_reducible repeat (first | refine blk_drewN ?_ _ | refine blk_drew ?_ | refine blk_alloc ?_ _)); exact BK164.out) hb)
 have n4_ := Aside0.mk (below_step (by repeat (first | (with_reducible first | exact HB.out | apply below_alloc | apply pw_below_drewN | apply below_drew1 | refine below_set ?_ GE149.out | refine below_set ?_ GE155.out | refine below_set ?_ GE159.out | refine below_set ?_ GE164.out) | exact HB.out)) hb)
 clear BK149 BK155 BK159 BK164 HB
 have BK149 := n0_
 have BK155 := n1_
 have BK159 := n2_
 have BK164 := n3_
 have HB := n4_
 clear n0_ n1_ n2_ n3_ n4_
 (try clear hb)
 (try clear hb2)
 (try clear hk)
 (try clear hi)
 refine hK.out _ _ ⟨(blk_cell BK155.out 0).trans rfl, (blk_cell BK155.out 1).trans rfl⟩ (fun hHeld => ?_)
 clear hK K
 refine norm_ (a' := ?_) ?_ ?_
 rotate_left
 {
 show Act.put _ (some 44) _ = _
 simp only [Act.put, List.setIfInBounds_toArray, List.set_cons_zero, List.set_cons_succ, i64_w, i32_w]
 rfl
 }
 exact norm_ (by first | (simp only [putAll, Act.put, List.setIfInBounds_toArray, List.set_cons_zero, List.set_cons_succ]; done) | (simp only [putAll, Act.put, List.setIfInBounds_toArray, List.set_cons_zero, List.set_cons_succ]; rfl)) (hJ3_8 (gb164) _ ⟨hHeld, (by (with_reducible repeat (first | refine blk_drewN ?_ _ | refine blk_drew ?_ | refine blk_alloc ?_ _)); exact BK149.out), (by (with_reducible repeat (first | refine blk_drewN ?_ _ | refine blk_drew ?_ | refine blk_alloc ?_ _)); exact BK155.out), (by (with_reducible repeat (first | refine blk_drewN ?_ _ | refine blk_drew ?_ | refine blk_alloc ?_ _)); exact BK159.out), (by (with_reducible repeat (first | refine blk_drewN ?_ _ | refine blk_drew ?_ | refine blk_alloc ?_ _)); exact BK164.out), GW164.out, GE164.out, NB149_164.out, NB164_149.out, NB155_164.out, NB164_155.out, NB159_164.out, NB164_159.out, (by repeat (first | (with_reducible first | exact HB.out | apply below_alloc | apply pw_below_drewN | apply below_drew1 | refine below_set ?_ GE149.out | refine below_set ?_ GE155.out | refine below_set ?_ GE159.out | refine below_set ?_ GE164.out) | exact HB.out))⟩)
 }
 {
 skip
 refine box_step ?hg (N := 11) ?hd (cs := #[.int .u64 0, .int .u64 0]) (t := 40) ?hr ?_; (case hd => rfl); (case hg => rfl); (case hr => first | (go_simp; done) | (go_simp; rfl))
 intro gb165 hg w43 hbox hb
 have n0_ := Aside0.mk (blk_below (g := gb149) (o := .cells #[.int .u64 a0_0, .int .u64 a0_1] 40 (0, 0)) (by (with_reducible repeat (first | refine blk_drewN ?_ _ | refine blk_drew ?_ | refine blk_alloc ?_ _)); exact BK149.out) hb)
 have n1_ := Aside0.mk (blk_below (g := gb155) (o := .cells #[.int .u64 t151, .int .u64 t152] 40 (0, 0)) (by (with_reducible repeat (first | refine blk_drewN ?_ _ | refine blk_drew ?_ | refine blk_alloc ?_ _)); exact BK155.out) hb)
 have n2_ := Aside0.mk (blk_below (g := gb159) (o := .cells #[.int .u64 t156, .int .u64 t157] 40 (0, 0)) (by (with_reducible repeat (first | refine blk_drewN ?_ _ | refine blk_drew ?_ | refine blk_alloc ?_ _)); exact BK159.out) hb)
 have n3_ := Aside0.mk (blk_below (g := gb164) (o := .cells #[.int .u64 0, .int .u64 0] 40 (0, 0)) (by (with_reducible repeat (first | refine blk_drewN ?_ _ | refine blk_drew ?_ | refine blk_alloc ?_ _)); exact BK164.out) hb)
 have n4_ := Aside0.mk (below_step (by repeat (first | (with_reducible first | exact HB.out | apply below_alloc | apply pw_below_drewN | apply below_drew1 | refine below_set ?_ GE149.out | refine below_set ?_ GE155.out | refine below_set ?_ GE159.out | refine below_set ?_ GE164.out) | exact HB.out)) hb)
 have n5_ := Aside0.mk (hbox)
 have n6_ := Aside0.mk ((by rw [hg]; exact (below_size (by repeat (first | (with_reducible first | exact HB.out | apply below_alloc | apply pw_below_drewN | apply below_drew1 | refine below_set ?_ GE149.out | refine below_set ?_ GE155.out | refine below_set ?_ GE159.out | refine below_set ?_ GE164.out) | exact HB.out))) : w.heap.size ≤ gb165))
 have n7_ := Aside0.mk ((by rw [hg]; exact (below_size (by repeat (first | (with_reducible first | exact HB.out | apply below_alloc | apply pw_below_drewN | apply below_drew1 | refine below_set ?_ GE149.out | refine below_set ?_ GE155.out | refine below_set ?_ GE159.out | refine below_set ?_ GE164.out) | exact HB.out))) : w.heap.size ≤ gb165))
 have n8_ := Aside0.mk ((by rw [hg]; exact Nat.ne_of_lt (blk_lt (g := gb149) (o := .cells #[.int .u64 a0_0, .int .u64 a0_1] 40 (0, 0)) (by (with_reducible repeat (first | refine blk_drewN ?_ _ | refine blk_drew ?_ | refine blk_alloc ?_ _)); exact BK149.out)) : gb149 ≠ gb165))
 have n9_ := Aside0.mk ((by rw [hg]; exact Nat.ne_of_gt (blk_lt (g := gb149) (o := .cells #[.int .u64 a0_0, .int .u64 a0_1] 40 (0, 0)) (by (with_reducible repeat (first | refine blk_drewN ?_ _ | refine blk_drew ?_ | refine blk_alloc ?_ _)); exact BK149.out)) : gb165 ≠ gb149))
 have n10_ := Aside0.mk ((by rw [hg]; exact Nat.ne_of_lt (blk_lt (g := gb155) (o := .cells #[.int .u64 t151, .int .u64 t152] 40 (0, 0)) (by (with_reducible repeat (first | refine blk_drewN ?_ _ | refine blk_drew ?_ | refine blk_alloc ?_ _)); exact BK155.out)) : gb155 ≠ gb165))
 have n11_ := Aside0.mk ((by rw [hg]; exact Nat.ne_of_gt (blk_lt (g := gb155) (o := .cells #[.int .u64 t151, .int .u64 t152] 40 (0, 0)) (by (with_reducible repeat (first | refine blk_drewN ?_ _ | refine blk_drew ?_ | refine blk_alloc ?_ _)); exact BK155.out)) : gb165 ≠ gb155))
 have n12_ := Aside0.mk ((by rw [hg]; exact Nat.ne_of_lt (blk_lt (g := gb159) (o := .cells #[.int .u64 t156, .int .u64 t157] 40 (0, 0)) (by (with_reducible repeat (first | refine blk_drewN ?_ _ | refine blk_drew ?_ | refine blk_alloc ?_ _)); exact BK159.out)) : gb159 ≠ gb165))
 have n13_ := Aside0.mk ((by rw [hg]; exact Nat.ne_of_gt (blk_lt (g := gb159) (o := .cells #[.int .u64 t156, .int .u64 t157] 40 (0, 0)) (by (with_reducible repeat (first | refine blk_drewN ?_ _ | refine blk_drew ?_ | refine blk_alloc ?_ _)); exact BK159.out)) : gb165 ≠ gb159))
 have n14_ := Aside0.mk ((by rw [hg]; exact Nat.ne_of_lt (blk_lt (g := gb164) (o := .cells #[.int .u64 0, .int .u64 0] 40 (0, 0)) (by (with_reducible repeat (first | refine blk_drewN ?_ _ | refine blk_drew ?_ | refine blk_alloc ?_ _)); exact BK164.out)) : gb164 ≠ gb165))
 have n15_ := Aside0.mk ((by rw [hg]; exact Nat.ne_of_gt (blk_lt (g := gb164) (o := .cells #[.int .u64 0, .int .u64 0] 40 (0, 0)) (by (with_reducible repeat (first | refine blk_drewN ?_ _ | refine blk_drew ?_ | refine blk_alloc ?_ _)); exact BK164.out)) : gb165 ≠ gb164))
 clear BK149 BK155 BK159 BK164 HB
 have BK149 := n0_
 have BK155 := n1_
 have BK159 := n2_
 have BK164 := n3_
 have HB := n4_
 have BK165 := n5_
 have GW165 := n6_
 have GE165 := n7_
 have NB149_165 := n8_
 have NB165_149 := n9_
 have NB155_165 := n10_
 have NB165_155 := n11_
 have NB159_165 := n12_
 have NB165_159 := n13_
 have NB164_165 := n14_
 have NB165_164 := n15_
 clear n0_ n1_ n2_ n3_ n4_ n5_ n6_ n7_ n8_ n9_ n10_ n11_ n12_ n13_ n14_ n15_ hb hbox hg
 refine hK.out _ _ ⟨(blk_cell BK155.out 0).trans rfl, (blk_cell BK155.out 1).trans rfl⟩ (fun hHeld => ?_)
 clear hK K
 refine norm_ (a' := ?_) ?_ ?_
 rotate_left
 {
 show Act.put _ (some 11) _ = _
 simp only [Act.put, List.setIfInBounds_toArray, List.set_cons_zero, List.set_cons_succ, i64_w, i32_w]
 rfl
 }
 exact norm_ (by first | (simp only [putAll, Act.put, List.setIfInBounds_toArray, List.set_cons_zero, List.set_cons_succ]; done) | (simp only [putAll, Act.put, List.setIfInBounds_toArray, List.set_cons_zero, List.set_cons_succ]; rfl)) (hJ8_9 (gb164, gb165) _ ⟨hHeld, (by (with_reducible repeat (first | refine blk_drewN ?_ _ | refine blk_drew ?_ | refine blk_alloc ?_ _)); exact BK149.out), (by (with_reducible repeat (first | refine blk_drewN ?_ _ | refine blk_drew ?_ | refine blk_alloc ?_ _)); exact BK155.out), (by (with_reducible repeat (first | refine blk_drewN ?_ _ | refine blk_drew ?_ | refine blk_alloc ?_ _)); exact BK159.out), (by (with_reducible repeat (first | refine blk_drewN ?_ _ | refine blk_drew ?_ | refine blk_alloc ?_ _)); exact BK164.out), (by (with_reducible repeat (first | refine blk_drewN ?_ _ | refine blk_drew ?_ | refine blk_alloc ?_ _)); exact BK165.out), GW164.out, GE164.out, NB149_164.out, NB164_149.out, NB155_164.out, NB164_155.out, NB159_164.out, NB164_159.out, NB165_164.out, NB164_165.out, GW165.out, GE165.out, NB149_165.out, NB165_149.out, NB155_165.out, NB165_155.out, NB159_165.out, NB165_159.out, (by repeat (first | (with_reducible first | exact HB.out | apply below_alloc | apply pw_below_drewN | apply below_drew1 | refine below_set ?_ GE149.out | refine below_set ?_ GE155.out | refine below_set ?_ GE159.out | refine below_set ?_ GE164.out | refine below_set ?_ GE165.out) | exact HB.out))⟩)
 }}}
 {
 skip
 rintro _ w42 ⟨hS_, h0_, h1_, h2_, h3_⟩
 have n0_ : Aside0 (w42.heap[gb149]? = some (.cells #[.int .u64 a0_0, .int .u64 a0_1] 40 (0, 0))) := ⟨h0_⟩
 have n1_ : Aside0 (w42.heap[gb155]? = some (.cells #[.int .u64 t151, .int .u64 t152] 40 (0, 0))) := ⟨h1_⟩
 have n2_ : Aside0 (w42.heap[gb159]? = some (.cells #[.int .u64 t156, .int .u64 t157] 40 (0, 0))) := ⟨h2_⟩
 have n3_ : Aside0 (Below w.heap.size w w42) := ⟨h3_⟩
 clear BK149 BK155 BK159 HB h0_ h1_ h2_ h3_
 have BK149 := n0_
 have BK155 := n1_
 have BK159 := n2_
 have HB := n3_
 clear n0_ n1_ n2_ n3_
 have hHeld : w42.cell? ⟨gb155, 0, none⟩ = some (.int .u64 t151) ∧ w42.cell? ⟨gb155, 1, none⟩ = some (.int .u64 t152) := hS_
 refine norm_ (a' := ?_) ?_ ?_
 rotate_left
 {
 simp only [putAll, Act.put, List.setIfInBounds_toArray, List.set_cons_zero, List.set_cons_succ]
 rfl
 }
 refine three_ (i := 7) (j := 8) (k := 9) (Ni := some 48) (Nj := some 10) (Nk := some 11) #[true, true, true, true, true, true, true, true, false, false, false, false] #[true, true, true, true, true, true, true, false, true, false, false, false] #[true, true, true, true, true, true, true, false, false, true, false, false] rfl rfl rfl rfl rfl rfl (three_of HT_.out (by kernel_rfl)) (by decide) (by decide) (by decide) (fun K hK => ?_) (fun K hK => ?_) (fun K hK => ?_)
 {
 skip
 refine goes_ Try.func19 (by kernel_rfl) rfl #[.int .u64 t151, .int .u64 a1] (by rfl) rfl rfl (by (try simp only [List.map_toArray, List.map_cons, List.map_nil]); first | done | rfl | (simp only [List.length_drop, List.length_take]; rfl)) ?_
 with_reducible refine (wide_Mul.calls t151 a1 t162 t163 _ A18.out).mono ?_
 rintro e w43 ⟨rfl, hb⟩
 refine ⟨_, rfl, ?_⟩
 have n0_ := Aside0.mk (blk_below (g := gb149) (o := .cells #[.int .u64 a0_0, .int .u64 a0_1] 40 (0, 0)) (by (with_reducible repeat (first | refine blk_drewN ?_ _ | refine blk_drew ?_ | refine blk_alloc ?_ _)); exact BK149.out) hb)
 have n1_ := Aside0.mk (blk_below (g := gb155) (o := .cells #[.int .u64 t151, .int .u64 t152] 40 (0, 0)) (by (with_reducible repeat (first | refine blk_drewN ?_ _ | refine blk_drew ?_ | refine blk_alloc ?_ _)); exact BK155.out) hb)
 have n2_ := Aside0.mk (blk_below (g := gb159) (o := .cells #[.int .u64 t156, .int .u64 t157] 40 (0, 0)) (by (with_reducible repeat (first | refine blk_drewN ?_ _ | refine blk_drew ?_ | refine blk_alloc ?_ _)); exact BK159.out) hb)
 have n3_ := Aside0.mk (below_step (by repeat (first | (with_reducible first | exact HB.out | apply below_alloc | apply pw_below_drewN | apply below_drew1 | refine below_set ?_ GE149.out | refine below_set ?_ GE155.out | refine below_set ?_ GE159.out) | exact HB.out)) hb)
 clear BK149 BK155 BK159 HB
 have BK149 := n0_
 have BK155 := n1_
 have BK159 := n2_
 have HB := n3_
 clear n0_ n1_ n2_ n3_
 (try clear hb)
 (try clear hb2)
 (try clear hk)
 (try clear hi)
 refine hK.out _ _ ⟨(blk_cell BK155.out 0).trans rfl, (blk_cell BK155.out 1).trans rfl⟩ (fun hHeld => ?_)
 clear hK K
 refine norm_ (a' := ?_) ?_ ?_
 rotate_left
 {
 show Act.put _ (some 48) _ = _
 simp only [Act.put, List.setIfInBounds_toArray, List.set_cons_zero, List.set_cons_succ, i64_w, i32_w]
 rfl
 }
 exact norm_ (by first | (simp only [putAll, Act.put, List.setIfInBounds_toArray, List.set_cons_zero, List.set_cons_succ]; done) | (simp only [putAll, Act.put, List.setIfInBounds_toArray, List.set_cons_zero, List.set_cons_succ]; rfl)) (hJ3_7 () _ ⟨hHeld, (by (with_reducible repeat (first | refine blk_drewN ?_ _ | refine blk_drew ?_ | refine blk_alloc ?_ _)); exact BK149.out), (by (with_reducible repeat (first | refine blk_drewN ?_ _ | refine blk_drew ?_ | refine blk_alloc ?_ _)); exact BK155.out), (by (with_reducible repeat (first | refine blk_drewN ?_ _ | refine blk_drew ?_ | refine blk_alloc ?_ _)); exact BK159.out), (by repeat (first | (with_reducible first | exact HB.out | apply below_alloc | apply pw_below_drewN | apply below_drew1 | refine below_set ?_ GE149.out | refine below_set ?_ GE155.out | refine below_set ?_ GE159.out) | exact HB.out))⟩)
 }
 {
 skip
 refine box_step ?hg (N := 10) ?hd (cs := #[.int .u64 0, .int .u64 0]) (t := 40) ?hr ?_; (case hd => rfl); (case hg => rfl); (case hr => first | (go_simp; done) | (go_simp; rfl))
 intro gb164 hg w43 hbox hb
 have n0_ := Aside0.mk (blk_below (g := gb149) (o := .cells #[.int .u64 a0_0, .int .u64 a0_1] 40 (0, 0)) (by (with_reducible repeat (first | refine blk_drewN ?_ _ | refine blk_drew ?_ | refine blk_alloc ?_ _)); exact BK149.out) hb)
 have n1_ := Aside0.mk (blk_below (g := gb155) (o := .cells #[.int .u64 t151, .int .u64 t152] 40 (0, 0)) (by (with_reducible repeat (first | refine blk_drewN ?_ _ | refine blk_drew ?_ | refine blk_alloc ?_ _)); exact BK155.out) hb)
 have n2_ := Aside0.mk (blk_below (g := gb159) (o := .cells #[.int .u64 t156, .int .u64 t157] 40 (0, 0)) (by (with_reducible repeat (first | refine blk_drewN ?_ _ | refine blk_drew ?_ | refine blk_alloc ?_ _)); exact BK159.out) hb)
 have n3_ := Aside0.mk (below_step (by repeat (first | (with_reducible first | exact HB.out | apply below_alloc | apply pw_below_drewN | apply below_drew1 | refine below_set ?_ GE149.out | refine below_set ?_ GE155.out | refine below_set ?_ GE159.out) | exact HB.out)) hb)
 have n4_ := Aside0.mk (hbox)
 have n5_ := Aside0.mk ((by rw [hg]; exact (below_size (by repeat (first | (with_reducible first | exact HB.out | apply below_alloc | apply pw_below_drewN | apply below_drew1 | refine below_set ?_ GE149.out | refine below_set ?_ GE155.out | refine below_set ?_ GE159.out) | exact HB.out))) : w.heap.size ≤ gb164))
 have n6_ := Aside0.mk ((by rw [hg]; exact (below_size (by repeat (first | (with_reducible first | exact HB.out | apply below_alloc | apply pw_below_drewN | apply below_drew1 | refine below_set ?_ GE149.out | refine below_set ?_ GE155.out | refine below_set ?_ GE159.out) | exact HB.out))) : w.heap.size ≤ gb164))
 have n7_ := Aside0.mk ((by rw [hg]; exact Nat.ne_of_lt (blk_lt (g := gb149) (o := .cells #[.int .u64 a0_0, .int .u64 a0_1] 40 (0, 0)) (by (with_reducible repeat (first | refine blk_drewN ?_ _ | refine blk_drew ?_ | refine blk_alloc ?_ _)); exact BK149.out)) : gb149 ≠ gb164))
 have n8_ := Aside0.mk ((by rw [hg]; exact Nat.ne_of_gt (blk_lt (g := gb149) (o := .cells #[.int .u64 a0_0, .int .u64 a0_1] 40 (0, 0)) (by (with_reducible repeat (first | refine blk_drewN ?_ _ | refine blk_drew ?_ | refine blk_alloc ?_ _)); exact BK149.out)) : gb164 ≠ gb149))
 have n9_ := Aside0.mk ((by rw [hg]; exact Nat.ne_of_lt (blk_lt (g := gb155) (o := .cells #[.int .u64 t151, .int .u64 t152] 40 (0, 0)) (by (with_reducible repeat (first | refine blk_drewN ?_ _ | refine blk_drew ?_ | refine blk_alloc ?_ _)); exact BK155.out)) : gb155 ≠ gb164))
 have n10_ := Aside0.mk ((by rw [hg]; exact Nat.ne_of_gt (blk_lt (g := gb155) (o := .cells #[.int .u64 t151, .int .u64 t152] 40 (0, 0)) (by (with_reducible repeat (first | refine blk_drewN ?_ _ | refine blk_drew ?_ | refine blk_alloc ?_ _)); exact BK155.out)) : gb164 ≠ gb155))
 have n11_ := Aside0.mk ((by rw [hg]; exact Nat.ne_of_lt (blk_lt (g := gb159) (o := .cells #[.int .u64 t156, .int .u64 t157] 40 (0, 0)) (by (with_reducible repeat (first | refine blk_drewN ?_ _ | refine blk_drew ?_ | refine blk_alloc ?_ _)); exact BK159.out)) : gb159 ≠ gb164))
 have n12_ := Aside0.mk ((by rw [hg]; exact Nat.ne_of_gt (blk_lt (g := gb159) (o := .cells #[.int .u64 t156, .int .u64 t157] 40 (0, 0)) (by (with_reducible repeat (first | refine blk_drewN ?_ _ | refine blk_drew ?_ | refine blk_alloc ?_ _)); exact BK159.out)) : gb164 ≠ gb159))
 clear BK149 BK155 BK159 HB
 have BK149 := n0_
 have BK155 := n1_
 have BK159 := n2_
 have HB := n3_
 have BK164 := n4_
 have GW164 := n5_
 have GE164 := n6_
 have NB149_164 := n7_
 have NB164_149 := n8_
 have NB155_164 := n9_
 have NB164_155 := n10_
 have NB159_164 := n11_
 have NB164_159 := n12_
 clear n0_ n1_ n2_ n3_ n4_ n5_ n6_ n7_ n8_ n9_ n10_ n11_ n12_ hb hbox hg
 refine hK.out _ _ ⟨(blk_cell BK155.out 0).trans rfl, (blk_cell BK155.out 1).trans rfl⟩ (fun hHeld => ?_)
 clear hK K
 refine norm_ (a' := ?_) ?_ ?_
 rotate_left
 {
 show Act.put _ (some 10) _ = _
 simp only [Act.put, List.setIfInBounds_toArray, List.set_cons_zero, List.set_cons_succ, i64_w, i32_w]
 rfl
 }
 exact norm_ (by first | (simp only [putAll, Act.put, List.setIfInBounds_toArray, List.set_cons_zero, List.set_cons_succ]; done) | (simp only [putAll, Act.put, List.setIfInBounds_toArray, List.set_cons_zero, List.set_cons_succ]; rfl)) (hJ3_8 (gb164) _ ⟨hHeld, (by (with_reducible repeat (first | refine blk_drewN ?_ _ | refine blk_drew ?_ | refine blk_alloc ?_ _)); exact BK149.out), (by (with_reducible repeat (first | refine blk_drewN ?_ _ | refine blk_drew ?_ | refine blk_alloc ?_ _)); exact BK155.out), (by (with_reducible repeat (first | refine blk_drewN ?_ _ | refine blk_drew ?_ | refine blk_alloc ?_ _)); exact BK159.out), (by (with_reducible repeat (first | refine blk_drewN ?_ _ | refine blk_drew ?_ | refine blk_alloc ?_ _)); exact BK164.out), GW164.out, GE164.out, NB149_164.out, NB164_149.out, NB155_164.out, NB164_155.out, NB159_164.out, NB164_159.out, (by repeat (first | (with_reducible first | exact HB.out | apply below_alloc | apply pw_below_drewN | apply below_drew1 | refine below_set ?_ GE149.out | refine below_set ?_ GE155.out | refine below_set ?_ GE159.out | refine below_set ?_ GE164.out) | exact HB.out))⟩)
 }
 {
 skip
 refine box_step ?hg (N := 11) ?hd (cs := #[.int .u64 0, .int .u64 0]) (t := 40) ?hr ?_; (case hd => rfl); (case hg => rfl); (case hr => first | (go_simp; done) | (go_simp; rfl))
 intro gb165 hg w43 hbox hb
 have n0_ := Aside0.mk (blk_below (g := gb149) (o := .cells #[.int .u64 a0_0, .int .u64 a0_1] 40 (0, 0)) (by (with_reducible repeat (first | refine blk_drewN ?_ _ | refine blk_drew ?_ | refine blk_alloc ?_ _)); exact BK149.out) hb)
 have n1_ := Aside0.mk (blk_below (g := gb155) (o := .cells #[.int .u64 t151, .int .u64 t152] 40 (0, 0)) (by (with_reducible repeat (first | refine blk_drewN ?_ _ | refine blk_drew ?_ | refine blk_alloc ?_ _)); exact BK155.out) hb)
 have n2_ := Aside0.mk (blk_below (g := gb159) (o := .cells #[.int .u64 t156, .int .u64 t157] 40 (0, 0)) (by (with_reducible repeat (first | refine blk_drewN ?_ _ | refine blk_drew ?_ | refine blk_alloc ?_ _)); exact BK159.out) hb)
 have n3_ := Aside0.mk (below_step (by repeat (first | (with_reducible first | exact HB.out | apply below_alloc | apply pw_below_drewN | apply below_drew1 | refine below_set ?_ GE149.out | refine below_set ?_ GE155.out | refine below_set ?_ GE159.out) | exact HB.out)) hb)
 have n4_ := Aside0.mk (hbox)
 have n5_ := Aside0.mk ((by rw [hg]; exact (below_size (by repeat (first | (with_reducible first | exact HB.out | apply below_alloc | apply pw_below_drewN | apply below_drew1 | refine below_set ?_ GE149.out | refine below_set ?_ GE155.out | refine below_set ?_ GE159.out) | exact HB.out))) : w.heap.size ≤ gb165))
 have n6_ := Aside0.mk ((by rw [hg]; exact (below_size (by repeat (first | (with_reducible first | exact HB.out | apply below_alloc | apply pw_below_drewN | apply below_drew1 | refine below_set ?_ GE149.out | refine below_set ?_ GE155.out | refine below_set ?_ GE159.out) | exact HB.out))) : w.heap.size ≤ gb165))
 have n7_ := Aside0.mk ((by rw [hg]; exact Nat.ne_of_lt (blk_lt (g := gb149) (o := .cells #[.int .u64 a0_0, .int .u64 a0_1] 40 (0, 0)) (by (with_reducible repeat (first | refine blk_drewN ?_ _ | refine blk_drew ?_ | refine blk_alloc ?_ _)); exact BK149.out)) : gb149 ≠ gb165))
 have n8_ := Aside0.mk ((by rw [hg]; exact Nat.ne_of_gt (blk_lt (g := gb149) (o := .cells #[.int .u64 a0_0, .int .u64 a0_1] 40 (0, 0)) (by (with_reducible repeat (first | refine blk_drewN ?_ _ | refine blk_drew ?_ | refine blk_alloc ?_ _)); exact BK149.out)) : gb165 ≠ gb149))
 have n9_ := Aside0.mk ((by rw [hg]; exact Nat.ne_of_lt (blk_lt (g := gb155) (o := .cells #[.int .u64 t151, .int .u64 t152] 40 (0, 0)) (by (with_reducible repeat (first | refine blk_drewN ?_ _ | refine blk_drew ?_ | refine blk_alloc ?_ _)); exact BK155.out)) : gb155 ≠ gb165))
 have n10_ := Aside0.mk ((by rw [hg]; exact Nat.ne_of_gt (blk_lt (g := gb155) (o := .cells #[.int .u64 t151, .int .u64 t152] 40 (0, 0)) (by (with_reducible repeat (first | refine blk_drewN ?_ _ | refine blk_drew ?_ | refine blk_alloc ?_ _)); exact BK155.out)) : gb165 ≠ gb155))
 have n11_ := Aside0.mk ((by rw [hg]; exact Nat.ne_of_lt (blk_lt (g := gb159) (o := .cells #[.int .u64 t156, .int .u64 t157] 40 (0, 0)) (by (with_reducible repeat (first | refine blk_drewN ?_ _ | refine blk_drew ?_ | refine blk_alloc ?_ _)); exact BK159.out)) : gb159 ≠ gb165))
 have n12_ := Aside0.mk ((by rw [hg]; exact Nat.ne_of_gt (blk_lt (g := gb159) (o := .cells #[.int .u64 t156, .int .u64 t157] 40 (0, 0)) (by (with_reducible repeat (first | refine blk_drewN ?_ _ | refine blk_drew ?_ | refine blk_alloc ?_ _)); exact BK159.out)) : gb165 ≠ gb159))
 clear BK149 BK155 BK159 HB
 have BK149 := n0_
 have BK155 := n1_
 have BK159 := n2_
 have HB := n3_
 have BK165 := n4_
 have GW165 := n5_
 have GE165 := n6_
 have NB149_165 := n7_
 have NB165_149 := n8_
 have NB155_165 := n9_
 have NB165_155 := n10_
 have NB159_165 := n11_
 have NB165_159 := n12_
 clear n0_ n1_ n2_ n3_ n4_ n5_ n6_ n7_ n8_ n9_ n10_ n11_ n12_ hb hbox hg
 refine hK.out _ _ ⟨(blk_cell BK155.out 0).trans rfl, (blk_cell BK155.out 1).trans rfl⟩ (fun hHeld => ?_)
 clear hK K
 refine norm_ (a' := ?_) ?_ ?_
 rotate_left
 {
 show Act.put _ (some 11) _ = _
 simp only [Act.put, List.setIfInBounds_toArray, List.set_cons_zero, List.set_cons_succ, i64_w, i32_w]
 rfl
 }
 exact norm_ (by first | (simp only [putAll, Act.put, List.setIfInBounds_toArray, List.set_cons_zero, List.set_cons_succ]; done) | (simp only [putAll, Act.put, List.setIfInBounds_toArray, List.set_cons_zero, List.set_cons_succ]; rfl)) (hJ3_9 (gb165) _ ⟨hHeld, (by (with_reducible repeat (first | refine blk_drewN ?_ _ | refine blk_drew ?_ | refine blk_alloc ?_ _)); exact BK149.out), (by (with_reducible repeat (first | refine blk_drewN ?_ _ | refine blk_drew ?_ | refine blk_alloc ?_ _)); exact BK155.out), (by (with_reducible repeat (first | refine blk_drewN ?_ _ | refine blk_drew ?_ | refine blk_alloc ?_ _)); exact BK159.out), (by (with_reducible repeat (first | refine blk_drewN ?_ _ | refine blk_drew ?_ | refine blk_alloc ?_ _)); exact BK165.out), GW165.out, GE165.out, NB149_165.out, NB165_149.out, NB155_165.out, NB165_155.out, NB159_165.out, NB165_159.out, (by repeat (first | (with_reducible first | exact HB.out | apply below_alloc | apply pw_below_drewN | apply below_drew1 | refine below_set ?_ GE149.out | refine below_set ?_ GE155.out | refine below_set ?_ GE159.out | refine below_set ?_ GE165.out) | exact HB.out))⟩)
 }}}
 {
 skip
 rintro ⟨gb164, gb165⟩ w43 ⟨hS_, h0_, h1_, h2_, h3_, h4_, h5_, h6_, h7_, h8_, h9_, h10_, h11_, h12_, h13_, h14_, h15_, h16_, h17_, h18_, h19_, h20_, h21_, h22_, h23_⟩
 have n0_ : Aside0 (w43.heap[gb149]? = some (.cells #[.int .u64 a0_0, .int .u64 a0_1] 40 (0, 0))) := ⟨h0_⟩
 have n1_ : Aside0 (w43.heap[gb155]? = some (.cells #[.int .u64 t151, .int .u64 t152] 40 (0, 0))) := ⟨h1_⟩
 have n2_ : Aside0 (w43.heap[gb159]? = some (.cells #[.int .u64 t156, .int .u64 t157] 40 (0, 0))) := ⟨h2_⟩
 have n3_ : Aside0 (w43.heap[gb164]? = some (.cells #[.int .u64 0, .int .u64 0] 40 (0, 0))) := ⟨h3_⟩
 have n4_ : Aside0 (w43.heap[gb165]? = some (.cells #[.int .u64 0, .int .u64 0] 40 (0, 0))) := ⟨h4_⟩
 have n5_ : Aside0 (w.heap.size ≤ gb164) := ⟨h5_⟩
 have n6_ : Aside0 (w.heap.size ≤ gb164) := ⟨h6_⟩
 have n7_ : Aside0 (gb149 ≠ gb164) := ⟨h7_⟩
 have n8_ : Aside0 (gb164 ≠ gb149) := ⟨h8_⟩
 have n9_ : Aside0 (gb155 ≠ gb164) := ⟨h9_⟩
 have n10_ : Aside0 (gb164 ≠ gb155) := ⟨h10_⟩
 have n11_ : Aside0 (gb159 ≠ gb164) := ⟨h11_⟩
 have n12_ : Aside0 (gb164 ≠ gb159) := ⟨h12_⟩
 have n13_ : Aside0 (gb165 ≠ gb164) := ⟨h13_⟩
 have n14_ : Aside0 (gb164 ≠ gb165) := ⟨h14_⟩
 have n15_ : Aside0 (w.heap.size ≤ gb165) := ⟨h15_⟩
 have n16_ : Aside0 (w.heap.size ≤ gb165) := ⟨h16_⟩
 have n17_ : Aside0 (gb149 ≠ gb165) := ⟨h17_⟩
 have n18_ : Aside0 (gb165 ≠ gb149) := ⟨h18_⟩
 have n19_ : Aside0 (gb155 ≠ gb165) := ⟨h19_⟩
 have n20_ : Aside0 (gb165 ≠ gb155) := ⟨h20_⟩
 have n21_ : Aside0 (gb159 ≠ gb165) := ⟨h21_⟩
 have n22_ : Aside0 (gb165 ≠ gb159) := ⟨h22_⟩
 have n23_ : Aside0 (Below w.heap.size w w43) := ⟨h23_⟩
 clear BK149 BK155 BK159 HB h0_ h1_ h2_ h3_ h4_ h5_ h6_ h7_ h8_ h9_ h10_ h11_ h12_ h13_ h14_ h15_ h16_ h17_ h18_ h19_ h20_ h21_ h22_ h23_
 have BK149 := n0_
 have BK155 := n1_
 have BK159 := n2_
 have BK164 := n3_
 have BK165 := n4_
 have GW164 := n5_
 have GE164 := n6_
 have NB149_164 := n7_
 have NB164_149 := n8_
 have NB155_164 := n9_
 have NB164_155 := n10_
 have NB159_164 := n11_
 have NB164_159 := n12_
 have NB165_164 := n13_
 have NB164_165 := n14_
 have GW165 := n15_
 have GE165 := n16_
 have NB149_165 := n17_
 have NB165_149 := n18_
 have NB155_165 := n19_
 have NB165_155 := n20_
 have NB159_165 := n21_
 have NB165_159 := n22_
 have HB := n23_
 clear n0_ n1_ n2_ n3_ n4_ n5_ n6_ n7_ n8_ n9_ n10_ n11_ n12_ n13_ n14_ n15_ n16_ n17_ n18_ n19_ n20_ n21_ n22_ n23_
 have hHeld : w43.cell? ⟨gb155, 0, none⟩ = some (.int .u64 t151) ∧ w43.cell? ⟨gb155, 1, none⟩ = some (.int .u64 t152) := hS_
 refine norm_ (a' := ?_) ?_ ?_
 rotate_left
 {
 simp only [putAll, Act.put, List.setIfInBounds_toArray, List.set_cons_zero, List.set_cons_succ]
 rfl
 }
 refine one_ (i := 3) (N := some 44) #[true, true, true, true, true, true, true, false, true, true, false, false] rfl rfl (one_of HT_.out (by kernel_rfl)) (by decide) (fun K hK => ?_)
 refine goes_ Try.func19 (by kernel_rfl) rfl #[.int .u64 t152, .int .u64 a1] (by rfl) rfl rfl (by (try simp only [List.map_toArray, List.map_cons, List.map_nil]); first | done | rfl | (simp only [List.length_drop, List.length_take]; rfl)) ?_
 with_reducible refine (wide_Mul.calls t152 a1 t160 t161 _ A17.out).mono ?_
 rintro e w44 ⟨rfl, hb⟩
 refine ⟨_, rfl, ?_⟩
 have n0_ := Aside0.mk (blk_below (g := gb149) (o := .cells #[.int .u64 a0_0, .int .u64 a0_1] 40 (0, 0)) (by (with_reducible repeat (first | refine blk_drewN ?_ _ | refine blk_drew ?_ | refine blk_alloc ?_ _)); exact BK149.out) hb)
 have n1_ := Aside0.mk (blk_below (g := gb155) (o := .cells #[.int .u64 t151, .int .u64 t152] 40 (0, 0)) (by (with_reducible repeat (first | refine blk_drewN ?_ _ | refine blk_drew ?_ | refine blk_alloc ?_ _)); exact BK155.out) hb)
 have n2_ := Aside0.mk (blk_below (g := gb159) (o := .cells #[.int .u64 t156, .int .u64 t157] 40 (0, 0)) (by (with_reducible repeat (first | refine blk_drewN ?_ _ | refine blk_drew ?_ | refine blk_alloc ?_ _)); exact BK159.out) hb)
 have n3_ := Aside0.mk (blk_below (g := gb164) (o := .cells #[.int .u64 0, .int .u64 0] 40 (0, 0)) (by (with_reducible repeat (first | refine blk_drewN ?_ _ | refine blk_drew ?_ | refine blk_alloc ?_ _)); exact BK164.out) hb)
 have n4_ := Aside0.mk (blk_below (g := gb165) (o := .cells #[.int .u64 0, .int .u64 0] 40 (0, 0)) (by (with_reducible repeat (first | refine blk_drewN ?_ _ | refine blk_drew ?_ | refine blk_alloc ?_ _)); exact BK165.out) hb)
 have n5_ := Aside0.mk (below_step (by repeat (first | (with_reducible first | exact HB.out | apply below_alloc | apply pw_below_drewN | apply below_drew1 | refine below_set ?_ GE149.out | refine below_set ?_ GE155.out | refine below_set ?_ GE159.out | refine below_set ?_ GE164.out | refine below_set ?_ GE165.out) | exact HB.out)) hb)
 clear BK149 BK155 BK159 BK164 BK165 HB
 have BK149 := n0_
 have BK155 := n1_
 have BK159 := n2_
 have BK164 := n3_
 have BK165 := n4_
 have HB := n5_
 clear n0_ n1_ n2_ n3_ n4_ n5_
 (try clear hb)
 (try clear hb2)
 (try clear hk)
 (try clear hi)
 refine hK.out _ _ ⟨(blk_cell BK155.out 0).trans rfl, (blk_cell BK155.out 1).trans rfl⟩ (fun hHeld => ?_)
 clear hK K
 refine norm_ (a' := ?_) ?_ ?_
 rotate_left
 {
 show Act.put _ (some 44) _ = _
 simp only [Act.put, List.setIfInBounds_toArray, List.set_cons_zero, List.set_cons_succ, i64_w, i32_w]
 rfl
 }
 exact norm_ (by first | (simp only [putAll, Act.put, List.setIfInBounds_toArray, List.set_cons_zero, List.set_cons_succ]; done) | (simp only [putAll, Act.put, List.setIfInBounds_toArray, List.set_cons_zero, List.set_cons_succ]; rfl)) (hJ3_8_9 (gb164, gb165) _ ⟨hHeld, (by (with_reducible repeat (first | refine blk_drewN ?_ _ | refine blk_drew ?_ | refine blk_alloc ?_ _)); exact BK149.out), (by (with_reducible repeat (first | refine blk_drewN ?_ _ | refine blk_drew ?_ | refine blk_alloc ?_ _)); exact BK155.out), (by (with_reducible repeat (first | refine blk_drewN ?_ _ | refine blk_drew ?_ | refine blk_alloc ?_ _)); exact BK159.out), (by (with_reducible repeat (first | refine blk_drewN ?_ _ | refine blk_drew ?_ | refine blk_alloc ?_ _)); exact BK164.out), (by (with_reducible repeat (first | refine blk_drewN ?_ _ | refine blk_drew ?_ | refine blk_alloc ?_ _)); exact BK165.out), GW164.out, GE164.out, NB149_164.out, NB164_149.out, NB155_164.out, NB164_155.out, NB159_164.out, NB164_159.out, NB165_164.out, NB164_165.out, GW165.out, GE165.out, NB149_165.out, NB165_149.out, NB155_165.out, NB165_155.out, NB159_165.out, NB165_159.out, (by repeat (first | (with_reducible first | exact HB.out | apply below_alloc | apply pw_below_drewN | apply below_drew1 | refine below_set ?_ GE149.out | refine below_set ?_ GE155.out | refine below_set ?_ GE159.out | refine below_set ?_ GE164.out | refine below_set ?_ GE165.out) | exact HB.out))⟩)
 }}
 {
 skip
 rintro gb165 w43 ⟨hS_, h0_, h1_, h2_, h3_, h4_, h5_, h6_, h7_, h8_, h9_, h10_, h11_, h12_⟩
 have n0_ : Aside0 (w43.heap[gb149]? = some (.cells #[.int .u64 a0_0, .int .u64 a0_1] 40 (0, 0))) := ⟨h0_⟩
 have n1_ : Aside0 (w43.heap[gb155]? = some (.cells #[.int .u64 t151, .int .u64 t152] 40 (0, 0))) := ⟨h1_⟩
 have n2_ : Aside0 (w43.heap[gb159]? = some (.cells #[.int .u64 t156, .int .u64 t157] 40 (0, 0))) := ⟨h2_⟩
 have n3_ : Aside0 (w43.heap[gb165]? = some (.cells #[.int .u64 0, .int .u64 0] 40 (0, 0))) := ⟨h3_⟩
 have n4_ : Aside0 (w.heap.size ≤ gb165) := ⟨h4_⟩
 have n5_ : Aside0 (w.heap.size ≤ gb165) := ⟨h5_⟩
 have n6_ : Aside0 (gb149 ≠ gb165) := ⟨h6_⟩
 have n7_ : Aside0 (gb165 ≠ gb149) := ⟨h7_⟩
 have n8_ : Aside0 (gb155 ≠ gb165) := ⟨h8_⟩
 have n9_ : Aside0 (gb165 ≠ gb155) := ⟨h9_⟩
 have n10_ : Aside0 (gb159 ≠ gb165) := ⟨h10_⟩
 have n11_ : Aside0 (gb165 ≠ gb159) := ⟨h11_⟩
 have n12_ : Aside0 (Below w.heap.size w w43) := ⟨h12_⟩
 clear BK149 BK155 BK159 HB h0_ h1_ h2_ h3_ h4_ h5_ h6_ h7_ h8_ h9_ h10_ h11_ h12_
 have BK149 := n0_
 have BK155 := n1_
 have BK159 := n2_
 have BK165 := n3_
 have GW165 := n4_
 have GE165 := n5_
 have NB149_165 := n6_
 have NB165_149 := n7_
 have NB155_165 := n8_
 have NB165_155 := n9_
 have NB159_165 := n10_
 have NB165_159 := n11_
 have HB := n12_
 clear n0_ n1_ n2_ n3_ n4_ n5_ n6_ n7_ n8_ n9_ n10_ n11_ n12_
 have hHeld : w43.cell? ⟨gb155, 0, none⟩ = some (.int .u64 t151) ∧ w43.cell? ⟨gb155, 1, none⟩ = some (.int .u64 t152) := hS_
 refine norm_ (a' := ?_) ?_ ?_
 rotate_left
 {
 simp only [putAll, Act.put, List.setIfInBounds_toArray, List.set_cons_zero, List.set_cons_succ]
 rfl
 }
 refine two_ (i := 7) (j := 8) (Ni := some 48) (Nj := some 10) #[true, true, true, true, true, true, true, true, false, true, false, false] #[true, true, true, true, true, true, true, false, true, true, false, false] rfl rfl rfl rfl (two_of HT_.out (by kernel_rfl)) (by decide) (by decide) (fun K hK => ?_) (fun K hK => ?_)
 {
 skip
 refine goes_ Try.func19 (by kernel_rfl) rfl #[.int .u64 t151, .int .u64 a1] (by rfl) rfl rfl (by (try simp only [List.map_toArray, List.map_cons, List.map_nil]); first | done | rfl | (simp only [List.length_drop, List.length_take]; rfl)) ?_
 with_reducible refine (wide_Mul.calls t151 a1 t162 t163 _ A18.out).mono ?_
 rintro e w44 ⟨rfl, hb⟩
 refine ⟨_, rfl, ?_⟩
 have n0_ := Aside0.mk (blk_below (g := gb149) (o := .cells #[.int .u64 a0_0, .int .u64 a0_1] 40 (0, 0)) (by (with_reducible repeat (first | refine blk_drewN ?_ _ | refine blk_drew ?_ | refine blk_alloc ?_ _)); exact BK149.out) hb)
 have n1_ := Aside0.mk (blk_below (g := gb155) (o := .cells #[.int .u64 t151, .int .u64 t152] 40 (0, 0)) (by (with_reducible repeat (first | refine blk_drewN ?_ _ | refine blk_drew ?_ | refine blk_alloc ?_ _)); exact BK155.out) hb)
 have n2_ := Aside0.mk (blk_below (g := gb159) (o := .cells #[.int .u64 t156, .int .u64 t157] 40 (0, 0)) (by (with_reducible repeat (first | refine blk_drewN ?_ _ | refine blk_drew ?_ | refine blk_alloc ?_ _)); exact BK159.out) hb)
 have n3_ := Aside0.mk (blk_below (g := gb165) (o := .cells #[.int .u64 0, .int .u64 0] 40 (0, 0)) (by (with_reducible repeat (first | refine blk_drewN ?_ _ | refine blk_drew ?_ | refine blk_alloc ?_ _)); exact BK165.out) hb)
 have n4_ := Aside0.mk (below_step (by repeat (first | (with_reducible first | exact HB.out | apply below_alloc | apply pw_below_drewN | apply below_drew1 | refine below_set ?_ GE149.out | refine below_set ?_ GE155.out | refine below_set ?_ GE159.out | refine below_set ?_ GE165.out) | exact HB.out)) hb)
 clear BK149 BK155 BK159 BK165 HB
 have BK149 := n0_
 have BK155 := n1_
 have BK159 := n2_
 have BK165 := n3_
 have HB := n4_
 clear n0_ n1_ n2_ n3_ n4_
 (try clear hb)
 (try clear hb2)
 (try clear hk)
 (try clear hi)
 refine hK.out _ _ ⟨(blk_cell BK155.out 0).trans rfl, (blk_cell BK155.out 1).trans rfl⟩ (fun hHeld => ?_)
 clear hK K
 refine norm_ (a' := ?_) ?_ ?_
 rotate_left
 {
 show Act.put _ (some 48) _ = _
 simp only [Act.put, List.setIfInBounds_toArray, List.set_cons_zero, List.set_cons_succ, i64_w, i32_w]
 rfl
 }
 exact norm_ (by first | (simp only [putAll, Act.put, List.setIfInBounds_toArray, List.set_cons_zero, List.set_cons_succ]; done) | (simp only [putAll, Act.put, List.setIfInBounds_toArray, List.set_cons_zero, List.set_cons_succ]; rfl)) (hJ3_7_9 (gb165) _ ⟨hHeld, (by (with_reducible repeat (first | refine blk_drewN ?_ _ | refine blk_drew ?_ | refine blk_alloc ?_ _)); exact BK149.out), (by (with_reducible repeat (first | refine blk_drewN ?_ _ | refine blk_drew ?_ | refine blk_alloc ?_ _)); exact BK155.out), (by (with_reducible repeat (first | refine blk_drewN ?_ _ | refine blk_drew ?_ | refine blk_alloc ?_ _)); exact BK159.out), (by (with_reducible repeat (first | refine blk_drewN ?_ _ | refine blk_drew ?_ | refine blk_alloc ?_ _)); exact BK165.out), GW165.out, GE165.out, NB149_165.out, NB165_149.out, NB155_165.out, NB165_155.out, NB159_165.out, NB165_159.out, (by repeat (first | (with_reducible first | exact HB.out | apply below_alloc | apply pw_below_drewN | apply below_drew1 | refine below_set ?_ GE149.out | refine below_set ?_ GE155.out | refine below_set ?_ GE159.out | refine below_set ?_ GE165.out) | exact HB.out))⟩)
 }
 {
 skip
 refine box_step ?hg (N := 10) ?hd (cs := #[.int .u64 0, .int .u64 0]) (t := 40) ?hr ?_; (case hd => rfl); (case hg => rfl); (case hr => first | (go_simp; done) | (go_simp; rfl))
 intro gb164 hg w44 hbox hb
 have n0_ := Aside0.mk (blk_below (g := gb149) (o := .cells #[.int .u64 a0_0, .int .u64 a0_1] 40 (0, 0)) (by (with_reducible repeat (first | refine blk_drewN ?_ _ | refine blk_drew ?_ | refine blk_alloc ?_ _)); exact BK149.out) hb)
 have n1_ := Aside0.mk (blk_below (g := gb155) (o := .cells #[.int .u64 t151, .int .u64 t152] 40 (0, 0)) (by (with_reducible repeat (first | refine blk_drewN ?_ _ | refine blk_drew ?_ | refine blk_alloc ?_ _)); exact BK155.out) hb)
 have n2_ := Aside0.mk (blk_below (g := gb159) (o := .cells #[.int .u64 t156, .int .u64 t157] 40 (0, 0)) (by (with_reducible repeat (first | refine blk_drewN ?_ _ | refine blk_drew ?_ | refine blk_alloc ?_ _)); exact BK159.out) hb)
 have n3_ := Aside0.mk (blk_below (g := gb165) (o := .cells #[.int .u64 0, .int .u64 0] 40 (0, 0)) (by (with_reducible repeat (first | refine blk_drewN ?_ _ | refine blk_drew ?_ | refine blk_alloc ?_ _)); exact BK165.out) hb)
 have n4_ := Aside0.mk (below_step (by repeat (first | (with_reducible first | exact HB.out | apply below_alloc | apply pw_below_drewN | apply below_drew1 | refine below_set ?_ GE149.out | refine below_set ?_ GE155.out | refine below_set ?_ GE159.out | refine below_set ?_ GE165.out) | exact HB.out)) hb)
 have n5_ := Aside0.mk (hbox)
 have n6_ := Aside0.mk ((by rw [hg]; exact (below_size (by repeat (first | (with_reducible first | exact HB.out | apply below_alloc | apply pw_below_drewN | apply below_drew1 | refine below_set ?_ GE149.out | refine below_set ?_ GE155.out | refine below_set ?_ GE159.out | refine below_set ?_ GE165.out) | exact HB.out))) : w.heap.size ≤ gb164))
 have n7_ := Aside0.mk ((by rw [hg]; exact (below_size (by repeat (first | (with_reducible first | exact HB.out | apply below_alloc | apply pw_below_drewN | apply below_drew1 | refine below_set ?_ GE149.out | refine below_set ?_ GE155.out | refine below_set ?_ GE159.out | refine below_set ?_ GE165.out) | exact HB.out))) : w.heap.size ≤ gb164))
 have n8_ := Aside0.mk ((by rw [hg]; exact Nat.ne_of_lt (blk_lt (g := gb149) (o := .cells #[.int .u64 a0_0, .int .u64 a0_1] 40 (0, 0)) (by (with_reducible repeat (first | refine blk_drewN ?_ _ | refine blk_drew ?_ | refine blk_alloc ?_ _)); exact BK149.out)) : gb149 ≠ gb164))
 have n9_ := Aside0.mk ((by rw [hg]; exact Nat.ne_of_gt (blk_lt (g := gb149) (o := .cells #[.int .u64 a0_0, .int .u64 a0_1] 40 (0, 0)) (by (with_reducible repeat (first | refine blk_drewN ?_ _ | refine blk_drew ?_ | refine blk_alloc ?_ _)); exact BK149.out)) : gb164 ≠ gb149))
 have n10_ := Aside0.mk ((by rw [hg]; exact Nat.ne_of_lt (blk_lt (g := gb155) (o := .cells #[.int .u64 t151, .int .u64 t152] 40 (0, 0)) (by (with_reducible repeat (first | refine blk_drewN ?_ _ | refine blk_drew ?_ | refine blk_alloc ?_ _)); exact BK155.out)) : gb155 ≠ gb164))
 have n11_ := Aside0.mk ((by rw [hg]; exact Nat.ne_of_gt (blk_lt (g := gb155) (o := .cells #[.int .u64 t151, .int .u64 t152] 40 (0, 0)) (by (with_reducible repeat (first | refine blk_drewN ?_ _ | refine blk_drew ?_ | refine blk_alloc ?_ _)); exact BK155.out)) : gb164 ≠ gb155))
 have n12_ := Aside0.mk ((by rw [hg]; exact Nat.ne_of_lt (blk_lt (g := gb159) (o := .cells #[.int .u64 t156, .int .u64 t157] 40 (0, 0)) (by (with_reducible repeat (first | refine blk_drewN ?_ _ | refine blk_drew ?_ | refine blk_alloc ?_ _)); exact BK159.out)) : gb159 ≠ gb164))
 have n13_ := Aside0.mk ((by rw [hg]; exact Nat.ne_of_gt (blk_lt (g := gb159) (o := .cells #[.int .u64 t156, .int .u64 t157] 40 (0, 0)) (by (with_reducible repeat (first | refine blk_drewN ?_ _ | refine blk_drew ?_ | refine blk_alloc ?_ _)); exact BK159.out)) : gb164 ≠ gb159))
 have n14_ := Aside0.mk ((by rw [hg]; exact Nat.ne_of_lt (blk_lt (g := gb165) (o := .cells #[.int .u64 0, .int .u64 0] 40 (0, 0)) (by (with_reducible repeat (first | refine blk_drewN ?_ _ | refine blk_drew ?_ | refine blk_alloc ?_ _)); exact BK165.out)) : gb165 ≠ gb164))
 have n15_ := Aside0.mk ((by rw [hg]; exact Nat.ne_of_gt (blk_lt (g := gb165) (o := .cells #[.int .u64 0, .int .u64 0] 40 (0, 0)) (by (with_reducible repeat (first | refine blk_drewN ?_ _ | refine blk_drew ?_ | refine blk_alloc ?_ _)); exact BK165.out)) : gb164 ≠ gb165))
 clear BK149 BK155 BK159 BK165 HB
 have BK149 := n0_
 have BK155 := n1_
 have BK159 := n2_
 have BK165 := n3_
 have HB := n4_
 have BK164 := n5_
 have GW164 := n6_
 have GE164 := n7_
 have NB149_164 := n8_
 have NB164_149 := n9_
 have NB155_164 := n10_
 have NB164_155 := n11_
 have NB159_164 := n12_
 have NB164_159 := n13_
 have NB165_164 := n14_
 have NB164_165 := n15_
 clear n0_ n1_ n2_ n3_ n4_ n5_ n6_ n7_ n8_ n9_ n10_ n11_ n12_ n13_ n14_ n15_ hb hbox hg
 refine hK.out _ _ ⟨(blk_cell BK155.out 0).trans rfl, (blk_cell BK155.out 1).trans rfl⟩ (fun hHeld => ?_)
 clear hK K
 refine norm_ (a' := ?_) ?_ ?_
 rotate_left
 {
 show Act.put _ (some 10) _ = _
 simp only [Act.put, List.setIfInBounds_toArray, List.set_cons_zero, List.set_cons_succ, i64_w, i32_w]
 rfl
 }
 exact norm_ (by first | (simp only [putAll, Act.put, List.setIfInBounds_toArray, List.set_cons_zero, List.set_cons_succ]; done) | (simp only [putAll, Act.put, List.setIfInBounds_toArray, List.set_cons_zero, List.set_cons_succ]; rfl)) (hJ3_8_9 (gb164, gb165) _ ⟨hHeld, (by (with_reducible repeat (first | refine blk_drewN ?_ _ | refine blk_drew ?_ | refine blk_alloc ?_ _)); exact BK149.out), (by (with_reducible repeat (first | refine blk_drewN ?_ _ | refine blk_drew ?_ | refine blk_alloc ?_ _)); exact BK155.out), (by (with_reducible repeat (first | refine blk_drewN ?_ _ | refine blk_drew ?_ | refine blk_alloc ?_ _)); exact BK159.out), (by (with_reducible repeat (first | refine blk_drewN ?_ _ | refine blk_drew ?_ | refine blk_alloc ?_ _)); exact BK164.out), (by (with_reducible repeat (first | refine blk_drewN ?_ _ | refine blk_drew ?_ | refine blk_alloc ?_ _)); exact BK165.out), GW164.out, GE164.out, NB149_164.out, NB164_149.out, NB155_164.out, NB164_155.out, NB159_164.out, NB164_159.out, NB165_164.out, NB164_165.out, GW165.out, GE165.out, NB149_165.out, NB165_149.out, NB155_165.out, NB165_155.out, NB159_165.out, NB165_159.out, (by repeat (first | (with_reducible first | exact HB.out | apply below_alloc | apply pw_below_drewN | apply below_drew1 | refine below_set ?_ GE149.out | refine below_set ?_ GE155.out | refine below_set ?_ GE159.out | refine below_set ?_ GE165.out | refine below_set ?_ GE164.out) | exact HB.out))⟩)
 }}}
 {
 skip
 rintro gb164 w43 ⟨hS_, h0_, h1_, h2_, h3_, h4_, h5_, h6_, h7_, h8_, h9_, h10_, h11_, h12_⟩
 have n0_ : Aside0 (w43.heap[gb149]? = some (.cells #[.int .u64 a0_0, .int .u64 a0_1] 40 (0, 0))) := ⟨h0_⟩
 have n1_ : Aside0 (w43.heap[gb155]? = some (.cells #[.int .u64 t151, .int .u64 t152] 40 (0, 0))) := ⟨h1_⟩
 have n2_ : Aside0 (w43.heap[gb159]? = some (.cells #[.int .u64 t156, .int .u64 t157] 40 (0, 0))) := ⟨h2_⟩
 have n3_ : Aside0 (w43.heap[gb164]? = some (.cells #[.int .u64 0, .int .u64 0] 40 (0, 0))) := ⟨h3_⟩
 have n4_ : Aside0 (w.heap.size ≤ gb164) := ⟨h4_⟩
 have n5_ : Aside0 (w.heap.size ≤ gb164) := ⟨h5_⟩
 have n6_ : Aside0 (gb149 ≠ gb164) := ⟨h6_⟩
 have n7_ : Aside0 (gb164 ≠ gb149) := ⟨h7_⟩
 have n8_ : Aside0 (gb155 ≠ gb164) := ⟨h8_⟩
 have n9_ : Aside0 (gb164 ≠ gb155) := ⟨h9_⟩
 have n10_ : Aside0 (gb159 ≠ gb164) := ⟨h10_⟩
 have n11_ : Aside0 (gb164 ≠ gb159) := ⟨h11_⟩
 have n12_ : Aside0 (Below w.heap.size w w43) := ⟨h12_⟩
 clear BK149 BK155 BK159 HB h0_ h1_ h2_ h3_ h4_ h5_ h6_ h7_ h8_ h9_ h10_ h11_ h12_
 have BK149 := n0_
 have BK155 := n1_
 have BK159 := n2_
 have BK164 := n3_
 have GW164 := n4_
 have GE164 := n5_
 have NB149_164 := n6_
 have NB164_149 := n7_
 have NB155_164 := n8_
 have NB164_155 := n9_
 have NB159_164 := n10_
 have NB164_159 := n11_
 have HB := n12_
 clear n0_ n1_ n2_ n3_ n4_ n5_ n6_ n7_ n8_ n9_ n10_ n11_ n12_
 have hHeld : w43.cell? ⟨gb155, 0, none⟩ = some (.int .u64 t151) ∧ w43.cell? ⟨gb155, 1, none⟩ = some (.int .u64 t152) := hS_
 refine norm_ (a' := ?_) ?_ ?_
 rotate_left
 {
 simp only [putAll, Act.put, List.setIfInBounds_toArray, List.set_cons_zero, List.set_cons_succ]
 rfl
 }
 refine two_ (i := 7) (j := 9) (Ni := some 48) (Nj := some 11) #[true, true, true, true, true, true, true, true, true, false, false, false] #[true, true, true, true, true, true, true, false, true, true, false, false] rfl rfl rfl rfl (two_of HT_.out (by kernel_rfl)) (by decide) (by decide) (fun K hK => ?_) (fun K hK => ?_)
 {
 skip
 refine goes_ Try.func19 (by kernel_rfl) rfl #[.int .u64 t151, .int .u64 a1] (by rfl) rfl rfl (by (try simp only [List.map_toArray, List.map_cons, List.map_nil]); first | done | rfl | (simp only [List.length_drop, List.length_take]; rfl)) ?_
 with_reducible refine (wide_Mul.calls t151 a1 t162 t163 _ A18.out).mono ?_
 rintro e w44 ⟨rfl, hb⟩
 refine ⟨_, rfl, ?_⟩
 have n0_ := Aside0.mk (blk_below (g := gb149) (o := .cells #[.int .u64 a0_0, .int .u64 a0_1] 40 (0, 0)) (by (with_reducible repeat (first | refine blk_drewN ?_ _ | refine blk_drew ?_ | refine blk_alloc ?_ _)); exact BK149.out) hb)
 have n1_ := Aside0.mk (blk_below (g := gb155) (o := .cells #[.int .u64 t151, .int .u64 t152] 40 (0, 0)) (by (with_reducible repeat (first | refine blk_drewN ?_ _ | refine blk_drew ?_ | refine blk_alloc ?_ _)); exact BK155.out) hb)
 have n2_ := Aside0.mk (blk_below (g := gb159) (o := .cells #[.int .u64 t156, .int .u64 t157] 40 (0, 0)) (by (with_reducible repeat (first | refine blk_drewN ?_ _ | refine blk_drew ?_ | refine blk_alloc ?_ _)); exact BK159.out) hb)
 have n3_ := Aside0.mk (blk_below (g := gb164) (o := .cells #[.int .u64 0, .int .u64 0] 40 (0, 0)) (by (with_reducible repeat (first | refine blk_drewN ?_ _ | refine blk_drew ?_ | refine blk_alloc ?_ _)); exact BK164.out) hb)
 have n4_ := Aside0.mk (below_step (by repeat (first | (with_reducible first | exact HB.out | apply below_alloc | apply pw_below_drewN | apply below_drew1 | refine below_set ?_ GE149.out | refine below_set ?_ GE155.out | refine below_set ?_ GE159.out | refine below_set ?_ GE164.out) | exact HB.out)) hb)
 clear BK149 BK155 BK159 BK164 HB
 have BK149 := n0_
 have BK155 := n1_
 have BK159 := n2_
 have BK164 := n3_
 have HB := n4_
 clear n0_ n1_ n2_ n3_ n4_
 (try clear hb)
 (try clear hb2)
 (try clear hk)
 (try clear hi)
 refine hK.out _ _ ⟨(blk_cell BK155.out 0).trans rfl, (blk_cell BK155.out 1).trans rfl⟩ (fun hHeld => ?_)
 clear hK K
 refine norm_ (a' := ?_) ?_ ?_
 rotate_left
 {
 show Act.put _ (some 48) _ = _
 simp only [Act.put, List.setIfInBounds_toArray, List.set_cons_zero, List.set_cons_succ, i64_w, i32_w]
 rfl
 }
 exact norm_ (by first | (simp only [putAll, Act.put, List.setIfInBounds_toArray, List.set_cons_zero, List.set_cons_succ]; done) | (simp only [putAll, Act.put, List.setIfInBounds_toArray, List.set_cons_zero, List.set_cons_succ]; rfl)) (hJ3_7_8 (gb164) _ ⟨hHeld, (by (with_reducible repeat (first | refine blk_drewN ?_ _ | refine blk_drew ?_ | refine blk_alloc ?_ _)); exact BK149.out), (by (with_reducible repeat (first | refine blk_drewN ?_ _ | refine blk_drew ?_ | refine blk_alloc ?_ _)); exact BK155.out), (by (with_reducible repeat (first | refine blk_drewN ?_ _ | refine blk_drew ?_ | refine blk_alloc ?_ _)); exact BK159.out), (by (with_reducible repeat (first | refine blk_drewN ?_ _ | refine blk_drew ?_ | refine blk_alloc ?_ _)); exact BK164.out), GW164.out, GE164.out, NB149_164.out, NB164_149.out, NB155_164.out, NB164_155.out, NB159_164.out, NB164_159.out, (by repeat (first | (with_reducible first | exact HB.out | apply below_alloc | apply pw_below_drewN | apply below_drew1 | refine below_set ?_ GE149.out | refine below_set ?_ GE155.out | refine below_set ?_ GE159.out | refine below_set ?_ GE164.out) | exact HB.out))⟩)
 }
 {
 skip
 refine box_step ?hg (N := 11) ?hd (cs := #[.int .u64 0, .int .u64 0]) (t := 40) ?hr ?_; (case hd => rfl); (case hg => rfl); (case hr => first | (go_simp; done) | (go_simp; rfl))
 intro gb165 hg w44 hbox hb
 have n0_ := Aside0.mk (blk_below (g := gb149) (o := .cells #[.int .u64 a0_0, .int .u64 a0_1] 40 (0, 0)) (by (with_reducible repeat (first | refine blk_drewN ?_ _ | refine blk_drew ?_ | refine blk_alloc ?_ _)); exact BK149.out) hb)
 have n1_ := Aside0.mk (blk_below (g := gb155) (o := .cells #[.int .u64 t151, .int .u64 t152] 40 (0, 0)) (by (with_reducible repeat (first | refine blk_drewN ?_ _ | refine blk_drew ?_ | refine blk_alloc ?_ _)); exact BK155.out) hb)
 have n2_ := Aside0.mk (blk_below (g := gb159) (o := .cells #[.int .u64 t156, .int .u64 t157] 40 (0, 0)) (by (with_reducible repeat (first | refine blk_drewN ?_ _ | refine blk_drew ?_ | refine blk_alloc ?_ _)); exact BK159.out) hb)
 have n3_ := Aside0.mk (blk_below (g := gb164) (o := .cells #[.int .u64 0, .int .u64 0] 40 (0, 0)) (by (with_reducible repeat (first | refine blk_drewN ?_ _ | refine blk_drew ?_ | refine blk_alloc ?_ _)); exact BK164.out) hb)
 have n4_ := Aside0.mk (below_step (by repeat (first | (with_reducible first | exact HB.out | apply below_alloc | apply pw_below_drewN | apply below_drew1 | refine below_set ?_ GE149.out | refine below_set ?_ GE155.out | refine below_set ?_ GE159.out | refine below_set ?_ GE164.out) | exact HB.out)) hb)
 have n5_ := Aside0.mk (hbox)
 have n6_ := Aside0.mk ((by rw [hg]; exact (below_size (by repeat (first | (with_reducible first | exact HB.out | apply below_alloc | apply pw_below_drewN | apply below_drew1 | refine below_set ?_ GE149.out | refine below_set ?_ GE155.out | refine below_set ?_ GE159.out | refine below_set ?_ GE164.out) | exact HB.out))) : w.heap.size ≤ gb165))
 have n7_ := Aside0.mk ((by rw [hg]; exact (below_size (by repeat (first | (with_reducible first | exact HB.out | apply below_alloc | apply pw_below_drewN | apply below_drew1 | refine below_set ?_ GE149.out | refine below_set ?_ GE155.out | refine below_set ?_ GE159.out | refine below_set ?_ GE164.out) | exact HB.out))) : w.heap.size ≤ gb165))
 have n8_ := Aside0.mk ((by rw [hg]; exact Nat.ne_of_lt (blk_lt (g := gb149) (o := .cells #[.int .u64 a0_0, .int .u64 a0_1] 40 (0, 0)) (by (with_reducible repeat (first | refine blk_drewN ?_ _ | refine blk_drew ?_ | refine blk_alloc ?_ _)); exact BK149.out)) : gb149 ≠ gb165))
 have n9_ := Aside0.mk ((by rw [hg]; exact Nat.ne_of_gt (blk_lt (g := gb149) (o := .cells #[.int .u64 a0_0, .int .u64 a0_1] 40 (0, 0)) (by (with_reducible repeat (first | refine blk_drewN ?_ _ | refine blk_drew ?_ | refine blk_alloc ?_ _)); exact BK149.out)) : gb165 ≠ gb149))
 have n10_ := Aside0.mk ((by rw [hg]; exact Nat.ne_of_lt (blk_lt (g := gb155) (o := .cells #[.int .u64 t151, .int .u64 t152] 40 (0, 0)) (by (with_reducible repeat (first | refine blk_drewN ?_ _ | refine blk_drew ?_ | refine blk_alloc ?_ _)); exact BK155.out)) : gb155 ≠ gb165))
 have n11_ := Aside0.mk ((by rw [hg]; exact Nat.ne_of_gt (blk_lt (g := gb155) (o := .cells #[.int .u64 t151, .int .u64 t152] 40 (0, 0)) (by (with_reducible repeat (first | refine blk_drewN ?_ _ | refine blk_drew ?_ | refine blk_alloc ?_ _)); exact BK155.out)) : gb165 ≠ gb155))
 have n12_ := Aside0.mk ((by rw [hg]; exact Nat.ne_of_lt (blk_lt (g := gb159) (o := .cells #[.int .u64 t156, .int .u64 t157] 40 (0, 0)) (by (with_reducible repeat (first | refine blk_drewN ?_ _ | refine blk_drew ?_ | refine blk_alloc ?_ _)); exact BK159.out)) : gb159 ≠ gb165))
 have n13_ := Aside0.mk ((by rw [hg]; exact Nat.ne_of_gt (blk_lt (g := gb159) (o := .cells #[.int .u64 t156, .int .u64 t157] 40 (0, 0)) (by (with_reducible repeat (first | refine blk_drewN ?_ _ | refine blk_drew ?_ | refine blk_alloc ?_ _)); exact BK159.out)) : gb165 ≠ gb159))
 have n14_ := Aside0.mk ((by rw [hg]; exact Nat.ne_of_lt (blk_lt (g := gb164) (o := .cells #[.int .u64 0, .int .u64 0] 40 (0, 0)) (by (with_reducible repeat (first | refine blk_drewN ?_ _ | refine blk_drew ?_ | refine blk_alloc ?_ _)); exact BK164.out)) : gb164 ≠ gb165))
 have n15_ := Aside0.mk ((by rw [hg]; exact Nat.ne_of_gt (blk_lt (g := gb164) (o := .cells #[.int .u64 0, .int .u64 0] 40 (0, 0)) (by (with_reducible repeat (first | refine blk_drewN ?_ _ | refine blk_drew ?_ | refine blk_alloc ?_ _)); exact BK164.out)) : gb165 ≠ gb164))
 clear BK149 BK155 BK159 BK164 HB
 have BK149 := n0_
 have BK155 := n1_
 have BK159 := n2_
 have BK164 := n3_
 have HB := n4_
 have BK165 := n5_
 have GW165 := n6_
 have GE165 := n7_
 have NB149_165 := n8_
 have NB165_149 := n9_
 have NB155_165 := n10_
 have NB165_155 := n11_
 have NB159_165 := n12_
 have NB165_159 := n13_
 have NB164_165 := n14_
 have NB165_164 := n15_
 clear n0_ n1_ n2_ n3_ n4_ n5_ n6_ n7_ n8_ n9_ n10_ n11_ n12_ n13_ n14_ n15_ hb hbox hg
 refine hK.out _ _ ⟨(blk_cell BK155.out 0).trans rfl, (blk_cell BK155.out 1).trans rfl⟩ (fun hHeld => ?_)
 clear hK K
 refine norm_ (a' := ?_) ?_ ?_
 rotate_left
 {
 show Act.put _ (some 11) _ = _
 simp only [Act.put, List.setIfInBounds_toArray, List.set_cons_zero, List.set_cons_succ, i64_w, i32_w]
 rfl
 }
 exact norm_ (by first | (simp only [putAll, Act.put, List.setIfInBounds_toArray, List.set_cons_zero, List.set_cons_succ]; done) | (simp only [putAll, Act.put, List.setIfInBounds_toArray, List.set_cons_zero, List.set_cons_succ]; rfl)) (hJ3_8_9 (gb164, gb165) _ ⟨hHeld, (by (with_reducible repeat (first | refine blk_drewN ?_ _ | refine blk_drew ?_ | refine blk_alloc ?_ _)); exact BK149.out), (by (with_reducible repeat (first | refine blk_drewN ?_ _ | refine blk_drew ?_ | refine blk_alloc ?_ _)); exact BK155.out), (by (with_reducible repeat (first | refine blk_drewN ?_ _ | refine blk_drew ?_ | refine blk_alloc ?_ _)); exact BK159.out), (by (with_reducible repeat (first | refine blk_drewN ?_ _ | refine blk_drew ?_ | refine blk_alloc ?_ _)); exact BK164.out), (by (with_reducible repeat (first | refine blk_drewN ?_ _ | refine blk_drew ?_ | refine blk_alloc ?_ _)); exact BK165.out), GW164.out, GE164.out, NB149_164.out, NB164_149.out, NB155_164.out, NB164_155.out, NB159_164.out, NB164_159.out, NB165_164.out, NB164_165.out, GW165.out, GE165.out, NB149_165.out, NB165_149.out, NB155_165.out, NB165_155.out, NB159_165.out, NB165_159.out, (by repeat (first | (with_reducible first | exact HB.out | apply below_alloc | apply pw_below_drewN | apply below_drew1 | refine below_set ?_ GE149.out | refine below_set ?_ GE155.out | refine below_set ?_ GE159.out | refine below_set ?_ GE164.out | refine below_set ?_ GE165.out) | exact HB.out))⟩)
 }}}
 {
 skip
 rintro _ w43 ⟨hS_, h0_, h1_, h2_, h3_⟩
 have n0_ : Aside0 (w43.heap[gb149]? = some (.cells #[.int .u64 a0_0, .int .u64 a0_1] 40 (0, 0))) := ⟨h0_⟩
 have n1_ : Aside0 (w43.heap[gb155]? = some (.cells #[.int .u64 t151, .int .u64 t152] 40 (0, 0))) := ⟨h1_⟩
 have n2_ : Aside0 (w43.heap[gb159]? = some (.cells #[.int .u64 t156, .int .u64 t157] 40 (0, 0))) := ⟨h2_⟩
 have n3_ : Aside0 (Below w.heap.size w w43) := ⟨h3_⟩
 clear BK149 BK155 BK159 HB h0_ h1_ h2_ h3_
 have BK149 := n0_
 have BK155 := n1_
 have BK159 := n2_
 have HB := n3_
 clear n0_ n1_ n2_ n3_
 have hHeld : w43.cell? ⟨gb155, 0, none⟩ = some (.int .u64 t151) ∧ w43.cell? ⟨gb155, 1, none⟩ = some (.int .u64 t152) := hS_
 refine norm_ (a' := ?_) ?_ ?_
 rotate_left
 {
 simp only [putAll, Act.put, List.setIfInBounds_toArray, List.set_cons_zero, List.set_cons_succ]
 rfl
 }
 refine two_ (i := 8) (j := 9) (Ni := some 10) (Nj := some 11) #[true, true, true, true, true, true, true, true, true, false, false, false] #[true, true, true, true, true, true, true, true, false, true, false, false] rfl rfl rfl rfl (two_of HT_.out (by kernel_rfl)) (by decide) (by decide) (fun K hK => ?_) (fun K hK => ?_)
 {
 skip
 refine box_step ?hg (N := 10) ?hd (cs := #[.int .u64 0, .int .u64 0]) (t := 40) ?hr ?_; (case hd => rfl); (case hg => rfl); (case hr => first | (go_simp; done) | (go_simp; rfl))
 intro gb164 hg w44 hbox hb
 have n0_ := Aside0.mk (blk_below (g := gb149) (o := .cells #[.int .u64 a0_0, .int .u64 a0_1] 40 (0, 0)) (by (with_reducible repeat (first | refine blk_drewN ?_ _ | refine blk_drew ?_ | refine blk_alloc ?_ _)); exact BK149.out) hb)
 have n1_ := Aside0.mk (blk_below (g := gb155) (o := .cells #[.int .u64 t151, .int .u64 t152] 40 (0, 0)) (by (with_reducible repeat (first | refine blk_drewN ?_ _ | refine blk_drew ?_ | refine blk_alloc ?_ _)); exact BK155.out) hb)
 have n2_ := Aside0.mk (blk_below (g := gb159) (o := .cells #[.int .u64 t156, .int .u64 t157] 40 (0, 0)) (by (with_reducible repeat (first | refine blk_drewN ?_ _ | refine blk_drew ?_ | refine blk_alloc ?_ _)); exact BK159.out) hb)
 have n3_ := Aside0.mk (below_step (by repeat (first | (with_reducible first | exact HB.out | apply below_alloc | apply pw_below_drewN | apply below_drew1 | refine below_set ?_ GE149.out | refine below_set ?_ GE155.out | refine below_set ?_ GE159.out) | exact HB.out)) hb)
 have n4_ := Aside0.mk (hbox)
 have n5_ := Aside0.mk ((by rw [hg]; exact (below_size (by repeat (first | (with_reducible first | exact HB.out | apply below_alloc | apply pw_below_drewN | apply below_drew1 | refine below_set ?_ GE149.out | refine below_set ?_ GE155.out | refine below_set ?_ GE159.out) | exact HB.out))) : w.heap.size ≤ gb164))
 have n6_ := Aside0.mk ((by rw [hg]; exact (below_size (by repeat (first | (with_reducible first | exact HB.out | apply below_alloc | apply pw_below_drewN | apply below_drew1 | refine below_set ?_ GE149.out | refine below_set ?_ GE155.out | refine below_set ?_ GE159.out) | exact HB.out))) : w.heap.size ≤ gb164))
 have n7_ := Aside0.mk ((by rw [hg]; exact Nat.ne_of_lt (blk_lt (g := gb149) (o := .cells #[.int .u64 a0_0, .int .u64 a0_1] 40 (0, 0)) (by (with_reducible repeat (first | refine blk_drewN ?_ _ | refine blk_drew ?_ | refine blk_alloc ?_ _)); exact BK149.out)) : gb149 ≠ gb164))
 have n8_ := Aside0.mk ((by rw [hg]; exact Nat.ne_of_gt (blk_lt (g := gb149) (o := .cells #[.int .u64 a0_0, .int .u64 a0_1] 40 (0, 0)) (by (with_reducible repeat (first | refine blk_drewN ?_ _ | refine blk_drew ?_ | refine blk_alloc ?_ _)); exact BK149.out)) : gb164 ≠ gb149))
 have n9_ := Aside0.mk ((by rw [hg]; exact Nat.ne_of_lt (blk_lt (g := gb155) (o := .cells #[.int .u64 t151, .int .u64 t152] 40 (0, 0)) (by (with_reducible repeat (first | refine blk_drewN ?_ _ | refine blk_drew ?_ | refine blk_alloc ?_ _)); exact BK155.out)) : gb155 ≠ gb164))
 have n10_ := Aside0.mk ((by rw [hg]; exact Nat.ne_of_gt (blk_lt (g := gb155) (o := .cells #[.int .u64 t151, .int .u64 t152] 40 (0, 0)) (by (with_reducible repeat (first | refine blk_drewN ?_ _ | refine blk_drew ?_ | refine blk_alloc ?_ _)); exact BK155.out)) : gb164 ≠ gb155))
 have n11_ := Aside0.mk ((by rw [hg]; exact Nat.ne_of_lt (blk_lt (g := gb159) (o := .cells #[.int .u64 t156, .int .u64 t157] 40 (0, 0)) (by (with_reducible repeat (first | refine blk_drewN ?_ _ | refine blk_drew ?_ | refine blk_alloc ?_ _)); exact BK159.out)) : gb159 ≠ gb164))
 have n12_ := Aside0.mk ((by rw [hg]; exact Nat.ne_of_gt (blk_lt (g := gb159) (o := .cells #[.int .u64 t156, .int .u64 t157] 40 (0, 0)) (by (with_reducible repeat (first | refine blk_drewN ?_ _ | refine blk_drew ?_ | refine blk_alloc ?_ _)); exact BK159.out)) : gb164 ≠ gb159))
 clear BK149 BK155 BK159 HB
 have BK149 := n0_
 have BK155 := n1_
 have BK159 := n2_
 have HB := n3_
 have BK164 := n4_
 have GW164 := n5_
 have GE164 := n6_
 have NB149_164 := n7_
 have NB164_149 := n8_
 have NB155_164 := n9_
 have NB164_155 := n10_
 have NB159_164 := n11_
 have NB164_159 := n12_
 clear n0_ n1_ n2_ n3_ n4_ n5_ n6_ n7_ n8_ n9_ n10_ n11_ n12_ hb hbox hg
 refine hK.out _ _ ⟨(blk_cell BK155.out 0).trans rfl, (blk_cell BK155.out 1).trans rfl⟩ (fun hHeld => ?_)
 clear hK K
 refine norm_ (a' := ?_) ?_ ?_
 rotate_left
 {
 show Act.put _ (some 10) _ = _
 simp only [Act.put, List.setIfInBounds_toArray, List.set_cons_zero, List.set_cons_succ, i64_w, i32_w]
 rfl
 }
 exact norm_ (by first | (simp only [putAll, Act.put, List.setIfInBounds_toArray, List.set_cons_zero, List.set_cons_succ]; done) | (simp only [putAll, Act.put, List.setIfInBounds_toArray, List.set_cons_zero, List.set_cons_succ]; rfl)) (hJ3_7_8 (gb164) _ ⟨hHeld, (by (with_reducible repeat (first | refine blk_drewN ?_ _ | refine blk_drew ?_ | refine blk_alloc ?_ _)); exact BK149.out), (by (with_reducible repeat (first | refine blk_drewN ?_ _ | refine blk_drew ?_ | refine blk_alloc ?_ _)); exact BK155.out), (by (with_reducible repeat (first | refine blk_drewN ?_ _ | refine blk_drew ?_ | refine blk_alloc ?_ _)); exact BK159.out), (by (with_reducible repeat (first | refine blk_drewN ?_ _ | refine blk_drew ?_ | refine blk_alloc ?_ _)); exact BK164.out), GW164.out, GE164.out, NB149_164.out, NB164_149.out, NB155_164.out, NB164_155.out, NB159_164.out, NB164_159.out, (by repeat (first | (with_reducible first | exact HB.out | apply below_alloc | apply pw_below_drewN | apply below_drew1 | refine below_set ?_ GE149.out | refine below_set ?_ GE155.out | refine below_set ?_ GE159.out | refine below_set ?_ GE164.out) | exact HB.out))⟩)
 }
 {
 skip
 refine box_step ?hg (N := 11) ?hd (cs := #[.int .u64 0, .int .u64 0]) (t := 40) ?hr ?_; (case hd => rfl); (case hg => rfl); (case hr => first | (go_simp; done) | (go_simp; rfl))
 intro gb165 hg w44 hbox hb
 have n0_ := Aside0.mk (blk_below (g := gb149) (o := .cells #[.int .u64 a0_0, .int .u64 a0_1] 40 (0, 0)) (by (with_reducible repeat (first | refine blk_drewN ?_ _ | refine blk_drew ?_ | refine blk_alloc ?_ _)); exact BK149.out) hb)
 have n1_ := Aside0.mk (blk_below (g := gb155) (o := .cells #[.int .u64 t151, .int .u64 t152] 40 (0, 0)) (by (with_reducible repeat (first | refine blk_drewN ?_ _ | refine blk_drew ?_ | refine blk_alloc ?_ _)); exact BK155.out) hb)
 have n2_ := Aside0.mk (blk_below (g := gb159) (o := .cells #[.int .u64 t156, .int .u64 t157] 40 (0, 0)) (by (with_reducible repeat (first | refine blk_drewN ?_ _ | refine blk_drew ?_ | refine blk_alloc ?_ _)); exact BK159.out) hb)
 have n3_ := Aside0.mk (below_step (by repeat (first | (with_reducible first | exact HB.out | apply below_alloc | apply pw_below_drewN | apply below_drew1 | refine below_set ?_ GE149.out | refine below_set ?_ GE155.out | refine below_set ?_ GE159.out) | exact HB.out)) hb)
 have n4_ := Aside0.mk (hbox)
 have n5_ := Aside0.mk ((by rw [hg]; exact (below_size (by repeat (first | (with_reducible first | exact HB.out | apply below_alloc | apply pw_below_drewN | apply below_drew1 | refine below_set ?_ GE149.out | refine below_set ?_ GE155.out | refine below_set ?_ GE159.out) | exact HB.out))) : w.heap.size ≤ gb165))
 have n6_ := Aside0.mk ((by rw [hg]; exact (below_size (by repeat (first | (with_reducible first | exact HB.out | apply below_alloc | apply pw_below_drewN | apply below_drew1 | refine below_set ?_ GE149.out | refine below_set ?_ GE155.out | refine below_set ?_ GE159.out) | exact HB.out))) : w.heap.size ≤ gb165))
 have n7_ := Aside0.mk ((by rw [hg]; exact Nat.ne_of_lt (blk_lt (g := gb149) (o := .cells #[.int .u64 a0_0, .int .u64 a0_1] 40 (0, 0)) (by (with_reducible repeat (first | refine blk_drewN ?_ _ | refine blk_drew ?_ | refine blk_alloc ?_ _)); exact BK149.out)) : gb149 ≠ gb165))
 have n8_ := Aside0.mk ((by rw [hg]; exact Nat.ne_of_gt (blk_lt (g := gb149) (o := .cells #[.int .u64 a0_0, .int .u64 a0_1] 40 (0, 0)) (by (with_reducible repeat (first | refine blk_drewN ?_ _ | refine blk_drew ?_ | refine blk_alloc ?_ _)); exact BK149.out)) : gb165 ≠ gb149))
 have n9_ := Aside0.mk ((by rw [hg]; exact Nat.ne_of_lt (blk_lt (g := gb155) (o := .cells #[.int .u64 t151, .int .u64 t152] 40 (0, 0)) (by (with_reducible repeat (first | refine blk_drewN ?_ _ | refine blk_drew ?_ | refine blk_alloc ?_ _)); exact BK155.out)) : gb155 ≠ gb165))
 have n10_ := Aside0.mk ((by rw [hg]; exact Nat.ne_of_gt (blk_lt (g := gb155) (o := .cells #[.int .u64 t151, .int .u64 t152] 40 (0, 0)) (by (with_reducible repeat (first | refine blk_drewN ?_ _ | refine blk_drew ?_ | refine blk_alloc ?_ _)); exact BK155.out)) : gb165 ≠ gb155))
 have n11_ := Aside0.mk ((by rw [hg]; exact Nat.ne_of_lt (blk_lt (g := gb159) (o := .cells #[.int .u64 t156, .int .u64 t157] 40 (0, 0)) (by (with_reducible repeat (first | refine blk_drewN ?_ _ | refine blk_drew ?_ | refine blk_alloc ?_ _)); exact BK159.out)) : gb159 ≠ gb165))
 have n12_ := Aside0.mk ((by rw [hg]; exact Nat.ne_of_gt (blk_lt (g := gb159) (o := .cells #[.int .u64 t156, .int .u64 t157] 40 (0, 0)) (by (with_reducible repeat (first | refine blk_drewN ?_ _ | refine blk_drew ?_ | refine blk_alloc ?_ _)); exact BK159.out)) : gb165 ≠ gb159))
 clear BK149 BK155 BK159 HB
 have BK149 := n0_
 have BK155 := n1_
 have BK159 := n2_
 have HB := n3_
 have BK165 := n4_
 have GW165 := n5_
 have GE165 := n6_
 have NB149_165 := n7_
 have NB165_149 := n8_
 have NB155_165 := n9_
 have NB165_155 := n10_
 have NB159_165 := n11_
 have NB165_159 := n12_
 clear n0_ n1_ n2_ n3_ n4_ n5_ n6_ n7_ n8_ n9_ n10_ n11_ n12_ hb hbox hg
 refine hK.out _ _ ⟨(blk_cell BK155.out 0).trans rfl, (blk_cell BK155.out 1).trans rfl⟩ (fun hHeld => ?_)
 clear hK K
 refine norm_ (a' := ?_) ?_ ?_
 rotate_left
 {
 show Act.put _ (some 11) _ = _
 simp only [Act.put, List.setIfInBounds_toArray, List.set_cons_zero, List.set_cons_succ, i64_w, i32_w]
 rfl
 }
 exact norm_ (by first | (simp only [putAll, Act.put, List.setIfInBounds_toArray, List.set_cons_zero, List.set_cons_succ]; done) | (simp only [putAll, Act.put, List.setIfInBounds_toArray, List.set_cons_zero, List.set_cons_succ]; rfl)) (hJ3_7_9 (gb165) _ ⟨hHeld, (by (with_reducible repeat (first | refine blk_drewN ?_ _ | refine blk_drew ?_ | refine blk_alloc ?_ _)); exact BK149.out), (by (with_reducible repeat (first | refine blk_drewN ?_ _ | refine blk_drew ?_ | refine blk_alloc ?_ _)); exact BK155.out), (by (with_reducible repeat (first | refine blk_drewN ?_ _ | refine blk_drew ?_ | refine blk_alloc ?_ _)); exact BK159.out), (by (with_reducible repeat (first | refine blk_drewN ?_ _ | refine blk_drew ?_ | refine blk_alloc ?_ _)); exact BK165.out), GW165.out, GE165.out, NB149_165.out, NB165_149.out, NB155_165.out, NB165_155.out, NB159_165.out, NB165_159.out, (by repeat (first | (with_reducible first | exact HB.out | apply below_alloc | apply pw_below_drewN | apply below_drew1 | refine below_set ?_ GE149.out | refine below_set ?_ GE155.out | refine below_set ?_ GE159.out | refine below_set ?_ GE165.out) | exact HB.out))⟩)
 }}}
 {
 skip
 rintro ⟨gb164, gb165⟩ w44 ⟨hS_, h0_, h1_, h2_, h3_, h4_, h5_, h6_, h7_, h8_, h9_, h10_, h11_, h12_, h13_, h14_, h15_, h16_, h17_, h18_, h19_, h20_, h21_, h22_, h23_⟩
 have n0_ : Aside0 (w44.heap[gb149]? = some (.cells #[.int .u64 a0_0, .int .u64 a0_1] 40 (0, 0))) := ⟨h0_⟩
 have n1_ : Aside0 (w44.heap[gb155]? = some (.cells #[.int .u64 t151, .int .u64 t152] 40 (0, 0))) := ⟨h1_⟩
 have n2_ : Aside0 (w44.heap[gb159]? = some (.cells #[.int .u64 t156, .int .u64 t157] 40 (0, 0))) := ⟨h2_⟩
 have n3_ : Aside0 (w44.heap[gb164]? = some (.cells #[.int .u64 0, .int .u64 0] 40 (0, 0))) := ⟨h3_⟩
 have n4_ : Aside0 (w44.heap[gb165]? = some (.cells #[.int .u64 0, .int .u64 0] 40 (0, 0))) := ⟨h4_⟩
 have n5_ : Aside0 (w.heap.size ≤ gb164) := ⟨h5_⟩
 have n6_ : Aside0 (w.heap.size ≤ gb164) := ⟨h6_⟩
 have n7_ : Aside0 (gb149 ≠ gb164) := ⟨h7_⟩
 have n8_ : Aside0 (gb164 ≠ gb149) := ⟨h8_⟩
 have n9_ : Aside0 (gb155 ≠ gb164) := ⟨h9_⟩
 have n10_ : Aside0 (gb164 ≠ gb155) := ⟨h10_⟩
 have n11_ : Aside0 (gb159 ≠ gb164) := ⟨h11_⟩
 have n12_ : Aside0 (gb164 ≠ gb159) := ⟨h12_⟩
 have n13_ : Aside0 (gb165 ≠ gb164) := ⟨h13_⟩
 have n14_ : Aside0 (gb164 ≠ gb165) := ⟨h14_⟩
 have n15_ : Aside0 (w.heap.size ≤ gb165) := ⟨h15_⟩
 have n16_ : Aside0 (w.heap.size ≤ gb165) := ⟨h16_⟩
 have n17_ : Aside0 (gb149 ≠ gb165) := ⟨h17_⟩
 have n18_ : Aside0 (gb165 ≠ gb149) := ⟨h18_⟩
 have n19_ : Aside0 (gb155 ≠ gb165) := ⟨h19_⟩
 have n20_ : Aside0 (gb165 ≠ gb155) := ⟨h20_⟩
 have n21_ : Aside0 (gb159 ≠ gb165) := ⟨h21_⟩
 have n22_ : Aside0 (gb165 ≠ gb159) := ⟨h22_⟩
 have n23_ : Aside0 (Below w.heap.size w w44) := ⟨h23_⟩
 clear BK149 BK155 BK159 HB h0_ h1_ h2_ h3_ h4_ h5_ h6_ h7_ h8_ h9_ h10_ h11_ h12_ h13_ h14_ h15_ h16_ h17_ h18_ h19_ h20_ h21_ h22_ h23_
 have BK149 := n0_
 have BK155 := n1_
 have BK159 := n2_
 have BK164 := n3_
 have BK165 := n4_
 have GW164 := n5_
 have GE164 := n6_
 have NB149_164 := n7_
 have NB164_149 := n8_
 have NB155_164 := n9_
 have NB164_155 := n10_
 have NB159_164 := n11_
 have NB164_159 := n12_
 have NB165_164 := n13_
 have NB164_165 := n14_
 have GW165 := n15_
 have GE165 := n16_
 have NB149_165 := n17_
 have NB165_149 := n18_
 have NB155_165 := n19_
 have NB165_155 := n20_
 have NB159_165 := n21_
 have NB165_159 := n22_
 have HB := n23_
 clear n0_ n1_ n2_ n3_ n4_ n5_ n6_ n7_ n8_ n9_ n10_ n11_ n12_ n13_ n14_ n15_ n16_ n17_ n18_ n19_ n20_ n21_ n22_ n23_
 have hHeld : w44.cell? ⟨gb155, 0, none⟩ = some (.int .u64 t151) ∧ w44.cell? ⟨gb155, 1, none⟩ = some (.int .u64 t152) := hS_
 refine norm_ (a' := ?_) ?_ ?_
 rotate_left
 {
 simp only [putAll, Act.put, List.setIfInBounds_toArray, List.set_cons_zero, List.set_cons_succ]
 rfl
 }
 refine one_ (i := 7) (N := some 48) #[true, true, true, true, true, true, true, true, true, true, false, false] rfl rfl (one_of HT_.out (by kernel_rfl)) (by decide) (fun K hK => ?_)
 refine goes_ Try.func19 (by kernel_rfl) rfl #[.int .u64 t151, .int .u64 a1] (by rfl) rfl rfl (by (try simp only [List.map_toArray, List.map_cons, List.map_nil]); first | done | rfl | (simp only [List.length_drop, List.length_take]; rfl)) ?_
 with_reducible refine (wide_Mul.calls t151 a1 t162 t163 _ A18.out).mono ?_
 rintro e w45 ⟨rfl, hb⟩
 refine ⟨_, rfl, ?_⟩
 have n0_ := Aside0.mk (blk_below (g := gb149) (o := .cells #[.int .u64 a0_0, .int .u64 a0_1] 40 (0, 0)) (by (with_reducible repeat (first | refine blk_drewN ?_ _ | refine blk_drew ?_ | refine blk_alloc ?_ _)); exact BK149.out) hb)
 have n1_ := Aside0.mk (blk_below (g := gb155) (o := .cells #[.int .u64 t151, .int .u64 t152] 40 (0, 0)) (by (with_reducible repeat (first | refine blk_drewN ?_ _ | refine blk_drew ?_ | refine blk_alloc ?_ _)); exact BK155.out) hb)
 have n2_ := Aside0.mk (blk_below (g := gb159) (o := .cells #[.int .u64 t156, .int .u64 t157] 40 (0, 0)) (by (with_reducible repeat (first | refine blk_drewN ?_ _ | refine blk_drew ?_ | refine blk_alloc ?_ _)); exact BK159.out) hb)
 have n3_ := Aside0.mk (blk_below (g := gb164) (o := .cells #[.int .u64 0, .int .u64 0] 40 (0, 0)) (by (with_reducible repeat (first | refine blk_drewN ?_ _ | refine blk_drew ?_ | refine blk_alloc ?_ _)); exact BK164.out) hb)
 have n4_ := Aside0.mk (blk_below (g := gb165) (o := .cells #[.int .u64 0, .int .u64 0] 40 (0, 0)) (by (with_reducible repeat (first | refine blk_drewN ?_ _ | refine blk_drew ?_ | refine blk_alloc ?_ _)); exact BK165.out) hb)
 have n5_ := Aside0.mk (below_step (by repeat (first | (with_reducible first | exact HB.out | apply below_alloc | apply pw_below_drewN | apply below_drew1 | refine below_set ?_ GE149.out | refine below_set ?_ GE155.out | refine below_set ?_ GE159.out | refine below_set ?_ GE164.out | refine below_set ?_ GE165.out) | exact HB.out)) hb)
 clear BK149 BK155 BK159 BK164 BK165 HB
 have BK149 := n0_
 have BK155 := n1_
 have BK159 := n2_
 have BK164 := n3_
 have BK165 := n4_
 have HB := n5_
 clear n0_ n1_ n2_ n3_ n4_ n5_
 (try clear hb)
 (try clear hb2)
 (try clear hk)
 (try clear hi)
 refine hK.out _ _ ⟨(blk_cell BK155.out 0).trans rfl, (blk_cell BK155.out 1).trans rfl⟩ (fun hHeld => ?_)
 clear hK K
 refine norm_ (a' := ?_) ?_ ?_
 rotate_left
 {
 show Act.put _ (some 48) _ = _
 simp only [Act.put, List.setIfInBounds_toArray, List.set_cons_zero, List.set_cons_succ, i64_w, i32_w]
 rfl
 }
 exact norm_ (by first | (simp only [putAll, Act.put, List.setIfInBounds_toArray, List.set_cons_zero, List.set_cons_succ]; done) | (simp only [putAll, Act.put, List.setIfInBounds_toArray, List.set_cons_zero, List.set_cons_succ]; rfl)) (hJ3_7_8_9 (gb164, gb165) _ ⟨hHeld, (by (with_reducible repeat (first | refine blk_drewN ?_ _ | refine blk_drew ?_ | refine blk_alloc ?_ _)); exact BK149.out), (by (with_reducible repeat (first | refine blk_drewN ?_ _ | refine blk_drew ?_ | refine blk_alloc ?_ _)); exact BK155.out), (by (with_reducible repeat (first | refine blk_drewN ?_ _ | refine blk_drew ?_ | refine blk_alloc ?_ _)); exact BK159.out), (by (with_reducible repeat (first | refine blk_drewN ?_ _ | refine blk_drew ?_ | refine blk_alloc ?_ _)); exact BK164.out), (by (with_reducible repeat (first | refine blk_drewN ?_ _ | refine blk_drew ?_ | refine blk_alloc ?_ _)); exact BK165.out), GW164.out, GE164.out, NB149_164.out, NB164_149.out, NB155_164.out, NB164_155.out, NB159_164.out, NB164_159.out, NB165_164.out, NB164_165.out, GW165.out, GE165.out, NB149_165.out, NB165_149.out, NB155_165.out, NB165_155.out, NB159_165.out, NB165_159.out, (by repeat (first | (with_reducible first | exact HB.out | apply below_alloc | apply pw_below_drewN | apply below_drew1 | refine below_set ?_ GE149.out | refine below_set ?_ GE155.out | refine below_set ?_ GE159.out | refine below_set ?_ GE164.out | refine below_set ?_ GE165.out) | exact HB.out))⟩)
 }}
 {
 skip
 rintro gb165 w44 ⟨hS_, h0_, h1_, h2_, h3_, h4_, h5_, h6_, h7_, h8_, h9_, h10_, h11_, h12_⟩
 have n0_ : Aside0 (w44.heap[gb149]? = some (.cells #[.int .u64 a0_0, .int .u64 a0_1] 40 (0, 0))) := ⟨h0_⟩
 have n1_ : Aside0 (w44.heap[gb155]? = some (.cells #[.int .u64 t151, .int .u64 t152] 40 (0, 0))) := ⟨h1_⟩
 have n2_ : Aside0 (w44.heap[gb159]? = some (.cells #[.int .u64 t156, .int .u64 t157] 40 (0, 0))) := ⟨h2_⟩
 have n3_ : Aside0 (w44.heap[gb165]? = some (.cells #[.int .u64 0, .int .u64 0] 40 (0, 0))) := ⟨h3_⟩
 have n4_ : Aside0 (w.heap.size ≤ gb165) := ⟨h4_⟩
 have n5_ : Aside0 (w.heap.size ≤ gb165) := ⟨h5_⟩
 have n6_ : Aside0 (gb149 ≠ gb165) := ⟨h6_⟩
 have n7_ : Aside0 (gb165 ≠ gb149) := ⟨h7_⟩
 have n8_ : Aside0 (gb155 ≠ gb165) := ⟨h8_⟩
 have n9_ : Aside0 (gb165 ≠ gb155) := ⟨h9_⟩
 have n10_ : Aside0 (gb159 ≠ gb165) := ⟨h10_⟩
 have n11_ : Aside0 (gb165 ≠ gb159) := ⟨h11_⟩
 have n12_ : Aside0 (Below w.heap.size w w44) := ⟨h12_⟩
 clear BK149 BK155 BK159 HB h0_ h1_ h2_ h3_ h4_ h5_ h6_ h7_ h8_ h9_ h10_ h11_ h12_
 have BK149 := n0_
 have BK155 := n1_
 have BK159 := n2_
 have BK165 := n3_
 have GW165 := n4_
 have GE165 := n5_
 have NB149_165 := n6_
 have NB165_149 := n7_
 have NB155_165 := n8_
 have NB165_155 := n9_
 have NB159_165 := n10_
 have NB165_159 := n11_
 have HB := n12_
 clear n0_ n1_ n2_ n3_ n4_ n5_ n6_ n7_ n8_ n9_ n10_ n11_ n12_
 have hHeld : w44.cell? ⟨gb155, 0, none⟩ = some (.int .u64 t151) ∧ w44.cell? ⟨gb155, 1, none⟩ = some (.int .u64 t152) := hS_
 refine norm_ (a' := ?_) ?_ ?_
 rotate_left
 {
 simp only [putAll, Act.put, List.setIfInBounds_toArray, List.set_cons_zero, List.set_cons_succ]
 rfl
 }
 refine one_ (i := 8) (N := some 10) #[true, true, true, true, true, true, true, true, true, true, false, false] rfl rfl (one_of HT_.out (by kernel_rfl)) (by decide) (fun K hK => ?_)
 refine box_step ?hg (N := 10) ?hd (cs := #[.int .u64 0, .int .u64 0]) (t := 40) ?hr ?_; (case hd => rfl); (case hg => rfl); (case hr => first | (go_simp; done) | (go_simp; rfl))
 intro gb164 hg w45 hbox hb
 have n0_ := Aside0.mk (blk_below (g := gb149) (o := .cells #[.int .u64 a0_0, .int .u64 a0_1] 40 (0, 0)) (by (with_reducible repeat (first | refine blk_drewN ?_ _ | refine blk_drew ?_ | refine blk_alloc ?_ _)); exact BK149.out) hb)
 have n1_ := Aside0.mk (blk_below (g := gb155) (o := .cells #[.int .u64 t151, .int .u64 t152] 40 (0, 0)) (by (with_reducible repeat (first | refine blk_drewN ?_ _ | refine blk_drew ?_ | refine blk_alloc ?_ _)); exact BK155.out) hb)
 have n2_ := Aside0.mk (blk_below (g := gb159) (o := .cells #[.int .u64 t156, .int .u64 t157] 40 (0, 0)) (by (with_reducible repeat (first | refine blk_drewN ?_ _ | refine blk_drew ?_ | refine blk_alloc ?_ _)); exact BK159.out) hb)
 have n3_ := Aside0.mk (blk_below (g := gb165) (o := .cells #[.int .u64 0, .int .u64 0] 40 (0, 0)) (by (with_reducible repeat (first | refine blk_drewN ?_ _ | refine blk_drew ?_ | refine blk_alloc ?_ _)); exact BK165.out) hb)
 have n4_ := Aside0.mk (below_step (by repeat (first | (with_reducible first | exact HB.out | apply below_alloc | apply pw_below_drewN | apply below_drew1 | refine below_set ?_ GE149.out | refine below_set ?_ GE155.out | refine below_set ?_ GE159.out | refine below_set ?_ GE165.out) | exact HB.out)) hb)
 have n5_ := Aside0.mk (hbox)
 have n6_ := Aside0.mk ((by rw [hg]; exact (below_size (by repeat (first | (with_reducible first | exact HB.out | apply below_alloc | apply pw_below_drewN | apply below_drew1 | refine below_set ?_ GE149.out | refine below_set ?_ GE155.out | refine below_set ?_ GE159.out | refine below_set ?_ GE165.out) | exact HB.out))) : w.heap.size ≤ gb164))
 have n7_ := Aside0.mk ((by rw [hg]; exact (below_size (by repeat (first | (with_reducible first | exact HB.out | apply below_alloc | apply pw_below_drewN | apply below_drew1 | refine below_set ?_ GE149.out | refine below_set ?_ GE155.out | refine below_set ?_ GE159.out | refine below_set ?_ GE165.out) | exact HB.out))) : w.heap.size ≤ gb164))
 have n8_ := Aside0.mk ((by rw [hg]; exact Nat.ne_of_lt (blk_lt (g := gb149) (o := .cells #[.int .u64 a0_0, .int .u64 a0_1] 40 (0, 0)) (by (with_reducible repeat (first | refine blk_drewN ?_ _ | refine blk_drew ?_ | refine blk_alloc ?_ _)); exact BK149.out)) : gb149 ≠ gb164))
 have n9_ := Aside0.mk ((by rw [hg]; exact Nat.ne_of_gt (blk_lt (g := gb149) (o := .cells #[.int .u64 a0_0, .int .u64 a0_1] 40 (0, 0)) (by (with_reducible repeat (first | refine blk_drewN ?_ _ | refine blk_drew ?_ | refine blk_alloc ?_ _)); exact BK149.out)) : gb164 ≠ gb149))
 have n10_ := Aside0.mk ((by rw [hg]; exact Nat.ne_of_lt (blk_lt (g := gb155) (o := .cells #[.int .u64 t151, .int .u64 t152] 40 (0, 0)) (by (with_reducible repeat (first | refine blk_drewN ?_ _ | refine blk_drew ?_ | refine blk_alloc ?_ _)); exact BK155.out)) : gb155 ≠ gb164))
 have n11_ := Aside0.mk ((by rw [hg]; exact Nat.ne_of_gt (blk_lt (g := gb155) (o := .cells #[.int .u64 t151, .int .u64 t152] 40 (0, 0)) (by (with_reducible repeat (first | refine blk_drewN ?_ _ | refine blk_drew ?_ | refine blk_alloc ?_ _)); exact BK155.out)) : gb164 ≠ gb155))
 have n12_ := Aside0.mk ((by rw [hg]; exact Nat.ne_of_lt (blk_lt (g := gb159) (o := .cells #[.int .u64 t156, .int .u64 t157] 40 (0, 0)) (by (with_reducible repeat (first | refine blk_drewN ?_ _ | refine blk_drew ?_ | refine blk_alloc ?_ _)); exact BK159.out)) : gb159 ≠ gb164))
 have n13_ := Aside0.mk ((by rw [hg]; exact Nat.ne_of_gt (blk_lt (g := gb159) (o := .cells #[.int .u64 t156, .int .u64 t157] 40 (0, 0)) (by (with_reducible repeat (first | refine blk_drewN ?_ _ | refine blk_drew ?_ | refine blk_alloc ?_ _)); exact BK159.out)) : gb164 ≠ gb159))
 have n14_ := Aside0.mk ((by rw [hg]; exact Nat.ne_of_lt (blk_lt (g := gb165) (o := .cells #[.int .u64 0, .int .u64 0] 40 (0, 0)) (by (with_reducible repeat (first | refine blk_drewN ?_ _ | refine blk_drew ?_ | refine blk_alloc ?_ _)); exact BK165.out)) : gb165 ≠ gb164))
 have n15_ := Aside0.mk ((by rw [hg]; exact Nat.ne_of_gt (blk_lt (g := gb165) (o := .cells #[.int .u64 0, .int .u64 0] 40 (0, 0)) (by (with_reducible repeat (first | refine blk_drewN ?_ _ | refine blk_drew ?_ | refine blk_alloc ?_ _)); exact BK165.out)) : gb164 ≠ gb165))
 clear BK149 BK155 BK159 BK165 HB
 have BK149 := n0_
 have BK155 := n1_
 have BK159 := n2_
 have BK165 := n3_
 have HB := n4_
 have BK164 := n5_
 have GW164 := n6_
 have GE164 := n7_
 have NB149_164 := n8_
 have NB164_149 := n9_
 have NB155_164 := n10_
 have NB164_155 := n11_
 have NB159_164 := n12_
 have NB164_159 := n13_
 have NB165_164 := n14_
 have NB164_165 := n15_
 clear n0_ n1_ n2_ n3_ n4_ n5_ n6_ n7_ n8_ n9_ n10_ n11_ n12_ n13_ n14_ n15_ hb hbox hg
 refine hK.out _ _ ⟨(blk_cell BK155.out 0).trans rfl, (blk_cell BK155.out 1).trans rfl⟩ (fun hHeld => ?_)
 clear hK K
 refine norm_ (a' := ?_) ?_ ?_
 rotate_left
 {
 show Act.put _ (some 10) _ = _
 simp only [Act.put, List.setIfInBounds_toArray, List.set_cons_zero, List.set_cons_succ, i64_w, i32_w]
 rfl
 }
 exact norm_ (by first | (simp only [putAll, Act.put, List.setIfInBounds_toArray, List.set_cons_zero, List.set_cons_succ]; done) | (simp only [putAll, Act.put, List.setIfInBounds_toArray, List.set_cons_zero, List.set_cons_succ]; rfl)) (hJ3_7_8_9 (gb164, gb165) _ ⟨hHeld, (by (with_reducible repeat (first | refine blk_drewN ?_ _ | refine blk_drew ?_ | refine blk_alloc ?_ _)); exact BK149.out), (by (with_reducible repeat (first | refine blk_drewN ?_ _ | refine blk_drew ?_ | refine blk_alloc ?_ _)); exact BK155.out), (by (with_reducible repeat (first | refine blk_drewN ?_ _ | refine blk_drew ?_ | refine blk_alloc ?_ _)); exact BK159.out), (by (with_reducible repeat (first | refine blk_drewN ?_ _ | refine blk_drew ?_ | refine blk_alloc ?_ _)); exact BK164.out), (by (with_reducible repeat (first | refine blk_drewN ?_ _ | refine blk_drew ?_ | refine blk_alloc ?_ _)); exact BK165.out), GW164.out, GE164.out, NB149_164.out, NB164_149.out, NB155_164.out, NB164_155.out, NB159_164.out, NB164_159.out, NB165_164.out, NB164_165.out, GW165.out, GE165.out, NB149_165.out, NB165_149.out, NB155_165.out, NB165_155.out, NB159_165.out, NB165_159.out, (by repeat (first | (with_reducible first | exact HB.out | apply below_alloc | apply pw_below_drewN | apply below_drew1 | refine below_set ?_ GE149.out | refine below_set ?_ GE155.out | refine below_set ?_ GE159.out | refine below_set ?_ GE165.out | refine below_set ?_ GE164.out) | exact HB.out))⟩)
 }}
 {
 skip
 rintro gb164 w44 ⟨hS_, h0_, h1_, h2_, h3_, h4_, h5_, h6_, h7_, h8_, h9_, h10_, h11_, h12_⟩
 have n0_ : Aside0 (w44.heap[gb149]? = some (.cells #[.int .u64 a0_0, .int .u64 a0_1] 40 (0, 0))) := ⟨h0_⟩
 have n1_ : Aside0 (w44.heap[gb155]? = some (.cells #[.int .u64 t151, .int .u64 t152] 40 (0, 0))) := ⟨h1_⟩
 have n2_ : Aside0 (w44.heap[gb159]? = some (.cells #[.int .u64 t156, .int .u64 t157] 40 (0, 0))) := ⟨h2_⟩
 have n3_ : Aside0 (w44.heap[gb164]? = some (.cells #[.int .u64 0, .int .u64 0] 40 (0, 0))) := ⟨h3_⟩
 have n4_ : Aside0 (w.heap.size ≤ gb164) := ⟨h4_⟩
 have n5_ : Aside0 (w.heap.size ≤ gb164) := ⟨h5_⟩
 have n6_ : Aside0 (gb149 ≠ gb164) := ⟨h6_⟩
 have n7_ : Aside0 (gb164 ≠ gb149) := ⟨h7_⟩
 have n8_ : Aside0 (gb155 ≠ gb164) := ⟨h8_⟩
 have n9_ : Aside0 (gb164 ≠ gb155) := ⟨h9_⟩
 have n10_ : Aside0 (gb159 ≠ gb164) := ⟨h10_⟩
 have n11_ : Aside0 (gb164 ≠ gb159) := ⟨h11_⟩
 have n12_ : Aside0 (Below w.heap.size w w44) := ⟨h12_⟩
 clear BK149 BK155 BK159 HB h0_ h1_ h2_ h3_ h4_ h5_ h6_ h7_ h8_ h9_ h10_ h11_ h12_
 have BK149 := n0_
 have BK155 := n1_
 have BK159 := n2_
 have BK164 := n3_
 have GW164 := n4_
 have GE164 := n5_
 have NB149_164 := n6_
 have NB164_149 := n7_
 have NB155_164 := n8_
 have NB164_155 := n9_
 have NB159_164 := n10_
 have NB164_159 := n11_
 have HB := n12_
 clear n0_ n1_ n2_ n3_ n4_ n5_ n6_ n7_ n8_ n9_ n10_ n11_ n12_
 have hHeld : w44.cell? ⟨gb155, 0, none⟩ = some (.int .u64 t151) ∧ w44.cell? ⟨gb155, 1, none⟩ = some (.int .u64 t152) := hS_
 refine norm_ (a' := ?_) ?_ ?_
 rotate_left
 {
 simp only [putAll, Act.put, List.setIfInBounds_toArray, List.set_cons_zero, List.set_cons_succ]
 rfl
 }
 refine one_ (i := 9) (N := some 11) #[true, true, true, true, true, true, true, true, true, true, false, false] rfl rfl (one_of HT_.out (by kernel_rfl)) (by decide) (fun K hK => ?_)
 refine box_step ?hg (N := 11) ?hd (cs := #[.int .u64 0, .int .u64 0]) (t := 40) ?hr ?_; (case hd => rfl); (case hg => rfl); (case hr => first | (go_simp; done) | (go_simp; rfl))
 intro gb165 hg w45 hbox hb
 have n0_ := Aside0.mk (blk_below (g := gb149) (o := .cells #[.int .u64 a0_0, .int .u64 a0_1] 40 (0, 0)) (by (with_reducible repeat (first | refine blk_drewN ?_ _ | refine blk_drew ?_ | refine blk_alloc ?_ _)); exact BK149.out) hb)
 have n1_ := Aside0.mk (blk_below (g := gb155) (o := .cells #[.int .u64 t151, .int .u64 t152] 40 (0, 0)) (by (with_reducible repeat (first | refine blk_drewN ?_ _ | refine blk_drew ?_ | refine blk_alloc ?_ _)); exact BK155.out) hb)
 have n2_ := Aside0.mk (blk_below (g := gb159) (o := .cells #[.int .u64 t156, .int .u64 t157] 40 (0, 0)) (by (with_reducible repeat (first | refine blk_drewN ?_ _ | refine blk_drew ?_ | refine blk_alloc ?_ _)); exact BK159.out) hb)
 have n3_ := Aside0.mk (blk_below (g := gb164) (o := .cells #[.int .u64 0, .int .u64 0] 40 (0, 0)) (by (with_reducible repeat (first | refine blk_drewN ?_ _ | refine blk_drew ?_ | refine blk_alloc ?_ _)); exact BK164.out) hb)
 have n4_ := Aside0.mk (below_step (by repeat (first | (with_reducible first | exact HB.out | apply below_alloc | apply pw_below_drewN | apply below_drew1 | refine below_set ?_ GE149.out | refine below_set ?_ GE155.out | refine below_set ?_ GE159.out | refine below_set ?_ GE164.out) | exact HB.out)) hb)
 have n5_ := Aside0.mk (hbox)
 have n6_ := Aside0.mk ((by rw [hg]; exact (below_size (by repeat (first | (with_reducible first | exact HB.out | apply below_alloc | apply pw_below_drewN | apply below_drew1 | refine below_set ?_ GE149.out | refine below_set ?_ GE155.out | refine below_set ?_ GE159.out | refine below_set ?_ GE164.out) | exact HB.out))) : w.heap.size ≤ gb165))
 have n7_ := Aside0.mk ((by rw [hg]; exact (below_size (by repeat (first | (with_reducible first | exact HB.out | apply below_alloc | apply pw_below_drewN | apply below_drew1 | refine below_set ?_ GE149.out | refine below_set ?_ GE155.out | refine below_set ?_ GE159.out | refine below_set ?_ GE164.out) | exact HB.out))) : w.heap.size ≤ gb165))
 have n8_ := Aside0.mk ((by rw [hg]; exact Nat.ne_of_lt (blk_lt (g := gb149) (o := .cells #[.int .u64 a0_0, .int .u64 a0_1] 40 (0, 0)) (by (with_reducible repeat (first | refine blk_drewN ?_ _ | refine blk_drew ?_ | refine blk_alloc ?_ _)); exact BK149.out)) : gb149 ≠ gb165))
 have n9_ := Aside0.mk ((by rw [hg]; exact Nat.ne_of_gt (blk_lt (g := gb149) (o := .cells #[.int .u64 a0_0, .int .u64 a0_1] 40 (0, 0)) (by (with_reducible repeat (first | refine blk_drewN ?_ _ | refine blk_drew ?_ | refine blk_alloc ?_ _)); exact BK149.out)) : gb165 ≠ gb149))
 have n10_ := Aside0.mk ((by rw [hg]; exact Nat.ne_of_lt (blk_lt (g := gb155) (o := .cells #[.int .u64 t151, .int .u64 t152] 40 (0, 0)) (by (with_reducible repeat (first | refine blk_drewN ?_ _ | refine blk_drew ?_ | refine blk_alloc ?_ _)); exact BK155.out)) : gb155 ≠ gb165))
 have n11_ := Aside0.mk ((by rw [hg]; exact Nat.ne_of_gt (blk_lt (g := gb155) (o := .cells #[.int .u64 t151, .int .u64 t152] 40 (0, 0)) (by (with_reducible repeat (first | refine blk_drewN ?_ _ | refine blk_drew ?_ | refine blk_alloc ?_ _)); exact BK155.out)) : gb165 ≠ gb155))
 have n12_ := Aside0.mk ((by rw [hg]; exact Nat.ne_of_lt (blk_lt (g := gb159) (o := .cells #[.int .u64 t156, .int .u64 t157] 40 (0, 0)) (by (with_reducible repeat (first | refine blk_drewN ?_ _ | refine blk_drew ?_ | refine blk_alloc ?_ _)); exact BK159.out)) : gb159 ≠ gb165))
 have n13_ := Aside0.mk ((by rw [hg]; exact Nat.ne_of_gt (blk_lt (g := gb159) (o := .cells #[.int .u64 t156, .int .u64 t157] 40 (0, 0)) (by (with_reducible repeat (first | refine blk_drewN ?_ _ | refine blk_drew ?_ | refine blk_alloc ?_ _)); exact BK159.out)) : gb165 ≠ gb159))
 have n14_ := Aside0.mk ((by rw [hg]; exact Nat.ne_of_lt (blk_lt (g := gb164) (o := .cells #[.int .u64 0, .int .u64 0] 40 (0, 0)) (by (with_reducible repeat (first | refine blk_drewN ?_ _ | refine blk_drew ?_ | refine blk_alloc ?_ _)); exact BK164.out)) : gb164 ≠ gb165))
 have n15_ := Aside0.mk ((by rw [hg]; exact Nat.ne_of_gt (blk_lt (g := gb164) (o := .cells #[.int .u64 0, .int .u64 0] 40 (0, 0)) (by (with_reducible repeat (first | refine blk_drewN ?_ _ | refine blk_drew ?_ | refine blk_alloc ?_ _)); exact BK164.out)) : gb165 ≠ gb164))
 clear BK149 BK155 BK159 BK164 HB
 have BK149 := n0_
 have BK155 := n1_
 have BK159 := n2_
 have BK164 := n3_
 have HB := n4_
 have BK165 := n5_
 have GW165 := n6_
 have GE165 := n7_
 have NB149_165 := n8_
 have NB165_149 := n9_
 have NB155_165 := n10_
 have NB165_155 := n11_
 have NB159_165 := n12_
 have NB165_159 := n13_
 have NB164_165 := n14_
 have NB165_164 := n15_
 clear n0_ n1_ n2_ n3_ n4_ n5_ n6_ n7_ n8_ n9_ n10_ n11_ n12_ n13_ n14_ n15_ hb hbox hg
 refine hK.out _ _ ⟨(blk_cell BK155.out 0).trans rfl, (blk_cell BK155.out 1).trans rfl⟩ (fun hHeld => ?_)
 clear hK K
 refine norm_ (a' := ?_) ?_ ?_
 rotate_left
 {
 show Act.put _ (some 11) _ = _
 simp only [Act.put, List.setIfInBounds_toArray, List.set_cons_zero, List.set_cons_succ, i64_w, i32_w]
 rfl
 }
 exact norm_ (by first | (simp only [putAll, Act.put, List.setIfInBounds_toArray, List.set_cons_zero, List.set_cons_succ]; done) | (simp only [putAll, Act.put, List.setIfInBounds_toArray, List.set_cons_zero, List.set_cons_succ]; rfl)) (hJ3_7_8_9 (gb164, gb165) _ ⟨hHeld, (by (with_reducible repeat (first | refine blk_drewN ?_ _ | refine blk_drew ?_ | refine blk_alloc ?_ _)); exact BK149.out), (by (with_reducible repeat (first | refine blk_drewN ?_ _ | refine blk_drew ?_ | refine blk_alloc ?_ _)); exact BK155.out), (by (with_reducible repeat (first | refine blk_drewN ?_ _ | refine blk_drew ?_ | refine blk_alloc ?_ _)); exact BK159.out), (by (with_reducible repeat (first | refine blk_drewN ?_ _ | refine blk_drew ?_ | refine blk_alloc ?_ _)); exact BK164.out), (by (with_reducible repeat (first | refine blk_drewN ?_ _ | refine blk_drew ?_ | refine blk_alloc ?_ _)); exact BK165.out), GW164.out, GE164.out, NB149_164.out, NB164_149.out, NB155_164.out, NB164_155.out, NB159_164.out, NB164_159.out, NB165_164.out, NB164_165.out, GW165.out, GE165.out, NB149_165.out, NB165_149.out, NB155_165.out, NB165_155.out, NB159_165.out, NB165_159.out, (by repeat (first | (with_reducible first | exact HB.out | apply below_alloc | apply pw_below_drewN | apply below_drew1 | refine below_set ?_ GE149.out | refine below_set ?_ GE155.out | refine below_set ?_ GE159.out | refine below_set ?_ GE164.out | refine below_set ?_ GE165.out) | exact HB.out))⟩)
 }}
 rintro ⟨gb164, gb165⟩ w45 ⟨hS_, h0_, h1_, h2_, h3_, h4_, h5_, h6_, h7_, h8_, h9_, h10_, h11_, h12_, h13_, h14_, h15_, h16_, h17_, h18_, h19_, h20_, h21_, h22_, h23_⟩
 have n0_ : Aside0 (w45.heap[gb149]? = some (.cells #[.int .u64 a0_0, .int .u64 a0_1] 40 (0, 0))) := ⟨h0_⟩
 have n1_ : Aside0 (w45.heap[gb155]? = some (.cells #[.int .u64 t151, .int .u64 t152] 40 (0, 0))) := ⟨h1_⟩
 have n2_ : Aside0 (w45.heap[gb159]? = some (.cells #[.int .u64 t156, .int .u64 t157] 40 (0, 0))) := ⟨h2_⟩
 have n3_ : Aside0 (w45.heap[gb164]? = some (.cells #[.int .u64 0, .int .u64 0] 40 (0, 0))) := ⟨h3_⟩
 have n4_ : Aside0 (w45.heap[gb165]? = some (.cells #[.int .u64 0, .int .u64 0] 40 (0, 0))) := ⟨h4_⟩
 have n5_ : Aside0 (w.heap.size ≤ gb164) := ⟨h5_⟩
 have n6_ : Aside0 (w.heap.size ≤ gb164) := ⟨h6_⟩
 have n7_ : Aside0 (gb149 ≠ gb164) := ⟨h7_⟩
 have n8_ : Aside0 (gb164 ≠ gb149) := ⟨h8_⟩
 have n9_ : Aside0 (gb155 ≠ gb164) := ⟨h9_⟩
 have n10_ : Aside0 (gb164 ≠ gb155) := ⟨h10_⟩
 have n11_ : Aside0 (gb159 ≠ gb164) := ⟨h11_⟩
 have n12_ : Aside0 (gb164 ≠ gb159) := ⟨h12_⟩
 have n13_ : Aside0 (gb165 ≠ gb164) := ⟨h13_⟩
 have n14_ : Aside0 (gb164 ≠ gb165) := ⟨h14_⟩
 have n15_ : Aside0 (w.heap.size ≤ gb165) := ⟨h15_⟩
 have n16_ : Aside0 (w.heap.size ≤ gb165) := ⟨h16_⟩
 have n17_ : Aside0 (gb149 ≠ gb165) := ⟨h17_⟩
 have n18_ : Aside0 (gb165 ≠ gb149) := ⟨h18_⟩
 have n19_ : Aside0 (gb155 ≠ gb165) := ⟨h19_⟩
 have n20_ : Aside0 (gb165 ≠ gb155) := ⟨h20_⟩
 have n21_ : Aside0 (gb159 ≠ gb165) := ⟨h21_⟩
 have n22_ : Aside0 (gb165 ≠ gb159) := ⟨h22_⟩
 have n23_ : Aside0 (Below w.heap.size w w45) := ⟨h23_⟩
 clear BK149 BK155 BK159 HB h0_ h1_ h2_ h3_ h4_ h5_ h6_ h7_ h8_ h9_ h10_ h11_ h12_ h13_ h14_ h15_ h16_ h17_ h18_ h19_ h20_ h21_ h22_ h23_
 have BK149 := n0_
 have BK155 := n1_
 have BK159 := n2_
 have BK164 := n3_
 have BK165 := n4_
 have GW164 := n5_
 have GE164 := n6_
 have NB149_164 := n7_
 have NB164_149 := n8_
 have NB155_164 := n9_
 have NB164_155 := n10_
 have NB159_164 := n11_
 have NB164_159 := n12_
 have NB165_164 := n13_
 have NB164_165 := n14_
 have GW165 := n15_
 have GE165 := n16_
 have NB149_165 := n17_
 have NB165_149 := n18_
 have NB155_165 := n19_
 have NB165_155 := n20_
 have NB159_165 := n21_
 have NB165_159 := n22_
 have HB := n23_
 clear n0_ n1_ n2_ n3_ n4_ n5_ n6_ n7_ n8_ n9_ n10_ n11_ n12_ n13_ n14_ n15_ n16_ n17_ n18_ n19_ n20_ n21_ n22_ n23_
 have hHeld : w45.cell? ⟨gb155, 0, none⟩ = some (.int .u64 t151) ∧ w45.cell? ⟨gb155, 1, none⟩ = some (.int .u64 t152) := hS_
 refine norm_ (a' := ?_) ?_ ?_
 rotate_left
 {
 simp only [putAll, Act.put, List.setIfInBounds_toArray, List.set_cons_zero, List.set_cons_succ]
 rfl
 }
 refine one_ (i := 10) (N := none) #[true, true, true, true, true, true, true, true, true, true, true, false] rfl rfl (one_of HT_.out (by kernel_rfl)) (by decide) (fun K hK => ?_)
 have hs46 : w45.cell? ⟨gb164, 0, none⟩ = some (.int .u64 0) := (blk_cell BK164.out 0).trans rfl
 have hfs46 := blk_frozen BK164.out 0
 have hns46_0 := NB149_164.out
 have hns46_1 := NB155_164.out
 have hns46_2 := NB159_164.out
 have hns46_4 := NB165_164.out
 have hms46_0 := NB164_149.out
 have hms46_1 := NB164_155.out
 have hms46_2 := NB164_159.out
 have hms46_4 := NB164_165.out
 have hs47 : w45.cell? ⟨gb164, 1, none⟩ = some (.int .u64 0) := (blk_cell BK164.out 1).trans rfl
 have hfs47 := blk_frozen BK164.out 1
 have hns47_0 := NB149_164.out
 have hns47_1 := NB155_164.out
 have hns47_2 := NB159_164.out
 have hns47_4 := NB165_164.out
 have hms47_0 := NB164_149.out
 have hms47_1 := NB164_155.out
 have hms47_2 := NB164_159.out
 have hms47_4 := NB164_165.out
 refine skip_ (w1 := ?_) (by rfl) rfl ?_ ?_
 rotate_left
 {
 go_simp
 rfl
 }
 refine hK.out _ _ ⟨((cell_far (p := ⟨gb164, _, none⟩) NB155_164.out _).trans (((cell_far (p := ⟨gb164, _, none⟩) NB155_164.out _).trans (hHeld.1)))), ((cell_far (p := ⟨gb164, _, none⟩) NB155_164.out _).trans (((cell_far (p := ⟨gb164, _, none⟩) NB155_164.out _).trans (hHeld.2))))⟩ (fun hHeld => ?_)
 clear hK K
 refine one_ (i := 11) (N := none) #[true, true, true, true, true, true, true, true, true, true, true, true] rfl rfl (one_of HT_.out (by kernel_rfl)) (by decide) (fun K hK => ?_)
 have hs48 : w45.cell? ⟨gb165, 0, none⟩ = some (.int .u64 0) := (blk_cell BK165.out 0).trans rfl
 have hfs48 := blk_frozen BK165.out 0
 have hns48_0 := NB149_165.out
 have hns48_1 := NB155_165.out
 have hns48_2 := NB159_165.out
 have hns48_3 := NB164_165.out
 have hms48_0 := NB165_149.out
 have hms48_1 := NB165_155.out
 have hms48_2 := NB165_159.out
 have hms48_3 := NB165_164.out
 have hs49 : w45.cell? ⟨gb165, 1, none⟩ = some (.int .u64 0) := (blk_cell BK165.out 1).trans rfl
 have hfs49 := blk_frozen BK165.out 1
 have hns49_0 := NB149_165.out
 have hns49_1 := NB155_165.out
 have hns49_2 := NB159_165.out
 have hns49_3 := NB164_165.out
 have hms49_0 := NB165_149.out
 have hms49_1 := NB165_155.out
 have hms49_2 := NB165_159.out
 have hms49_3 := NB165_164.out
 refine skip_ (w1 := ?_) (by rfl) rfl ?_ ?_
 rotate_left
 {
 go_simp
 rfl
 }
 refine hK.out _ _ ⟨((cell_far (p := ⟨gb165, _, none⟩) NB155_165.out _).trans (((cell_far (p := ⟨gb165, _, none⟩) NB155_165.out _).trans (hHeld.1)))), ((cell_far (p := ⟨gb165, _, none⟩) NB155_165.out _).trans (((cell_far (p := ⟨gb165, _, none⟩) NB155_165.out _).trans (hHeld.2))))⟩ (fun hHeld => ?_)
 clear hK K
 refine done_ (done_of HT_.out (by kernel_rfl)) ?_
 try go_wp2
 have n0_ : Aside0 (((((w45.setCell ⟨gb164, 0, none⟩ (.int .u64 t160)).setCell ⟨gb164, 1, none⟩ (.int .u64 t161)).setCell ⟨gb165, 0, none⟩ (.int .u64 t162)).setCell ⟨gb165, 1, none⟩ (.int .u64 t163)).heap[gb149]? = some (.cells #[.int .u64 a0_0, .int .u64 a0_1] 40 (0, 0))) := ⟨by (with_reducible repeat (first | refine blk_drewN ?_ _ | refine blk_drew ?_ | refine blk_alloc ?_ _)); refine blk_far ?_ NB149_165.out _; (with_reducible repeat (first | refine blk_drewN ?_ _ | refine blk_drew ?_ | refine blk_alloc ?_ _)); refine blk_far ?_ NB149_165.out _; (with_reducible repeat (first | refine blk_drewN ?_ _ | refine blk_drew ?_ | refine blk_alloc ?_ _)); refine blk_far ?_ NB149_164.out _; (with_reducible repeat (first | refine blk_drewN ?_ _ | refine blk_drew ?_ | refine blk_alloc ?_ _)); refine blk_far ?_ NB149_164.out _; (with_reducible repeat (first | refine blk_drewN ?_ _ | refine blk_drew ?_ | refine blk_alloc ?_ _)); exact BK149.out⟩
 have n1_ : Aside0 (((((w45.setCell ⟨gb164, 0, none⟩ (.int .u64 t160)).setCell ⟨gb164, 1, none⟩ (.int .u64 t161)).setCell ⟨gb165, 0, none⟩ (.int .u64 t162)).setCell ⟨gb165, 1, none⟩ (.int .u64 t163)).heap[gb155]? = some (.cells #[.int .u64 t151, .int .u64 t152] 40 (0, 0))) := ⟨by (with_reducible repeat (first | refine blk_drewN ?_ _ | refine blk_drew ?_ | refine blk_alloc ?_ _)); refine blk_far ?_ NB155_165.out _; (with_reducible repeat (first | refine blk_drewN ?_ _ | refine blk_drew ?_ | refine blk_alloc ?_ _)); refine blk_far ?_ NB155_165.out _; (with_reducible repeat (first | refine blk_drewN ?_ _ | refine blk_drew ?_ | refine blk_alloc ?_ _)); refine blk_far ?_ NB155_164.out _; (with_reducible repeat (first | refine blk_drewN ?_ _ | refine blk_drew ?_ | refine blk_alloc ?_ _)); refine blk_far ?_ NB155_164.out _; (with_reducible repeat (first | refine blk_drewN ?_ _ | refine blk_drew ?_ | refine blk_alloc ?_ _)); exact BK155.out⟩
 have n2_ : Aside0 (((((w45.setCell ⟨gb164, 0, none⟩ (.int .u64 t160)).setCell ⟨gb164, 1, none⟩ (.int .u64 t161)).setCell ⟨gb165, 0, none⟩ (.int .u64 t162)).setCell ⟨gb165, 1, none⟩ (.int .u64 t163)).heap[gb159]? = some (.cells #[.int .u64 t156, .int .u64 t157] 40 (0, 0))) := ⟨by (with_reducible repeat (first | refine blk_drewN ?_ _ | refine blk_drew ?_ | refine blk_alloc ?_ _)); refine blk_far ?_ NB159_165.out _; (with_reducible repeat (first | refine blk_drewN ?_ _ | refine blk_drew ?_ | refine blk_alloc ?_ _)); refine blk_far ?_ NB159_165.out _; (with_reducible repeat (first | refine blk_drewN ?_ _ | refine blk_drew ?_ | refine blk_alloc ?_ _)); refine blk_far ?_ NB159_164.out _; (with_reducible repeat (first | refine blk_drewN ?_ _ | refine blk_drew ?_ | refine blk_alloc ?_ _)); refine blk_far ?_ NB159_164.out _; (with_reducible repeat (first | refine blk_drewN ?_ _ | refine blk_drew ?_ | refine blk_alloc ?_ _)); exact BK159.out⟩
 have n3_ : Aside0 (((((w45.setCell ⟨gb164, 0, none⟩ (.int .u64 t160)).setCell ⟨gb164, 1, none⟩ (.int .u64 t161)).setCell ⟨gb165, 0, none⟩ (.int .u64 t162)).setCell ⟨gb165, 1, none⟩ (.int .u64 t163)).heap[gb164]? = some (.cells #[.int .u64 t160, .int .u64 t161] 40 (0, 0))) := ⟨by (with_reducible repeat (first | refine blk_drewN ?_ _ | refine blk_drew ?_ | refine blk_alloc ?_ _)); refine blk_far ?_ NB164_165.out _; (with_reducible repeat (first | refine blk_drewN ?_ _ | refine blk_drew ?_ | refine blk_alloc ?_ _)); refine blk_far ?_ NB164_165.out _; (with_reducible repeat (first | refine blk_drewN ?_ _ | refine blk_drew ?_ | refine blk_alloc ?_ _)); refine blk_put (cs := #[.int .u64 t160, .int .u64 0]) ?_ 1 _ rfl; (with_reducible repeat (first | refine blk_drewN ?_ _ | refine blk_drew ?_ | refine blk_alloc ?_ _)); refine blk_put (cs := #[.int .u64 0, .int .u64 0]) ?_ 0 _ rfl; (with_reducible repeat (first | refine blk_drewN ?_ _ | refine blk_drew ?_ | refine blk_alloc ?_ _)); exact BK164.out⟩
 have n4_ : Aside0 (((((w45.setCell ⟨gb164, 0, none⟩ (.int .u64 t160)).setCell ⟨gb164, 1, none⟩ (.int .u64 t161)).setCell ⟨gb165, 0, none⟩ (.int .u64 t162)).setCell ⟨gb165, 1, none⟩ (.int .u64 t163)).heap[gb165]? = some (.cells #[.int .u64 t162, .int .u64 t163] 40 (0, 0))) := ⟨by (with_reducible repeat (first | refine blk_drewN ?_ _ | refine blk_drew ?_ | refine blk_alloc ?_ _)); refine blk_put (cs := #[.int .u64 t162, .int .u64 0]) ?_ 1 _ rfl; (with_reducible repeat (first | refine blk_drewN ?_ _ | refine blk_drew ?_ | refine blk_alloc ?_ _)); refine blk_put (cs := #[.int .u64 0, .int .u64 0]) ?_ 0 _ rfl; (with_reducible repeat (first | refine blk_drewN ?_ _ | refine blk_drew ?_ | refine blk_alloc ?_ _)); refine blk_far ?_ NB165_164.out _; (with_reducible repeat (first | refine blk_drewN ?_ _ | refine blk_drew ?_ | refine blk_alloc ?_ _)); refine blk_far ?_ NB165_164.out _; (with_reducible repeat (first | refine blk_drewN ?_ _ | refine blk_drew ?_ | refine blk_alloc ?_ _)); exact BK165.out⟩
 have n5_ : Aside0 (Below w.heap.size w ((((w45.setCell ⟨gb164, 0, none⟩ (.int .u64 t160)).setCell ⟨gb164, 1, none⟩ (.int .u64 t161)).setCell ⟨gb165, 0, none⟩ (.int .u64 t162)).setCell ⟨gb165, 1, none⟩ (.int .u64 t163))) := ⟨by repeat (first | (with_reducible first | exact HB.out | apply below_alloc | apply pw_below_drewN | apply below_drew1 | refine below_set ?_ GE149.out | refine below_set ?_ GE155.out | refine below_set ?_ GE159.out | refine below_set ?_ GE164.out | refine below_set ?_ GE165.out) | exact HB.out)⟩
 (try clear BK149)
 (try clear BK155)
 (try clear BK159)
 (try clear BK164)
 (try clear BK165)
 (try clear HB)
 generalize ((((w45.setCell ⟨gb164, 0, none⟩ (.int .u64 t160)).setCell ⟨gb164, 1, none⟩ (.int .u64 t161)).setCell ⟨gb165, 0, none⟩ (.int .u64 t162)).setCell ⟨gb165, 1, none⟩ (.int .u64 t163)) = w50 at n0_ n1_ n2_ n3_ n4_ n5_ ⊢
 have BK149 := n0_
 have BK155 := n1_
 have BK159 := n2_
 have BK164 := n3_
 have BK165 := n4_
 have HB := n5_
 clear n0_ n1_ n2_ n3_ n4_ n5_
 have n0_ := Aside0.mk (blk_drew BK149.out)
 have n1_ := Aside0.mk (blk_drew BK155.out)
 have n2_ := Aside0.mk (blk_drew BK159.out)
 have n3_ := Aside0.mk (blk_drew BK164.out)
 have n4_ := Aside0.mk (blk_drew BK165.out)
 have n5_ := Aside0.mk (below_drew1 HB.out)
 clear BK149 BK155 BK159 BK164 BK165 HB
 have BK149 := n0_
 have BK155 := n1_
 have BK159 := n2_
 have BK164 := n3_
 have BK165 := n4_
 have HB := n5_
 clear n0_ n1_ n2_ n3_ n4_ n5_
 refine start_ (n := 9) (S := fun w' => w'.cell? ⟨gb164, 0, none⟩ = some (.int .u64 t160) ∧ w'.cell? ⟨gb164, 1, none⟩ = some (.int .u64 t161) ∧ w'.cell? ⟨gb165, 0, none⟩ = some (.int .u64 t162) ∧ w'.cell? ⟨gb165, 1, none⟩ = some (.int .u64 t163)) (ds := []) #[false, false, false, false, false, false, false, false, false] (by kernel_rfl) rfl rfl ⟨(blk_cell BK164.out 0).trans rfl, (blk_cell BK164.out 1).trans rfl, (blk_cell BK165.out 0).trans rfl, (blk_cell BK165.out 1).trans rfl⟩ (fun hHeld => ?_); refine with_tabW abacistlaw01_WideRems.tab8 abacistlaw01_WideRems.bits8 (fun HT_ HW_ => ?_)
 generalize w50.drew = w51 at BK149 BK155 BK159 BK164 BK165 HB hHeld ⊢
 refine pure_ (i := 3) (N := some 52) (v := ?_) (a' := ?_) #[false, false, false, true, false, false, false, false, false] rfl rfl (any_of HT_.out (by kernel_rfl)) (fun _ _ _ h => h) (Or.inl ⟨by rfl, ?_⟩) ?_ ?_
 rotate_left
 {
 intro w'
 go_simp
 with_reducible rfl
 }
 rotate_left
 {
 simp only [Act.put, List.setIfInBounds_toArray, List.set_cons_zero, List.set_cons_succ, i64_w, i32_w]
 rfl
 }
 refine pure_ (i := 4) (N := some 53) (v := ?_) (a' := ?_) #[false, false, false, true, true, false, false, false, false] rfl rfl (any_of HT_.out (by kernel_rfl)) (fun _ _ _ h => h) (Or.inl ⟨by rfl, ?_⟩) ?_ ?_
 rotate_left
 {
 intro w'
 go_simp
 with_reducible rfl
 }
 rotate_left
 {
 simp only [Act.put, List.setIfInBounds_toArray, List.set_cons_zero, List.set_cons_succ, i64_w, i32_w]
 rfl
 }
 refine take_ (i := 0) (N := some 49) (v := ?_) (a' := ?_) #[true, false, false, true, true, false, false, false, false] rfl rfl (take_ofW HT_.out HW_.out (by kernel_rfl)) (fun _ _ _ h => h) (Or.inl ⟨by rfl, ?_⟩) hHeld ?_ ?_
 rotate_left
 {
 rintro w' ⟨s0, s1, s2, s3⟩
 go_simp
 with_reducible rfl
 }
 rotate_left
 {
 simp only [Act.put, List.setIfInBounds_toArray, List.set_cons_zero, List.set_cons_succ, i64_w, i32_w]
 rfl
 }
 refine take_ (i := 1) (N := some 50) (v := ?_) (a' := ?_) #[true, true, false, true, true, false, false, false, false] rfl rfl (take_ofW HT_.out HW_.out (by kernel_rfl)) (fun _ _ _ h => h) (Or.inl ⟨by rfl, ?_⟩) hHeld ?_ ?_
 rotate_left
 {
 rintro w' ⟨s0, s1, s2, s3⟩
 go_simp
 with_reducible rfl
 }
 rotate_left
 {
 simp only [Act.put, List.setIfInBounds_toArray, List.set_cons_zero, List.set_cons_succ, i64_w, i32_w]
 rfl
 }
 refine join_ (σ := Value × Nat) 1 #[true, true, true, true, true, true, true, true, false] (fun s_ => [(51, .agg #[.int .u64 t166, .int .u64 t167]), (54, s_.1), (55, .agg #[.int .u64 t171, .int .u64 t172]), (12, .pointer (some ⟨s_.2, 0, none⟩))]) (fun s_ w' => (w'.cell? ⟨gb164, 0, none⟩ = some (.int .u64 t160) ∧ w'.cell? ⟨gb164, 1, none⟩ = some (.int .u64 t161) ∧ w'.cell? ⟨gb165, 0, none⟩ = some (.int .u64 t162) ∧ w'.cell? ⟨gb165, 1, none⟩ = some (.int .u64 t163)) ∧ (Kd.R k40 40 w' w.heap.size (fun k_ => k_ ≠ gb149 ∧ k_ ≠ gb155 ∧ k_ ≠ gb159 ∧ k_ ≠ gb164 ∧ k_ ≠ gb165 ∧ k_ ≠ s_.2) s_.1 y168) ∧ (w'.heap[gb149]? = some (.cells #[.int .u64 a0_0, .int .u64 a0_1] 40 (0, 0))) ∧ (w'.heap[gb155]? = some (.cells #[.int .u64 t151, .int .u64 t152] 40 (0, 0))) ∧ (w'.heap[gb159]? = some (.cells #[.int .u64 t156, .int .u64 t157] 40 (0, 0))) ∧ (w'.heap[gb164]? = some (.cells #[.int .u64 t160, .int .u64 t161] 40 (0, 0))) ∧ (w'.heap[gb165]? = some (.cells #[.int .u64 t162, .int .u64 t163] 40 (0, 0))) ∧ (w'.heap[s_.2]? = some (.cells #[.int .u64 0, .int .u64 0] 40 (0, 0))) ∧ (w.heap.size ≤ s_.2) ∧ (w.heap.size ≤ s_.2) ∧ (gb149 ≠ s_.2) ∧ (s_.2 ≠ gb149) ∧ (gb155 ≠ s_.2) ∧ (s_.2 ≠ gb155) ∧ (gb159 ≠ s_.2) ∧ (s_.2 ≠ gb159) ∧ (gb164 ≠ s_.2) ∧ (s_.2 ≠ gb164) ∧ (gb165 ≠ s_.2) ∧ (s_.2 ≠ gb165) ∧ (Below w.heap.size w w')) ?_ ?_
 rotate_left
 {
 intro hCont
 refine two_ (i := 2) (j := 7) (Ni := some 51) (Nj := some 12) #[true, true, true, true, true, false, false, false, false] #[true, true, false, true, true, false, false, true, false] rfl rfl rfl rfl (two_of HT_.out (by kernel_rfl)) (by decide) (by decide) (fun K hK => ?_) (fun K hK => ?_)
 {
 skip
 refine goes_ Try.func25 (by kernel_rfl) rfl #[.agg #[.int .u64 t162, .int .u64 t163], .int .i64 64] (by rfl) rfl rfl (by (try simp only [List.map_toArray, List.map_cons, List.map_nil]); first | done | rfl | (simp only [List.length_drop, List.length_take]; rfl)) ?_
 with_reducible refine (wide_Shl.calls t162 t163 64 t166 t167 _ A19.out).mono ?_
 rintro e w52 ⟨rfl, hb⟩
 refine ⟨_, rfl, ?_⟩
 have n0_ := Aside0.mk (blk_below (g := gb149) (o := .cells #[.int .u64 a0_0, .int .u64 a0_1] 40 (0, 0)) (by (with_reducible repeat (first | refine blk_drewN ?_ _ | refine blk_drew ?_ | refine blk_alloc ?_ _)); exact BK149.out) hb)
 have n1_ := Aside0.mk (blk_below (g := gb155) (o := .cells #[.int .u64 t151, .int .u64 t152] 40 (0, 0)) (by (with_reducible repeat (first | refine blk_drewN ?_ _ | refine blk_drew ?_ | refine blk_alloc ?_ _)); exact BK155.out) hb)
 have n2_ := Aside0.mk (blk_below (g := gb159) (o := .cells #[.int .u64 t156, .int .u64 t157] 40 (0, 0)) (by (with_reducible repeat (first | refine blk_drewN ?_ _ | refine blk_drew ?_ | refine blk_alloc ?_ _)); exact BK159.out) hb)
 have n3_ := Aside0.mk (blk_below (g := gb164) (o := .cells #[.int .u64 t160, .int .u64 t161] 40 (0, 0)) (by (with_reducible repeat (first | refine blk_drewN ?_ _ | refine blk_drew ?_ | refine blk_alloc ?_ _)); exact BK164.out) hb)
 have n4_ := Aside0.mk (blk_below (g := gb165) (o := .cells #[.int .u64 t162, .int .u64 t163] 40 (0, 0)) (by (with_reducible repeat (first | refine blk_drewN ?_ _ | refine blk_drew ?_ | refine blk_alloc ?_ _)); exact BK165.out) hb)
 have n5_ := Aside0.mk (below_step (by repeat (first | (with_reducible first | exact HB.out | apply below_alloc | apply pw_below_drewN | apply below_drew1 | refine below_set ?_ GE149.out | refine below_set ?_ GE155.out | refine below_set ?_ GE159.out | refine below_set ?_ GE164.out | refine below_set ?_ GE165.out) | exact HB.out)) hb)
 clear BK149 BK155 BK159 BK164 BK165 HB
 have BK149 := n0_
 have BK155 := n1_
 have BK159 := n2_
 have BK164 := n3_
 have BK165 := n4_
 have HB := n5_
 clear n0_ n1_ n2_ n3_ n4_ n5_
 (try clear hb)
 (try clear hb2)
 (try clear hk)
 (try clear hi)
 refine hK.out _ _ ⟨(blk_cell BK164.out 0).trans rfl, (blk_cell BK164.out 1).trans rfl, (blk_cell BK165.out 0).trans rfl, (blk_cell BK165.out 1).trans rfl⟩ (fun hHeld => ?_)
 clear hK K
 refine norm_ (a' := ?_) ?_ ?_
 rotate_left
 {
 show Act.put _ (some 51) _ = _
 simp only [Act.put, List.setIfInBounds_toArray, List.set_cons_zero, List.set_cons_succ, i64_w, i32_w]
 rfl
 }
 refine two_ (i := 5) (j := 7) (Ni := some 54) (Nj := some 12) #[true, true, true, true, true, true, false, false, false] #[true, true, true, true, true, false, false, true, false] rfl rfl rfl rfl (two_of HT_.out (by kernel_rfl)) (by decide) (by decide) (fun K hK => ?_) (fun K hK => ?_)
 {
 skip
 refine Kd.R_lit_step k40 _ 40 ?hg (N := 54) ?hd (xs := ([(⟨t160, t161⟩ : S40), (⟨t166, t167⟩ : S40), (⟨0, t153⟩ : S40)] : List (S40))) (inner := [.int .u64 t160, .int .u64 t161, .int .u64 t166, .int .u64 t167, .int .u64 0, .int .u64 t153]) (ok := fun _ => True) (okp := fun _ => True) ?hr ?hp (fun _ hk => hk) trivial (Below.refl _ _) (Nat.le_refl _) (by simp) ?_; (case hd => rfl); (case hg => rfl); (case hr => first | (go_simp; done) | (go_simp; rfl)); (case hp => exact (Reps.c2 (show Kd.M k40 _ _ _ (⟨t160, t161⟩ : S40) [.int .u64 t160, .int .u64 t161] from (k40_mkM _ _ _ (⟨t160, t161⟩ : S40) )) (Reps.c2 (show Kd.M k40 _ _ _ (⟨t166, t167⟩ : S40) [.int .u64 t166, .int .u64 t167] from (k40_mkM _ _ _ (⟨t166, t167⟩ : S40) )) (Reps.c2 (show Kd.M k40 _ _ _ (⟨0, t153⟩ : S40) [.int .u64 0, .int .u64 t153] from (k40_mkM _ _ _ (⟨0, t153⟩ : S40) )) (Reps.none _ _)))))
 intro v169 w53 ho54 hb hg_ hnew_
 clear hg_ hnew_
 (first | rw [← Ny168.out] at ho54 | (simp only [Int.reduceToNat] at ho54; rw [← Ny168.out] at ho54))
 have n0_ := Aside0.mk (Kd.R_lower (Kd.R_newB (Kd.R_newB (Kd.R_newB (Kd.R_newB (Kd.R_newB ho54 (g := gb149) (o := .cells #[.int .u64 a0_0, .int .u64 a0_1] 40 (0, 0)) (by (with_reducible repeat (first | refine blk_drewN ?_ _ | refine blk_drew ?_ | refine blk_alloc ?_ _)); exact BK149.out)) (g := gb155) (o := .cells #[.int .u64 t151, .int .u64 t152] 40 (0, 0)) (by (with_reducible repeat (first | refine blk_drewN ?_ _ | refine blk_drew ?_ | refine blk_alloc ?_ _)); exact BK155.out)) (g := gb159) (o := .cells #[.int .u64 t156, .int .u64 t157] 40 (0, 0)) (by (with_reducible repeat (first | refine blk_drewN ?_ _ | refine blk_drew ?_ | refine blk_alloc ?_ _)); exact BK159.out)) (g := gb164) (o := .cells #[.int .u64 t160, .int .u64 t161] 40 (0, 0)) (by (with_reducible repeat (first | refine blk_drewN ?_ _ | refine blk_drew ?_ | refine blk_alloc ?_ _)); exact BK164.out)) (g := gb165) (o := .cells #[.int .u64 t162, .int .u64 t163] 40 (0, 0)) (by (with_reducible repeat (first | refine blk_drewN ?_ _ | refine blk_drew ?_ | refine blk_alloc ?_ _)); exact BK165.out)) (below_size (by repeat (first | (with_reducible first | exact HB.out | apply below_alloc | apply pw_below_drewN | apply below_drew1 | refine below_set ?_ GE149.out | refine below_set ?_ GE155.out | refine below_set ?_ GE159.out | refine below_set ?_ GE164.out | refine below_set ?_ GE165.out) | exact HB.out))))
 have n1_ := Aside0.mk (blk_below (g := gb149) (o := .cells #[.int .u64 a0_0, .int .u64 a0_1] 40 (0, 0)) (by (with_reducible repeat (first | refine blk_drewN ?_ _ | refine blk_drew ?_ | refine blk_alloc ?_ _)); exact BK149.out) hb)
 have n2_ := Aside0.mk (blk_below (g := gb155) (o := .cells #[.int .u64 t151, .int .u64 t152] 40 (0, 0)) (by (with_reducible repeat (first | refine blk_drewN ?_ _ | refine blk_drew ?_ | refine blk_alloc ?_ _)); exact BK155.out) hb)
 have n3_ := Aside0.mk (blk_below (g := gb159) (o := .cells #[.int .u64 t156, .int .u64 t157] 40 (0, 0)) (by (with_reducible repeat (first | refine blk_drewN ?_ _ | refine blk_drew ?_ | refine blk_alloc ?_ _)); exact BK159.out) hb)
 have n4_ := Aside0.mk (blk_below (g := gb164) (o := .cells #[.int .u64 t160, .int .u64 t161] 40 (0, 0)) (by (with_reducible repeat (first | refine blk_drewN ?_ _ | refine blk_drew ?_ | refine blk_alloc ?_ _)); exact BK164.out) hb)
 have n5_ := Aside0.mk (blk_below (g := gb165) (o := .cells #[.int .u64 t162, .int .u64 t163] 40 (0, 0)) (by (with_reducible repeat (first | refine blk_drewN ?_ _ | refine blk_drew ?_ | refine blk_alloc ?_ _)); exact BK165.out) hb)
 have n6_ := Aside0.mk (below_step (by repeat (first | (with_reducible first | exact HB.out | apply below_alloc | apply pw_below_drewN | apply below_drew1 | refine below_set ?_ GE149.out | refine below_set ?_ GE155.out | refine below_set ?_ GE159.out | refine below_set ?_ GE164.out | refine below_set ?_ GE165.out) | exact HB.out)) hb)
 clear BK149 BK155 BK159 BK164 BK165 HB
 have HO170 := n0_
 have BK149 := n1_
 have BK155 := n2_
 have BK159 := n3_
 have BK164 := n4_
 have BK165 := n5_
 have HB := n6_
 clear n0_ n1_ n2_ n3_ n4_ n5_ n6_ hb ho54
 obtain ⟨Ao55, co55, eo55⟩ := Kd.R_slice HO170.out
 (first | subst eo55 | (injection eo55 with f1_ f2_ f3_; have f4_ := f1_.symm; have f5_ := f3_.symm; clear f1_ f2_ f3_; subst f4_; subst f5_))
 refine hK.out _ _ ⟨(blk_cell BK164.out 0).trans rfl, (blk_cell BK164.out 1).trans rfl, (blk_cell BK165.out 0).trans rfl, (blk_cell BK165.out 1).trans rfl⟩ (fun hHeld => ?_)
 clear hK K
 refine norm_ (a' := ?_) ?_ ?_
 rotate_left
 {
 show Act.put _ (some 54) _ = _
 simp only [Act.put, List.setIfInBounds_toArray, List.set_cons_zero, List.set_cons_succ, i64_w, i32_w]
 rfl
 }
 refine two_ (i := 6) (j := 7) (Ni := some 55) (Nj := some 12) #[true, true, true, true, true, true, true, false, false] #[true, true, true, true, true, true, false, true, false] rfl rfl rfl rfl (two_of HT_.out (by kernel_rfl)) (by decide) (by decide) (fun K hK => ?_) (fun K hK => ?_)
 {
 skip
 refine goes_ Try.func24 (by kernel_rfl) rfl #[.slice Ao55 y168.length co55] (by rfl) rfl rfl (by (try simp only [List.map_toArray, List.map_cons, List.map_nil]); first | done | rfl | (simp only [List.length_drop, List.length_take]; rfl)) ?_
 with_reducible refine (wide_Sum.calls k _ _ y168 t171 t172 _ ?side1 ?side2 A20.out).mono ?_
 (case side1 => repeat (first | exact (Kd.R_reads' HO170.out).2.2 | (with_reducible refine Kd.C_alloc ?_ _) | (with_reducible refine Kd.C_drewN ?_ _) | (with_reducible refine Kd.C_drew ?_)))
 (case side2 => exact (Kd.R_reads' HO170.out).2.1)
 rintro e w56 ⟨rfl, hb⟩
 refine ⟨_, rfl, ?_⟩
 have n0_ := Aside0.mk (Kd.R_below (by (with_reducible repeat (first | apply Kd.R_alloc | apply Kd.R_drewN | apply Kd.R_drew)); exact HO170.out) hb)
 have n1_ := Aside0.mk (blk_below (g := gb149) (o := .cells #[.int .u64 a0_0, .int .u64 a0_1] 40 (0, 0)) (by (with_reducible repeat (first | refine blk_drewN ?_ _ | refine blk_drew ?_ | refine blk_alloc ?_ _)); exact BK149.out) hb)
 have n2_ := Aside0.mk (blk_below (g := gb155) (o := .cells #[.int .u64 t151, .int .u64 t152] 40 (0, 0)) (by (with_reducible repeat (first | refine blk_drewN ?_ _ | refine blk_drew ?_ | refine blk_alloc ?_ _)); exact BK155.out) hb)
 have n3_ := Aside0.mk (blk_below (g := gb159) (o := .cells #[.int .u64 t156, .int .u64 t157] 40 (0, 0)) (by (with_reducible repeat (first | refine blk_drewN ?_ _ | refine blk_drew ?_ | refine blk_alloc ?_ _)); exact BK159.out) hb)
 have n4_ := Aside0.mk (blk_below (g := gb164) (o := .cells #[.int .u64 t160, .int .u64 t161] 40 (0, 0)) (by (with_reducible repeat (first | refine blk_drewN ?_ _ | refine blk_drew ?_ | refine blk_alloc ?_ _)); exact BK164.out) hb)
 have n5_ := Aside0.mk (blk_below (g := gb165) (o := .cells #[.int .u64 t162, .int .u64 t163] 40 (0, 0)) (by (with_reducible repeat (first | refine blk_drewN ?_ _ | refine blk_drew ?_ | refine blk_alloc ?_ _)); exact BK165.out) hb)
 have n6_ := Aside0.mk (below_step (by repeat (first | (with_reducible first | exact HB.out | apply below_alloc | apply pw_below_drewN | apply below_drew1 | refine below_set ?_ GE149.out | refine below_set ?_ GE155.out | refine below_set ?_ GE159.out | refine below_set ?_ GE164.out | refine below_set ?_ GE165.out) | exact HB.out)) hb)
 clear HO170 BK149 BK155 BK159 BK164 BK165 HB
 have HO170 := n0_
 have BK149 := n1_
 have BK155 := n2_
 have BK159 := n3_
 have BK164 := n4_
 have BK165 := n5_
 have HB := n6_
 clear n0_ n1_ n2_ n3_ n4_ n5_ n6_
 (try clear hb)
 (try clear hb2)
 (try clear hk)
 (try clear hi)
 refine hK.out _ _ ⟨(blk_cell BK164.out 0).trans rfl, (blk_cell BK164.out 1).trans rfl, (blk_cell BK165.out 0).trans rfl, (blk_cell BK165.out 1).trans rfl⟩ (fun hHeld => ?_)
 clear hK K
 refine norm_ (a' := ?_) ?_ ?_
 rotate_left
 {
 show Act.put _ (some 55) _ = _
 simp only [Act.put, List.setIfInBounds_toArray, List.set_cons_zero, List.set_cons_succ, i64_w, i32_w]
 rfl
 }
 refine one_ (i := 7) (N := some 12) #[true, true, true, true, true, true, true, true, false] rfl rfl (one_of HT_.out (by kernel_rfl)) (by decide) (fun K hK => ?_)
 refine box_step ?hg (N := 12) ?hd (cs := #[.int .u64 0, .int .u64 0]) (t := 40) ?hr ?_; (case hd => rfl); (case hg => rfl); (case hr => first | (go_simp; done) | (go_simp; rfl))
 intro gb173 hg w57 hbox hb
 have n0_ := Aside0.mk (Kd.R_below (Kd.R_elderB (by (with_reducible repeat (first | apply Kd.R_alloc | apply Kd.R_drewN | apply Kd.R_drew)); exact HO170.out) gb173 (Nat.le_of_eq hg.symm)) hb)
 have n1_ := Aside0.mk (blk_below (g := gb149) (o := .cells #[.int .u64 a0_0, .int .u64 a0_1] 40 (0, 0)) (by (with_reducible repeat (first | refine blk_drewN ?_ _ | refine blk_drew ?_ | refine blk_alloc ?_ _)); exact BK149.out) hb)
 have n2_ := Aside0.mk (blk_below (g := gb155) (o := .cells #[.int .u64 t151, .int .u64 t152] 40 (0, 0)) (by (with_reducible repeat (first | refine blk_drewN ?_ _ | refine blk_drew ?_ | refine blk_alloc ?_ _)); exact BK155.out) hb)
 have n3_ := Aside0.mk (blk_below (g := gb159) (o := .cells #[.int .u64 t156, .int .u64 t157] 40 (0, 0)) (by (with_reducible repeat (first | refine blk_drewN ?_ _ | refine blk_drew ?_ | refine blk_alloc ?_ _)); exact BK159.out) hb)
 have n4_ := Aside0.mk (blk_below (g := gb164) (o := .cells #[.int .u64 t160, .int .u64 t161] 40 (0, 0)) (by (with_reducible repeat (first | refine blk_drewN ?_ _ | refine blk_drew ?_ | refine blk_alloc ?_ _)); exact BK164.out) hb)
 have n5_ := Aside0.mk (blk_below (g := gb165) (o := .cells #[.int .u64 t162, .int .u64 t163] 40 (0, 0)) (by (with_reducible repeat (first | refine blk_drewN ?_ _ | refine blk_drew ?_ | refine blk_alloc ?_ _)); exact BK165.out) hb)
 have n6_ := Aside0.mk (below_step (by repeat (first | (with_reducible first | exact HB.out | apply below_alloc | apply pw_below_drewN | apply below_drew1 | refine below_set ?_ GE149.out | refine below_set ?_ GE155.out | refine below_set ?_ GE159.out | refine below_set ?_ GE164.out | refine below_set ?_ GE165.out) | exact HB.out)) hb)
 have n7_ := Aside0.mk (hbox)
 have n8_ := Aside0.mk ((by rw [hg]; exact (below_size (by repeat (first | (with_reducible first | exact HB.out | apply below_alloc | apply pw_below_drewN | apply below_drew1 | refine below_set ?_ GE149.out | refine below_set ?_ GE155.out | refine below_set ?_ GE159.out | refine below_set ?_ GE164.out | refine below_set ?_ GE165.out) | exact HB.out))) : w.heap.size ≤ gb173))
 have n9_ := Aside0.mk ((by rw [hg]; exact (below_size (by repeat (first | (with_reducible first | exact HB.out | apply below_alloc | apply pw_below_drewN | apply below_drew1 | refine below_set ?_ GE149.out | refine below_set ?_ GE155.out | refine below_set ?_ GE159.out | refine below_set ?_ GE164.out | refine below_set ?_ GE165.out) | exact HB.out))) : w.heap.size ≤ gb173))
 have n10_ := Aside0.mk ((by rw [hg]; exact Nat.ne_of_lt (blk_lt (g := gb149) (o := .cells #[.int .u64 a0_0, .int .u64 a0_1] 40 (0, 0)) (by (with_reducible repeat (first | refine blk_drewN ?_ _ | refine blk_drew ?_ | refine blk_alloc ?_ _)); exact BK149.out)) : gb149 ≠ gb173))
 have n11_ := Aside0.mk ((by rw [hg]; exact Nat.ne_of_gt (blk_lt (g := gb149) (o := .cells #[.int .u64 a0_0, .int .u64 a0_1] 40 (0, 0)) (by (with_reducible repeat (first | refine blk_drewN ?_ _ | refine blk_drew ?_ | refine blk_alloc ?_ _)); exact BK149.out)) : gb173 ≠ gb149))
 have n12_ := Aside0.mk ((by rw [hg]; exact Nat.ne_of_lt (blk_lt (g := gb155) (o := .cells #[.int .u64 t151, .int .u64 t152] 40 (0, 0)) (by (with_reducible repeat (first | refine blk_drewN ?_ _ | refine blk_drew ?_ | refine blk_alloc ?_ _)); exact BK155.out)) : gb155 ≠ gb173))
 have n13_ := Aside0.mk ((by rw [hg]; exact Nat.ne_of_gt (blk_lt (g := gb155) (o := .cells #[.int .u64 t151, .int .u64 t152] 40 (0, 0)) (by (with_reducible repeat (first | refine blk_drewN ?_ _ | refine blk_drew ?_ | refine blk_alloc ?_ _)); exact BK155.out)) : gb173 ≠ gb155))
 have n14_ := Aside0.mk ((by rw [hg]; exact Nat.ne_of_lt (blk_lt (g := gb159) (o := .cells #[.int .u64 t156, .int .u64 t157] 40 (0, 0)) (by (with_reducible repeat (first | refine blk_drewN ?_ _ | refine blk_drew ?_ | refine blk_alloc ?_ _)); exact BK159.out)) : gb159 ≠ gb173))
 have n15_ := Aside0.mk ((by rw [hg]; exact Nat.ne_of_gt (blk_lt (g := gb159) (o := .cells #[.int .u64 t156, .int .u64 t157] 40 (0, 0)) (by (with_reducible repeat (first | refine blk_drewN ?_ _ | refine blk_drew ?_ | refine blk_alloc ?_ _)); exact BK159.out)) : gb173 ≠ gb159))
 have n16_ := Aside0.mk ((by rw [hg]; exact Nat.ne_of_lt (blk_lt (g := gb164) (o := .cells #[.int .u64 t160, .int .u64 t161] 40 (0, 0)) (by (with_reducible repeat (first | refine blk_drewN ?_ _ | refine blk_drew ?_ | refine blk_alloc ?_ _)); exact BK164.out)) : gb164 ≠ gb173))
 have n17_ := Aside0.mk ((by rw [hg]; exact Nat.ne_of_gt (blk_lt (g := gb164) (o := .cells #[.int .u64 t160, .int .u64 t161] 40 (0, 0)) (by (with_reducible repeat (first | refine blk_drewN ?_ _ | refine blk_drew ?_ | refine blk_alloc ?_ _)); exact BK164.out)) : gb173 ≠ gb164))
 have n18_ := Aside0.mk ((by rw [hg]; exact Nat.ne_of_lt (blk_lt (g := gb165) (o := .cells #[.int .u64 t162, .int .u64 t163] 40 (0, 0)) (by (with_reducible repeat (first | refine blk_drewN ?_ _ | refine blk_drew ?_ | refine blk_alloc ?_ _)); exact BK165.out)) : gb165 ≠ gb173))
 have n19_ := Aside0.mk ((by rw [hg]; exact Nat.ne_of_gt (blk_lt (g := gb165) (o := .cells #[.int .u64 t162, .int .u64 t163] 40 (0, 0)) (by (with_reducible repeat (first | refine blk_drewN ?_ _ | refine blk_drew ?_ | refine blk_alloc ?_ _)); exact BK165.out)) : gb173 ≠ gb165))
 clear HO170 BK149 BK155 BK159 BK164 BK165 HB
 have HO170 := n0_
 have BK149 := n1_
 have BK155 := n2_
 have BK159 := n3_
 have BK164 := n4_
 have BK165 := n5_
 have HB := n6_
 have BK173 := n7_
 have GW173 := n8_
 have GE173 := n9_
 have NB149_173 := n10_
 have NB173_149 := n11_
 have NB155_173 := n12_
 have NB173_155 := n13_
 have NB159_173 := n14_
 have NB173_159 := n15_
 have NB164_173 := n16_
 have NB173_164 := n17_
 have NB165_173 := n18_
 have NB173_165 := n19_
 clear n0_ n1_ n2_ n3_ n4_ n5_ n6_ n7_ n8_ n9_ n10_ n11_ n12_ n13_ n14_ n15_ n16_ n17_ n18_ n19_ hb hbox hg
 refine hK.out _ _ ⟨(blk_cell BK164.out 0).trans rfl, (blk_cell BK164.out 1).trans rfl, (blk_cell BK165.out 0).trans rfl, (blk_cell BK165.out 1).trans rfl⟩ (fun hHeld => ?_)
 clear hK K
 refine norm_ (a' := ?_) ?_ ?_
 rotate_left
 {
 show Act.put _ (some 12) _ = _
 simp only [Act.put, List.setIfInBounds_toArray, List.set_cons_zero, List.set_cons_succ, i64_w, i32_w]
 rfl
 }
 exact norm_ (by simp only [putAll, Act.put, List.setIfInBounds_toArray, List.set_cons_zero, List.set_cons_succ]) (hCont (.slice Ao55 y168.length co55, gb173) _ ⟨hHeld, (by (with_reducible repeat (first | apply Kd.R_alloc | apply Kd.R_drewN | apply Kd.R_drew)); exact Kd.R_mono HO170.out (fun _ hk => ⟨hk.1.1.1.1.1.2, ⟨hk.1.1.1.1.2, ⟨hk.1.1.1.2, ⟨hk.1.1.2, ⟨hk.1.2, hk.2⟩⟩⟩⟩⟩)), (by (with_reducible repeat (first | refine blk_drewN ?_ _ | refine blk_drew ?_ | refine blk_alloc ?_ _)); exact BK149.out), (by (with_reducible repeat (first | refine blk_drewN ?_ _ | refine blk_drew ?_ | refine blk_alloc ?_ _)); exact BK155.out), (by (with_reducible repeat (first | refine blk_drewN ?_ _ | refine blk_drew ?_ | refine blk_alloc ?_ _)); exact BK159.out), (by (with_reducible repeat (first | refine blk_drewN ?_ _ | refine blk_drew ?_ | refine blk_alloc ?_ _)); exact BK164.out), (by (with_reducible repeat (first | refine blk_drewN ?_ _ | refine blk_drew ?_ | refine blk_alloc ?_ _)); exact BK165.out), (by (with_reducible repeat (first | refine blk_drewN ?_ _ | refine blk_drew ?_ | refine blk_alloc ?_ _)); exact BK173.out), GW173.out, GE173.out, NB149_173.out, NB173_149.out, NB155_173.out, NB173_155.out, NB159_173.out, NB173_159.out, NB164_173.out, NB173_164.out, NB165_173.out, NB173_165.out, (by repeat (first | (with_reducible first | exact HB.out | apply below_alloc | apply pw_below_drewN | apply below_drew1 | refine below_set ?_ GE149.out | refine below_set ?_ GE155.out | refine below_set ?_ GE159.out | refine below_set ?_ GE164.out | refine below_set ?_ GE165.out | refine below_set ?_ GE173.out) | exact HB.out))⟩)
 }
 {
 skip
 refine box_step ?hg (N := 12) ?hd (cs := #[.int .u64 0, .int .u64 0]) (t := 40) ?hr ?_; (case hd => rfl); (case hg => rfl); (case hr => first | (go_simp; done) | (go_simp; rfl))
 intro gb173 hg w55 hbox hb
 have n0_ := Aside0.mk (Kd.R_below (Kd.R_elderB (by (with_reducible repeat (first | apply Kd.R_alloc | apply Kd.R_drewN | apply Kd.R_drew)); exact HO170.out) gb173 (Nat.le_of_eq hg.symm)) hb)
 have n1_ := Aside0.mk (blk_below (g := gb149) (o := .cells #[.int .u64 a0_0, .int .u64 a0_1] 40 (0, 0)) (by (with_reducible repeat (first | refine blk_drewN ?_ _ | refine blk_drew ?_ | refine blk_alloc ?_ _)); exact BK149.out) hb)
 have n2_ := Aside0.mk (blk_below (g := gb155) (o := .cells #[.int .u64 t151, .int .u64 t152] 40 (0, 0)) (by (with_reducible repeat (first | refine blk_drewN ?_ _ | refine blk_drew ?_ | refine blk_alloc ?_ _)); exact BK155.out) hb)
 have n3_ := Aside0.mk (blk_below (g := gb159) (o := .cells #[.int .u64 t156, .int .u64 t157] 40 (0, 0)) (by (with_reducible repeat (first | refine blk_drewN ?_ _ | refine blk_drew ?_ | refine blk_alloc ?_ _)); exact BK159.out) hb)
 have n4_ := Aside0.mk (blk_below (g := gb164) (o := .cells #[.int .u64 t160, .int .u64 t161] 40 (0, 0)) (by (with_reducible repeat (first | refine blk_drewN ?_ _ | refine blk_drew ?_ | refine blk_alloc ?_ _)); exact BK164.out) hb)
 have n5_ := Aside0.mk (blk_below (g := gb165) (o := .cells #[.int .u64 t162, .int .u64 t163] 40 (0, 0)) (by (with_reducible repeat (first | refine blk_drewN ?_ _ | refine blk_drew ?_ | refine blk_alloc ?_ _)); exact BK165.out) hb)
 have n6_ := Aside0.mk (below_step (by repeat (first | (with_reducible first | exact HB.out | apply below_alloc | apply pw_below_drewN | apply below_drew1 | refine below_set ?_ GE149.out | refine below_set ?_ GE155.out | refine below_set ?_ GE159.out | refine below_set ?_ GE164.out | refine below_set ?_ GE165.out) | exact HB.out)) hb)
 have n7_ := Aside0.mk (hbox)
 have n8_ := Aside0.mk ((by rw [hg]; exact (below_size (by repeat (first | (with_reducible first | exact HB.out | apply below_alloc | apply pw_below_drewN | apply below_drew1 | refine below_set ?_ GE149.out | refine below_set ?_ GE155.out | refine below_set ?_ GE159.out | refine below_set ?_ GE164.out | refine below_set ?_ GE165.out) | exact HB.out))) : w.heap.size ≤ gb173))
 have n9_ := Aside0.mk ((by rw [hg]; exact (below_size (by repeat (first | (with_reducible first | exact HB.out | apply below_alloc | apply pw_below_drewN | apply below_drew1 | refine below_set ?_ GE149.out | refine below_set ?_ GE155.out | refine below_set ?_ GE159.out | refine below_set ?_ GE164.out | refine below_set ?_ GE165.out) | exact HB.out))) : w.heap.size ≤ gb173))
 have n10_ := Aside0.mk ((by rw [hg]; exact Nat.ne_of_lt (blk_lt (g := gb149) (o := .cells #[.int .u64 a0_0, .int .u64 a0_1] 40 (0, 0)) (by (with_reducible repeat (first | refine blk_drewN ?_ _ | refine blk_drew ?_ | refine blk_alloc ?_ _)); exact BK149.out)) : gb149 ≠ gb173))
 have n11_ := Aside0.mk ((by rw [hg]; exact Nat.ne_of_gt (blk_lt (g := gb149) (o := .cells #[.int .u64 a0_0, .int .u64 a0_1] 40 (0, 0)) (by (with_reducible repeat (first | refine blk_drewN ?_ _ | refine blk_drew ?_ | refine blk_alloc ?_ _)); exact BK149.out)) : gb173 ≠ gb149))
 have n12_ := Aside0.mk ((by rw [hg]; exact Nat.ne_of_lt (blk_lt (g := gb155) (o := .cells #[.int .u64 t151, .int .u64 t152] 40 (0, 0)) (by (with_reducible repeat (first | refine blk_drewN ?_ _ | refine blk_drew ?_ | refine blk_alloc ?_ _)); exact BK155.out)) : gb155 ≠ gb173))
 have n13_ := Aside0.mk ((by rw [hg]; exact Nat.ne_of_gt (blk_lt (g := gb155) (o := .cells #[.int .u64 t151, .int .u64 t152] 40 (0, 0)) (by (with_reducible repeat (first | refine blk_drewN ?_ _ | refine blk_drew ?_ | refine blk_alloc ?_ _)); exact BK155.out)) : gb173 ≠ gb155))
 have n14_ := Aside0.mk ((by rw [hg]; exact Nat.ne_of_lt (blk_lt (g := gb159) (o := .cells #[.int .u64 t156, .int .u64 t157] 40 (0, 0)) (by (with_reducible repeat (first | refine blk_drewN ?_ _ | refine blk_drew ?_ | refine blk_alloc ?_ _)); exact BK159.out)) : gb159 ≠ gb173))
 have n15_ := Aside0.mk ((by rw [hg]; exact Nat.ne_of_gt (blk_lt (g := gb159) (o := .cells #[.int .u64 t156, .int .u64 t157] 40 (0, 0)) (by (with_reducible repeat (first | refine blk_drewN ?_ _ | refine blk_drew ?_ | refine blk_alloc ?_ _)); exact BK159.out)) : gb173 ≠ gb159))
 have n16_ := Aside0.mk ((by rw [hg]; exact Nat.ne_of_lt (blk_lt (g := gb164) (o := .cells #[.int .u64 t160, .int .u64 t161] 40 (0, 0)) (by (with_reducible repeat (first | refine blk_drewN ?_ _ | refine blk_drew ?_ | refine blk_alloc ?_ _)); exact BK164.out)) : gb164 ≠ gb173))
 have n17_ := Aside0.mk ((by rw [hg]; exact Nat.ne_of_gt (blk_lt (g := gb164) (o := .cells #[.int .u64 t160, .int .u64 t161] 40 (0, 0)) (by (with_reducible repeat (first | refine blk_drewN ?_ _ | refine blk_drew ?_ | refine blk_alloc ?_ _)); exact BK164.out)) : gb173 ≠ gb164))
 have n18_ := Aside0.mk ((by rw [hg]; exact Nat.ne_of_lt (blk_lt (g := gb165) (o := .cells #[.int .u64 t162, .int .u64 t163] 40 (0, 0)) (by (with_reducible repeat (first | refine blk_drewN ?_ _ | refine blk_drew ?_ | refine blk_alloc ?_ _)); exact BK165.out)) : gb165 ≠ gb173))
 have n19_ := Aside0.mk ((by rw [hg]; exact Nat.ne_of_gt (blk_lt (g := gb165) (o := .cells #[.int .u64 t162, .int .u64 t163] 40 (0, 0)) (by (with_reducible repeat (first | refine blk_drewN ?_ _ | refine blk_drew ?_ | refine blk_alloc ?_ _)); exact BK165.out)) : gb173 ≠ gb165))
 clear HO170 BK149 BK155 BK159 BK164 BK165 HB
 have HO170 := n0_
 have BK149 := n1_
 have BK155 := n2_
 have BK159 := n3_
 have BK164 := n4_
 have BK165 := n5_
 have HB := n6_
 have BK173 := n7_
 have GW173 := n8_
 have GE173 := n9_
 have NB149_173 := n10_
 have NB173_149 := n11_
 have NB155_173 := n12_
 have NB173_155 := n13_
 have NB159_173 := n14_
 have NB173_159 := n15_
 have NB164_173 := n16_
 have NB173_164 := n17_
 have NB165_173 := n18_
 have NB173_165 := n19_
 clear n0_ n1_ n2_ n3_ n4_ n5_ n6_ n7_ n8_ n9_ n10_ n11_ n12_ n13_ n14_ n15_ n16_ n17_ n18_ n19_ hb hbox hg
 obtain ⟨Ao56, co56, eo56⟩ := Kd.R_slice HO170.out
 (first | subst eo56 | (injection eo56 with f1_ f2_ f3_; have f4_ := f1_.symm; have f5_ := f3_.symm; clear f1_ f2_ f3_; subst f4_; subst f5_))
 refine hK.out _ _ ⟨(blk_cell BK164.out 0).trans rfl, (blk_cell BK164.out 1).trans rfl, (blk_cell BK165.out 0).trans rfl, (blk_cell BK165.out 1).trans rfl⟩ (fun hHeld => ?_)
 clear hK K
 refine norm_ (a' := ?_) ?_ ?_
 rotate_left
 {
 show Act.put _ (some 12) _ = _
 simp only [Act.put, List.setIfInBounds_toArray, List.set_cons_zero, List.set_cons_succ, i64_w, i32_w]
 rfl
 }
 refine one_ (i := 6) (N := some 55) #[true, true, true, true, true, true, true, true, false] rfl rfl (one_of HT_.out (by kernel_rfl)) (by decide) (fun K hK => ?_)
 refine goes_ Try.func24 (by kernel_rfl) rfl #[.slice Ao56 y168.length co56] (by rfl) rfl rfl (by (try simp only [List.map_toArray, List.map_cons, List.map_nil]); first | done | rfl | (simp only [List.length_drop, List.length_take]; rfl)) ?_
 with_reducible refine (wide_Sum.calls k _ _ y168 t171 t172 _ ?side1 ?side2 A20.out).mono ?_
 (case side1 => repeat (first | exact (Kd.R_reads' HO170.out).2.2 | (with_reducible refine Kd.C_alloc ?_ _) | (with_reducible refine Kd.C_drewN ?_ _) | (with_reducible refine Kd.C_drew ?_)))
 (case side2 => exact (Kd.R_reads' HO170.out).2.1)
 rintro e w57 ⟨rfl, hb⟩
 refine ⟨_, rfl, ?_⟩
 have n0_ := Aside0.mk (Kd.R_below (by (with_reducible repeat (first | apply Kd.R_alloc | apply Kd.R_drewN | apply Kd.R_drew)); exact HO170.out) hb)
 have n1_ := Aside0.mk (blk_below (g := gb149) (o := .cells #[.int .u64 a0_0, .int .u64 a0_1] 40 (0, 0)) (by (with_reducible repeat (first | refine blk_drewN ?_ _ | refine blk_drew ?_ | refine blk_alloc ?_ _)); exact BK149.out) hb)
 have n2_ := Aside0.mk (blk_below (g := gb155) (o := .cells #[.int .u64 t151, .int .u64 t152] 40 (0, 0)) (by (with_reducible repeat (first | refine blk_drewN ?_ _ | refine blk_drew ?_ | refine blk_alloc ?_ _)); exact BK155.out) hb)
 have n3_ := Aside0.mk (blk_below (g := gb159) (o := .cells #[.int .u64 t156, .int .u64 t157] 40 (0, 0)) (by (with_reducible repeat (first | refine blk_drewN ?_ _ | refine blk_drew ?_ | refine blk_alloc ?_ _)); exact BK159.out) hb)
 have n4_ := Aside0.mk (blk_below (g := gb164) (o := .cells #[.int .u64 t160, .int .u64 t161] 40 (0, 0)) (by (with_reducible repeat (first | refine blk_drewN ?_ _ | refine blk_drew ?_ | refine blk_alloc ?_ _)); exact BK164.out) hb)
 have n5_ := Aside0.mk (blk_below (g := gb165) (o := .cells #[.int .u64 t162, .int .u64 t163] 40 (0, 0)) (by (with_reducible repeat (first | refine blk_drewN ?_ _ | refine blk_drew ?_ | refine blk_alloc ?_ _)); exact BK165.out) hb)
 have n6_ := Aside0.mk (blk_below (g := gb173) (o := .cells #[.int .u64 0, .int .u64 0] 40 (0, 0)) (by (with_reducible repeat (first | refine blk_drewN ?_ _ | refine blk_drew ?_ | refine blk_alloc ?_ _)); exact BK173.out) hb)
 have n7_ := Aside0.mk (below_step (by repeat (first | (with_reducible first | exact HB.out | apply below_alloc | apply pw_below_drewN | apply below_drew1 | refine below_set ?_ GE149.out | refine below_set ?_ GE155.out | refine below_set ?_ GE159.out | refine below_set ?_ GE164.out | refine below_set ?_ GE165.out | refine below_set ?_ GE173.out) | exact HB.out)) hb)
 clear HO170 BK149 BK155 BK159 BK164 BK165 BK173 HB
 have HO170 := n0_
 have BK149 := n1_
 have BK155 := n2_
 have BK159 := n3_
 have BK164 := n4_
 have BK165 := n5_
 have BK173 := n6_
 have HB := n7_
 clear n0_ n1_ n2_ n3_ n4_ n5_ n6_ n7_
 (try clear hb)
 (try clear hb2)
 (try clear hk)
 (try clear hi)
 refine hK.out _ _ ⟨(blk_cell BK164.out 0).trans rfl, (blk_cell BK164.out 1).trans rfl, (blk_cell BK165.out 0).trans rfl, (blk_cell BK165.out 1).trans rfl⟩ (fun hHeld => ?_)
 clear hK K
 refine norm_ (a' := ?_) ?_ ?_
 rotate_left
 {
 show Act.put _ (some 55) _ = _
 simp only [Act.put, List.setIfInBounds_toArray, List.set_cons_zero, List.set_cons_succ, i64_w, i32_w]
 rfl
 }
 exact norm_ (by simp only [putAll, Act.put, List.setIfInBounds_toArray, List.set_cons_zero, List.set_cons_succ]) (hCont (.slice Ao56 y168.length co56, gb173) _ ⟨hHeld, (by (with_reducible repeat (first | apply Kd.R_alloc | apply Kd.R_drewN | apply Kd.R_drew)); exact Kd.R_mono HO170.out (fun _ hk => ⟨hk.1.1.1.1.1.2, ⟨hk.1.1.1.1.2, ⟨hk.1.1.1.2, ⟨hk.1.1.2, ⟨hk.1.2, hk.2⟩⟩⟩⟩⟩)), (by (with_reducible repeat (first | refine blk_drewN ?_ _ | refine blk_drew ?_ | refine blk_alloc ?_ _)); exact BK149.out), (by (with_reducible repeat (first | refine blk_drewN ?_ _ | refine blk_drew ?_ | refine blk_alloc ?_ _)); exact BK155.out), (by (with_reducible repeat (first | refine blk_drewN ?_ _ | refine blk_drew ?_ | refine blk_alloc ?_ _)); exact BK159.out), (by (with_reducible repeat (first | refine blk_drewN ?_ _ | refine blk_drew ?_ | refine blk_alloc ?_ _)); exact BK164.out), (by (with_reducible repeat (first | refine blk_drewN ?_ _ | refine blk_drew ?_ | refine blk_alloc ?_ _)); exact BK165.out), (by (with_reducible repeat (first | refine blk_drewN ?_ _ | refine blk_drew ?_ | refine blk_alloc ?_ _)); exact BK173.out), GW173.out, GE173.out, NB149_173.out, NB173_149.out, NB155_173.out, NB173_155.out, NB159_173.out, NB173_159.out, NB164_173.out, NB173_164.out, NB165_173.out, NB173_165.out, (by repeat (first | (with_reducible first | exact HB.out | apply below_alloc | apply pw_below_drewN | apply below_drew1 | refine below_set ?_ GE149.out | refine below_set ?_ GE155.out | refine below_set ?_ GE159.out | refine below_set ?_ GE164.out | refine below_set ?_ GE165.out | refine below_set ?_ GE173.out) | exact HB.out))⟩)
 }}
 {
 skip
 refine box_step ?hg (N := 12) ?hd (cs := #[.int .u64 0, .int .u64 0]) (t := 40) ?hr ?_; (case hd => rfl); (case hg => rfl); (case hr => first | (go_simp; done) | (go_simp; rfl))
 intro gb173 hg w53 hbox hb
 have n0_ := Aside0.mk (blk_below (g := gb149) (o := .cells #[.int .u64 a0_0, .int .u64 a0_1] 40 (0, 0)) (by (with_reducible repeat (first | refine blk_drewN ?_ _ | refine blk_drew ?_ | refine blk_alloc ?_ _)); exact BK149.out) hb)
 have n1_ := Aside0.mk (blk_below (g := gb155) (o := .cells #[.int .u64 t151, .int .u64 t152] 40 (0, 0)) (by (with_reducible repeat (first | refine blk_drewN ?_ _ | refine blk_drew ?_ | refine blk_alloc ?_ _)); exact BK155.out) hb)
 have n2_ := Aside0.mk (blk_below (g := gb159) (o := .cells #[.int .u64 t156, .int .u64 t157] 40 (0, 0)) (by (with_reducible repeat (first | refine blk_drewN ?_ _ | refine blk_drew ?_ | refine blk_alloc ?_ _)); exact BK159.out) hb)
 have n3_ := Aside0.mk (blk_below (g := gb164) (o := .cells #[.int .u64 t160, .int .u64 t161] 40 (0, 0)) (by (with_reducible repeat (first | refine blk_drewN ?_ _ | refine blk_drew ?_ | refine blk_alloc ?_ _)); exact BK164.out) hb)
 have n4_ := Aside0.mk (blk_below (g := gb165) (o := .cells #[.int .u64 t162, .int .u64 t163] 40 (0, 0)) (by (with_reducible repeat (first | refine blk_drewN ?_ _ | refine blk_drew ?_ | refine blk_alloc ?_ _)); exact BK165.out) hb)
 have n5_ := Aside0.mk (below_step (by repeat (first | (with_reducible first | exact HB.out | apply below_alloc | apply pw_below_drewN | apply below_drew1 | refine below_set ?_ GE149.out | refine below_set ?_ GE155.out | refine below_set ?_ GE159.out | refine below_set ?_ GE164.out | refine below_set ?_ GE165.out) | exact HB.out)) hb)
 have n6_ := Aside0.mk (hbox)
 have n7_ := Aside0.mk ((by rw [hg]; exact (below_size (by repeat (first | (with_reducible first | exact HB.out | apply below_alloc | apply pw_below_drewN | apply below_drew1 | refine below_set ?_ GE149.out | refine below_set ?_ GE155.out | refine below_set ?_ GE159.out | refine below_set ?_ GE164.out | refine below_set ?_ GE165.out) | exact HB.out))) : w.heap.size ≤ gb173))
 have n8_ := Aside0.mk ((by rw [hg]; exact (below_size (by repeat (first | (with_reducible first | exact HB.out | apply below_alloc | apply pw_below_drewN | apply below_drew1 | refine below_set ?_ GE149.out | refine below_set ?_ GE155.out | refine below_set ?_ GE159.out | refine below_set ?_ GE164.out | refine below_set ?_ GE165.out) | exact HB.out))) : w.heap.size ≤ gb173))
 have n9_ := Aside0.mk ((by rw [hg]; exact Nat.ne_of_lt (blk_lt (g := gb149) (o := .cells #[.int .u64 a0_0, .int .u64 a0_1] 40 (0, 0)) (by (with_reducible repeat (first | refine blk_drewN ?_ _ | refine blk_drew ?_ | refine blk_alloc ?_ _)); exact BK149.out)) : gb149 ≠ gb173))
 have n10_ := Aside0.mk ((by rw [hg]; exact Nat.ne_of_gt (blk_lt (g := gb149) (o := .cells #[.int .u64 a0_0, .int .u64 a0_1] 40 (0, 0)) (by (with_reducible repeat (first | refine blk_drewN ?_ _ | refine blk_drew ?_ | refine blk_alloc ?_ _)); exact BK149.out)) : gb173 ≠ gb149))
 have n11_ := Aside0.mk ((by rw [hg]; exact Nat.ne_of_lt (blk_lt (g := gb155) (o := .cells #[.int .u64 t151, .int .u64 t152] 40 (0, 0)) (by (with_reducible repeat (first | refine blk_drewN ?_ _ | refine blk_drew ?_ | refine blk_alloc ?_ _)); exact BK155.out)) : gb155 ≠ gb173))
 have n12_ := Aside0.mk ((by rw [hg]; exact Nat.ne_of_gt (blk_lt (g := gb155) (o := .cells #[.int .u64 t151, .int .u64 t152] 40 (0, 0)) (by (with_reducible repeat (first | refine blk_drewN ?_ _ | refine blk_drew ?_ | refine blk_alloc ?_ _)); exact BK155.out)) : gb173 ≠ gb155))
 have n13_ := Aside0.mk ((by rw [hg]; exact Nat.ne_of_lt (blk_lt (g := gb159) (o := .cells #[.int .u64 t156, .int .u64 t157] 40 (0, 0)) (by (with_reducible repeat (first | refine blk_drewN ?_ _ | refine blk_drew ?_ | refine blk_alloc ?_ _)); exact BK159.out)) : gb159 ≠ gb173))
 have n14_ := Aside0.mk ((by rw [hg]; exact Nat.ne_of_gt (blk_lt (g := gb159) (o := .cells #[.int .u64 t156, .int .u64 t157] 40 (0, 0)) (by (with_reducible repeat (first | refine blk_drewN ?_ _ | refine blk_drew ?_ | refine blk_alloc ?_ _)); exact BK159.out)) : gb173 ≠ gb159))
 have n15_ := Aside0.mk ((by rw [hg]; exact Nat.ne_of_lt (blk_lt (g := gb164) (o := .cells #[.int .u64 t160, .int .u64 t161] 40 (0, 0)) (by (with_reducible repeat (first | refine blk_drewN ?_ _ | refine blk_drew ?_ | refine blk_alloc ?_ _)); exact BK164.out)) : gb164 ≠ gb173))
 have n16_ := Aside0.mk ((by rw [hg]; exact Nat.ne_of_gt (blk_lt (g := gb164) (o := .cells #[.int .u64 t160, .int .u64 t161] 40 (0, 0)) (by (with_reducible repeat (first | refine blk_drewN ?_ _ | refine blk_drew ?_ | refine blk_alloc ?_ _)); exact BK164.out)) : gb173 ≠ gb164))
 have n17_ := Aside0.mk ((by rw [hg]; exact Nat.ne_of_lt (blk_lt (g := gb165) (o := .cells #[.int .u64 t162, .int .u64 t163] 40 (0, 0)) (by (with_reducible repeat (first | refine blk_drewN ?_ _ | refine blk_drew ?_ | refine blk_alloc ?_ _)); exact BK165.out)) : gb165 ≠ gb173))
 have n18_ := Aside0.mk ((by rw [hg]; exact Nat.ne_of_gt (blk_lt (g := gb165) (o := .cells #[.int .u64 t162, .int .u64 t163] 40 (0, 0)) (by (with_reducible repeat (first | refine blk_drewN ?_ _ | refine blk_drew ?_ | refine blk_alloc ?_ _)); exact BK165.out)) : gb173 ≠ gb165))
 clear BK149 BK155 BK159 BK164 BK165 HB
 have BK149 := n0_
 have BK155 := n1_
 have BK159 := n2_
 have BK164 := n3_
 have BK165 := n4_
 have HB := n5_
 have BK173 := n6_
 have GW173 := n7_
 have GE173 := n8_
 have NB149_173 := n9_
 have NB173_149 := n10_
 have NB155_173 := n11_
 have NB173_155 := n12_
 have NB159_173 := n13_
 have NB173_159 := n14_
 have NB164_173 := n15_
 have NB173_164 := n16_
 have NB165_173 := n17_
 have NB173_165 := n18_
 clear n0_ n1_ n2_ n3_ n4_ n5_ n6_ n7_ n8_ n9_ n10_ n11_ n12_ n13_ n14_ n15_ n16_ n17_ n18_ hb hbox hg
 refine hK.out _ _ ⟨(blk_cell BK164.out 0).trans rfl, (blk_cell BK164.out 1).trans rfl, (blk_cell BK165.out 0).trans rfl, (blk_cell BK165.out 1).trans rfl⟩ (fun hHeld => ?_)
 clear hK K
 refine norm_ (a' := ?_) ?_ ?_
 rotate_left
 {
 show Act.put _ (some 12) _ = _
 simp only [Act.put, List.setIfInBounds_toArray, List.set_cons_zero, List.set_cons_succ, i64_w, i32_w]
 rfl
 }
 refine one_ (i := 5) (N := some 54) #[true, true, true, true, true, true, false, true, false] rfl rfl (one_of HT_.out (by kernel_rfl)) (by decide) (fun K hK => ?_)
 refine Kd.R_lit_step k40 _ 40 ?hg (N := 54) ?hd (xs := ([(⟨t160, t161⟩ : S40), (⟨t166, t167⟩ : S40), (⟨0, t153⟩ : S40)] : List (S40))) (inner := [.int .u64 t160, .int .u64 t161, .int .u64 t166, .int .u64 t167, .int .u64 0, .int .u64 t153]) (ok := fun _ => True) (okp := fun _ => True) ?hr ?hp (fun _ hk => hk) trivial (Below.refl _ _) (Nat.le_refl _) (by simp) ?_; (case hd => rfl); (case hg => rfl); (case hr => first | (go_simp; done) | (go_simp; rfl)); (case hp => exact (Reps.c2 (show Kd.M k40 _ _ _ (⟨t160, t161⟩ : S40) [.int .u64 t160, .int .u64 t161] from (k40_mkM _ _ _ (⟨t160, t161⟩ : S40) )) (Reps.c2 (show Kd.M k40 _ _ _ (⟨t166, t167⟩ : S40) [.int .u64 t166, .int .u64 t167] from (k40_mkM _ _ _ (⟨t166, t167⟩ : S40) )) (Reps.c2 (show Kd.M k40 _ _ _ (⟨0, t153⟩ : S40) [.int .u64 0, .int .u64 t153] from (k40_mkM _ _ _ (⟨0, t153⟩ : S40) )) (Reps.none _ _)))))
 intro v169 w54 ho55 hb hg_ hnew_
 clear hg_ hnew_
 (first | rw [← Ny168.out] at ho55 | (simp only [Int.reduceToNat] at ho55; rw [← Ny168.out] at ho55))
 have n0_ := Aside0.mk (Kd.R_lower (Kd.R_newB (Kd.R_newB (Kd.R_newB (Kd.R_newB (Kd.R_newB (Kd.R_newB ho55 (g := gb149) (o := .cells #[.int .u64 a0_0, .int .u64 a0_1] 40 (0, 0)) (by (with_reducible repeat (first | refine blk_drewN ?_ _ | refine blk_drew ?_ | refine blk_alloc ?_ _)); exact BK149.out)) (g := gb155) (o := .cells #[.int .u64 t151, .int .u64 t152] 40 (0, 0)) (by (with_reducible repeat (first | refine blk_drewN ?_ _ | refine blk_drew ?_ | refine blk_alloc ?_ _)); exact BK155.out)) (g := gb159) (o := .cells #[.int .u64 t156, .int .u64 t157] 40 (0, 0)) (by (with_reducible repeat (first | refine blk_drewN ?_ _ | refine blk_drew ?_ | refine blk_alloc ?_ _)); exact BK159.out)) (g := gb164) (o := .cells #[.int .u64 t160, .int .u64 t161] 40 (0, 0)) (by (with_reducible repeat (first | refine blk_drewN ?_ _ | refine blk_drew ?_ | refine blk_alloc ?_ _)); exact BK164.out)) (g := gb165) (o := .cells #[.int .u64 t162, .int .u64 t163] 40 (0, 0)) (by (with_reducible repeat (first | refine blk_drewN ?_ _ | refine blk_drew ?_ | refine blk_alloc ?_ _)); exact BK165.out)) (g := gb173) (o := .cells #[.int .u64 0, .int .u64 0] 40 (0, 0)) (by (with_reducible repeat (first | refine blk_drewN ?_ _ | refine blk_drew ?_ | refine blk_alloc ?_ _)); exact BK173.out)) (below_size (by repeat (first | (with_reducible first | exact HB.out | apply below_alloc | apply pw_below_drewN | apply below_drew1 | refine below_set ?_ GE149.out | refine below_set ?_ GE155.out | refine below_set ?_ GE159.out | refine below_set ?_ GE164.out | refine below_set ?_ GE165.out | refine below_set ?_ GE173.out) | exact HB.out))))
 have n1_ := Aside0.mk (blk_below (g := gb149) (o := .cells #[.int .u64 a0_0, .int .u64 a0_1] 40 (0, 0)) (by (with_reducible repeat (first | refine blk_drewN ?_ _ | refine blk_drew ?_ | refine blk_alloc ?_ _)); exact BK149.out) hb)
 have n2_ := Aside0.mk (blk_below (g := gb155) (o := .cells #[.int .u64 t151, .int .u64 t152] 40 (0, 0)) (by (with_reducible repeat (first | refine blk_drewN ?_ _ | refine blk_drew ?_ | refine blk_alloc ?_ _)); exact BK155.out) hb)
 have n3_ := Aside0.mk (blk_below (g := gb159) (o := .cells #[.int .u64 t156, .int .u64 t157] 40 (0, 0)) (by (with_reducible repeat (first | refine blk_drewN ?_ _ | refine blk_drew ?_ | refine blk_alloc ?_ _)); exact BK159.out) hb)
 have n4_ := Aside0.mk (blk_below (g := gb164) (o := .cells #[.int .u64 t160, .int .u64 t161] 40 (0, 0)) (by (with_reducible repeat (first | refine blk_drewN ?_ _ | refine blk_drew ?_ | refine blk_alloc ?_ _)); exact BK164.out) hb)
 have n5_ := Aside0.mk (blk_below (g := gb165) (o := .cells #[.int .u64 t162, .int .u64 t163] 40 (0, 0)) (by (with_reducible repeat (first | refine blk_drewN ?_ _ | refine blk_drew ?_ | refine blk_alloc ?_ _)); exact BK165.out) hb)
 have n6_ := Aside0.mk (blk_below (g := gb173) (o := .cells #[.int .u64 0, .int .u64 0] 40 (0, 0)) (by (with_reducible repeat (first | refine blk_drewN ?_ _ | refine blk_drew ?_ | refine blk_alloc ?_ _)); exact BK173.out) hb)
 have n7_ := Aside0.mk (below_step (by repeat (first | (with_reducible first | exact HB.out | apply below_alloc | apply pw_below_drewN | apply below_drew1 | refine below_set ?_ GE149.out | refine below_set ?_ GE155.out | refine below_set ?_ GE159.out | refine below_set ?_ GE164.out | refine below_set ?_ GE165.out | refine below_set ?_ GE173.out) | exact HB.out)) hb)
 clear BK149 BK155 BK159 BK164 BK165 BK173 HB
 have HO170 := n0_
 have BK149 := n1_
 have BK155 := n2_
 have BK159 := n3_
 have BK164 := n4_
 have BK165 := n5_
 have BK173 := n6_
 have HB := n7_
 clear n0_ n1_ n2_ n3_ n4_ n5_ n6_ n7_ hb ho55
 obtain ⟨Ao56, co56, eo56⟩ := Kd.R_slice HO170.out
 (first | subst eo56 | (injection eo56 with f1_ f2_ f3_; have f4_ := f1_.symm; have f5_ := f3_.symm; clear f1_ f2_ f3_; subst f4_; subst f5_))
 refine hK.out _ _ ⟨(blk_cell BK164.out 0).trans rfl, (blk_cell BK164.out 1).trans rfl, (blk_cell BK165.out 0).trans rfl, (blk_cell BK165.out 1).trans rfl⟩ (fun hHeld => ?_)
 clear hK K
 refine norm_ (a' := ?_) ?_ ?_
 rotate_left
 {
 show Act.put _ (some 54) _ = _
 simp only [Act.put, List.setIfInBounds_toArray, List.set_cons_zero, List.set_cons_succ, i64_w, i32_w]
 rfl
 }
 refine one_ (i := 6) (N := some 55) #[true, true, true, true, true, true, true, true, false] rfl rfl (one_of HT_.out (by kernel_rfl)) (by decide) (fun K hK => ?_)
 refine goes_ Try.func24 (by kernel_rfl) rfl #[.slice Ao56 y168.length co56] (by rfl) rfl rfl (by (try simp only [List.map_toArray, List.map_cons, List.map_nil]); first | done | rfl | (simp only [List.length_drop, List.length_take]; rfl)) ?_
 with_reducible refine (wide_Sum.calls k _ _ y168 t171 t172 _ ?side1 ?side2 A20.out).mono ?_
 (case side1 => repeat (first | exact (Kd.R_reads' HO170.out).2.2 | (with_reducible refine Kd.C_alloc ?_ _) | (with_reducible refine Kd.C_drewN ?_ _) | (with_reducible refine Kd.C_drew ?_)))
 (case side2 => exact (Kd.R_reads' HO170.out).2.1)
 rintro e w57 ⟨rfl, hb⟩
 refine ⟨_, rfl, ?_⟩
 have n0_ := Aside0.mk (Kd.R_below (by (with_reducible repeat (first | apply Kd.R_alloc | apply Kd.R_drewN | apply Kd.R_drew)); exact HO170.out) hb)
 have n1_ := Aside0.mk (blk_below (g := gb149) (o := .cells #[.int .u64 a0_0, .int .u64 a0_1] 40 (0, 0)) (by (with_reducible repeat (first | refine blk_drewN ?_ _ | refine blk_drew ?_ | refine blk_alloc ?_ _)); exact BK149.out) hb)
 have n2_ := Aside0.mk (blk_below (g := gb155) (o := .cells #[.int .u64 t151, .int .u64 t152] 40 (0, 0)) (by (with_reducible repeat (first | refine blk_drewN ?_ _ | refine blk_drew ?_ | refine blk_alloc ?_ _)); exact BK155.out) hb)
 have n3_ := Aside0.mk (blk_below (g := gb159) (o := .cells #[.int .u64 t156, .int .u64 t157] 40 (0, 0)) (by (with_reducible repeat (first | refine blk_drewN ?_ _ | refine blk_drew ?_ | refine blk_alloc ?_ _)); exact BK159.out) hb)
 have n4_ := Aside0.mk (blk_below (g := gb164) (o := .cells #[.int .u64 t160, .int .u64 t161] 40 (0, 0)) (by (with_reducible repeat (first | refine blk_drewN ?_ _ | refine blk_drew ?_ | refine blk_alloc ?_ _)); exact BK164.out) hb)
 have n5_ := Aside0.mk (blk_below (g := gb165) (o := .cells #[.int .u64 t162, .int .u64 t163] 40 (0, 0)) (by (with_reducible repeat (first | refine blk_drewN ?_ _ | refine blk_drew ?_ | refine blk_alloc ?_ _)); exact BK165.out) hb)
 have n6_ := Aside0.mk (blk_below (g := gb173) (o := .cells #[.int .u64 0, .int .u64 0] 40 (0, 0)) (by (with_reducible repeat (first | refine blk_drewN ?_ _ | refine blk_drew ?_ | refine blk_alloc ?_ _)); exact BK173.out) hb)
 have n7_ := Aside0.mk (below_step (by repeat (first | (with_reducible first | exact HB.out | apply below_alloc | apply pw_below_drewN | apply below_drew1 | refine below_set ?_ GE149.out | refine below_set ?_ GE155.out | refine below_set ?_ GE159.out | refine below_set ?_ GE164.out | refine below_set ?_ GE165.out | refine below_set ?_ GE173.out) | exact HB.out)) hb)
 clear HO170 BK149 BK155 BK159 BK164 BK165 BK173 HB
 have HO170 := n0_
 have BK149 := n1_
 have BK155 := n2_
 have BK159 := n3_
 have BK164 := n4_
 have BK165 := n5_
 have BK173 := n6_
 have HB := n7_
 clear n0_ n1_ n2_ n3_ n4_ n5_ n6_ n7_
 (try clear hb)
 (try clear hb2)
 (try clear hk)
 (try clear hi)
 refine hK.out _ _ ⟨(blk_cell BK164.out 0).trans rfl, (blk_cell BK164.out 1).trans rfl, (blk_cell BK165.out 0).trans rfl, (blk_cell BK165.out 1).trans rfl⟩ (fun hHeld => ?_)
 clear hK K
 refine norm_ (a' := ?_) ?_ ?_
 rotate_left
 {
 show Act.put _ (some 55) _ = _
 simp only [Act.put, List.setIfInBounds_toArray, List.set_cons_zero, List.set_cons_succ, i64_w, i32_w]
 rfl
 }
 exact norm_ (by simp only [putAll, Act.put, List.setIfInBounds_toArray, List.set_cons_zero, List.set_cons_succ]) (hCont (.slice Ao56 y168.length co56, gb173) _ ⟨hHeld, (by (with_reducible repeat (first | apply Kd.R_alloc | apply Kd.R_drewN | apply Kd.R_drew)); exact Kd.R_mono HO170.out (fun _ hk => ⟨hk.1.1.1.1.1.2, ⟨hk.1.1.1.1.2, ⟨hk.1.1.1.2, ⟨hk.1.1.2, ⟨hk.1.2, hk.2⟩⟩⟩⟩⟩)), (by (with_reducible repeat (first | refine blk_drewN ?_ _ | refine blk_drew ?_ | refine blk_alloc ?_ _)); exact BK149.out), (by (with_reducible repeat (first | refine blk_drewN ?_ _ | refine blk_drew ?_ | refine blk_alloc ?_ _)); exact BK155.out), (by (with_reducible repeat (first | refine blk_drewN ?_ _ | refine blk_drew ?_ | refine blk_alloc ?_ _)); exact BK159.out), (by (with_reducible repeat (first | refine blk_drewN ?_ _ | refine blk_drew ?_ | refine blk_alloc ?_ _)); exact BK164.out), (by (with_reducible repeat (first | refine blk_drewN ?_ _ | refine blk_drew ?_ | refine blk_alloc ?_ _)); exact BK165.out), (by (with_reducible repeat (first | refine blk_drewN ?_ _ | refine blk_drew ?_ | refine blk_alloc ?_ _)); exact BK173.out), GW173.out, GE173.out, NB149_173.out, NB173_149.out, NB155_173.out, NB173_155.out, NB159_173.out, NB173_159.out, NB164_173.out, NB173_164.out, NB165_173.out, NB173_165.out, (by repeat (first | (with_reducible first | exact HB.out | apply below_alloc | apply pw_below_drewN | apply below_drew1 | refine below_set ?_ GE149.out | refine below_set ?_ GE155.out | refine below_set ?_ GE159.out | refine below_set ?_ GE164.out | refine below_set ?_ GE165.out | refine below_set ?_ GE173.out) | exact HB.out))⟩)
 }}
 {
 skip
 refine box_step ?hg (N := 12) ?hd (cs := #[.int .u64 0, .int .u64 0]) (t := 40) ?hr ?_; (case hd => rfl); (case hg => rfl); (case hr => first | (go_simp; done) | (go_simp; rfl))
 intro gb173 hg w52 hbox hb
 have n0_ := Aside0.mk (blk_below (g := gb149) (o := .cells #[.int .u64 a0_0, .int .u64 a0_1] 40 (0, 0)) (by (with_reducible repeat (first | refine blk_drewN ?_ _ | refine blk_drew ?_ | refine blk_alloc ?_ _)); exact BK149.out) hb)
 have n1_ := Aside0.mk (blk_below (g := gb155) (o := .cells #[.int .u64 t151, .int .u64 t152] 40 (0, 0)) (by (with_reducible repeat (first | refine blk_drewN ?_ _ | refine blk_drew ?_ | refine blk_alloc ?_ _)); exact BK155.out) hb)
 have n2_ := Aside0.mk (blk_below (g := gb159) (o := .cells #[.int .u64 t156, .int .u64 t157] 40 (0, 0)) (by (with_reducible repeat (first | refine blk_drewN ?_ _ | refine blk_drew ?_ | refine blk_alloc ?_ _)); exact BK159.out) hb)
 have n3_ := Aside0.mk (blk_below (g := gb164) (o := .cells #[.int .u64 t160, .int .u64 t161] 40 (0, 0)) (by (with_reducible repeat (first | refine blk_drewN ?_ _ | refine blk_drew ?_ | refine blk_alloc ?_ _)); exact BK164.out) hb)
 have n4_ := Aside0.mk (blk_below (g := gb165) (o := .cells #[.int .u64 t162, .int .u64 t163] 40 (0, 0)) (by (with_reducible repeat (first | refine blk_drewN ?_ _ | refine blk_drew ?_ | refine blk_alloc ?_ _)); exact BK165.out) hb)
 have n5_ := Aside0.mk (below_step (by repeat (first | (with_reducible first | exact HB.out | apply below_alloc | apply pw_below_drewN | apply below_drew1 | refine below_set ?_ GE149.out | refine below_set ?_ GE155.out | refine below_set ?_ GE159.out | refine below_set ?_ GE164.out | refine below_set ?_ GE165.out) | exact HB.out)) hb)
 have n6_ := Aside0.mk (hbox)
 have n7_ := Aside0.mk ((by rw [hg]; exact (below_size (by repeat (first | (with_reducible first | exact HB.out | apply below_alloc | apply pw_below_drewN | apply below_drew1 | refine below_set ?_ GE149.out | refine below_set ?_ GE155.out | refine below_set ?_ GE159.out | refine below_set ?_ GE164.out | refine below_set ?_ GE165.out) | exact HB.out))) : w.heap.size ≤ gb173))
 have n8_ := Aside0.mk ((by rw [hg]; exact (below_size (by repeat (first | (with_reducible first | exact HB.out | apply below_alloc | apply pw_below_drewN | apply below_drew1 | refine below_set ?_ GE149.out | refine below_set ?_ GE155.out | refine below_set ?_ GE159.out | refine below_set ?_ GE164.out | refine below_set ?_ GE165.out) | exact HB.out))) : w.heap.size ≤ gb173))
 have n9_ := Aside0.mk ((by rw [hg]; exact Nat.ne_of_lt (blk_lt (g := gb149) (o := .cells #[.int .u64 a0_0, .int .u64 a0_1] 40 (0, 0)) (by (with_reducible repeat (first | refine blk_drewN ?_ _ | refine blk_drew ?_ | refine blk_alloc ?_ _)); exact BK149.out)) : gb149 ≠ gb173))
 have n10_ := Aside0.mk ((by rw [hg]; exact Nat.ne_of_gt (blk_lt (g := gb149) (o := .cells #[.int .u64 a0_0, .int .u64 a0_1] 40 (0, 0)) (by (with_reducible repeat (first | refine blk_drewN ?_ _ | refine blk_drew ?_ | refine blk_alloc ?_ _)); exact BK149.out)) : gb173 ≠ gb149))
 have n11_ := Aside0.mk ((by rw [hg]; exact Nat.ne_of_lt (blk_lt (g := gb155) (o := .cells #[.int .u64 t151, .int .u64 t152] 40 (0, 0)) (by (with_reducible repeat (first | refine blk_drewN ?_ _ | refine blk_drew ?_ | refine blk_alloc ?_ _)); exact BK155.out)) : gb155 ≠ gb173))
 have n12_ := Aside0.mk ((by rw [hg]; exact Nat.ne_of_gt (blk_lt (g := gb155) (o := .cells #[.int .u64 t151, .int .u64 t152] 40 (0, 0)) (by (with_reducible repeat (first | refine blk_drewN ?_ _ | refine blk_drew ?_ | refine blk_alloc ?_ _)); exact BK155.out)) : gb173 ≠ gb155))
 have n13_ := Aside0.mk ((by rw [hg]; exact Nat.ne_of_lt (blk_lt (g := gb159) (o := .cells #[.int .u64 t156, .int .u64 t157] 40 (0, 0)) (by (with_reducible repeat (first | refine blk_drewN ?_ _ | refine blk_drew ?_ | refine blk_alloc ?_ _)); exact BK159.out)) : gb159 ≠ gb173))
 have n14_ := Aside0.mk ((by rw [hg]; exact Nat.ne_of_gt (blk_lt (g := gb159) (o := .cells #[.int .u64 t156, .int .u64 t157] 40 (0, 0)) (by (with_reducible repeat (first | refine blk_drewN ?_ _ | refine blk_drew ?_ | refine blk_alloc ?_ _)); exact BK159.out)) : gb173 ≠ gb159))
 have n15_ := Aside0.mk ((by rw [hg]; exact Nat.ne_of_lt (blk_lt (g := gb164) (o := .cells #[.int .u64 t160, .int .u64 t161] 40 (0, 0)) (by (with_reducible repeat (first | refine blk_drewN ?_ _ | refine blk_drew ?_ | refine blk_alloc ?_ _)); exact BK164.out)) : gb164 ≠ gb173))
 have n16_ := Aside0.mk ((by rw [hg]; exact Nat.ne_of_gt (blk_lt (g := gb164) (o := .cells #[.int .u64 t160, .int .u64 t161] 40 (0, 0)) (by (with_reducible repeat (first | refine blk_drewN ?_ _ | refine blk_drew ?_ | refine blk_alloc ?_ _)); exact BK164.out)) : gb173 ≠ gb164))
 have n17_ := Aside0.mk ((by rw [hg]; exact Nat.ne_of_lt (blk_lt (g := gb165) (o := .cells #[.int .u64 t162, .int .u64 t163] 40 (0, 0)) (by (with_reducible repeat (first | refine blk_drewN ?_ _ | refine blk_drew ?_ | refine blk_alloc ?_ _)); exact BK165.out)) : gb165 ≠ gb173))
 have n18_ := Aside0.mk ((by rw [hg]; exact Nat.ne_of_gt (blk_lt (g := gb165) (o := .cells #[.int .u64 t162, .int .u64 t163] 40 (0, 0)) (by (with_reducible repeat (first | refine blk_drewN ?_ _ | refine blk_drew ?_ | refine blk_alloc ?_ _)); exact BK165.out)) : gb173 ≠ gb165))
 clear BK149 BK155 BK159 BK164 BK165 HB
 have BK149 := n0_
 have BK155 := n1_
 have BK159 := n2_
 have BK164 := n3_
 have BK165 := n4_
 have HB := n5_
 have BK173 := n6_
 have GW173 := n7_
 have GE173 := n8_
 have NB149_173 := n9_
 have NB173_149 := n10_
 have NB155_173 := n11_
 have NB173_155 := n12_
 have NB159_173 := n13_
 have NB173_159 := n14_
 have NB164_173 := n15_
 have NB173_164 := n16_
 have NB165_173 := n17_
 have NB173_165 := n18_
 clear n0_ n1_ n2_ n3_ n4_ n5_ n6_ n7_ n8_ n9_ n10_ n11_ n12_ n13_ n14_ n15_ n16_ n17_ n18_ hb hbox hg
 refine hK.out _ _ ⟨(blk_cell BK164.out 0).trans rfl, (blk_cell BK164.out 1).trans rfl, (blk_cell BK165.out 0).trans rfl, (blk_cell BK165.out 1).trans rfl⟩ (fun hHeld => ?_)
 clear hK K
 refine norm_ (a' := ?_) ?_ ?_
 rotate_left
 {
 show Act.put _ (some 12) _ = _
 simp only [Act.put, List.setIfInBounds_toArray, List.set_cons_zero, List.set_cons_succ, i64_w, i32_w]
 rfl
 }
 refine one_ (i := 2) (N := some 51) #[true, true, true, true, true, false, false, true, false] rfl rfl (one_of HT_.out (by kernel_rfl)) (by decide) (fun K hK => ?_)
 refine goes_ Try.func25 (by kernel_rfl) rfl #[.agg #[.int .u64 t162, .int .u64 t163], .int .i64 64] (by rfl) rfl rfl (by (try simp only [List.map_toArray, List.map_cons, List.map_nil]); first | done | rfl | (simp only [List.length_drop, List.length_take]; rfl)) ?_
 with_reducible refine (wide_Shl.calls t162 t163 64 t166 t167 _ A19.out).mono ?_
 rintro e w53 ⟨rfl, hb⟩
 refine ⟨_, rfl, ?_⟩
 have n0_ := Aside0.mk (blk_below (g := gb149) (o := .cells #[.int .u64 a0_0, .int .u64 a0_1] 40 (0, 0)) (by (with_reducible repeat (first | refine blk_drewN ?_ _ | refine blk_drew ?_ | refine blk_alloc ?_ _)); exact BK149.out) hb)
 have n1_ := Aside0.mk (blk_below (g := gb155) (o := .cells #[.int .u64 t151, .int .u64 t152] 40 (0, 0)) (by (with_reducible repeat (first | refine blk_drewN ?_ _ | refine blk_drew ?_ | refine blk_alloc ?_ _)); exact BK155.out) hb)
 have n2_ := Aside0.mk (blk_below (g := gb159) (o := .cells #[.int .u64 t156, .int .u64 t157] 40 (0, 0)) (by (with_reducible repeat (first | refine blk_drewN ?_ _ | refine blk_drew ?_ | refine blk_alloc ?_ _)); exact BK159.out) hb)
 have n3_ := Aside0.mk (blk_below (g := gb164) (o := .cells #[.int .u64 t160, .int .u64 t161] 40 (0, 0)) (by (with_reducible repeat (first | refine blk_drewN ?_ _ | refine blk_drew ?_ | refine blk_alloc ?_ _)); exact BK164.out) hb)
 have n4_ := Aside0.mk (blk_below (g := gb165) (o := .cells #[.int .u64 t162, .int .u64 t163] 40 (0, 0)) (by (with_reducible repeat (first | refine blk_drewN ?_ _ | refine blk_drew ?_ | refine blk_alloc ?_ _)); exact BK165.out) hb)
 have n5_ := Aside0.mk (blk_below (g := gb173) (o := .cells #[.int .u64 0, .int .u64 0] 40 (0, 0)) (by (with_reducible repeat (first | refine blk_drewN ?_ _ | refine blk_drew ?_ | refine blk_alloc ?_ _)); exact BK173.out) hb)
 have n6_ := Aside0.mk (below_step (by repeat (first | (with_reducible first | exact HB.out | apply below_alloc | apply pw_below_drewN | apply below_drew1 | refine below_set ?_ GE149.out | refine below_set ?_ GE155.out | refine below_set ?_ GE159.out | refine below_set ?_ GE164.out | refine below_set ?_ GE165.out | refine below_set ?_ GE173.out) | exact HB.out)) hb)
 clear BK149 BK155 BK159 BK164 BK165 BK173 HB
 have BK149 := n0_
 have BK155 := n1_
 have BK159 := n2_
 have BK164 := n3_
 have BK165 := n4_
 have BK173 := n5_
 have HB := n6_
 clear n0_ n1_ n2_ n3_ n4_ n5_ n6_
 (try clear hb)
 (try clear hb2)
 (try clear hk)
 (try clear hi)
 refine hK.out _ _ ⟨(blk_cell BK164.out 0).trans rfl, (blk_cell BK164.out 1).trans rfl, (blk_cell BK165.out 0).trans rfl, (blk_cell BK165.out 1).trans rfl⟩ (fun hHeld => ?_)
 clear hK K
 refine norm_ (a' := ?_) ?_ ?_
 rotate_left
 {
 show Act.put _ (some 51) _ = _
 simp only [Act.put, List.setIfInBounds_toArray, List.set_cons_zero, List.set_cons_succ, i64_w, i32_w]
 rfl
 }
 refine one_ (i := 5) (N := some 54) #[true, true, true, true, true, true, false, true, false] rfl rfl (one_of HT_.out (by kernel_rfl)) (by decide) (fun K hK => ?_)
 refine Kd.R_lit_step k40 _ 40 ?hg (N := 54) ?hd (xs := ([(⟨t160, t161⟩ : S40), (⟨t166, t167⟩ : S40), (⟨0, t153⟩ : S40)] : List (S40))) (inner := [.int .u64 t160, .int .u64 t161, .int .u64 t166, .int .u64 t167, .int .u64 0, .int .u64 t153]) (ok := fun _ => True) (okp := fun _ => True) ?hr ?hp (fun _ hk => hk) trivial (Below.refl _ _) (Nat.le_refl _) (by simp) ?_; (case hd => rfl); (case hg => rfl); (case hr => first | (go_simp; done) | (go_simp; rfl)); (case hp => exact (Reps.c2 (show Kd.M k40 _ _ _ (⟨t160, t161⟩ : S40) [.int .u64 t160, .int .u64 t161] from (k40_mkM _ _ _ (⟨t160, t161⟩ : S40) )) (Reps.c2 (show Kd.M k40 _ _ _ (⟨t166, t167⟩ : S40) [.int .u64 t166, .int .u64 t167] from (k40_mkM _ _ _ (⟨t166, t167⟩ : S40) )) (Reps.c2 (show Kd.M k40 _ _ _ (⟨0, t153⟩ : S40) [.int .u64 0, .int .u64 t153] from (k40_mkM _ _ _ (⟨0, t153⟩ : S40) )) (Reps.none _ _)))))
 intro v169 w54 ho55 hb hg_ hnew_
 clear hg_ hnew_
 (first | rw [← Ny168.out] at ho55 | (simp only [Int.reduceToNat] at ho55; rw [← Ny168.out] at ho55))
 have n0_ := Aside0.mk (Kd.R_lower (Kd.R_newB (Kd.R_newB (Kd.R_newB (Kd.R_newB (Kd.R_newB (Kd.R_newB ho55 (g := gb149) (o := .cells #[.int .u64 a0_0, .int .u64 a0_1] 40 (0, 0)) (by (with_reducible repeat (first | refine blk_drewN ?_ _ | refine blk_drew ?_ | refine blk_alloc ?_ _)); exact BK149.out)) (g := gb155) (o := .cells #[.int .u64 t151, .int .u64 t152] 40 (0, 0)) (by (with_reducible repeat (first | refine blk_drewN ?_ _ | refine blk_drew ?_ | refine blk_alloc ?_ _)); exact BK155.out)) (g := gb159) (o := .cells #[.int .u64 t156, .int .u64 t157] 40 (0, 0)) (by (with_reducible repeat (first | refine blk_drewN ?_ _ | refine blk_drew ?_ | refine blk_alloc ?_ _)); exact BK159.out)) (g := gb164) (o := .cells #[.int .u64 t160, .int .u64 t161] 40 (0, 0)) (by (with_reducible repeat (first | refine blk_drewN ?_ _ | refine blk_drew ?_ | refine blk_alloc ?_ _)); exact BK164.out)) (g := gb165) (o := .cells #[.int .u64 t162, .int .u64 t163] 40 (0, 0)) (by (with_reducible repeat (first | refine blk_drewN ?_ _ | refine blk_drew ?_ | refine blk_alloc ?_ _)); exact BK165.out)) (g := gb173) (o := .cells #[.int .u64 0, .int .u64 0] 40 (0, 0)) (by (with_reducible repeat (first | refine blk_drewN ?_ _ | refine blk_drew ?_ | refine blk_alloc ?_ _)); exact BK173.out)) (below_size (by repeat (first | (with_reducible first | exact HB.out | apply below_alloc | apply pw_below_drewN | apply below_drew1 | refine below_set ?_ GE149.out | refine below_set ?_ GE155.out | refine below_set ?_ GE159.out | refine below_set ?_ GE164.out | refine below_set ?_ GE165.out | refine below_set ?_ GE173.out) | exact HB.out))))
 have n1_ := Aside0.mk (blk_below (g := gb149) (o := .cells #[.int .u64 a0_0, .int .u64 a0_1] 40 (0, 0)) (by (with_reducible repeat (first | refine blk_drewN ?_ _ | refine blk_drew ?_ | refine blk_alloc ?_ _)); exact BK149.out) hb)
 have n2_ := Aside0.mk (blk_below (g := gb155) (o := .cells #[.int .u64 t151, .int .u64 t152] 40 (0, 0)) (by (with_reducible repeat (first | refine blk_drewN ?_ _ | refine blk_drew ?_ | refine blk_alloc ?_ _)); exact BK155.out) hb)
 have n3_ := Aside0.mk (blk_below (g := gb159) (o := .cells #[.int .u64 t156, .int .u64 t157] 40 (0, 0)) (by (with_reducible repeat (first | refine blk_drewN ?_ _ | refine blk_drew ?_ | refine blk_alloc ?_ _)); exact BK159.out) hb)
 have n4_ := Aside0.mk (blk_below (g := gb164) (o := .cells #[.int .u64 t160, .int .u64 t161] 40 (0, 0)) (by (with_reducible repeat (first | refine blk_drewN ?_ _ | refine blk_drew ?_ | refine blk_alloc ?_ _)); exact BK164.out) hb)
 have n5_ := Aside0.mk (blk_below (g := gb165) (o := .cells #[.int .u64 t162, .int .u64 t163] 40 (0, 0)) (by (with_reducible repeat (first | refine blk_drewN ?_ _ | refine blk_drew ?_ | refine blk_alloc ?_ _)); exact BK165.out) hb)
 have n6_ := Aside0.mk (blk_below (g := gb173) (o := .cells #[.int .u64 0, .int .u64 0] 40 (0, 0)) (by (with_reducible repeat (first | refine blk_drewN ?_ _ | refine blk_drew ?_ | refine blk_alloc ?_ _)); exact BK173.out) hb)
 have n7_ := Aside0.mk (below_step (by repeat (first | (with_reducible first | exact HB.out | apply below_alloc | apply pw_below_drewN | apply below_drew1 | refine below_set ?_ GE149.out | refine below_set ?_ GE155.out | refine below_set ?_ GE159.out | refine below_set ?_ GE164.out | refine below_set ?_ GE165.out | refine below_set ?_ GE173.out) | exact HB.out)) hb)
 clear BK149 BK155 BK159 BK164 BK165 BK173 HB
 have HO170 := n0_
 have BK149 := n1_
 have BK155 := n2_
 have BK159 := n3_
 have BK164 := n4_
 have BK165 := n5_
 have BK173 := n6_
 have HB := n7_
 clear n0_ n1_ n2_ n3_ n4_ n5_ n6_ n7_ hb ho55
 obtain ⟨Ao56, co56, eo56⟩ := Kd.R_slice HO170.out
 (first | subst eo56 | (injection eo56 with f1_ f2_ f3_; have f4_ := f1_.symm; have f5_ := f3_.symm; clear f1_ f2_ f3_; subst f4_; subst f5_))
 refine hK.out _ _ ⟨(blk_cell BK164.out 0).trans rfl, (blk_cell BK164.out 1).trans rfl, (blk_cell BK165.out 0).trans rfl, (blk_cell BK165.out 1).trans rfl⟩ (fun hHeld => ?_)
 clear hK K
 refine norm_ (a' := ?_) ?_ ?_
 rotate_left
 {
 show Act.put _ (some 54) _ = _
 simp only [Act.put, List.setIfInBounds_toArray, List.set_cons_zero, List.set_cons_succ, i64_w, i32_w]
 rfl
 }
 refine one_ (i := 6) (N := some 55) #[true, true, true, true, true, true, true, true, false] rfl rfl (one_of HT_.out (by kernel_rfl)) (by decide) (fun K hK => ?_)
 refine goes_ Try.func24 (by kernel_rfl) rfl #[.slice Ao56 y168.length co56] (by rfl) rfl rfl (by (try simp only [List.map_toArray, List.map_cons, List.map_nil]); first | done | rfl | (simp only [List.length_drop, List.length_take]; rfl)) ?_
 with_reducible refine (wide_Sum.calls k _ _ y168 t171 t172 _ ?side1 ?side2 A20.out).mono ?_
 (case side1 => repeat (first | exact (Kd.R_reads' HO170.out).2.2 | (with_reducible refine Kd.C_alloc ?_ _) | (with_reducible refine Kd.C_drewN ?_ _) | (with_reducible refine Kd.C_drew ?_)))
 (case side2 => exact (Kd.R_reads' HO170.out).2.1)
 rintro e w57 ⟨rfl, hb⟩
 refine ⟨_, rfl, ?_⟩
 have n0_ := Aside0.mk (Kd.R_below (by (with_reducible repeat (first | apply Kd.R_alloc | apply Kd.R_drewN | apply Kd.R_drew)); exact HO170.out) hb)
 have n1_ := Aside0.mk (blk_below (g := gb149) (o := .cells #[.int .u64 a0_0, .int .u64 a0_1] 40 (0, 0)) (by (with_reducible repeat (first | refine blk_drewN ?_ _ | refine blk_drew ?_ | refine blk_alloc ?_ _)); exact BK149.out) hb)
 have n2_ := Aside0.mk (blk_below (g := gb155) (o := .cells #[.int .u64 t151, .int .u64 t152] 40 (0, 0)) (by (with_reducible repeat (first | refine blk_drewN ?_ _ | refine blk_drew ?_ | refine blk_alloc ?_ _)); exact BK155.out) hb)
 have n3_ := Aside0.mk (blk_below (g := gb159) (o := .cells #[.int .u64 t156, .int .u64 t157] 40 (0, 0)) (by (with_reducible repeat (first | refine blk_drewN ?_ _ | refine blk_drew ?_ | refine blk_alloc ?_ _)); exact BK159.out) hb)
 have n4_ := Aside0.mk (blk_below (g := gb164) (o := .cells #[.int .u64 t160, .int .u64 t161] 40 (0, 0)) (by (with_reducible repeat (first | refine blk_drewN ?_ _ | refine blk_drew ?_ | refine blk_alloc ?_ _)); exact BK164.out) hb)
 have n5_ := Aside0.mk (blk_below (g := gb165) (o := .cells #[.int .u64 t162, .int .u64 t163] 40 (0, 0)) (by (with_reducible repeat (first | refine blk_drewN ?_ _ | refine blk_drew ?_ | refine blk_alloc ?_ _)); exact BK165.out) hb)
 have n6_ := Aside0.mk (blk_below (g := gb173) (o := .cells #[.int .u64 0, .int .u64 0] 40 (0, 0)) (by (with_reducible repeat (first | refine blk_drewN ?_ _ | refine blk_drew ?_ | refine blk_alloc ?_ _)); exact BK173.out) hb)
 have n7_ := Aside0.mk (below_step (by repeat (first | (with_reducible first | exact HB.out | apply below_alloc | apply pw_below_drewN | apply below_drew1 | refine below_set ?_ GE149.out | refine below_set ?_ GE155.out | refine below_set ?_ GE159.out | refine below_set ?_ GE164.out | refine below_set ?_ GE165.out | refine below_set ?_ GE173.out) | exact HB.out)) hb)
 clear HO170 BK149 BK155 BK159 BK164 BK165 BK173 HB
 have HO170 := n0_
 have BK149 := n1_
 have BK155 := n2_
 have BK159 := n3_
 have BK164 := n4_
 have BK165 := n5_
 have BK173 := n6_
 have HB := n7_
 clear n0_ n1_ n2_ n3_ n4_ n5_ n6_ n7_
 (try clear hb)
 (try clear hb2)
 (try clear hk)
 (try clear hi)
 refine hK.out _ _ ⟨(blk_cell BK164.out 0).trans rfl, (blk_cell BK164.out 1).trans rfl, (blk_cell BK165.out 0).trans rfl, (blk_cell BK165.out 1).trans rfl⟩ (fun hHeld => ?_)
 clear hK K
 refine norm_ (a' := ?_) ?_ ?_
 rotate_left
 {
 show Act.put _ (some 55) _ = _
 simp only [Act.put, List.setIfInBounds_toArray, List.set_cons_zero, List.set_cons_succ, i64_w, i32_w]
 rfl
 }
 exact norm_ (by simp only [putAll, Act.put, List.setIfInBounds_toArray, List.set_cons_zero, List.set_cons_succ]) (hCont (.slice Ao56 y168.length co56, gb173) _ ⟨hHeld, (by (with_reducible repeat (first | apply Kd.R_alloc | apply Kd.R_drewN | apply Kd.R_drew)); exact Kd.R_mono HO170.out (fun _ hk => ⟨hk.1.1.1.1.1.2, ⟨hk.1.1.1.1.2, ⟨hk.1.1.1.2, ⟨hk.1.1.2, ⟨hk.1.2, hk.2⟩⟩⟩⟩⟩)), (by (with_reducible repeat (first | refine blk_drewN ?_ _ | refine blk_drew ?_ | refine blk_alloc ?_ _)); exact BK149.out), (by (with_reducible repeat (first | refine blk_drewN ?_ _ | refine blk_drew ?_ | refine blk_alloc ?_ _)); exact BK155.out), (by (with_reducible repeat (first | refine blk_drewN ?_ _ | refine blk_drew ?_ | refine blk_alloc ?_ _)); exact BK159.out), (by (with_reducible repeat (first | refine blk_drewN ?_ _ | refine blk_drew ?_ | refine blk_alloc ?_ _)); exact BK164.out), (by (with_reducible repeat (first | refine blk_drewN ?_ _ | refine blk_drew ?_ | refine blk_alloc ?_ _)); exact BK165.out), (by (with_reducible repeat (first | refine blk_drewN ?_ _ | refine blk_drew ?_ | refine blk_alloc ?_ _)); exact BK173.out), GW173.out, GE173.out, NB149_173.out, NB173_149.out, NB155_173.out, NB173_155.out, NB159_173.out, NB173_159.out, NB164_173.out, NB173_164.out, NB165_173.out, NB173_165.out, (by repeat (first | (with_reducible first | exact HB.out | apply below_alloc | apply pw_below_drewN | apply below_drew1 | refine below_set ?_ GE149.out | refine below_set ?_ GE155.out | refine below_set ?_ GE159.out | refine below_set ?_ GE164.out | refine below_set ?_ GE165.out | refine below_set ?_ GE173.out) | exact HB.out))⟩)
 }}
 rintro ⟨v169, gb173⟩ w58 ⟨hS_, h0_, h1_, h2_, h3_, h4_, h5_, h6_, h7_, h8_, h9_, h10_, h11_, h12_, h13_, h14_, h15_, h16_, h17_, h18_, h19_⟩
 have n0_ : Aside0 (Kd.R k40 40 w58 w.heap.size (fun k_ => k_ ≠ gb149 ∧ k_ ≠ gb155 ∧ k_ ≠ gb159 ∧ k_ ≠ gb164 ∧ k_ ≠ gb165 ∧ k_ ≠ gb173) v169 y168) := ⟨h0_⟩
 have n1_ : Aside0 (w58.heap[gb149]? = some (.cells #[.int .u64 a0_0, .int .u64 a0_1] 40 (0, 0))) := ⟨h1_⟩
 have n2_ : Aside0 (w58.heap[gb155]? = some (.cells #[.int .u64 t151, .int .u64 t152] 40 (0, 0))) := ⟨h2_⟩
 have n3_ : Aside0 (w58.heap[gb159]? = some (.cells #[.int .u64 t156, .int .u64 t157] 40 (0, 0))) := ⟨h3_⟩
 have n4_ : Aside0 (w58.heap[gb164]? = some (.cells #[.int .u64 t160, .int .u64 t161] 40 (0, 0))) := ⟨h4_⟩
 have n5_ : Aside0 (w58.heap[gb165]? = some (.cells #[.int .u64 t162, .int .u64 t163] 40 (0, 0))) := ⟨h5_⟩
 have n6_ : Aside0 (w58.heap[gb173]? = some (.cells #[.int .u64 0, .int .u64 0] 40 (0, 0))) := ⟨h6_⟩
 have n7_ : Aside0 (w.heap.size ≤ gb173) := ⟨h7_⟩
 have n8_ : Aside0 (w.heap.size ≤ gb173) := ⟨h8_⟩
 have n9_ : Aside0 (gb149 ≠ gb173) := ⟨h9_⟩
 have n10_ : Aside0 (gb173 ≠ gb149) := ⟨h10_⟩
 have n11_ : Aside0 (gb155 ≠ gb173) := ⟨h11_⟩
 have n12_ : Aside0 (gb173 ≠ gb155) := ⟨h12_⟩
 have n13_ : Aside0 (gb159 ≠ gb173) := ⟨h13_⟩
 have n14_ : Aside0 (gb173 ≠ gb159) := ⟨h14_⟩
 have n15_ : Aside0 (gb164 ≠ gb173) := ⟨h15_⟩
 have n16_ : Aside0 (gb173 ≠ gb164) := ⟨h16_⟩
 have n17_ : Aside0 (gb165 ≠ gb173) := ⟨h17_⟩
 have n18_ : Aside0 (gb173 ≠ gb165) := ⟨h18_⟩
 have n19_ : Aside0 (Below w.heap.size w w58) := ⟨h19_⟩
 clear BK149 BK155 BK159 BK164 BK165 HB h0_ h1_ h2_ h3_ h4_ h5_ h6_ h7_ h8_ h9_ h10_ h11_ h12_ h13_ h14_ h15_ h16_ h17_ h18_ h19_
 have HO170 := n0_
 have BK149 := n1_
 have BK155 := n2_
 have BK159 := n3_
 have BK164 := n4_
 have BK165 := n5_
 have BK173 := n6_
 have GW173 := n7_
 have GE173 := n8_
 have NB149_173 := n9_
 have NB173_149 := n10_
 have NB155_173 := n11_
 have NB173_155 := n12_
 have NB159_173 := n13_
 have NB173_159 := n14_
 have NB164_173 := n15_
 have NB173_164 := n16_
 have NB165_173 := n17_
 have NB173_165 := n18_
 have HB := n19_
 clear n0_ n1_ n2_ n3_ n4_ n5_ n6_ n7_ n8_ n9_ n10_ n11_ n12_ n13_ n14_ n15_ n16_ n17_ n18_ n19_
 have hHeld : w58.cell? ⟨gb164, 0, none⟩ = some (.int .u64 t160) ∧ w58.cell? ⟨gb164, 1, none⟩ = some (.int .u64 t161) ∧ w58.cell? ⟨gb165, 0, none⟩ = some (.int .u64 t162) ∧ w58.cell? ⟨gb165, 1, none⟩ = some (.int .u64 t163) := hS_
 refine norm_ (a' := ?_) ?_ ?_
 rotate_left
 {
 simp only [putAll, Act.put, List.setIfInBounds_toArray, List.set_cons_zero, List.set_cons_succ]
 rfl
 }
 refine one_ (i := 8) (N := none) #[true, true, true, true, true, true, true, true, true] rfl rfl (one_of HT_.out (by kernel_rfl)) (by decide) (fun K hK => ?_)
 have hs59 : w58.cell? ⟨gb173, 0, none⟩ = some (.int .u64 0) := (blk_cell BK173.out 0).trans rfl
 have hfs59 := blk_frozen BK173.out 0
 have hns59_0 := NB149_173.out
 have hns59_1 := NB155_173.out
 have hns59_2 := NB159_173.out
 have hns59_3 := NB164_173.out
 have hns59_4 := NB165_173.out
 have hms59_0 := NB173_149.out
 have hms59_1 := NB173_155.out
 have hms59_2 := NB173_159.out
 have hms59_3 := NB173_164.out
 have hms59_4 := NB173_165.out
 have hs60 : w58.cell? ⟨gb173, 1, none⟩ = some (.int .u64 0) := (blk_cell BK173.out 1).trans rfl
 have hfs60 := blk_frozen BK173.out 1
 have hns60_0 := NB149_173.out
 have hns60_1 := NB155_173.out
 have hns60_2 := NB159_173.out
 have hns60_3 := NB164_173.out
 have hns60_4 := NB165_173.out
 have hms60_0 := NB173_149.out
 have hms60_1 := NB173_155.out
 have hms60_2 := NB173_159.out
 have hms60_3 := NB173_164.out
 have hms60_4 := NB173_165.out
 refine skip_ (w1 := ?_) (by rfl) rfl ?_ ?_
 rotate_left
 {
 go_simp
 rfl
 }
 refine hK.out _ _ ⟨((cell_far (p := ⟨gb173, _, none⟩) NB164_173.out _).trans (((cell_far (p := ⟨gb173, _, none⟩) NB164_173.out _).trans (hHeld.1)))), ((cell_far (p := ⟨gb173, _, none⟩) NB164_173.out _).trans (((cell_far (p := ⟨gb173, _, none⟩) NB164_173.out _).trans (hHeld.2.1)))), ((cell_far (p := ⟨gb173, _, none⟩) NB165_173.out _).trans (((cell_far (p := ⟨gb173, _, none⟩) NB165_173.out _).trans (hHeld.2.2.1)))), ((cell_far (p := ⟨gb173, _, none⟩) NB165_173.out _).trans (((cell_far (p := ⟨gb173, _, none⟩) NB165_173.out _).trans (hHeld.2.2.2))))⟩ (fun hHeld => ?_)
 clear hK K
 refine done_ (done_of HT_.out (by kernel_rfl)) ?_
 have hnb61 := NB155_164.out
 have hnc61 := NB164_155.out
 have hnb62 := NB155_165.out
 have hnc62 := NB165_155.out
 have hnb63 := NB155_173.out
 have hnc63 := NB173_155.out
 have hcz64_0 : w58.cell? ⟨gb155, 0, none⟩ = some (.int .u64 t151) := (blk_cell BK155.out 0).trans rfl
 have hcz64_1 : w58.cell? ⟨gb155, 1, none⟩ = some (.int .u64 t152) := (blk_cell BK155.out 1).trans rfl
 have hfz64_0 := blk_frozen BK155.out 0
 have hfz64_1 := blk_frozen BK155.out 1
 have hnb65 := NB159_164.out
 have hnc65 := NB164_159.out
 have hnb66 := NB159_165.out
 have hnc66 := NB165_159.out
 have hnb67 := NB159_173.out
 have hnc67 := NB173_159.out
 have hcz68_0 : w58.cell? ⟨gb159, 0, none⟩ = some (.int .u64 t156) := (blk_cell BK159.out 0).trans rfl
 have hcz68_1 : w58.cell? ⟨gb159, 1, none⟩ = some (.int .u64 t157) := (blk_cell BK159.out 1).trans rfl
 have hfz68_0 := blk_frozen BK159.out 0
 have hfz68_1 := blk_frozen BK159.out 1
 have hnb69 := NB173_149.out
 have hnc69 := NB149_173.out
 have hnb70 := NB173_164.out
 have hnc70 := NB164_173.out
 have hnb71 := NB173_165.out
 have hnc71 := NB165_173.out
 have hcz72_0 : w58.cell? ⟨gb173, 0, none⟩ = some (.int .u64 0) := (blk_cell BK173.out 0).trans rfl
 have hcz72_1 : w58.cell? ⟨gb173, 1, none⟩ = some (.int .u64 0) := (blk_cell BK173.out 1).trans rfl
 have hfz72_0 := blk_frozen BK173.out 0
 have hfz72_1 := blk_frozen BK173.out 1
 have hnb73 := NB149_164.out
 have hnc73 := NB164_149.out
 have hnb74 := NB149_165.out
 have hnc74 := NB165_149.out
 have hcz75_0 : w58.cell? ⟨gb149, 0, none⟩ = some (.int .u64 a0_0) := (blk_cell BK149.out 0).trans rfl
 have hcz75_1 : w58.cell? ⟨gb149, 1, none⟩ = some (.int .u64 a0_1) := (blk_cell BK149.out 1).trans rfl
 have hfz75_0 := blk_frozen BK149.out 0
 have hfz75_1 := blk_frozen BK149.out 1
 have hnb76 := NB165_164.out
 have hnc76 := NB164_165.out
 have hcz77_0 : w58.cell? ⟨gb165, 0, none⟩ = some (.int .u64 t162) := (blk_cell BK165.out 0).trans rfl
 have hcz77_1 : w58.cell? ⟨gb165, 1, none⟩ = some (.int .u64 t163) := (blk_cell BK165.out 1).trans rfl
 have hfz77_0 := blk_frozen BK165.out 0
 have hfz77_1 := blk_frozen BK165.out 1
 try go_wp2
 go_ret
 exact ⟨by first | rfl | (simp [errW_none, errW_some] <;> rfl) | (simp [*, errW_none, errW_some] <;> rfl), by repeat (first | (with_reducible first | exact HB.out | apply below_alloc | apply pw_below_drewN | apply below_drew1 | refine below_set ?_ GE149.out | refine below_set ?_ GE155.out | refine below_set ?_ GE159.out | refine below_set ?_ GE164.out | refine below_set ?_ GE165.out | refine below_set ?_ GE173.out) | exact HB.out)⟩
 }
 {
 rw [if_neg c25] at H
 exact absurd H (by simp)
 }}
 {
 rw [if_neg c24] at H
 exact absurd H (by simp)
 }}
 {
 rw [if_neg c23] at H
 exact absurd H (by simp)
 }}
 {
 rw [if_neg c22] at H
 exact absurd H (by simp)
 }}
 {
 rw [if_neg c21] at H
 exact absurd H (by simp)
 }}}
 {
 replace c4 := Bool.eq_false_iff.mpr c4
 subst c4
 have H1 : (none) = some r := by rw [if_neg (show ¬ (false = true) by decide)] at H; exact H
 clear H
 have H := H1
 clear H1
 exact absurd H (by simp)

 }
end Go.Proofs.Ytmmgiolhfekplaa.PRems
