-- Written by a program (wip/myprint) out of the translation; Lean checks it.
import Derived.Test.YtpnkcjnemoompaaDoorPPlanx0
import Derived.Test.YtpnkcjnemoompaaDoorPPlanx1
namespace Go.Proofs.YtpnkcjnemoompaaDoor.PPlan
open Go.RowKit Go.Proofs.YtpnkcjnemoompaaDoor.Ext Go.Proofs.YtpnkcjnemoompaaDoorW.PrintWords Go.Proofs.YtpnkcjnemoompaaDoorW.PrintLast Go.Proofs.YtpnkcjnemoompaaDoorW.PrintMore
attribute [local go_sem] max2_int min2_int max_two min_two max_three min_three max_four min_four   -- for this text's walks alone
set_option linter.unusedVariables false
set_option linter.unusedSimpArgs false

/-! ### plan_long: function 100 -/
def plan_long.f (k : Nat) (a0 : Int) (a1 : Int) : Option ((List (S51))) := (shape_Even.f a0).bind fun bt134 => ((shape_Turned.f bt134.1 bt134.2.1).bind fun bt138 => ((plan_turn.f bt134.1 bt134.2.1 0 1).bind fun bt141 => ((plan_across.f bt138.1 bt138.2 1 2 a1 a0 1).bind fun bt149 => ((plan_turn.f bt138.1 bt138.2 2 1).bind fun bt157 => ((plan_share.f k a0 a1).bind fun t165 => ((plan_across.f bt134.1 bt134.2.1 1 2 a1 (-1) t165).bind fun bt166 => ((plan_turn.f bt134.1 bt134.2.1 2 3).bind fun bt174 => (some (([(⟨(⟨(⟨bt141.1, bt141.2.1⟩ : S23), bt141.2.2.1, bt141.2.2.2.1, bt141.2.2.2.2.1⟩ : S49), bt141.2.2.2.2.2.1, bt141.2.2.2.2.2.2.1, bt141.2.2.2.2.2.2.2⟩ : S51), (⟨(⟨(⟨bt149.1, bt149.2.1⟩ : S23), bt149.2.2.1, bt149.2.2.2.1, bt149.2.2.2.2.1⟩ : S49), bt149.2.2.2.2.2.1, bt149.2.2.2.2.2.2.1, bt149.2.2.2.2.2.2.2⟩ : S51), (⟨(⟨(⟨bt157.1, bt157.2.1⟩ : S23), bt157.2.2.1, bt157.2.2.2.1, bt157.2.2.2.2.1⟩ : S49), bt157.2.2.2.2.2.1, bt157.2.2.2.2.2.2.1, bt157.2.2.2.2.2.2.2⟩ : S51), (⟨(⟨(⟨bt166.1, bt166.2.1⟩ : S23), bt166.2.2.1, bt166.2.2.2.1, bt166.2.2.2.2.1⟩ : S49), bt166.2.2.2.2.2.1, bt166.2.2.2.2.2.2.1, bt166.2.2.2.2.2.2.2⟩ : S51), (⟨(⟨(⟨bt174.1, bt174.2.1⟩ : S23), bt174.2.2.1, bt174.2.2.2.1, bt174.2.2.2.2.1⟩ : S49), bt174.2.2.2.2.2.1, bt174.2.2.2.2.2.2.1, bt174.2.2.2.2.2.2.2⟩ : S51)] : List (S51)))))))))))
theorem plan_long.mono : ∀ a0 a1 k, LeO (plan_long.f k a0 a1) (plan_long.f (k + 1) a0 a1) := by
  intro a0 a1 k
  unfold plan_long.f
  repeat' first
      | (with_reducible exact plan_share.mono _ _ _)
      | (with_reducible exact LeO.refl _)
      | (with_reducible exact LeO.none _)
      | (with_reducible refine LeO.ite ?_ ?_)
      | (with_reducible refine LeO.bind ?_ (fun _ => ?_))
      | exact plan_share.mono _ _ _
      | exact LeO.none _
      | refine LeO.ite ?_ ?_
      | refine LeO.bind ?_ (fun _ => ?_)
def plan_long.T3 : Bool × List (List Nat × List Nat) := (true, [([], []), ([0], [0]), ([], []), ([], []), ([], []), ([2, 3, 4, 1], [2, 3, 4]), ([], []), ([6, 5], [6]), ([], []), ([], []), ([], []), ([], []), ([10, 11, 7], [10, 11]), ([8, 9, 12, 12], [8, 9, 12]), ([], []), ([14, 13], [14]), ([1, 5, 7, 13, 15], [1, 5, 7, 13, 15]), ([16, 15, 0, 1, 2, 3, 4, 5, 6, 7, 8, 9, 10, 11, 12, 13, 14, 15, 16], [16])])
def plan_long.B3 : List Nat := [0, 1, 0, 0, 0, 31, 0, 127, 0, 0, 0, 0, 3327, 8191, 0, 32767, 65535, 131071]
theorem plan_long.tab3 : rtab .any (opsOf Tryd.f100 3) = plan_long.T3 := by kernel_rfl
theorem plan_long.bits3 : waitsOk plan_long.T3.2 plan_long.B3 = true := by kernel_rfl
set_option maxHeartbeats 8000000 in
set_option maxRecDepth 100000 in
theorem plan_long.calls (k : Nat) (a0 : Int) (a1 : Int) (r : List (S51)) (w : World) (h : plan_long.f k a0 a1 = some r) :
    Calls Tryd.prog 100 #[.int .i64 a0, .int .i64 a1] w fun e w' => ∃ v0_ : Value, e = .returned (v0_) ∧ Kd.R k51 51 w' w.heap.size (fun _ => True) v0_ r ∧ Below w.heap.size w w' := by
  have hu23 := Tryd.underlying23
  have HB := Aside0.mk (Below.refl w.heap.size w)
  have H : ((shape_Even.f a0).bind fun bt134 => ((shape_Turned.f bt134.1 bt134.2.1).bind fun bt138 => ((plan_turn.f bt134.1 bt134.2.1 0 1).bind fun bt141 => ((plan_across.f bt138.1 bt138.2 1 2 a1 a0 1).bind fun bt149 => ((plan_turn.f bt138.1 bt138.2 2 1).bind fun bt157 => ((plan_share.f k a0 a1).bind fun t165 => ((plan_across.f bt134.1 bt134.2.1 1 2 a1 (-1) t165).bind fun bt166 => ((plan_turn.f bt134.1 bt134.2.1 2 3).bind fun bt174 => (some (([(⟨(⟨(⟨bt141.1, bt141.2.1⟩ : S23), bt141.2.2.1, bt141.2.2.2.1, bt141.2.2.2.2.1⟩ : S49), bt141.2.2.2.2.2.1, bt141.2.2.2.2.2.2.1, bt141.2.2.2.2.2.2.2⟩ : S51), (⟨(⟨(⟨bt149.1, bt149.2.1⟩ : S23), bt149.2.2.1, bt149.2.2.2.1, bt149.2.2.2.2.1⟩ : S49), bt149.2.2.2.2.2.1, bt149.2.2.2.2.2.2.1, bt149.2.2.2.2.2.2.2⟩ : S51), (⟨(⟨(⟨bt157.1, bt157.2.1⟩ : S23), bt157.2.2.1, bt157.2.2.2.1, bt157.2.2.2.2.1⟩ : S49), bt157.2.2.2.2.2.1, bt157.2.2.2.2.2.2.1, bt157.2.2.2.2.2.2.2⟩ : S51), (⟨(⟨(⟨bt166.1, bt166.2.1⟩ : S23), bt166.2.2.1, bt166.2.2.2.1, bt166.2.2.2.2.1⟩ : S49), bt166.2.2.2.2.2.1, bt166.2.2.2.2.2.2.1, bt166.2.2.2.2.2.2.2⟩ : S51), (⟨(⟨(⟨bt174.1, bt174.2.1⟩ : S23), bt174.2.2.1, bt174.2.2.2.1, bt174.2.2.2.2.1⟩ : S49), bt174.2.2.2.2.2.1, bt174.2.2.2.2.2.2.1, bt174.2.2.2.2.2.2.2⟩ : S51)] : List (S51)))))))))))) = some r := h
  clear h
  replace H := Option.bind_eq_some_iff.mp H
  obtain ⟨⟨t134, t135, t136⟩, A30, H⟩ := H
  replace H : ((shape_Turned.f t134 t135).bind fun bt138 => ((plan_turn.f t134 t135 0 1).bind fun bt141 => ((plan_across.f bt138.1 bt138.2 1 2 a1 a0 1).bind fun bt149 => ((plan_turn.f bt138.1 bt138.2 2 1).bind fun bt157 => ((plan_share.f k a0 a1).bind fun t165 => ((plan_across.f t134 t135 1 2 a1 (-1) t165).bind fun bt166 => ((plan_turn.f t134 t135 2 3).bind fun bt174 => (some (([(⟨(⟨(⟨bt141.1, bt141.2.1⟩ : S23), bt141.2.2.1, bt141.2.2.2.1, bt141.2.2.2.2.1⟩ : S49), bt141.2.2.2.2.2.1, bt141.2.2.2.2.2.2.1, bt141.2.2.2.2.2.2.2⟩ : S51), (⟨(⟨(⟨bt149.1, bt149.2.1⟩ : S23), bt149.2.2.1, bt149.2.2.2.1, bt149.2.2.2.2.1⟩ : S49), bt149.2.2.2.2.2.1, bt149.2.2.2.2.2.2.1, bt149.2.2.2.2.2.2.2⟩ : S51), (⟨(⟨(⟨bt157.1, bt157.2.1⟩ : S23), bt157.2.2.1, bt157.2.2.2.1, bt157.2.2.2.2.1⟩ : S49), bt157.2.2.2.2.2.1, bt157.2.2.2.2.2.2.1, bt157.2.2.2.2.2.2.2⟩ : S51), (⟨(⟨(⟨bt166.1, bt166.2.1⟩ : S23), bt166.2.2.1, bt166.2.2.2.1, bt166.2.2.2.2.1⟩ : S49), bt166.2.2.2.2.2.1, bt166.2.2.2.2.2.2.1, bt166.2.2.2.2.2.2.2⟩ : S51), (⟨(⟨(⟨bt174.1, bt174.2.1⟩ : S23), bt174.2.2.1, bt174.2.2.2.1, bt174.2.2.2.2.1⟩ : S49), bt174.2.2.2.2.2.1, bt174.2.2.2.2.2.2.1, bt174.2.2.2.2.2.2.2⟩ : S51)] : List (S51))))))))))) = some r := H
  have A3 := Aside0.mk A30
  clear A30
  replace H := Option.bind_eq_some_iff.mp H
  obtain ⟨⟨t138, t139⟩, A40, H⟩ := H
  replace H : ((plan_turn.f t134 t135 0 1).bind fun bt141 => ((plan_across.f t138 t139 1 2 a1 a0 1).bind fun bt149 => ((plan_turn.f t138 t139 2 1).bind fun bt157 => ((plan_share.f k a0 a1).bind fun t165 => ((plan_across.f t134 t135 1 2 a1 (-1) t165).bind fun bt166 => ((plan_turn.f t134 t135 2 3).bind fun bt174 => (some (([(⟨(⟨(⟨bt141.1, bt141.2.1⟩ : S23), bt141.2.2.1, bt141.2.2.2.1, bt141.2.2.2.2.1⟩ : S49), bt141.2.2.2.2.2.1, bt141.2.2.2.2.2.2.1, bt141.2.2.2.2.2.2.2⟩ : S51), (⟨(⟨(⟨bt149.1, bt149.2.1⟩ : S23), bt149.2.2.1, bt149.2.2.2.1, bt149.2.2.2.2.1⟩ : S49), bt149.2.2.2.2.2.1, bt149.2.2.2.2.2.2.1, bt149.2.2.2.2.2.2.2⟩ : S51), (⟨(⟨(⟨bt157.1, bt157.2.1⟩ : S23), bt157.2.2.1, bt157.2.2.2.1, bt157.2.2.2.2.1⟩ : S49), bt157.2.2.2.2.2.1, bt157.2.2.2.2.2.2.1, bt157.2.2.2.2.2.2.2⟩ : S51), (⟨(⟨(⟨bt166.1, bt166.2.1⟩ : S23), bt166.2.2.1, bt166.2.2.2.1, bt166.2.2.2.2.1⟩ : S49), bt166.2.2.2.2.2.1, bt166.2.2.2.2.2.2.1, bt166.2.2.2.2.2.2.2⟩ : S51), (⟨(⟨(⟨bt174.1, bt174.2.1⟩ : S23), bt174.2.2.1, bt174.2.2.2.1, bt174.2.2.2.2.1⟩ : S49), bt174.2.2.2.2.2.1, bt174.2.2.2.2.2.2.1, bt174.2.2.2.2.2.2.2⟩ : S51)] : List (S51)))))))))) = some r := H
  have A4 := Aside0.mk A40
  clear A40
  replace H := Option.bind_eq_some_iff.mp H
  obtain ⟨⟨t141, t142, t143, t144, t145, t146, t147, t148⟩, A50, H⟩ := H
  replace H : ((plan_across.f t138 t139 1 2 a1 a0 1).bind fun bt149 => ((plan_turn.f t138 t139 2 1).bind fun bt157 => ((plan_share.f k a0 a1).bind fun t165 => ((plan_across.f t134 t135 1 2 a1 (-1) t165).bind fun bt166 => ((plan_turn.f t134 t135 2 3).bind fun bt174 => (some (([(⟨(⟨(⟨t141, t142⟩ : S23), t143, t144, t145⟩ : S49), t146, t147, t148⟩ : S51), (⟨(⟨(⟨bt149.1, bt149.2.1⟩ : S23), bt149.2.2.1, bt149.2.2.2.1, bt149.2.2.2.2.1⟩ : S49), bt149.2.2.2.2.2.1, bt149.2.2.2.2.2.2.1, bt149.2.2.2.2.2.2.2⟩ : S51), (⟨(⟨(⟨bt157.1, bt157.2.1⟩ : S23), bt157.2.2.1, bt157.2.2.2.1, bt157.2.2.2.2.1⟩ : S49), bt157.2.2.2.2.2.1, bt157.2.2.2.2.2.2.1, bt157.2.2.2.2.2.2.2⟩ : S51), (⟨(⟨(⟨bt166.1, bt166.2.1⟩ : S23), bt166.2.2.1, bt166.2.2.2.1, bt166.2.2.2.2.1⟩ : S49), bt166.2.2.2.2.2.1, bt166.2.2.2.2.2.2.1, bt166.2.2.2.2.2.2.2⟩ : S51), (⟨(⟨(⟨bt174.1, bt174.2.1⟩ : S23), bt174.2.2.1, bt174.2.2.2.1, bt174.2.2.2.2.1⟩ : S49), bt174.2.2.2.2.2.1, bt174.2.2.2.2.2.2.1, bt174.2.2.2.2.2.2.2⟩ : S51)] : List (S51))))))))) = some r := H
  have A5 := Aside0.mk A50
  clear A50
  replace H := Option.bind_eq_some_iff.mp H
  obtain ⟨⟨t149, t150, t151, t152, t153, t154, t155, t156⟩, A60, H⟩ := H
  replace H : ((plan_turn.f t138 t139 2 1).bind fun bt157 => ((plan_share.f k a0 a1).bind fun t165 => ((plan_across.f t134 t135 1 2 a1 (-1) t165).bind fun bt166 => ((plan_turn.f t134 t135 2 3).bind fun bt174 => (some (([(⟨(⟨(⟨t141, t142⟩ : S23), t143, t144, t145⟩ : S49), t146, t147, t148⟩ : S51), (⟨(⟨(⟨t149, t150⟩ : S23), t151, t152, t153⟩ : S49), t154, t155, t156⟩ : S51), (⟨(⟨(⟨bt157.1, bt157.2.1⟩ : S23), bt157.2.2.1, bt157.2.2.2.1, bt157.2.2.2.2.1⟩ : S49), bt157.2.2.2.2.2.1, bt157.2.2.2.2.2.2.1, bt157.2.2.2.2.2.2.2⟩ : S51), (⟨(⟨(⟨bt166.1, bt166.2.1⟩ : S23), bt166.2.2.1, bt166.2.2.2.1, bt166.2.2.2.2.1⟩ : S49), bt166.2.2.2.2.2.1, bt166.2.2.2.2.2.2.1, bt166.2.2.2.2.2.2.2⟩ : S51), (⟨(⟨(⟨bt174.1, bt174.2.1⟩ : S23), bt174.2.2.1, bt174.2.2.2.1, bt174.2.2.2.2.1⟩ : S49), bt174.2.2.2.2.2.1, bt174.2.2.2.2.2.2.1, bt174.2.2.2.2.2.2.2⟩ : S51)] : List (S51)))))))) = some r := H
  have A6 := Aside0.mk A60
  clear A60
  replace H := Option.bind_eq_some_iff.mp H
  obtain ⟨⟨t157, t158, t159, t160, t161, t162, t163, t164⟩, A70, H⟩ := H
  replace H : ((plan_share.f k a0 a1).bind fun t165 => ((plan_across.f t134 t135 1 2 a1 (-1) t165).bind fun bt166 => ((plan_turn.f t134 t135 2 3).bind fun bt174 => (some (([(⟨(⟨(⟨t141, t142⟩ : S23), t143, t144, t145⟩ : S49), t146, t147, t148⟩ : S51), (⟨(⟨(⟨t149, t150⟩ : S23), t151, t152, t153⟩ : S49), t154, t155, t156⟩ : S51), (⟨(⟨(⟨t157, t158⟩ : S23), t159, t160, t161⟩ : S49), t162, t163, t164⟩ : S51), (⟨(⟨(⟨bt166.1, bt166.2.1⟩ : S23), bt166.2.2.1, bt166.2.2.2.1, bt166.2.2.2.2.1⟩ : S49), bt166.2.2.2.2.2.1, bt166.2.2.2.2.2.2.1, bt166.2.2.2.2.2.2.2⟩ : S51), (⟨(⟨(⟨bt174.1, bt174.2.1⟩ : S23), bt174.2.2.1, bt174.2.2.2.1, bt174.2.2.2.2.1⟩ : S49), bt174.2.2.2.2.2.1, bt174.2.2.2.2.2.2.1, bt174.2.2.2.2.2.2.2⟩ : S51)] : List (S51))))))) = some r := H
  have A7 := Aside0.mk A70
  clear A70
  replace H := Option.bind_eq_some_iff.mp H
  obtain ⟨t165, A80, H⟩ := H
  replace H : ((plan_across.f t134 t135 1 2 a1 (-1) t165).bind fun bt166 => ((plan_turn.f t134 t135 2 3).bind fun bt174 => (some (([(⟨(⟨(⟨t141, t142⟩ : S23), t143, t144, t145⟩ : S49), t146, t147, t148⟩ : S51), (⟨(⟨(⟨t149, t150⟩ : S23), t151, t152, t153⟩ : S49), t154, t155, t156⟩ : S51), (⟨(⟨(⟨t157, t158⟩ : S23), t159, t160, t161⟩ : S49), t162, t163, t164⟩ : S51), (⟨(⟨(⟨bt166.1, bt166.2.1⟩ : S23), bt166.2.2.1, bt166.2.2.2.1, bt166.2.2.2.2.1⟩ : S49), bt166.2.2.2.2.2.1, bt166.2.2.2.2.2.2.1, bt166.2.2.2.2.2.2.2⟩ : S51), (⟨(⟨(⟨bt174.1, bt174.2.1⟩ : S23), bt174.2.2.1, bt174.2.2.2.1, bt174.2.2.2.2.1⟩ : S49), bt174.2.2.2.2.2.1, bt174.2.2.2.2.2.2.1, bt174.2.2.2.2.2.2.2⟩ : S51)] : List (S51)))))) = some r := H
  have A8 := Aside0.mk A80
  clear A80
  replace H := Option.bind_eq_some_iff.mp H
  obtain ⟨⟨t166, t167, t168, t169, t170, t171, t172, t173⟩, A90, H⟩ := H
  replace H : ((plan_turn.f t134 t135 2 3).bind fun bt174 => (some (([(⟨(⟨(⟨t141, t142⟩ : S23), t143, t144, t145⟩ : S49), t146, t147, t148⟩ : S51), (⟨(⟨(⟨t149, t150⟩ : S23), t151, t152, t153⟩ : S49), t154, t155, t156⟩ : S51), (⟨(⟨(⟨t157, t158⟩ : S23), t159, t160, t161⟩ : S49), t162, t163, t164⟩ : S51), (⟨(⟨(⟨t166, t167⟩ : S23), t168, t169, t170⟩ : S49), t171, t172, t173⟩ : S51), (⟨(⟨(⟨bt174.1, bt174.2.1⟩ : S23), bt174.2.2.1, bt174.2.2.2.1, bt174.2.2.2.2.1⟩ : S49), bt174.2.2.2.2.2.1, bt174.2.2.2.2.2.2.1, bt174.2.2.2.2.2.2.2⟩ : S51)] : List (S51))))) = some r := H
  have A9 := Aside0.mk A90
  clear A90
  replace H := Option.bind_eq_some_iff.mp H
  obtain ⟨⟨t174, t175, t176, t177, t178, t179, t180, t181⟩, A100, H⟩ := H
  replace H : (some (([(⟨(⟨(⟨t141, t142⟩ : S23), t143, t144, t145⟩ : S49), t146, t147, t148⟩ : S51), (⟨(⟨(⟨t149, t150⟩ : S23), t151, t152, t153⟩ : S49), t154, t155, t156⟩ : S51), (⟨(⟨(⟨t157, t158⟩ : S23), t159, t160, t161⟩ : S49), t162, t163, t164⟩ : S51), (⟨(⟨(⟨t166, t167⟩ : S23), t168, t169, t170⟩ : S49), t171, t172, t173⟩ : S51), (⟨(⟨(⟨t174, t175⟩ : S23), t176, t177, t178⟩ : S49), t179, t180, t181⟩ : S51)] : List (S51)))) = some r := H
  have A10 := Aside0.mk A100
  clear A100
  obtain ⟨y182, hy182⟩ : ∃ y_ : List (S51), y_ = (([(⟨(⟨(⟨t141, t142⟩ : S23), t143, t144, t145⟩ : S49), t146, t147, t148⟩ : S51), (⟨(⟨(⟨t149, t150⟩ : S23), t151, t152, t153⟩ : S49), t154, t155, t156⟩ : S51), (⟨(⟨(⟨t157, t158⟩ : S23), t159, t160, t161⟩ : S49), t162, t163, t164⟩ : S51), (⟨(⟨(⟨t166, t167⟩ : S23), t168, t169, t170⟩ : S49), t171, t172, t173⟩ : S51), (⟨(⟨(⟨t174, t175⟩ : S23), t176, t177, t178⟩ : S49), t179, t180, t181⟩ : S51)] : List (S51))) := ⟨_, rfl⟩
  replace H : (some y182) = some r := by first | (rw [hy182]; with_reducible exact H) | (have H2_ := (Option.bind_some _ _).symm.trans H; rw [hy182]; with_reducible exact H2_) | (have H2_ := (Option.bind_some _ _).symm.trans H; with_reducible exact H2_) | with_reducible exact H | (rw [hy182]; exact H) | exact H
  have Ny182 := Aside0.mk hy182
  clear hy182
  obtain rfl := Option.some.inj H
  go_enter Tryd.func100, Tryd.ntmps100
  try go_wp2_with (first | ((with_reducible refine gate_callee (f := 124) rfl ?_); refine goesL_ (some 10) rfl rfl Tryd.func124 (by kernel_rfl) rfl #[.int .i64 a0] rfl (by (try simp only [List.map_toArray, List.map_cons, List.map_nil]); first | done | rfl | (simp only [List.length_drop, List.length_take]; rfl)) ?_; (with_reducible refine (shape_Even.calls a0 t134 t135 t136 _ A3.out).mono ?_); rintro e w11 ⟨rfl, hb⟩; refine ⟨_, rfl, ?_⟩; have n0_ := Aside0.mk (below_step (by repeat (first | (with_reducible first | exact HB.out | apply below_alloc | apply pw_below_drewN | apply below_drew1) | exact HB.out)) hb); clear HB; have HB := n0_; clear n0_; (try clear hb); (try clear hb2); (try clear hk); (try clear hi)) | ((with_reducible refine gate_dst (N := 5) rfl ?_); refine box_event ?hg (N := 5) ?hd (cs := #[.int .i64 0, .int .i64 0]) (t := 23) ?hr ?_; (case hd => rfl); (case hg => rfl); (case hr => first | (go_simp; done) | (go_simp; rfl)); intro gb137 hg w12 hbox hb; have n0_ := Aside0.mk (below_step (by repeat (first | (with_reducible first | exact HB.out | apply below_alloc | apply pw_below_drewN | apply below_drew1) | exact HB.out)) hb); have n1_ := Aside0.mk (hbox); have n2_ := Aside0.mk ((by rw [hg]; exact (below_size (by repeat (first | (with_reducible first | exact HB.out | apply below_alloc | apply pw_below_drewN | apply below_drew1) | exact HB.out))) : w.heap.size ≤ gb137)); have n3_ := Aside0.mk ((by rw [hg]; exact (below_size (by repeat (first | (with_reducible first | exact HB.out | apply below_alloc | apply pw_below_drewN | apply below_drew1) | exact HB.out))) : w.heap.size ≤ gb137)); clear HB; have HB := n0_; have BK137 := n1_; have GW137 := n2_; have GE137 := n3_; clear n0_ n1_ n2_ n3_; clear hb hbox hg; have hcz13_0 : w12.cell? ⟨gb137, 0, none⟩ = some (.int .i64 0) := (blk_cell BK137.out 0).trans rfl; have hcz13_1 : w12.cell? ⟨gb137, 1, none⟩ = some (.int .i64 0) := (blk_cell BK137.out 1).trans rfl; have hfz13_0 := blk_frozen BK137.out 0; have hfz13_1 := blk_frozen BK137.out 1) | ((with_reducible refine gate_callee (f := 95) rfl ?_); refine goesL_ (some 14) rfl rfl Tryd.func95 (by kernel_rfl) rfl #[.agg #[.int .i64 t134, .int .i64 t135]] rfl (by (try simp only [List.map_toArray, List.map_cons, List.map_nil]); first | done | rfl | (simp only [List.length_drop, List.length_take]; rfl)) ?_; (with_reducible refine (shape_Turned.calls t134 t135 t138 t139 _ A4.out).mono ?_); rintro e w14 ⟨rfl, hb⟩; refine ⟨_, rfl, ?_⟩; have n0_ := Aside0.mk (blk_below (g := gb137) (o := .cells #[.int .i64 t134, .int .i64 t135] 23 (0, 0)) (by (with_reducible repeat (first | refine blk_drewN ?_ _ | refine blk_drew ?_ | refine blk_alloc ?_ _)); refine blk_put (cs := #[.int .i64 t134, .int .i64 0]) ?_ 1 _ rfl; (with_reducible repeat (first | refine blk_drewN ?_ _ | refine blk_drew ?_ | refine blk_alloc ?_ _)); refine blk_put (cs := #[.int .i64 0, .int .i64 0]) ?_ 0 _ rfl; (with_reducible repeat (first | refine blk_drewN ?_ _ | refine blk_drew ?_ | refine blk_alloc ?_ _)); exact BK137.out) hb); have n1_ := Aside0.mk (below_step (by repeat (first | (with_reducible first | exact HB.out | apply below_alloc | apply pw_below_drewN | apply below_drew1 | refine below_set ?_ GE137.out) | exact HB.out)) hb); clear BK137; clear HB; have BK137 := n0_; have HB := n1_; clear n0_ n1_; (try clear hb); (try clear hb2); (try clear hk); (try clear hi)) | ((with_reducible refine gate_dst (N := 7) rfl ?_); refine box_event ?hg (N := 7) ?hd (cs := #[.int .i64 0, .int .i64 0]) (t := 23) ?hr ?_; (case hd => rfl); (case hg => rfl); (case hr => first | (go_simp; done) | (go_simp; rfl)); intro gb140 hg w15 hbox hb; have n0_ := Aside0.mk (blk_below (g := gb137) (o := .cells #[.int .i64 t134, .int .i64 t135] 23 (0, 0)) (by (with_reducible repeat (first | refine blk_drewN ?_ _ | refine blk_drew ?_ | refine blk_alloc ?_ _)); exact BK137.out) hb); have n1_ := Aside0.mk (below_step (by repeat (first | (with_reducible first | exact HB.out | apply below_alloc | apply pw_below_drewN | apply below_drew1 | refine below_set ?_ GE137.out) | exact HB.out)) hb); have n2_ := Aside0.mk (hbox); have n3_ := Aside0.mk ((by rw [hg]; exact (below_size (by repeat (first | (with_reducible first | exact HB.out | apply below_alloc | apply pw_below_drewN | apply below_drew1 | refine below_set ?_ GE137.out) | exact HB.out))) : w.heap.size ≤ gb140)); have n4_ := Aside0.mk ((by rw [hg]; exact (below_size (by repeat (first | (with_reducible first | exact HB.out | apply below_alloc | apply pw_below_drewN | apply below_drew1 | refine below_set ?_ GE137.out) | exact HB.out))) : w.heap.size ≤ gb140)); have n5_ := Aside0.mk ((by rw [hg]; exact Nat.ne_of_lt (blk_lt (g := gb137) (o := .cells #[.int .i64 t134, .int .i64 t135] 23 (0, 0)) (by (with_reducible repeat (first | refine blk_drewN ?_ _ | refine blk_drew ?_ | refine blk_alloc ?_ _)); exact BK137.out)) : gb137 ≠ gb140)); have n6_ := Aside0.mk ((by rw [hg]; exact Nat.ne_of_gt (blk_lt (g := gb137) (o := .cells #[.int .i64 t134, .int .i64 t135] 23 (0, 0)) (by (with_reducible repeat (first | refine blk_drewN ?_ _ | refine blk_drew ?_ | refine blk_alloc ?_ _)); exact BK137.out)) : gb140 ≠ gb137)); clear BK137; clear HB; have BK137 := n0_; have HB := n1_; have BK140 := n2_; have GW140 := n3_; have GE140 := n4_; have NB137_140 := n5_; have NB140_137 := n6_; clear n0_ n1_ n2_ n3_ n4_ n5_ n6_; clear hb hbox hg; have hnb16 := NB140_137.out; have hnc16 := NB137_140.out; have hcz17_0 : w15.cell? ⟨gb140, 0, none⟩ = some (.int .i64 0) := (blk_cell BK140.out 0).trans rfl; have hcz17_1 : w15.cell? ⟨gb140, 1, none⟩ = some (.int .i64 0) := (blk_cell BK140.out 1).trans rfl; have hfz17_0 := blk_frozen BK140.out 0; have hfz17_1 := blk_frozen BK140.out 1))
  have n0_ : Aside0 (((w15.setCell ⟨gb140, 0, none⟩ (.int .i64 t138)).setCell ⟨gb140, 1, none⟩ (.int .i64 t139)).heap[gb137]? = some (.cells #[.int .i64 t134, .int .i64 t135] 23 (0, 0))) := ⟨by (with_reducible repeat (first | refine blk_drewN ?_ _ | refine blk_drew ?_ | refine blk_alloc ?_ _)); refine blk_far ?_ NB137_140.out _; (with_reducible repeat (first | refine blk_drewN ?_ _ | refine blk_drew ?_ | refine blk_alloc ?_ _)); refine blk_far ?_ NB137_140.out _; (with_reducible repeat (first | refine blk_drewN ?_ _ | refine blk_drew ?_ | refine blk_alloc ?_ _)); exact BK137.out⟩
  have n1_ : Aside0 (((w15.setCell ⟨gb140, 0, none⟩ (.int .i64 t138)).setCell ⟨gb140, 1, none⟩ (.int .i64 t139)).heap[gb140]? = some (.cells #[.int .i64 t138, .int .i64 t139] 23 (0, 0))) := ⟨by (with_reducible repeat (first | refine blk_drewN ?_ _ | refine blk_drew ?_ | refine blk_alloc ?_ _)); refine blk_put (cs := #[.int .i64 t138, .int .i64 0]) ?_ 1 _ rfl; (with_reducible repeat (first | refine blk_drewN ?_ _ | refine blk_drew ?_ | refine blk_alloc ?_ _)); refine blk_put (cs := #[.int .i64 0, .int .i64 0]) ?_ 0 _ rfl; (with_reducible repeat (first | refine blk_drewN ?_ _ | refine blk_drew ?_ | refine blk_alloc ?_ _)); exact BK140.out⟩
  have n2_ : Aside0 (Below w.heap.size w ((w15.setCell ⟨gb140, 0, none⟩ (.int .i64 t138)).setCell ⟨gb140, 1, none⟩ (.int .i64 t139))) := ⟨by repeat (first | (with_reducible first | exact HB.out | apply below_alloc | apply pw_below_drewN | apply below_drew1 | refine below_set ?_ GE137.out | refine below_set ?_ GE140.out) | exact HB.out)⟩
  (try clear BK137)
  (try clear BK140)
  (try clear HB)
  generalize ((w15.setCell ⟨gb140, 0, none⟩ (.int .i64 t138)).setCell ⟨gb140, 1, none⟩ (.int .i64 t139)) = w18 at n0_ n1_ n2_ ⊢
  have BK137 := n0_
  have BK140 := n1_
  have HB := n2_
  clear n0_ n1_ n2_
  have n0_ := Aside0.mk (blk_drew BK137.out)
  have n1_ := Aside0.mk (blk_drew BK140.out)
  have n2_ := Aside0.mk (below_drew1 HB.out)
  clear BK137
  clear BK140
  clear HB
  have BK137 := n0_
  have BK140 := n1_
  have HB := n2_
  clear n0_ n1_ n2_
  refine start_ (n := 18) (S := fun w' => w'.cell? ⟨gb137, 0, none⟩ = some (.int .i64 t134) ∧ w'.cell? ⟨gb137, 1, none⟩ = some (.int .i64 t135) ∧ w'.cell? ⟨gb140, 0, none⟩ = some (.int .i64 t138) ∧ w'.cell? ⟨gb140, 1, none⟩ = some (.int .i64 t139)) (ds := []) #[false, false, false, false, false, false, false, false, false, false, false, false, false, false, false, false, false, false] (by kernel_rfl) rfl rfl ⟨(blk_cell BK137.out 0).trans rfl, (blk_cell BK137.out 1).trans rfl, (blk_cell BK140.out 0).trans rfl, (blk_cell BK140.out 1).trans rfl⟩ (fun hHeld => ?_); refine with_tabW plan_long.tab3 plan_long.bits3 (fun HT_ HW_ => ?_)
  generalize w18.drew = w19 at BK137 BK140 HB hHeld ⊢
  refine pure_ (i := 3) (N := some 18) (v := ?_) (a' := ?_) #[false, false, false, true, false, false, false, false, false, false, false, false, false, false, false, false, false, false] rfl rfl (any_of HT_.out (by kernel_rfl)) (fun _ _ _ h => h) (Or.inl ⟨by rfl, ?_⟩) ?_ ?_
  rotate_left
  · intro w'
    go_simp
    with_reducible rfl
  rotate_left
  · simp only [Act.put, List.setIfInBounds_toArray, List.set_cons_zero, List.set_cons_succ, i64_w, i32_w]
    rfl
  refine pure_ (i := 4) (N := some 19) (v := ?_) (a' := ?_) #[false, false, false, true, true, false, false, false, false, false, false, false, false, false, false, false, false, false] rfl rfl (any_of HT_.out (by kernel_rfl)) (fun _ _ _ h => h) (Or.inl ⟨by rfl, ?_⟩) ?_ ?_
  rotate_left
  · intro w'
    go_simp
    with_reducible rfl
  rotate_left
  · simp only [Act.put, List.setIfInBounds_toArray, List.set_cons_zero, List.set_cons_succ, i64_w, i32_w]
    rfl
  refine pure_ (i := 9) (N := some 24) (v := ?_) (a' := ?_) #[false, false, false, true, true, false, false, false, false, true, false, false, false, false, false, false, false, false] rfl rfl (any_of HT_.out (by kernel_rfl)) (fun _ _ _ h => h) (Or.inl ⟨by rfl, ?_⟩) ?_ ?_
  rotate_left
  · intro w'
    go_simp
    with_reducible rfl
  rotate_left
  · simp only [Act.put, List.setIfInBounds_toArray, List.set_cons_zero, List.set_cons_succ, i64_w, i32_w]
    rfl
  refine pure_ (i := 10) (N := some 25) (v := ?_) (a' := ?_) #[false, false, false, true, true, false, false, false, false, true, true, false, false, false, false, false, false, false] rfl rfl (any_of HT_.out (by kernel_rfl)) (fun _ _ _ h => h) (Or.inl ⟨by rfl, ?_⟩) ?_ ?_
  rotate_left
  · intro w'
    go_simp
    with_reducible rfl
  rotate_left
  · simp only [Act.put, List.setIfInBounds_toArray, List.set_cons_zero, List.set_cons_succ, i64_w, i32_w]
    rfl
  refine pure_ (i := 11) (N := some 26) (v := ?_) (a' := ?_) #[false, false, false, true, true, false, false, false, false, true, true, true, false, false, false, false, false, false] rfl rfl (any_of HT_.out (by kernel_rfl)) (fun _ _ _ h => h) (Or.inl ⟨by rfl, ?_⟩) ?_ ?_
  rotate_left
  · intro w'
    go_simp
    with_reducible rfl
  rotate_left
  · simp only [Act.put, List.setIfInBounds_toArray, List.set_cons_zero, List.set_cons_succ, i64_w, i32_w]
    rfl
  refine take_ (i := 0) (N := some 15) (v := ?_) (a' := ?_) #[true, false, false, true, true, false, false, false, false, true, true, true, false, false, false, false, false, false] rfl rfl (take_ofW HT_.out HW_.out (by kernel_rfl)) (fun _ _ _ h => h) (Or.inl ⟨by rfl, ?_⟩) hHeld ?_ ?_
  rotate_left
  · rintro w' ⟨s0, s1, s2, s3⟩
    go_simp
    with_reducible rfl
  rotate_left
  · simp only [Act.put, List.setIfInBounds_toArray, List.set_cons_zero, List.set_cons_succ, i64_w, i32_w]
    rfl
  refine take_ (i := 2) (N := some 17) (v := ?_) (a' := ?_) #[true, false, true, true, true, false, false, false, false, true, true, true, false, false, false, false, false, false] rfl rfl (take_ofW HT_.out HW_.out (by kernel_rfl)) (fun _ _ _ h => h) (Or.inl ⟨by rfl, ?_⟩) hHeld ?_ ?_
  rotate_left
  · rintro w' ⟨s0, s1, s2, s3⟩
    go_simp
    with_reducible rfl
  rotate_left
  · simp only [Act.put, List.setIfInBounds_toArray, List.set_cons_zero, List.set_cons_succ, i64_w, i32_w]
    rfl
  refine take_ (i := 6) (N := some 21) (v := ?_) (a' := ?_) #[true, false, true, true, true, false, true, false, false, true, true, true, false, false, false, false, false, false] rfl rfl (take_ofW HT_.out HW_.out (by kernel_rfl)) (fun _ _ _ h => h) (Or.inl ⟨by rfl, ?_⟩) hHeld ?_ ?_
  rotate_left
  · rintro w' ⟨s0, s1, s2, s3⟩
    go_simp
    with_reducible rfl
  rotate_left
  · simp only [Act.put, List.setIfInBounds_toArray, List.set_cons_zero, List.set_cons_succ, i64_w, i32_w]
    rfl
  refine take_ (i := 8) (N := some 23) (v := ?_) (a' := ?_) #[true, false, true, true, true, false, true, false, true, true, true, true, false, false, false, false, false, false] rfl rfl (take_ofW HT_.out HW_.out (by kernel_rfl)) (fun _ _ _ h => h) (Or.inl ⟨by rfl, ?_⟩) hHeld ?_ ?_
  rotate_left
  · rintro w' ⟨s0, s1, s2, s3⟩
    go_simp
    with_reducible rfl
  rotate_left
  · simp only [Act.put, List.setIfInBounds_toArray, List.set_cons_zero, List.set_cons_succ, i64_w, i32_w]
    rfl
  refine take_ (i := 14) (N := some 29) (v := ?_) (a' := ?_) #[true, false, true, true, true, false, true, false, true, true, true, true, false, false, true, false, false, false] rfl rfl (take_ofW HT_.out HW_.out (by kernel_rfl)) (fun _ _ _ h => h) (Or.inl ⟨by rfl, ?_⟩) hHeld ?_ ?_
  rotate_left
  · rintro w' ⟨s0, s1, s2, s3⟩
    go_simp
    with_reducible rfl
  rotate_left
  · simp only [Act.put, List.setIfInBounds_toArray, List.set_cons_zero, List.set_cons_succ, i64_w, i32_w]
    rfl
  refine one_ (i := 1) (N := some 16) #[true, true, true, true, true, false, true, false, true, true, true, true, false, false, true, false, false, false] rfl rfl (one_of HT_.out (by kernel_rfl)) (by decide) (fun K hK => ?_)
  refine goes_ Tryd.func125 (by kernel_rfl) rfl #[.agg #[.int .i64 t134, .int .i64 t135], .int .i64 0, .int .i64 1] (by rfl) rfl rfl (by (try simp only [List.map_toArray, List.map_cons, List.map_nil]); first | done | rfl | (simp only [List.length_drop, List.length_take]; rfl)) ?_
  with_reducible refine (plan_turn.calls t134 t135 0 1 t141 t142 t143 t144 t145 t146 t147 t148 _ A5.out).mono ?_
  rintro e w20 ⟨rfl, hb⟩
  refine ⟨_, rfl, ?_⟩
  have n0_ := Aside0.mk (blk_below (g := gb137) (o := .cells #[.int .i64 t134, .int .i64 t135] 23 (0, 0)) (by (with_reducible repeat (first | refine blk_drewN ?_ _ | refine blk_drew ?_ | refine blk_alloc ?_ _)); exact BK137.out) hb)
  have n1_ := Aside0.mk (blk_below (g := gb140) (o := .cells #[.int .i64 t138, .int .i64 t139] 23 (0, 0)) (by (with_reducible repeat (first | refine blk_drewN ?_ _ | refine blk_drew ?_ | refine blk_alloc ?_ _)); exact BK140.out) hb)
  have n2_ := Aside0.mk (below_step (by repeat (first | (with_reducible first | exact HB.out | apply below_alloc | apply pw_below_drewN | apply below_drew1 | refine below_set ?_ GE137.out | refine below_set ?_ GE140.out) | exact HB.out)) hb)
  clear BK137
  clear BK140
  clear HB
  have BK137 := n0_
  have BK140 := n1_
  have HB := n2_
  clear n0_ n1_ n2_
  (try clear hb)
  (try clear hb2)
  (try clear hk)
  (try clear hi)
  refine hK.out _ _ ⟨(blk_cell BK137.out 0).trans rfl, (blk_cell BK137.out 1).trans rfl, (blk_cell BK140.out 0).trans rfl, (blk_cell BK140.out 1).trans rfl⟩ (fun hHeld => ?_)
  clear hK K
  refine norm_ (a' := ?_) ?_ ?_
  rotate_left
  · show Act.put _ (some 16) _ = _
    simp only [Act.put, List.setIfInBounds_toArray, List.set_cons_zero, List.set_cons_succ, i64_w, i32_w]
    rfl
  refine one_ (i := 5) (N := some 20) #[true, true, true, true, true, true, true, false, true, true, true, true, false, false, true, false, false, false] rfl rfl (one_of HT_.out (by kernel_rfl)) (by decide) (fun K hK => ?_)
  refine goes_ Tryd.func98 (by kernel_rfl) rfl #[.agg #[.int .i64 t138, .int .i64 t139], .int .i64 1, .int .i64 2, .int .i64 a1, .int .i64 a0, .int .u64 1] (by rfl) rfl rfl (by (try simp only [List.map_toArray, List.map_cons, List.map_nil]); first | done | rfl | (simp only [List.length_drop, List.length_take]; rfl)) ?_
  with_reducible refine (plan_across.calls t138 t139 1 2 a1 a0 1 t149 t150 t151 t152 t153 t154 t155 t156 _ A6.out).mono ?_
  rintro e w21 ⟨rfl, hb⟩
  refine ⟨_, rfl, ?_⟩
  have n0_ := Aside0.mk (blk_below (g := gb137) (o := .cells #[.int .i64 t134, .int .i64 t135] 23 (0, 0)) (by (with_reducible repeat (first | refine blk_drewN ?_ _ | refine blk_drew ?_ | refine blk_alloc ?_ _)); exact BK137.out) hb)
  have n1_ := Aside0.mk (blk_below (g := gb140) (o := .cells #[.int .i64 t138, .int .i64 t139] 23 (0, 0)) (by (with_reducible repeat (first | refine blk_drewN ?_ _ | refine blk_drew ?_ | refine blk_alloc ?_ _)); exact BK140.out) hb)
  have n2_ := Aside0.mk (below_step (by repeat (first | (with_reducible first | exact HB.out | apply below_alloc | apply pw_below_drewN | apply below_drew1 | refine below_set ?_ GE137.out | refine below_set ?_ GE140.out) | exact HB.out)) hb)
  clear BK137
  clear BK140
  clear HB
  have BK137 := n0_
  have BK140 := n1_
  have HB := n2_
  clear n0_ n1_ n2_
  (try clear hb)
  (try clear hb2)
  (try clear hk)
  (try clear hi)
  refine hK.out _ _ ⟨(blk_cell BK137.out 0).trans rfl, (blk_cell BK137.out 1).trans rfl, (blk_cell BK140.out 0).trans rfl, (blk_cell BK140.out 1).trans rfl⟩ (fun hHeld => ?_)
  clear hK K
  refine norm_ (a' := ?_) ?_ ?_
  rotate_left
  · show Act.put _ (some 20) _ = _
    simp only [Act.put, List.setIfInBounds_toArray, List.set_cons_zero, List.set_cons_succ, i64_w, i32_w]
    rfl
  refine one_ (i := 7) (N := some 22) #[true, true, true, true, true, true, true, true, true, true, true, true, false, false, true, false, false, false] rfl rfl (one_of HT_.out (by kernel_rfl)) (by decide) (fun K hK => ?_)
  refine goes_ Tryd.func125 (by kernel_rfl) rfl #[.agg #[.int .i64 t138, .int .i64 t139], .int .i64 2, .int .i64 1] (by rfl) rfl rfl (by (try simp only [List.map_toArray, List.map_cons, List.map_nil]); first | done | rfl | (simp only [List.length_drop, List.length_take]; rfl)) ?_
  with_reducible refine (plan_turn.calls t138 t139 2 1 t157 t158 t159 t160 t161 t162 t163 t164 _ A7.out).mono ?_
  rintro e w22 ⟨rfl, hb⟩
  refine ⟨_, rfl, ?_⟩
  have n0_ := Aside0.mk (blk_below (g := gb137) (o := .cells #[.int .i64 t134, .int .i64 t135] 23 (0, 0)) (by (with_reducible repeat (first | refine blk_drewN ?_ _ | refine blk_drew ?_ | refine blk_alloc ?_ _)); exact BK137.out) hb)
  have n1_ := Aside0.mk (blk_below (g := gb140) (o := .cells #[.int .i64 t138, .int .i64 t139] 23 (0, 0)) (by (with_reducible repeat (first | refine blk_drewN ?_ _ | refine blk_drew ?_ | refine blk_alloc ?_ _)); exact BK140.out) hb)
  have n2_ := Aside0.mk (below_step (by repeat (first | (with_reducible first | exact HB.out | apply below_alloc | apply pw_below_drewN | apply below_drew1 | refine below_set ?_ GE137.out | refine below_set ?_ GE140.out) | exact HB.out)) hb)
  clear BK137
  clear BK140
  clear HB
  have BK137 := n0_
  have BK140 := n1_
  have HB := n2_
  clear n0_ n1_ n2_
  (try clear hb)
  (try clear hb2)
  (try clear hk)
  (try clear hi)
  refine hK.out _ _ ⟨(blk_cell BK137.out 0).trans rfl, (blk_cell BK137.out 1).trans rfl, (blk_cell BK140.out 0).trans rfl, (blk_cell BK140.out 1).trans rfl⟩ (fun hHeld => ?_)
  clear hK K
  refine norm_ (a' := ?_) ?_ ?_
  rotate_left
  · show Act.put _ (some 22) _ = _
    simp only [Act.put, List.setIfInBounds_toArray, List.set_cons_zero, List.set_cons_succ, i64_w, i32_w]
    rfl
  refine one_ (i := 12) (N := some 27) #[true, true, true, true, true, true, true, true, true, true, true, true, true, false, true, false, false, false] rfl rfl (one_of HT_.out (by kernel_rfl)) (by decide) (fun K hK => ?_)
  refine goes_ Tryd.func99 (by kernel_rfl) rfl #[.int .i64 a0, .int .i64 a1] (by rfl) rfl rfl (by (try simp only [List.map_toArray, List.map_cons, List.map_nil]); first | done | rfl | (simp only [List.length_drop, List.length_take]; rfl)) ?_
  with_reducible refine (plan_share.calls k a0 a1 t165 _ A8.out).mono ?_
  rintro e w23 ⟨rfl, hb⟩
  refine ⟨_, rfl, ?_⟩
  have n0_ := Aside0.mk (blk_below (g := gb137) (o := .cells #[.int .i64 t134, .int .i64 t135] 23 (0, 0)) (by (with_reducible repeat (first | refine blk_drewN ?_ _ | refine blk_drew ?_ | refine blk_alloc ?_ _)); exact BK137.out) hb)
  have n1_ := Aside0.mk (blk_below (g := gb140) (o := .cells #[.int .i64 t138, .int .i64 t139] 23 (0, 0)) (by (with_reducible repeat (first | refine blk_drewN ?_ _ | refine blk_drew ?_ | refine blk_alloc ?_ _)); exact BK140.out) hb)
  have n2_ := Aside0.mk (below_step (by repeat (first | (with_reducible first | exact HB.out | apply below_alloc | apply pw_below_drewN | apply below_drew1 | refine below_set ?_ GE137.out | refine below_set ?_ GE140.out) | exact HB.out)) hb)
  clear BK137
  clear BK140
  clear HB
  have BK137 := n0_
  have BK140 := n1_
  have HB := n2_
  clear n0_ n1_ n2_
  (try clear hb)
  (try clear hb2)
  (try clear hk)
  (try clear hi)
  refine hK.out _ _ ⟨(blk_cell BK137.out 0).trans rfl, (blk_cell BK137.out 1).trans rfl, (blk_cell BK140.out 0).trans rfl, (blk_cell BK140.out 1).trans rfl⟩ (fun hHeld => ?_)
  clear hK K
  refine norm_ (a' := ?_) ?_ ?_
  rotate_left
  · show Act.put _ (some 27) _ = _
    simp only [Act.put, List.setIfInBounds_toArray, List.set_cons_zero, List.set_cons_succ, i64_w, i32_w]
    rfl
  refine one_ (i := 13) (N := some 28) #[true, true, true, true, true, true, true, true, true, true, true, true, true, true, true, false, false, false] rfl rfl (one_of HT_.out (by kernel_rfl)) (by decide) (fun K hK => ?_)
  refine goes_ Tryd.func98 (by kernel_rfl) rfl #[.agg #[.int .i64 t134, .int .i64 t135], .int .i64 1, .int .i64 2, .int .i64 a1, .int .i64 (-1), .int .u64 t165] (by rfl) rfl rfl (by (try simp only [List.map_toArray, List.map_cons, List.map_nil]); first | done | rfl | (simp only [List.length_drop, List.length_take]; rfl)) ?_
  with_reducible refine (plan_across.calls t134 t135 1 2 a1 (-1) t165 t166 t167 t168 t169 t170 t171 t172 t173 _ A9.out).mono ?_
  rintro e w24 ⟨rfl, hb⟩
  refine ⟨_, rfl, ?_⟩
  have n0_ := Aside0.mk (blk_below (g := gb137) (o := .cells #[.int .i64 t134, .int .i64 t135] 23 (0, 0)) (by (with_reducible repeat (first | refine blk_drewN ?_ _ | refine blk_drew ?_ | refine blk_alloc ?_ _)); exact BK137.out) hb)
  have n1_ := Aside0.mk (blk_below (g := gb140) (o := .cells #[.int .i64 t138, .int .i64 t139] 23 (0, 0)) (by (with_reducible repeat (first | refine blk_drewN ?_ _ | refine blk_drew ?_ | refine blk_alloc ?_ _)); exact BK140.out) hb)
  have n2_ := Aside0.mk (below_step (by repeat (first | (with_reducible first | exact HB.out | apply below_alloc | apply pw_below_drewN | apply below_drew1 | refine below_set ?_ GE137.out | refine below_set ?_ GE140.out) | exact HB.out)) hb)
  clear BK137
  clear BK140
  clear HB
  have BK137 := n0_
  have BK140 := n1_
  have HB := n2_
  clear n0_ n1_ n2_
  (try clear hb)
  (try clear hb2)
  (try clear hk)
  (try clear hi)
  refine hK.out _ _ ⟨(blk_cell BK137.out 0).trans rfl, (blk_cell BK137.out 1).trans rfl, (blk_cell BK140.out 0).trans rfl, (blk_cell BK140.out 1).trans rfl⟩ (fun hHeld => ?_)
  clear hK K
  refine norm_ (a' := ?_) ?_ ?_
  rotate_left
  · show Act.put _ (some 28) _ = _
    simp only [Act.put, List.setIfInBounds_toArray, List.set_cons_zero, List.set_cons_succ, i64_w, i32_w]
    rfl
  refine one_ (i := 15) (N := some 30) #[true, true, true, true, true, true, true, true, true, true, true, true, true, true, true, true, false, false] rfl rfl (one_of HT_.out (by kernel_rfl)) (by decide) (fun K hK => ?_)
  refine goes_ Tryd.func125 (by kernel_rfl) rfl #[.agg #[.int .i64 t134, .int .i64 t135], .int .i64 2, .int .i64 3] (by rfl) rfl rfl (by (try simp only [List.map_toArray, List.map_cons, List.map_nil]); first | done | rfl | (simp only [List.length_drop, List.length_take]; rfl)) ?_
  with_reducible refine (plan_turn.calls t134 t135 2 3 t174 t175 t176 t177 t178 t179 t180 t181 _ A10.out).mono ?_
  rintro e w25 ⟨rfl, hb⟩
  refine ⟨_, rfl, ?_⟩
  have n0_ := Aside0.mk (blk_below (g := gb137) (o := .cells #[.int .i64 t134, .int .i64 t135] 23 (0, 0)) (by (with_reducible repeat (first | refine blk_drewN ?_ _ | refine blk_drew ?_ | refine blk_alloc ?_ _)); exact BK137.out) hb)
  have n1_ := Aside0.mk (blk_below (g := gb140) (o := .cells #[.int .i64 t138, .int .i64 t139] 23 (0, 0)) (by (with_reducible repeat (first | refine blk_drewN ?_ _ | refine blk_drew ?_ | refine blk_alloc ?_ _)); exact BK140.out) hb)
  have n2_ := Aside0.mk (below_step (by repeat (first | (with_reducible first | exact HB.out | apply below_alloc | apply pw_below_drewN | apply below_drew1 | refine below_set ?_ GE137.out | refine below_set ?_ GE140.out) | exact HB.out)) hb)
  clear BK137
  clear BK140
  clear HB
  have BK137 := n0_
  have BK140 := n1_
  have HB := n2_
  clear n0_ n1_ n2_
  (try clear hb)
  (try clear hb2)
  (try clear hk)
  (try clear hi)
  refine hK.out _ _ ⟨(blk_cell BK137.out 0).trans rfl, (blk_cell BK137.out 1).trans rfl, (blk_cell BK140.out 0).trans rfl, (blk_cell BK140.out 1).trans rfl⟩ (fun hHeld => ?_)
  clear hK K
  refine norm_ (a' := ?_) ?_ ?_
  rotate_left
  · show Act.put _ (some 30) _ = _
    simp only [Act.put, List.setIfInBounds_toArray, List.set_cons_zero, List.set_cons_succ, i64_w, i32_w]
    rfl
  refine one_ (i := 16) (N := some 31) #[true, true, true, true, true, true, true, true, true, true, true, true, true, true, true, true, true, false] rfl rfl (one_of HT_.out (by kernel_rfl)) (by decide) (fun K hK => ?_)
  refine Kd.R_lit_step k51 _ 51 ?hg (N := 31) ?hd (xs := ([(⟨(⟨(⟨t141, t142⟩ : S23), t143, t144, t145⟩ : S49), t146, t147, t148⟩ : S51), (⟨(⟨(⟨t149, t150⟩ : S23), t151, t152, t153⟩ : S49), t154, t155, t156⟩ : S51), (⟨(⟨(⟨t157, t158⟩ : S23), t159, t160, t161⟩ : S49), t162, t163, t164⟩ : S51), (⟨(⟨(⟨t166, t167⟩ : S23), t168, t169, t170⟩ : S49), t171, t172, t173⟩ : S51), (⟨(⟨(⟨t174, t175⟩ : S23), t176, t177, t178⟩ : S49), t179, t180, t181⟩ : S51)] : List (S51))) (inner := [.int .i64 t141, .int .i64 t142, .int .i64 t143, .int .i64 t144, .int .u64 t145, .int .i64 t146, .int .i64 t147, .int .i64 t148, .int .i64 t149, .int .i64 t150, .int .i64 t151, .int .i64 t152, .int .u64 t153, .int .i64 t154, .int .i64 t155, .int .i64 t156, .int .i64 t157, .int .i64 t158, .int .i64 t159, .int .i64 t160, .int .u64 t161, .int .i64 t162, .int .i64 t163, .int .i64 t164, .int .i64 t166, .int .i64 t167, .int .i64 t168, .int .i64 t169, .int .u64 t170, .int .i64 t171, .int .i64 t172, .int .i64 t173, .int .i64 t174, .int .i64 t175, .int .i64 t176, .int .i64 t177, .int .u64 t178, .int .i64 t179, .int .i64 t180, .int .i64 t181]) (ok := fun _ => True) (okp := fun _ => True) ?hr ?hp (fun _ hk => hk) trivial (Below.refl _ _) (Nat.le_refl _) (by simp) ?_; (case hd => rfl); (case hg => rfl); (case hr => first | (go_simp; done) | (go_simp; rfl)); (case hp => exact (Reps.c8 (show Kd.M k51 _ _ _ (⟨(⟨(⟨t141, t142⟩ : S23), t143, t144, t145⟩ : S49), t146, t147, t148⟩ : S51) [.int .i64 t141, .int .i64 t142, .int .i64 t143, .int .i64 t144, .int .u64 t145, .int .i64 t146, .int .i64 t147, .int .i64 t148] from (k51_mkM _ _ _ (⟨(⟨(⟨t141, t142⟩ : S23), t143, t144, t145⟩ : S49), t146, t147, t148⟩ : S51) )) (Reps.c8 (show Kd.M k51 _ _ _ (⟨(⟨(⟨t149, t150⟩ : S23), t151, t152, t153⟩ : S49), t154, t155, t156⟩ : S51) [.int .i64 t149, .int .i64 t150, .int .i64 t151, .int .i64 t152, .int .u64 t153, .int .i64 t154, .int .i64 t155, .int .i64 t156] from (k51_mkM _ _ _ (⟨(⟨(⟨t149, t150⟩ : S23), t151, t152, t153⟩ : S49), t154, t155, t156⟩ : S51) )) (Reps.c8 (show Kd.M k51 _ _ _ (⟨(⟨(⟨t157, t158⟩ : S23), t159, t160, t161⟩ : S49), t162, t163, t164⟩ : S51) [.int .i64 t157, .int .i64 t158, .int .i64 t159, .int .i64 t160, .int .u64 t161, .int .i64 t162, .int .i64 t163, .int .i64 t164] from (k51_mkM _ _ _ (⟨(⟨(⟨t157, t158⟩ : S23), t159, t160, t161⟩ : S49), t162, t163, t164⟩ : S51) )) (Reps.c8 (show Kd.M k51 _ _ _ (⟨(⟨(⟨t166, t167⟩ : S23), t168, t169, t170⟩ : S49), t171, t172, t173⟩ : S51) [.int .i64 t166, .int .i64 t167, .int .i64 t168, .int .i64 t169, .int .u64 t170, .int .i64 t171, .int .i64 t172, .int .i64 t173] from (k51_mkM _ _ _ (⟨(⟨(⟨t166, t167⟩ : S23), t168, t169, t170⟩ : S49), t171, t172, t173⟩ : S51) )) (Reps.c8 (show Kd.M k51 _ _ _ (⟨(⟨(⟨t174, t175⟩ : S23), t176, t177, t178⟩ : S49), t179, t180, t181⟩ : S51) [.int .i64 t174, .int .i64 t175, .int .i64 t176, .int .i64 t177, .int .u64 t178, .int .i64 t179, .int .i64 t180, .int .i64 t181] from (k51_mkM _ _ _ (⟨(⟨(⟨t174, t175⟩ : S23), t176, t177, t178⟩ : S49), t179, t180, t181⟩ : S51) )) (Reps.none _ _)))))))
  intro v183 w26 ho27 hb hg_ hnew_
  clear hg_ hnew_
  (first | rw [← Ny182.out] at ho27 | (simp only [Int.reduceToNat] at ho27; rw [← Ny182.out] at ho27))
  have n0_ := Aside0.mk (Kd.R_lower ho27 (below_size (by repeat (first | (with_reducible first | exact HB.out | apply below_alloc | apply pw_below_drewN | apply below_drew1 | refine below_set ?_ GE137.out | refine below_set ?_ GE140.out) | exact HB.out))))
  have n1_ := Aside0.mk (blk_below (g := gb137) (o := .cells #[.int .i64 t134, .int .i64 t135] 23 (0, 0)) (by (with_reducible repeat (first | refine blk_drewN ?_ _ | refine blk_drew ?_ | refine blk_alloc ?_ _)); exact BK137.out) hb)
  have n2_ := Aside0.mk (blk_below (g := gb140) (o := .cells #[.int .i64 t138, .int .i64 t139] 23 (0, 0)) (by (with_reducible repeat (first | refine blk_drewN ?_ _ | refine blk_drew ?_ | refine blk_alloc ?_ _)); exact BK140.out) hb)
  have n3_ := Aside0.mk (below_step (by repeat (first | (with_reducible first | exact HB.out | apply below_alloc | apply pw_below_drewN | apply below_drew1 | refine below_set ?_ GE137.out | refine below_set ?_ GE140.out) | exact HB.out)) hb)
  clear BK137
  clear BK140
  clear HB
  have HO184 := n0_
  have BK137 := n1_
  have BK140 := n2_
  have HB := n3_
  clear n0_ n1_ n2_ n3_
  clear hb ho27
  refine hK.out _ _ ⟨(blk_cell BK137.out 0).trans rfl, (blk_cell BK137.out 1).trans rfl, (blk_cell BK140.out 0).trans rfl, (blk_cell BK140.out 1).trans rfl⟩ (fun hHeld => ?_)
  clear hK K
  refine norm_ (a' := ?_) ?_ ?_
  rotate_left
  · show Act.put _ (some 31) _ = _
    simp only [Act.put, List.setIfInBounds_toArray, List.set_cons_zero, List.set_cons_succ, i64_w, i32_w]
    rfl
  refine pure_ (i := 17) (N := some 4) (v := ?_) (a' := ?_) #[true, true, true, true, true, true, true, true, true, true, true, true, true, true, true, true, true, true] rfl rfl (any_of HT_.out (by kernel_rfl)) (fun _ _ _ h => h) (Or.inl ⟨by rfl, ?_⟩) ?_ ?_
  rotate_left
  · intro w'
    go_simp
    with_reducible rfl
  rotate_left
  · simp only [Act.put, List.setIfInBounds_toArray, List.set_cons_zero, List.set_cons_succ, i64_w, i32_w]
    rfl
  refine done_ (done_of HT_.out (by kernel_rfl)) ?_
  try go_wp2
  go_ret
  exact ⟨_, by first | rfl | (simp [errW_none, errW_some] <;> rfl) | (simp [*, errW_none, errW_some] <;> rfl), by (with_reducible repeat (first | apply Kd.R_alloc | apply Kd.R_drewN | apply Kd.R_drew)); exact HO184.out, by repeat (first | (with_reducible first | exact HB.out | apply below_alloc | apply pw_below_drewN | apply below_drew1 | refine below_set ?_ GE137.out | refine below_set ?_ GE140.out) | exact HB.out)⟩

/-! ### plan_Passes: function 56 -/
mutual
def plan_Passes.j0 : Nat → Int → Int → Int → Int → Bool → Option ((List (S51)) × Int)
  | 0, _, _, _, _, _ => none
  | k + 1, x0, x1, x2, x3, x15 => if x15 = true then (some (([] : List (S51)), 18)) else ((plan_least.f x0 x2).bind fun t186 => (if x3 < t186 then (some (([] : List (S51)), 6)) else ((plan_Short.f x0 x2 x3).bind fun t187 => (if t187 = true then (plan_Passes.j1 k x0 x1 (decide (x0 ≤ 20))) else (plan_Passes.j1 k x0 x1 false)))))
def plan_Passes.j1 : Nat → Int → Int → Bool → Option ((List (S51)) × Int)
  | 0, _, _, _ => none
  | k + 1, x0, x1, x28 => if x28 = true then (if 0 ≤ (IntKind.u64.wrap (x0)) then ((plan_share.f k x0 x1).bind fun t188 => ((plan_across.f 1 (shl .i64 1 (IntKind.u64.wrap (x0))) 0 3 x1 (-1) t188).bind fun bt189 => (some ((([(⟨(⟨(⟨bt189.1, bt189.2.1⟩ : S23), bt189.2.2.1, bt189.2.2.2.1, bt189.2.2.2.2.1⟩ : S49), bt189.2.2.2.2.2.1, bt189.2.2.2.2.2.2.1, bt189.2.2.2.2.2.2.2⟩ : S51)] : List (S51))), 0)))) else (none)) else ((plan_long.f k x0 x1).bind fun t200 => (some (t200, 0)))
end
def plan_Passes.f (k : Nat) (a0 : Int) (a1 : Int) (a2 : Int) (a3 : Int) : Option ((List (S51)) × Int) := (plan_good.f a0 a2).bind fun t185 => (if t185 = true then (if a1 < 0 then (plan_Passes.j0 k a0 a1 a2 a3 true) else (plan_Passes.j0 k a0 a1 a2 a3 (decide (a1 > 1)))) else (some (([] : List (S51)), 1)))
theorem plan_Passes.mono_l : ∀ k, (∀ y0 y1 y2 y3 y4, LeO (plan_Passes.j0 k y0 y1 y2 y3 y4) (plan_Passes.j0 (k + 1) y0 y1 y2 y3 y4)) ∧ (∀ y0 y1 y2, LeO (plan_Passes.j1 k y0 y1 y2) (plan_Passes.j1 (k + 1) y0 y1 y2))
  | 0 => ⟨fun _ _ _ _ _ r h => by simp [plan_Passes.j0] at h, fun _ _ _ r h => by simp [plan_Passes.j1] at h⟩
  | k + 1 => by
    obtain ⟨ih0, ih1⟩ := plan_Passes.mono_l k
    refine ⟨?_, ?_⟩
    · intro y0 y1 y2 y3 y4
      unfold plan_Passes.j0
      repeat' first
      | (with_reducible exact ih0 _ _ _ _ _)
      | (with_reducible exact ih1 _ _ _)
      | (with_reducible exact plan_long.mono _ _ _)
      | (with_reducible exact plan_share.mono _ _ _)
      | (with_reducible exact LeO.refl _)
      | (with_reducible exact LeO.none _)
      | (with_reducible refine LeO.ite ?_ ?_)
      | (with_reducible refine LeO.bind ?_ (fun _ => ?_))
      | exact ih0 _ _ _ _ _
      | exact ih1 _ _ _
      | exact plan_long.mono _ _ _
      | exact plan_share.mono _ _ _
      | exact LeO.none _
      | refine LeO.ite ?_ ?_
      | refine LeO.bind ?_ (fun _ => ?_)
    · intro y0 y1 y2
      unfold plan_Passes.j1
      repeat' first
      | (with_reducible exact ih0 _ _ _ _ _)
      | (with_reducible exact ih1 _ _ _)
      | (with_reducible exact plan_long.mono _ _ _)
      | (with_reducible exact plan_share.mono _ _ _)
      | (with_reducible exact LeO.refl _)
      | (with_reducible exact LeO.none _)
      | (with_reducible refine LeO.ite ?_ ?_)
      | (with_reducible refine LeO.bind ?_ (fun _ => ?_))
      | exact ih0 _ _ _ _ _
      | exact ih1 _ _ _
      | exact plan_long.mono _ _ _
      | exact plan_share.mono _ _ _
      | exact LeO.none _
      | refine LeO.ite ?_ ?_
      | refine LeO.bind ?_ (fun _ => ?_)
theorem plan_Passes.mono : ∀ a0 a1 a2 a3 k, LeO (plan_Passes.f k a0 a1 a2 a3) (plan_Passes.f (k + 1) a0 a1 a2 a3) := by
  intro a0 a1 a2 a3 k
  obtain ⟨ih0, ih1⟩ := plan_Passes.mono_l k
  unfold plan_Passes.f
  repeat' first
      | (with_reducible exact ih0 _ _ _ _ _)
      | (with_reducible exact ih1 _ _ _)
      | (with_reducible exact plan_long.mono _ _ _)
      | (with_reducible exact plan_share.mono _ _ _)
      | (with_reducible exact LeO.refl _)
      | (with_reducible exact LeO.none _)
      | (with_reducible refine LeO.ite ?_ ?_)
      | (with_reducible refine LeO.bind ?_ (fun _ => ?_))
      | exact ih0 _ _ _ _ _
      | exact ih1 _ _ _
      | exact plan_long.mono _ _ _
      | exact plan_share.mono _ _ _
      | exact LeO.none _
      | refine LeO.ite ?_ ?_
      | refine LeO.bind ?_ (fun _ => ?_)
set_option maxHeartbeats 8000000 in
set_option maxRecDepth 100000 in
theorem plan_Passes.calls (k : Nat) (a0 : Int) (a1 : Int) (a2 : Int) (a3 : Int) (r1 : List (S51)) (r2 : Int) (w : World) (h : plan_Passes.f k a0 a1 a2 a3 = some (r1, r2)) :
    Calls Tryd.prog 56 #[.int .i64 a0, .int .i64 a1, .int .i64 a2, .int .i64 a3] w fun e w' => ∃ v0_ : Value, e = .returned (.tuple #[v0_, .int .i64 r2]) ∧ Kd.R k51 51 w' w.heap.size (fun _ => True) v0_ r1 ∧ Below w.heap.size w w' := by
  have hu23 := Tryd.underlying23
  have HB := Aside0.mk (Below.refl w.heap.size w)
  have H : ((plan_good.f a0 a2).bind fun t185 => (if t185 = true then (if a1 < 0 then (plan_Passes.j0 k a0 a1 a2 a3 true) else (plan_Passes.j0 k a0 a1 a2 a3 (decide (a1 > 1)))) else (some (([] : List (S51)), 1)))) = some (r1, r2) := h
  clear h
  replace H := Option.bind_eq_some_iff.mp H
  obtain ⟨t185, A50, H⟩ := H
  replace H : (if t185 = true then (if a1 < 0 then (plan_Passes.j0 k a0 a1 a2 a3 true) else (plan_Passes.j0 k a0 a1 a2 a3 (decide (a1 > 1)))) else (some (([] : List (S51)), 1))) = some (r1, r2) := H
  have A5 := Aside0.mk A50
  clear A50
  by_cases c6 : t185 = true
  · subst c6
    have H1 : (if a1 < 0 then (plan_Passes.j0 k a0 a1 a2 a3 true) else (plan_Passes.j0 k a0 a1 a2 a3 (decide (a1 > 1)))) = some (r1, r2) := by rw [if_pos rfl] at H; exact H
    clear H
    have H := H1
    clear H1
    have HC7 := Aside0.mk H
    clear H
    go_enter Tryd.func56, Tryd.ntmps56
    go_upto_region 3 with (first | ((with_reducible refine gate_callee (f := 96) rfl ?_); refine goesL_ (some 13) rfl rfl Tryd.func96 (by kernel_rfl) rfl #[.int .i64 a0, .int .i64 a2] rfl (by (try simp only [List.map_toArray, List.map_cons, List.map_nil]); first | done | rfl | (simp only [List.length_drop, List.length_take]; rfl)) ?_; (with_reducible refine (plan_good.calls a0 a2 true _ A5.out).mono ?_); rintro e w' ⟨rfl, ⟨nd, rfl⟩⟩; refine ⟨_, rfl, ?_⟩))
    (try simp only [Act.put, List.setIfInBounds_toArray, List.set_cons_zero, List.set_cons_succ])
    go_cut [15] (fun v15 wc => ∃ (kq : Nat) (x15_6 : Bool), v15 = .bool x15_6 ∧ Aside0 (plan_Passes.j0 kq a0 a1 a2 a3 x15_6 = some (r1, r2)) ∧ Aside0 (kq ≤ k) ∧ Aside0 (Below w.heap.size w wc))
    case first =>
      have H := HC7.out
      clear HC7
      by_cases c8 : a1 < 0
      · rw [if_pos c8] at H
        have c8b0 : decide (a1 < 0) = true := decide_eq_true c8
        clear c8
        (first | rw [c8b0] | (simp only [i64_w, i32_w]; rw [c8b0]) | skip)
        have H' := Aside0.mk H
        clear H
        go_wp2
        go_meet
        case rel => exact ⟨_, (true), (by first | rfl | (simp; done) | (simp [*]; done)), H', ⟨by first | omega | exact Nat.le_refl _⟩, ⟨by repeat (first | (with_reducible first | exact HB.out | apply below_alloc | apply pw_below_drewN | apply below_drew1) | exact HB.out)⟩⟩
      · rw [if_neg c8] at H
        have c8b0 : decide (a1 < 0) = false := decide_eq_false c8
        clear c8
        (first | rw [c8b0] | (simp only [i64_w, i32_w]; rw [c8b0]) | skip)
        have H' := Aside0.mk H
        clear H
        go_wp2
        go_meet
        case rel => exact ⟨_, (decide (a1 > 1)), (by first | rfl | (simp; done) | (simp [*]; done)), H', ⟨by first | omega | exact Nat.le_refl _⟩, ⟨by repeat (first | (with_reducible first | exact HB.out | apply below_alloc | apply pw_below_drewN | apply below_drew1) | exact HB.out)⟩⟩
    case rest =>
      clear HC7
      try clear p2
      try clear c5
      try clear c6
      try clear c8
      try clear c8b0
      obtain ⟨kq, x15_6, rfl, HA, HJ6, HB⟩ := hcut
      cases kq with
      | zero => exact absurd HA.out (by simp [plan_Passes.j0])
      | succ kj6 =>
        have H := HA.out
        clear HA
        simp only [plan_Passes.j0] at H
        by_cases c9 : x15_6 = true
        · subst c9
          have H1 : (some (([] : List (S51)), 18)) = some (r1, r2) := by rw [if_pos rfl] at H; exact H
          clear H
          have H := H1
          clear H1
          simp only [Option.some.injEq, Prod.mk.injEq] at H
          obtain ⟨rfl, rfl⟩ := H
          go_wp2
          go_ret2
          exact ⟨_, by first | rfl | (simp [errW_none, errW_some] <;> rfl) | (simp [*, errW_none, errW_some] <;> rfl), by first | exact Kd.R_nil _ _ _ _ _ | exact Kd.N_nil _ _ _ _ _ | exact Kd.V_nil _ _ _ _ _ | exact Kd.Q_nil _ _ _ _ _ | exact Kd.S_nil _ _ _ _ _, by repeat (first | (with_reducible first | exact HB.out | apply below_alloc | apply pw_below_drewN | apply below_drew1) | exact HB.out)⟩
        · replace c9 := Bool.eq_false_iff.mpr c9
          subst c9
          have H1 : ((plan_least.f a0 a2).bind fun t186 => (if a3 < t186 then (some (([] : List (S51)), 6)) else ((plan_Short.f a0 a2 a3).bind fun t187 => (if t187 = true then (plan_Passes.j1 kj6 a0 a1 (decide (a0 ≤ 20))) else (plan_Passes.j1 kj6 a0 a1 false))))) = some (r1, r2) := by rw [if_neg (show ¬ (false = true) by decide)] at H; exact H
          clear H
          have H := H1
          clear H1
          replace H := Option.bind_eq_some_iff.mp H
          obtain ⟨t186, A100, H⟩ := H
          replace H : (if a3 < t186 then (some (([] : List (S51)), 6)) else ((plan_Short.f a0 a2 a3).bind fun t187 => (if t187 = true then (plan_Passes.j1 kj6 a0 a1 (decide (a0 ≤ 20))) else (plan_Passes.j1 kj6 a0 a1 false)))) = some (r1, r2) := H
          have A10 := Aside0.mk A100
          clear A100
          by_cases c11 : a3 < t186
          · rw [if_pos c11] at H
            have c11b0 : decide (a3 < t186) = true := decide_eq_true c11
            clear c11
            simp only [Option.some.injEq, Prod.mk.injEq] at H
            obtain ⟨rfl, rfl⟩ := H
            go_wp2_with (first | ((with_reducible refine gate_callee (f := 97) rfl ?_); refine goesL_ (some 26) rfl rfl Tryd.func97 (by kernel_rfl) rfl #[.int .i64 a0, .int .i64 a2] rfl (by (try simp only [List.map_toArray, List.map_cons, List.map_nil]); first | done | rfl | (simp only [List.length_drop, List.length_take]; rfl)) ?_; (with_reducible refine (plan_least.calls a0 a2 t186 _ A10.out).mono ?_); rintro e w' ⟨rfl, ⟨nd, rfl⟩⟩; refine ⟨_, rfl, ?_⟩))
            go_ret2
            exact ⟨_, by first | rfl | (simp [errW_none, errW_some] <;> rfl) | (simp [*, errW_none, errW_some] <;> rfl), by first | exact Kd.R_nil _ _ _ _ _ | exact Kd.N_nil _ _ _ _ _ | exact Kd.V_nil _ _ _ _ _ | exact Kd.Q_nil _ _ _ _ _ | exact Kd.S_nil _ _ _ _ _, by repeat (first | (with_reducible first | exact HB.out | apply below_alloc | apply pw_below_drewN | apply below_drew1) | exact HB.out)⟩
          · rw [if_neg c11] at H
            have c11b0 : decide (a3 < t186) = false := decide_eq_false c11
            clear c11
            have HC12 := Aside0.mk H
            clear H
            go_upto_region 7 with (first | ((with_reducible refine gate_callee (f := 97) rfl ?_); refine goesL_ (some 26) rfl rfl Tryd.func97 (by kernel_rfl) rfl #[.int .i64 a0, .int .i64 a2] rfl (by (try simp only [List.map_toArray, List.map_cons, List.map_nil]); first | done | rfl | (simp only [List.length_drop, List.length_take]; rfl)) ?_; (with_reducible refine (plan_least.calls a0 a2 t186 _ A10.out).mono ?_); rintro e w' ⟨rfl, ⟨nd, rfl⟩⟩; refine ⟨_, rfl, ?_⟩))
            (try simp only [Act.put, List.setIfInBounds_toArray, List.set_cons_zero, List.set_cons_succ])
            go_cut [28] (fun v28 wc => ∃ (kq : Nat) (x28_11 : Bool), v28 = .bool x28_11 ∧ Aside0 (plan_Passes.j1 kq a0 a1 x28_11 = some (r1, r2)) ∧ Aside0 (kq ≤ kj6) ∧ Aside0 (Below w.heap.size w wc))
            case first =>
              have H := HC12.out
              clear HC12
              replace H := Option.bind_eq_some_iff.mp H
              obtain ⟨t187, A130, H⟩ := H
              replace H : (if t187 = true then (plan_Passes.j1 kj6 a0 a1 (decide (a0 ≤ 20))) else (plan_Passes.j1 kj6 a0 a1 false)) = some (r1, r2) := H
              have A13 := Aside0.mk A130
              clear A130
              by_cases c14 : t187 = true
              · subst c14
                have H1 : (plan_Passes.j1 kj6 a0 a1 (decide (a0 ≤ 20))) = some (r1, r2) := by rw [if_pos rfl] at H; exact H
                clear H
                have H := H1
                clear H1
                have H' := Aside0.mk H
                clear H
                go_wp2_with (first | ((with_reducible refine gate_callee (f := 58) rfl ?_); refine goesL_ (some 32) rfl rfl Tryd.func58 (by kernel_rfl) rfl #[.int .i64 a0, .int .i64 a2, .int .i64 a3] rfl (by (try simp only [List.map_toArray, List.map_cons, List.map_nil]); first | done | rfl | (simp only [List.length_drop, List.length_take]; rfl)) ?_; (with_reducible refine (plan_Short.calls a0 a2 a3 true _ A13.out).mono ?_); rintro e w' ⟨rfl, ⟨nd, rfl⟩⟩; refine ⟨_, rfl, ?_⟩))
                go_meet
                case rel => exact ⟨_, (decide (a0 ≤ 20)), (by first | rfl | (simp; done) | (simp [*]; done)), H', ⟨by have := HJ6.out; first | omega | exact Nat.le_refl _⟩, ⟨by repeat (first | (with_reducible first | exact HB.out | apply below_alloc | apply pw_below_drewN | apply below_drew1) | exact HB.out)⟩⟩
              · replace c14 := Bool.eq_false_iff.mpr c14
                subst c14
                have H1 : (plan_Passes.j1 kj6 a0 a1 false) = some (r1, r2) := by rw [if_neg (show ¬ (false = true) by decide)] at H; exact H
                clear H
                have H := H1
                clear H1
                have H' := Aside0.mk H
                clear H
                go_wp2_with (first | ((with_reducible refine gate_callee (f := 58) rfl ?_); refine goesL_ (some 32) rfl rfl Tryd.func58 (by kernel_rfl) rfl #[.int .i64 a0, .int .i64 a2, .int .i64 a3] rfl (by (try simp only [List.map_toArray, List.map_cons, List.map_nil]); first | done | rfl | (simp only [List.length_drop, List.length_take]; rfl)) ?_; (with_reducible refine (plan_Short.calls a0 a2 a3 false _ A13.out).mono ?_); rintro e w' ⟨rfl, ⟨nd, rfl⟩⟩; refine ⟨_, rfl, ?_⟩))
                go_meet
                case rel => exact ⟨_, (false), (by first | rfl | (simp; done) | (simp [*]; done)), H', ⟨by have := HJ6.out; first | omega | exact Nat.le_refl _⟩, ⟨by repeat (first | (with_reducible first | exact HB.out | apply below_alloc | apply pw_below_drewN | apply below_drew1) | exact HB.out)⟩⟩
            case rest =>
              clear HC12
              try clear c1
              try clear p2
              try clear c5
              try clear c6
              try clear c8
              try clear c8b0
              try clear c9
              try clear c11
              try clear c11b0
              try clear c14
              try clear p2
              obtain ⟨kq, x28_11, rfl, HA, HJ11, HB⟩ := hcut
              cases kq with
              | zero => exact absurd HA.out (by simp [plan_Passes.j1])
              | succ kj11 =>
                have H := HA.out
                clear HA
                simp only [plan_Passes.j1] at H
                by_cases c15 : x28_11 = true
                · subst c15
                  have H1 : (if 0 ≤ (IntKind.u64.wrap (a0)) then ((plan_share.f kj11 a0 a1).bind fun t188 => ((plan_across.f 1 (shl .i64 1 (IntKind.u64.wrap (a0))) 0 3 a1 (-1) t188).bind fun bt189 => (some ((([(⟨(⟨(⟨bt189.1, bt189.2.1⟩ : S23), bt189.2.2.1, bt189.2.2.2.1, bt189.2.2.2.2.1⟩ : S49), bt189.2.2.2.2.2.1, bt189.2.2.2.2.2.2.1, bt189.2.2.2.2.2.2.2⟩ : S51)] : List (S51))), 0)))) else (none)) = some (r1, r2) := by rw [if_pos rfl] at H; exact H
                  clear H
                  have H := H1
                  clear H1
                  obtain ⟨ji16, hji16⟩ : ∃ j_ : Int, (IntKind.u64.wrap (a0)) = j_ := ⟨_, rfl⟩
                  replace H : (if 0 ≤ (ji16) then ((plan_share.f kj11 a0 a1).bind fun t188 => ((plan_across.f 1 (shl .i64 1 (ji16)) 0 3 a1 (-1) t188).bind fun bt189 => (some ((([(⟨(⟨(⟨bt189.1, bt189.2.1⟩ : S23), bt189.2.2.1, bt189.2.2.2.1, bt189.2.2.2.2.1⟩ : S49), bt189.2.2.2.2.2.1, bt189.2.2.2.2.2.2.1, bt189.2.2.2.2.2.2.2⟩ : S51)] : List (S51))), 0)))) else (none)) = some (r1, r2) := by first | (rw [hji16] at H; exact H) | (simp only [hji16] at H ⊢; exact H)
                  by_cases c17 : 0 ≤ (ji16)
                  · rw [if_pos c17] at H
                    have c17b0 := eq_true c17
                    have c17b1 : decide (0 ≤ (ji16)) = true := decide_eq_true c17
                    clear c17
                    obtain ⟨ji18, hji18⟩ : ∃ j_ : Int, (shl .i64 1 (ji16)) = j_ := ⟨_, rfl⟩
                    replace H : ((plan_share.f kj11 a0 a1).bind fun t188 => ((plan_across.f 1 (ji18) 0 3 a1 (-1) t188).bind fun bt189 => (some ((([(⟨(⟨(⟨bt189.1, bt189.2.1⟩ : S23), bt189.2.2.1, bt189.2.2.2.1, bt189.2.2.2.2.1⟩ : S49), bt189.2.2.2.2.2.1, bt189.2.2.2.2.2.2.1, bt189.2.2.2.2.2.2.2⟩ : S51)] : List (S51))), 0)))) = some (r1, r2) := by first | (rw [hji18] at H; exact H) | (simp only [hji18] at H ⊢; exact H)
                    have hji18_ : (IntKind.i64.wrap (1 * 2 ^ min (ji16).toNat 64)) = ji18 := hji18
                    have hji18z : (ji16) ≤ 64 → (IntKind.i64.wrap (1 * 2 ^ (ji16).toNat)) = ji18 := shl_small hji18
                    have hji18u : (IntKind.i64.wrap (2 ^ min (ji16).toNat 64)) = ji18 := by have h_ := hji18_; rw [Int.one_mul] at h_; exact h_
                    have hji18v : (ji16) ≤ 64 → (IntKind.i64.wrap (2 ^ (ji16).toNat)) = ji18 := fun hle_ => by have h_ := hji18z hle_; rw [Int.one_mul] at h_; exact h_
                    have hji18y : (wrap64 (1 * 2 ^ min (ji16).toNat 64)) = ji18 := (i64_w _).symm.trans hji18_
                    have hji18x : (ji16) ≤ 64 → (wrap64 (1 * 2 ^ (ji16).toNat)) = ji18 := fun h_ => (i64_w _).symm.trans (hji18z h_)
                    replace H := Option.bind_eq_some_iff.mp H
                    obtain ⟨t188, A190, H⟩ := H
                    replace H : ((plan_across.f 1 (ji18) 0 3 a1 (-1) t188).bind fun bt189 => (some ((([(⟨(⟨(⟨bt189.1, bt189.2.1⟩ : S23), bt189.2.2.1, bt189.2.2.2.1, bt189.2.2.2.2.1⟩ : S49), bt189.2.2.2.2.2.1, bt189.2.2.2.2.2.2.1, bt189.2.2.2.2.2.2.2⟩ : S51)] : List (S51))), 0))) = some (r1, r2) := H
                    have A19 := Aside0.mk A190
                    clear A190
                    replace H := Option.bind_eq_some_iff.mp H
                    obtain ⟨⟨t189, t190, t191, t192, t193, t194, t195, t196⟩, A200, H⟩ := H
                    replace H : (some ((([(⟨(⟨(⟨t189, t190⟩ : S23), t191, t192, t193⟩ : S49), t194, t195, t196⟩ : S51)] : List (S51))), 0)) = some (r1, r2) := H
                    have A20 := Aside0.mk A200
                    clear A200
                    obtain ⟨y197, hy197⟩ : ∃ y_ : List (S51), y_ = (([(⟨(⟨(⟨t189, t190⟩ : S23), t191, t192, t193⟩ : S49), t194, t195, t196⟩ : S51)] : List (S51))) := ⟨_, rfl⟩
                    replace H : (some (y197, 0)) = some (r1, r2) := by first | (rw [hy197]; with_reducible exact H) | (have H2_ := (Option.bind_some _ _).symm.trans H; rw [hy197]; with_reducible exact H2_) | (have H2_ := (Option.bind_some _ _).symm.trans H; with_reducible exact H2_) | with_reducible exact H | (rw [hy197]; exact H) | exact H
                    have Ny197 := Aside0.mk hy197
                    clear hy197
                    simp only [Option.some.injEq, Prod.mk.injEq] at H
                    obtain ⟨rfl, rfl⟩ := H
                    go_wp2_with (first | ((with_reducible refine gate_callee (f := 99) rfl ?_); refine goesL_ (some 44) rfl rfl Tryd.func99 (by kernel_rfl) rfl #[.int .i64 a0, .int .i64 a1] rfl (by (try simp only [List.map_toArray, List.map_cons, List.map_nil]); first | done | rfl | (simp only [List.length_drop, List.length_take]; rfl)) ?_; (with_reducible refine (plan_share.calls kj11 a0 a1 t188 _ A19.out).mono ?_); rintro e w21 ⟨rfl, hb⟩; refine ⟨_, rfl, ?_⟩; have n0_ := Aside0.mk (below_step (by repeat (first | (with_reducible first | exact HB.out | apply below_alloc | apply pw_below_drewN | apply below_drew1) | exact HB.out)) hb); clear HB; have HB := n0_; clear n0_; (try clear hb); (try clear hb2); (try clear hk); (try clear hi)) | ((with_reducible refine gate_callee (f := 98) rfl ?_); refine goesL_ (some 45) rfl rfl Tryd.func98 (by kernel_rfl) rfl #[.agg #[.int .i64 1, .int .i64 ji18], .int .i64 0, .int .i64 3, .int .i64 a1, .int .i64 (-1), .int .u64 t188] rfl (by (try simp only [List.map_toArray, List.map_cons, List.map_nil]); first | done | (simp only [hji18]; rfl) | rfl | (simp only [List.length_drop, List.length_take]; rfl)) ?_; (with_reducible refine (plan_across.calls 1 ji18 0 3 a1 (-1) t188 t189 t190 t191 t192 t193 t194 t195 t196 _ A20.out).mono ?_); rintro e w22 ⟨rfl, hb⟩; refine ⟨_, rfl, ?_⟩; have n0_ := Aside0.mk (below_step (by repeat (first | (with_reducible first | exact HB.out | apply below_alloc | apply pw_below_drewN | apply below_drew1) | exact HB.out)) hb); clear HB; have HB := n0_; clear n0_; (try clear hb); (try clear hb2); (try clear hk); (try clear hi)) | ((with_reducible refine gate_dst (N := 46) rfl ?_); refine Kd.R_lit k51 _ 51 ?hg (N := 46) ?hd (xs := ([(⟨(⟨(⟨t189, t190⟩ : S23), t191, t192, t193⟩ : S49), t194, t195, t196⟩ : S51)] : List (S51))) (inner := [.int .i64 t189, .int .i64 t190, .int .i64 t191, .int .i64 t192, .int .u64 t193, .int .i64 t194, .int .i64 t195, .int .i64 t196]) (ok := fun _ => True) (okp := fun _ => True) ?hr ?hp (fun _ hk => hk) trivial (Below.refl _ _) (Nat.le_refl _) (by simp) ?_; (case hd => rfl); (case hg => rfl); (case hr => first | (go_simp; done) | (go_simp; rfl)); (case hp => exact (Reps.c8 (show Kd.M k51 _ _ _ (⟨(⟨(⟨t189, t190⟩ : S23), t191, t192, t193⟩ : S49), t194, t195, t196⟩ : S51) [.int .i64 t189, .int .i64 t190, .int .i64 t191, .int .i64 t192, .int .u64 t193, .int .i64 t194, .int .i64 t195, .int .i64 t196] from (k51_mkM _ _ _ (⟨(⟨(⟨t189, t190⟩ : S23), t191, t192, t193⟩ : S49), t194, t195, t196⟩ : S51) )) (Reps.none _ _))); intro v198 w23 ho24 hb hg_ hnew_; clear hg_ hnew_; (first | rw [← Ny197.out] at ho24 | (simp only [Int.reduceToNat] at ho24; rw [← Ny197.out] at ho24)); have n0_ := Aside0.mk (Kd.R_lower ho24 (below_size (by repeat (first | (with_reducible first | exact HB.out | apply below_alloc | apply pw_below_drewN | apply below_drew1) | exact HB.out)))); have n1_ := Aside0.mk (below_step (by repeat (first | (with_reducible first | exact HB.out | apply below_alloc | apply pw_below_drewN | apply below_drew1) | exact HB.out)) hb); clear HB; have HO199 := n0_; have HB := n1_; clear n0_ n1_; clear hb ho24))
                    go_ret2
                    exact ⟨_, by first | rfl | (simp [errW_none, errW_some] <;> rfl) | (simp only [← hji16, ← hji18]; first | rfl | (simp [errW_none, errW_some] <;> rfl)) | (simp [*, errW_none, errW_some] <;> rfl), by (with_reducible repeat (first | apply Kd.R_alloc | apply Kd.R_drewN | apply Kd.R_drew)); exact HO199.out, by repeat (first | (with_reducible first | exact HB.out | apply below_alloc | apply pw_below_drewN | apply below_drew1) | exact HB.out)⟩
                  · rw [if_neg c17] at H
                    exact absurd H (by simp)
                · replace c15 := Bool.eq_false_iff.mpr c15
                  subst c15
                  have H1 : ((plan_long.f kj11 a0 a1).bind fun t200 => (some (t200, 0))) = some (r1, r2) := by rw [if_neg (show ¬ (false = true) by decide)] at H; exact H
                  clear H
                  have H := H1
                  clear H1
                  replace H := Option.bind_eq_some_iff.mp H
                  obtain ⟨t200, A250, H⟩ := H
                  replace H : (some (t200, 0)) = some (r1, r2) := H
                  have A25 := Aside0.mk A250
                  clear A250
                  simp only [Option.some.injEq, Prod.mk.injEq] at H
                  obtain ⟨rfl, rfl⟩ := H
                  go_wp2_with (first | ((with_reducible refine gate_callee (f := 100) rfl ?_); refine goesL_ (some 49) rfl rfl Tryd.func100 (by kernel_rfl) rfl #[.int .i64 a0, .int .i64 a1] rfl (by (try simp only [List.map_toArray, List.map_cons, List.map_nil]); first | done | rfl | (simp only [List.length_drop, List.length_take]; rfl)) ?_; (with_reducible refine (plan_long.calls kj11 a0 a1 t200 _ A25.out).mono ?_); rintro e w26 ⟨v201, rfl, ho0, hb⟩; refine ⟨_, rfl, ?_⟩; have n0_ := Aside0.mk (Kd.R_lower ho0 (below_size (by repeat (first | (with_reducible first | exact HB.out | apply below_alloc | apply pw_below_drewN | apply below_drew1) | exact HB.out)))); have n1_ := Aside0.mk (below_step (by repeat (first | (with_reducible first | exact HB.out | apply below_alloc | apply pw_below_drewN | apply below_drew1) | exact HB.out)) hb); clear HB; have HO202 := n0_; have HB := n1_; clear n0_ n1_; (try clear hb); (try clear hb2); (try clear hk); (try clear hi); (try clear ho0)))
                  go_ret2
                  exact ⟨_, by first | rfl | (simp [errW_none, errW_some] <;> rfl) | (simp [*, errW_none, errW_some] <;> rfl), by (with_reducible repeat (first | apply Kd.R_alloc | apply Kd.R_drewN | apply Kd.R_drew)); exact HO202.out, by repeat (first | (with_reducible first | exact HB.out | apply below_alloc | apply pw_below_drewN | apply below_drew1) | exact HB.out)⟩
  · replace c6 := Bool.eq_false_iff.mpr c6
    subst c6
    have H1 : (some (([] : List (S51)), 1)) = some (r1, r2) := by rw [if_neg (show ¬ (false = true) by decide)] at H; exact H
    clear H
    have H := H1
    clear H1
    simp only [Option.some.injEq, Prod.mk.injEq] at H
    obtain ⟨rfl, rfl⟩ := H
    go_enter Tryd.func56, Tryd.ntmps56
    go_wp2_with (first | ((with_reducible refine gate_callee (f := 96) rfl ?_); refine goesL_ (some 13) rfl rfl Tryd.func96 (by kernel_rfl) rfl #[.int .i64 a0, .int .i64 a2] rfl (by (try simp only [List.map_toArray, List.map_cons, List.map_nil]); first | done | rfl | (simp only [List.length_drop, List.length_take]; rfl)) ?_; (with_reducible refine (plan_good.calls a0 a2 false _ A5.out).mono ?_); rintro e w' ⟨rfl, ⟨nd, rfl⟩⟩; refine ⟨_, rfl, ?_⟩))
    go_ret2
    exact ⟨_, by first | rfl | (simp [errW_none, errW_some] <;> rfl) | (simp [*, errW_none, errW_some] <;> rfl), by first | exact Kd.R_nil _ _ _ _ _ | exact Kd.N_nil _ _ _ _ _ | exact Kd.V_nil _ _ _ _ _ | exact Kd.Q_nil _ _ _ _ _ | exact Kd.S_nil _ _ _ _ _, by repeat (first | (with_reducible first | exact HB.out | apply below_alloc | apply pw_below_drewN | apply below_drew1) | exact HB.out)⟩

/-! ### plan_Least: function 55 -/
def plan_Least.f (a0 : Int) (a1 : Int) : Option (Int × Int) := (plan_good.f a0 a1).bind fun t203 => (if t203 = true then ((plan_least.f a0 a1).bind fun t204 => (some (t204, 0))) else (some (0, 1)))
set_option maxHeartbeats 8000000 in
set_option maxRecDepth 100000 in
theorem plan_Least.calls (a0 : Int) (a1 : Int) (r1 : Int) (r2 : Int) (w : World) (h : plan_Least.f a0 a1 = some (r1, r2)) :
    Calls Tryd.prog 55 #[.int .i64 a0, .int .i64 a1] w fun e w' => e = .returned (.tuple #[.int .i64 r1, .int .i64 r2]) ∧ Drawn0 w w' := by
  have H : ((plan_good.f a0 a1).bind fun t203 => (if t203 = true then ((plan_least.f a0 a1).bind fun t204 => (some (t204, 0))) else (some (0, 1)))) = some (r1, r2) := h
  clear h
  replace H := Option.bind_eq_some_iff.mp H
  obtain ⟨t203, A30, H⟩ := H
  replace H : (if t203 = true then ((plan_least.f a0 a1).bind fun t204 => (some (t204, 0))) else (some (0, 1))) = some (r1, r2) := H
  have A3 := Aside0.mk A30
  clear A30
  by_cases c4 : t203 = true
  · subst c4
    have H1 : ((plan_least.f a0 a1).bind fun t204 => (some (t204, 0))) = some (r1, r2) := by rw [if_pos rfl] at H; exact H
    clear H
    have H := H1
    clear H1
    replace H := Option.bind_eq_some_iff.mp H
    obtain ⟨t204, A50, H⟩ := H
    replace H : (some (t204, 0)) = some (r1, r2) := H
    have A5 := Aside0.mk A50
    clear A50
    simp only [Option.some.injEq, Prod.mk.injEq] at H
    obtain ⟨rfl, rfl⟩ := H
    go_enter Tryd.func55, Tryd.ntmps55
    go_wp2_with (first | ((with_reducible refine gate_callee (f := 96) rfl ?_); refine goesL_ (some 8) rfl rfl Tryd.func96 (by kernel_rfl) rfl #[.int .i64 a0, .int .i64 a1] rfl (by (try simp only [List.map_toArray, List.map_cons, List.map_nil]); first | done | rfl | (simp only [List.length_drop, List.length_take]; rfl)) ?_; (with_reducible refine (plan_good.calls a0 a1 true _ A3.out).mono ?_); rintro e w' ⟨rfl, ⟨nd, rfl⟩⟩; refine ⟨_, rfl, ?_⟩) | ((with_reducible refine gate_callee (f := 97) rfl ?_); refine goesL_ (some 12) rfl rfl Tryd.func97 (by kernel_rfl) rfl #[.int .i64 a0, .int .i64 a1] rfl (by (try simp only [List.map_toArray, List.map_cons, List.map_nil]); first | done | rfl | (simp only [List.length_drop, List.length_take]; rfl)) ?_; (with_reducible refine (plan_least.calls a0 a1 t204 _ A5.out).mono ?_); rintro e w' ⟨rfl, ⟨nd, rfl⟩⟩; refine ⟨_, rfl, ?_⟩))
    go_ret2
    exact ⟨by first | rfl | (simp; done) | (simp [*]; done), by repeat (first | exact Drawn0.refl _ | apply Drawn0.step)⟩
  · replace c4 := Bool.eq_false_iff.mpr c4
    subst c4
    have H1 : (some (0, 1)) = some (r1, r2) := by rw [if_neg (show ¬ (false = true) by decide)] at H; exact H
    clear H
    have H := H1
    clear H1
    simp only [Option.some.injEq, Prod.mk.injEq] at H
    obtain ⟨rfl, rfl⟩ := H
    go_enter Tryd.func55, Tryd.ntmps55
    go_wp2_with (first | ((with_reducible refine gate_callee (f := 96) rfl ?_); refine goesL_ (some 8) rfl rfl Tryd.func96 (by kernel_rfl) rfl #[.int .i64 a0, .int .i64 a1] rfl (by (try simp only [List.map_toArray, List.map_cons, List.map_nil]); first | done | rfl | (simp only [List.length_drop, List.length_take]; rfl)) ?_; (with_reducible refine (plan_good.calls a0 a1 false _ A3.out).mono ?_); rintro e w' ⟨rfl, ⟨nd, rfl⟩⟩; refine ⟨_, rfl, ?_⟩))
    go_ret2
    exact ⟨by first | rfl | (simp; done) | (simp [*]; done), by repeat (first | exact Drawn0.refl _ | apply Drawn0.step)⟩

/-! ### root_Fits: function 87 -/
def root_Fits.f (a0 : Int) : Option (Int × Bool) := if a0 < 1 then (some (0, false)) else (if a0 > 4294967296 then (some (0, false)) else (if (Go.bits .and .i64 a0 (wrap64 (a0 - 1))) = 0 then ((bits_TrailingZeros64.f (IntKind.u64.wrap (a0))).bind fun t205 => (some (t205, true))) else (some (0, false))))
set_option maxHeartbeats 8000000 in
set_option maxRecDepth 100000 in
theorem root_Fits.calls (a0 : Int) (r1 : Int) (r2 : Bool) (w : World) (h : root_Fits.f a0 = some (r1, r2)) (hT : TabOK w) :
    Calls Tryd.prog 87 #[.int .i64 a0] w fun e w' => e = .returned (.tuple #[.int .i64 r1, .bool r2]) ∧ Drawn0 w w' := by
  have H : (if a0 < 1 then (some (0, false)) else (if a0 > 4294967296 then (some (0, false)) else (if (Go.bits .and .i64 a0 (wrap64 (a0 - 1))) = 0 then ((bits_TrailingZeros64.f (IntKind.u64.wrap (a0))).bind fun t205 => (some (t205, true))) else (some (0, false))))) = some (r1, r2) := h
  clear h
  by_cases c2 : a0 < 1
  · rw [if_pos c2] at H
    have c2b0 : decide (a0 < 1) = true := decide_eq_true c2
    clear c2
    simp only [Option.some.injEq, Prod.mk.injEq] at H
    obtain ⟨rfl, rfl⟩ := H
    go_enter Tryd.func87, Tryd.ntmps87
    go_wp2
    go_ret2
    exact ⟨by first | rfl | (simp; done) | (simp [*]; done), by repeat (first | exact Drawn0.refl _ | apply Drawn0.step)⟩
  · rw [if_neg c2] at H
    have c2b0 : decide (a0 < 1) = false := decide_eq_false c2
    clear c2
    by_cases c3 : a0 > 4294967296
    · rw [if_pos c3] at H
      have c3b0 : decide (4294967296 < a0) = true := decide_eq_true c3
      clear c3
      simp only [Option.some.injEq, Prod.mk.injEq] at H
      obtain ⟨rfl, rfl⟩ := H
      go_enter Tryd.func87, Tryd.ntmps87
      go_wp2
      go_ret2
      exact ⟨by first | rfl | (simp; done) | (simp [*]; done), by repeat (first | exact Drawn0.refl _ | apply Drawn0.step)⟩
    · rw [if_neg c3] at H
      have c3b0 : decide (4294967296 < a0) = false := decide_eq_false c3
      clear c3
      by_cases c4 : (Go.bits .and .i64 a0 (wrap64 (a0 - 1))) = 0
      · rw [if_pos c4] at H
        have c4b0 : ((Go.bits .and .i64 a0 (wrap64 (a0 - 1))) == 0) = true := beq_iff_eq.mpr c4
        have c4b1 : ((Go.bits .and .i64 a0 (wrap64 (a0 - 1))) != 0) = false := bne_eq_false_iff_eq.mpr c4
        clear c4
        replace H := Option.bind_eq_some_iff.mp H
        obtain ⟨t205, A50, H⟩ := H
        replace H : (some (t205, true)) = some (r1, r2) := H
        have A5 := Aside0.mk A50
        clear A50
        simp only [Option.some.injEq, Prod.mk.injEq] at H
        obtain ⟨rfl, rfl⟩ := H
        go_enter Tryd.func87, Tryd.ntmps87
        go_wp2_with (first | ((with_reducible refine gate_callee (f := 118) rfl ?_); refine goesL_ (some 19) rfl rfl Tryd.func118 (by kernel_rfl) rfl #[.int .u64 (IntKind.u64.wrap (a0))] rfl (by (try simp only [List.map_toArray, List.map_cons, List.map_nil]); first | done | rfl | (simp only [List.length_drop, List.length_take]; rfl)) ?_; (with_reducible refine (bits_TrailingZeros64.calls (IntKind.u64.wrap (a0)) t205 _ A5.out (by repeat (first | exact hT | (with_reducible apply TabOK.drewN) | (with_reducible apply TabOK.drew)))).mono ?_); rintro e w' ⟨rfl, ⟨nd, rfl⟩⟩; refine ⟨_, rfl, ?_⟩))
        go_ret2
        exact ⟨by first | rfl | (simp; done) | (simp [*]; done), by repeat (first | exact Drawn0.refl _ | apply Drawn0.step)⟩
      · rw [if_neg c4] at H
        have c4b0 : ((Go.bits .and .i64 a0 (wrap64 (a0 - 1))) == 0) = false := beq_eq_false_iff_ne.mpr c4
        have c4b1 : ((Go.bits .and .i64 a0 (wrap64 (a0 - 1))) != 0) = true := bne_iff_ne.mpr c4
        simp only [Option.some.injEq, Prod.mk.injEq] at H
        obtain ⟨rfl, rfl⟩ := H
        go_enter Tryd.func87, Tryd.ntmps87
        go_wp2
        go_ret2
        exact ⟨by first | rfl | (simp; done) | (simp [*]; done), by repeat (first | exact Drawn0.refl _ | apply Drawn0.step)⟩

-- NOT PRINTED: function 131 (slices_IndexFunc_uint64_uint64)

-- NOT PRINTED: function 108 (codec_Check)

-- NOT PRINTED: function 67 (plan_Check)

/-! ### abacistref02_Of: function 78 -/
def abacistref02_Of.f (a0 : Int) : Option (Int) := some (Int.tmod a0 18446744069414584321)
set_option maxHeartbeats 8000000 in
set_option maxRecDepth 100000 in
theorem abacistref02_Of.calls (a0 : Int) (r : Int) (w : World) (h : abacistref02_Of.f a0 = some r) :
    Calls Tryd.prog 78 #[.int .u64 a0] w fun e w' => e = .returned (.int .u64 r) ∧ Drawn0 w w' := by
  have H : (some (Int.tmod a0 18446744069414584321)) = some r := h
  clear h
  obtain rfl := Option.some.inj H
  go_enter Tryd.func78, Tryd.ntmps78
  go_wp2
  go_ret
  exact ⟨by first | rfl | (simp; done) | (simp [*]; done), by repeat (first | exact Drawn0.refl _ | apply Drawn0.step)⟩

/-! ### abacistref02_Add: function 66 -/
def abacistref02_Add.f (a0 : Int) (a1 : Int) : Option (Int) := (abacistref02_Of.f a0).bind fun t208 => ((abacistref02_Of.f a1).bind fun t209 => (if t208 ≥ (IntKind.u64.wrap (18446744069414584321 - t209)) then (some (IntKind.u64.wrap (t208 - (IntKind.u64.wrap (18446744069414584321 - t209))))) else (some (IntKind.u64.wrap (t208 + t209)))))
set_option maxHeartbeats 8000000 in
set_option maxRecDepth 100000 in
theorem abacistref02_Add.calls (a0 : Int) (a1 : Int) (r : Int) (w : World) (h : abacistref02_Add.f a0 a1 = some r) :
    Calls Tryd.prog 66 #[.int .u64 a0, .int .u64 a1] w fun e w' => e = .returned (.int .u64 r) ∧ Drawn0 w w' := by
  have H : ((abacistref02_Of.f a0).bind fun t208 => ((abacistref02_Of.f a1).bind fun t209 => (if t208 ≥ (IntKind.u64.wrap (18446744069414584321 - t209)) then (some (IntKind.u64.wrap (t208 - (IntKind.u64.wrap (18446744069414584321 - t209))))) else (some (IntKind.u64.wrap (t208 + t209)))))) = some r := h
  clear h
  replace H := Option.bind_eq_some_iff.mp H
  obtain ⟨t208, A30, H⟩ := H
  replace H : ((abacistref02_Of.f a1).bind fun t209 => (if t208 ≥ (IntKind.u64.wrap (18446744069414584321 - t209)) then (some (IntKind.u64.wrap (t208 - (IntKind.u64.wrap (18446744069414584321 - t209))))) else (some (IntKind.u64.wrap (t208 + t209))))) = some r := H
  have A3 := Aside0.mk A30
  clear A30
  replace H := Option.bind_eq_some_iff.mp H
  obtain ⟨t209, A40, H⟩ := H
  replace H : (if t208 ≥ (IntKind.u64.wrap (18446744069414584321 - t209)) then (some (IntKind.u64.wrap (t208 - (IntKind.u64.wrap (18446744069414584321 - t209))))) else (some (IntKind.u64.wrap (t208 + t209)))) = some r := H
  have A4 := Aside0.mk A40
  clear A40
  by_cases c5 : t208 ≥ (IntKind.u64.wrap (18446744069414584321 - t209))
  · rw [if_pos c5] at H
    have c5b0 : decide ((IntKind.u64.wrap (18446744069414584321 - t209)) ≤ t208) = true := decide_eq_true c5
    clear c5
    obtain rfl := Option.some.inj H
    go_enter Tryd.func66, Tryd.ntmps66
    go_wp2_with (first | ((with_reducible refine gate_callee (f := 78) rfl ?_); refine goesL_ (some 6) rfl rfl Tryd.func78 (by kernel_rfl) rfl #[.int .u64 a0] rfl (by (try simp only [List.map_toArray, List.map_cons, List.map_nil]); first | done | rfl | (simp only [List.length_drop, List.length_take]; rfl)) ?_; (with_reducible refine (abacistref02_Of.calls a0 t208 _ A3.out).mono ?_); rintro e w' ⟨rfl, ⟨nd, rfl⟩⟩; refine ⟨_, rfl, ?_⟩) | ((with_reducible refine gate_callee (f := 78) rfl ?_); refine goesL_ (some 8) rfl rfl Tryd.func78 (by kernel_rfl) rfl #[.int .u64 a1] rfl (by (try simp only [List.map_toArray, List.map_cons, List.map_nil]); first | done | rfl | (simp only [List.length_drop, List.length_take]; rfl)) ?_; (with_reducible refine (abacistref02_Of.calls a1 t209 _ A4.out).mono ?_); rintro e w' ⟨rfl, ⟨nd, rfl⟩⟩; refine ⟨_, rfl, ?_⟩))
    go_ret
    exact ⟨by first | rfl | (simp; done) | (simp [*]; done), by repeat (first | exact Drawn0.refl _ | apply Drawn0.step)⟩
  · rw [if_neg c5] at H
    have c5b0 : decide ((IntKind.u64.wrap (18446744069414584321 - t209)) ≤ t208) = false := decide_eq_false c5
    clear c5
    obtain rfl := Option.some.inj H
    go_enter Tryd.func66, Tryd.ntmps66
    go_wp2_with (first | ((with_reducible refine gate_callee (f := 78) rfl ?_); refine goesL_ (some 6) rfl rfl Tryd.func78 (by kernel_rfl) rfl #[.int .u64 a0] rfl (by (try simp only [List.map_toArray, List.map_cons, List.map_nil]); first | done | rfl | (simp only [List.length_drop, List.length_take]; rfl)) ?_; (with_reducible refine (abacistref02_Of.calls a0 t208 _ A3.out).mono ?_); rintro e w' ⟨rfl, ⟨nd, rfl⟩⟩; refine ⟨_, rfl, ?_⟩) | ((with_reducible refine gate_callee (f := 78) rfl ?_); refine goesL_ (some 8) rfl rfl Tryd.func78 (by kernel_rfl) rfl #[.int .u64 a1] rfl (by (try simp only [List.map_toArray, List.map_cons, List.map_nil]); first | done | rfl | (simp only [List.length_drop, List.length_take]; rfl)) ?_; (with_reducible refine (abacistref02_Of.calls a1 t209 _ A4.out).mono ?_); rintro e w' ⟨rfl, ⟨nd, rfl⟩⟩; refine ⟨_, rfl, ?_⟩))
    go_ret
    exact ⟨by first | rfl | (simp; done) | (simp [*]; done), by repeat (first | exact Drawn0.refl _ | apply Drawn0.step)⟩

end Go.Proofs.YtpnkcjnemoompaaDoor.PPlan
