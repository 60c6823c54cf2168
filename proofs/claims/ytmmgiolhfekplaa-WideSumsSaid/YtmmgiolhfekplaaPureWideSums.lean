/- The printed part of: sums and differences, their carries and borrows, and how two numbers compare, are as the document says. -/
import Derived.Laws.BitsAllLaws
import Derived.OpenShut
import Derived.Test.YtmmgiolhfekplaaPWidex10
import Derived.Test.YtmmgiolhfekplaaPWidex11
import Derived.Test.YtmmgiolhfekplaaPWidex3
import Derived.Test.YtmmgiolhfekplaaPWidex4
import Derived.Test.YtmmgiolhfekplaaWNEv
import Derived.Test.YtmmgiolhfekplaaWideT
set_option linter.unusedVariables false
set_option linter.unusedSimpArgs false
namespace Go.Proofs.Ytmmgiolhfekplaa.Pure
open Go.RowKit Go.Proofs.Ytmmgiolhfekplaa Go.Proofs.Ytmmgiolhfekplaa.PWide Go.Proofs.Ytmmgiolhfekplaa.Ext Go.Proofs.YtmmgiolhfekplaaW.PrintWords Go.Proofs.YtmmgiolhfekplaaW.PrintLast Go.Proofs.YtmmgiolhfekplaaW.PrintMore

theorem Ev_if {α : Type} {c : Prop} [Decidable c] {f g : Nat → Option α} {r : α} (hc : c) (h : Ev f r) : Ev (fun n => if c then f n else g n) r := Ev.congr (fun _ => if_pos hc) h
theorem Ev_ifn {α : Type} {c : Prop} [Decidable c] {f g : Nat → Option α} {r : α} (hc : ¬ c) (h : Ev g r) : Ev (fun n => if c then f n else g n) r := Ev.congr (fun _ => if_neg hc) h
theorem isnan_ (x : Int) : cmp_isNaN_uint64.f x = some false := by unfold cmp_isNaN_uint64.f; simp
theorem cmp_ (a b : Int) : cmp_Compare_uint64.f a b = some (if a < b then -1 else if a > b then 1 else 0) := by
  unfold cmp_Compare_uint64.f
  rw [isnan_, isnan_]
  simp only [Option.bind_some, Bool.false_eq_true, if_false]
  by_cases h : a < b
  · rw [if_pos h, if_pos h]
  · by_cases h2 : a > b
    · rw [if_neg h, if_neg h, if_pos h2, if_pos h2]
    · rw [if_neg h, if_neg h, if_neg h2, if_neg h2]
theorem or_ (a b : Int) : Ev (fun k => cmp_Or_int.f k [a, b]) (if a = 0 then b else a) := by
  have w1 : wrap64 (0 + 1) = 1 := by unfold wrap64; omega
  have w2 : wrap64 (1 + 1) = 2 := by unfold wrap64; omega
  refine Ev.congr (f := fun k => cmp_Or_int.l0 k 0 [a, b] 2 0) (fun k => rfl) ?_
  by_cases ha : a = 0
  · subst ha
    rw [if_pos rfl]
    refine Ev.step (f := fun k => cmp_Or_int.l0 k 0 [0, b] 2 1) (fun k => ?_) ?_
    · simp only [cmp_Or_int.l0]
      rw [if_pos (by decide), if_pos (by decide), if_pos (by simp), w1]
      rfl
    · by_cases hb : b = 0
      · subst hb
        refine Ev.step (f := fun k => cmp_Or_int.l0 k 0 [0, 0] 2 2) (fun k => ?_) (Ev.step (f := fun _ => some 0) (fun k => ?_) (Ev.now _))
        · simp only [cmp_Or_int.l0]
          rw [if_pos (by decide), if_pos (by decide), if_pos (by simp), w2]
          rfl
        · simp only [cmp_Or_int.l0]
          rw [if_neg (by decide)]
      · refine Ev.step (f := fun _ => some b) (fun k => ?_) (Ev.now _)
        simp only [cmp_Or_int.l0]
        have e : rd [0, b] 1 = b := rfl
        rw [if_pos (by decide), if_pos (by decide), if_pos (by simp), e, if_neg hb]
  · rw [if_neg ha]
    refine Ev.step (f := fun _ => some a) (fun k => ?_) (Ev.now _)
    simp only [cmp_Or_int.l0]
    have e : rd [a, b] 0 = a := rfl
    rw [if_pos (by decide), if_pos (by decide), if_pos (by simp), e, if_neg ha]
theorem wcompare_ (a b : Nat) : Ev (fun k => wide_Compare.f k (hiw a) (low a) (hiw b) (low b)) (if a < b then -1 else if b < a then 1 else 0) := by
  unfold wide_Compare.f
  rw [cmp_, cmp_]
  simp only [Option.bind_some]
  have h := or_ (if hiw a < hiw b then -1 else if hiw a > hiw b then 1 else 0) (if low a < low b then -1 else if low a > low b then 1 else 0)
  have e : (if (if hiw a < hiw b then (-1 : Int) else if hiw a > hiw b then 1 else 0) = 0 then (if low a < low b then (-1 : Int) else if low a > low b then 1 else 0) else (if hiw a < hiw b then -1 else if hiw a > hiw b then 1 else 0)) = (if a < b then -1 else if b < a then 1 else 0) := by
    unfold hiw low
    by_cases c1 : a / 18446744073709551616 < b / 18446744073709551616
    · have d1 : ((a / 18446744073709551616 : Nat) : Int) < ((b / 18446744073709551616 : Nat) : Int) := by omega
      rw [if_pos d1, if_neg (by decide), if_pos (by omega)]
    · have d1 : ¬ ((a / 18446744073709551616 : Nat) : Int) < ((b / 18446744073709551616 : Nat) : Int) := by omega
      rw [if_neg d1]
      by_cases c2 : b / 18446744073709551616 < a / 18446744073709551616
      · have d2 : ((a / 18446744073709551616 : Nat) : Int) > ((b / 18446744073709551616 : Nat) : Int) := by omega
        rw [if_pos d2, if_neg (by decide), if_neg (by omega), if_pos (by omega)]
      · have d2 : ¬ ((a / 18446744073709551616 : Nat) : Int) > ((b / 18446744073709551616 : Nat) : Int) := by omega
        rw [if_neg d2, if_pos rfl]
        by_cases c3 : a % 18446744073709551616 < b % 18446744073709551616
        · rw [if_pos (by omega), if_pos (by omega)]
        · rw [if_neg (by omega)]
          by_cases c4 : b % 18446744073709551616 < a % 18446744073709551616
          · rw [if_pos (by omega), if_neg (by omega), if_pos (by omega)]
          · rw [if_neg (by omega), if_neg (by omega), if_neg (by omega)]
  rw [e] at h
  exact Ev.bind h (Ev.now _)
theorem sums_end (a b s d c : Nat) (bo : Int) (want : Int) (hw : want = if a < b then -1 else 0) : Ev (fun k => abacistlaw01_WideSums.j0 k (c : Int) (c : Int) bo bo want (hiw a) (low a) (hiw b) (low b) (hiw s) (low s) (hiw s) (low s) (hiw d) (low d) (hiw d) (low d) (hiw a) (low a)) true := by
  have hc := wcompare_ a b
  refine Ev.step (f := fun k => if decide (b < a) = true then ((wide_Compare.f k (hiw a) (low a) (hiw b) (low b)).bind fun t316 => (some (t316 == 1))) else ((wide_Compare.f k (hiw a) (low a) (hiw b) (low b)).bind fun t317 => (some (t317 == want)))) (fun k => ?_) ?_
  · simp only [abacistlaw01_WideSums.j0]
    rw [less_]
    simp only [Option.bind_some, BEq.rfl, Bool.and_self, if_true]
  · by_cases c : b < a
    · rw [decide_eq_true c]
      simp only [if_true]
      rw [if_neg (by omega), if_pos c] at hc
      exact Ev.bind hc (Ev.now _)
    · rw [decide_eq_false c]
      simp only [Bool.false_eq_true, if_false]
      refine Ev.bind hc ?_
      have : ((if a < b then -1 else if b < a then 1 else 0 : Int) == want) = true := by rw [hw, if_neg c]; simp
      rw [this]; exact Ev.now _
theorem sums_ (a b s d cc : Nat) (bo : Int) (hadd : wide_Add.f (hiw a) (low a) (hiw b) (low b) = some (hiw s, low s, (cc : Int))) (hsub : wide_Sub.f (hiw a) (low a) (hiw b) (low b) = some (hiw d, low d, bo))
    (hback : ∃ x : Int, wide_Add.f (hiw d) (low d) (hiw b) (low b) = some (hiw a, low a, x)) (hr : Ev (fun k => abacistref01_Add.f k (hiw a) (low a) (hiw b) (low b)) (hiw s, low s, (cc : Int)))
    (hr2 : Ev (fun k => abacistref01_Sub.f k (hiw a) (low a) (hiw b) (low b)) (hiw d, low d, bo)) : Ev (fun k => abacistlaw01_WideSums.f k (hiw a) (low a) (hiw b) (low b)) true := by
  obtain ⟨x, hback⟩ := hback
  have key := sums_end a b s d cc bo
  unfold abacistlaw01_WideSums.f
  refine Ev.bind awake_ ?_
  refine Ev_if rfl ?_
  have e1 : Ev (fun _ => wide_Add.f (hiw a) (low a) (hiw b) (low b)) (hiw s, low s, (cc : Int)) := by rw [hadd]; exact Ev.now _
  have e2 : Ev (fun _ => wide_Sub.f (hiw a) (low a) (hiw b) (low b)) (hiw d, low d, bo) := by rw [hsub]; exact Ev.now _
  have e3 : Ev (fun _ => wide_Add.f (hiw d) (low d) (hiw b) (low b)) (hiw a, low a, x) := by rw [hback]; exact Ev.now _
  have e4 : Ev (fun _ => abacistref01_Less.f (hiw a) (low a) (hiw b) (low b)) (decide (a < b)) := by rw [less_]; exact Ev.now _
  refine Ev.bind e1 (Ev.bind hr (Ev.bind e2 (Ev.bind hr2 (Ev.bind e3 (Ev.bind e4 ?_)))))
  by_cases c : a < b
  · refine Ev_if (decide_eq_true c) ?_
    exact key (-1) (by rw [if_pos c])
  · refine Ev_ifn (by rw [decide_eq_false c]; decide) ?_
    exact key 0 (by rw [if_neg c])
theorem mod_L (x : Nat) : x % 340282366920938463463374607431768211456 < 340282366920938463463374607431768211456 := Nat.mod_lt _ (by omega)
theorem sub_back (a b : Nat) (ha : a < 340282366920938463463374607431768211456) (hb : b < 340282366920938463463374607431768211456) : ((a + 340282366920938463463374607431768211456 - b) % 340282366920938463463374607431768211456 + b) % 340282366920938463463374607431768211456 = a := by
  rcases Nat.lt_or_ge a b with h | h
  · have e : (a + 340282366920938463463374607431768211456 - b) % 340282366920938463463374607431768211456 = a + 340282366920938463463374607431768211456 - b := Nat.mod_eq_of_lt (by omega)
    rw [e, show a + 340282366920938463463374607431768211456 - b + b = a + 340282366920938463463374607431768211456 by omega, Nat.add_mod_right, Nat.mod_eq_of_lt ha]
  · have e : (a + 340282366920938463463374607431768211456 - b) % 340282366920938463463374607431768211456 = a - b := by
      rw [show a + 340282366920938463463374607431768211456 - b = (a - b) + 340282366920938463463374607431768211456 by omega, Nat.add_mod_right, Nat.mod_eq_of_lt (by omega)]
    rw [e, Nat.sub_add_cancel h, Nat.mod_eq_of_lt ha]
theorem back_ (a b d : Nat) (hd : d < 340282366920938463463374607431768211456) (hb : b < 340282366920938463463374607431768211456) (e : (d + b) % 340282366920938463463374607431768211456 = a) : ∃ x : Int, wide_Add.f (hiw d) (low d) (hiw b) (low b) = some (hiw a, low a, x) := by
  have h := wadd_ d b hd hb
  rw [e] at h
  exact ⟨_, h⟩
theorem WideSums (a b : Nat) (ha : a < 340282366920938463463374607431768211456) (hb : b < 340282366920938463463374607431768211456) : Ev (fun k => abacistlaw01_WideSums.f k (hiw a) (low a) (hiw b) (low b)) true := by
  have h1 := wadd_ a b ha hb
  have h2 := wsub_ a b ha hb
  have h3 := radd_ a b ha hb
  have h4 := rsub_ a b ha hb
  have h5 := back_ a b _ (mod_L _) hb (sub_back a b ha hb)
  generalize (a + b) % 340282366920938463463374607431768211456 = s at h1 h3
  generalize (a + b) / 340282366920938463463374607431768211456 = c at h1 h3
  generalize (a + 340282366920938463463374607431768211456 - b) % 340282366920938463463374607431768211456 = d at h2 h4 h5
  generalize (if a < b then 1 else 0 : Int) = bo at h2 h4
  exact sums_ a b s d c bo h1 h2 h5 h3 h4
theorem WideSumsCalls_ (a b c d : Int) (ha : (Lit.int .u64 a).wf = true) (hb : (Lit.int .u64 b).wf = true) (hc : (Lit.int .u64 c).wf = true) (hd : (Lit.int .u64 d).wf = true) (w : World) :
    Calls Try.prog 10 #[.agg #[.int .u64 a, .int .u64 b], .agg #[.int .u64 c, .int .u64 d]] w fun e w' => e = .returned (.bool true) ∧ Below w.heap.size w w' := by
  have b0 := bounds_u64 ha
  have b1 := bounds_u64 hb
  have b2 := bounds_u64 hc
  have b3 := bounds_u64 hd
  obtain ⟨u, hu, rfl, rfl⟩ := wide_of a b b0.1 b1.1 b0.2 b1.2
  obtain ⟨v, hv, rfl, rfl⟩ := wide_of c d b2.1 b3.1 b2.2 b3.2
  obtain ⟨k, h⟩ := (WideSums u v hu hv).rounds
  exact abacistlaw01_WideSums.calls k _ _ _ _ true w h
end Go.Proofs.Ytmmgiolhfekplaa.Pure
