import Derived.Test.YtpnkcjnemoompaaDoorProg
import Derived.Test.YtpnkcjnemoompaaDoorMk
import Derived.Test.YtpnkcjnemoompaaDoorWMore
import Derived.Test.YtpnkcjnemoompaaDoorWNEv
import Derived.WalkKit
import Derived.Shelf.Spec.TrailingZeros
import Derived.Lib.LaidTab
import Derived.Lib.Hide
namespace Go.Proofs.YtpnkcjnemoompaaDoor.Ext
open Go.RowKit Go.Proofs.YtpnkcjnemoompaaDoorW.PrintWords
set_option linter.unusedVariables false

/-- The table of math/bits stands in its variable. -/
structure TabOK (w : World) : Prop where mk :: (out : ∀ j, j < 64 → w.cell? ⟨1, j, none⟩ = some (.int .u8 ((Lib.deBruijn64tab.getD j 0 : Nat) : Int)))
theorem TabOK.below {w W : World} (h : TabOK w) (hb : Below w.heap.size w W) : TabOK W := ⟨fun j hj => pw_cell_below hb (h.out j hj)⟩
theorem TabOK.drewN {w : World} (h : TabOK w) (n : Nat) : TabOK (w.drewN n) := ⟨h.out⟩
theorem TabOK.drew {w : World} (h : TabOK w) : TabOK w.drew := ⟨h.out⟩

theorem tz64_core (x k idx : Nat) (w : World) (hx0 : ((x : Int) == 0) = false)
    (key : IntKind.u64.wrap (bits BinOp.and IntKind.u64 (x : Int) (IntKind.u64.wrap (-(x : Int))) * 285870213051353865) / 288230376151711744 = (idx : Int))
    (hi : idx < 64) (hk : k < 64) (hcell : w.cell? ⟨1, idx, none⟩ = some (.int .u8 k)) :
    Calls Tryd.prog 118 #[.int .u64 x] w fun e w' => e = .returned (.int .i64 k) ∧ w' = w := by
  go_enter Tryd.func118, Tryd.ntmps118
  go_wp2_with (simp only [key])
  go_ret
  exact ⟨rfl, rfl⟩
theorem tz64_zero (w : World) : Calls Tryd.prog 118 #[.int .u64 0] w fun e w' => e = .returned (.int .i64 64) ∧ w' = w := by
  go_enter Tryd.func118, Tryd.ntmps118
  go_wp2
  go_ret
  exact ⟨rfl, rfl⟩
theorem tz64 (x : Nat) (hx : x < 18446744073709551616) (w : World) (hT : TabOK w) :
    Calls Tryd.prog 118 #[.int .u64 x] w fun e w' => e = .returned (.int .i64 (Lib.ctz 64 x)) ∧ w' = w := by
  by_cases hx0 : x = 0
  · subst hx0
    exact tz64_zero w
  · obtain ⟨hlow, hk⟩ := Lib.lowest_bit 64 x hx0 hx
    obtain ⟨hi, htab⟩ := Lib.deBruijn64_at _ hk
    have hcell := hT.out _ hi
    rw [htab] at hcell
    exact tz64_core x _ _ w (by simp; omega) (tz64_key x _ hx hx0 hlow) hi hk hcell
def bits_TrailingZeros64.f (x : Int) : Option Int := if 0 ≤ x ∧ x ≤ 18446744073709551615 then some ((Lib.ctz 64 x.toNat : Nat) : Int) else none
theorem bits_TrailingZeros64.calls (a0 : Int) (r : Int) (w : World) (h : bits_TrailingZeros64.f a0 = some r) (hT : TabOK w) :
    Calls Tryd.prog 118 #[.int .u64 a0] w fun e w' => e = .returned (.int .i64 r) ∧ Drawn0 w w' := by
  unfold bits_TrailingZeros64.f at h
  split at h
  · rename_i hb
    simp only [Option.some.injEq] at h
    subst h
    obtain ⟨x, rfl⟩ := Int.eq_ofNat_of_zero_le hb.1
    exact (tz64 x (by omega) w hT).mono fun _ _ ⟨he, hw⟩ => ⟨he, hw ▸ Drawn0.refl _⟩
  · cases h
def bits_TrailingZeros.f (x : Int) : Option Int := if 0 ≤ x ∧ x ≤ 18446744073709551615 then some ((Lib.ctz 64 x.toNat : Nat) : Int) else none
theorem bits_TrailingZeros.calls (a0 : Int) (r : Int) (w : World) (h : bits_TrailingZeros.f a0 = some r) (hT : TabOK w) :
    Calls Tryd.prog 157 #[.int .u64 a0] w fun e w' => e = .returned (.int .i64 r) ∧ Drawn0 w w' := by
  unfold bits_TrailingZeros.f at h
  split at h
  · rename_i hb
    simp only [Option.some.injEq] at h
    subst h
    obtain ⟨x, rfl⟩ := Int.eq_ofNat_of_zero_le hb.1
    have hc := fun w hT => tz64 x (by omega) w hT
    have HT := Lib.hid hT
    clear hT hb
    go_enter Tryd.func157, Tryd.ntmps157
    go_wp2_with fail
    refine (hc _ HT.out).mono ?_
    rintro e w' ⟨rfl, rfl⟩
    go_wp2_with fail
    go_ret
    exact ⟨rfl, Drawn0.refl _⟩
  · cases h
end Go.Proofs.YtpnkcjnemoompaaDoor.Ext
