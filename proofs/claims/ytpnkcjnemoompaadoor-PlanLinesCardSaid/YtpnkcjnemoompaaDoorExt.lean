import Derived.Test.YtpnkcjnemoompaaDoorExtTz
import Derived.Test.YtpnkcjnemoompaaDoorShelf
namespace Go.Proofs.YtpnkcjnemoompaaDoor.Ext
open Go.RowKit Go.Proofs.YtpnkcjnemoompaaDoorW.PrintWords Go.Proofs.YtpnkcjnemoompaaDoorW.PrintLast Go.Proofs.YtpnkcjnemoompaaDoor
set_option linter.unusedVariables false
def bits_Mul64.f (x y : Int) : Option (Int × Int) := if 0 ≤ x ∧ x ≤ 18446744073709551615 ∧ 0 ≤ y ∧ y ≤ 18446744073709551615 then some (x * y / 18446744073709551616, x * y % 18446744073709551616) else none
theorem bits_Mul64.calls (a0 : Int) (a1 : Int) (r1 : Int) (r2 : Int) (w : World) (h : bits_Mul64.f a0 a1 = some (r1, r2)) :
    Calls Tryd.prog 134 #[.int .u64 a0, .int .u64 a1] w fun e w' => e = .returned (.tuple #[.int .u64 r1, .int .u64 r2]) ∧ Drawn0 w w' := by
  unfold bits_Mul64.f at h
  split at h
  · rename_i hb
    simp only [Option.some.injEq, Prod.mk.injEq] at h
    obtain ⟨rfl, rfl⟩ := h
    obtain ⟨h1, h2, h3, h4⟩ := hb
    obtain ⟨x, rfl⟩ := Int.eq_ofNat_of_zero_le h1
    obtain ⟨y, rfl⟩ := Int.eq_ofNat_of_zero_le h3
    refine (Lay.bits_Mul64 x y (by omega) (by omega) w).mono fun _ _ ⟨he, hw⟩ => ⟨?_, hw ▸ Drawn0.refl _⟩
    rw [he, Int.natCast_ediv, Int.natCast_emod, Int.natCast_mul]
    rfl
  · cases h
end Go.Proofs.YtpnkcjnemoompaaDoor.Ext
