import Derived.Test.YtmmgiolhfekplaaProg
import Derived.Test.YtmmgiolhfekplaaWMore
import Derived.WalkKit
import Derived.Shelf.Spec.BitsCarry
import Derived.Test.YtmmgiolhfekplaaShelf
namespace Go.Proofs.Ytmmgiolhfekplaa.Ext
open Go.RowKit Go.Proofs.YtmmgiolhfekplaaW.PrintWords Go.Proofs.Ytmmgiolhfekplaa

theorem add64 (x y c : Int) (hx : 0 ≤ x) (hy : 0 ≤ y) (hc0 : 0 ≤ c) (hc : c ≤ 1) (w : World) :
    (callFunc 43 #[.int .u64 x, .int .u64 y, .int .u64 c]).run Try.prog w =
      .ok (.value (.tuple #[.int .u64 ((x + y + c) % 18446744073709551616), .int .u64 ((x + y + c) / 18446744073709551616)])) w := by
  rw [run_callFunc_extern Try.func43 (by kernel_rfl) (by kernel_rfl) (by kernel_rfl) (e := add64Entry) (by kernel_rfl), run_add64 x y c hx hy hc0 hc]
  simp only [Result.andThen]
theorem sub64 (x y c : Nat) (hc : c ≤ 1) (w : World) :
    (callFunc 48 #[.int .u64 x, .int .u64 y, .int .u64 c]).run Try.prog w =
      .ok (.value (.tuple #[.int .u64 (((x + 18446744073709551616 - y - c) % 18446744073709551616 : Nat) : Int), .int .u64 ((if x < y + c then 1 else 0 : Nat) : Int)])) w := by
  rw [run_callFunc_extern Try.func48 (by kernel_rfl) (by kernel_rfl) (by kernel_rfl) (e := sub64Entry) (by kernel_rfl), run_sub64 x y c hc]
  simp only [Result.andThen]
def wide_Add.f (a0 a1 b0 b1 : Int) : Option (Int × Int × Int) :=
  if 0 ≤ a0 ∧ 0 ≤ a1 ∧ 0 ≤ b0 ∧ 0 ≤ b1 ∧ a1 < 18446744073709551616 ∧ b1 < 18446744073709551616 then
    some ((a0 + b0 + (a1 + b1) / 18446744073709551616) % 18446744073709551616, (a1 + b1) % 18446744073709551616, (a0 + b0 + (a1 + b1) / 18446744073709551616) / 18446744073709551616)
  else none
set_option maxHeartbeats 1000000 in
theorem wide_Add.calls (a0_0 : Int) (a0_1 : Int) (a1_0 : Int) (a1_1 : Int) (r1 : Int) (r2 : Int) (r3 : Int) (w : World) (h : wide_Add.f a0_0 a0_1 a1_0 a1_1 = some (r1, r2, r3)) :
    Calls Try.prog 23 #[.agg #[.int .u64 a0_0, .int .u64 a0_1], .agg #[.int .u64 a1_0, .int .u64 a1_1]] w fun e w' => e = .returned (.tuple #[.agg #[.int .u64 r1, .int .u64 r2], .int .u64 r3]) ∧ Below w.heap.size w w' := by
  unfold wide_Add.f at h
  split at h
  · rename_i hb
    obtain ⟨h1, h2, h3, h4, h5, h6⟩ := hb
    simp only [Option.some.injEq, Prod.mk.injEq] at h
    obtain ⟨rfl, rfl, rfl⟩ := h
    have e1 := fun w => add64 a0_1 a1_1 0 h2 h4 (by omega) (by omega) w
    simp only [Int.add_zero] at e1
    have e2 := fun w => add64 a0_0 a1_0 ((a0_1 + a1_1) / 18446744073709551616) h1 h3 (by omega) (by omega) w
    clear h5 h6
    go_enter Try.func23, Try.ntmps23
    go_wp2_with (simp only [e1, e2])
    refine bodyPost_ret (v := .tuple #[.agg #[.int .u64 ((a0_0 + a1_0 + (a0_1 + a1_1) / 18446744073709551616) % 18446744073709551616), .int .u64 ((a0_1 + a1_1) % 18446744073709551616)], .int .u64 ((a0_0 + a1_0 + (a0_1 + a1_1) / 18446744073709551616) / 18446744073709551616)]) (by simp [results, Try.results23, go_sem]) rfl ⟨rfl, ?_⟩
    exact below_alloc (below_alloc (below_alloc (Below.refl _ _) _) _) _
  · cases h
def bor (x y : Int) : Int := if x < y then 1 else 0
def wide_Sub.f (a0 a1 b0 b1 : Int) : Option (Int × Int × Int) :=
  if 0 ≤ a0 ∧ 0 ≤ a1 ∧ 0 ≤ b0 ∧ 0 ≤ b1 ∧ a0 < 18446744073709551616 ∧ a1 < 18446744073709551616 ∧ b0 < 18446744073709551616 ∧ b1 < 18446744073709551616 then
    some ((a0 - b0 - bor a1 b1) % 18446744073709551616, (a1 - b1) % 18446744073709551616, bor a0 (b0 + bor a1 b1))
  else none
theorem sub64' (x y c : Int) (hx : 0 ≤ x) (hy : 0 ≤ y) (hc0 : 0 ≤ c) (hc : c ≤ 1) (hy2 : y < 18446744073709551616) (w : World) :
    (callFunc 48 #[.int .u64 x, .int .u64 y, .int .u64 c]).run Try.prog w =
      .ok (.value (.tuple #[.int .u64 ((x - y - c) % 18446744073709551616), .int .u64 (bor x (y + c))])) w := by
  obtain ⟨X, rfl⟩ := Int.eq_ofNat_of_zero_le hx
  obtain ⟨Y, rfl⟩ := Int.eq_ofNat_of_zero_le hy
  obtain ⟨C, rfl⟩ := Int.eq_ofNat_of_zero_le hc0
  rw [sub64 X Y C (by omega) w]
  have e1 : (((X + 18446744073709551616 - Y - C) % 18446744073709551616 : Nat) : Int) = ((X : Int) - Y - C) % 18446744073709551616 := by omega
  have e2 : (((if X < Y + C then 1 else 0 : Nat)) : Int) = bor (X : Int) ((Y : Int) + C) := by
    unfold bor
    split
    · rw [if_pos (by omega)]; rfl
    · rw [if_neg (by omega)]; rfl
  rw [e1, e2]
theorem bor_range (x y : Int) : 0 ≤ bor x y ∧ bor x y ≤ 1 := by unfold bor; split <;> omega
set_option maxHeartbeats 1000000 in
theorem wide_Sub.calls (a0_0 : Int) (a0_1 : Int) (a1_0 : Int) (a1_1 : Int) (r1 : Int) (r2 : Int) (r3 : Int) (w : World) (h : wide_Sub.f a0_0 a0_1 a1_0 a1_1 = some (r1, r2, r3)) :
    Calls Try.prog 34 #[.agg #[.int .u64 a0_0, .int .u64 a0_1], .agg #[.int .u64 a1_0, .int .u64 a1_1]] w fun e w' => e = .returned (.tuple #[.agg #[.int .u64 r1, .int .u64 r2], .int .u64 r3]) ∧ Below w.heap.size w w' := by
  unfold wide_Sub.f at h
  split at h
  · rename_i hb
    obtain ⟨h1, h2, h3, h4, h5, h6, h7, h8⟩ := hb
    simp only [Option.some.injEq, Prod.mk.injEq] at h
    obtain ⟨rfl, rfl, rfl⟩ := h
    have e1 := fun w => sub64' a0_1 a1_1 0 h2 h4 (by omega) (by omega) h8 w
    simp only [Int.sub_zero, Int.add_zero] at e1
    have hr := bor_range a0_1 a1_1
    generalize bor a0_1 a1_1 = bb at *
    have e2 := fun w => sub64' a0_0 a1_0 bb h1 h3 hr.1 hr.2 h7 w
    generalize bor a0_0 (a1_0 + bb) = bc at *
    clear h5 h6 h7 h8
    go_enter Try.func34, Try.ntmps34
    go_wp2_with (simp only [e1, e2])
    refine bodyPost_ret (v := .tuple #[.agg #[.int .u64 ((a0_0 - a1_0 - bb) % 18446744073709551616), .int .u64 ((a0_1 - a1_1) % 18446744073709551616)], .int .u64 bc]) (by simp [results, Try.results34, go_sem]) rfl ⟨rfl, ?_⟩
    exact below_alloc (below_alloc (below_alloc (Below.refl _ _) _) _) _
  · cases h
def bits_Len64.f (x : Int) : Option Int := if 0 ≤ x ∧ x ≤ 18446744073709551615 then some ((Lib.bitLen x.toNat : Nat) : Int) else none
theorem bits_Len64.calls (a0 : Int) (r : Int) (w : World) (h : bits_Len64.f a0 = some r) :
    Calls Try.prog 46 #[.int .u64 a0] w fun e w' => e = .returned (.int .i64 r) ∧ Drawn0 w w' := by
  unfold bits_Len64.f at h
  split at h
  · rename_i hb
    simp only [Option.some.injEq] at h
    subst h
    exact (Lay.bits_Len64 a0 w hb.1 hb.2).mono fun _ _ ⟨he, hw⟩ => ⟨he, hw ▸ Drawn0.refl _⟩
  · cases h
def bits_Mul64.f (x y : Int) : Option (Int × Int) := if 0 ≤ x ∧ x ≤ 18446744073709551615 ∧ 0 ≤ y ∧ y ≤ 18446744073709551615 then some (x * y / 18446744073709551616, x * y % 18446744073709551616) else none
theorem bits_Mul64.calls (a0 : Int) (a1 : Int) (r1 : Int) (r2 : Int) (w : World) (h : bits_Mul64.f a0 a1 = some (r1, r2)) :
    Calls Try.prog 42 #[.int .u64 a0, .int .u64 a1] w fun e w' => e = .returned (.tuple #[.int .u64 r1, .int .u64 r2]) ∧ Drawn0 w w' := by
  unfold bits_Mul64.f at h
  split at h
  · rename_i hb
    simp only [Option.some.injEq, Prod.mk.injEq] at h
    obtain ⟨rfl, rfl⟩ := h
    obtain ⟨h1, h2, h3, h4⟩ := hb
    obtain ⟨x, rfl⟩ := Int.eq_ofNat_of_zero_le h1
    obtain ⟨y, rfl⟩ := Int.eq_ofNat_of_zero_le h3
    refine (Lay.bits_Mul64 x y (by omega) (by omega) w).mono fun _ _ ⟨he, hw⟩ => ⟨?_, hw ▸ Drawn0.refl _⟩
    rw [he, Int.natCast_ediv, Int.natCast_emod, Int.natCast_mul]
    rfl
  · cases h
end Go.Proofs.Ytmmgiolhfekplaa.Ext
