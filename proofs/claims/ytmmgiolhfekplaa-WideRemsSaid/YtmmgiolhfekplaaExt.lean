import Derived.Test.YtmmgiolhfekplaaExtA
import Derived.Test.YtmmgiolhfekplaaPDiv64x1
namespace Go.Proofs.Ytmmgiolhfekplaa.Ext
open Go.RowKit Go.Proofs.YtmmgiolhfekplaaW.PrintWords Go.Proofs.YtmmgiolhfekplaaW.PrintLast Go.Proofs.Ytmmgiolhfekplaa.PDiv64
set_option linter.unusedVariables false

def wide_Rem.f (k : Nat) (a0_0 : Int) (a0_1 : Int) (a1 : Int) : Option (Int × Int × Int × Int) :=
  if a1 = 0 then some (0, 0, 0, 13) else (bits_Div64.f k 0 a0_0 a1).bind fun t => (bits_Div64.f k t.2 a0_1 a1).bind fun u => some (t.1, u.1, u.2, 0)
theorem wide_Rem.mono : ∀ a0 a1 a2 k, LeO (wide_Rem.f k a0 a1 a2) (wide_Rem.f (k + 1) a0 a1 a2) := by
  intro a0 a1 a2 k
  unfold wide_Rem.f
  refine LeO.ite (LeO.refl _) (LeO.bind (bits_Div64.mono _ _ _ _) fun t => LeO.bind (bits_Div64.mono _ _ _ _) fun u => LeO.refl _)
set_option maxHeartbeats 1000000 in
theorem wide_Rem.calls (k : Nat) (a0_0 : Int) (a0_1 : Int) (a1 : Int) (r1 : Int) (r2 : Int) (r3 : Int) (r4 : Int) (w : World) (h : wide_Rem.f k a0_0 a0_1 a1 = some (r1, r2, r3, r4)) :
    Calls Try.prog 31 #[.agg #[.int .u64 a0_0, .int .u64 a0_1], .int .u64 a1] w fun e w' => e = .returned (.tuple #[.agg #[.int .u64 r1, .int .u64 r2], .int .u64 r3, .int .i64 r4]) ∧ Below w.heap.size w w' := by
  unfold wide_Rem.f at h
  by_cases c : a1 = 0
  · rw [if_pos c] at h
    subst c
    simp only [Option.some.injEq, Prod.mk.injEq] at h
    obtain ⟨rfl, rfl, rfl, rfl⟩ := h
    go_enter Try.func31, Try.ntmps31
    go_wp2
    refine bodyPost_ret (v := .tuple #[.agg #[.int .u64 0, .int .u64 0], .int .u64 0, .int .i64 13]) (by simp [results, Try.results31, go_sem]) rfl ⟨rfl, ?_⟩
    exact below_alloc (below_alloc (Below.refl _ _) _) _
  · rw [if_neg c] at h
    obtain ⟨⟨t1, t2⟩, h1, h⟩ := Option.bind_eq_some_iff.mp h
    obtain ⟨⟨u1, u2⟩, h2, h⟩ := Option.bind_eq_some_iff.mp h
    simp only [Option.some.injEq, Prod.mk.injEq] at h
    obtain ⟨rfl, rfl, rfl, rfl⟩ := h
    have A1 := Aside0.mk h1
    have A2 := Aside0.mk h2
    clear h1 h2
    have c0 : (a1 == 0) = false := beq_eq_false_iff_ne.mpr c
    clear c
    go_enter Try.func31, Try.ntmps31
    go_wp2_with fail
    refine (bits_Div64.calls k 0 a0_0 a1 t1 t2 _ A1.out).mono ?_
    rintro e w1 ⟨rfl, ⟨n1, rfl⟩⟩
    go_wp2_with fail
    refine (bits_Div64.calls k t2 a0_1 a1 u1 u2 _ A2.out).mono ?_
    rintro e w2 ⟨rfl, ⟨n2, rfl⟩⟩
    go_wp2_with fail
    refine bodyPost_ret (results_ctt rfl _ _ (w.heap.size + 1) 40 #[.int .u64 t1, .int .u64 u1] (0, 0) _ rfl ?_ Try.underlying40 rfl (by kernel_rfl)) rfl ⟨rfl, ?_⟩
    · refine blk_put (cs := #[.int .u64 t1, .int .u64 u1]) ?_ 1 _ rfl
      refine blk_put (cs := #[.int .u64 t1, .int .u64 u1]) ?_ 0 _ rfl
      refine blk_put (cs := #[.int .u64 t1, .int .u64 0]) ?_ 1 _ rfl
      refine blk_drewN ?_ _
      refine blk_put (cs := #[.int .u64 0, .int .u64 0]) ?_ 0 _ rfl
      refine blk_drewN ?_ _
      have h := blk_new (w.alloc (Obj.cells #[Value.int IntKind.u64 a0_0, Value.int IntKind.u64 a0_1] 40)) (Obj.cells #[Value.int IntKind.u64 0, Value.int IntKind.u64 0] 40)
      simpa using h
    · have hs : w.heap.size ≤ w.heap.size + 1 := by omega
      exact below_set (below_set (below_set (pw_below_drewN (below_set (pw_below_drewN (below_alloc (below_alloc (Below.refl _ _) _) _) _) hs) _) hs) hs) hs
end Go.Proofs.Ytmmgiolhfekplaa.Ext
