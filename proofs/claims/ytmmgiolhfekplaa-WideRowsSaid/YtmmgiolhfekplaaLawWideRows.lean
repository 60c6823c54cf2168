/- For every row of at most 20 numbers of 128 bits (a longer one is let pass by the law itself) and every byte, without a condition: the sum of a row doesn't hang on its order, nor on how it is parted. -/
import Derived.Test.YtmmgiolhfekplaaRows
import Derived.Test.YtmmgiolhfekplaaPureWideRows
import Derived.WalkKit
import Derived.ProofKit
import Derived.OpenShut
import Derived.ShutString
import Derived.ChangeOld
import Derived.Below
import Derived.SizedLaws
import Derived.Deep.SlicePairs
namespace Go.Proofs.Ytmmgiolhfekplaa.wideRows
open Go.ChangeShapes Go.WideShapes Go.ChangeAt Go.RowKit Go.Deep Go.Proofs.Ytmmgiolhfekplaa.PWide Go.Proofs.YtmmgiolhfekplaaW.PrintWords
open Go.ChangeMaps (open_string shut_string)
set_option linter.unusedVariables false
theorem own : ownKnob Try.prog.godebug = none := by kernel_rfl
theorem laidOut : laidOutB Try.prog = true := by kernel_rfl
/-- A value's number. -/
def iv : Value → Int
  | .int _ n => n
  | _ => 0
theorem open_wides {H : Type} {enc : TypeId × Value → H} {W : World} {base : Nat} {spare : Nat → Bool} {held : Bool} {a0 : Option Addr} {len0 cap0 : Nat} {d : DataW H} {p : List MemPlace}
    (h : DataW.Trod enc Try.prog W base spare held 45 (.slice a0 len0 cap0) d p) : ∃ l : List S40, l.length = len0 ∧ len0 ≤ cap0 ∧ Kd.C k40 W a0 l.length l ∧ ∀ x ∈ l, Pure.Fits x := by
  obtain ⟨fuel, hf⟩ := h
  rcases open_slice_pairs Try.underlying45 Try.underlying40 (by kernel_rfl) rfl rfl (by kernel_rfl) (by kernel_rfl) hf with ⟨hcs, _⟩ | ⟨a, len, cap, m, n, V0, V1, D0, D1, P0, P1, hcs, _, hlc, hcm, hm, _, hi⟩
  · simp [Value.cells] at hcs
    obtain ⟨rfl, rfl, rfl⟩ := hcs
    exact ⟨[], rfl, Nat.le_refl _, ⟨rfl, by simp, fun h => absurd h (by simp)⟩, fun x hx => absurd hx (by simp)⟩
  · simp [Value.cells] at hcs
    obtain ⟨rfl, rfl, rfl⟩ := hcs
    have hlm : len0 ≤ m := by rw [hm]; split <;> omega
    have each : ∀ i, i < len0 → ∃ x y : Int, V0 i = .int .u64 x ∧ V1 i = .int .u64 y ∧ (Lit.int .u64 x).wf = true ∧ (Lit.int .u64 y).wf = true := by
      intro i hlt
      obtain ⟨_, _, t0, t1⟩ := hi i (by omega)
      obtain ⟨x, e0, _, w0⟩ := DataW.trod_int Try.underlying30 t0
      obtain ⟨y, e1, _, w1⟩ := DataW.trod_int Try.underlying30 t1
      simp only [List.cons.injEq, and_true] at e0 e1
      exact ⟨x, y, e0, e1, w0, w1⟩
    refine ⟨(List.range len0).map fun i => ⟨iv (V0 i), iv (V1 i)⟩, by simp, hlc, ⟨rfl, ?_, fun _ => ⟨a, rfl, fun j q hj => ?_⟩⟩, fun x hx => ?_⟩
    · simp only [List.length_map, List.length_range]
      unfold maxLen at hcm; omega
    · have hjl : j < len0 := by
        have := (List.getElem?_eq_some_iff.1 hj).1
        simpa using this
      have hq : q = ⟨iv (V0 j), iv (V1 j)⟩ := by
        have := hj
        simp [hjl] at this
        exact this.symm
      obtain ⟨x, y, e0, e1, w0, w1⟩ := each j hjl
      obtain ⟨c0, c1, _, _⟩ := hi j (by omega)
      rw [e0] at c0 hq
      rw [e1] at c1 hq
      subst hq
      refine ⟨[.int .u64 x, .int .u64 y], rfl, k40_mk W ⟨x, y⟩, fun i u hu => ?_⟩
      have hsz : k40.sz = 2 := rfl
      rw [hsz]
      rcases i with _ | _ | i
      · simp at hu; subst hu; exact c0
      · simp at hu; subst hu; exact c1
      · simp at hu
    · obtain ⟨i, hi2, rfl⟩ := List.mem_map.1 hx
      obtain ⟨x, y, e0, e1, w0, w1⟩ := each i (List.mem_range.1 hi2)
      have b0 := bounds_u64 w0
      have b1 := bounds_u64 w1
      rw [e0, e1]
      exact ⟨b0.1, b0.2, b1.1, b1.2⟩
set_option maxRecDepth 100000 in
theorem lifted (os : Os) (started : os.Started) (H : Type) (enc : TypeId × Value → H) :
    ReturnsInHanded {} Try.checked os 7 .any (Rows.wideRowsSpec.pre6 enc Try.prog Try.f7 Rows.wideRowsRow.domain false) (Rows.wideRowsSpec.post enc Try.prog Try.f7 false true false false) := by
  refine returnsInHanded_of_change_sized (C := Try.checked) own started (by kernel_rfl) Try.func7
    (ChangeSpec.witness6 (enc := enc) (C := Try.checked) false ⟨#[], #[.slice none 0 0, .int .u8 0], []⟩ 8 (by kernel_rfl) (by kernel_rfl) (by kernel_rfl) (by kernel_rfl)) ?_
  intro W base args ds gs before hval0 hW hcnd hsz0 _
  have hval : ∀ (j : Nat) t v, Try.f7.params[j]? = some t → args[j]? = some v → Value.okWide Try.prog W .any base t v := hval0
  have hW' := hW
  obtain ⟨p, q, hA0, hV, rfl, hfz, hnd⟩ := hW
  have hA : DataW.TrodAll enc Try.prog W 0 (fun _ => true) true Try.f7.params.toList args.toList ds p := hA0
  rw [Try.params7] at hA hval
  obtain ⟨v0, vs0, d0, ds0, p0, q0, hargs, rfl, rfl, h0, r0⟩ := trodAll_cons hA
  obtain ⟨v1, vs1, d1, ds1, p1, q1, rfl, rfl, rfl, h1, r1⟩ := trodAll_cons r0
  obtain ⟨rfl, rfl, rfl⟩ := trodAll_nil r1
  obtain rfl : args = #[v0, v1] := by cases args; simp_all
  obtain ⟨rfl, rfl⟩ := trodVars_none hV
  obtain ⟨a0, len0, cap0, rfl⟩ := okWide_slice Try.underlying45 (hval 0 45 v0 rfl rfl)
  have k0 := h0
  have lt0 : ∀ x ∈ p0, x.block < W.heap.size := by obtain ⟨m, hm⟩ := k0; exact DataW.trod_lt m _ _ _ hm
  obtain ⟨l, hl, hc, hC, hf⟩ := open_wides h0
  obtain ⟨a1, rfl, rfl, rfl, w1⟩ := open_int Try.underlying5 (hval 1 5 v1 rfl rfl) h1
  clear hA0 hval0 hsz0
  have b1 := bounds_u8 w1
  obtain ⟨k, h⟩ := (Pure.WideRows l a1 hf b1.1 b1.2).rounds
  subst hl
  refine (abacistlaw01_WideRows.calls k a0 cap0 l a1 true W hC hc h).mono fun e W' ⟨he, bel⟩ => ?_
  subst he
  exact ⟨_, rfl, _, _, _, [], _, [], hW', trodAll_mk1 (shut_bool Try.underlying4 _), (trodAll_cons_mk (Below.trod laidOut (by kernel_rfl) (of_decide_eq_true (by kernel_rfl)) k0 bel lt0) (trodAll_cons_mk (shut_int Try.underlying5 w1) trodAll_mk0)), rfl, bel.frame _, fun h => by cases h⟩
theorem over : Rows.wideRowsRow.holds Try.pinned (OpenSpec.ofChange Rows.wideRowsSpec) :=
  OpenClaim.holds_of_wide 7 Try.f7 rfl rfl rfl rfl rfl rfl rfl ⟨rfl, rfl, rfl, rfl, rfl⟩ rfl rfl rfl rfl rfl (by kernel_rfl) Try.func7 (by kernel_rfl)
    (of_decide_eq_true (by kernel_rfl)) (by unfold Func.isWrapper; first | (rw [if_pos (by decide +kernel)]; kernel_rfl) | (rw [if_neg (by decide +kernel)]; exact ⟨rfl, rfl⟩))
    (fun os started H enc _ => lifted os started H enc)
theorem proved : Rows.WideRowsSaid := over
#print axioms proved
end Go.Proofs.Ytmmgiolhfekplaa.wideRows
namespace Go.Proofs.Ytmmgiolhfekplaa
theorem wideRows_holds : Rows.WideRowsSaid := wideRows.proved
end Go.Proofs.Ytmmgiolhfekplaa
