/- What any pass makes of any words is as the document says (a row of more than 64 words is let pass by the law itself): for every row and pass, without a condition beside the library's and the program's tables, which the card ties. -/
import Derived.Test.YtpnkcjnemoompaaGreatDoorRows
import Derived.Test.YtpnkcjnemoompaaGreatDoorCards
import Derived.Test.YtpnkcjnemoompaaGreatDoorTie
import Derived.Test.YtpnkcjnemoompaaGreatDoorPa7
import Derived.WalkKit
import Derived.ProofKit
import Derived.OpenShut
import Derived.ShutString
import Derived.ChangeOld
import Derived.Below
import Derived.SizedLaws
import Derived.Lib.SmallJoins
import Derived.LaidMore
import Derived.Lay
import Derived.SevenTiedAt
import Derived.Stop.Joined
import Derived.Stop.LaidErr
import Derived.Lib.LaidTab
namespace Go.Proofs.YtpnkcjnemoompaaGreatDoor.planApplies
open Go.ChangeShapes Go.WideShapes Go.ChangeAt Go.RowKit Go.Joins
open Go.ChangeMaps (open_string shut_string)
set_option linter.unusedVariables false
set_option linter.unusedSimpArgs false
theorem own : ownKnob Tryz.prog.godebug = none := by kernel_rfl
theorem cells32 : Tryz.prog.cellsOf 32 = 2 := by kernel_rfl
theorem cells35 : Tryz.prog.cellsOf 35 = 5 := by kernel_rfl
theorem cells37 : Tryz.prog.cellsOf 37 = 8 := by kernel_rfl
theorem cellsq3 : Tryz.prog.cellsOf 3 = 1 := by kernel_rfl
theorem cellsq32 : Tryz.prog.cellsOf 32 = 2 := by kernel_rfl
theorem cellsq33 : Tryz.prog.cellsOf 33 = 1 := by kernel_rfl
theorem cellsq35 : Tryz.prog.cellsOf 35 = 5 := by kernel_rfl
theorem cellsq37 : Tryz.prog.cellsOf 37 = 8 := by kernel_rfl
theorem laidOut : laidOutB Tryz.prog = true := by kernel_rfl
def IsRow (k : IntKind) (w : World) (a : Option Addr) (len cap : Nat) (zs : List Int) : Prop :=
  (a = none ∧ len = 0 ∧ cap = 0 ∧ zs = []) ∨
  ∃ x, a = some x ∧ len ≤ cap ∧ cap ≤ maxLen ∧ zs.length = cap ∧ (∀ i, i < zs.length → w.cell? (x.add i) = some (.int k (zs.getD i 0))) ∧ ∀ n ∈ zs, (Lit.int k n).wf = true
theorem trod_word {H : Type} {enc : TypeId × Value → H} {P : Program} {w : World} {base : Nat} {spare : Nat → Bool} {held : Bool} {t : TypeId} {k : IntKind} {n : Int} (ht : P.underlying t = some (.int k)) (hw : (Lit.int k n).wf = true) : ∃ m, DataW.trod enc P w base spare held m t [.int k n] = some (.lit (.int k n), []) := ⟨1, by simp [DataW.trod, ht, hw]⟩
theorem list_2 {α : Type} {l : List α} (h : l.length = 2) : ∃ c0 c1, l = [c0, c1] := by
  match l, h with
  | [c0, c1], _ => exact ⟨c0, c1, rfl⟩
theorem list_4 {α : Type} {l : List α} (h : l.length = 4) : ∃ c0 c1 c2 c3, l = [c0, c1, c2, c3] := by
  match l, h with
  | [c0, c1, c2, c3], _ => exact ⟨c0, c1, c2, c3, rfl⟩
theorem list_5 {α : Type} {l : List α} (h : l.length = 5) : ∃ c0 c1 c2 c3 c4, l = [c0, c1, c2, c3, c4] := by
  match l, h with
  | [c0, c1, c2, c3, c4], _ => exact ⟨c0, c1, c2, c3, c4, rfl⟩
theorem list_8 {α : Type} {l : List α} (h : l.length = 8) : ∃ c0 c1 c2 c3 c4 c5 c6 c7, l = [c0, c1, c2, c3, c4, c5, c6, c7] := by
  match l, h with
  | [c0, c1, c2, c3, c4, c5, c6, c7], _ => exact ⟨c0, c1, c2, c3, c4, c5, c6, c7, rfl⟩
theorem cut32 {H : Type} {enc : TypeId × Value → H} {P : Program} {w : World} {base : Nat} {spare : Nat → Bool} {held : Bool} {f32_0 f32_1 : Field} (U3 : P.underlying 3 = some (.int .i64)) (C3 : P.cellsOf 3 = 1) (S32 : P.underlying 32 = some (.struct #[f32_0, f32_1])) (C32 : P.cellsOf 32 = 2) (q32_0 : f32_0.type = 3 ∧ f32_0.offset = 0) (q32_1 : f32_1.type = 3 ∧ f32_1.offset = 1) {fuel : Nat} {cs : List Value} {x : DataW H × List MemPlace} (h : DataW.trod enc P w base spare held fuel 32 cs = some x) : ∃ a0 a1 : Int, cs = [.int .i64 a0, .int .i64 a1] ∧ x = (.agg [.lit (.int .i64 a0), .lit (.int .i64 a1)], []) ∧ (Lit.int .i64 a0).wf = true ∧ (Lit.int .i64 a1).wf = true := by
  obtain ⟨xs, n, rfl, rfl, hl, hlen, hf⟩ := DataW.trod_struct S32 h
  obtain ⟨c0, c1, rfl⟩ := list_2 (hl.trans C32)
  obtain ⟨y0, y1, rfl⟩ := list_2 (show xs.length = 2 from hlen)
  have h0 : DataW.trod enc P w base spare held n 3 [c0] = some y0 := by
    have := hf 0 _ rfl
    simpa [q32_0.1, q32_0.2, C3] using this
  obtain ⟨a0, e0, rfl, w0⟩ := DataW.trod_int U3 h0
  simp only [List.cons.injEq, and_true] at e0
  subst e0
  have h1 : DataW.trod enc P w base spare held n 3 [c1] = some y1 := by
    have := hf 1 _ rfl
    simpa [q32_1.1, q32_1.2, C3] using this
  obtain ⟨a1, e1, rfl, w1⟩ := DataW.trod_int U3 h1
  simp only [List.cons.injEq, and_true] at e1
  subst e1
  exact ⟨_, _, rfl, rfl, w0, w1⟩
theorem mk32 {H : Type} {enc : TypeId × Value → H} {P : Program} {w : World} {base : Nat} {spare : Nat → Bool} {held : Bool} {f32_0 f32_1 : Field} (U3 : P.underlying 3 = some (.int .i64)) (C3 : P.cellsOf 3 = 1) (S32 : P.underlying 32 = some (.struct #[f32_0, f32_1])) (C32 : P.cellsOf 32 = 2) (q32_0 : f32_0.type = 3 ∧ f32_0.offset = 0) (q32_1 : f32_1.type = 3 ∧ f32_1.offset = 1) {a0 a1 : Int} (w0 : (Lit.int .i64 a0).wf = true) (w1 : (Lit.int .i64 a1).wf = true) : ∃ m, DataW.trod enc P w base spare held m 32 [.int .i64 a0, .int .i64 a1] = some (.agg [.lit (.int .i64 a0), .lit (.int .i64 a1)], []) := by
  obtain ⟨m0, t0⟩ := trod_word (enc := enc) (w := w) (base := base) (spare := spare) (held := held) U3 w0
  obtain ⟨m1, t1⟩ := trod_word (enc := enc) (w := w) (base := base) (spare := spare) (held := held) U3 w1
  have u0 := DataW.trod_le (show m0 ≤ m0 + m1 by omega) t0
  have u1 := DataW.trod_le (show m1 ≤ m0 + m1 by omega) t1
  exact ⟨_, by simpa using trod_struct_mk (n := m0 + m1) S32 (by rw [C32]; rfl) (xs := [(.lit (.int .i64 a0), []), (.lit (.int .i64 a1), [])]) (by simp [q32_0.1, q32_0.2, u0, q32_1.1, q32_1.2, u1, C3])⟩
theorem open32 {H : Type} {enc : TypeId × Value → H} {P : Program} {w : World} {base : Nat} {spare : Nat → Bool} {held : Bool} {f32_0 f32_1 : Field} (U3 : P.underlying 3 = some (.int .i64)) (C3 : P.cellsOf 3 = 1) (S32 : P.underlying 32 = some (.struct #[f32_0, f32_1])) (C32 : P.cellsOf 32 = 2) (q32_0 : f32_0.type = 3 ∧ f32_0.offset = 0) (q32_1 : f32_1.type = 3 ∧ f32_1.offset = 1) {r : Reach} {b0 : Nat} {v : Value} {d : DataW H} {p : List MemPlace} (hv : Value.okWide P w r b0 32 v) (h : DataW.Trod enc P w base spare held 32 v d p) : ∃ a0 a1 : Int, v = .agg #[.int .i64 a0, .int .i64 a1] ∧ d = .agg [.lit (.int .i64 a0), .lit (.int .i64 a1)] ∧ p = [] ∧ (Lit.int .i64 a0).wf = true ∧ (Lit.int .i64 a1).wf = true := by
  obtain ⟨cs, rfl, hsz⟩ := okWide_struct S32 hv
  obtain ⟨fuel, hf⟩ := h
  obtain ⟨a0, a1, e, hx, w0, w1⟩ := cut32 U3 C3 S32 C32 q32_0 q32_1 hf
  simp only [Prod.mk.injEq] at hx
  have e2 : cs = #[.int .i64 a0, .int .i64 a1] := by
    have e3 : cs.toList = [.int .i64 a0, .int .i64 a1] := by simpa [Value.cells] using e
    exact Array.ext' (by simpa using e3)
  subst e2
  exact ⟨a0, a1, rfl, hx.1, hx.2, w0, w1⟩
theorem shut32 {H : Type} {enc : TypeId × Value → H} {P : Program} {w : World} {base : Nat} {spare : Nat → Bool} {held : Bool} {f32_0 f32_1 : Field} (U3 : P.underlying 3 = some (.int .i64)) (C3 : P.cellsOf 3 = 1) (S32 : P.underlying 32 = some (.struct #[f32_0, f32_1])) (C32 : P.cellsOf 32 = 2) (q32_0 : f32_0.type = 3 ∧ f32_0.offset = 0) (q32_1 : f32_1.type = 3 ∧ f32_1.offset = 1) {a0 a1 : Int} (w0 : (Lit.int .i64 a0).wf = true) (w1 : (Lit.int .i64 a1).wf = true) : DataW.Trod enc P w base spare held 32 (.agg #[.int .i64 a0, .int .i64 a1]) (.agg [.lit (.int .i64 a0), .lit (.int .i64 a1)]) [] := by
  obtain ⟨m, t⟩ := mk32 (enc := enc) (w := w) (base := base) (spare := spare) (held := held) U3 C3 S32 C32 q32_0 q32_1 w0 w1
  exact ⟨m, by simpa [Value.cells] using t⟩
theorem cut35 {H : Type} {enc : TypeId × Value → H} {P : Program} {w : World} {base : Nat} {spare : Nat → Bool} {held : Bool} {f32_0 f32_1 f35_0 f35_1 f35_2 f35_3 : Field} (U3 : P.underlying 3 = some (.int .i64)) (C3 : P.cellsOf 3 = 1) (S32 : P.underlying 32 = some (.struct #[f32_0, f32_1])) (C32 : P.cellsOf 32 = 2) (q32_0 : f32_0.type = 3 ∧ f32_0.offset = 0) (q32_1 : f32_1.type = 3 ∧ f32_1.offset = 1) (U33 : P.underlying 33 = some (.int .u64)) (C33 : P.cellsOf 33 = 1) (S35 : P.underlying 35 = some (.struct #[f35_0, f35_1, f35_2, f35_3])) (C35 : P.cellsOf 35 = 5) (q35_0 : f35_0.type = 32 ∧ f35_0.offset = 0) (q35_1 : f35_1.type = 3 ∧ f35_1.offset = 2) (q35_2 : f35_2.type = 3 ∧ f35_2.offset = 3) (q35_3 : f35_3.type = 33 ∧ f35_3.offset = 4) {fuel : Nat} {cs : List Value} {x : DataW H × List MemPlace} (h : DataW.trod enc P w base spare held fuel 35 cs = some x) : ∃ a0 a1 a2 a3 a4 : Int, cs = [.int .i64 a0, .int .i64 a1, .int .i64 a2, .int .i64 a3, .int .u64 a4] ∧ x = (.agg [.agg [.lit (.int .i64 a0), .lit (.int .i64 a1)], .lit (.int .i64 a2), .lit (.int .i64 a3), .lit (.int .u64 a4)], []) ∧ (Lit.int .i64 a0).wf = true ∧ (Lit.int .i64 a1).wf = true ∧ (Lit.int .i64 a2).wf = true ∧ (Lit.int .i64 a3).wf = true ∧ (Lit.int .u64 a4).wf = true := by
  obtain ⟨xs, n, rfl, rfl, hl, hlen, hf⟩ := DataW.trod_struct S35 h
  obtain ⟨c0, c1, c2, c3, c4, rfl⟩ := list_5 (hl.trans C35)
  obtain ⟨y0, y1, y2, y3, rfl⟩ := list_4 (show xs.length = 4 from hlen)
  have h0 : DataW.trod enc P w base spare held n 32 [c0, c1] = some y0 := by
    have := hf 0 _ rfl
    simpa [q35_0.1, q35_0.2, C32] using this
  obtain ⟨a0, a1, e0, rfl, w0, w1⟩ := cut32 U3 C3 S32 C32 q32_0 q32_1 h0
  simp only [List.cons.injEq, and_true] at e0
  obtain ⟨rfl, rfl⟩ := e0
  have h1 : DataW.trod enc P w base spare held n 3 [c2] = some y1 := by
    have := hf 1 _ rfl
    simpa [q35_1.1, q35_1.2, C3] using this
  obtain ⟨a2, e1, rfl, w2⟩ := DataW.trod_int U3 h1
  simp only [List.cons.injEq, and_true] at e1
  subst e1
  have h2 : DataW.trod enc P w base spare held n 3 [c3] = some y2 := by
    have := hf 2 _ rfl
    simpa [q35_2.1, q35_2.2, C3] using this
  obtain ⟨a3, e2, rfl, w3⟩ := DataW.trod_int U3 h2
  simp only [List.cons.injEq, and_true] at e2
  subst e2
  have h3 : DataW.trod enc P w base spare held n 33 [c4] = some y3 := by
    have := hf 3 _ rfl
    simpa [q35_3.1, q35_3.2, C33] using this
  obtain ⟨a4, e3, rfl, w4⟩ := DataW.trod_int U33 h3
  simp only [List.cons.injEq, and_true] at e3
  subst e3
  exact ⟨_, _, _, _, _, rfl, rfl, w0, w1, w2, w3, w4⟩
theorem mk35 {H : Type} {enc : TypeId × Value → H} {P : Program} {w : World} {base : Nat} {spare : Nat → Bool} {held : Bool} {f32_0 f32_1 f35_0 f35_1 f35_2 f35_3 : Field} (U3 : P.underlying 3 = some (.int .i64)) (C3 : P.cellsOf 3 = 1) (S32 : P.underlying 32 = some (.struct #[f32_0, f32_1])) (C32 : P.cellsOf 32 = 2) (q32_0 : f32_0.type = 3 ∧ f32_0.offset = 0) (q32_1 : f32_1.type = 3 ∧ f32_1.offset = 1) (U33 : P.underlying 33 = some (.int .u64)) (C33 : P.cellsOf 33 = 1) (S35 : P.underlying 35 = some (.struct #[f35_0, f35_1, f35_2, f35_3])) (C35 : P.cellsOf 35 = 5) (q35_0 : f35_0.type = 32 ∧ f35_0.offset = 0) (q35_1 : f35_1.type = 3 ∧ f35_1.offset = 2) (q35_2 : f35_2.type = 3 ∧ f35_2.offset = 3) (q35_3 : f35_3.type = 33 ∧ f35_3.offset = 4) {a0 a1 a2 a3 a4 : Int} (w0 : (Lit.int .i64 a0).wf = true) (w1 : (Lit.int .i64 a1).wf = true) (w2 : (Lit.int .i64 a2).wf = true) (w3 : (Lit.int .i64 a3).wf = true) (w4 : (Lit.int .u64 a4).wf = true) : ∃ m, DataW.trod enc P w base spare held m 35 [.int .i64 a0, .int .i64 a1, .int .i64 a2, .int .i64 a3, .int .u64 a4] = some (.agg [.agg [.lit (.int .i64 a0), .lit (.int .i64 a1)], .lit (.int .i64 a2), .lit (.int .i64 a3), .lit (.int .u64 a4)], []) := by
  obtain ⟨m0, t0⟩ := mk32 (enc := enc) (w := w) (base := base) (spare := spare) (held := held) U3 C3 S32 C32 q32_0 q32_1 w0 w1
  obtain ⟨m1, t1⟩ := trod_word (enc := enc) (w := w) (base := base) (spare := spare) (held := held) U3 w2
  obtain ⟨m2, t2⟩ := trod_word (enc := enc) (w := w) (base := base) (spare := spare) (held := held) U3 w3
  obtain ⟨m3, t3⟩ := trod_word (enc := enc) (w := w) (base := base) (spare := spare) (held := held) U33 w4
  have u0 := DataW.trod_le (show m0 ≤ m0 + m1 + m2 + m3 by omega) t0
  have u1 := DataW.trod_le (show m1 ≤ m0 + m1 + m2 + m3 by omega) t1
  have u2 := DataW.trod_le (show m2 ≤ m0 + m1 + m2 + m3 by omega) t2
  have u3 := DataW.trod_le (show m3 ≤ m0 + m1 + m2 + m3 by omega) t3
  exact ⟨_, by simpa using trod_struct_mk (n := m0 + m1 + m2 + m3) S35 (by rw [C35]; rfl) (xs := [(.agg [.lit (.int .i64 a0), .lit (.int .i64 a1)], []), (.lit (.int .i64 a2), []), (.lit (.int .i64 a3), []), (.lit (.int .u64 a4), [])]) (by simp [q35_0.1, q35_0.2, u0, q35_1.1, q35_1.2, u1, q35_2.1, q35_2.2, u2, q35_3.1, q35_3.2, u3, C3, C32, C33])⟩
theorem open35 {H : Type} {enc : TypeId × Value → H} {P : Program} {w : World} {base : Nat} {spare : Nat → Bool} {held : Bool} {f32_0 f32_1 f35_0 f35_1 f35_2 f35_3 : Field} (U3 : P.underlying 3 = some (.int .i64)) (C3 : P.cellsOf 3 = 1) (S32 : P.underlying 32 = some (.struct #[f32_0, f32_1])) (C32 : P.cellsOf 32 = 2) (q32_0 : f32_0.type = 3 ∧ f32_0.offset = 0) (q32_1 : f32_1.type = 3 ∧ f32_1.offset = 1) (U33 : P.underlying 33 = some (.int .u64)) (C33 : P.cellsOf 33 = 1) (S35 : P.underlying 35 = some (.struct #[f35_0, f35_1, f35_2, f35_3])) (C35 : P.cellsOf 35 = 5) (q35_0 : f35_0.type = 32 ∧ f35_0.offset = 0) (q35_1 : f35_1.type = 3 ∧ f35_1.offset = 2) (q35_2 : f35_2.type = 3 ∧ f35_2.offset = 3) (q35_3 : f35_3.type = 33 ∧ f35_3.offset = 4) {r : Reach} {b0 : Nat} {v : Value} {d : DataW H} {p : List MemPlace} (hv : Value.okWide P w r b0 35 v) (h : DataW.Trod enc P w base spare held 35 v d p) : ∃ a0 a1 a2 a3 a4 : Int, v = .agg #[.int .i64 a0, .int .i64 a1, .int .i64 a2, .int .i64 a3, .int .u64 a4] ∧ d = .agg [.agg [.lit (.int .i64 a0), .lit (.int .i64 a1)], .lit (.int .i64 a2), .lit (.int .i64 a3), .lit (.int .u64 a4)] ∧ p = [] ∧ (Lit.int .i64 a0).wf = true ∧ (Lit.int .i64 a1).wf = true ∧ (Lit.int .i64 a2).wf = true ∧ (Lit.int .i64 a3).wf = true ∧ (Lit.int .u64 a4).wf = true := by
  obtain ⟨cs, rfl, hsz⟩ := okWide_struct S35 hv
  obtain ⟨fuel, hf⟩ := h
  obtain ⟨a0, a1, a2, a3, a4, e, hx, w0, w1, w2, w3, w4⟩ := cut35 U3 C3 S32 C32 q32_0 q32_1 U33 C33 S35 C35 q35_0 q35_1 q35_2 q35_3 hf
  simp only [Prod.mk.injEq] at hx
  have e2 : cs = #[.int .i64 a0, .int .i64 a1, .int .i64 a2, .int .i64 a3, .int .u64 a4] := by
    have e3 : cs.toList = [.int .i64 a0, .int .i64 a1, .int .i64 a2, .int .i64 a3, .int .u64 a4] := by simpa [Value.cells] using e
    exact Array.ext' (by simpa using e3)
  subst e2
  exact ⟨a0, a1, a2, a3, a4, rfl, hx.1, hx.2, w0, w1, w2, w3, w4⟩
theorem shut35 {H : Type} {enc : TypeId × Value → H} {P : Program} {w : World} {base : Nat} {spare : Nat → Bool} {held : Bool} {f32_0 f32_1 f35_0 f35_1 f35_2 f35_3 : Field} (U3 : P.underlying 3 = some (.int .i64)) (C3 : P.cellsOf 3 = 1) (S32 : P.underlying 32 = some (.struct #[f32_0, f32_1])) (C32 : P.cellsOf 32 = 2) (q32_0 : f32_0.type = 3 ∧ f32_0.offset = 0) (q32_1 : f32_1.type = 3 ∧ f32_1.offset = 1) (U33 : P.underlying 33 = some (.int .u64)) (C33 : P.cellsOf 33 = 1) (S35 : P.underlying 35 = some (.struct #[f35_0, f35_1, f35_2, f35_3])) (C35 : P.cellsOf 35 = 5) (q35_0 : f35_0.type = 32 ∧ f35_0.offset = 0) (q35_1 : f35_1.type = 3 ∧ f35_1.offset = 2) (q35_2 : f35_2.type = 3 ∧ f35_2.offset = 3) (q35_3 : f35_3.type = 33 ∧ f35_3.offset = 4) {a0 a1 a2 a3 a4 : Int} (w0 : (Lit.int .i64 a0).wf = true) (w1 : (Lit.int .i64 a1).wf = true) (w2 : (Lit.int .i64 a2).wf = true) (w3 : (Lit.int .i64 a3).wf = true) (w4 : (Lit.int .u64 a4).wf = true) : DataW.Trod enc P w base spare held 35 (.agg #[.int .i64 a0, .int .i64 a1, .int .i64 a2, .int .i64 a3, .int .u64 a4]) (.agg [.agg [.lit (.int .i64 a0), .lit (.int .i64 a1)], .lit (.int .i64 a2), .lit (.int .i64 a3), .lit (.int .u64 a4)]) [] := by
  obtain ⟨m, t⟩ := mk35 (enc := enc) (w := w) (base := base) (spare := spare) (held := held) U3 C3 S32 C32 q32_0 q32_1 U33 C33 S35 C35 q35_0 q35_1 q35_2 q35_3 w0 w1 w2 w3 w4
  exact ⟨m, by simpa [Value.cells] using t⟩
theorem cut37 {H : Type} {enc : TypeId × Value → H} {P : Program} {w : World} {base : Nat} {spare : Nat → Bool} {held : Bool} {f32_0 f32_1 f35_0 f35_1 f35_2 f35_3 f37_0 f37_1 f37_2 f37_3 : Field} (U3 : P.underlying 3 = some (.int .i64)) (C3 : P.cellsOf 3 = 1) (S32 : P.underlying 32 = some (.struct #[f32_0, f32_1])) (C32 : P.cellsOf 32 = 2) (q32_0 : f32_0.type = 3 ∧ f32_0.offset = 0) (q32_1 : f32_1.type = 3 ∧ f32_1.offset = 1) (U33 : P.underlying 33 = some (.int .u64)) (C33 : P.cellsOf 33 = 1) (S35 : P.underlying 35 = some (.struct #[f35_0, f35_1, f35_2, f35_3])) (C35 : P.cellsOf 35 = 5) (q35_0 : f35_0.type = 32 ∧ f35_0.offset = 0) (q35_1 : f35_1.type = 3 ∧ f35_1.offset = 2) (q35_2 : f35_2.type = 3 ∧ f35_2.offset = 3) (q35_3 : f35_3.type = 33 ∧ f35_3.offset = 4) (S37 : P.underlying 37 = some (.struct #[f37_0, f37_1, f37_2, f37_3])) (C37 : P.cellsOf 37 = 8) (q37_0 : f37_0.type = 35 ∧ f37_0.offset = 0) (q37_1 : f37_1.type = 3 ∧ f37_1.offset = 5) (q37_2 : f37_2.type = 3 ∧ f37_2.offset = 6) (q37_3 : f37_3.type = 3 ∧ f37_3.offset = 7) {fuel : Nat} {cs : List Value} {x : DataW H × List MemPlace} (h : DataW.trod enc P w base spare held fuel 37 cs = some x) : ∃ a0 a1 a2 a3 a4 a5 a6 a7 : Int, cs = [.int .i64 a0, .int .i64 a1, .int .i64 a2, .int .i64 a3, .int .u64 a4, .int .i64 a5, .int .i64 a6, .int .i64 a7] ∧ x = (.agg [.agg [.agg [.lit (.int .i64 a0), .lit (.int .i64 a1)], .lit (.int .i64 a2), .lit (.int .i64 a3), .lit (.int .u64 a4)], .lit (.int .i64 a5), .lit (.int .i64 a6), .lit (.int .i64 a7)], []) ∧ (Lit.int .i64 a0).wf = true ∧ (Lit.int .i64 a1).wf = true ∧ (Lit.int .i64 a2).wf = true ∧ (Lit.int .i64 a3).wf = true ∧ (Lit.int .u64 a4).wf = true ∧ (Lit.int .i64 a5).wf = true ∧ (Lit.int .i64 a6).wf = true ∧ (Lit.int .i64 a7).wf = true := by
  obtain ⟨xs, n, rfl, rfl, hl, hlen, hf⟩ := DataW.trod_struct S37 h
  obtain ⟨c0, c1, c2, c3, c4, c5, c6, c7, rfl⟩ := list_8 (hl.trans C37)
  obtain ⟨y0, y1, y2, y3, rfl⟩ := list_4 (show xs.length = 4 from hlen)
  have h0 : DataW.trod enc P w base spare held n 35 [c0, c1, c2, c3, c4] = some y0 := by
    have := hf 0 _ rfl
    simpa [q37_0.1, q37_0.2, C35] using this
  obtain ⟨a0, a1, a2, a3, a4, e0, rfl, w0, w1, w2, w3, w4⟩ := cut35 U3 C3 S32 C32 q32_0 q32_1 U33 C33 S35 C35 q35_0 q35_1 q35_2 q35_3 h0
  simp only [List.cons.injEq, and_true] at e0
  obtain ⟨rfl, rfl, rfl, rfl, rfl⟩ := e0
  have h1 : DataW.trod enc P w base spare held n 3 [c5] = some y1 := by
    have := hf 1 _ rfl
    simpa [q37_1.1, q37_1.2, C3] using this
  obtain ⟨a5, e1, rfl, w5⟩ := DataW.trod_int U3 h1
  simp only [List.cons.injEq, and_true] at e1
  subst e1
  have h2 : DataW.trod enc P w base spare held n 3 [c6] = some y2 := by
    have := hf 2 _ rfl
    simpa [q37_2.1, q37_2.2, C3] using this
  obtain ⟨a6, e2, rfl, w6⟩ := DataW.trod_int U3 h2
  simp only [List.cons.injEq, and_true] at e2
  subst e2
  have h3 : DataW.trod enc P w base spare held n 3 [c7] = some y3 := by
    have := hf 3 _ rfl
    simpa [q37_3.1, q37_3.2, C3] using this
  obtain ⟨a7, e3, rfl, w7⟩ := DataW.trod_int U3 h3
  simp only [List.cons.injEq, and_true] at e3
  subst e3
  exact ⟨_, _, _, _, _, _, _, _, rfl, rfl, w0, w1, w2, w3, w4, w5, w6, w7⟩
theorem mk37 {H : Type} {enc : TypeId × Value → H} {P : Program} {w : World} {base : Nat} {spare : Nat → Bool} {held : Bool} {f32_0 f32_1 f35_0 f35_1 f35_2 f35_3 f37_0 f37_1 f37_2 f37_3 : Field} (U3 : P.underlying 3 = some (.int .i64)) (C3 : P.cellsOf 3 = 1) (S32 : P.underlying 32 = some (.struct #[f32_0, f32_1])) (C32 : P.cellsOf 32 = 2) (q32_0 : f32_0.type = 3 ∧ f32_0.offset = 0) (q32_1 : f32_1.type = 3 ∧ f32_1.offset = 1) (U33 : P.underlying 33 = some (.int .u64)) (C33 : P.cellsOf 33 = 1) (S35 : P.underlying 35 = some (.struct #[f35_0, f35_1, f35_2, f35_3])) (C35 : P.cellsOf 35 = 5) (q35_0 : f35_0.type = 32 ∧ f35_0.offset = 0) (q35_1 : f35_1.type = 3 ∧ f35_1.offset = 2) (q35_2 : f35_2.type = 3 ∧ f35_2.offset = 3) (q35_3 : f35_3.type = 33 ∧ f35_3.offset = 4) (S37 : P.underlying 37 = some (.struct #[f37_0, f37_1, f37_2, f37_3])) (C37 : P.cellsOf 37 = 8) (q37_0 : f37_0.type = 35 ∧ f37_0.offset = 0) (q37_1 : f37_1.type = 3 ∧ f37_1.offset = 5) (q37_2 : f37_2.type = 3 ∧ f37_2.offset = 6) (q37_3 : f37_3.type = 3 ∧ f37_3.offset = 7) {a0 a1 a2 a3 a4 a5 a6 a7 : Int} (w0 : (Lit.int .i64 a0).wf = true) (w1 : (Lit.int .i64 a1).wf = true) (w2 : (Lit.int .i64 a2).wf = true) (w3 : (Lit.int .i64 a3).wf = true) (w4 : (Lit.int .u64 a4).wf = true) (w5 : (Lit.int .i64 a5).wf = true) (w6 : (Lit.int .i64 a6).wf = true) (w7 : (Lit.int .i64 a7).wf = true) : ∃ m, DataW.trod enc P w base spare held m 37 [.int .i64 a0, .int .i64 a1, .int .i64 a2, .int .i64 a3, .int .u64 a4, .int .i64 a5, .int .i64 a6, .int .i64 a7] = some (.agg [.agg [.agg [.lit (.int .i64 a0), .lit (.int .i64 a1)], .lit (.int .i64 a2), .lit (.int .i64 a3), .lit (.int .u64 a4)], .lit (.int .i64 a5), .lit (.int .i64 a6), .lit (.int .i64 a7)], []) := by
  obtain ⟨m0, t0⟩ := mk35 (enc := enc) (w := w) (base := base) (spare := spare) (held := held) U3 C3 S32 C32 q32_0 q32_1 U33 C33 S35 C35 q35_0 q35_1 q35_2 q35_3 w0 w1 w2 w3 w4
  obtain ⟨m1, t1⟩ := trod_word (enc := enc) (w := w) (base := base) (spare := spare) (held := held) U3 w5
  obtain ⟨m2, t2⟩ := trod_word (enc := enc) (w := w) (base := base) (spare := spare) (held := held) U3 w6
  obtain ⟨m3, t3⟩ := trod_word (enc := enc) (w := w) (base := base) (spare := spare) (held := held) U3 w7
  have u0 := DataW.trod_le (show m0 ≤ m0 + m1 + m2 + m3 by omega) t0
  have u1 := DataW.trod_le (show m1 ≤ m0 + m1 + m2 + m3 by omega) t1
  have u2 := DataW.trod_le (show m2 ≤ m0 + m1 + m2 + m3 by omega) t2
  have u3 := DataW.trod_le (show m3 ≤ m0 + m1 + m2 + m3 by omega) t3
  exact ⟨_, by simpa using trod_struct_mk (n := m0 + m1 + m2 + m3) S37 (by rw [C37]; rfl) (xs := [(.agg [.agg [.lit (.int .i64 a0), .lit (.int .i64 a1)], .lit (.int .i64 a2), .lit (.int .i64 a3), .lit (.int .u64 a4)], []), (.lit (.int .i64 a5), []), (.lit (.int .i64 a6), []), (.lit (.int .i64 a7), [])]) (by simp [q37_0.1, q37_0.2, u0, q37_1.1, q37_1.2, u1, q37_2.1, q37_2.2, u2, q37_3.1, q37_3.2, u3, C3, C35])⟩
theorem open37 {H : Type} {enc : TypeId × Value → H} {P : Program} {w : World} {base : Nat} {spare : Nat → Bool} {held : Bool} {f32_0 f32_1 f35_0 f35_1 f35_2 f35_3 f37_0 f37_1 f37_2 f37_3 : Field} (U3 : P.underlying 3 = some (.int .i64)) (C3 : P.cellsOf 3 = 1) (S32 : P.underlying 32 = some (.struct #[f32_0, f32_1])) (C32 : P.cellsOf 32 = 2) (q32_0 : f32_0.type = 3 ∧ f32_0.offset = 0) (q32_1 : f32_1.type = 3 ∧ f32_1.offset = 1) (U33 : P.underlying 33 = some (.int .u64)) (C33 : P.cellsOf 33 = 1) (S35 : P.underlying 35 = some (.struct #[f35_0, f35_1, f35_2, f35_3])) (C35 : P.cellsOf 35 = 5) (q35_0 : f35_0.type = 32 ∧ f35_0.offset = 0) (q35_1 : f35_1.type = 3 ∧ f35_1.offset = 2) (q35_2 : f35_2.type = 3 ∧ f35_2.offset = 3) (q35_3 : f35_3.type = 33 ∧ f35_3.offset = 4) (S37 : P.underlying 37 = some (.struct #[f37_0, f37_1, f37_2, f37_3])) (C37 : P.cellsOf 37 = 8) (q37_0 : f37_0.type = 35 ∧ f37_0.offset = 0) (q37_1 : f37_1.type = 3 ∧ f37_1.offset = 5) (q37_2 : f37_2.type = 3 ∧ f37_2.offset = 6) (q37_3 : f37_3.type = 3 ∧ f37_3.offset = 7) {r : Reach} {b0 : Nat} {v : Value} {d : DataW H} {p : List MemPlace} (hv : Value.okWide P w r b0 37 v) (h : DataW.Trod enc P w base spare held 37 v d p) : ∃ a0 a1 a2 a3 a4 a5 a6 a7 : Int, v = .agg #[.int .i64 a0, .int .i64 a1, .int .i64 a2, .int .i64 a3, .int .u64 a4, .int .i64 a5, .int .i64 a6, .int .i64 a7] ∧ d = .agg [.agg [.agg [.lit (.int .i64 a0), .lit (.int .i64 a1)], .lit (.int .i64 a2), .lit (.int .i64 a3), .lit (.int .u64 a4)], .lit (.int .i64 a5), .lit (.int .i64 a6), .lit (.int .i64 a7)] ∧ p = [] ∧ (Lit.int .i64 a0).wf = true ∧ (Lit.int .i64 a1).wf = true ∧ (Lit.int .i64 a2).wf = true ∧ (Lit.int .i64 a3).wf = true ∧ (Lit.int .u64 a4).wf = true ∧ (Lit.int .i64 a5).wf = true ∧ (Lit.int .i64 a6).wf = true ∧ (Lit.int .i64 a7).wf = true := by
  obtain ⟨cs, rfl, hsz⟩ := okWide_struct S37 hv
  obtain ⟨fuel, hf⟩ := h
  obtain ⟨a0, a1, a2, a3, a4, a5, a6, a7, e, hx, w0, w1, w2, w3, w4, w5, w6, w7⟩ := cut37 U3 C3 S32 C32 q32_0 q32_1 U33 C33 S35 C35 q35_0 q35_1 q35_2 q35_3 S37 C37 q37_0 q37_1 q37_2 q37_3 hf
  simp only [Prod.mk.injEq] at hx
  have e2 : cs = #[.int .i64 a0, .int .i64 a1, .int .i64 a2, .int .i64 a3, .int .u64 a4, .int .i64 a5, .int .i64 a6, .int .i64 a7] := by
    have e3 : cs.toList = [.int .i64 a0, .int .i64 a1, .int .i64 a2, .int .i64 a3, .int .u64 a4, .int .i64 a5, .int .i64 a6, .int .i64 a7] := by simpa [Value.cells] using e
    exact Array.ext' (by simpa using e3)
  subst e2
  exact ⟨a0, a1, a2, a3, a4, a5, a6, a7, rfl, hx.1, hx.2, w0, w1, w2, w3, w4, w5, w6, w7⟩
theorem shut37 {H : Type} {enc : TypeId × Value → H} {P : Program} {w : World} {base : Nat} {spare : Nat → Bool} {held : Bool} {f32_0 f32_1 f35_0 f35_1 f35_2 f35_3 f37_0 f37_1 f37_2 f37_3 : Field} (U3 : P.underlying 3 = some (.int .i64)) (C3 : P.cellsOf 3 = 1) (S32 : P.underlying 32 = some (.struct #[f32_0, f32_1])) (C32 : P.cellsOf 32 = 2) (q32_0 : f32_0.type = 3 ∧ f32_0.offset = 0) (q32_1 : f32_1.type = 3 ∧ f32_1.offset = 1) (U33 : P.underlying 33 = some (.int .u64)) (C33 : P.cellsOf 33 = 1) (S35 : P.underlying 35 = some (.struct #[f35_0, f35_1, f35_2, f35_3])) (C35 : P.cellsOf 35 = 5) (q35_0 : f35_0.type = 32 ∧ f35_0.offset = 0) (q35_1 : f35_1.type = 3 ∧ f35_1.offset = 2) (q35_2 : f35_2.type = 3 ∧ f35_2.offset = 3) (q35_3 : f35_3.type = 33 ∧ f35_3.offset = 4) (S37 : P.underlying 37 = some (.struct #[f37_0, f37_1, f37_2, f37_3])) (C37 : P.cellsOf 37 = 8) (q37_0 : f37_0.type = 35 ∧ f37_0.offset = 0) (q37_1 : f37_1.type = 3 ∧ f37_1.offset = 5) (q37_2 : f37_2.type = 3 ∧ f37_2.offset = 6) (q37_3 : f37_3.type = 3 ∧ f37_3.offset = 7) {a0 a1 a2 a3 a4 a5 a6 a7 : Int} (w0 : (Lit.int .i64 a0).wf = true) (w1 : (Lit.int .i64 a1).wf = true) (w2 : (Lit.int .i64 a2).wf = true) (w3 : (Lit.int .i64 a3).wf = true) (w4 : (Lit.int .u64 a4).wf = true) (w5 : (Lit.int .i64 a5).wf = true) (w6 : (Lit.int .i64 a6).wf = true) (w7 : (Lit.int .i64 a7).wf = true) : DataW.Trod enc P w base spare held 37 (.agg #[.int .i64 a0, .int .i64 a1, .int .i64 a2, .int .i64 a3, .int .u64 a4, .int .i64 a5, .int .i64 a6, .int .i64 a7]) (.agg [.agg [.agg [.lit (.int .i64 a0), .lit (.int .i64 a1)], .lit (.int .i64 a2), .lit (.int .i64 a3), .lit (.int .u64 a4)], .lit (.int .i64 a5), .lit (.int .i64 a6), .lit (.int .i64 a7)]) [] := by
  obtain ⟨m, t⟩ := mk37 (enc := enc) (w := w) (base := base) (spare := spare) (held := held) U3 C3 S32 C32 q32_0 q32_1 U33 C33 S35 C35 q35_0 q35_1 q35_2 q35_3 S37 C37 q37_0 q37_1 q37_2 q37_3 w0 w1 w2 w3 w4 w5 w6 w7
  exact ⟨m, by simpa [Value.cells] using t⟩
theorem tab_ok {W : World} (h : laidMetH Tryz.prog Rows.planAppliesRow.laid W) : Plan.TabP W := Plan.tabP_of h
set_option maxRecDepth 100000 in
theorem lifted (os : Os) (started : os.Started) (H : Type) (enc : TypeId × Value → H) :
    ReturnsInHanded {} Tryz.checked os 4 .any (fun w args => (Rows.planAppliesSpec.pre enc Tryz.prog Tryz.f4 Rows.planAppliesRow.domain false w args ∧ laidMetH Tryz.prog Rows.planAppliesRow.laid w) ∧ sizedMet enc Tryz.prog Tryz.f4 (OpenSpec.ofChange Rows.planAppliesSpec) false w args)
      (Rows.planAppliesSpec.post enc Tryz.prog Tryz.f4 false true false false) := by
  refine returnsInHanded_of_change_and (C := Tryz.checked) (X := fun w _ => laidMetH Tryz.prog Rows.planAppliesRow.laid w) (fun _ _ _ hh h => h.of_heap hh) own started (by kernel_rfl) Tryz.func4
    (ChangeSpec.witness_shaped (enc := enc) (C := Tryz.checked) (os := os) (X := fun w _ => laidMetH Tryz.prog Rows.planAppliesRow.laid w) false (World.laidAll Tryz.prog os Rows.planAppliesRow.laid) #[.slice none 0 0, .agg #[.int .i64 0, .int .i64 0, .int .i64 0, .int .i64 0, .int .u64 0, .int .i64 0, .int .i64 0, .int .i64 0]] 8 (World.laidAll_os _ _ _)
      (World.shaped_of_ZipB (by kernel_rfl) (by kernel_rfl)) (by kernel_rfl) (by kernel_rfl) (by kernel_rfl)
      (by rw [MakeChecks.laidMetH_plain _ _ _ (by kernel_rfl)]; exact laidMet_laidAll _ (by kernel_rfl) (by kernel_rfl))) ?_
  intro W base args ds gs before hval0 hW hcnd hsz0 hL _
  have hT := tab_ok hL
  clear hL
  have hsz : (DataW.weightsEach Tryz.prog (Tryz.f4.params.toList ++ Rows.planAppliesSpec.plain.varTypes Tryz.prog) (ds ++ gs)).all (· ≤ reachBytes) = true := hsz0
  have hval : ∀ (j : Nat) t v, Tryz.f4.params[j]? = some t → args[j]? = some v → Value.okWide Tryz.prog W .any base t v := hval0
  have hW' := hW
  obtain ⟨p, q, hA0, hV, rfl, hfz, hnd⟩ := hW
  have hA : DataW.TrodAll enc Tryz.prog W 0 (fun _ => true) true Tryz.f4.params.toList args.toList ds p := hA0
  rw [Tryz.params4] at hA hval hsz
  obtain ⟨v0, vs0, d0, ds0, p0, q0, hargs, rfl, rfl, h0, r0⟩ := trodAll_cons hA
  obtain ⟨v1, vs1, d1, ds1, p1, q1, rfl, rfl, rfl, h1, r1⟩ := trodAll_cons r0
  obtain ⟨rfl, rfl, rfl⟩ := trodAll_nil r1
  obtain rfl : args = #[v0, v1] := by cases args; simp_all
  obtain ⟨rfl, rfl⟩ := trodVars_none hV
  obtain ⟨a0, len0, cap0, rfl⟩ := okWide_slice Tryz.underlying22 (hval 0 22 v0 rfl rfl)
  have k0 := h0
  have lt0 : ∀ x ∈ p0, x.block < W.heap.size := by obtain ⟨m, hm⟩ := k0; exact DataW.trod_lt m _ _ _ hm
  obtain ⟨z0, w0⟩ : ∃ zs, IsRow .u64 W a0 len0 cap0 zs := by
    obtain ⟨fuel, hf⟩ := h0
    rcases open_ints Tryz.underlying22 Tryz.underlying33 (by kernel_rfl) hf with ⟨hcs, _⟩ | ⟨x, l, c, zs, hcs, _, hl, hm, hz, _, hcell, hwz⟩
    · simp [Value.cells] at hcs
      obtain ⟨rfl, rfl, rfl⟩ := hcs
      exact ⟨[], .inl ⟨rfl, rfl, rfl, rfl⟩⟩
    · simp [Value.cells] at hcs
      obtain ⟨rfl, rfl, rfl⟩ := hcs
      exact ⟨zs, .inr ⟨_, rfl, hl, hm, by simpa using hz, hcell, hwz⟩⟩
  have y0 : len0 * 8 ≤ 140737488351232 := YtpnkcjnemoompaaGreatDoorW.PrintWords.sized_ints hsz (j := 0) (t := 22) rfl rfl Tryz.underlying22 Tryz.underlying33 (by kernel_rfl) (by kernel_rfl) h0
  obtain ⟨a1_0, a1_1, a1_2, a1_3, a1_4, a1_5, a1_6, a1_7, rfl, rfl, rfl, w1_0, w1_1, w1_2, w1_3, w1_4, w1_5, w1_6, w1_7⟩ := open37 Tryz.underlying3 cellsq3 Tryz.underlying32 cellsq32 ⟨rfl, rfl⟩ ⟨rfl, rfl⟩ Tryz.underlying33 cellsq33 Tryz.underlying35 cellsq35 ⟨rfl, rfl⟩ ⟨rfl, rfl⟩ ⟨rfl, rfl⟩ ⟨rfl, rfl⟩ Tryz.underlying37 cellsq37 ⟨rfl, rfl⟩ ⟨rfl, rfl⟩ ⟨rfl, rfl⟩ ⟨rfl, rfl⟩ (hval 1 37 v1 rfl rfl) h1
  clear hA0 hval0 hsz0 hsz
  refine (Kern.PlanAppliesRow a0 len0 cap0 z0 a1_0 a1_1 a1_2 a1_3 a1_4 a1_5 a1_6 a1_7 W w0 (by have h := bounds_u64 w1_4; exact ⟨by omega, by omega⟩) hT).mono fun e W' ⟨he, bel⟩ => ?_
  subst he
  exact ⟨_, rfl, _, _, _, [], _, [], hW', trodAll_mk1 (shut_bool Tryz.underlying4 _), (trodAll_cons_mk (Below.trod laidOut (by kernel_rfl) (of_decide_eq_true (by kernel_rfl)) k0 bel lt0) (trodAll_cons_mk (shut37 Tryz.underlying3 cellsq3 Tryz.underlying32 cellsq32 ⟨rfl, rfl⟩ ⟨rfl, rfl⟩ Tryz.underlying33 cellsq33 Tryz.underlying35 cellsq35 ⟨rfl, rfl⟩ ⟨rfl, rfl⟩ ⟨rfl, rfl⟩ ⟨rfl, rfl⟩ Tryz.underlying37 cellsq37 ⟨rfl, rfl⟩ ⟨rfl, rfl⟩ ⟨rfl, rfl⟩ ⟨rfl, rfl⟩ w1_0 w1_1 w1_2 w1_3 w1_4 w1_5 w1_6 w1_7) trodAll_mk0)), rfl, bel.frame _, fun h => by cases h⟩
theorem holds : Rows.PlanAppliesSaid :=
  OpenClaim.holds_of_wide 4 Tryz.f4 rfl rfl rfl rfl rfl rfl rfl ⟨rfl, rfl, rfl, rfl, rfl⟩ rfl rfl rfl rfl rfl (by kernel_rfl) Tryz.func4 (by kernel_rfl)
    (of_decide_eq_true (by kernel_rfl)) (by unfold Func.isWrapper; first | (rw [if_pos (by decide +kernel)]; kernel_rfl) | (rw [if_neg (by decide +kernel)]; exact ⟨rfl, rfl⟩))
    (fun os started H enc _ => lifted os started H enc)
theorem card_holds : Rows.PlanAppliesCardSaid :=
  Claim7.holds_tied_plain_at .later [] [.data, .data, .data, .data] true (true, "fad390f7506dd0d16067739e16f924e11b1e6ef4644069d2735adbfa03c5d62e") false holds (fun _ h => by cases h) (by kernel_rfl) (fun _ h => by cases h) planApplies_row_tie rfl ⟨rfl, rfl⟩ (by kernel_rfl) rfl
    (fun f fn hf hfn => by
      obtain rfl : f = 4 := Option.some.inj ((show Tryz.prog.funcNamed "abacist/abacistlaw24.PlanApplies" = some 4 by kernel_rfl).symm.trans hf) |>.symm
      obtain rfl : fn = Tryz.f4 := (Option.some.inj (Tryz.func4.symm.trans hfn)).symm
      exact ⟨by kernel_rfl, fun j t ht => by
        rw [Tryz.params4] at ht
        have hm : t ∈ [22, 37] := by simpa using Array.mem_of_getElem? ht
        have hall : ([22, 37].all fun u => !Tryz.prog.wantsStandIn u) = true := by kernel_rfl
        exact (show Tryz.prog.wantsStandIn t = false by simpa using List.all_eq_true.1 hall t hm)⟩)
    (by kernel_rfl)
#print axioms card_holds
end Go.Proofs.YtpnkcjnemoompaaGreatDoor.planApplies
namespace Go.Proofs.YtpnkcjnemoompaaGreatDoor
theorem planApplies_card_holds : Rows.PlanAppliesCardSaid := planApplies.card_holds
end Go.Proofs.YtpnkcjnemoompaaGreatDoor
