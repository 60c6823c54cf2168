/- A pass's line is as the document says (of a shape whose numbers are below 0, and of directions and twists likewise, the law itself asks no more than that the line is not empty): for every pass, without a condition beside the library's and the program's tables, which the card ties. -/
import Derived.Test.YtpnkcjnemoompaaDoorRows
import Derived.Test.YtpnkcjnemoompaaDoorCards
import Derived.Test.YtpnkcjnemoompaaDoorTie
import Derived.Test.YtpnkcjnemoompaaDoorPlanP
import Derived.Test.YtpnkcjnemoompaaDoorPlanTab
import Derived.WalkKit
import Derived.ProofKit
import Derived.OpenShut
import Derived.ShutString
import Derived.ChangeOld
import Derived.Below
import Derived.SizedLaws
import Derived.Lib.SmallJoins
import Derived.LaidMore
import Derived.Lay
import Derived.SevenTiedAt
import Derived.Stop.Joined
import Derived.Stop.LaidErr
import Derived.Lib.LaidTab
namespace Go.Proofs.YtpnkcjnemoompaaDoor.planLines
open Go.ChangeShapes Go.WideShapes Go.ChangeAt Go.RowKit Go.Joins
open Go.ChangeMaps (open_string shut_string)
set_option linter.unusedVariables false
set_option linter.unusedSimpArgs false
theorem own : ownKnob Tryd.prog.godebug = none := by kernel_rfl
theorem cells23 : Tryd.prog.cellsOf 23 = 2 := by kernel_rfl
theorem cells49 : Tryd.prog.cellsOf 49 = 5 := by kernel_rfl
theorem cells51 : Tryd.prog.cellsOf 51 = 8 := by kernel_rfl
theorem cellsq3 : Tryd.prog.cellsOf 3 = 1 := by kernel_rfl
theorem cellsq23 : Tryd.prog.cellsOf 23 = 2 := by kernel_rfl
theorem cellsq45 : Tryd.prog.cellsOf 45 = 1 := by kernel_rfl
theorem cellsq49 : Tryd.prog.cellsOf 49 = 5 := by kernel_rfl
theorem cellsq51 : Tryd.prog.cellsOf 51 = 8 := by kernel_rfl
theorem trod_word {H : Type} {enc : TypeId × Value → H} {P : Program} {w : World} {base : Nat} {spare : Nat → Bool} {held : Bool} {t : TypeId} {k : IntKind} {n : Int} (ht : P.underlying t = some (.int k)) (hw : (Lit.int k n).wf = true) : ∃ m, DataW.trod enc P w base spare held m t [.int k n] = some (.lit (.int k n), []) := ⟨1, by simp [DataW.trod, ht, hw]⟩
theorem list_2 {α : Type} {l : List α} (h : l.length = 2) : ∃ c0 c1, l = [c0, c1] := by
  match l, h with
  | [c0, c1], _ => exact ⟨c0, c1, rfl⟩
theorem list_4 {α : Type} {l : List α} (h : l.length = 4) : ∃ c0 c1 c2 c3, l = [c0, c1, c2, c3] := by
  match l, h with
  | [c0, c1, c2, c3], _ => exact ⟨c0, c1, c2, c3, rfl⟩
theorem list_5 {α : Type} {l : List α} (h : l.length = 5) : ∃ c0 c1 c2 c3 c4, l = [c0, c1, c2, c3, c4] := by
  match l, h with
  | [c0, c1, c2, c3, c4], _ => exact ⟨c0, c1, c2, c3, c4, rfl⟩
theorem list_8 {α : Type} {l : List α} (h : l.length = 8) : ∃ c0 c1 c2 c3 c4 c5 c6 c7, l = [c0, c1, c2, c3, c4, c5, c6, c7] := by
  match l, h with
  | [c0, c1, c2, c3, c4, c5, c6, c7], _ => exact ⟨c0, c1, c2, c3, c4, c5, c6, c7, rfl⟩
theorem cut23 {H : Type} {enc : TypeId × Value → H} {P : Program} {w : World} {base : Nat} {spare : Nat → Bool} {held : Bool} {f23_0 f23_1 : Field} (U3 : P.underlying 3 = some (.int .i64)) (C3 : P.cellsOf 3 = 1) (S23 : P.underlying 23 = some (.struct #[f23_0, f23_1])) (C23 : P.cellsOf 23 = 2) (q23_0 : f23_0.type = 3 ∧ f23_0.offset = 0) (q23_1 : f23_1.type = 3 ∧ f23_1.offset = 1) {fuel : Nat} {cs : List Value} {x : DataW H × List MemPlace} (h : DataW.trod enc P w base spare held fuel 23 cs = some x) : ∃ a0 a1 : Int, cs = [.int .i64 a0, .int .i64 a1] ∧ x = (.agg [.lit (.int .i64 a0), .lit (.int .i64 a1)], []) ∧ (Lit.int .i64 a0).wf = true ∧ (Lit.int .i64 a1).wf = true := by
  obtain ⟨xs, n, rfl, rfl, hl, hlen, hf⟩ := DataW.trod_struct S23 h
  obtain ⟨c0, c1, rfl⟩ := list_2 (hl.trans C23)
  obtain ⟨y0, y1, rfl⟩ := list_2 (show xs.length = 2 from hlen)
  have h0 : DataW.trod enc P w base spare held n 3 [c0] = some y0 := by
    have := hf 0 _ rfl
    simpa [q23_0.1, q23_0.2, C3] using this
  obtain ⟨a0, e0, rfl, w0⟩ := DataW.trod_int U3 h0
  simp only [List.cons.injEq, and_true] at e0
  subst e0
  have h1 : DataW.trod enc P w base spare held n 3 [c1] = some y1 := by
    have := hf 1 _ rfl
    simpa [q23_1.1, q23_1.2, C3] using this
  obtain ⟨a1, e1, rfl, w1⟩ := DataW.trod_int U3 h1
  simp only [List.cons.injEq, and_true] at e1
  subst e1
  exact ⟨_, _, rfl, rfl, w0, w1⟩
theorem mk23 {H : Type} {enc : TypeId × Value → H} {P : Program} {w : World} {base : Nat} {spare : Nat → Bool} {held : Bool} {f23_0 f23_1 : Field} (U3 : P.underlying 3 = some (.int .i64)) (C3 : P.cellsOf 3 = 1) (S23 : P.underlying 23 = some (.struct #[f23_0, f23_1])) (C23 : P.cellsOf 23 = 2) (q23_0 : f23_0.type = 3 ∧ f23_0.offset = 0) (q23_1 : f23_1.type = 3 ∧ f23_1.offset = 1) {a0 a1 : Int} (w0 : (Lit.int .i64 a0).wf = true) (w1 : (Lit.int .i64 a1).wf = true) : ∃ m, DataW.trod enc P w base spare held m 23 [.int .i64 a0, .int .i64 a1] = some (.agg [.lit (.int .i64 a0), .lit (.int .i64 a1)], []) := by
  obtain ⟨m0, t0⟩ := trod_word (enc := enc) (w := w) (base := base) (spare := spare) (held := held) U3 w0
  obtain ⟨m1, t1⟩ := trod_word (enc := enc) (w := w) (base := base) (spare := spare) (held := held) U3 w1
  have u0 := DataW.trod_le (show m0 ≤ m0 + m1 by omega) t0
  have u1 := DataW.trod_le (show m1 ≤ m0 + m1 by omega) t1
  exact ⟨_, by simpa using trod_struct_mk (n := m0 + m1) S23 (by rw [C23]; rfl) (xs := [(.lit (.int .i64 a0), []), (.lit (.int .i64 a1), [])]) (by simp [q23_0.1, q23_0.2, u0, q23_1.1, q23_1.2, u1, C3])⟩
theorem open23 {H : Type} {enc : TypeId × Value → H} {P : Program} {w : World} {base : Nat} {spare : Nat → Bool} {held : Bool} {f23_0 f23_1 : Field} (U3 : P.underlying 3 = some (.int .i64)) (C3 : P.cellsOf 3 = 1) (S23 : P.underlying 23 = some (.struct #[f23_0, f23_1])) (C23 : P.cellsOf 23 = 2) (q23_0 : f23_0.type = 3 ∧ f23_0.offset = 0) (q23_1 : f23_1.type = 3 ∧ f23_1.offset = 1) {r : Reach} {b0 : Nat} {v : Value} {d : DataW H} {p : List MemPlace} (hv : Value.okWide P w r b0 23 v) (h : DataW.Trod enc P w base spare held 23 v d p) : ∃ a0 a1 : Int, v = .agg #[.int .i64 a0, .int .i64 a1] ∧ d = .agg [.lit (.int .i64 a0), .lit (.int .i64 a1)] ∧ p = [] ∧ (Lit.int .i64 a0).wf = true ∧ (Lit.int .i64 a1).wf = true := by
  obtain ⟨cs, rfl, hsz⟩ := okWide_struct S23 hv
  obtain ⟨fuel, hf⟩ := h
  obtain ⟨a0, a1, e, hx, w0, w1⟩ := cut23 U3 C3 S23 C23 q23_0 q23_1 hf
  simp only [Prod.mk.injEq] at hx
  have e2 : cs = #[.int .i64 a0, .int .i64 a1] := by
    have e3 : cs.toList = [.int .i64 a0, .int .i64 a1] := by simpa [Value.cells] using e
    exact Array.ext' (by simpa using e3)
  subst e2
  exact ⟨a0, a1, rfl, hx.1, hx.2, w0, w1⟩
theorem shut23 {H : Type} {enc : TypeId × Value → H} {P : Program} {w : World} {base : Nat} {spare : Nat → Bool} {held : Bool} {f23_0 f23_1 : Field} (U3 : P.underlying 3 = some (.int .i64)) (C3 : P.cellsOf 3 = 1) (S23 : P.underlying 23 = some (.struct #[f23_0, f23_1])) (C23 : P.cellsOf 23 = 2) (q23_0 : f23_0.type = 3 ∧ f23_0.offset = 0) (q23_1 : f23_1.type = 3 ∧ f23_1.offset = 1) {a0 a1 : Int} (w0 : (Lit.int .i64 a0).wf = true) (w1 : (Lit.int .i64 a1).wf = true) : DataW.Trod enc P w base spare held 23 (.agg #[.int .i64 a0, .int .i64 a1]) (.agg [.lit (.int .i64 a0), .lit (.int .i64 a1)]) [] := by
  obtain ⟨m, t⟩ := mk23 (enc := enc) (w := w) (base := base) (spare := spare) (held := held) U3 C3 S23 C23 q23_0 q23_1 w0 w1
  exact ⟨m, by simpa [Value.cells] using t⟩
theorem cut49 {H : Type} {enc : TypeId × Value → H} {P : Program} {w : World} {base : Nat} {spare : Nat → Bool} {held : Bool} {f23_0 f23_1 f49_0 f49_1 f49_2 f49_3 : Field} (U3 : P.underlying 3 = some (.int .i64)) (C3 : P.cellsOf 3 = 1) (S23 : P.underlying 23 = some (.struct #[f23_0, f23_1])) (C23 : P.cellsOf 23 = 2) (q23_0 : f23_0.type = 3 ∧ f23_0.offset = 0) (q23_1 : f23_1.type = 3 ∧ f23_1.offset = 1) (U45 : P.underlying 45 = some (.int .u64)) (C45 : P.cellsOf 45 = 1) (S49 : P.underlying 49 = some (.struct #[f49_0, f49_1, f49_2, f49_3])) (C49 : P.cellsOf 49 = 5) (q49_0 : f49_0.type = 23 ∧ f49_0.offset = 0) (q49_1 : f49_1.type = 3 ∧ f49_1.offset = 2) (q49_2 : f49_2.type = 3 ∧ f49_2.offset = 3) (q49_3 : f49_3.type = 45 ∧ f49_3.offset = 4) {fuel : Nat} {cs : List Value} {x : DataW H × List MemPlace} (h : DataW.trod enc P w base spare held fuel 49 cs = some x) : ∃ a0 a1 a2 a3 a4 : Int, cs = [.int .i64 a0, .int .i64 a1, .int .i64 a2, .int .i64 a3, .int .u64 a4] ∧ x = (.agg [.agg [.lit (.int .i64 a0), .lit (.int .i64 a1)], .lit (.int .i64 a2), .lit (.int .i64 a3), .lit (.int .u64 a4)], []) ∧ (Lit.int .i64 a0).wf = true ∧ (Lit.int .i64 a1).wf = true ∧ (Lit.int .i64 a2).wf = true ∧ (Lit.int .i64 a3).wf = true ∧ (Lit.int .u64 a4).wf = true := by
  obtain ⟨xs, n, rfl, rfl, hl, hlen, hf⟩ := DataW.trod_struct S49 h
  obtain ⟨c0, c1, c2, c3, c4, rfl⟩ := list_5 (hl.trans C49)
  obtain ⟨y0, y1, y2, y3, rfl⟩ := list_4 (show xs.length = 4 from hlen)
  have h0 : DataW.trod enc P w base spare held n 23 [c0, c1] = some y0 := by
    have := hf 0 _ rfl
    simpa [q49_0.1, q49_0.2, C23] using this
  obtain ⟨a0, a1, e0, rfl, w0, w1⟩ := cut23 U3 C3 S23 C23 q23_0 q23_1 h0
  simp only [List.cons.injEq, and_true] at e0
  obtain ⟨rfl, rfl⟩ := e0
  have h1 : DataW.trod enc P w base spare held n 3 [c2] = some y1 := by
    have := hf 1 _ rfl
    simpa [q49_1.1, q49_1.2, C3] using this
  obtain ⟨a2, e1, rfl, w2⟩ := DataW.trod_int U3 h1
  simp only [List.cons.injEq, and_true] at e1
  subst e1
  have h2 : DataW.trod enc P w base spare held n 3 [c3] = some y2 := by
    have := hf 2 _ rfl
    simpa [q49_2.1, q49_2.2, C3] using this
  obtain ⟨a3, e2, rfl, w3⟩ := DataW.trod_int U3 h2
  simp only [List.cons.injEq, and_true] at e2
  subst e2
  have h3 : DataW.trod enc P w base spare held n 45 [c4] = some y3 := by
    have := hf 3 _ rfl
    simpa [q49_3.1, q49_3.2, C45] using this
  obtain ⟨a4, e3, rfl, w4⟩ := DataW.trod_int U45 h3
  simp only [List.cons.injEq, and_true] at e3
  subst e3
  exact ⟨_, _, _, _, _, rfl, rfl, w0, w1, w2, w3, w4⟩
theorem mk49 {H : Type} {enc : TypeId × Value → H} {P : Program} {w : World} {base : Nat} {spare : Nat → Bool} {held : Bool} {f23_0 f23_1 f49_0 f49_1 f49_2 f49_3 : Field} (U3 : P.underlying 3 = some (.int .i64)) (C3 : P.cellsOf 3 = 1) (S23 : P.underlying 23 = some (.struct #[f23_0, f23_1])) (C23 : P.cellsOf 23 = 2) (q23_0 : f23_0.type = 3 ∧ f23_0.offset = 0) (q23_1 : f23_1.type = 3 ∧ f23_1.offset = 1) (U45 : P.underlying 45 = some (.int .u64)) (C45 : P.cellsOf 45 = 1) (S49 : P.underlying 49 = some (.struct #[f49_0, f49_1, f49_2, f49_3])) (C49 : P.cellsOf 49 = 5) (q49_0 : f49_0.type = 23 ∧ f49_0.offset = 0) (q49_1 : f49_1.type = 3 ∧ f49_1.offset = 2) (q49_2 : f49_2.type = 3 ∧ f49_2.offset = 3) (q49_3 : f49_3.type = 45 ∧ f49_3.offset = 4) {a0 a1 a2 a3 a4 : Int} (w0 : (Lit.int .i64 a0).wf = true) (w1 : (Lit.int .i64 a1).wf = true) (w2 : (Lit.int .i64 a2).wf = true) (w3 : (Lit.int .i64 a3).wf = true) (w4 : (Lit.int .u64 a4).wf = true) : ∃ m, DataW.trod enc P w base spare held m 49 [.int .i64 a0, .int .i64 a1, .int .i64 a2, .int .i64 a3, .int .u64 a4] = some (.agg [.agg [.lit (.int .i64 a0), .lit (.int .i64 a1)], .lit (.int .i64 a2), .lit (.int .i64 a3), .lit (.int .u64 a4)], []) := by
  obtain ⟨m0, t0⟩ := mk23 (enc := enc) (w := w) (base := base) (spare := spare) (held := held) U3 C3 S23 C23 q23_0 q23_1 w0 w1
  obtain ⟨m1, t1⟩ := trod_word (enc := enc) (w := w) (base := base) (spare := spare) (held := held) U3 w2
  obtain ⟨m2, t2⟩ := trod_word (enc := enc) (w := w) (base := base) (spare := spare) (held := held) U3 w3
  obtain ⟨m3, t3⟩ := trod_word (enc := enc) (w := w) (base := base) (spare := spare) (held := held) U45 w4
  have u0 := DataW.trod_le (show m0 ≤ m0 + m1 + m2 + m3 by omega) t0
  have u1 := DataW.trod_le (show m1 ≤ m0 + m1 + m2 + m3 by omega) t1
  have u2 := DataW.trod_le (show m2 ≤ m0 + m1 + m2 + m3 by omega) t2
  have u3 := DataW.trod_le (show m3 ≤ m0 + m1 + m2 + m3 by omega) t3
  exact ⟨_, by simpa using trod_struct_mk (n := m0 + m1 + m2 + m3) S49 (by rw [C49]; rfl) (xs := [(.agg [.lit (.int .i64 a0), .lit (.int .i64 a1)], []), (.lit (.int .i64 a2), []), (.lit (.int .i64 a3), []), (.lit (.int .u64 a4), [])]) (by simp [q49_0.1, q49_0.2, u0, q49_1.1, q49_1.2, u1, q49_2.1, q49_2.2, u2, q49_3.1, q49_3.2, u3, C23, C3, C45])⟩
theorem open49 {H : Type} {enc : TypeId × Value → H} {P : Program} {w : World} {base : Nat} {spare : Nat → Bool} {held : Bool} {f23_0 f23_1 f49_0 f49_1 f49_2 f49_3 : Field} (U3 : P.underlying 3 = some (.int .i64)) (C3 : P.cellsOf 3 = 1) (S23 : P.underlying 23 = some (.struct #[f23_0, f23_1])) (C23 : P.cellsOf 23 = 2) (q23_0 : f23_0.type = 3 ∧ f23_0.offset = 0) (q23_1 : f23_1.type = 3 ∧ f23_1.offset = 1) (U45 : P.underlying 45 = some (.int .u64)) (C45 : P.cellsOf 45 = 1) (S49 : P.underlying 49 = some (.struct #[f49_0, f49_1, f49_2, f49_3])) (C49 : P.cellsOf 49 = 5) (q49_0 : f49_0.type = 23 ∧ f49_0.offset = 0) (q49_1 : f49_1.type = 3 ∧ f49_1.offset = 2) (q49_2 : f49_2.type = 3 ∧ f49_2.offset = 3) (q49_3 : f49_3.type = 45 ∧ f49_3.offset = 4) {r : Reach} {b0 : Nat} {v : Value} {d : DataW H} {p : List MemPlace} (hv : Value.okWide P w r b0 49 v) (h : DataW.Trod enc P w base spare held 49 v d p) : ∃ a0 a1 a2 a3 a4 : Int, v = .agg #[.int .i64 a0, .int .i64 a1, .int .i64 a2, .int .i64 a3, .int .u64 a4] ∧ d = .agg [.agg [.lit (.int .i64 a0), .lit (.int .i64 a1)], .lit (.int .i64 a2), .lit (.int .i64 a3), .lit (.int .u64 a4)] ∧ p = [] ∧ (Lit.int .i64 a0).wf = true ∧ (Lit.int .i64 a1).wf = true ∧ (Lit.int .i64 a2).wf = true ∧ (Lit.int .i64 a3).wf = true ∧ (Lit.int .u64 a4).wf = true := by
  obtain ⟨cs, rfl, hsz⟩ := okWide_struct S49 hv
  obtain ⟨fuel, hf⟩ := h
  obtain ⟨a0, a1, a2, a3, a4, e, hx, w0, w1, w2, w3, w4⟩ := cut49 U3 C3 S23 C23 q23_0 q23_1 U45 C45 S49 C49 q49_0 q49_1 q49_2 q49_3 hf
  simp only [Prod.mk.injEq] at hx
  have e2 : cs = #[.int .i64 a0, .int .i64 a1, .int .i64 a2, .int .i64 a3, .int .u64 a4] := by
    have e3 : cs.toList = [.int .i64 a0, .int .i64 a1, .int .i64 a2, .int .i64 a3, .int .u64 a4] := by simpa [Value.cells] using e
    exact Array.ext' (by simpa using e3)
  subst e2
  exact ⟨a0, a1, a2, a3, a4, rfl, hx.1, hx.2, w0, w1, w2, w3, w4⟩
theorem shut49 {H : Type} {enc : TypeId × Value → H} {P : Program} {w : World} {base : Nat} {spare : Nat → Bool} {held : Bool} {f23_0 f23_1 f49_0 f49_1 f49_2 f49_3 : Field} (U3 : P.underlying 3 = some (.int .i64)) (C3 : P.cellsOf 3 = 1) (S23 : P.underlying 23 = some (.struct #[f23_0, f23_1])) (C23 : P.cellsOf 23 = 2) (q23_0 : f23_0.type = 3 ∧ f23_0.offset = 0) (q23_1 : f23_1.type = 3 ∧ f23_1.offset = 1) (U45 : P.underlying 45 = some (.int .u64)) (C45 : P.cellsOf 45 = 1) (S49 : P.underlying 49 = some (.struct #[f49_0, f49_1, f49_2, f49_3])) (C49 : P.cellsOf 49 = 5) (q49_0 : f49_0.type = 23 ∧ f49_0.offset = 0) (q49_1 : f49_1.type = 3 ∧ f49_1.offset = 2) (q49_2 : f49_2.type = 3 ∧ f49_2.offset = 3) (q49_3 : f49_3.type = 45 ∧ f49_3.offset = 4) {a0 a1 a2 a3 a4 : Int} (w0 : (Lit.int .i64 a0).wf = true) (w1 : (Lit.int .i64 a1).wf = true) (w2 : (Lit.int .i64 a2).wf = true) (w3 : (Lit.int .i64 a3).wf = true) (w4 : (Lit.int .u64 a4).wf = true) : DataW.Trod enc P w base spare held 49 (.agg #[.int .i64 a0, .int .i64 a1, .int .i64 a2, .int .i64 a3, .int .u64 a4]) (.agg [.agg [.lit (.int .i64 a0), .lit (.int .i64 a1)], .lit (.int .i64 a2), .lit (.int .i64 a3), .lit (.int .u64 a4)]) [] := by
  obtain ⟨m, t⟩ := mk49 (enc := enc) (w := w) (base := base) (spare := spare) (held := held) U3 C3 S23 C23 q23_0 q23_1 U45 C45 S49 C49 q49_0 q49_1 q49_2 q49_3 w0 w1 w2 w3 w4
  exact ⟨m, by simpa [Value.cells] using t⟩
theorem cut51 {H : Type} {enc : TypeId × Value → H} {P : Program} {w : World} {base : Nat} {spare : Nat → Bool} {held : Bool} {f23_0 f23_1 f49_0 f49_1 f49_2 f49_3 f51_0 f51_1 f51_2 f51_3 : Field} (U3 : P.underlying 3 = some (.int .i64)) (C3 : P.cellsOf 3 = 1) (S23 : P.underlying 23 = some (.struct #[f23_0, f23_1])) (C23 : P.cellsOf 23 = 2) (q23_0 : f23_0.type = 3 ∧ f23_0.offset = 0) (q23_1 : f23_1.type = 3 ∧ f23_1.offset = 1) (U45 : P.underlying 45 = some (.int .u64)) (C45 : P.cellsOf 45 = 1) (S49 : P.underlying 49 = some (.struct #[f49_0, f49_1, f49_2, f49_3])) (C49 : P.cellsOf 49 = 5) (q49_0 : f49_0.type = 23 ∧ f49_0.offset = 0) (q49_1 : f49_1.type = 3 ∧ f49_1.offset = 2) (q49_2 : f49_2.type = 3 ∧ f49_2.offset = 3) (q49_3 : f49_3.type = 45 ∧ f49_3.offset = 4) (S51 : P.underlying 51 = some (.struct #[f51_0, f51_1, f51_2, f51_3])) (C51 : P.cellsOf 51 = 8) (q51_0 : f51_0.type = 49 ∧ f51_0.offset = 0) (q51_1 : f51_1.type = 3 ∧ f51_1.offset = 5) (q51_2 : f51_2.type = 3 ∧ f51_2.offset = 6) (q51_3 : f51_3.type = 3 ∧ f51_3.offset = 7) {fuel : Nat} {cs : List Value} {x : DataW H × List MemPlace} (h : DataW.trod enc P w base spare held fuel 51 cs = some x) : ∃ a0 a1 a2 a3 a4 a5 a6 a7 : Int, cs = [.int .i64 a0, .int .i64 a1, .int .i64 a2, .int .i64 a3, .int .u64 a4, .int .i64 a5, .int .i64 a6, .int .i64 a7] ∧ x = (.agg [.agg [.agg [.lit (.int .i64 a0), .lit (.int .i64 a1)], .lit (.int .i64 a2), .lit (.int .i64 a3), .lit (.int .u64 a4)], .lit (.int .i64 a5), .lit (.int .i64 a6), .lit (.int .i64 a7)], []) ∧ (Lit.int .i64 a0).wf = true ∧ (Lit.int .i64 a1).wf = true ∧ (Lit.int .i64 a2).wf = true ∧ (Lit.int .i64 a3).wf = true ∧ (Lit.int .u64 a4).wf = true ∧ (Lit.int .i64 a5).wf = true ∧ (Lit.int .i64 a6).wf = true ∧ (Lit.int .i64 a7).wf = true := by
  obtain ⟨xs, n, rfl, rfl, hl, hlen, hf⟩ := DataW.trod_struct S51 h
  obtain ⟨c0, c1, c2, c3, c4, c5, c6, c7, rfl⟩ := list_8 (hl.trans C51)
  obtain ⟨y0, y1, y2, y3, rfl⟩ := list_4 (show xs.length = 4 from hlen)
  have h0 : DataW.trod enc P w base spare held n 49 [c0, c1, c2, c3, c4] = some y0 := by
    have := hf 0 _ rfl
    simpa [q51_0.1, q51_0.2, C49] using this
  obtain ⟨a0, a1, a2, a3, a4, e0, rfl, w0, w1, w2, w3, w4⟩ := cut49 U3 C3 S23 C23 q23_0 q23_1 U45 C45 S49 C49 q49_0 q49_1 q49_2 q49_3 h0
  simp only [List.cons.injEq, and_true] at e0
  obtain ⟨rfl, rfl, rfl, rfl, rfl⟩ := e0
  have h1 : DataW.trod enc P w base spare held n 3 [c5] = some y1 := by
    have := hf 1 _ rfl
    simpa [q51_1.1, q51_1.2, C3] using this
  obtain ⟨a5, e1, rfl, w5⟩ := DataW.trod_int U3 h1
  simp only [List.cons.injEq, and_true] at e1
  subst e1
  have h2 : DataW.trod enc P w base spare held n 3 [c6] = some y2 := by
    have := hf 2 _ rfl
    simpa [q51_2.1, q51_2.2, C3] using this
  obtain ⟨a6, e2, rfl, w6⟩ := DataW.trod_int U3 h2
  simp only [List.cons.injEq, and_true] at e2
  subst e2
  have h3 : DataW.trod enc P w base spare held n 3 [c7] = some y3 := by
    have := hf 3 _ rfl
    simpa [q51_3.1, q51_3.2, C3] using this
  obtain ⟨a7, e3, rfl, w7⟩ := DataW.trod_int U3 h3
  simp only [List.cons.injEq, and_true] at e3
  subst e3
  exact ⟨_, _, _, _, _, _, _, _, rfl, rfl, w0, w1, w2, w3, w4, w5, w6, w7⟩
theorem mk51 {H : Type} {enc : TypeId × Value → H} {P : Program} {w : World} {base : Nat} {spare : Nat → Bool} {held : Bool} {f23_0 f23_1 f49_0 f49_1 f49_2 f49_3 f51_0 f51_1 f51_2 f51_3 : Field} (U3 : P.underlying 3 = some (.int .i64)) (C3 : P.cellsOf 3 = 1) (S23 : P.underlying 23 = some (.struct #[f23_0, f23_1])) (C23 : P.cellsOf 23 = 2) (q23_0 : f23_0.type = 3 ∧ f23_0.offset = 0) (q23_1 : f23_1.type = 3 ∧ f23_1.offset = 1) (U45 : P.underlying 45 = some (.int .u64)) (C45 : P.cellsOf 45 = 1) (S49 : P.underlying 49 = some (.struct #[f49_0, f49_1, f49_2, f49_3])) (C49 : P.cellsOf 49 = 5) (q49_0 : f49_0.type = 23 ∧ f49_0.offset = 0) (q49_1 : f49_1.type = 3 ∧ f49_1.offset = 2) (q49_2 : f49_2.type = 3 ∧ f49_2.offset = 3) (q49_3 : f49_3.type = 45 ∧ f49_3.offset = 4) (S51 : P.underlying 51 = some (.struct #[f51_0, f51_1, f51_2, f51_3])) (C51 : P.cellsOf 51 = 8) (q51_0 : f51_0.type = 49 ∧ f51_0.offset = 0) (q51_1 : f51_1.type = 3 ∧ f51_1.offset = 5) (q51_2 : f51_2.type = 3 ∧ f51_2.offset = 6) (q51_3 : f51_3.type = 3 ∧ f51_3.offset = 7) {a0 a1 a2 a3 a4 a5 a6 a7 : Int} (w0 : (Lit.int .i64 a0).wf = true) (w1 : (Lit.int .i64 a1).wf = true) (w2 : (Lit.int .i64 a2).wf = true) (w3 : (Lit.int .i64 a3).wf = true) (w4 : (Lit.int .u64 a4).wf = true) (w5 : (Lit.int .i64 a5).wf = true) (w6 : (Lit.int .i64 a6).wf = true) (w7 : (Lit.int .i64 a7).wf = true) : ∃ m, DataW.trod enc P w base spare held m 51 [.int .i64 a0, .int .i64 a1, .int .i64 a2, .int .i64 a3, .int .u64 a4, .int .i64 a5, .int .i64 a6, .int .i64 a7] = some (.agg [.agg [.agg [.lit (.int .i64 a0), .lit (.int .i64 a1)], .lit (.int .i64 a2), .lit (.int .i64 a3), .lit (.int .u64 a4)], .lit (.int .i64 a5), .lit (.int .i64 a6), .lit (.int .i64 a7)], []) := by
  obtain ⟨m0, t0⟩ := mk49 (enc := enc) (w := w) (base := base) (spare := spare) (held := held) U3 C3 S23 C23 q23_0 q23_1 U45 C45 S49 C49 q49_0 q49_1 q49_2 q49_3 w0 w1 w2 w3 w4
  obtain ⟨m1, t1⟩ := trod_word (enc := enc) (w := w) (base := base) (spare := spare) (held := held) U3 w5
  obtain ⟨m2, t2⟩ := trod_word (enc := enc) (w := w) (base := base) (spare := spare) (held := held) U3 w6
  obtain ⟨m3, t3⟩ := trod_word (enc := enc) (w := w) (base := base) (spare := spare) (held := held) U3 w7
  have u0 := DataW.trod_le (show m0 ≤ m0 + m1 + m2 + m3 by omega) t0
  have u1 := DataW.trod_le (show m1 ≤ m0 + m1 + m2 + m3 by omega) t1
  have u2 := DataW.trod_le (show m2 ≤ m0 + m1 + m2 + m3 by omega) t2
  have u3 := DataW.trod_le (show m3 ≤ m0 + m1 + m2 + m3 by omega) t3
  exact ⟨_, by simpa using trod_struct_mk (n := m0 + m1 + m2 + m3) S51 (by rw [C51]; rfl) (xs := [(.agg [.agg [.lit (.int .i64 a0), .lit (.int .i64 a1)], .lit (.int .i64 a2), .lit (.int .i64 a3), .lit (.int .u64 a4)], []), (.lit (.int .i64 a5), []), (.lit (.int .i64 a6), []), (.lit (.int .i64 a7), [])]) (by simp [q51_0.1, q51_0.2, u0, q51_1.1, q51_1.2, u1, q51_2.1, q51_2.2, u2, q51_3.1, q51_3.2, u3, C3, C49])⟩
theorem open51 {H : Type} {enc : TypeId × Value → H} {P : Program} {w : World} {base : Nat} {spare : Nat → Bool} {held : Bool} {f23_0 f23_1 f49_0 f49_1 f49_2 f49_3 f51_0 f51_1 f51_2 f51_3 : Field} (U3 : P.underlying 3 = some (.int .i64)) (C3 : P.cellsOf 3 = 1) (S23 : P.underlying 23 = some (.struct #[f23_0, f23_1])) (C23 : P.cellsOf 23 = 2) (q23_0 : f23_0.type = 3 ∧ f23_0.offset = 0) (q23_1 : f23_1.type = 3 ∧ f23_1.offset = 1) (U45 : P.underlying 45 = some (.int .u64)) (C45 : P.cellsOf 45 = 1) (S49 : P.underlying 49 = some (.struct #[f49_0, f49_1, f49_2, f49_3])) (C49 : P.cellsOf 49 = 5) (q49_0 : f49_0.type = 23 ∧ f49_0.offset = 0) (q49_1 : f49_1.type = 3 ∧ f49_1.offset = 2) (q49_2 : f49_2.type = 3 ∧ f49_2.offset = 3) (q49_3 : f49_3.type = 45 ∧ f49_3.offset = 4) (S51 : P.underlying 51 = some (.struct #[f51_0, f51_1, f51_2, f51_3])) (C51 : P.cellsOf 51 = 8) (q51_0 : f51_0.type = 49 ∧ f51_0.offset = 0) (q51_1 : f51_1.type = 3 ∧ f51_1.offset = 5) (q51_2 : f51_2.type = 3 ∧ f51_2.offset = 6) (q51_3 : f51_3.type = 3 ∧ f51_3.offset = 7) {r : Reach} {b0 : Nat} {v : Value} {d : DataW H} {p : List MemPlace} (hv : Value.okWide P w r b0 51 v) (h : DataW.Trod enc P w base spare held 51 v d p) : ∃ a0 a1 a2 a3 a4 a5 a6 a7 : Int, v = .agg #[.int .i64 a0, .int .i64 a1, .int .i64 a2, .int .i64 a3, .int .u64 a4, .int .i64 a5, .int .i64 a6, .int .i64 a7] ∧ d = .agg [.agg [.agg [.lit (.int .i64 a0), .lit (.int .i64 a1)], .lit (.int .i64 a2), .lit (.int .i64 a3), .lit (.int .u64 a4)], .lit (.int .i64 a5), .lit (.int .i64 a6), .lit (.int .i64 a7)] ∧ p = [] ∧ (Lit.int .i64 a0).wf = true ∧ (Lit.int .i64 a1).wf = true ∧ (Lit.int .i64 a2).wf = true ∧ (Lit.int .i64 a3).wf = true ∧ (Lit.int .u64 a4).wf = true ∧ (Lit.int .i64 a5).wf = true ∧ (Lit.int .i64 a6).wf = true ∧ (Lit.int .i64 a7).wf = true := by
  obtain ⟨cs, rfl, hsz⟩ := okWide_struct S51 hv
  obtain ⟨fuel, hf⟩ := h
  obtain ⟨a0, a1, a2, a3, a4, a5, a6, a7, e, hx, w0, w1, w2, w3, w4, w5, w6, w7⟩ := cut51 U3 C3 S23 C23 q23_0 q23_1 U45 C45 S49 C49 q49_0 q49_1 q49_2 q49_3 S51 C51 q51_0 q51_1 q51_2 q51_3 hf
  simp only [Prod.mk.injEq] at hx
  have e2 : cs = #[.int .i64 a0, .int .i64 a1, .int .i64 a2, .int .i64 a3, .int .u64 a4, .int .i64 a5, .int .i64 a6, .int .i64 a7] := by
    have e3 : cs.toList = [.int .i64 a0, .int .i64 a1, .int .i64 a2, .int .i64 a3, .int .u64 a4, .int .i64 a5, .int .i64 a6, .int .i64 a7] := by simpa [Value.cells] using e
    exact Array.ext' (by simpa using e3)
  subst e2
  exact ⟨a0, a1, a2, a3, a4, a5, a6, a7, rfl, hx.1, hx.2, w0, w1, w2, w3, w4, w5, w6, w7⟩
theorem shut51 {H : Type} {enc : TypeId × Value → H} {P : Program} {w : World} {base : Nat} {spare : Nat → Bool} {held : Bool} {f23_0 f23_1 f49_0 f49_1 f49_2 f49_3 f51_0 f51_1 f51_2 f51_3 : Field} (U3 : P.underlying 3 = some (.int .i64)) (C3 : P.cellsOf 3 = 1) (S23 : P.underlying 23 = some (.struct #[f23_0, f23_1])) (C23 : P.cellsOf 23 = 2) (q23_0 : f23_0.type = 3 ∧ f23_0.offset = 0) (q23_1 : f23_1.type = 3 ∧ f23_1.offset = 1) (U45 : P.underlying 45 = some (.int .u64)) (C45 : P.cellsOf 45 = 1) (S49 : P.underlying 49 = some (.struct #[f49_0, f49_1, f49_2, f49_3])) (C49 : P.cellsOf 49 = 5) (q49_0 : f49_0.type = 23 ∧ f49_0.offset = 0) (q49_1 : f49_1.type = 3 ∧ f49_1.offset = 2) (q49_2 : f49_2.type = 3 ∧ f49_2.offset = 3) (q49_3 : f49_3.type = 45 ∧ f49_3.offset = 4) (S51 : P.underlying 51 = some (.struct #[f51_0, f51_1, f51_2, f51_3])) (C51 : P.cellsOf 51 = 8) (q51_0 : f51_0.type = 49 ∧ f51_0.offset = 0) (q51_1 : f51_1.type = 3 ∧ f51_1.offset = 5) (q51_2 : f51_2.type = 3 ∧ f51_2.offset = 6) (q51_3 : f51_3.type = 3 ∧ f51_3.offset = 7) {a0 a1 a2 a3 a4 a5 a6 a7 : Int} (w0 : (Lit.int .i64 a0).wf = true) (w1 : (Lit.int .i64 a1).wf = true) (w2 : (Lit.int .i64 a2).wf = true) (w3 : (Lit.int .i64 a3).wf = true) (w4 : (Lit.int .u64 a4).wf = true) (w5 : (Lit.int .i64 a5).wf = true) (w6 : (Lit.int .i64 a6).wf = true) (w7 : (Lit.int .i64 a7).wf = true) : DataW.Trod enc P w base spare held 51 (.agg #[.int .i64 a0, .int .i64 a1, .int .i64 a2, .int .i64 a3, .int .u64 a4, .int .i64 a5, .int .i64 a6, .int .i64 a7]) (.agg [.agg [.agg [.lit (.int .i64 a0), .lit (.int .i64 a1)], .lit (.int .i64 a2), .lit (.int .i64 a3), .lit (.int .u64 a4)], .lit (.int .i64 a5), .lit (.int .i64 a6), .lit (.int .i64 a7)]) [] := by
  obtain ⟨m, t⟩ := mk51 (enc := enc) (w := w) (base := base) (spare := spare) (held := held) U3 C3 S23 C23 q23_0 q23_1 U45 C45 S49 C49 q49_0 q49_1 q49_2 q49_3 S51 C51 q51_0 q51_1 q51_2 q51_3 w0 w1 w2 w3 w4 w5 w6 w7
  exact ⟨m, by simpa [Value.cells] using t⟩
theorem tab_ok {W : World} (h : laidMetH Tryd.prog Rows.planLinesRow.laid W) : Plan.TabP W := Plan.tabP_of h
set_option maxRecDepth 100000 in
theorem lifted (os : Os) (started : os.Started) (H : Type) (enc : TypeId × Value → H) :
    ReturnsInHanded {} Tryd.checked os 5 .any (fun w args => (Rows.planLinesSpec.pre enc Tryd.prog Tryd.f5 Rows.planLinesRow.domain false w args ∧ laidMetH Tryd.prog Rows.planLinesRow.laid w) ∧ sizedMet enc Tryd.prog Tryd.f5 (OpenSpec.ofChange Rows.planLinesSpec) false w args)
      (Rows.planLinesSpec.post enc Tryd.prog Tryd.f5 false true false false) := by
  refine returnsInHanded_of_change_and (C := Tryd.checked) (X := fun w _ => laidMetH Tryd.prog Rows.planLinesRow.laid w) (fun _ _ _ hh h => h.of_heap hh) own started (by kernel_rfl) Tryd.func5
    (ChangeSpec.witness_shaped (enc := enc) (C := Tryd.checked) (os := os) (X := fun w _ => laidMetH Tryd.prog Rows.planLinesRow.laid w) false (World.laidAll Tryd.prog os Rows.planLinesRow.laid) #[.agg #[.int .i64 0, .int .i64 0, .int .i64 0, .int .i64 0, .int .u64 0, .int .i64 0, .int .i64 0, .int .i64 0]] 8 (World.laidAll_os _ _ _)
      (World.shaped_of_ZipB (by kernel_rfl) (by kernel_rfl)) (by kernel_rfl) (by kernel_rfl) (by kernel_rfl)
      (by rw [MakeChecks.laidMetH_plain _ _ _ (by kernel_rfl)]; exact laidMet_laidAll _ (by kernel_rfl) (by kernel_rfl))) ?_
  intro W base args ds gs before hval0 hW hcnd hsz0 hL _
  have hT := tab_ok hL
  clear hL
  have hval : ∀ (j : Nat) t v, Tryd.f5.params[j]? = some t → args[j]? = some v → Value.okWide Tryd.prog W .any base t v := hval0
  have hW' := hW
  obtain ⟨p, q, hA0, hV, rfl, hfz, hnd⟩ := hW
  have hA : DataW.TrodAll enc Tryd.prog W 0 (fun _ => true) true Tryd.f5.params.toList args.toList ds p := hA0
  rw [Tryd.params5] at hA hval
  obtain ⟨v0, vs0, d0, ds0, p0, q0, hargs, rfl, rfl, h0, r0⟩ := trodAll_cons hA
  obtain ⟨rfl, rfl, rfl⟩ := trodAll_nil r0
  obtain rfl : args = #[v0] := by cases args; simp_all
  obtain ⟨rfl, rfl⟩ := trodVars_none hV
  obtain ⟨a0_0, a0_1, a0_2, a0_3, a0_4, a0_5, a0_6, a0_7, rfl, rfl, rfl, w0_0, w0_1, w0_2, w0_3, w0_4, w0_5, w0_6, w0_7⟩ := open51 Tryd.underlying3 cellsq3 Tryd.underlying23 cellsq23 ⟨rfl, rfl⟩ ⟨rfl, rfl⟩ Tryd.underlying45 cellsq45 Tryd.underlying49 cellsq49 ⟨rfl, rfl⟩ ⟨rfl, rfl⟩ ⟨rfl, rfl⟩ ⟨rfl, rfl⟩ Tryd.underlying51 cellsq51 ⟨rfl, rfl⟩ ⟨rfl, rfl⟩ ⟨rfl, rfl⟩ ⟨rfl, rfl⟩ (hval 0 51 v0 rfl rfl) h0
  clear hA0 hval0 hsz0
  refine (Plan.PlanLinesRow a0_0 a0_1 a0_2 a0_3 a0_4 a0_5 a0_6 a0_7 W (bounds_i64 w0_0) (bounds_i64 w0_1) (bounds_i64 w0_2) (bounds_i64 w0_3) (by have h := bounds_u64 w0_4; omega) hT).mono fun e W' ⟨he, bel⟩ => ?_
  subst he
  exact ⟨_, rfl, _, _, _, [], _, [], hW', trodAll_mk1 (shut_bool Tryd.underlying4 _), (trodAll_cons_mk (shut51 Tryd.underlying3 cellsq3 Tryd.underlying23 cellsq23 ⟨rfl, rfl⟩ ⟨rfl, rfl⟩ Tryd.underlying45 cellsq45 Tryd.underlying49 cellsq49 ⟨rfl, rfl⟩ ⟨rfl, rfl⟩ ⟨rfl, rfl⟩ ⟨rfl, rfl⟩ Tryd.underlying51 cellsq51 ⟨rfl, rfl⟩ ⟨rfl, rfl⟩ ⟨rfl, rfl⟩ ⟨rfl, rfl⟩ w0_0 w0_1 w0_2 w0_3 w0_4 w0_5 w0_6 w0_7) trodAll_mk0), rfl, bel.frame _, fun h => by cases h⟩
theorem holds : Rows.PlanLinesSaid :=
  OpenClaim.holds_of_wide 5 Tryd.f5 rfl rfl rfl rfl rfl rfl rfl ⟨rfl, rfl, rfl, rfl, rfl⟩ rfl rfl rfl rfl rfl (by kernel_rfl) Tryd.func5 (by kernel_rfl)
    (of_decide_eq_true (by kernel_rfl)) (by unfold Func.isWrapper; first | (rw [if_pos (by decide +kernel)]; kernel_rfl) | (rw [if_neg (by decide +kernel)]; exact ⟨rfl, rfl⟩))
    (fun os started H enc _ => lifted os started H enc)
theorem card_holds : Rows.PlanLinesCardSaid :=
  Claim7.holds_tied_plain_at .later [] [.data, .data, .data, .data] true (true, "696941bff4de972c3696d3cfa195c4591816e82d847adfdc1f4af5ea81423871") false holds (fun _ h => by cases h) (by kernel_rfl) (fun _ h => by cases h) planLines_row_tie rfl ⟨rfl, rfl⟩ (by kernel_rfl) rfl
    (fun f fn hf hfn => by
      obtain rfl : f = 5 := Option.some.inj ((show Tryd.prog.funcNamed "abacist/abacistlaw24.PlanLines" = some 5 by kernel_rfl).symm.trans hf) |>.symm
      obtain rfl : fn = Tryd.f5 := (Option.some.inj (Tryd.func5.symm.trans hfn)).symm
      exact ⟨by kernel_rfl, fun j t ht => by
        rw [Tryd.params5] at ht
        have hm : t ∈ [51] := by simpa using Array.mem_of_getElem? ht
        have hall : ([51].all fun u => !Tryd.prog.wantsStandIn u) = true := by kernel_rfl
        exact (show Tryd.prog.wantsStandIn t = false by simpa using List.all_eq_true.1 hall t hm)⟩)
    (by kernel_rfl)
#print axioms card_holds
end Go.Proofs.YtpnkcjnemoompaaDoor.planLines
namespace Go.Proofs.YtpnkcjnemoompaaDoor
theorem planLines_card_holds : Rows.PlanLinesCardSaid := planLines.card_holds
end Go.Proofs.YtpnkcjnemoompaaDoor
