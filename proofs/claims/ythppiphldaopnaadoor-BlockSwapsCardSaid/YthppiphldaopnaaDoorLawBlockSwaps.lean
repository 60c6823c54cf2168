/- In a block of at most 256 words (a longer row is let pass by the law itself) two tiles change places and nothing else is written, and tiles that share a place do not: for every shape, row, tile and place, without a condition beside the library's table, which the card ties. -/
import Derived.Test.YthppiphldaopnaaDoorRows
import Derived.Test.YthppiphldaopnaaDoorCards
import Derived.Test.YthppiphldaopnaaDoorTie
import Derived.Test.YthppiphldaopnaaDoorBlockQ
import Derived.WalkKit
import Derived.ProofKit
import Derived.OpenShut
import Derived.ShutString
import Derived.ChangeOld
import Derived.Below
import Derived.SizedLaws
import Derived.Lib.SmallJoins
import Derived.LaidMore
import Derived.Lay
import Derived.SevenTiedAt
import Derived.Stop.Joined
import Derived.Stop.LaidErr
import Derived.Lib.LaidTab
import Derived.Test.YthppiphldaopnaaDoorWSized
namespace Go.Proofs.YthppiphldaopnaaDoor.blockSwaps
open Go.ChangeShapes Go.WideShapes Go.ChangeAt Go.RowKit Go.Joins
open Go.ChangeMaps (open_string shut_string)
set_option linter.unusedVariables false
set_option linter.unusedSimpArgs false
theorem own : ownKnob Tryd.prog.godebug = none := by kernel_rfl
theorem cells26 : Tryd.prog.cellsOf 26 = 2 := by kernel_rfl
theorem cells38 : Tryd.prog.cellsOf 38 = 4 := by kernel_rfl
theorem cellsq3 : Tryd.prog.cellsOf 3 = 1 := by kernel_rfl
theorem cellsq26 : Tryd.prog.cellsOf 26 = 2 := by kernel_rfl
theorem cellsq38 : Tryd.prog.cellsOf 38 = 4 := by kernel_rfl
theorem laidOut : laidOutB Tryd.prog = true := by kernel_rfl
def IsRow (k : IntKind) (w : World) (a : Option Addr) (len cap : Nat) (zs : List Int) : Prop :=
  (a = none ∧ len = 0 ∧ cap = 0 ∧ zs = []) ∨
  ∃ x, a = some x ∧ len ≤ cap ∧ cap ≤ maxLen ∧ zs.length = cap ∧ (∀ i, i < zs.length → w.cell? (x.add i) = some (.int k (zs.getD i 0))) ∧ ∀ n ∈ zs, (Lit.int k n).wf = true
theorem trod_word {H : Type} {enc : TypeId × Value → H} {P : Program} {w : World} {base : Nat} {spare : Nat → Bool} {held : Bool} {t : TypeId} {k : IntKind} {n : Int} (ht : P.underlying t = some (.int k)) (hw : (Lit.int k n).wf = true) : ∃ m, DataW.trod enc P w base spare held m t [.int k n] = some (.lit (.int k n), []) := ⟨1, by simp [DataW.trod, ht, hw]⟩
theorem list_2 {α : Type} {l : List α} (h : l.length = 2) : ∃ c0 c1, l = [c0, c1] := by
  match l, h with
  | [c0, c1], _ => exact ⟨c0, c1, rfl⟩
theorem list_3 {α : Type} {l : List α} (h : l.length = 3) : ∃ c0 c1 c2, l = [c0, c1, c2] := by
  match l, h with
  | [c0, c1, c2], _ => exact ⟨c0, c1, c2, rfl⟩
theorem list_4 {α : Type} {l : List α} (h : l.length = 4) : ∃ c0 c1 c2 c3, l = [c0, c1, c2, c3] := by
  match l, h with
  | [c0, c1, c2, c3], _ => exact ⟨c0, c1, c2, c3, rfl⟩
theorem cut26 {H : Type} {enc : TypeId × Value → H} {P : Program} {w : World} {base : Nat} {spare : Nat → Bool} {held : Bool} {f26_0 f26_1 : Field} (U3 : P.underlying 3 = some (.int .i64)) (C3 : P.cellsOf 3 = 1) (S26 : P.underlying 26 = some (.struct #[f26_0, f26_1])) (C26 : P.cellsOf 26 = 2) (q26_0 : f26_0.type = 3 ∧ f26_0.offset = 0) (q26_1 : f26_1.type = 3 ∧ f26_1.offset = 1) {fuel : Nat} {cs : List Value} {x : DataW H × List MemPlace} (h : DataW.trod enc P w base spare held fuel 26 cs = some x) : ∃ a0 a1 : Int, cs = [.int .i64 a0, .int .i64 a1] ∧ x = (.agg [.lit (.int .i64 a0), .lit (.int .i64 a1)], []) ∧ (Lit.int .i64 a0).wf = true ∧ (Lit.int .i64 a1).wf = true := by
  obtain ⟨xs, n, rfl, rfl, hl, hlen, hf⟩ := DataW.trod_struct S26 h
  obtain ⟨c0, c1, rfl⟩ := list_2 (hl.trans C26)
  obtain ⟨y0, y1, rfl⟩ := list_2 (show xs.length = 2 from hlen)
  have h0 : DataW.trod enc P w base spare held n 3 [c0] = some y0 := by
    have := hf 0 _ rfl
    simpa [q26_0.1, q26_0.2, C3] using this
  obtain ⟨a0, e0, rfl, w0⟩ := DataW.trod_int U3 h0
  simp only [List.cons.injEq, and_true] at e0
  subst e0
  have h1 : DataW.trod enc P w base spare held n 3 [c1] = some y1 := by
    have := hf 1 _ rfl
    simpa [q26_1.1, q26_1.2, C3] using this
  obtain ⟨a1, e1, rfl, w1⟩ := DataW.trod_int U3 h1
  simp only [List.cons.injEq, and_true] at e1
  subst e1
  exact ⟨_, _, rfl, rfl, w0, w1⟩
theorem mk26 {H : Type} {enc : TypeId × Value → H} {P : Program} {w : World} {base : Nat} {spare : Nat → Bool} {held : Bool} {f26_0 f26_1 : Field} (U3 : P.underlying 3 = some (.int .i64)) (C3 : P.cellsOf 3 = 1) (S26 : P.underlying 26 = some (.struct #[f26_0, f26_1])) (C26 : P.cellsOf 26 = 2) (q26_0 : f26_0.type = 3 ∧ f26_0.offset = 0) (q26_1 : f26_1.type = 3 ∧ f26_1.offset = 1) {a0 a1 : Int} (w0 : (Lit.int .i64 a0).wf = true) (w1 : (Lit.int .i64 a1).wf = true) : ∃ m, DataW.trod enc P w base spare held m 26 [.int .i64 a0, .int .i64 a1] = some (.agg [.lit (.int .i64 a0), .lit (.int .i64 a1)], []) := by
  obtain ⟨m0, t0⟩ := trod_word (enc := enc) (w := w) (base := base) (spare := spare) (held := held) U3 w0
  obtain ⟨m1, t1⟩ := trod_word (enc := enc) (w := w) (base := base) (spare := spare) (held := held) U3 w1
  have u0 := DataW.trod_le (show m0 ≤ m0 + m1 by omega) t0
  have u1 := DataW.trod_le (show m1 ≤ m0 + m1 by omega) t1
  exact ⟨_, by simpa using trod_struct_mk (n := m0 + m1) S26 (by rw [C26]; rfl) (xs := [(.lit (.int .i64 a0), []), (.lit (.int .i64 a1), [])]) (by simp [q26_0.1, q26_0.2, u0, q26_1.1, q26_1.2, u1, C3])⟩
theorem open26 {H : Type} {enc : TypeId × Value → H} {P : Program} {w : World} {base : Nat} {spare : Nat → Bool} {held : Bool} {f26_0 f26_1 : Field} (U3 : P.underlying 3 = some (.int .i64)) (C3 : P.cellsOf 3 = 1) (S26 : P.underlying 26 = some (.struct #[f26_0, f26_1])) (C26 : P.cellsOf 26 = 2) (q26_0 : f26_0.type = 3 ∧ f26_0.offset = 0) (q26_1 : f26_1.type = 3 ∧ f26_1.offset = 1) {r : Reach} {b0 : Nat} {v : Value} {d : DataW H} {p : List MemPlace} (hv : Value.okWide P w r b0 26 v) (h : DataW.Trod enc P w base spare held 26 v d p) : ∃ a0 a1 : Int, v = .agg #[.int .i64 a0, .int .i64 a1] ∧ d = .agg [.lit (.int .i64 a0), .lit (.int .i64 a1)] ∧ p = [] ∧ (Lit.int .i64 a0).wf = true ∧ (Lit.int .i64 a1).wf = true := by
  obtain ⟨cs, rfl, hsz⟩ := okWide_struct S26 hv
  obtain ⟨fuel, hf⟩ := h
  obtain ⟨a0, a1, e, hx, w0, w1⟩ := cut26 U3 C3 S26 C26 q26_0 q26_1 hf
  simp only [Prod.mk.injEq] at hx
  have e2 : cs = #[.int .i64 a0, .int .i64 a1] := by
    have e3 : cs.toList = [.int .i64 a0, .int .i64 a1] := by simpa [Value.cells] using e
    exact Array.ext' (by simpa using e3)
  subst e2
  exact ⟨a0, a1, rfl, hx.1, hx.2, w0, w1⟩
theorem shut26 {H : Type} {enc : TypeId × Value → H} {P : Program} {w : World} {base : Nat} {spare : Nat → Bool} {held : Bool} {f26_0 f26_1 : Field} (U3 : P.underlying 3 = some (.int .i64)) (C3 : P.cellsOf 3 = 1) (S26 : P.underlying 26 = some (.struct #[f26_0, f26_1])) (C26 : P.cellsOf 26 = 2) (q26_0 : f26_0.type = 3 ∧ f26_0.offset = 0) (q26_1 : f26_1.type = 3 ∧ f26_1.offset = 1) {a0 a1 : Int} (w0 : (Lit.int .i64 a0).wf = true) (w1 : (Lit.int .i64 a1).wf = true) : DataW.Trod enc P w base spare held 26 (.agg #[.int .i64 a0, .int .i64 a1]) (.agg [.lit (.int .i64 a0), .lit (.int .i64 a1)]) [] := by
  obtain ⟨m, t⟩ := mk26 (enc := enc) (w := w) (base := base) (spare := spare) (held := held) U3 C3 S26 C26 q26_0 q26_1 w0 w1
  exact ⟨m, by simpa [Value.cells] using t⟩
theorem cut38 {H : Type} {enc : TypeId × Value → H} {P : Program} {w : World} {base : Nat} {spare : Nat → Bool} {held : Bool} {f26_0 f26_1 f38_0 f38_1 f38_2 : Field} (U3 : P.underlying 3 = some (.int .i64)) (C3 : P.cellsOf 3 = 1) (S26 : P.underlying 26 = some (.struct #[f26_0, f26_1])) (C26 : P.cellsOf 26 = 2) (q26_0 : f26_0.type = 3 ∧ f26_0.offset = 0) (q26_1 : f26_1.type = 3 ∧ f26_1.offset = 1) (S38 : P.underlying 38 = some (.struct #[f38_0, f38_1, f38_2])) (C38 : P.cellsOf 38 = 4) (q38_0 : f38_0.type = 26 ∧ f38_0.offset = 0) (q38_1 : f38_1.type = 3 ∧ f38_1.offset = 2) (q38_2 : f38_2.type = 3 ∧ f38_2.offset = 3) {fuel : Nat} {cs : List Value} {x : DataW H × List MemPlace} (h : DataW.trod enc P w base spare held fuel 38 cs = some x) : ∃ a0 a1 a2 a3 : Int, cs = [.int .i64 a0, .int .i64 a1, .int .i64 a2, .int .i64 a3] ∧ x = (.agg [.agg [.lit (.int .i64 a0), .lit (.int .i64 a1)], .lit (.int .i64 a2), .lit (.int .i64 a3)], []) ∧ (Lit.int .i64 a0).wf = true ∧ (Lit.int .i64 a1).wf = true ∧ (Lit.int .i64 a2).wf = true ∧ (Lit.int .i64 a3).wf = true := by
  obtain ⟨xs, n, rfl, rfl, hl, hlen, hf⟩ := DataW.trod_struct S38 h
  obtain ⟨c0, c1, c2, c3, rfl⟩ := list_4 (hl.trans C38)
  obtain ⟨y0, y1, y2, rfl⟩ := list_3 (show xs.length = 3 from hlen)
  have h0 : DataW.trod enc P w base spare held n 26 [c0, c1] = some y0 := by
    have := hf 0 _ rfl
    simpa [q38_0.1, q38_0.2, C26] using this
  obtain ⟨a0, a1, e0, rfl, w0, w1⟩ := cut26 U3 C3 S26 C26 q26_0 q26_1 h0
  simp only [List.cons.injEq, and_true] at e0
  obtain ⟨rfl, rfl⟩ := e0
  have h1 : DataW.trod enc P w base spare held n 3 [c2] = some y1 := by
    have := hf 1 _ rfl
    simpa [q38_1.1, q38_1.2, C3] using this
  obtain ⟨a2, e1, rfl, w2⟩ := DataW.trod_int U3 h1
  simp only [List.cons.injEq, and_true] at e1
  subst e1
  have h2 : DataW.trod enc P w base spare held n 3 [c3] = some y2 := by
    have := hf 2 _ rfl
    simpa [q38_2.1, q38_2.2, C3] using this
  obtain ⟨a3, e2, rfl, w3⟩ := DataW.trod_int U3 h2
  simp only [List.cons.injEq, and_true] at e2
  subst e2
  exact ⟨_, _, _, _, rfl, rfl, w0, w1, w2, w3⟩
theorem mk38 {H : Type} {enc : TypeId × Value → H} {P : Program} {w : World} {base : Nat} {spare : Nat → Bool} {held : Bool} {f26_0 f26_1 f38_0 f38_1 f38_2 : Field} (U3 : P.underlying 3 = some (.int .i64)) (C3 : P.cellsOf 3 = 1) (S26 : P.underlying 26 = some (.struct #[f26_0, f26_1])) (C26 : P.cellsOf 26 = 2) (q26_0 : f26_0.type = 3 ∧ f26_0.offset = 0) (q26_1 : f26_1.type = 3 ∧ f26_1.offset = 1) (S38 : P.underlying 38 = some (.struct #[f38_0, f38_1, f38_2])) (C38 : P.cellsOf 38 = 4) (q38_0 : f38_0.type = 26 ∧ f38_0.offset = 0) (q38_1 : f38_1.type = 3 ∧ f38_1.offset = 2) (q38_2 : f38_2.type = 3 ∧ f38_2.offset = 3) {a0 a1 a2 a3 : Int} (w0 : (Lit.int .i64 a0).wf = true) (w1 : (Lit.int .i64 a1).wf = true) (w2 : (Lit.int .i64 a2).wf = true) (w3 : (Lit.int .i64 a3).wf = true) : ∃ m, DataW.trod enc P w base spare held m 38 [.int .i64 a0, .int .i64 a1, .int .i64 a2, .int .i64 a3] = some (.agg [.agg [.lit (.int .i64 a0), .lit (.int .i64 a1)], .lit (.int .i64 a2), .lit (.int .i64 a3)], []) := by
  obtain ⟨m0, t0⟩ := mk26 (enc := enc) (w := w) (base := base) (spare := spare) (held := held) U3 C3 S26 C26 q26_0 q26_1 w0 w1
  obtain ⟨m1, t1⟩ := trod_word (enc := enc) (w := w) (base := base) (spare := spare) (held := held) U3 w2
  obtain ⟨m2, t2⟩ := trod_word (enc := enc) (w := w) (base := base) (spare := spare) (held := held) U3 w3
  have u0 := DataW.trod_le (show m0 ≤ m0 + m1 + m2 by omega) t0
  have u1 := DataW.trod_le (show m1 ≤ m0 + m1 + m2 by omega) t1
  have u2 := DataW.trod_le (show m2 ≤ m0 + m1 + m2 by omega) t2
  exact ⟨_, by simpa using trod_struct_mk (n := m0 + m1 + m2) S38 (by rw [C38]; rfl) (xs := [(.agg [.lit (.int .i64 a0), .lit (.int .i64 a1)], []), (.lit (.int .i64 a2), []), (.lit (.int .i64 a3), [])]) (by simp [q38_0.1, q38_0.2, u0, q38_1.1, q38_1.2, u1, q38_2.1, q38_2.2, u2, C26, C3])⟩
theorem open38 {H : Type} {enc : TypeId × Value → H} {P : Program} {w : World} {base : Nat} {spare : Nat → Bool} {held : Bool} {f26_0 f26_1 f38_0 f38_1 f38_2 : Field} (U3 : P.underlying 3 = some (.int .i64)) (C3 : P.cellsOf 3 = 1) (S26 : P.underlying 26 = some (.struct #[f26_0, f26_1])) (C26 : P.cellsOf 26 = 2) (q26_0 : f26_0.type = 3 ∧ f26_0.offset = 0) (q26_1 : f26_1.type = 3 ∧ f26_1.offset = 1) (S38 : P.underlying 38 = some (.struct #[f38_0, f38_1, f38_2])) (C38 : P.cellsOf 38 = 4) (q38_0 : f38_0.type = 26 ∧ f38_0.offset = 0) (q38_1 : f38_1.type = 3 ∧ f38_1.offset = 2) (q38_2 : f38_2.type = 3 ∧ f38_2.offset = 3) {r : Reach} {b0 : Nat} {v : Value} {d : DataW H} {p : List MemPlace} (hv : Value.okWide P w r b0 38 v) (h : DataW.Trod enc P w base spare held 38 v d p) : ∃ a0 a1 a2 a3 : Int, v = .agg #[.int .i64 a0, .int .i64 a1, .int .i64 a2, .int .i64 a3] ∧ d = .agg [.agg [.lit (.int .i64 a0), .lit (.int .i64 a1)], .lit (.int .i64 a2), .lit (.int .i64 a3)] ∧ p = [] ∧ (Lit.int .i64 a0).wf = true ∧ (Lit.int .i64 a1).wf = true ∧ (Lit.int .i64 a2).wf = true ∧ (Lit.int .i64 a3).wf = true := by
  obtain ⟨cs, rfl, hsz⟩ := okWide_struct S38 hv
  obtain ⟨fuel, hf⟩ := h
  obtain ⟨a0, a1, a2, a3, e, hx, w0, w1, w2, w3⟩ := cut38 U3 C3 S26 C26 q26_0 q26_1 S38 C38 q38_0 q38_1 q38_2 hf
  simp only [Prod.mk.injEq] at hx
  have e2 : cs = #[.int .i64 a0, .int .i64 a1, .int .i64 a2, .int .i64 a3] := by
    have e3 : cs.toList = [.int .i64 a0, .int .i64 a1, .int .i64 a2, .int .i64 a3] := by simpa [Value.cells] using e
    exact Array.ext' (by simpa using e3)
  subst e2
  exact ⟨a0, a1, a2, a3, rfl, hx.1, hx.2, w0, w1, w2, w3⟩
theorem shut38 {H : Type} {enc : TypeId × Value → H} {P : Program} {w : World} {base : Nat} {spare : Nat → Bool} {held : Bool} {f26_0 f26_1 f38_0 f38_1 f38_2 : Field} (U3 : P.underlying 3 = some (.int .i64)) (C3 : P.cellsOf 3 = 1) (S26 : P.underlying 26 = some (.struct #[f26_0, f26_1])) (C26 : P.cellsOf 26 = 2) (q26_0 : f26_0.type = 3 ∧ f26_0.offset = 0) (q26_1 : f26_1.type = 3 ∧ f26_1.offset = 1) (S38 : P.underlying 38 = some (.struct #[f38_0, f38_1, f38_2])) (C38 : P.cellsOf 38 = 4) (q38_0 : f38_0.type = 26 ∧ f38_0.offset = 0) (q38_1 : f38_1.type = 3 ∧ f38_1.offset = 2) (q38_2 : f38_2.type = 3 ∧ f38_2.offset = 3) {a0 a1 a2 a3 : Int} (w0 : (Lit.int .i64 a0).wf = true) (w1 : (Lit.int .i64 a1).wf = true) (w2 : (Lit.int .i64 a2).wf = true) (w3 : (Lit.int .i64 a3).wf = true) : DataW.Trod enc P w base spare held 38 (.agg #[.int .i64 a0, .int .i64 a1, .int .i64 a2, .int .i64 a3]) (.agg [.agg [.lit (.int .i64 a0), .lit (.int .i64 a1)], .lit (.int .i64 a2), .lit (.int .i64 a3)]) [] := by
  obtain ⟨m, t⟩ := mk38 (enc := enc) (w := w) (base := base) (spare := spare) (held := held) U3 C3 S26 C26 q26_0 q26_1 S38 C38 q38_0 q38_1 q38_2 w0 w1 w2 w3
  exact ⟨m, by simpa [Value.cells] using t⟩
theorem tab_ok {W : World} (h : laidMetH Tryd.prog Rows.blockSwapsRow.laid W) : Ext.TabOK W := by
  rw [MakeChecks.laidMetH_plain _ _ _ (by kernel_rfl)] at h
  have h0 := h
  have hT : Lib.TabIs Tryd.prog W "math/bits.deBruijn64tab" .u8 (Lib.deBruijn64tab.map fun (n : Nat) => (n : Int)) := Lib.tabIs_of_head (g := 1) (t := 105) (e := 5) (n := 64) (rest := []) (by kernel_rfl) (by kernel_rfl) Tryd.underlying105 Tryd.underlying5 (by kernel_rfl) (by kernel_rfl) h0
  refine ⟨fun j hj => ?_⟩
  have hc := hT.cell (g := 1) (by kernel_rfl) j (by rw [List.length_map]; exact hj)
  rw [hc]
  have hl : j < Lib.deBruijn64tab.length := hj
  simp [List.getD, hl]
set_option maxRecDepth 100000 in
theorem lifted (os : Os) (started : os.Started) (H : Type) (enc : TypeId × Value → H) :
    ReturnsInHanded {} Tryd.checked os 10 .any (fun w args => (Rows.blockSwapsSpec.pre enc Tryd.prog Tryd.f10 Rows.blockSwapsRow.domain false w args ∧ laidMetH Tryd.prog Rows.blockSwapsRow.laid w) ∧ sizedMet enc Tryd.prog Tryd.f10 (OpenSpec.ofChange Rows.blockSwapsSpec) false w args)
      (Rows.blockSwapsSpec.post enc Tryd.prog Tryd.f10 false true false false) := by
  refine returnsInHanded_of_change_and (C := Tryd.checked) (X := fun w _ => laidMetH Tryd.prog Rows.blockSwapsRow.laid w) (fun _ _ _ hh h => h.of_heap hh) own started (by kernel_rfl) Tryd.func10
    (ChangeSpec.witness_shaped (enc := enc) (C := Tryd.checked) (os := os) (X := fun w _ => laidMetH Tryd.prog Rows.blockSwapsRow.laid w) false (World.laidAll Tryd.prog os Rows.blockSwapsRow.laid) #[.agg #[.int .i64 0, .int .i64 0], .slice none 0 0, .agg #[.int .i64 0, .int .i64 0, .int .i64 0, .int .i64 0], .int .i64 0, .int .i64 0] 8 (World.laidAll_os _ _ _)
      (World.shaped_of_ZipB (by kernel_rfl) (by kernel_rfl)) (by kernel_rfl) (by kernel_rfl) (by kernel_rfl)
      (by rw [MakeChecks.laidMetH_plain _ _ _ (by kernel_rfl)]; exact laidMet_laidAll _ (by kernel_rfl) (by kernel_rfl))) ?_
  intro W base args ds gs before hval0 hW hcnd hsz0 hL _
  have hT := tab_ok hL
  clear hL
  have hsz : (DataW.weightsEach Tryd.prog (Tryd.f10.params.toList ++ Rows.blockSwapsSpec.plain.varTypes Tryd.prog) (ds ++ gs)).all (· ≤ reachBytes) = true := hsz0
  have hval : ∀ (j : Nat) t v, Tryd.f10.params[j]? = some t → args[j]? = some v → Value.okWide Tryd.prog W .any base t v := hval0
  have hW' := hW
  obtain ⟨p, q, hA0, hV, rfl, hfz, hnd⟩ := hW
  have hA : DataW.TrodAll enc Tryd.prog W 0 (fun _ => true) true Tryd.f10.params.toList args.toList ds p := hA0
  rw [Tryd.params10] at hA hval hsz
  obtain ⟨v0, vs0, d0, ds0, p0, q0, hargs, rfl, rfl, h0, r0⟩ := trodAll_cons hA
  obtain ⟨v1, vs1, d1, ds1, p1, q1, rfl, rfl, rfl, h1, r1⟩ := trodAll_cons r0
  obtain ⟨v2, vs2, d2, ds2, p2, q2, rfl, rfl, rfl, h2, r2⟩ := trodAll_cons r1
  obtain ⟨v3, vs3, d3, ds3, p3, q3, rfl, rfl, rfl, h3, r3⟩ := trodAll_cons r2
  obtain ⟨v4, vs4, d4, ds4, p4, q4, rfl, rfl, rfl, h4, r4⟩ := trodAll_cons r3
  obtain ⟨rfl, rfl, rfl⟩ := trodAll_nil r4
  obtain rfl : args = #[v0, v1, v2, v3, v4] := by cases args; simp_all
  obtain ⟨rfl, rfl⟩ := trodVars_none hV
  obtain ⟨c0_0, c0_1, y0_0, y0_1, m0, rfl, rfl, rfl, hy0_0, hy0_1⟩ := open_agg2 Tryd.underlying26 (by kernel_rfl) cells26 (hval 0 26 v0 rfl rfl) h0
  obtain ⟨a0_0, e0_0, rfl, w0_0⟩ := DataW.trod_int Tryd.underlying3 hy0_0
  simp only [List.cons.injEq, and_true] at e0_0
  subst e0_0
  obtain ⟨a0_1, e0_1, rfl, w0_1⟩ := DataW.trod_int Tryd.underlying3 hy0_1
  simp only [List.cons.injEq, and_true] at e0_1
  subst e0_1
  obtain ⟨a1, len1, cap1, rfl⟩ := okWide_slice Tryd.underlying47 (hval 1 47 v1 rfl rfl)
  have k1 := h1
  have lt1 : ∀ x ∈ p1, x.block < W.heap.size := by obtain ⟨m, hm⟩ := k1; exact DataW.trod_lt m _ _ _ hm
  obtain ⟨z1, w1⟩ : ∃ zs, IsRow .u64 W a1 len1 cap1 zs := by
    obtain ⟨fuel, hf⟩ := h1
    rcases open_ints Tryd.underlying47 Tryd.underlying66 (by kernel_rfl) hf with ⟨hcs, _⟩ | ⟨x, l, c, zs, hcs, _, hl, hm, hz, _, hcell, hwz⟩
    · simp [Value.cells] at hcs
      obtain ⟨rfl, rfl, rfl⟩ := hcs
      exact ⟨[], .inl ⟨rfl, rfl, rfl, rfl⟩⟩
    · simp [Value.cells] at hcs
      obtain ⟨rfl, rfl, rfl⟩ := hcs
      exact ⟨zs, .inr ⟨_, rfl, hl, hm, by simpa using hz, hcell, hwz⟩⟩
  have y1 : len1 * 8 ≤ 140737488351232 := YthppiphldaopnaaDoorW.PrintWords.sized_ints hsz (j := 1) (t := 47) rfl rfl Tryd.underlying47 Tryd.underlying66 (by kernel_rfl) (by kernel_rfl) h1
  obtain ⟨a2_0, a2_1, a2_2, a2_3, rfl, rfl, rfl, w2_0, w2_1, w2_2, w2_3⟩ := open38 Tryd.underlying3 cellsq3 Tryd.underlying26 cellsq26 ⟨rfl, rfl⟩ ⟨rfl, rfl⟩ Tryd.underlying38 cellsq38 ⟨rfl, rfl⟩ ⟨rfl, rfl⟩ ⟨rfl, rfl⟩ (hval 2 38 v2 rfl rfl) h2
  obtain ⟨a3, rfl, rfl, rfl, w3⟩ := open_int Tryd.underlying3 (hval 3 3 v3 rfl rfl) h3
  obtain ⟨a4, rfl, rfl, rfl, w4⟩ := open_int Tryd.underlying3 (hval 4 3 v4 rfl rfl) h4
  clear hA0 hval0 hsz0 hsz
  refine (Obj.BlockSwapsRow a0_0 a0_1 a1 len1 cap1 z1 a2_0 a2_1 a2_2 a2_3 a3 a4 W w1 hT).mono fun e W' ⟨he, bel⟩ => ?_
  subst he
  exact ⟨_, rfl, _, _, _, [], _, [], hW', trodAll_mk1 (shut_bool Tryd.underlying4 _), (trodAll_cons_mk (shut_agg2 (y0 := (.lit (.int .i64 a0_0), [])) (y1 := (.lit (.int .i64 a0_1), [])) Tryd.underlying26 (by kernel_rfl) cells26 (trod_word Tryd.underlying3 w0_0) (trod_word Tryd.underlying3 w0_1)) (trodAll_cons_mk (Below.trod laidOut (by kernel_rfl) (of_decide_eq_true (by kernel_rfl)) k1 bel lt1) (trodAll_cons_mk (shut38 Tryd.underlying3 cellsq3 Tryd.underlying26 cellsq26 ⟨rfl, rfl⟩ ⟨rfl, rfl⟩ Tryd.underlying38 cellsq38 ⟨rfl, rfl⟩ ⟨rfl, rfl⟩ ⟨rfl, rfl⟩ w2_0 w2_1 w2_2 w2_3) (trodAll_cons_mk (shut_int Tryd.underlying3 w3) (trodAll_cons_mk (shut_int Tryd.underlying3 w4) trodAll_mk0))))), rfl, bel.frame _, fun h => by cases h⟩
theorem holds : Rows.BlockSwapsSaid :=
  OpenClaim.holds_of_wide 10 Tryd.f10 rfl rfl rfl rfl rfl rfl rfl ⟨rfl, rfl, rfl, rfl, rfl⟩ rfl rfl rfl rfl rfl (by kernel_rfl) Tryd.func10 (by kernel_rfl)
    (of_decide_eq_true (by kernel_rfl)) (by unfold Func.isWrapper; first | (rw [if_pos (by decide +kernel)]; kernel_rfl) | (rw [if_neg (by decide +kernel)]; exact ⟨rfl, rfl⟩))
    (fun os started H enc _ => lifted os started H enc)
theorem card_holds : Rows.BlockSwapsCardSaid :=
  Claim7.holds_tied_plain_at .later [] [.data] true (true, "bd36033e82c044c237638941c59eb71c6b6c8de17c766f9db306cb310a148b28") false holds (fun _ h => by cases h) (by kernel_rfl) (fun _ h => by cases h) blockSwaps_row_tie rfl ⟨rfl, rfl⟩ (by kernel_rfl) rfl
    (fun f fn hf hfn => by
      obtain rfl : f = 10 := Option.some.inj ((show Tryd.prog.funcNamed "abacist/abacistlaw12.BlockSwaps" = some 10 by kernel_rfl).symm.trans hf) |>.symm
      obtain rfl : fn = Tryd.f10 := (Option.some.inj (Tryd.func10.symm.trans hfn)).symm
      exact ⟨by kernel_rfl, fun j t ht => by
        rw [Tryd.params10] at ht
        have hm : t ∈ [26, 47, 38, 3, 3] := by simpa using Array.mem_of_getElem? ht
        have hall : ([26, 47, 38, 3, 3].all fun u => !Tryd.prog.wantsStandIn u) = true := by kernel_rfl
        exact (show Tryd.prog.wantsStandIn t = false by simpa using List.all_eq_true.1 hall t hm)⟩)
    (by kernel_rfl)
#print axioms card_holds
end Go.Proofs.YthppiphldaopnaaDoor.blockSwaps
namespace Go.Proofs.YthppiphldaopnaaDoor
theorem blockSwaps_card_holds : Rows.BlockSwapsCardSaid := blockSwaps.card_holds
end Go.Proofs.YthppiphldaopnaaDoor
