import Derived.Test.YtpnkcjnemoompaaDoorPlanE
import Derived.Test.YtpnkcjnemoompaaDoorObj
import Derived.Test.YtpnkcjnemoompaaDoorShelf
/-! Plan: the tables, and Itoa. -/
namespace Go.Proofs.YtpnkcjnemoompaaDoor.Plan
open Go.RowKit Go.Proofs.YtpnkcjnemoompaaDoor Go.Proofs.YtpnkcjnemoompaaDoor.Ext Go.Proofs.YtpnkcjnemoompaaDoor.PPlan Go.Proofs.YtpnkcjnemoompaaDoor.Pure Go.Proofs.YtpnkcjnemoompaaDoorW.PrintWords Go.Proofs.YtpnkcjnemoompaaDoorW.PrintLast Go.Proofs.YtpnkcjnemoompaaDoorW.PrintMore
set_option linter.unusedVariables false
set_option linter.unusedSimpArgs false
set_option maxRecDepth 100000

/-- The words of the extents. -/
def extw (n : Nat) : ByteArray := if n = 0 then ⟨#[105, 110, 112, 117, 116]⟩ else if n = 1 then ⟨#[108, 101, 102, 116]⟩ else if n = 2 then ⟨#[114, 105, 103, 104, 116]⟩ else ⟨#[111, 117, 116, 112, 117, 116]⟩
theorem pow_g : Tryd.prog.globalNamed "internal/strconv.uint64pow10" = some 2 := by kernel_rfl
structure TabP (w : World) : Prop where
  ext : ∀ j, j < 4 → w.cell? ⟨0, j, none⟩ = some (.string (extw j))
  pow : Lib.TabIs Tryd.prog w "internal/strconv.uint64pow10" .u64 Lib.pow10Tab
  bits : TabOK w
theorem tab_below {n : String} {g : Nat} {k : IntKind} {zs : List Int} {w w' : World} (hg : Tryd.prog.globalNamed n = some g) (h : Lib.TabIs Tryd.prog w n k zs) (hb : Below w.heap.size w w') (hz : zs ≠ []) : Lib.TabIs Tryd.prog w' n k zs := by
  unfold Lib.TabIs World.var? at *
  rw [hg] at h ⊢
  simp only [Option.bind_some] at h ⊢
  have hlt : g < w.heap.size := by
    rcases Nat.lt_or_ge g w.heap.size with q | q
    · exact q
    · rw [Array.getElem?_eq_none q] at h
      simp at h
  rw [hb.block g hlt]
  exact h
theorem below_grow (w : World) (os : Array Obj) : Below w.heap.size w (Go.Sort.grow w os) := by
  refine ⟨rfl, rfl, rfl, by simp [Go.Sort.grow], fun k hk => ?_⟩
  simp [Go.Sort.grow, Array.getElem?_append, hk]
theorem itoa_calls (n : Int) (w : World) (h0 : -9223372036854775808 ≤ n) (h1 : n ≤ 9223372036854775807) (hT : TabP w) : Calls Tryd.prog 80 #[.int .i64 n] w fun e w' => e = .returned (.string ⟨(Lib.itoa n).toArray⟩) ∧ Below w.heap.size w w' :=
  (Lay.strconv_Itoa n h0 h1 w hT.pow).mono fun _ _ ⟨he, k, os, hw⟩ => ⟨he, by subst hw; exact (pw_below_drewN (Below.refl w.heap.size w) k).trans (below_grow (w.drewN k) os)⟩
end Go.Proofs.YtpnkcjnemoompaaDoor.Plan
