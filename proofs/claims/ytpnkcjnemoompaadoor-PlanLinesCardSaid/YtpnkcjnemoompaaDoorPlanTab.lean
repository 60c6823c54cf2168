import Derived.Test.YtpnkcjnemoompaaDoorPlanF
import Derived.Test.YtpnkcjnemoompaaDoorRows
import Derived.Test.YtpnkcjnemoompaaDoorTie
import Derived.Stop.LaidErr
import Derived.MakeChecks
import Derived.OpenShut
import Derived.ChangeArms
/-! Plan: the four tables, out of what the row lists. -/
namespace Go.Proofs.YtpnkcjnemoompaaDoor.Plan
open Go.RowKit Go.Proofs.YtpnkcjnemoompaaDoor Go.Proofs.YtpnkcjnemoompaaDoor.Ext Go.Proofs.YtpnkcjnemoompaaDoorW.PrintWords
set_option linter.unusedVariables false
set_option linter.unusedSimpArgs false

def strData {H : Type} (ss : List (List UInt8)) : DataW H := .agg (ss.map fun s => .lit (.string s))
/-- An array of strings that reads as the table holds the table's strings, cell for cell. -/
theorem cells_of_strs {H : Type} {enc : TypeId × Value → H} {P : Program} {w : World} {base : Nat} {sp : Nat → Bool} {held : Bool} {fuel : Nat} {t e : TypeId} {n : Nat} {cs : List Value} {ss : List (List UInt8)} {p : List MemPlace}
    (ht : P.underlying t = some (.array n e)) (he : P.underlying e = some .string) (hce : P.cellsOf e = 1) (hct : P.cellsOf t = n)
    (h : DataW.trod enc P w base sp held fuel t cs = some (strData ss, p)) : cs = ss.map fun s => Value.string ⟨s.toArray⟩ := by
  cases fuel with
  | zero => simp [DataW.trod] at h
  | succ fuel =>
    simp only [DataW.trod, ht, hce, hct, Nat.mul_one] at h
    split at h
    · rename_i hl
      obtain ⟨xs, hm, hx⟩ := Option.map_eq_some_iff.1 h
      have hxs : xs.map (·.1) = ss.map fun s => (DataW.lit (.string s) : DataW H) := by
        have := congrArg Prod.fst hx
        simpa [strData] using this
      have hxl : xs.length = n := by simpa using Lib.mapM_length hm
      have hzl : ss.length = n := by
        have := congrArg List.length hxs
        simp at this
        omega
      apply List.ext_getElem?
      intro i
      by_cases hi : i < n
      · obtain ⟨b, hb, hf⟩ := Lib.mapM_at hm i i (by simp [hi])
        obtain ⟨z, hc, rfl, _⟩ := DataW.trod_string he hf
        have h1 : cs[i]? = some (.string z) := by
          have := congrArg (·[0]?) hc
          simpa [List.getElem?_take, List.getElem?_drop] using this
        have h2 : (xs.map (·.1))[i]? = some (DataW.lit (.string z.data.toList) : DataW H) := by simp [hb]
        rw [hxs] at h2
        simp only [List.getElem?_map, Option.map_eq_some_iff, DataW.lit.injEq, Lit.string.injEq] at h2
        obtain ⟨z', hz', rfl⟩ := h2
        simp [h1, hz']
      · rw [List.getElem?_eq_none (by omega), List.getElem?_eq_none (by simp; omega)]
    · cases h
theorem tabP_of {W : World} (h : laidMetH Tryd.prog [("math/bits.deBruijn32tab", Rows.laid_math_bits_deBruijn32tab), ("math/bits.deBruijn64tab", Rows.laid_math_bits_deBruijn64tab), ("internal/strconv.uint64pow10", Rows.laid_internal_strconv_uint64pow10), ("abacist/plan.extents", Rows.laid_abacist_plan_extents)] W) : TabP W := by
  rw [MakeChecks.laidMetH_plain _ _ _ (by kernel_rfl)] at h
  have h1 := Go.laidMet.tail (show laidMet Tryd.prog (_ :: _) W from h)
  have h2 := Go.laidMet.tail (show laidMet Tryd.prog (_ :: _) W from h1)
  have h3 := Go.laidMet.tail (show laidMet Tryd.prog (_ :: _) W from h2)
  refine ⟨?_, ?_, ?_⟩
  · obtain ⟨ps, ⟨g', t', cs, fuel, p, q, hg', ht', hvar, hd, _, _⟩, _⟩ := h3
    have hg : Tryd.prog.globalNamed "abacist/plan.extents" = some 0 := by kernel_rfl
    have hty : (Tryd.prog.globals[0]?).map (·.type) = some 105 := by kernel_rfl
    obtain rfl := Option.some.inj (hg.symm.trans hg')
    obtain rfl := Option.some.inj (hty.symm.trans ht')
    have hcs := cells_of_strs (ss := [[105, 110, 112, 117, 116], [108, 101, 102, 116], [114, 105, 103, 104, 116], [111, 117, 116, 112, 117, 116]]) Tryd.underlying105 Tryd.underlying9 (by kernel_rfl) (by kernel_rfl) hd
    intro j hj
    rw [World.var?_cell hg hvar j]
    have e : cs = (cs.toList).toArray := by simp
    rw [e, hcs]
    rcases (by omega : j = 0 ∨ j = 1 ∨ j = 2 ∨ j = 3) with rfl | rfl | rfl | rfl <;> rfl
  · exact Lib.tabIs_of_head (g := 2) (t := 181) (e := 45) (n := 20) (by kernel_rfl) (by kernel_rfl) Tryd.underlying181 Tryd.underlying45 (by kernel_rfl) (by kernel_rfl) h2
  · have hT : Lib.TabIs Tryd.prog W "math/bits.deBruijn64tab" .u8 (Lib.deBruijn64tab.map fun (n : Nat) => (n : Int)) := Lib.tabIs_of_head (g := 1) (t := 167) (e := 5) (n := 64) (by kernel_rfl) (by kernel_rfl) Tryd.underlying167 Tryd.underlying5 (by kernel_rfl) (by kernel_rfl) h1
    refine ⟨fun j hj => ?_⟩
    have hc := hT.cell (g := 1) (by kernel_rfl) j (by rw [List.length_map]; exact hj)
    rw [hc]
    have hl : j < Lib.deBruijn64tab.length := hj
    simp [List.getD, hl]
end Go.Proofs.YtpnkcjnemoompaaDoor.Plan
