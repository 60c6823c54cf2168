import Derived.Test.YtpnkcjnemoompaaDoorPlanH
import Derived.Test.YtpnkcjnemoompaaDoorShelfC
import Derived.Lib.ItoaMem
import Derived.Lib.AppendIntMem
import Derived.BigCall
import Derived.BigGuard
/-! Plan: FormatUint. -/
namespace Go.Proofs.YtpnkcjnemoompaaDoor.Plan
open Go.RowKit Go.Sort Go.Lib Go.Proofs.YtpnkcjnemoompaaDoor Go.Proofs.YtpnkcjnemoompaaDoor.Ext Go.Proofs.YtpnkcjnemoompaaDoorW.PrintWords
set_option linter.unusedVariables false
set_option linter.unusedSimpArgs false
set_option maxRecDepth 100000

def dig (u : Nat) : ByteArray := ⟨(Lib.decDigits u).toArray⟩
theorem fmt_small (u : Nat) (hi : u < 100) (w : World) : Calls Tryd.prog 114 #[.int .u64 u, .int .i64 10] w fun e w' => e = .returned (.string (dig u)) ∧ w' = w := by
  go_enter Tryd.func114, Tryd.ntmps114
  go_wp2_with fail
  refine (Lay.internal_strconv_small u hi _).mono ?_
  rintro e w' ⟨rfl, rfl⟩
  go_wp2
  go_ret
  exact ⟨rfl, rfl⟩
set_option maxHeartbeats 6400000 in
theorem fmt_big (u : Nat) (hu : 100 ≤ u) (hu64 : u < 18446744073709551616) (w : World) (htab : Lib.TabIs Tryd.prog w "internal/strconv.uint64pow10" .u64 Lib.pow10Tab) :
    Calls Tryd.prog 114 #[.int .u64 u, .int .i64 10] w fun e w' => e = .returned (.string (dig u)) ∧ Below w.heap.size w w' := by
  have hu1 : 1 ≤ u := by omega
  have hnd20 : Lib.nDigits u ≤ 20 := by have := Lib.numDigits_eq u hu1 hu64; split at this <;> omega
  have hal : Tryd.prog.arrayLen 162 = 24 := by simp [Program.arrayLen, Tryd.underlying162]
  have hsl1 : ∀ W, (Instr.sliceAt 162 (.pointer (some ⟨w.heap.size, 0, none⟩)) none (some (.int .i64 (Lib.nDigits u : Int))) none).run Tryd.prog W = .ok (.slice (some ⟨w.heap.size, 0, none⟩) (Lib.nDigits u) 24) W := fun W => by
    rw [run_sliceAt_array_h W 162 ⟨w.heap.size, 0, none⟩ (by simp [Program.arrayLen, Program.elem, Tryd.underlying162]) .i64 (Lib.nDigits u : Int) (by omega) (by rw [hal]; omega)]
    go_simp
    try omega
  have hH0 : Holds (fun (b : UInt8) => Value.int .u8 (b.toNat : Int)) (w.alloc (.cells Lib.zeros24 162)) w.heap.size 0 (Array.replicate (Lib.nDigits u) 0) := Lib.holds_zero0 w 162 (Lib.nDigits u) (by omega)
  have hfmt := Lay.internal_strconv_formatBase10 w.heap.size 0 24 u (Array.replicate (Lib.nDigits u) 0) (w.alloc (.cells Lib.zeros24 162)) hH0 (by rw [Array.size_replicate]; exact Lib.lt_pow_nDigits u) hu64 (by rw [Array.size_replicate]; omega)
  rw [Array.size_replicate] at hfmt
  have HH0 := Lib.hid hH0
  clear hH0 hal
  go_enter Tryd.func114, Tryd.ntmps114
  go_wp2_with fail
  refine (Lay.internal_strconv_numDigits u hu1 hu64 _ (Lib.tabIs_alloc htab _)).mono ?_
  rintro e w' ⟨rfl, rfl⟩
  go_wp2_with fail
  refine hfmt.mono ?_
  rintro e w' ⟨rfl, k, v', dk, rfl, hF⟩
  have hcv : (convert 109 9 (.slice (some ⟨w.heap.size, 0, none⟩) (Lib.nDigits u) 24)).run Tryd.prog ((putRow (fun (b : UInt8) => Value.int .u8 (b.toNat : Int)) (w.alloc (.cells Lib.zeros24 162)) w.heap.size 0 dk).drewN k) = .ok (.string ⟨(Lib.decDigits u).toArray⟩) ((putRow (fun (b : UInt8) => Value.int .u8 (b.toNat : Int)) (w.alloc (.cells Lib.zeros24 162)) w.heap.size 0 dk).drewN k) := by
    have h := run_convert_bytes_back (P := Tryd.prog) ((putRow (fun (b : UInt8) => Value.int .u8 (b.toNat : Int)) (w.alloc (.cells Lib.zeros24 162)) w.heap.size 0 dk).drewN k) 109 9 5 ⟨w.heap.size, 0, none⟩ 24 (Lib.decDigits u) Tryd.underlying109 Tryd.underlying5 Tryd.underlying9 (fun j hj => by
      rw [Lib.row_is_numeral hF j hj, Lib.add_plain, World.cell?_drewN]
      exact cell?_putRow (fun (b : UInt8) => Value.int .u8 (b.toNat : Int)) _ w.heap.size 0 _ dk HH0.out (by rw [hF.size, Array.size_replicate]) j (by rw [hF.size]; rw [Lib.decDigits_length] at hj; exact hj))
    rw [Lib.decDigits_length] at h
    exact h
  go_wp2
  go_ret
  refine ⟨rfl, ?_⟩
  obtain ⟨os, eo⟩ := Lib.fin_at w (.cells Lib.zeros24 162) dk k 0
  rw [eo]
  exact (pw_below_drewN (Below.refl w.heap.size w) k).trans (below_grow (w.drewN k) os)
/-- strconv.FormatUint to the base ten. -/
theorem fu_calls (u : Nat) (hu64 : u < 18446744073709551616) (w : World) (hT : TabP w) : Calls Tryd.prog 81 #[.int .u64 u, .int .i64 10] w fun e w' => e = .returned (.string (dig u)) ∧ Below w.heap.size w w' := by
  have HT := Aside0.mk hT
  clear hT
  by_cases h : u < 100
  · go_enter Tryd.func81, Tryd.ntmps81
    go_wp2_with fail
    refine (fmt_small u h w).mono ?_
    rintro e w' ⟨rfl, rfl⟩
    go_wp2
    go_ret
    exact ⟨rfl, Below.refl _ _⟩
  · go_enter Tryd.func81, Tryd.ntmps81
    go_wp2_with fail
    refine (fmt_big u (by omega) hu64 w HT.out.pow).mono ?_
    rintro e w' ⟨rfl, hb⟩
    have HB := Aside0.mk hb
    clear hb
    go_wp2
    go_ret
    exact ⟨rfl, HB.out⟩
end Go.Proofs.YtpnkcjnemoompaaDoor.Plan
