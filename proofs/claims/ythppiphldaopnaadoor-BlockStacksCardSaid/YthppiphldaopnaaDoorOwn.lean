import Derived.Test.YthppiphldaopnaaDoorObj
/-! A row of the call's own, with room behind it: where it lies, and how it is written. -/
namespace Go.Proofs.YthppiphldaopnaaDoor.Obj
open Go.RowKit Go.Proofs.YthppiphldaopnaaDoorW.PrintWords Go.Proofs.YthppiphldaopnaaDoorW.PrintLast Go.Proofs.YthppiphldaopnaaDoorW.PrintMore
set_option linter.unusedVariables false
set_option linter.unusedSimpArgs false

/-- A row of words at g, with room for cap. -/
def Rs (w : World) (g cap : Nat) (xs : List Int) : Prop := Kd.R (Kd.int .u64) 66 w 0 (fun k => k = g) (.slice (some ⟨g, 0, none⟩) xs.length cap) xs
theorem Rs.of {w : World} {base : Nat} {ok : Nat → Prop} {v : Value} {xs : List Int} (h : Kd.R (Kd.int .u64) 66 w base ok v xs) (hp : 0 < xs.length) :
    ∃ g cap, v = .slice (some ⟨g, 0, none⟩) xs.length cap ∧ Rs w g cap xs ∧ base ≤ g ∧ g < w.heap.size := by
  obtain ⟨g, cap, rfl, hb, hl, _⟩ := Kd.R_form h hp
  exact ⟨g, cap, rfl, Kd.R_lower (Kd.R_mono (Kd.R_tight rfl h) (fun k hk => by simpa [Value.ownBlock] using hk)) (Nat.zero_le _), hb, hl⟩
theorem Rs.lt {w : World} {g cap : Nat} {xs : List Int} (h : Rs w g cap xs) : g < w.heap.size := Kd.R_lt h g rfl
theorem Rs.typed {w : World} {g cap : Nat} {xs : List Int} (h : Rs w g cap xs) : ∃ cells, w.heap[g]? = some (.cells cells 66 (0, 0)) := Kd.R_typed h g rfl
theorem Rs.fr {a b : World} {S : List Nat} {g cap : Nat} {xs : List Int} (h : Rs a g cap xs) (hf : Fr a b S) (hg : g ∉ S) : Rs b g cap xs := Kd.R_step h (fun k hk hlt => hf.block k hlt (by rw [hk]; exact hg))
theorem Rs.below {a b : World} {g cap : Nat} {xs : List Int} (h : Rs a g cap xs) (hb : Below a.heap.size a b) : Rs b g cap xs := Kd.R_below h hb
theorem Rs.drew {w : World} {g cap : Nat} {xs : List Int} (h : Rs w g cap xs) : Rs w.drew g cap xs := Kd.R_drew h
theorem Rs.reads {w : World} {g cap : Nat} {xs : List Int} (h : Rs w g cap xs) : Kd.C (Kd.int .u64) w (some ⟨g, 0, none⟩) xs.length xs := (Kd.R_reads' h).2.2
theorem Rs.cap_le {w : World} {g cap : Nat} {xs : List Int} (h : Rs w g cap xs) : xs.length ≤ cap := (Kd.R_reads' h).2.1
theorem Rs.cell {w : World} {g cap : Nat} {xs : List Int} (h : Rs w g cap xs) (i : Nat) (hi : i < xs.length) : w.cell? ⟨g, i, none⟩ = some (.int .u64 (xs.getD i 0)) := by
  have h1 := (Kd.R_celln (0 : Int) h (i : Int) (by omega) (by omega)).1
  rw [Int.toNat_natCast] at h1
  rw [h1]
  simp [rdOf]
theorem Rs.frozen {w : World} {g cap : Nat} {xs : List Int} (h : Rs w g cap xs) (i : Nat) (hi : i < xs.length) : w.frozen? ⟨g, i, none⟩ = false := by
  have h1 := (Kd.R_celln (0 : Int) h (i : Int) (by omega) (by omega)).2
  rwa [Int.toNat_natCast] at h1
theorem Rs.put {w : World} {g cap : Nat} {xs : List Int} (h : Rs w g cap xs) (i : Nat) (x : Int) : Rs (w.setCell ⟨g, i, none⟩ (.int .u64 x)) g cap (xs.set i x) := by
  have h1 := Kd.R_putn (enc := fun n => Value.int .u64 n) h (i : Int) x
  rw [Int.toNat_natCast] at h1
  unfold Rs
  rw [List.length_set]
  exact h1
theorem Rs.ne {w : World} {g cap g' t' : Nat} {xs : List Int} {cs : List Value} (h : Rs w g cap xs) (h' : Bk w g' t' cs) (ht : t' ≠ 66) : g ≠ g' := by
  obtain ⟨cells, hc⟩ := h.typed
  intro e
  subst e
  unfold Bk at h'
  rw [h'] at hc
  simp only [Option.some.injEq, Obj.cells.injEq] at hc
  exact ht hc.2.1
/-- A row that is a block by itself. -/
theorem Rs.rw_ {w : World} {g : Nat} {xs : List Int} (h : Rw w g xs) (hm : xs.length ≤ 9223372036854775807) : Rs w g xs.length xs := by
  have h1 : w.ownsRow 0 66 1 (.slice (some ⟨g, 0, none⟩) xs.length xs.length) xs.length (encs (fun n => Value.int .u64 n) xs) := by
    exact ⟨by simp [encs], .inr ⟨g, xs.length, (nums .u64 xs).toArray, rfl, Nat.zero_le _, h, Nat.le_refl _, by unfold maxLen; exact hm, by simp [nums], by simp only [nums, encs, Nat.mul_one]; exact List.take_of_length_le (by simp)⟩⟩
  exact Kd.R_of_own h1 (fun k hk => by simpa [Value.ownBlock, eq_comm] using hk)
end Go.Proofs.YthppiphldaopnaaDoor.Obj
