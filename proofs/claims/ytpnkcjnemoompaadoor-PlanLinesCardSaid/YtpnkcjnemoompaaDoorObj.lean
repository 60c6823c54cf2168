import Derived.Test.YtpnkcjnemoompaaDoorMk
import Derived.Test.YtpnkcjnemoompaaDoorWMore
import Derived.Test.YtpnkcjnemoompaaDoorWNEv
import Derived.Test.YtpnkcjnemoompaaDoorWLast
import Derived.WalkKit
import Derived.Laws.CopyOwn
import Derived.Lib.Hide
/-! What is in memory, block by block: what stays, and rows of words. -/
namespace Go.Proofs.YtpnkcjnemoompaaDoor.Obj
open Go.RowKit Go.Proofs.YtpnkcjnemoompaaDoorW.PrintWords Go.Proofs.YtpnkcjnemoompaaDoorW.PrintLast
set_option linter.unusedVariables false
set_option linter.unusedSimpArgs false

/-- All blocks but S stay. -/
structure Fr (w w' : World) (S : List Nat) : Prop where
  os : w'.os = w.os
  tape : w'.tape = w.tape
  output : w'.output = w.output
  size : w.heap.size ≤ w'.heap.size
  block : ∀ k, k < w.heap.size → k ∉ S → w'.heap[k]? = w.heap[k]?
theorem Fr.refl (w : World) (S : List Nat) : Fr w w S := ⟨rfl, rfl, rfl, Nat.le_refl _, fun _ _ _ => rfl⟩
theorem Fr.trans {a b c : World} {S : List Nat} (h : Fr a b S) (k : Fr b c S) : Fr a c S :=
  ⟨k.os.trans h.os, k.tape.trans h.tape, k.output.trans h.output, Nat.le_trans h.size k.size, fun i hi hs => (k.block i (Nat.lt_of_lt_of_le hi h.size) hs).trans (h.block i hi hs)⟩
theorem Fr.mono {a b : World} {S T : List Nat} (h : Fr a b S) (hs : ∀ k, k ∈ S → k ∈ T) : Fr a b T := ⟨h.os, h.tape, h.output, h.size, fun i hi ht => h.block i hi fun hk => ht (hs i hk)⟩
/-- What is new need not be named. -/
theorem Fr.new {a b : World} {S T : List Nat} (h : Fr a b S) (hs : ∀ k, k ∈ S → k ∈ T ∨ a.heap.size ≤ k) : Fr a b T :=
  ⟨h.os, h.tape, h.output, h.size, fun i hi ht => h.block i hi fun hk => (hs i hk).elim ht fun h2 => by omega⟩
theorem Fr.then_ {a b c : World} {S T U : List Nat} (h : Fr a b S) (k : Fr b c T) (hS : ∀ i, i ∈ S → i ∈ U ∨ a.heap.size ≤ i) (hT : ∀ i, i ∈ T → i ∈ U ∨ a.heap.size ≤ i) : Fr a c U :=
  Fr.new (S := S ++ T) ((h.mono (fun i hi => List.mem_append_left _ hi)).trans (k.mono (fun i hi => List.mem_append_right _ hi))) (fun i hi => (List.mem_append.1 hi).elim (hS i) (hT i))
theorem Fr.of_below {a b : World} (h : Below a.heap.size a b) (S : List Nat) : Fr a b S := ⟨h.os, h.tape, h.output, h.size, fun i hi _ => h.block i hi⟩
theorem Fr.below {a b : World} {S : List Nat} {B : Nat} (h : Fr a b S) (hB : B ≤ a.heap.size) (hS : ∀ k, k ∈ S → B ≤ k) : Below B a b :=
  ⟨h.os, h.tape, h.output, h.size, fun i hi => h.block i (by omega) fun hk => by have := hS i hk; omega⟩
theorem Fr.alloc {a b : World} {S : List Nat} (h : Fr a b S) (o : Obj) : Fr a (b.alloc o) S := h.trans (Fr.of_below (below_alloc (Below.refl _ _) o) S)
theorem Fr.drewN {a b : World} {S : List Nat} (h : Fr a b S) (n : Nat) : Fr a (b.drewN n) S := ⟨h.os, h.tape, h.output, h.size, h.block⟩
theorem Fr.drew {a b : World} {S : List Nat} (h : Fr a b S) : Fr a b.drew S := ⟨h.os, h.tape, h.output, h.size, h.block⟩
theorem Fr.drawn {a b : World} (h : Drawn0 a b) (S : List Nat) : Fr a b S := Fr.of_below h.below S
theorem Fr.set {a b : World} {S : List Nat} (h : Fr a b S) (g j : Nat) (u : Value) (hg : g ∈ S ∨ a.heap.size ≤ g) : Fr a (b.setCell ⟨g, j, none⟩ u) S := by
  have hb := (Below.refl 0 b).setCell (p := ⟨g, j, none⟩) (Nat.zero_le _) u
  refine ⟨hb.os.trans h.os, hb.tape.trans h.tape, hb.output.trans h.output, Nat.le_trans h.size hb.size, fun k hk hs => ?_⟩
  rw [Below.heap_setCell b ⟨g, j, none⟩ u k (fun e => by
    rcases hg with hg | hg
    · exact hs (by rw [show k = g from e]; exact hg)
    · have : k = g := e
      omega)]
  exact h.block k hk hs
/-- A block known whole. -/
def Bk (w : World) (g : Nat) (t : TypeId) (cs : List Value) : Prop := w.heap[g]? = some (.cells cs.toArray t (0, 0))
theorem Bk.lt {w : World} {g t : Nat} {cs : List Value} (h : Bk w g t cs) : g < w.heap.size := blk_lt h
theorem Bk.fr {a b : World} {S : List Nat} {g t : Nat} {cs : List Value} (h : Bk a g t cs) (hf : Fr a b S) (hg : g ∉ S) : Bk b g t cs := (hf.block g h.lt hg).trans h
theorem Bk.below {a b : World} {g t : Nat} {cs : List Value} (h : Bk a g t cs) (hb : Below a.heap.size a b) : Bk b g t cs := (hb.block g h.lt).trans h
theorem Bk.alloc {a : World} {g t : Nat} {cs : List Value} (h : Bk a g t cs) (o : Obj) : Bk (a.alloc o) g t cs := h.below (below_alloc (Below.refl _ _) o)
theorem Bk.drewN {a : World} {g t : Nat} {cs : List Value} (h : Bk a g t cs) (n : Nat) : Bk (a.drewN n) g t cs := h
theorem Bk.drew {a : World} {g t : Nat} {cs : List Value} (h : Bk a g t cs) : Bk a.drew g t cs := h
theorem Bk.new (w : World) (t : Nat) (cs : List Value) : Bk (w.alloc (.cells cs.toArray t)) w.heap.size t cs := heap_alloc_new _ _
theorem Bk.ne {w : World} {g g' t t' : Nat} {cs cs' : List Value} (h : Bk w g t cs) (h' : Bk w g' t' cs') (ht : t ≠ t') : g ≠ g' := blk_ne h h' ht
theorem Bk.cell {w : World} {g t : Nat} {cs : List Value} (h : Bk w g t cs) (i : Nat) : w.cell? ⟨g, i, none⟩ = cs[i]? := by
  rw [blk_cell h i]; simp
theorem Bk.frozen {w : World} {g t : Nat} {cs : List Value} (h : Bk w g t cs) (i : Nat) : w.frozen? ⟨g, i, none⟩ = false := blk_frozen h i
theorem Bk.put {w : World} {g t : Nat} {cs : List Value} (h : Bk w g t cs) (i : Nat) (u : Value) : Bk (w.setCell ⟨g, i, none⟩ u) g t (cs.set i u) := by
  have := blk_set h i u
  simpa [Bk] using this
theorem Bk.far {w : World} {g g' t : Nat} {cs : List Value} (h : Bk w g t cs) (i : Nat) (u : Value) (hne : g ≠ g') : Bk (w.setCell ⟨g', i, none⟩ u) g t cs := blk_far h (p := ⟨g', i, none⟩) hne u
/-- A row of words that is a block by itself. -/
def Rw (w : World) (g : Nat) (xs : List Int) : Prop := Bk w g 45 (nums .u64 xs)
theorem Rw.cell {w : World} {g : Nat} {xs : List Int} (h : Rw w g xs) (i : Nat) (hi : i < xs.length) : w.cell? ⟨g, i, none⟩ = some (.int .u64 (xs.getD i 0)) := by
  rw [Bk.cell h i]; simp [nums, hi]
theorem Rw.put {w : World} {g : Nat} {xs : List Int} (h : Rw w g xs) (i : Nat) (x : Int) : Rw (w.setCell ⟨g, i, none⟩ (.int .u64 x)) g (xs.set i x) := by
  have := Bk.put h i (.int .u64 x)
  simpa [Rw, nums, List.map_set] using this
theorem Rw.fr {a b : World} {S : List Nat} {g : Nat} {xs : List Int} (h : Rw a g xs) (hf : Fr a b S) (hg : g ∉ S) : Rw b g xs := Bk.fr h hf hg
theorem Rw.below {a b : World} {g : Nat} {xs : List Int} (h : Rw a g xs) (hb : Below a.heap.size a b) : Rw b g xs := Bk.below h hb
/-- A part of it, as it is read. -/
theorem Rw.part {w : World} {g : Nat} {xs : List Int} (h : Rw w g xs) (off n : Nat) (hn : off + n ≤ xs.length) (hm : n ≤ 9223372036854775807) : Kd.C (Kd.int .u64) w (some ⟨g, off, none⟩) n ((xs.drop off).take n) := by
  refine ⟨by rw [List.length_take, List.length_drop]; omega, hm, fun _ => ⟨_, rfl, fun j p hj => ⟨[.int .u64 p], rfl, rfl, fun i u hu => ?_⟩⟩⟩
  have hjn : j < n := by
    have := (List.getElem?_eq_some_iff.1 hj).1
    rw [List.length_take, List.length_drop] at this; omega
  have hp : xs[off + j]? = some p := by
    rw [List.getElem?_take, if_pos hjn, List.getElem?_drop] at hj
    exact hj
  rcases i with _ | i
  · simp only [List.getElem?_cons_zero, Option.some.injEq] at hu
    subst hu
    have hsz : (Kd.int .u64).sz = 1 := rfl
    rw [hsz, add_at]
    rw [Bk.cell h]
    simp only [Nat.mul_one, Nat.add_zero, nums]
    rw [List.getElem?_map, hp]
    rfl
  · simp at hu
theorem Rw.whole {w : World} {g : Nat} {xs : List Int} (h : Rw w g xs) (hm : xs.length ≤ 9223372036854775807) : Kd.C (Kd.int .u64) w (some ⟨g, 0, none⟩) xs.length xs := by
  have := h.part 0 xs.length (by omega) hm
  simpa using this
/-- What is read is told place by place. -/
theorem C_at {w : World} {A : Option Addr} {n : Nat} {xs : List Int} (h : Kd.C (Kd.int .u64) w A n xs) (i : Nat) (hi : i < n) : ∃ ad, A = some ad ∧ w.cell? (ad.add i) = some (.int .u64 (xs.getD i 0)) := by
  obtain ⟨ad, e, hc⟩ := Kd.at_int h (i : Int) (by omega) (by omega)
  refine ⟨ad, e, ?_⟩
  rw [Int.toNat_natCast] at hc
  rw [hc]
  simp [rd]
section
variable {P : Program} {w : World} {ops : Array Oper} {rest : List Oper} {o : Oper} {a : Act} {Q : Exit → Act → World → Prop}
/-- make([]uint64, n): a block by itself. -/
theorem make_row (hgd : o.guard = none) (t : TypeId) (x y : Operand) (ho : o.op = .makeSlice t x y) (n : Nat) (hx : a.eval x = .int .i64 (n : Int)) (hy : a.eval y = .int .i64 (n : Int))
    (ht : P.underlying t = some (.slice 45)) (hinfo : (P.info? 45).map (fun i => (i.zero, i.size, i.bytes)) = some (some (.int .u64 0), 1, 8)) (hl : n * 8 ≤ 281474976710656)
    (h : ∀ w', Rw w' w.heap.size (List.replicate n 0) → Below w.heap.size w w' → w'.heap.size = w.heap.size + 1 → wpList P ops Q rest (a.put o.dst (.slice (some ⟨w.heap.size, 0, none⟩) n n)) w') : wpList P ops Q (o :: rest) a w := by
  obtain ⟨i0, hi, hzz⟩ := Option.map_eq_some_iff.1 hinfo
  simp only [Prod.mk.injEq] at hzz
  obtain ⟨hz0, hz1, hz2⟩ := hzz
  have hr := run_make (P := P) w t 45 i0 (.int .u64 0) ht hi hz0 .i64 .i64 (n : Int) (n : Int) (by omega) (by omega) (by rw [hz2]; omega) (by omega)
  simp only [Int.toNat_natCast] at hr
  rw [hz1, Nat.mul_one] at hr
  refine Kd.event_run hgd (v := .slice (some ⟨w.heap.size, 0, none⟩) n n) (by simp [execOp, ho, hx, hy, hr]; rfl) (h _ ?_ (below_alloc (Below.refl _ _) _) (by simp))
  have e : madeCells (Value.int .u64 0).cells n = (nums .u64 (List.replicate n 0)).toArray := by
    apply Array.ext
    · simp [size_madeCells, nums]
    · intro i h1 h2
      simp [nums, madeCells, Value.cells, Nat.mod_one]
  rw [e]
  exact Bk.new w _ _
/-- copy into a row that is a block by itself. -/
theorem copy_row (hgd : o.guard = none) (d s : Operand) (dT sT : TypeId)
    (ho : o.op = .call { callee := .builtin .copy, args := #[d, s], argTypes := #[dT, sT] }) (hu : P.underlying dT = some (.slice 45)) (hsz : (P.info? 45).map (·.size) = some 1)
    (g off dLen dCap : Nat) (ad : Addr) (sLen sCap : Nat) (hd : a.eval d = .slice (some ⟨g, off, none⟩) dLen dCap) (hs : a.eval s = .slice (some ad) sLen sCap)
    (xs ys : List Int) (hg : Rw w g xs) (hn : ys.length = Nat.min sLen dLen) (hsrc : ∀ j, j < ys.length → w.cell? (ad.add j) = some (.int .u64 (ys.getD j 0))) (hfit : off + ys.length ≤ xs.length)
    (h : ∀ w', Rw w' g (xs.take off ++ (ys ++ xs.drop (off + ys.length))) → Fr w w' [g] → w'.heap.size = w.heap.size → wpList P ops Q rest (a.put o.dst (goInt ys.length)) w') : wpList P ops Q (o :: rest) a w := by
  refine wpList_copy_own hgd d s dT sT ho 45 hu hsz g off dLen dCap ad sLen sCap hd hs (nums .u64 xs).toArray 45 hg (nums .u64 ys) (by rw [nums_length]; exact hn) ?_ (by rw [nums_length]; simpa [nums] using hfit) ?_ ?_
  · intro j v hj
    have hjl : j < ys.length := by
      have := (List.getElem?_eq_some_iff.1 hj).1
      rwa [nums_length] at this
    rw [hsrc j hjl]
    simp [nums, hjl] at hj
    simp [hjl, hj]
  · intro v hv
    obtain ⟨x, _, rfl⟩ := List.mem_map.1 hv
    rfl
  · rw [nums_length]
    refine h _ ?_ ?_ (size_setRow ..)
    · have h2 := setRow_heap w g (nums .u64 xs).toArray ((nums .u64 xs).toArray.toList.take off ++ (nums .u64 ys ++ (nums .u64 xs).toArray.toList.drop (off + ys.length))).toArray 45 (0, 0) hg
      unfold Rw Bk
      rw [h2]
      simp [nums]
    · have hb := below_setRow (B := 0) (Below.refl 0 w) (Nat.zero_le g) ((nums .u64 xs).toArray.toList.take off ++ (nums .u64 ys ++ (nums .u64 xs).toArray.toList.drop (off + ys.length))).toArray
      exact ⟨hb.os, hb.tape, hb.output, hb.size, fun k _ hk => setRow_other w g k _ (fun e => hk (by rw [e]; simp))⟩
/-- The same as one step of a region that draws. -/
theorem make_step {N : Option Tmp} {K : Act → World → Prop} (t : TypeId) (x y : Operand) (n : Nat) (hw : Region.wanted o (yielded ops a.tmps) = true) (hN : o.dst = N) (ho : o.op = .makeSlice t x y) (hx : a.eval x = .int .i64 (n : Int)) (hy : a.eval y = .int .i64 (n : Int))
    (ht : P.underlying t = some (.slice 45)) (hinfo : (P.info? 45).map (fun i => (i.zero, i.size, i.bytes)) = some (some (.int .u64 0), 1, 8)) (hl : n * 8 ≤ 281474976710656)
    (h : ∀ w', Rw w' w.heap.size (List.replicate n 0) → Below w.heap.size w w' → w'.heap.size = w.heap.size + 1 → K (a.put N (.slice (some ⟨w.heap.size, 0, none⟩) n n)) w') :
    if Region.wanted o (yielded ops a.tmps) = true then Oper.wp P o a w K Q else K (a.put N undef) w := by
  obtain ⟨i0, hi, hzz⟩ := Option.map_eq_some_iff.1 hinfo
  simp only [Prod.mk.injEq] at hzz
  obtain ⟨hz0, hz1, hz2⟩ := hzz
  have hr := run_make (P := P) w t 45 i0 (.int .u64 0) ht hi hz0 .i64 .i64 (n : Int) (n : Int) (by omega) (by omega) (by rw [hz2]; omega) (by omega)
  simp only [Int.toNat_natCast] at hr
  rw [hz1, Nat.mul_one] at hr
  refine value_ hw hN (v := .slice (some ⟨w.heap.size, 0, none⟩) n n) (by simp [execOp, ho, hx, hy, hr]; rfl) (h _ ?_ (below_alloc (Below.refl _ _) _) (by simp))
  have e : madeCells (Value.int .u64 0).cells n = (nums .u64 (List.replicate n 0)).toArray := by
    apply Array.ext
    · simp [size_madeCells, nums]
    · intro i h1 h2
      simp [nums, madeCells, Value.cells, Nat.mod_one]
  rw [e]
  exact Bk.new w _ _
/-- A new block, as one step of a region that draws. -/
theorem alloc_step {N : Option Tmp} {K : Act → World → Prop} {cs : Array Value} {t : TypeId} (hw : Region.wanted o (yielded ops a.tmps) = true) (hN : o.dst = N)
    (hrun : (execOp a.eval o).run P w = .ok (.value (.pointer (some ⟨w.heap.size, 0, none⟩))) (w.alloc (.cells cs t (0, 0))))
    (h : ∀ w', Bk w' w.heap.size t cs.toList → Below w.heap.size w w' → w.heap.size < w'.heap.size → K (a.put N (.pointer (some ⟨w.heap.size, 0, none⟩))) w') :
    if Region.wanted o (yielded ops a.tmps) = true then Oper.wp P o a w K Q else K (a.put N undef) w :=
  value_ hw hN hrun (h _ (Bk.new w t cs.toList) (below_alloc (Below.refl _ _) _) (by simp))
end
end Go.Proofs.YtpnkcjnemoompaaDoor.Obj
