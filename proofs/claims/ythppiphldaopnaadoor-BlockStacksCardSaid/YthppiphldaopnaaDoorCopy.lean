import Derived.Test.YthppiphldaopnaaDoorOwn
/-! copy, as one step of a region that draws; what lies in a row behind it. -/
namespace Go.Proofs.YthppiphldaopnaaDoor.Obj
open Go.RowKit Go.Proofs.YthppiphldaopnaaDoorW.PrintWords Go.Proofs.YthppiphldaopnaaDoorW.PrintLast
set_option linter.unusedVariables false
set_option linter.unusedSimpArgs false

theorem splice_len {xs ys : List Int} {off : Nat} (h : off + ys.length ≤ xs.length) : (splice xs off ys).length = xs.length := length_splice xs off ys h
theorem splice_in {xs ys : List Int} {off k : Nat} (h : off + ys.length ≤ xs.length) (h1 : off ≤ k) (h2 : k < off + ys.length) : (splice xs off ys).getD k 0 = ys.getD (k - off) 0 := by
  unfold splice
  have e : (xs.take off).length = off := by rw [List.length_take]; omega
  simp only [List.getD, List.getElem?_append]
  rw [if_neg (by omega), if_pos (by omega), e]
theorem splice_out {xs ys : List Int} {off k : Nat} (h : off + ys.length ≤ xs.length) (h1 : k < off ∨ off + ys.length ≤ k) : (splice xs off ys).getD k 0 = xs.getD k 0 := by
  unfold splice
  have e : (xs.take off).length = off := by rw [List.length_take]; omega
  simp only [List.getD, List.getElem?_append]
  rcases h1 with h1 | h1
  · rw [if_pos (by omega), List.getElem?_take, if_pos h1]
  · rw [if_neg (by omega), if_neg (by omega), List.getElem?_drop, e]
    congr 2
    omega
theorem getD_part {xs : List Int} {a n k : Nat} (h : k < n) : ((xs.drop a).take n).getD k 0 = xs.getD (a + k) 0 := by
  simp only [List.getD]
  rw [List.getElem?_take, if_pos h, List.getElem?_drop]
theorem len_part {xs : List Int} {a n : Nat} (h : a + n ≤ xs.length) : ((xs.drop a).take n).length = n := by rw [List.length_take, List.length_drop]; omega
section
variable {P : Program} {w : World} {ops : Array Oper} {rest : List Oper} {o : Oper} {a : Act} {Q : Exit → Act → World → Prop}
theorem copy_step {N : Option Tmp} {K : Act → World → Prop} (hw : Region.wanted o (yielded ops a.tmps) = true) (hN : o.dst = N) (d s : Operand) (dT sT : TypeId)
    (ho : o.op = .call { callee := .builtin .copy, args := #[d, s], argTypes := #[dT, sT] }) (hu : P.underlying dT = some (.slice 66)) (hsz : (P.info? 66).map (·.size) = some 1)
    (g off dLen dCap : Nat) (ad : Addr) (sLen sCap : Nat) (hd : a.eval d = .slice (some ⟨g, off, none⟩) dLen dCap) (hs : a.eval s = .slice (some ad) sLen sCap)
    (xs ys : List Int) (hg : Rw w g xs) (hn : ys.length = Nat.min sLen dLen) (hsrc : ∀ j, j < ys.length → w.cell? (ad.add j) = some (.int .u64 (ys.getD j 0))) (hfit : off + ys.length ≤ xs.length)
    (h : ∀ w', Rw w' g (splice xs off ys) → Fr w w' [g] → w'.heap.size = w.heap.size → K (a.put N (goInt ys.length)) w') :
    if Region.wanted o (yielded ops a.tmps) = true then Oper.wp P o a w K Q else K (a.put N undef) w := by
  have hc : ∀ j v, (nums .u64 ys)[j]? = some v → w.cell? (ad.add j) = some v := by
    intro j v hj
    have hjl : j < ys.length := by
      have := (List.getElem?_eq_some_iff.1 hj).1
      rwa [nums_length] at this
    rw [hsrc j hjl]
    simp [nums, hjl] at hj
    simp [hjl, hj]
  have hrun := run_copy_row (P := P) w dT sT o.type 66 g off dLen dCap ad sLen sCap (nums .u64 xs).toArray 66 (nums .u64 ys) hu hsz hg (by rw [nums_length]; exact hn) hc (by rw [nums_length]; simpa [nums] using hfit) (by
    intro v hv
    obtain ⟨x, _, rfl⟩ := List.mem_map.1 hv
    rfl)
  refine value_ hw hN (v := goInt ys.length) (w1 := w.setRow g ((nums .u64 xs).toArray.toList.take off ++ (nums .u64 ys ++ (nums .u64 xs).toArray.toList.drop (off + (nums .u64 ys).length))).toArray) (by
    simp [execOp, ho, resolve, invoke, builtin, hd, hs, hrun, Result.andThen, nums_length]) (h _ ?_ ?_ (size_setRow ..))
  · have h2 := setRow_heap w g (nums .u64 xs).toArray ((nums .u64 xs).toArray.toList.take off ++ (nums .u64 ys ++ (nums .u64 xs).toArray.toList.drop (off + (nums .u64 ys).length))).toArray 66 (0, 0) hg
    unfold Rw Bk
    rw [h2]
    simp [nums, splice]
  · have hb := below_setRow (B := 0) (Below.refl 0 w) (Nat.zero_le g) ((nums .u64 xs).toArray.toList.take off ++ (nums .u64 ys ++ (nums .u64 xs).toArray.toList.drop (off + (nums .u64 ys).length))).toArray
    exact ⟨hb.os, hb.tape, hb.output, hb.size, fun k _ hk => setRow_other w g k _ (fun e => hk (by rw [e]; simp))⟩
end
end Go.Proofs.YthppiphldaopnaaDoor.Obj
