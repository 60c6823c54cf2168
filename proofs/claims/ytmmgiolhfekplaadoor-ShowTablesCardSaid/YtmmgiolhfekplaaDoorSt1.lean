import Derived.Test.YtmmgiolhfekplaaDoorSt0
import Derived.Test.YtmmgiolhfekplaaDoorProg
import Derived.Below
import Derived.Deep.Draws
import Derived.Deep.AppendLies
import Derived.Maps.AppendAt
import Derived.OwnWalk
import Derived.Laws.BytesArg
import Derived.Laws.MakeOwn
import Derived.Laws.OwnMore
import Derived.Deep.OwnRows
import Derived.Tactics
import Derived.Lib.ConvBytes
import Derived.Laws.Slices
import Derived.WalkKit
import Derived.KernelRfl
import Derived.RowKit3
import Derived.Deep.LoopGhost
import Derived.Deep.QuietTactic
import Derived.BigQuiet
import Derived.WideLaws
import Derived.Deep.DeepCutAuto
import Derived.Deep.CutBlock
import Derived.Deep.RegionHeld3
import Derived.Laws.Rows
import Derived.Lib.AppendStr
import Derived.ArgAppend
import Derived.Laws.IdiomCopy
import Derived.RowKit
import Derived.OrdersHeld
import Derived.Laws.BitsLemmas
import Derived.Laws.CopyOwn
import Derived.Lib.Hide
import Derived.Shelf.Strings.Builder1
import Derived.Shelf.Strings.Builder2
import Derived.Shelf.Strings.OnBuilder
import Derived.Shelf.Strings.BuilderF
import Derived.Shelf.Strings.BuilderK
import Derived.Shelf.Strconv.Itoa0
import Derived.Shelf.Strconv.Itoa1
import Derived.Shelf.LaysM
import Derived.Shelf.Strconv.Itoa2
import Derived.Shelf.Strings.Prefix
import Derived.Shelf.Bits.Mul64
import Derived.Shelf.Strings.Repeat
import Derived.Laws.BitsAllLaws
import Derived.OpenShut
import Derived.Lib.ItoaMem
import Derived.Lib.AppendIntMem
import Derived.Lib.ItoaLen
import Derived.BigCall
import Derived.BigGuard
import Derived.Outline
import Derived.RangeFuncNested
import Derived.RangeFuncBound
import Derived.RangeFuncCalls
import Derived.RangeFuncLeaves
import Derived.Shelf.Abstract
import Derived.Shelf.RegionOpen
import Derived.OwnWalkIn
import Derived.TacticsInMore
import Derived.LoopNIn
import Derived.LoopIn
import Derived.Sort.QuietIn
import Derived.Laws.StructEq
import Derived.Test.YtmmgiolhfekplaaDoorRows
import Derived.Test.YtmmgiolhfekplaaDoorTie
import Derived.Stop.LaidErr
import Derived.MakeChecks
import Derived.ChangeArms
/-! Texts of this claim, joined: Obj, Shelf, ShwA, ShwB, Hex, ShwC, ShwD, ShwE, ShwF, ShwG, PShowTablesx0, PShowTablesx1, ShwH, ShwI, ShwJ, ShwK. -/
section
namespace Go.Proofs.YtmmgiolhfekplaaDoor.Obj
open Go.RowKit Go.Proofs.YtmmgiolhfekplaaDoorW.PrintWords Go.Proofs.YtmmgiolhfekplaaDoorW.PrintLast
set_option linter.unusedVariables false
set_option linter.unusedSimpArgs false
structure Fr (w w' : World) (S : List Nat) : Prop where
  os : w'.os = w.os
  tape : w'.tape = w.tape
  output : w'.output = w.output
  size : w.heap.size ≤ w'.heap.size
  block : ∀ k, k < w.heap.size → k ∉ S → w'.heap[k]? = w.heap[k]?
theorem Fr.refl (w : World) (S : List Nat) : Fr w w S := ⟨rfl, rfl, rfl, Nat.le_refl _, fun _ _ _ => rfl⟩
theorem Fr.trans {a b c : World} {S : List Nat} (h : Fr a b S) (k : Fr b c S) : Fr a c S :=
  ⟨k.os.trans h.os, k.tape.trans h.tape, k.output.trans h.output, Nat.le_trans h.size k.size, fun i hi hs => (k.block i (Nat.lt_of_lt_of_le hi h.size) hs).trans (h.block i hi hs)⟩
theorem Fr.mono {a b : World} {S T : List Nat} (h : Fr a b S) (hs : ∀ k, k ∈ S → k ∈ T) : Fr a b T := ⟨h.os, h.tape, h.output, h.size, fun i hi ht => h.block i hi fun hk => ht (hs i hk)⟩
theorem Fr.new {a b : World} {S T : List Nat} (h : Fr a b S) (hs : ∀ k, k ∈ S → k ∈ T ∨ a.heap.size ≤ k) : Fr a b T :=
  ⟨h.os, h.tape, h.output, h.size, fun i hi ht => h.block i hi fun hk => (hs i hk).elim ht fun h2 => by omega⟩
theorem Fr.then_ {a b c : World} {S T U : List Nat} (h : Fr a b S) (k : Fr b c T) (hS : ∀ i, i ∈ S → i ∈ U ∨ a.heap.size ≤ i) (hT : ∀ i, i ∈ T → i ∈ U ∨ a.heap.size ≤ i) : Fr a c U :=
  Fr.new (S := S ++ T) ((h.mono (fun i hi => List.mem_append_left _ hi)).trans (k.mono (fun i hi => List.mem_append_right _ hi))) (fun i hi => (List.mem_append.1 hi).elim (hS i) (hT i))
theorem Fr.of_below {a b : World} (h : Below a.heap.size a b) (S : List Nat) : Fr a b S := ⟨h.os, h.tape, h.output, h.size, fun i hi _ => h.block i hi⟩
theorem Fr.below {a b : World} {S : List Nat} {B : Nat} (h : Fr a b S) (hB : B ≤ a.heap.size) (hS : ∀ k, k ∈ S → B ≤ k) : Below B a b :=
  ⟨h.os, h.tape, h.output, h.size, fun i hi => h.block i (by omega) fun hk => by have := hS i hk; omega⟩
theorem Fr.alloc {a b : World} {S : List Nat} (h : Fr a b S) (o : Obj) : Fr a (b.alloc o) S := h.trans (Fr.of_below (below_alloc (Below.refl _ _) o) S)
theorem Fr.drewN {a b : World} {S : List Nat} (h : Fr a b S) (n : Nat) : Fr a (b.drewN n) S := ⟨h.os, h.tape, h.output, h.size, h.block⟩
theorem Fr.drew {a b : World} {S : List Nat} (h : Fr a b S) : Fr a b.drew S := ⟨h.os, h.tape, h.output, h.size, h.block⟩
theorem Fr.set {a b : World} {S : List Nat} (h : Fr a b S) (g j : Nat) (u : Value) (hg : g ∈ S ∨ a.heap.size ≤ g) : Fr a (b.setCell ⟨g, j, none⟩ u) S := by
  have hb := (Below.refl 0 b).setCell (p := ⟨g, j, none⟩) (Nat.zero_le _) u
  refine ⟨hb.os.trans h.os, hb.tape.trans h.tape, hb.output.trans h.output, Nat.le_trans h.size hb.size, fun k hk hs => ?_⟩
  rw [Below.heap_setCell b ⟨g, j, none⟩ u k (fun e => by
    rcases hg with hg | hg
    · exact hs (by rw [show k = g from e]; exact hg)
    · have : k = g := e
      omega)]
  exact h.block k hk hs
def Bk (w : World) (g : Nat) (t : TypeId) (cs : List Value) : Prop := w.heap[g]? = some (.cells cs.toArray t (0, 0))
theorem Bk.lt {w : World} {g t : Nat} {cs : List Value} (h : Bk w g t cs) : g < w.heap.size := blk_lt h
theorem Bk.fr {a b : World} {S : List Nat} {g t : Nat} {cs : List Value} (h : Bk a g t cs) (hf : Fr a b S) (hg : g ∉ S) : Bk b g t cs := (hf.block g h.lt hg).trans h
theorem Bk.below {a b : World} {g t : Nat} {cs : List Value} (h : Bk a g t cs) (hb : Below a.heap.size a b) : Bk b g t cs := (hb.block g h.lt).trans h
theorem Bk.alloc {a : World} {g t : Nat} {cs : List Value} (h : Bk a g t cs) (o : Obj) : Bk (a.alloc o) g t cs := h.below (below_alloc (Below.refl _ _) o)
theorem Bk.drewN {a : World} {g t : Nat} {cs : List Value} (h : Bk a g t cs) (n : Nat) : Bk (a.drewN n) g t cs := h
theorem Bk.drew {a : World} {g t : Nat} {cs : List Value} (h : Bk a g t cs) : Bk a.drew g t cs := h
theorem Bk.new (w : World) (t : Nat) (cs : List Value) : Bk (w.alloc (.cells cs.toArray t)) w.heap.size t cs := heap_alloc_new _ _
theorem Bk.cell {w : World} {g t : Nat} {cs : List Value} (h : Bk w g t cs) (i : Nat) : w.cell? ⟨g, i, none⟩ = cs[i]? := by
  rw [blk_cell h i]; simp
theorem Bk.frozen {w : World} {g t : Nat} {cs : List Value} (h : Bk w g t cs) (i : Nat) : w.frozen? ⟨g, i, none⟩ = false := blk_frozen h i
theorem Bk.put {w : World} {g t : Nat} {cs : List Value} (h : Bk w g t cs) (i : Nat) (u : Value) : Bk (w.setCell ⟨g, i, none⟩ u) g t (cs.set i u) := by
  have := blk_set h i u
  simpa [Bk] using this
theorem Bk.far {w : World} {g g' t : Nat} {cs : List Value} (h : Bk w g t cs) (i : Nat) (u : Value) (hne : g ≠ g') : Bk (w.setCell ⟨g', i, none⟩ u) g t cs := blk_far h (p := ⟨g', i, none⟩) hne u
def Rw (w : World) (g : Nat) (xs : List Int) : Prop := Bk w g 29 (nums .u64 xs)
theorem Rw.cell {w : World} {g : Nat} {xs : List Int} (h : Rw w g xs) (i : Nat) (hi : i < xs.length) : w.cell? ⟨g, i, none⟩ = some (.int .u64 (xs.getD i 0)) := by
  rw [Bk.cell h i]; simp [nums, hi]
theorem Rw.put {w : World} {g : Nat} {xs : List Int} (h : Rw w g xs) (i : Nat) (x : Int) : Rw (w.setCell ⟨g, i, none⟩ (.int .u64 x)) g (xs.set i x) := by
  have := Bk.put h i (.int .u64 x)
  simpa [Rw, nums, List.map_set] using this
theorem Rw.fr {a b : World} {S : List Nat} {g : Nat} {xs : List Int} (h : Rw a g xs) (hf : Fr a b S) (hg : g ∉ S) : Rw b g xs := Bk.fr h hf hg
theorem Rw.below {a b : World} {g : Nat} {xs : List Int} (h : Rw a g xs) (hb : Below a.heap.size a b) : Rw b g xs := Bk.below h hb
theorem Rw.part {w : World} {g : Nat} {xs : List Int} (h : Rw w g xs) (off n : Nat) (hn : off + n ≤ xs.length) (hm : n ≤ 9223372036854775807) : Kd.C (Kd.int .u64) w (some ⟨g, off, none⟩) n ((xs.drop off).take n) := by
  refine ⟨by rw [List.length_take, List.length_drop]; omega, hm, fun _ => ⟨_, rfl, fun j p hj => ⟨[.int .u64 p], rfl, rfl, fun i u hu => ?_⟩⟩⟩
  have hjn : j < n := by
    have := (List.getElem?_eq_some_iff.1 hj).1
    rw [List.length_take, List.length_drop] at this; omega
  have hp : xs[off + j]? = some p := by
    rw [List.getElem?_take, if_pos hjn, List.getElem?_drop] at hj
    exact hj
  rcases i with _ | i
  · simp only [List.getElem?_cons_zero, Option.some.injEq] at hu
    subst hu
    have hsz : (Kd.int .u64).sz = 1 := rfl
    rw [hsz, add_at]
    rw [Bk.cell h]
    simp only [Nat.mul_one, Nat.add_zero, nums]
    rw [List.getElem?_map, hp]
    rfl
  · simp at hu
theorem C_at {w : World} {A : Option Addr} {n : Nat} {xs : List Int} (h : Kd.C (Kd.int .u64) w A n xs) (i : Nat) (hi : i < n) : ∃ ad, A = some ad ∧ w.cell? (ad.add i) = some (.int .u64 (xs.getD i 0)) := by
  obtain ⟨ad, e, hc⟩ := Kd.at_int h (i : Int) (by omega) (by omega)
  refine ⟨ad, e, ?_⟩
  rw [Int.toNat_natCast] at hc
  rw [hc]
  simp [rd]
section
variable {P : Program} {w : World} {ops : Array Oper} {rest : List Oper} {o : Oper} {a : Act} {Q : Exit → Act → World → Prop}
end
end Go.Proofs.YtmmgiolhfekplaaDoor.Obj
end
section
namespace Go.Proofs.YtmmgiolhfekplaaDoor
open Go.Shelf
def Lay.lays169_ren : Go.Shelf.Ren := ⟨fun | 169 => 15 | n => n, fun | 70 => 41 | 9 => 9 | 0 => 0 | 72 => 43 | 37 => 40 | 127 => 61 | 3 => 3 | 5 => 5 | n => n, fun | n => n⟩
theorem Lay.lays169 : Go.Proofs.Lays.n169 Tryd.prog Lay.lays169_ren := {
  mixed := by kernel_rfl
  f169 := Tryd.func15.trans (congrArg some (by kernel_rfl))
  t0 := Tryd.underlying0
  a0 := Tryd.isAgg0
  z0 := Tryd.sizeOf0
  v0 := Tryd.zeroValue0
  t3 := Tryd.underlying3
  a3 := Tryd.isAgg3
  z3 := Tryd.sizeOf3
  v3 := Tryd.zeroValue3
  t9 := Tryd.underlying9
  a9 := Tryd.isAgg9
  z9 := Tryd.sizeOf9
  v9 := Tryd.zeroValue9
  t37 := Tryd.underlying40
  a37 := Tryd.isAgg40
  z37 := Tryd.sizeOf40
  v37 := Tryd.zeroValue40
  t70 := Tryd.underlying41
  a70 := Tryd.isAgg41
  z70 := Tryd.sizeOf41
  v70 := Tryd.zeroValue41
  t72 := Tryd.underlying43
  a72 := Tryd.isAgg43
  z72 := Tryd.sizeOf43
  v72 := Tryd.zeroValue43
  t127 := Tryd.underlying61
  a127 := Tryd.isAgg61
  z127 := Tryd.sizeOf61
  v127 := Tryd.zeroValue61 }
theorem Lay.Builder_Extra_169 : Builder.Extra Tryd.prog Lay.lays169_ren := {
  sizeBuilder := by kernel_rfl
  liesBuilder := by kernel_rfl
  t5 := Tryd.underlying5
  a5 := Tryd.isAgg5
  z5 := Tryd.sizeOf5
  v5 := Tryd.zeroValue5
  infoByte := by kernel_rfl
  cellsByte := by kernel_rfl
  sizeByte := by kernel_rfl
  neB5 := by decide }
open Go.RowKit in
theorem Lay.Builder_String_any (B b : Nat) (l : List UInt8) (w : World) (h : Lib.IsBuilder 43 5 B b (Lib.byteCells l) w) (hBw : B ≤ w.heap.size) :
    Calls Tryd.prog 15 #[.pointer (some ⟨b, 0, none⟩)] w fun e w' => e = .returned (.string ⟨l.toArray⟩) ∧ Below B w w' := Any.Builder_String_any Lay.lays169 Lay.Builder_Extra_169 B b l w h hBw
def Lay.lays156_ren : Go.Shelf.Ren := ⟨fun | 156 => 13 | 165 => 23 | 166 => 24 | 169 => 15 | 240 => 26 | 241 => 31 | 276 => 32 | 277 => 37 | n => n, fun | 31 => 24 | 9 => 9 | 3 => 3 | 4 => 4 | 0 => 0 | 20 => 20 | 72 => 43 | 76 => 58 | 70 => 41 | 37 => 40 | 75 => 45 | 127 => 61 | 164 => 67 | 5 => 5 | 80 => 48 | n => n, fun | n => n⟩
theorem Lay.lays156 : Go.Proofs.Lays.n156 Tryd.prog Lay.lays156_ren := {
  mixed := by kernel_rfl
  f156 := Tryd.func13.trans (congrArg some (by kernel_rfl))
  f165 := Tryd.func23.trans (congrArg some (by kernel_rfl))
  f166 := Tryd.func24.trans (congrArg some (by kernel_rfl))
  f169 := Tryd.func15.trans (congrArg some (by kernel_rfl))
  f240 := Tryd.func26.trans (congrArg some (by kernel_rfl))
  f241 := Tryd.func31.trans (congrArg some (by kernel_rfl))
  f276 := Tryd.func32.trans (congrArg some (by kernel_rfl))
  f277 := Tryd.func37.trans (congrArg some (by kernel_rfl))
  t0 := Tryd.underlying0
  a0 := Tryd.isAgg0
  z0 := Tryd.sizeOf0
  v0 := Tryd.zeroValue0
  t3 := Tryd.underlying3
  a3 := Tryd.isAgg3
  z3 := Tryd.sizeOf3
  v3 := Tryd.zeroValue3
  t4 := Tryd.underlying4
  a4 := Tryd.isAgg4
  z4 := Tryd.sizeOf4
  v4 := Tryd.zeroValue4
  t9 := Tryd.underlying9
  a9 := Tryd.isAgg9
  z9 := Tryd.sizeOf9
  v9 := Tryd.zeroValue9
  t20 := Tryd.underlying20
  a20 := Tryd.isAgg20
  z20 := Tryd.sizeOf20
  v20 := Tryd.zeroValue20
  t31 := Tryd.underlying24
  a31 := Tryd.isAgg24
  z31 := Tryd.sizeOf24
  v31 := Tryd.zeroValue24
  t37 := Tryd.underlying40
  a37 := Tryd.isAgg40
  z37 := Tryd.sizeOf40
  v37 := Tryd.zeroValue40
  t70 := Tryd.underlying41
  a70 := Tryd.isAgg41
  z70 := Tryd.sizeOf41
  v70 := Tryd.zeroValue41
  t72 := Tryd.underlying43
  a72 := Tryd.isAgg43
  z72 := Tryd.sizeOf43
  v72 := Tryd.zeroValue43
  t75 := Tryd.underlying45
  a75 := Tryd.isAgg45
  z75 := Tryd.sizeOf45
  v75 := Tryd.zeroValue45
  t76 := Tryd.underlying58
  a76 := Tryd.isAgg58
  z76 := Tryd.sizeOf58
  v76 := Tryd.zeroValue58
  t127 := Tryd.underlying61
  a127 := Tryd.isAgg61
  z127 := Tryd.sizeOf61
  v127 := Tryd.zeroValue61
  t164 := Tryd.underlying67
  a164 := Tryd.isAgg67
  z164 := Tryd.sizeOf67
  v164 := Tryd.zeroValue67 }
theorem Lay.Builder_Extra_156 : Builder.Extra Tryd.prog Lay.lays156_ren := {
  sizeBuilder := by kernel_rfl
  liesBuilder := by kernel_rfl
  t5 := Tryd.underlying5
  a5 := Tryd.isAgg5
  z5 := Tryd.sizeOf5
  v5 := Tryd.zeroValue5
  infoByte := by kernel_rfl
  cellsByte := by kernel_rfl
  sizeByte := by kernel_rfl
  neB5 := by decide }
open Go.RowKit in
theorem Lay.strings_Join (bk o c : Nat) (xs : List ByteArray) (sep : ByteArray) (w : World) (hcells : ∀ (j : Nat) x, xs[j]? = some x → w.cell? ⟨bk, o + j, none⟩ = some (.string x)) (hbk : bk < w.heap.size) (hN : xs.length ≤ 140737488355328) (hcap : xs.length ≤ c) (hlen : (Lib.join (xs.map (·.data.toList)) sep.data.toList).length ≤ 140737488355328) :
    Calls Tryd.prog 13 #[.slice (some ⟨bk, o, none⟩) xs.length c, .string sep] w fun e w' => e = .returned (.string ⟨(Lib.join (xs.map (·.data.toList)) sep.data.toList).toArray⟩) ∧ Below w.heap.size w w' := Any.strings_Join Lay.lays156 Lay.Builder_Extra_156 bk o c xs sep w hcells hbk hN hcap hlen
def Lay.lays283_ren : Go.Shelf.Ren := ⟨fun | 283 => 33 | n => n, fun | 3 => 3 | 9 => 9 | 4 => 4 | n => n, fun | n => n⟩
theorem Lay.lays283 : Go.Proofs.Lays.n283 Tryd.prog Lay.lays283_ren := {
  mixed := by kernel_rfl
  f283 := Tryd.func33.trans (congrArg some (by kernel_rfl))
  t3 := Tryd.underlying3
  a3 := Tryd.isAgg3
  z3 := Tryd.sizeOf3
  v3 := Tryd.zeroValue3
  t4 := Tryd.underlying4
  a4 := Tryd.isAgg4
  z4 := Tryd.sizeOf4
  v4 := Tryd.zeroValue4
  t9 := Tryd.underlying9
  a9 := Tryd.isAgg9
  z9 := Tryd.sizeOf9
  v9 := Tryd.zeroValue9 }
open Go.Lib in
theorem Lay.internal_strconv_small (i : Nat) (h : i < 100) (w : World) :
    Calls Tryd.prog 33 #[.int .i64 i] w fun e w' => e = .returned (.string ⟨(Lib.decDigits i).toArray⟩) ∧ w' = w := Any.internal_strconv_small Lay.lays283 i h w
def Lay.laysM284_ren : Go.Shelf.Ren := ⟨fun | 284 => 34 | 129 => 39 | 317 => 38 | 318 => 40 | n => n, fun | 53 => 29 | 3 => 3 | 212 => 78 | 0 => 0 | 4 => 4 | 46 => 47 | 5 => 5 | 9 => 9 | n => n, fun | 17 => 0 | n => n⟩
theorem Lay.laysM284 : Go.Proofs.LaysM.n284 Tryd.prog Lay.laysM284_ren := {
  mixed := by kernel_rfl
  f129 := Tryd.func39.trans (congrArg some (by kernel_rfl))
  f284 := Tryd.func34.trans (congrArg some (by kernel_rfl))
  f317 := Tryd.func38.trans (congrArg some (by kernel_rfl))
  f318 := Tryd.func40.trans (congrArg some (by kernel_rfl))
  t0 := Tryd.underlying0
  a0 := Tryd.isAgg0
  z0 := Tryd.sizeOf0
  v0 := Tryd.zeroValue0
  t3 := Tryd.underlying3
  a3 := Tryd.isAgg3
  z3 := Tryd.sizeOf3
  v3 := Tryd.zeroValue3
  t4 := Tryd.underlying4
  a4 := Tryd.isAgg4
  z4 := Tryd.sizeOf4
  v4 := Tryd.zeroValue4
  t5 := Tryd.underlying5
  a5 := Tryd.isAgg5
  z5 := Tryd.sizeOf5
  v5 := Tryd.zeroValue5
  t9 := Tryd.underlying9
  a9 := Tryd.isAgg9
  z9 := Tryd.sizeOf9
  v9 := Tryd.zeroValue9
  t46 := Tryd.underlying47
  a46 := Tryd.isAgg47
  z46 := Tryd.sizeOf47
  v46 := Tryd.zeroValue47
  t53 := Tryd.underlying29
  a53 := Tryd.isAgg29
  z53 := Tryd.sizeOf29
  v53 := Tryd.zeroValue29
  t212 := Tryd.underlying78
  a212 := Tryd.isAgg78
  z212 := Tryd.sizeOf78
  v212 := Tryd.zeroValue78
  g17 := by kernel_rfl
  i0 := by kernel_rfl
  i3 := by kernel_rfl
  i4 := by kernel_rfl
  i5 := by kernel_rfl
  i9 := by kernel_rfl
  i46 := by kernel_rfl
  i53 := by kernel_rfl
  i212 := by kernel_rfl
  m17 := by kernel_rfl }
open Go.Lib in
theorem Lay.internal_strconv_numDigits (u : Nat) (h1 : 1 ≤ u) (h2 : u < 18446744073709551616) (w : World) (htab : Lib.TabIs Tryd.prog w "internal/strconv.uint64pow10" .u64 Lib.pow10Tab) :
    Calls Tryd.prog 34 #[.int .u64 u] w fun e w' => e = .returned (.int .i64 (Lib.nDigits u)) ∧ w' = w := Any.internal_strconv_numDigits Lay.laysM284 u h1 h2 w htab
def Lay.lays285_ren : Go.Shelf.Ren := ⟨fun | 285 => 35 | n => n, fun | 37 => 40 | 53 => 29 | 3 => 3 | 4 => 4 | 51 => 62 | 9 => 9 | 5 => 5 | 0 => 0 | n => n, fun | n => n⟩
theorem Lay.lays285 : Go.Proofs.Lays.n285 Tryd.prog Lay.lays285_ren := {
  mixed := by kernel_rfl
  f285 := Tryd.func35.trans (congrArg some (by kernel_rfl))
  t0 := Tryd.underlying0
  a0 := Tryd.isAgg0
  z0 := Tryd.sizeOf0
  v0 := Tryd.zeroValue0
  t3 := Tryd.underlying3
  a3 := Tryd.isAgg3
  z3 := Tryd.sizeOf3
  v3 := Tryd.zeroValue3
  t4 := Tryd.underlying4
  a4 := Tryd.isAgg4
  z4 := Tryd.sizeOf4
  v4 := Tryd.zeroValue4
  t5 := Tryd.underlying5
  a5 := Tryd.isAgg5
  z5 := Tryd.sizeOf5
  v5 := Tryd.zeroValue5
  t9 := Tryd.underlying9
  a9 := Tryd.isAgg9
  z9 := Tryd.sizeOf9
  v9 := Tryd.zeroValue9
  t37 := Tryd.underlying40
  a37 := Tryd.isAgg40
  z37 := Tryd.sizeOf40
  v37 := Tryd.zeroValue40
  t51 := Tryd.underlying62
  a51 := Tryd.isAgg62
  z51 := Tryd.sizeOf62
  v51 := Tryd.zeroValue62
  t53 := Tryd.underlying29
  a53 := Tryd.isAgg29
  z53 := Tryd.sizeOf29
  v53 := Tryd.zeroValue29 }
open Go.RowKit Go.Sort Go.Lib in
theorem Lay.internal_strconv_formatBase10 (blk off cap : Nat) (u : Nat) (d : Array UInt8) (w : World) (hH : Holds (fun (b : UInt8) => Value.int .u8 (b.toNat : Int)) w blk off d) (hu : u < 10 ^ d.size) (hu64 : u < 18446744073709551616) (hsz : d.size < 4611686018427387904) :
    Calls Tryd.prog 35 #[.slice (some ⟨blk, off, none⟩) d.size cap, .int .u64 u] w fun e w' =>
      e = .returned (.tuple #[]) ∧ ∃ (n v' : Nat) (dk : Array UInt8), w' = (putRow (fun (b : UInt8) => Value.int .u8 (b.toNat : Int)) w blk off dk).drewN n ∧ FmtInv d.size u 0 v' dk := Any.internal_strconv_formatBase10 Lay.lays285 blk off cap u d w hH hu hu64 hsz
def Lay.lays105_ren : Go.Shelf.Ren := ⟨fun | 105 => 12 | 212 => 21 | 99 => 22 | 165 => 23 | 166 => 24 | 170 => 25 | 169 => 15 | 263 => 28 | 264 => 29 | 206 => 30 | 240 => 26 | 241 => 31 | 276 => 32 | 277 => 37 | n => n, fun | 9 => 9 | 3 => 3 | 4 => 4 | 20 => 20 | 0 => 0 | 46 => 47 | 109 => 54 | 5 => 5 | 72 => 43 | 76 => 58 | 51 => 62 | 146 => 63 | 53 => 29 | 148 => 65 | 70 => 41 | 37 => 40 | 75 => 45 | 127 => 61 | 164 => 67 | 80 => 48 | n => n, fun | n => n⟩
theorem Lay.lays105 : Go.Proofs.Lays.n105 Tryd.prog Lay.lays105_ren := {
  mixed := by kernel_rfl
  f99 := Tryd.func22.trans (congrArg some (by kernel_rfl))
  f105 := Tryd.func12.trans (congrArg some (by kernel_rfl))
  f165 := Tryd.func23.trans (congrArg some (by kernel_rfl))
  f166 := Tryd.func24.trans (congrArg some (by kernel_rfl))
  f169 := Tryd.func15.trans (congrArg some (by kernel_rfl))
  f170 := Tryd.func25.trans (congrArg some (by kernel_rfl))
  f206 := Tryd.func30.trans (congrArg some (by kernel_rfl))
  f212 := Tryd.func21.trans (congrArg some (by kernel_rfl))
  f240 := Tryd.func26.trans (congrArg some (by kernel_rfl))
  f241 := Tryd.func31.trans (congrArg some (by kernel_rfl))
  f263 := Tryd.func28.trans (congrArg some (by kernel_rfl))
  f264 := Tryd.func29.trans (congrArg some (by kernel_rfl))
  f276 := Tryd.func32.trans (congrArg some (by kernel_rfl))
  f277 := Tryd.func37.trans (congrArg some (by kernel_rfl))
  t0 := Tryd.underlying0
  a0 := Tryd.isAgg0
  z0 := Tryd.sizeOf0
  v0 := Tryd.zeroValue0
  t3 := Tryd.underlying3
  a3 := Tryd.isAgg3
  z3 := Tryd.sizeOf3
  v3 := Tryd.zeroValue3
  t4 := Tryd.underlying4
  a4 := Tryd.isAgg4
  z4 := Tryd.sizeOf4
  v4 := Tryd.zeroValue4
  t5 := Tryd.underlying5
  a5 := Tryd.isAgg5
  z5 := Tryd.sizeOf5
  v5 := Tryd.zeroValue5
  t9 := Tryd.underlying9
  a9 := Tryd.isAgg9
  z9 := Tryd.sizeOf9
  v9 := Tryd.zeroValue9
  t20 := Tryd.underlying20
  a20 := Tryd.isAgg20
  z20 := Tryd.sizeOf20
  v20 := Tryd.zeroValue20
  t37 := Tryd.underlying40
  a37 := Tryd.isAgg40
  z37 := Tryd.sizeOf40
  v37 := Tryd.zeroValue40
  t46 := Tryd.underlying47
  a46 := Tryd.isAgg47
  z46 := Tryd.sizeOf47
  v46 := Tryd.zeroValue47
  t51 := Tryd.underlying62
  a51 := Tryd.isAgg62
  z51 := Tryd.sizeOf62
  v51 := Tryd.zeroValue62
  t53 := Tryd.underlying29
  a53 := Tryd.isAgg29
  z53 := Tryd.sizeOf29
  v53 := Tryd.zeroValue29
  t70 := Tryd.underlying41
  a70 := Tryd.isAgg41
  z70 := Tryd.sizeOf41
  v70 := Tryd.zeroValue41
  t72 := Tryd.underlying43
  a72 := Tryd.isAgg43
  z72 := Tryd.sizeOf43
  v72 := Tryd.zeroValue43
  t75 := Tryd.underlying45
  a75 := Tryd.isAgg45
  z75 := Tryd.sizeOf45
  v75 := Tryd.zeroValue45
  t76 := Tryd.underlying58
  a76 := Tryd.isAgg58
  z76 := Tryd.sizeOf58
  v76 := Tryd.zeroValue58
  t109 := Tryd.underlying54
  a109 := Tryd.isAgg54
  z109 := Tryd.sizeOf54
  v109 := Tryd.zeroValue54
  t127 := Tryd.underlying61
  a127 := Tryd.isAgg61
  z127 := Tryd.sizeOf61
  v127 := Tryd.zeroValue61
  t146 := Tryd.underlying63
  a146 := Tryd.isAgg63
  z146 := Tryd.sizeOf63
  v146 := Tryd.zeroValue63
  t148 := Tryd.underlying65
  a148 := Tryd.isAgg65
  z148 := Tryd.sizeOf65
  v148 := Tryd.zeroValue65
  t164 := Tryd.underlying67
  a164 := Tryd.isAgg67
  z164 := Tryd.sizeOf67
  v164 := Tryd.zeroValue67 }
theorem Lay.Builder_Extra_105 : Builder.Extra Tryd.prog Lay.lays105_ren := {
  sizeBuilder := by kernel_rfl
  liesBuilder := by kernel_rfl
  t5 := Tryd.underlying5
  a5 := Tryd.isAgg5
  z5 := Tryd.sizeOf5
  v5 := Tryd.zeroValue5
  infoByte := by kernel_rfl
  cellsByte := by kernel_rfl
  sizeByte := by kernel_rfl
  neB5 := by decide }
open Go.RowKit Go.Lib in
theorem Lay.strings_Repeat (s : ByteArray) (c : Nat) (w : World) (hc : c ≤ 9223372036854775807) (hlen : s.size * c ≤ 140737488355328) :
    Calls Tryd.prog 12 #[.string s, .int .i64 c] w fun e w' => e = .returned (.string ⟨(Lib.repeatL s.data.toList c).toArray⟩) ∧ Below w.heap.size w w' := Any.strings_Repeat Lay.lays105 Lay.Builder_Extra_105 s c w hc hlen
end Go.Proofs.YtmmgiolhfekplaaDoor
end
section
namespace Go.Proofs.YtmmgiolhfekplaaDoor.Shw
open Go.RowKit Go.Sort Go.Lib Go.Proofs.YtmmgiolhfekplaaDoor Go.Proofs.YtmmgiolhfekplaaDoorW.PrintWords
set_option linter.unusedVariables false
set_option linter.unusedSimpArgs false
set_option maxRecDepth 100000
theorem pow_g : Tryd.prog.globalNamed "internal/strconv.uint64pow10" = some 0 := by kernel_rfl
def TabW (w : World) : Prop := Lib.TabIs Tryd.prog w "internal/strconv.uint64pow10" .u64 Lib.pow10Tab
theorem tab_below {n : String} {g : Nat} {k : IntKind} {zs : List Int} {w w' : World} (hg : Tryd.prog.globalNamed n = some g) (h : Lib.TabIs Tryd.prog w n k zs) (hb : Below w.heap.size w w') (hz : zs ≠ []) : Lib.TabIs Tryd.prog w' n k zs := by
  unfold Lib.TabIs World.var? at *
  rw [hg] at h ⊢
  simp only [Option.bind_some] at h ⊢
  have hlt : g < w.heap.size := by
    rcases Nat.lt_or_ge g w.heap.size with q | q
    · exact q
    · rw [Array.getElem?_eq_none q] at h
      simp at h
  rw [hb.block g hlt]
  exact h
theorem TabW.below {w W : World} (h : TabW w) (hb : Below w.heap.size w W) : TabW W := tab_below pow_g h hb (by decide)
theorem below_grow (w : World) (os : Array Obj) : Below w.heap.size w (Go.Sort.grow w os) := by
  refine ⟨rfl, rfl, rfl, by simp [Go.Sort.grow], fun k hk => ?_⟩
  simp [Go.Sort.grow, Array.getElem?_append, hk]
def dig (u : Nat) : ByteArray := ⟨(Lib.decDigits u).toArray⟩
theorem fmt_small (u : Nat) (hi : u < 100) (w : World) : Calls Tryd.prog 27 #[.int .u64 u, .int .i64 10] w fun e w' => e = .returned (.string (dig u)) ∧ w' = w := by
  go_enter Tryd.func27, Tryd.ntmps27
  go_wp2_with fail
  refine (Lay.internal_strconv_small u hi _).mono ?_
  rintro e w' ⟨rfl, rfl⟩
  go_wp2
  go_ret
  exact ⟨rfl, rfl⟩
set_option maxHeartbeats 6400000 in
theorem fmt_big (u : Nat) (hu : 100 ≤ u) (hu64 : u < 18446744073709551616) (w : World) (htab : Lib.TabIs Tryd.prog w "internal/strconv.uint64pow10" .u64 Lib.pow10Tab) :
    Calls Tryd.prog 27 #[.int .u64 u, .int .i64 10] w fun e w' => e = .returned (.string (dig u)) ∧ Below w.heap.size w w' := by
  have hu1 : 1 ≤ u := by omega
  have hnd20 : Lib.nDigits u ≤ 20 := by have := Lib.numDigits_eq u hu1 hu64; split at this <;> omega
  have hal : Tryd.prog.arrayLen 70 = 24 := by simp [Program.arrayLen, Tryd.underlying70]
  have hsl1 : ∀ W, (Instr.sliceAt 70 (.pointer (some ⟨w.heap.size, 0, none⟩)) none (some (.int .i64 (Lib.nDigits u : Int))) none).run Tryd.prog W = .ok (.slice (some ⟨w.heap.size, 0, none⟩) (Lib.nDigits u) 24) W := fun W => by
    rw [run_sliceAt_array_h W 70 ⟨w.heap.size, 0, none⟩ (by simp [Program.arrayLen, Program.elem, Tryd.underlying70]) .i64 (Lib.nDigits u : Int) (by omega) (by rw [hal]; omega)]
    go_simp
    try omega
  have hH0 : Holds (fun (b : UInt8) => Value.int .u8 (b.toNat : Int)) (w.alloc (.cells Lib.zeros24 70)) w.heap.size 0 (Array.replicate (Lib.nDigits u) 0) := Lib.holds_zero0 w 70 (Lib.nDigits u) (by omega)
  have hfmt := Lay.internal_strconv_formatBase10 w.heap.size 0 24 u (Array.replicate (Lib.nDigits u) 0) (w.alloc (.cells Lib.zeros24 70)) hH0 (by rw [Array.size_replicate]; exact Lib.lt_pow_nDigits u) hu64 (by rw [Array.size_replicate]; omega)
  rw [Array.size_replicate] at hfmt
  have HH0 := Lib.hid hH0
  clear hH0 hal
  go_enter Tryd.func27, Tryd.ntmps27
  go_wp2_with fail
  refine (Lay.internal_strconv_numDigits u hu1 hu64 _ (Lib.tabIs_alloc htab _)).mono ?_
  rintro e w' ⟨rfl, rfl⟩
  go_wp2_with fail
  refine hfmt.mono ?_
  rintro e w' ⟨rfl, k, v', dk, rfl, hF⟩
  have hcv : (convert 40 9 (.slice (some ⟨w.heap.size, 0, none⟩) (Lib.nDigits u) 24)).run Tryd.prog ((putRow (fun (b : UInt8) => Value.int .u8 (b.toNat : Int)) (w.alloc (.cells Lib.zeros24 70)) w.heap.size 0 dk).drewN k) = .ok (.string ⟨(Lib.decDigits u).toArray⟩) ((putRow (fun (b : UInt8) => Value.int .u8 (b.toNat : Int)) (w.alloc (.cells Lib.zeros24 70)) w.heap.size 0 dk).drewN k) := by
    have h := run_convert_bytes_back (P := Tryd.prog) ((putRow (fun (b : UInt8) => Value.int .u8 (b.toNat : Int)) (w.alloc (.cells Lib.zeros24 70)) w.heap.size 0 dk).drewN k) 40 9 5 ⟨w.heap.size, 0, none⟩ 24 (Lib.decDigits u) Tryd.underlying40 Tryd.underlying5 Tryd.underlying9 (fun j hj => by
      rw [Lib.row_is_numeral hF j hj, Lib.add_plain, World.cell?_drewN]
      exact cell?_putRow (fun (b : UInt8) => Value.int .u8 (b.toNat : Int)) _ w.heap.size 0 _ dk HH0.out (by rw [hF.size, Array.size_replicate]) j (by rw [hF.size]; rw [Lib.decDigits_length] at hj; exact hj))
    rw [Lib.decDigits_length] at h
    exact h
  go_wp2
  go_ret
  refine ⟨rfl, ?_⟩
  obtain ⟨os, eo⟩ := Lib.fin_at w (.cells Lib.zeros24 70) dk k 0
  rw [eo]
  exact (pw_below_drewN (Below.refl w.heap.size w) k).trans (below_grow (w.drewN k) os)
theorem fu_calls (u : Nat) (hu64 : u < 18446744073709551616) (w : World) (hT : TabW w) : Calls Tryd.prog 20 #[.int .u64 u, .int .i64 10] w fun e w' => e = .returned (.string (dig u)) ∧ Below w.heap.size w w' := by
  have HT := Aside0.mk hT
  clear hT
  by_cases h : u < 100
  · go_enter Tryd.func20, Tryd.ntmps20
    go_wp2_with fail
    refine (fmt_small u h w).mono ?_
    rintro e w' ⟨rfl, rfl⟩
    go_wp2
    go_ret
    exact ⟨rfl, Below.refl _ _⟩
  · go_enter Tryd.func20, Tryd.ntmps20
    go_wp2_with fail
    refine (fmt_big u (by omega) hu64 w HT.out).mono ?_
    rintro e w' ⟨rfl, hb⟩
    have HB := Aside0.mk hb
    clear hb
    go_wp2
    go_ret
    exact ⟨rfl, HB.out⟩
theorem text1_calls (u : Nat) (hu64 : u < 18446744073709551616) (w : World) (hT : TabW w) : Calls Tryd.prog 19 #[.int .u64 u] w fun e w' => e = .returned (.string (dig u)) ∧ Below w.heap.size w w' := by
  have HT := Aside0.mk hT
  clear hT
  go_enter Tryd.func19, Tryd.ntmps19
  go_wp2_with fail
  refine (fu_calls u hu64 w HT.out).mono ?_
  rintro e w' ⟨rfl, hb⟩
  have HB := Aside0.mk hb
  clear hb
  go_wp2
  go_ret
  exact ⟨rfl, HB.out⟩
theorem dig_le (u : Nat) (hu : u < 18446744073709551616) : (dig u).size ≤ 20 := by
  have h7 : (Lib.decDigits u).length ≤ 20 := by
    rw [Lib.decDigits_length]
    by_cases h0 : u = 0
    · subst h0; decide +kernel
    · have := Lib.numDigits_eq u (by omega) hu; split at this <;> omega
  simpa [dig, ByteArray.size] using h7
end Go.Proofs.YtmmgiolhfekplaaDoor.Shw
end
section
namespace Go.Proofs.YtmmgiolhfekplaaDoor.Shw
open Go.RowKit Go.Proofs.YtmmgiolhfekplaaDoor Go.Proofs.YtmmgiolhfekplaaDoor.Obj Go.Proofs.YtmmgiolhfekplaaDoorW.PrintWords Go.Proofs.YtmmgiolhfekplaaDoorW.PrintLast Go.Proofs.YtmmgiolhfekplaaDoorW.PrintMore
set_option linter.unusedVariables false
set_option linter.unusedSimpArgs false
set_option maxRecDepth 100000
theorem infoS : (Tryd.prog.info? 9).map (fun i => (i.zero, i.size, i.bytes)) = some (some (.string ⟨#[]⟩), 1, 16) := by kernel_rfl
def digs (xs : List Int) : List ByteArray := xs.map fun x => dig x.toNat
def strs (ts : List ByteArray) : List Value := ts.map Value.string
theorem own_below {w w' : World} {base s n : Nat} {e : TypeId} {v : Value} {xs : List Value} (h : w.ownsRow base e s v n xs) (hb : Below w.heap.size w w') : w'.ownsRow base e s v n xs :=
  h.kept (row := none) ⟨hb.os, hb.tape, hb.output, hb.size, fun k hk _ => hb.block k hk⟩ (Classical.em _)
theorem digs_len (xs : List Int) : (digs xs).length = xs.length := by simp [digs]
theorem strs_len (xs : List ByteArray) : (strs xs).length = xs.length := by simp [strs]
theorem digs_take (xs : List Int) (k : Nat) (hk : k < xs.length) : strs ((digs xs).take (k + 1)) = strs ((digs xs).take k) ++ [.string (dig (xs.getD k 0).toNat)] := by
  have h : (digs xs)[k]? = some (dig (xs.getD k 0).toNat) := by simp [digs, hk]
  rw [List.take_add_one, h]
  simp [strs]
def So (w : World) (base : Nat) (v : Value) (ts : List ByteArray) : Prop := w.ownsRow base 9 1 v ts.length (strs ts)
set_option maxHeartbeats 4000000 in
theorem each_calls (A : Option Addr) (c : Nat) (xs : List Int) (w : World) (hx : ∀ x ∈ xs, 0 ≤ x ∧ x ≤ 18446744073709551615) (hn : xs.length ≤ 1000) (hl : Kd.C (Kd.int .u64) w A xs.length xs) (hT : TabW w) :
    Calls Tryd.prog 18 #[.slice A xs.length c, .func (.func 19) #[] #[]] w fun e w' => ∃ v, e = .returned v ∧ So w' w.heap.size v (digs xs) ∧ Below w.heap.size w w' := by
  obtain ⟨i0, hi, hz0, hz1, hz2⟩ := info_parts infoS
  have HX := Aside0.mk hx
  have HL := Aside0.mk hl
  have HT := Aside0.mk hT
  clear hx hl hT
  go_enter Tryd.func18, Tryd.ntmps18
  go_wp2
  go_loopw [5, 10] (fun v5 v10 wr => ∃ k : Nat, k ≤ xs.length ∧ v10 = .int .i64 k ∧ wr.ownsRow w.heap.size 9 1 v5 k (strs ((digs xs).take k)) ∧ Aside0 (Below w.heap.size w wr)) (fun _ v10 _ => xs.length - (intOf v10).toNat)
  case atStart => exact ⟨0, by omega, rfl, by simpa [strs] using World.ownsRow_nil w w.heap.size 9 1, ⟨Below.refl _ _⟩⟩
  case round =>
    obtain ⟨k, hk, rfl, hown, HB⟩ := hrel
    by_cases hlt : k < xs.length
    · have hlt' : (k : Int) < (xs.length : Int) := by omega
      obtain ⟨u, hu, hu2⟩ : ∃ u : Nat, xs.getD k 0 = (u : Int) ∧ u < 18446744073709551616 := by
        have := HX.out (xs.getD k 0) (by rw [List.getD_eq_getElem?_getD, List.getElem?_eq_getElem hlt]; exact List.getElem_mem hlt)
        exact ⟨(xs.getD k 0).toNat, by omega, by omega⟩
      obtain ⟨ad, q, hc⟩ := C_at (Kd.C_below HL.out HB.out) k hlt
      subst q
      rw [hu] at hc
      have hs := digs_take xs k hlt
      rw [hu, Int.toNat_natCast] at hs
      have HS := Aside0.mk hs
      clear hs hu
      go_wp2_with fail
      with_reducible refine (text1_calls u hu2 _ (HT.out.below HB.out)).mono ?_
      rintro e w1 ⟨rfl, hb⟩
      have hown1 : w1.ownsRow w.heap.size 9 1 u5 k (strs ((digs xs).take k)) := own_below hown hb
      have HB1 := Aside0.mk (below_then HB.out HB.out.size hb)
      clear hb hc hown
      go_wp2_with (at_builtin; refine wpList_append_own _ rfl _ _ 24 rfl w.heap.size 9 i0 (.string ⟨#[]⟩) 1 16 Tryd.underlying24 hi hz0 hz1 hz2 rfl (by decide) _ _ _ rfl (hown1.alloc _) ⟨w1.heap.size, 0, none⟩ 1 1 [.string (dig u)] rfl rfl ?c1 ?c2 ?c3 ?c4 ?c5 ?_)
      case c1 =>
        intro j u hj
        match j, hj with
        | 0, hj => simp at hj; subst hj; simp [Addr.add]
      case c2 => intro u hu; simp at hu; subst hu; rfl
      case c3 => unfold maxLen; omega
      case c4 => omega
      case c5 => have := HB1.out.size; simp; omega
      intro v' w2 hown' hgrow _
      rw [← HS.out] at hown'
      have HB2 := Aside0.mk ((HB1.out.alloc HB1.out.size _).grown hgrow (by have := HB1.out.size; simp; omega) (fun k hk => (hown1.lt k hk).1))
      clear hgrow hown1 HB1
      go_wp2
      go_roundw
      case rel => exact ⟨k + 1, hlt, by go_num, hown', HB2⟩
      case measure => simp [intOf]; omega
    · obtain rfl : k = xs.length := by omega
      go_wp2
      go_ret
      refine ⟨_, rfl, ?_, HB.out⟩
      unfold So
      rw [digs_len]
      rwa [List.take_of_length_le (by rw [digs_len]; omega)] at hown
end Go.Proofs.YtmmgiolhfekplaaDoor.Shw
end
section
namespace Go.Proofs.YtmmgiolhfekplaaDoor.Ext
open Go.RowKit Go.Proofs.YtmmgiolhfekplaaDoorW.PrintWords Go.Proofs.YtmmgiolhfekplaaDoorW.PrintLast Go.Proofs.YtmmgiolhfekplaaDoorW.PrintMore
set_option linter.unusedVariables false
set_option linter.unusedSimpArgs false
set_option maxRecDepth 100000 in
theorem cc_used (b : Nat) (w : World) (h0 : w.cell? ⟨b, 0, none⟩ = some (.pointer (some ⟨b, 0, none⟩))) :
    Calls Tryd.prog 26 #[.pointer (some ⟨b, 0, none⟩)] w fun e w' => e = .returned (.tuple #[]) ∧ w' = w := by
  obtain ⟨j, hj, _⟩ := Option.map_eq_some_iff.1 (Lay.Builder_Extra_169).sizeBuilder
  go_enter Tryd.func26, Tryd.ntmps26
  go_wp2
  rw [Lib.run_neq_ptr_same w _ Tryd.underlying41 hj]
  go_wp2
  go_end0
  exact ⟨rfl, rfl⟩
set_option maxRecDepth 100000 in
theorem cc_fresh (b : Nat) (w : World) (h0 : w.cell? ⟨b, 0, none⟩ = some (.pointer none)) (hsh : w.shape? b = some (43, 2)) (hfz : w.frozen? ⟨b, 0, none⟩ = false) :
    Calls Tryd.prog 26 #[.pointer (some ⟨b, 0, none⟩)] w fun e w' => e = .returned (.tuple #[]) ∧ w' = w.setCell ⟨b, 0, none⟩ (.pointer (some ⟨b, 0, none⟩)) := by
  obtain ⟨j, hj, hjs⟩ := Option.map_eq_some_iff.1 (Lay.Builder_Extra_169).sizeBuilder
  go_enter Tryd.func26, Tryd.ntmps26
  go_wp2
  rw [Lib.run_to_unsafe w ⟨b, 0, none⟩ Tryd.underlying41 Tryd.underlying67 hj (by rw [hjs]; decide) hsh (Nat.zero_lt_succ 1)]
  simp only [Result.andThen]
  rw [Oper.upon_value]
  go_wp2
  rw [run_callFunc_extern Tryd.func32 (by kernel_rfl) (by kernel_rfl) (by kernel_rfl) (e := Extern.AbiNoEscape.same) (by kernel_rfl)]
  rw [Lib.run_noEscape]
  simp only [Result.andThen]
  rw [Oper.upon_value]
  go_wp2
  rw [Lib.run_from_unsafe w ⟨b, 0, none⟩ Tryd.underlying67 Tryd.underlying41 hj hsh (Lay.Builder_Extra_169).liesBuilder]
  simp only [Result.andThen]
  rw [Oper.upon_value]
  go_wp2
  go_end0
  exact ⟨rfl, rfl⟩
theorem cc_any (B b : Nat) (bs : List Value) (w : World) (h : Lib.IsBuilder 43 5 B b bs w) :
    Calls Tryd.prog 26 #[.pointer (some ⟨b, 0, none⟩)] w fun e w' => e = .returned (.tuple #[]) ∧ (Lib.BuilderAt 43 5 B b (.pointer (some ⟨b, 0, none⟩)) bs w' ∧ Below B w w') := by
  rcases h with h | h
  · refine (cc_fresh b w h.cell0 h.shape h.frozen0).mono ?_
    rintro e w' ⟨rfl, rfl⟩
    exact ⟨rfl, h.used _, (Below.refl B w).setCell (p := ⟨b, 0, none⟩) h.1 _⟩
  · refine (cc_used b w h.cell0).mono ?_
    rintro e w' ⟨rfl, rfl⟩
    exact ⟨rfl, h, Below.refl B _⟩
set_option maxHeartbeats 2000000 in
set_option maxRecDepth 100000 in
theorem writeByte_ (B b : Nat) (bs : List Value) (c : Int) (w : World) (h : Lib.IsBuilder 43 5 B b bs w) (hlen : bs.length + 1 ≤ 140737488355328) (hBw : B ≤ w.heap.size) :
    Calls Tryd.prog 14 #[.pointer (some ⟨b, 0, none⟩), .int .u8 c] w fun e w' => e = .returned .nilIface ∧ (Lib.IsBuilder 43 5 B b (bs ++ [.int .u8 c]) w' ∧ Below B w w') := by
  obtain ⟨i0, hi, hz0, hz1, hz2⟩ := info_parts (show (Tryd.prog.info? 5).map (fun i => (i.zero, i.size, i.bytes)) = some (some (.int .u8 0), 1, 1) by kernel_rfl)
  go_enter Tryd.func14, Tryd.ntmps14
  go_wp2_with fail
  refine (cc_any B b bs _ h).mono ?_
  rintro e w1 ⟨rfl, h1, hb1⟩
  obtain ⟨hB, v, hbk, hown, hne⟩ := h1
  have c0 : w1.cell? ⟨b, 0, none⟩ = some (.pointer (some ⟨b, 0, none⟩)) := by rw [Lib.cell_of_heap hbk]; rfl
  have c1 : w1.cell? ⟨b, 1, none⟩ = some v := by rw [Lib.cell_of_heap hbk]; rfl
  go_wp2_with (at_builtin; refine wpList_append_own _ rfl _ _ 40 rfl B 5 i0 (.int .u8 0) 1 1 Tryd.underlying40 hi hz0 hz1 hz2 rfl (by decide) _ _ _ rfl (hown.alloc _) ⟨w1.heap.size, 0, none⟩ 1 1 [.int .u8 c] rfl rfl ?c1 ?c2 ?c3 ?c4 ?c5 ?_)
  case c1 =>
    intro j u hj
    match j, hj with
    | 0, hj => simp at hj; subst hj; simp [Addr.add]
  case c2 => intro u hu; simp at hu; subst hu; rfl
  case c3 => unfold maxLen; omega
  case c4 => omega
  case c5 => have := hb1.size; simp; omega
  intro v' w2 hown' hgrow _
  have hlt : b < w1.heap.size := by
    rcases Nat.lt_or_ge b w1.heap.size with h' | h'
    · exact h'
    · simp [Array.getElem?_eq_none h'] at hbk
  have hb2 : w2.heap[b]? = some (.cells #[.pointer (some ⟨b, 0, none⟩), v] 43 (0, 0)) := by
    rw [hgrow.block b (by simp; omega) (fun e => hne e.symm), Lib.alloc_old w1 _ b hlt]
    exact hbk
  have d0 : w2.cell? ⟨b, 0, none⟩ = some (.pointer (some ⟨b, 0, none⟩)) := by rw [Lib.cell_of_heap hb2]; rfl
  have d1 : w2.cell? ⟨b, 1, none⟩ = some v := by rw [Lib.cell_of_heap hb2]; rfl
  have f1 : w2.frozen? ⟨b, 1, none⟩ = false := Lib.frozen_of_heap hb2 1
  obtain ⟨g, cap, rfl⟩ : ∃ g cap, v' = .slice (some ⟨g, 0, none⟩) (bs.length + 1) cap := by
    rcases hown'.2 with ⟨_, h0⟩ | ⟨g, cap, cur, hv, _⟩
    · omega
    · exact ⟨g, cap, hv⟩
  go_wp2
  go_ret
  refine ⟨rfl, .inr ?_, ?_⟩
  · exact Lib.BuilderAt.put (T := 43) (e := 5) hB hb2 (bs' := bs ++ [.int .u8 c]) (by simpa using hown') (by decide)
  · exact ((hb1.alloc (by have := hb1.size; omega) _).grown hgrow (by have := hb1.size; simp; omega) (fun k hk => (hown.lt k hk).1)).setCell (p := ⟨b, 1, none⟩) hB _
def dg (n : Nat) : UInt8 := #[48, 49, 50, 51, 52, 53, 54, 55, 56, 57, 97, 98, 99, 100, 101, 102].getD n 0
def hexw (w : Nat) : Nat → List UInt8
  | 0 => []
  | j + 1 => hexw w j ++ [dg (w / 16 ^ (15 - j) % 16)]
def hexl (l : List Int) : List UInt8 := l.flatMap fun x => hexw x.toNat 16
theorem hexw_len (w : Nat) : ∀ j, (hexw w j).length = j
  | 0 => rfl
  | j + 1 => by simp [hexw, hexw_len w j]
theorem hexl_len (l : List Int) : (hexl l).length = 16 * l.length := by
  induction l with
  | nil => rfl
  | cons x l ih => simp [hexl, hexw_len] at ih ⊢; omega
theorem hexl_snoc (l : List Int) (x : Int) : hexl (l ++ [x]) = hexl l ++ hexw x.toNat 16 := by unfold hexl; rw [List.flatMap_append, List.flatMap_cons, List.flatMap_nil, List.append_nil]
theorem byteCells_len (l : List UInt8) : (Lib.byteCells l).length = l.length := by simp [Lib.byteCells]
theorem byteCells_snoc (l : List UInt8) (c : UInt8) : Lib.byteCells (l ++ [c]) = Lib.byteCells l ++ [.int .u8 ((c.toNat : Nat) : Int)] := by simp [Lib.byteCells]
theorem dg_at (x : Int) (d : Nat) (h : x = (d : Int)) (hd : d < 16) (hp : x.toNat < (⟨#[48, 49, 50, 51, 52, 53, 54, 55, 56, 57, 97, 98, 99, 100, 101, 102]⟩ : ByteArray).size) :
    ((((⟨#[48, 49, 50, 51, 52, 53, 54, 55, 56, 57, 97, 98, 99, 100, 101, 102]⟩ : ByteArray)[x.toNat]'hp).toNat : Nat) : Int) = (((dg d).toNat : Nat) : Int) := by
  subst h
  have : ∀ d : Nat, (hd : d < 16) → (hp : ((d : Int)).toNat < 16) → ((((⟨#[48, 49, 50, 51, 52, 53, 54, 55, 56, 57, 97, 98, 99, 100, 101, 102]⟩ : ByteArray)[((d : Int)).toNat]'hp).toNat : Nat) : Int) = (((dg d).toNat : Nat) : Int) := by decide
  exact this d hd hp
theorem digit_at (x : Int) (j : Nat) (h0 : 0 ≤ x) (h1 : x ≤ 18446744073709551615) : ∃ d : Nat, Go.bits .and .u64 (x / 2 ^ (4 * (15 - j))) 15 = (d : Int) ∧ d < 16 ∧ d = x.toNat / 16 ^ (15 - j) % 16 := by
  obtain ⟨y, rfl⟩ := Int.eq_ofNat_of_zero_le h0
  have e1 : (y : Int) / 2 ^ (4 * (15 - j)) = ((y / 2 ^ (4 * (15 - j)) : Nat) : Int) := by simp
  have e2 : (2 : Nat) ^ (4 * (15 - j)) = 16 ^ (15 - j) := by rw [Nat.pow_mul]
  have h2 : y / 16 ^ (15 - j) ≤ y := Nat.div_le_self _ _
  have h3 : y / 16 ^ (15 - j) < 18446744073709551616 := by omega
  refine ⟨y / 16 ^ (15 - j) % 16, ?_, Nat.mod_lt _ (by omega), by rw [Int.toNat_natCast]⟩
  rw [e1, e2]
  have h := u64_and_nat (y / 16 ^ (15 - j)) 15 h3 (by omega)
  rw [show ((15 : Nat) : Int) = (15 : Int) from rfl] at h
  rw [h, show (15 : Nat) = 2 ^ 4 - 1 from rfl, Nat.and_two_pow_sub_one_eq_mod]
set_option maxHeartbeats 2000000 in
set_option maxRecDepth 100000 in
theorem hex_ (A0 : Option Addr) (c0 : Nat) (l0 : List Int) (w : World) (hr0 : Kd.C (Kd.int .u64) w A0 l0.length l0) (hc0 : l0.length ≤ c0) (hl : l0.length ≤ 1000) (hw : ∀ x ∈ l0, 0 ≤ x ∧ x ≤ 18446744073709551615) :
    Calls Tryd.prog 8 #[.slice A0 l0.length c0] w fun e w' => e = .returned (.string ⟨(hexl l0).toArray⟩) ∧ Below w.heap.size w w' := by
  have HR0 := Aside0.mk hr0
  clear hr0
  go_enter Tryd.func8, Tryd.ntmps8
  go_wp2_with fail
  go_loopw [9] (fun v wr => ∃ n : Nat, v = .int .i64 n ∧ n ≤ l0.length ∧ Aside0 (Lib.IsBuilder 43 5 w.heap.size w.heap.size (Lib.byteCells (hexl (l0.take n))) wr) ∧ Aside0 (Below w.heap.size w wr)) (fun v _ => l0.length - (intOf v).toNat)
  case atStart => exact ⟨0, rfl, Nat.zero_le _, ⟨.inl ⟨Nat.le_refl _, .slice none 0 0, blk_new _ _, own_nil _ _ _ _, by simp [Value.ownBlock]⟩⟩, ⟨below_alloc (Below.refl _ _) _⟩⟩
  case round =>
    obtain ⟨n, rfl, hn, HI, HB⟩ := hrel
    by_cases hlt : n < l0.length
    · obtain ⟨ad, e1, hx⟩ := Kd.at_int (Kd.C_below HR0.out HB.out) (n : Int) (by omega) (by omega)
      cases e1
      simp only [Int.toNat_natCast] at hx
      have hr : 0 ≤ rd l0 (n : Int) ∧ rd l0 (n : Int) ≤ 18446744073709551615 := by
        have : rd l0 (n : Int) = l0[n] := by simp [rd, hlt]
        rw [this]; exact hw _ (List.getElem_mem hlt)
      go_wp2_with fail
      go_loopw [6] (fun v w2 => ∃ j : Nat, v = .int .i64 (15 - (j : Int)) ∧ j ≤ 16 ∧ Aside0 (Lib.IsBuilder 43 5 w.heap.size w.heap.size (Lib.byteCells (hexl (l0.take n) ++ hexw (rd l0 (n : Int)).toNat j)) w2) ∧ Aside0 (Below w.heap.size w w2)) (fun v _ => (intOf v + 1).toNat)
      case atStart => exact ⟨0, rfl, by omega, ⟨by simpa [hexw] using HI.out⟩, HB⟩
      case round =>
        obtain ⟨j, rfl, hj, HI2, HB2⟩ := hrel
        by_cases hjt : j < 16
        · have h0 : 0 ≤ 15 - (j : Int) := by omega
          obtain ⟨d, hd, hd16, hdv⟩ := digit_at (rd l0 (n : Int)) j hr.1 hr.2
          have HD := Lib.hid hd
          have hdb : 0 ≤ Go.bits .and .u64 (rd l0 (n : Int) / 2 ^ (4 * (15 - j))) 15 ∧ Go.bits .and .u64 (rd l0 (n : Int) / 2 ^ (4 * (15 - j))) 15 < 16 := by rw [hd]; omega
          have HV := Lib.hid hdv
          clear hd hdv
          go_wp2_with fail
          refine (writeByte_ w.heap.size w.heap.size _ _ _ HI2.out (by rw [byteCells_len]; simp only [List.length_append]; have := hexl_len (l0.take n); have := hexw_len (rd l0 (n : Int)).toNat j; have := List.length_take_le n l0; omega) HB2.out.size).mono ?_
          rintro e w3 ⟨rfl, h1, h2⟩
          have HI3 := Aside0.mk h1
          have HB3 := Aside0.mk (HB2.out.trans h2)
          clear h1 h2
          go_wp2
          go_roundw
          case rel =>
            refine ⟨j + 1, by congr 1; omega, by omega, ⟨?_⟩, HB3⟩
            have h3 := HI3.out
            rw [dg_at _ d HD.out hd16 _] at h3
            have e : hexl (l0.take n) ++ hexw (rd l0 (n : Int)).toNat (j + 1) = (hexl (l0.take n) ++ hexw (rd l0 (n : Int)).toNat j) ++ [dg d] := by rw [HV.out, List.append_assoc]; rfl
            rw [e, byteCells_snoc]
            exact h3
          case measure => simp [intOf]; omega
        · obtain rfl : j = 16 := by omega
          go_wp2
          go_roundw
          case rel =>
            refine ⟨n + 1, by go_num, by omega, ⟨?_⟩, HB2⟩
            have e : hexl (l0.take (n + 1)) = hexl (l0.take n) ++ hexw (rd l0 (n : Int)).toNat 16 := by
              have e2 : rd l0 (n : Int) = l0[n] := by simp [rd, hlt]
              rw [List.take_succ_eq_append_getElem hlt, e2]
              exact hexl_snoc _ _
            rw [e]
            exact HI2.out
          case measure => simp [intOf]; omega
    · obtain rfl : n = l0.length := by omega
      go_wp2_with fail
      refine (Lay.Builder_String_any w.heap.size w.heap.size _ _ HI.out HB.out.size).mono ?_
      rintro e w3 ⟨rfl, h2⟩
      have HB3 := Aside0.mk (HB.out.trans h2)
      clear h2
      go_wp2
      go_ret
      exact ⟨rfl, HB3.out⟩
end Go.Proofs.YtmmgiolhfekplaaDoor.Ext
end
section
namespace Go.Proofs.YtmmgiolhfekplaaDoor.Shw
open Go.RowKit Go.Proofs.YtmmgiolhfekplaaDoor Go.Proofs.YtmmgiolhfekplaaDoor.Ext Go.Proofs.YtmmgiolhfekplaaDoor.Obj Go.Proofs.YtmmgiolhfekplaaDoorW.PrintWords Go.Proofs.YtmmgiolhfekplaaDoorW.PrintLast Go.Proofs.YtmmgiolhfekplaaDoorW.PrintMore
set_option linter.unusedVariables false
set_option linter.unusedSimpArgs false
set_option maxRecDepth 100000
theorem So.below {w w' : World} {base : Nat} {v : Value} {ts : List ByteArray} (h : So w base v ts) (hb : Below w.heap.size w w') : So w' base v ts := own_below h hb
theorem So.at_ {w : World} {base : Nat} {v : Value} {ts : List ByteArray} (h : So w base v ts) (hp : 0 < ts.length) : ∃ g cap, v = .slice (some ⟨g, 0, none⟩) ts.length cap ∧ base ≤ g ∧ g < w.heap.size ∧ ts.length ≤ cap ∧ cap ≤ maxLen ∧
    ∀ i, i < ts.length → w.cell? ⟨g, i, none⟩ = some (.string (ts.getD i ⟨#[]⟩)) := by
  have h' : So w base v ts := h
  rcases h.2 with ⟨_, h0⟩ | ⟨g, cap, cur, rfl, hb, hg, hc, hm, _, _⟩
  · omega
  · refine ⟨g, cap, rfl, hb, blk_lt hg, hc, hm, fun i hi => ?_⟩
    have := World.ownsRow.cells h' (g := g) rfl i (.string (ts.getD i ⟨#[]⟩)) (by simp [strs, hi])
    rw [Lib.add_plain, Nat.zero_add] at this
    exact this
theorem So.nil_ {w : World} {base : Nat} {v : Value} (h : So w base v []) : ∃ A cap, v = .slice A 0 cap := by
  rcases h.2 with ⟨rfl, _⟩ | ⟨g, cap, cur, rfl, _⟩
  · exact ⟨none, 0, rfl⟩
  · exact ⟨_, cap, rfl⟩
theorem So.form {w : World} {base : Nat} {v : Value} {ts : List ByteArray} (h : So w base v ts) : ∃ A cap, v = .slice A ts.length cap := by
  rcases Nat.eq_zero_or_pos ts.length with h0 | hp
  · obtain rfl : ts = [] := List.eq_nil_of_length_eq_zero h0
    exact h.nil_
  · obtain ⟨g, cap, e, _⟩ := h.at_ hp
    exact ⟨_, _, e⟩
theorem texts_calls (A : Option Addr) (c : Nat) (xs : List Int) (w : World) (hx : ∀ x ∈ xs, 0 ≤ x ∧ x ≤ 18446744073709551615) (hn : xs.length ≤ 1000) (hl : Kd.C (Kd.int .u64) w A xs.length xs) (hT : TabW w) :
    Calls Tryd.prog 11 #[.slice A xs.length c] w fun e w' => ∃ v, e = .returned v ∧ So w' w.heap.size v (digs xs) ∧ Below w.heap.size w w' := by
  have HX := Aside0.mk hx
  have HL := Aside0.mk hl
  have HT := Aside0.mk hT
  clear hx hl hT
  go_enter Tryd.func11, Tryd.ntmps11
  go_wp2_with fail
  with_reducible refine (each_calls A c xs _ HX.out hn HL.out HT.out).mono ?_
  rintro e w1 ⟨v, rfl, ho, hb⟩
  have HO := Aside0.mk ho
  have HB := Aside0.mk hb
  clear ho hb
  go_wp2
  go_ret
  exact ⟨_, rfl, HO.out, HB.out⟩
def wd (ts : List ByteArray) : Nat := ts.foldl (fun n s => if n < s.size then s.size else n) 0
def mx (x y : Int) : Int := if x < y then y else x
theorem max2_mx (k k' : IntKind) (x y : Int) : Builtin.max2 (.int k x) (.int k' y) = pure (.int k (mx x y)) := max2_int k k' x y
theorem mx_nat (a b : Nat) : mx (a : Int) (b : Int) = ((if a < b then b else a : Nat) : Int) := by
  unfold mx
  by_cases h : a < b
  · rw [if_pos (by omega), if_pos h]
  · rw [if_neg (by omega), if_neg h]
theorem wd_snoc (ts : List ByteArray) (k : Nat) (hk : k < ts.length) : wd (ts.take (k + 1)) = if wd (ts.take k) < (ts.getD k ⟨#[]⟩).size then (ts.getD k ⟨#[]⟩).size else wd (ts.take k) := by
  rw [List.take_succ_eq_append_getElem hk]
  unfold wd
  rw [List.foldl_append]
  simp [hk]
attribute [local go_sem high] max2_mx max_two
set_option maxHeartbeats 4000000 in
theorem width_aux (A : Option Addr) (c : Nat) (xs : List Int) (ts : List ByteArray) (hts : digs xs = ts) (w : World) (hx : ∀ x ∈ xs, 0 ≤ x ∧ x ≤ 18446744073709551615) (hn : xs.length ≤ 1000) (hl : Kd.C (Kd.int .u64) w A xs.length xs) (hT : TabW w) :
    Calls Tryd.prog 7 #[.slice A xs.length c] w fun e w' => e = .returned (.int .i64 (wd ts)) ∧ Below w.heap.size w w' := by
  have HX := Aside0.mk hx
  have HL := Aside0.mk hl
  have HT := Aside0.mk hT
  have HTS := Aside0.mk hts
  have hdl : ts.length = xs.length := by rw [← hts, digs_len]
  have HN := Aside0.mk hdl
  have hn2 : ts.length ≤ 1000 := by omega
  clear hx hl hT hts hdl
  go_enter Tryd.func7, Tryd.ntmps7
  go_wp2_with fail
  with_reducible refine (texts_calls A c xs _ HX.out hn HL.out HT.out).mono ?_
  rintro e w1 ⟨v, rfl, ho, hb⟩
  rw [HTS.out] at ho
  have HB := Aside0.mk hb
  obtain ⟨B, cap, rfl⟩ := ho.form
  have HO := Aside0.mk ho
  clear ho hb
  go_wp2
  go_loopw [3, 9] (fun v3 v9 wr => ∃ k : Nat, k ≤ ts.length ∧ v9 = .int .i64 k ∧ v3 = .int .i64 (wd (ts.take k)) ∧ wr = w1) (fun _ v9 _ => ts.length - (intOf v9).toNat)
  case atStart => exact ⟨0, by omega, rfl, rfl, rfl⟩
  case round =>
    obtain ⟨k, hk, rfl, rfl, rfl⟩ := hrel
    by_cases hlt : k < ts.length
    · obtain ⟨g, cap', q, _, _, _, _, hcA⟩ := HO.out.at_ (by omega)
      cases q
      have hc := hcA k hlt
      clear hcA
      have hw := wd_snoc ts k hlt
      obtain ⟨s, hs⟩ : ∃ s, ts.getD k ⟨#[]⟩ = s := ⟨_, rfl⟩
      rw [hs] at hc hw
      clear hs
      have hm := mx_nat (wd (ts.take k)) s.size
      rw [← hw] at hm
      clear hw
      go_wp2
      go_roundw
      case rel => exact ⟨k + 1, hlt, by go_num, rfl, trivial⟩
      case measure => simp [intOf]; omega
    · obtain rfl : k = ts.length := by omega
      go_wp2
      go_ret
      refine ⟨?_, HB.out⟩
      rw [List.take_length]
      rfl
theorem width_calls (A : Option Addr) (c : Nat) (xs : List Int) (w : World) (hx : ∀ x ∈ xs, 0 ≤ x ∧ x ≤ 18446744073709551615) (hn : xs.length ≤ 1000) (hl : Kd.C (Kd.int .u64) w A xs.length xs) (hT : TabW w) :
    Calls Tryd.prog 7 #[.slice A xs.length c] w fun e w' => e = .returned (.int .i64 (wd (digs xs))) ∧ Below w.heap.size w w' := width_aux A c xs _ rfl w hx hn hl hT
theorem same_nil (w : World) : Calls Tryd.prog 9 #[.slice none 0 0] w fun e w' => e = .returned (.bool true) ∧ w' = w := by
  go_enter Tryd.func9, Tryd.ntmps9
  go_wp2
  go_loopw [7] (fun v wr => v = .int .i64 0 ∧ wr = w) (fun _ _ => 0)
  case atStart => exact ⟨rfl, rfl⟩
  case round =>
    obtain ⟨rfl, rfl⟩ := hrel
    go_wp2
    go_ret
    exact ⟨rfl, rfl⟩
theorem awake_calls (w : World) : Calls Tryd.prog 4 #[] w fun e w' => e = .returned (.bool true) ∧ Below w.heap.size w w' := by
  have hC := Aside0.mk (Rw.part (show Rw (w.alloc (.cells #[.int .u64 255] 29)) w.heap.size [255] from Bk.new w 29 [.int .u64 255]) 0 1 (by decide) (by decide))
  have HB := Aside0.mk (below_alloc (Below.refl w.heap.size w) (.cells #[.int .u64 255] 29))
  go_enter Tryd.func4, Tryd.ntmps4
  go_wp2_with fail
  refine (hex_ (some ⟨w.heap.size, 0, none⟩) 1 [255] _ hC.out (by decide) (by decide) (by simp)).mono ?_
  rintro e w1 ⟨rfl, hb⟩
  have HB1 := Aside0.mk (below_then HB.out HB.out.size hb)
  clear hb hC
  rw [show (hexl [255]).toArray = #[48, 48, 48, 48, 48, 48, 48, 48, 48, 48, 48, 48, 48, 48, 102, 102] by decide +kernel]
  go_wp2_with fail
  refine (same_nil _).mono ?_
  rintro e w2 ⟨rfl, rfl⟩
  go_wp2
  go_ret
  exact ⟨rfl, HB1.out⟩
end Go.Proofs.YtmmgiolhfekplaaDoor.Shw
end
section
namespace Go.Proofs.YtmmgiolhfekplaaDoor.Shw
open Go.RowKit Go.Shelf Go.Proofs.YtmmgiolhfekplaaDoor Go.Proofs.YtmmgiolhfekplaaDoorW.PrintWords
set_option linter.unusedVariables false
set_option linter.unusedSimpArgs false
set_option maxRecDepth 100000
attribute [local go_sem] Oper.semAt_some
def Kb (a b : Nat) (W W' : World) : Prop := (∀ v, W.cell? ⟨a, 0, none⟩ = some v → W'.cell? ⟨a, 0, none⟩ = some v) ∧ ∀ v, W.cell? ⟨b, 0, none⟩ = some v → W'.cell? ⟨b, 0, none⟩ = some v
theorem Kb.refl (a b : Nat) (W : World) : Kb a b W W := ⟨fun _ h => h, fun _ h => h⟩
theorem Kb.trans {a b : Nat} {A B C : World} (h : Kb a b A B) (k : Kb a b B C) : Kb a b A C := ⟨fun v hv => k.1 v (h.1 v hv), fun v hv => k.2 v (h.2 v hv)⟩
theorem Kb.put (a b : Nat) (W : World) (l : Nat) (o o' : Obj) (h : W.heap[l]? = some o) (hc : o.isCells = false) : Kb a b W (W.putObj l o') :=
  ⟨fun v hv => cell_kept hv (grownBy_putObj' W l o') (fun r e => by cases e; exact ⟨o, h, hc⟩), fun v hv => cell_kept hv (grownBy_putObj' W l o') (fun r e => by cases e; exact ⟨o, h, hc⟩)⟩
def parts (n c : Nat) : Nat := (n + c - 1) / c
def plen (n c x : Nat) : Nat := min c (n - x * c)
def part (g n c x : Nat) : Value := .slice (some ⟨g, x * c, none⟩) (plen n c x) (plen n c x)
theorem parts_lt {n c k : Nat} (hc : 0 < c) : k < parts n c ↔ k * c < n := by
  unfold parts
  rw [Nat.lt_div_iff_mul_lt hc]
  omega
set_option maxHeartbeats 4000000 in
theorem chunk1 (m l Ba Bn g n cap c : Nat) (hm : 1 ≤ m) (hc1 : 1 ≤ c) (hc : c ≤ 1000) (hn : n ≤ 1000) (hcap : n ≤ cap) (hcm : cap ≤ maxLen) (J Jx : List Nat → World → Prop)
    (hY : ∀ pre x W, J pre W → pre.length < parts n c → YieldAt Fence.wide (m - 1) Tryd.prog l #[part g n c x] W fun e W' =>
      (e = .returned (.bool true) ∧ J (pre ++ [x]) W' ∧ Kb Ba Bn W W') ∨ (e = .returned (.bool false) ∧ Jx (pre ++ [x]) W'))
    (hJd : ∀ s A k, J s A → J s (World.drewN A k)) (W : World) (hBa : W.cell? ⟨Ba, 0, none⟩ = some (.slice (some ⟨g, 0, none⟩) n cap)) (hBn : W.cell? ⟨Bn, 0, none⟩ = some (.int .i64 c)) (h0 : J [] W) :
    CallsIn Fence.wide m Tryd.prog 17 #[.func (.yield l) #[] #[], .pointer (some ⟨Ba, 0, none⟩), .pointer (some ⟨Bn, 0, none⟩)] W fun e W' => (∃ v, e = .returned v) ∧
      ((∃ ys, ys = List.range (parts n c) ∧ J ys W') ∨ (∃ pre, True ∧ Jx pre W')) := by
  refine callsIn_of_wp Tryd.func17 rfl trivial ?_ rfl
  simp only [Tryd.ntmps17, List.size_toArray, List.length_cons, List.length_nil, Nat.reduceAdd, Nat.reduceSub, Array.replicate_succ, Array.replicate_zero, List.push_toArray, List.append_toArray, List.nil_append, List.cons_append]
  gi_wp2
  gi_loopw [4] (fun i wr => ∃ k : Nat, k ≤ parts n c ∧ i = .int .i64 ((k * c : Nat) : Int) ∧ J (List.range k) wr ∧ Kb Ba Bn W wr) (fun i _ => 2000 - (intOf i).toNat)
  case atStart => exact ⟨0, Nat.zero_le _, by simp, h0, Kb.refl _ _ _⟩
  case round =>
    obtain ⟨k, hk, rfl, hJs, hK⟩ := hrel
    have ca := hK.1 _ hBa
    have cn := hK.2 _ hBn
    obtain ⟨o, ho⟩ : ∃ o, k * c = o := ⟨_, rfl⟩
    have HO := Aside0.mk ho
    by_cases hlt : k * c < n
    · have hkp : k < parts n c := (parts_lt hc1).2 hlt
      obtain ⟨p, hp⟩ : ∃ p, plen n c k = p := ⟨_, rfl⟩
      have hmn : min (c : Int) ((n - o : Nat) : Int) = (p : Int) := by rw [← hp, ← ho]; unfold plen; omega
      have hpl : o + p ≤ n := by rw [← hp, ← ho]; unfold plen; omega
      have hp0 : 0 < p := by rw [← hp]; unfold plen; omega
      have HPA : Aside0 (part g n c k = .slice (some ⟨g, o, none⟩) p p) := ⟨by unfold part; rw [hp, ho]⟩
      have HK := Aside0.mk hkp
      have HKK := Aside0.mk hk
      rw [ho] at hlt ⊢
      clear hp ho hkp hk
      gi_wp2
      gi_quiet (fail)
      rename_i nq
      have ca' : (wr.drewN nq).cell? ⟨Ba, 0, none⟩ = some (.slice (some ⟨g, 0, none⟩) n cap) := ca
      have cn' : (wr.drewN nq).cell? ⟨Bn, 0, none⟩ = some (.int .i64 c) := cn
      have hJ' := hJd _ _ nq hJs
      have HKb : Aside0 (Kb Ba Bn W (wr.drewN nq)) := ⟨hK⟩
      obtain ⟨W1, hW1⟩ : ∃ W1, wr.drewN nq = W1 := ⟨_, rfl⟩
      rw [hW1] at ca' cn' hJ' HKb ⊢
      clear ca cn hJs hK hW1 hJd hmn
      obtain ⟨fn, tmps, assign, body, hy, hR⟩ := hY _ k W1 hJ' (by simpa using HK.out)
      rw [HPA.out] at hy
      clear hY
      gi_wp2
      refine hR.mono ?_
      rintro e W3 (⟨rfl, hJ3, hk3⟩ | ⟨rfl, hJx3⟩)
      · have cn3 := hk3.2 _ cn'
        gi_wp2
        go_roundw
        case rel => exact ⟨k + 1, HK.out, by congr 1; have := HO.out; rw [Nat.succ_mul, this]; rfl, by rw [List.range_succ]; exact hJ3, HKb.out.trans hk3⟩
        case measure => simp [intOf]; omega
      · gi_wp2
        refine bodyPost_ret (results_none rfl _ _ _) rfl ?_
        exact ⟨⟨_, rfl⟩, .inr ⟨_, trivial, hJx3⟩⟩
    · obtain rfl : k = parts n c := by
        rcases Nat.lt_or_ge k (parts n c) with h | h
        · exact absurd ((parts_lt hc1).1 h) hlt
        · omega
      gi_wp2
      go_end0
      exact ⟨⟨_, rfl⟩, .inl ⟨_, rfl, hJs⟩⟩
theorem chunk1_nil (m l Ba Bn c : Nat) (A : Option Addr) (cap : Nat) (J : List Nat → World → Prop) (W : World) (hBa : W.cell? ⟨Ba, 0, none⟩ = some (.slice A 0 cap)) (h0 : J [] W) :
    CallsIn Fence.wide m Tryd.prog 17 #[.func (.yield l) #[] #[], .pointer (some ⟨Ba, 0, none⟩), .pointer (some ⟨Bn, 0, none⟩)] W fun e W' => (∃ v, e = .returned v) ∧ J [] W' := by
  refine callsIn_of_wp Tryd.func17 rfl trivial ?_ rfl
  simp only [Tryd.ntmps17, List.size_toArray, List.length_cons, List.length_nil, Nat.reduceAdd, Nat.reduceSub, Array.replicate_succ, Array.replicate_zero, List.push_toArray, List.append_toArray, List.nil_append, List.cons_append]
  gi_wp2
  gi_loopw [4] (fun i wr => i = .int .i64 0 ∧ wr = W) (fun _ _ => 0)
  case atStart => exact ⟨rfl, rfl⟩
  case round =>
    obtain ⟨rfl, rfl⟩ := hrel
    gi_wp2
    go_end0
    exact ⟨⟨_, rfl⟩, h0⟩
theorem chunk_calls (v : Value) (c : Nat) (hc1 : 1 ≤ c) (hc : c ≤ 1000) (m : Nat) (w : World) (hv : ∃ A n cap, v = .slice A n cap) :
    CallsIn Fence.wide m Tryd.prog 10 #[v, .int .i64 c] w fun e w' => e = .returned (.func (.func 17) #[] #[.pointer (some ⟨w.heap.size, 0, none⟩), .pointer (some ⟨w.heap.size + 1, 0, none⟩)]) ∧ w' = (w.alloc (.cells #[v] 24)).alloc (.cells #[.int .i64 c] 3) := by
  obtain ⟨A, n, cap, rfl⟩ := hv
  refine callsIn_of_wp Tryd.func10 rfl trivial ?_ rfl
  simp only [Tryd.ntmps10, List.size_toArray, List.length_cons, List.length_nil, Nat.reduceAdd, Nat.reduceSub, Array.replicate_succ, Array.replicate_zero, List.push_toArray, List.append_toArray, List.nil_append, List.cons_append]
  gi_wp2
  go_ret
  exact ⟨rfl, rfl⟩
theorem chunk_stops (m : Nat) (hm : 1 ≤ m) (Ba Bn base c : Nat) (v : Value) (ts : List ByteArray) (hc1 : 1 ≤ c) (hc : c ≤ 1000) (hn : ts.length ≤ 1000) (g : Nat) (hg : ∀ k, v.ownBlock = some k → k = g) (w : World) (hBa : Ba < w.heap.size) (hBn : Bn < w.heap.size)
    (ca : w.cell? ⟨Ba, 0, none⟩ = some v) (cn : w.cell? ⟨Bn, 0, none⟩ = some (.int .i64 c)) (hS : So w base v ts) :
    SeqStopsK Fence.wide m Tryd.prog 17 #[.pointer (some ⟨Ba, 0, none⟩), .pointer (some ⟨Bn, 0, none⟩)] (fun x : Nat => #[part g ts.length c x]) (Kb Ba Bn) (fun ys => ys = List.range (parts ts.length c)) (fun _ => True) (parts ts.length c) w := fun l J Jx W hW hJ _ hY h0 => by
  have ca' := (hW.cell (p := ⟨Ba, 0, none⟩) hBa).trans ca
  have cn' := (hW.cell (p := ⟨Bn, 0, none⟩) hBn).trans cn
  rcases Nat.eq_zero_or_pos ts.length with h | h
  · obtain rfl : ts = [] := List.eq_nil_of_length_eq_zero h
    obtain ⟨A, cap, rfl⟩ := hS.nil_
    have hz : parts ([] : List ByteArray).length c = 0 := by
      simp only [parts, List.length_nil]
      exact Nat.div_eq_of_lt (by omega)
    refine (chunk1_nil m l Ba Bn c A cap J W ca' h0).mono fun e W' ⟨he, hj⟩ => ⟨he, .inl ⟨[], by rw [hz]; rfl, hj⟩⟩
  · obtain ⟨g', cap, rfl, _, _, hcap, hcm, _⟩ := hS.at_ h
    obtain rfl : g' = g := hg g' rfl
    exact chunk1 m l Ba Bn g' ts.length cap c hm hc1 hc hn hcap hcm J Jx hY (fun s A k hs => hJ s A _ none hs ⟨rfl, rfl, rfl, Nat.le_refl _, fun _ _ _ => rfl⟩ (fun r e => by cases e)) W ca' cn' h0
end Go.Proofs.YtmmgiolhfekplaaDoor.Shw
end
section
namespace Go.Proofs.YtmmgiolhfekplaaDoor.Shw
open Go.RowKit Go.Shelf Go.Proofs.YtmmgiolhfekplaaDoor Go.Proofs.YtmmgiolhfekplaaDoor.Obj Go.Proofs.YtmmgiolhfekplaaDoorW.PrintWords
set_option linter.unusedVariables false
set_option linter.unusedSimpArgs false
set_option maxRecDepth 100000
attribute [local go_sem] Oper.semAt_some
def pad (n : Nat) (s : ByteArray) : ByteArray := ⟨(List.replicate (n - s.size) (32 : UInt8)).toArray⟩ ++ s
theorem pad_size (n : Nat) (s : ByteArray) (h : s.size ≤ n) : (pad n s).size = n := by
  unfold pad
  rw [ByteArray.size_append]
  have : ByteArray.size ⟨(List.replicate (n - s.size) (32 : UInt8)).toArray⟩ = n - s.size := by
    show (List.replicate (n - s.size) (32 : UInt8)).toArray.size = n - s.size
    rw [List.size_toArray, List.length_replicate]
  rw [this]; omega
theorem pad_full (n : Nat) (s : ByteArray) (h : n ≤ s.size) : pad n s = s := by
  unfold pad
  rw [Nat.sub_eq_zero_of_le h]
  apply ByteArray.ext
  simp
theorem pad_pad (n : Nat) (s : ByteArray) (h : s.size ≤ n) : pad n (pad n s) = pad n s := pad_full n _ (by rw [pad_size n s h]; omega)
theorem rep_pad (n : Nat) (s : ByteArray) : (⟨(Lib.repeatL (⟨#[32]⟩ : ByteArray).data.toList (n - s.size)).toArray⟩ : ByteArray) ++ s = pad n s := by
  have : ∀ k, Lib.repeatL [(32 : UInt8)] k = List.replicate k 32 := by
    intro k
    induction k with
    | zero => rfl
    | succ k ih => rw [List.replicate_succ, ← ih]; rfl
  unfold pad
  rw [← this]
theorem strs_get (cs : List ByteArray) (rest : List Value) (i : Nat) (hi : i < cs.length) : (strs cs ++ rest)[i]? = some (.string (cs.getD i ⟨#[]⟩)) := by
  rw [List.getElem?_append_left (by rw [strs_len]; exact hi)]
  simp [strs, hi]
theorem strs_set (cs : List ByteArray) (rest : List Value) (i : Nat) (s : ByteArray) (hi : i < cs.length) : (strs cs ++ rest).set i (.string s) = strs (cs.set i s) ++ rest := by
  rw [List.set_append_left _ _ (by rw [strs_len]; exact hi)]
  simp [strs, List.map_set]
structure Tx (W : World) (g W0 : Nat) (cs : List ByteArray) (rest : List Value) : Prop where
  b : Bk W g 9 (strs cs ++ rest)
theorem Tx.cell {W : World} {g W0 : Nat} {cs : List ByteArray} {rest : List Value} (h : Tx W g W0 cs rest) (i : Nat) (hi : i < cs.length) : W.cell? ⟨g, i, none⟩ = some (.string (cs.getD i ⟨#[]⟩)) := by
  rw [Bk.cell h.b, strs_get cs rest i hi]
theorem Tx.put {W : World} {g W0 : Nat} {cs : List ByteArray} {rest : List Value} (h : Tx W g W0 cs rest) (i : Nat) (s : ByteArray) (hi : i < cs.length) : Tx (W.setCell ⟨g, i, none⟩ (.string s)) g W0 (cs.set i s) rest := ⟨by rw [← strs_set cs rest i s hi]; exact Bk.put h.b i _⟩
theorem Tx.below {W W' : World} {g W0 : Nat} {cs : List ByteArray} {rest : List Value} (h : Tx W g W0 cs rest) (hb : Below W.heap.size W W') : Tx W' g W0 cs rest := ⟨Bk.below h.b hb⟩
theorem Tx.of {W : World} {base g cap : Nat} {n : Nat} {ts : List ByteArray} (h : So W base (.slice (some ⟨g, 0, none⟩) n cap) ts) : ∃ rest, Tx W g 0 ts rest := by
  rcases h.2 with ⟨q, _⟩ | ⟨g', cap', cur, q, _, hg, _, _, _, ht⟩
  · cases q
  · cases q
    refine ⟨cur.toList.drop ts.length, ⟨?_⟩⟩
    rw [Nat.mul_one] at ht
    unfold Bk
    rw [hg, ← ht, List.take_append_drop]
def half (wide : Nat) (ts cs : List ByteArray) : Prop := cs.length = ts.length ∧ ∀ j, j < ts.length → cs.getD j ⟨#[]⟩ = ts.getD j ⟨#[]⟩ ∨ cs.getD j ⟨#[]⟩ = pad wide (ts.getD j ⟨#[]⟩)
theorem half.refl (wide : Nat) (ts : List ByteArray) : half wide ts ts := ⟨rfl, fun _ _ => .inl rfl⟩
theorem half.pad_ {wide : Nat} {ts cs : List ByteArray} (h : half wide ts cs) (hw : ∀ s ∈ ts, s.size ≤ wide) (j : Nat) (hj : j < ts.length) : pad wide (cs.getD j ⟨#[]⟩) = pad wide (ts.getD j ⟨#[]⟩) := by
  rcases h.2 j hj with e | e
  · rw [e]
  · rw [e, pad_pad]
    exact hw _ (by rw [List.getD_eq_getElem?_getD, List.getElem?_eq_getElem hj]; exact List.getElem_mem hj)
theorem half.size_ {wide : Nat} {ts cs : List ByteArray} (h : half wide ts cs) (hw : ∀ s ∈ ts, s.size ≤ wide) (j : Nat) (hj : j < ts.length) : (cs.getD j ⟨#[]⟩).size ≤ wide := by
  have h1 : (ts.getD j ⟨#[]⟩).size ≤ wide := hw _ (by rw [List.getD_eq_getElem?_getD, List.getElem?_eq_getElem hj]; exact List.getElem_mem hj)
  rcases h.2 j hj with e | e
  · rw [e]; exact h1
  · rw [e, pad_size _ _ h1]; omega
theorem half.set_ {wide : Nat} {ts cs : List ByteArray} (h : half wide ts cs) (j : Nat) (hj : j < ts.length) : half wide ts (cs.set j (pad wide (ts.getD j ⟨#[]⟩))) := by
  refine ⟨by simpa using h.1, fun i hi => ?_⟩
  by_cases e : j = i
  · subst e
    right
    simp [h.1, hj]
  · have : (cs.set j (pad wide (ts.getD j ⟨#[]⟩))).getD i ⟨#[]⟩ = cs.getD i ⟨#[]⟩ := by simp [List.getElem?_set, e]
    rw [this]
    exact h.2 i hi
def jn2 (xs : List ByteArray) : ByteArray := ⟨(Lib.join (xs.map (·.data.toList)) [32, 32]).toArray⟩
def line (wide c : Nat) (ts : List ByteArray) (x : Nat) : ByteArray := jn2 (((ts.map (pad wide)).drop (x * c)).take c)
theorem line_of {wide c x : Nat} {ts cs : List ByteArray} (h : cs.length = ts.length) (hp : ∀ j, j < plen ts.length c x → cs.getD (x * c + j) ⟨#[]⟩ = pad wide (ts.getD (x * c + j) ⟨#[]⟩)) : ((cs.drop (x * c)).take (plen ts.length c x)) = ((ts.map (pad wide)).drop (x * c)).take c := by
  apply List.ext_getElem?
  intro j
  unfold plen at *
  rw [List.getElem?_take, List.getElem?_take, List.getElem?_drop, List.getElem?_drop]
  by_cases hj : j < min c (ts.length - x * c)
  · rw [if_pos hj, if_pos (by omega)]
    have h1 := hp j hj
    have h2 : x * c + j < ts.length := by omega
    rw [List.getElem?_map, List.getElem?_eq_getElem h2]
    rw [List.getElem?_eq_getElem (by omega)]
    simp only [List.getD_eq_getElem?_getD, List.getElem?_eq_getElem h2, List.getElem?_eq_getElem (show x * c + j < cs.length by omega), Option.getD_some] at h1
    rw [h1]
    rfl
  · rw [if_neg hj]
    by_cases hc : j < c
    · rw [if_pos hc, List.getElem?_eq_none (by simp; omega)]
    · rw [if_neg hc]
theorem opIn_append_own {F : Fence} {n : Nat} {P : Program} (w : World) {o : Oper} {a : Act} {K : Act → World → Prop} {Q : Exit → Act → World → Prop}
    (s x : Operand) (t : TypeId) (hop : o.op = Op.call { callee := Callee.builtin Builtin.append, args := #[s, x], argTypes := #[t, t] })
    (base : Nat) (e : TypeId) (i : TypeInfo) (z : Value) (size bytes : Nat) (h1 : P.underlying t = some (.slice e)) (h2 : P.info? e = some i) (h3 : i.zero = some z) (h4 : i.size = size) (h5 : i.bytes = bytes) (h6 : z.cells.size = size) (h7 : 0 < size)
    (v : Value) (k : Nat) (xs : List Value) (hs : a.eval s = v) (hown : w.ownsRow base e size v k xs) (ad : Addr) (m c : Nat) (news : List Value) (hx : a.eval x = .slice (some ad) m c) (hn : news.length = m * size)
    (hc : ∀ j u, news[j]? = some u → w.cell? (ad.add j) = some u) (h1c : ∀ u ∈ news, u.oneCell' = true) (b1 : k + m ≤ maxLen) (b2 : (k + m) * bytes ≤ 140737488355328) (b3 : base ≤ w.heap.size)
    (hK : ∀ v' w', w'.ownsRow base e size v' (k + m) (xs ++ news) → w.grownBy w' v.ownBlock → (v' = .slice none 0 0 ↔ v = .slice none 0 0 ∧ m = 0) → K (a.put o.dst v') w') :
    o.wpIn F n P a w K Q := by
  obtain ⟨v', w', hrun, r1, r2, r3⟩ := run_append_own (P := P) w base t o.type e i z size bytes h1 h2 h3 h4 h5 h6 h7 v k xs hown ad m c news hn hc h1c b1 b2 b3
  unfold Oper.wpIn
  refine ⟨?_, ?_⟩
  · simp [Oper.about, hop, resolve, Target.leads, Sem.run_pure]
  · rw [Oper.semAt_plain F _ _ (by rw [hop]; intro c hc'; cases hc')]
    simp [execOp, hop, resolve, invoke, builtin, hs, hx, hrun, Result.andThen]
    exact hK v' w' r1 r2 r3
end Go.Proofs.YtmmgiolhfekplaaDoor.Shw
end
section
namespace Go.Proofs.YtmmgiolhfekplaaDoor.Shw
open Go.RowKit Go.Shelf Go.Proofs.YtmmgiolhfekplaaDoor Go.Proofs.YtmmgiolhfekplaaDoor.Obj Go.Proofs.YtmmgiolhfekplaaDoorW.PrintWords
set_option linter.unusedVariables false
set_option linter.unusedSimpArgs false
set_option maxRecDepth 100000
attribute [local go_sem] Oper.semAt_some
theorem table_no (v : Value) (k : Int) (h : k < 1 ∨ 1000 < k) (w : World) : Calls Tryd.prog 5 #[v, .int .i64 k] w fun e w' => e = .returned (.tuple #[.slice none 0 0, .int .i64 1]) ∧ w' = w := by
  rcases h with h | h
  · have d1 : decide (k < 1) = true := decide_eq_true h
    go_enter Tryd.func5, Tryd.ntmps5
    go_wp2
    refine bodyPost_ret (v := .tuple #[.slice none 0 0, .int .i64 1]) (by simp [results, Tryd.results5, go_sem]) rfl ?_
    exact ⟨rfl, rfl⟩
  · have d1 : decide (k < 1) = false := decide_eq_false (by omega)
    go_enter Tryd.func5, Tryd.ntmps5
    go_wp2
    refine bodyPost_ret (v := .tuple #[.slice none 0 0, .int .i64 1]) (by simp [results, Tryd.results5, go_sem]) rfl ?_
    exact ⟨rfl, rfl⟩
theorem own_lower {w : World} {b b' : Nat} {e : TypeId} {s n : Nat} {v : Value} {xs : List Value} (h : w.ownsRow b e s v n xs) (hb : b' ≤ b) : w.ownsRow b' e s v n xs := by
  refine ⟨h.1, ?_⟩
  rcases h.2 with h | ⟨g, cap, cur, e1, h1, h2⟩
  · exact .inl h
  · exact .inr ⟨g, cap, cur, e1, Nat.le_trans hb h1, h2⟩
theorem ne_of_cells {A : World} {b : Nat} {cs : Array Value} {t : TypeId} {fz : Nat × Nat} {row : Option Nat} (h : A.heap[b]? = some (.cells cs t fz)) (hr : ∀ r, row = some r → ∃ o : Go.Obj, A.heap[r]? = some o ∧ o.isCells = false) : some b ≠ row := by
  intro e
  obtain ⟨o, ho, hc⟩ := hr b e.symm
  rw [h] at ho
  cases ho
  cases hc
theorem own_keeps {A X : World} {row : Option Nat} {base s n : Nat} {e : TypeId} {v : Value} {xs : List Value} (h : A.ownsRow base e s v n xs) (hg : A.grownBy X row) (hr : ∀ r, row = some r → ∃ o : Go.Obj, A.heap[r]? = some o ∧ o.isCells = false) : X.ownsRow base e s v n xs := by
  refine h.kept hg ?_
  rcases h.2 with ⟨rfl, _⟩ | ⟨g, cap, cur, rfl, _, hgb, _⟩
  · exact .inl rfl
  · exact .inr (ne_of_cells hgb hr)
theorem own_far {A : World} {base s n : Nat} {e : TypeId} {v : Value} {xs : List Value} (h : A.ownsRow base e s v n xs) (p : Addr) (u : Value) (hp : v.ownBlock ≠ some p.block) : (A.setCell p u).ownsRow base e s v n xs :=
  h.kept (row := some p.block) ⟨rfl, rfl, rfl, (KeepsWalks.setCell A _ u).size, fun k _ hk => Below.heap_setCell _ _ _ k (fun e => hk (by rw [e]))⟩ (.inr hp)
structure TI (w : World) (B B0 g wide c : Nat) (ts : List ByteArray) (pre : List Nat) (W : World) : Prop where
  bw : Boxed W B 3 (.int .i64 wide)
  row : 0 < ts.length → ∃ cs rest, Tx W g 0 cs rest ∧ half wide ts cs
  out : ∃ v, Boxed W (B + 1) 24 v ∧ W.ownsRow B0 9 1 v pre.length (strs (pre.map (line wide c ts)))
  be : Below w.heap.size w W
  sz : B0 ≤ W.heap.size
theorem TI.own {w : World} {B B0 g wide c n : Nat} {ts : List ByteArray} (hw : w.heap.size ≤ n) : OwnFrom n (TI w B B0 g wide c ts) := by
  intro s X Y row h hg hr
  have hr' : ∀ r, row = some r → ∃ o : Go.Obj, X.heap[r]? = some o ∧ o.isCells = false := fun r e => (hr r e).2
  obtain ⟨v, h1, h2⟩ := h.out
  refine ⟨h.bw.kept hg (ne_of_cells h.bw hr'), fun hp => ?_, ⟨v, h1.kept hg (ne_of_cells h1 hr'), own_keeps h2 hg hr'⟩, h.be.grown hg h.be.size (fun j e => Nat.le_trans hw (hr j e).1), Nat.le_trans h.sz hg.size⟩
  obtain ⟨cs, rest, hx, hh⟩ := h.row hp
  exact ⟨cs, rest, ⟨(hg.block g hx.b.lt (ne_of_cells hx.b hr')).trans hx.b⟩, hh⟩
structure TJ (w W : World) (B B0 g Ba Bn wide : Nat) (ts : List ByteArray) (v : Value) (m : Nat) (ls : List Value) (o i : Nat) (cs : List ByteArray) (wr : World) : Prop where
  bw : Boxed wr B 3 (.int .i64 wide)
  tx : ∃ rest, Tx wr g 0 cs rest
  ha : half wide ts cs
  pd : ∀ j, j < i → cs.getD (o + j) ⟨#[]⟩ = pad wide (ts.getD (o + j) ⟨#[]⟩)
  bo : Boxed wr (B + 1) 24 v
  ow : wr.ownsRow B0 9 1 v m ls
  be : Below w.heap.size w wr
  ko : KeepsOthers W wr
  kb : Kb Ba Bn W wr
theorem KeepsOthers.of_below {W W' : World} (h : Below W.heap.size W W') : KeepsOthers W W' := ⟨h.size, fun k o hk _ => (h.block k (Array.getElem?_eq_some_iff.1 hk).1).trans hk⟩
theorem Kb.of_below {a b : Nat} {W W' : World} (h : Below W.heap.size W W') : Kb a b W W' := ⟨fun v hv => pw_cell_below h hv, fun v hv => pw_cell_below h hv⟩
theorem TJ.below {w W : World} {B B0 g Ba Bn wide : Nat} {ts : List ByteArray} {v : Value} {m : Nat} {ls : List Value} {o i : Nat} {cs : List ByteArray} {wr W' : World} (h : TJ w W B B0 g Ba Bn wide ts v m ls o i cs wr) (hb : Below wr.heap.size wr W') : TJ w W B B0 g Ba Bn wide ts v m ls o i cs W' := by
  obtain ⟨rest, hx⟩ := h.tx
  exact ⟨(hb.block B h.bw.lt).trans h.bw, ⟨rest, hx.below hb⟩, h.ha, h.pd, (hb.block _ h.bo.lt).trans h.bo, own_below h.ow hb, below_then h.be h.be.size hb, h.ko.trans (KeepsOthers.of_below hb), h.kb.trans (Kb.of_below hb)⟩
theorem cell_far {W : World} {a b j : Nat} {u v : Value} (h : W.cell? ⟨a, 0, none⟩ = some v) (hne : a ≠ b) : (W.setCell ⟨b, j, none⟩ u).cell? ⟨a, 0, none⟩ = some v := by
  unfold World.cell? at h ⊢
  rw [Below.heap_setCell _ _ _ a (fun e => hne e)]
  exact h
theorem TJ.store {w W : World} {B B0 g Ba Bn wide : Nat} {ts : List ByteArray} {v : Value} {m : Nat} {ls : List Value} {o i : Nat} {cs : List ByteArray} {wr : World} (h : TJ w W B B0 g Ba Bn wide ts v m ls o i cs wr) (hi : o + i < ts.length) (h1 : w.heap.size ≤ g) (h2 : B + 1 < g) (h3 : g < Ba) (h4 : g < Bn) (h5 : g < B0) :
    TJ w W B B0 g Ba Bn wide ts v m ls o (i + 1) (cs.set (o + i) (pad wide (ts.getD (o + i) ⟨#[]⟩))) (wr.setCell ⟨g, o + i, none⟩ (.string (pad wide (ts.getD (o + i) ⟨#[]⟩)))) := by
  obtain ⟨rest, hx⟩ := h.tx
  have hl := h.ha.1
  refine ⟨(Below.heap_setCell _ _ _ B (fun e => by simp at e; omega)).trans h.bw, ⟨rest, hx.put _ _ (by omega)⟩, h.ha.set_ _ hi, fun j hj => ?_, (Below.heap_setCell _ _ _ (B + 1) (fun e => by simp at e; omega)).trans h.bo, own_far h.ow _ _ (fun e => ?_), h.be.setCell (p := ⟨g, o + i, none⟩) h1 _, h.ko.trans (KeepsOthers.setCell _ _ _), h.kb.trans ⟨fun u hu => cell_far hu (by omega), fun u hu => cell_far hu (by omega)⟩⟩
  · rcases Nat.lt_or_ge j i with hlt | hge
    · rw [← h.pd j hlt]
      simp [List.getElem?_set, show i ≠ j by omega]
    · obtain rfl : j = i := by omega
      simp [hl, hi]
  · have := (h.ow.lt g e).1
    omega
theorem grown_old {w5 w6 : World} {tmp : Go.Obj} {row : Option Nat} (hg : (w5.alloc tmp).grownBy w6 row) (b : Nat) (hb : b < w5.heap.size) (hne : some b ≠ row) : w6.heap[b]? = w5.heap[b]? :=
  (hg.block b (by rw [World.size_alloc]; omega) hne).trans (Below.heap_alloc w5 _ b hb)
theorem cell_lt {W : World} {b j : Nat} {v : Value} (h : W.cell? ⟨b, j, none⟩ = some v) : b < W.heap.size := by
  rcases Nat.lt_or_ge b W.heap.size with q | q
  · exact q
  · unfold World.cell? at h
    simp [Array.getElem?_eq_none q] at h
theorem TJ.done {w W w5 w6 : World} {B B0 g Ba Bn wide : Nat} {ts : List ByteArray} {v v' : Value} {m : Nat} {ls : List Value} {o i : Nat} {cs : List ByteArray} {t : ByteArray} {tmp : Go.Obj} (h : TJ w W B B0 g Ba Bn wide ts v m ls o i cs w5)
    (hgrow : (w5.alloc tmp).grownBy w6 v.ownBlock) (hown : w6.ownsRow B0 9 1 v' (m + 1) (ls ++ [.string t])) (h1 : w.heap.size ≤ B) (h2 : B + 1 < B0) (h3 : g < B0) (h4 : Ba < B0) (h5 : Bn < B0) (h6 : B + 1 < g) (h7 : B + 1 < Ba) (h8 : B + 1 < Bn) (h9 : w.heap.size ≤ B0) :
    KeepsOthers W (w6.setCell ⟨B + 1, 0, none⟩ v') ∧ Kb Ba Bn W (w6.setCell ⟨B + 1, 0, none⟩ v') ∧ Boxed (w6.setCell ⟨B + 1, 0, none⟩ v') B 3 (.int .i64 wide) ∧ (∃ rest, Tx (w6.setCell ⟨B + 1, 0, none⟩ v') g 0 cs rest) ∧
      Boxed (w6.setCell ⟨B + 1, 0, none⟩ v') (B + 1) 24 v' ∧ (w6.setCell ⟨B + 1, 0, none⟩ v').ownsRow B0 9 1 v' (m + 1) (ls ++ [.string t]) ∧ Below w.heap.size w (w6.setCell ⟨B + 1, 0, none⟩ v') := by
  have hne : ∀ b, b < B0 → some b ≠ v.ownBlock := fun b hb e => by have := (h.ow.lt b e.symm).1; omega
  obtain ⟨rest, hx⟩ := h.tx
  have bo6 : Boxed w6 (B + 1) 24 v := (grown_old hgrow _ h.bo.lt (hne _ h2)).trans h.bo
  have far : ∀ b, b < w5.heap.size → b < B0 → b ≠ B + 1 → (w6.setCell ⟨B + 1, 0, none⟩ v').heap[b]? = w5.heap[b]? := fun b hb hb0 hb1 => (Below.heap_setCell _ _ _ b (fun e => hb1 e)).trans (grown_old hgrow b hb (hne b hb0))
  have kb : ∀ b u, b < B0 → b ≠ B + 1 → w5.cell? ⟨b, 0, none⟩ = some u → (w6.setCell ⟨B + 1, 0, none⟩ v').cell? ⟨b, 0, none⟩ = some u := fun b u hb0 hb1 hu => by
    have := far b (cell_lt hu) hb0 hb1
    unfold World.cell? at hu ⊢
    rw [this]
    exact hu
  refine ⟨(h.ko.trans ((KeepsOthers.alloc w5 tmp).trans (KeepsOthers.of_grownBy hgrow fun j o ej hj => ?_))).trans (KeepsOthers.setCell _ _ _), ⟨fun u hu => kb Ba u h4 (by omega) (h.kb.1 u hu), fun u hu => kb Bn u h5 (by omega) (h.kb.2 u hu)⟩, (far B h.bw.lt (by omega) (by omega)).trans h.bw, ⟨rest, ⟨(far g hx.b.lt h3 (by omega)).trans hx.b⟩⟩, bo6.set v', own_far hown _ _ (fun e => by have := (hown.lt _ e).1; simp only at this; omega), ?_⟩
  · rcases (h.ow.alloc tmp).2 with ⟨rfl, _⟩ | ⟨g, cap, cur, rfl, _, hgb, _⟩
    · simp [Value.ownBlock] at ej
    · obtain rfl : g = j := by simpa [Value.ownBlock] using ej
      rw [hgb] at hj; cases hj; rfl
  · refine ((h.be.alloc h.be.size tmp).grown hgrow (by have := h.be.size; simp; omega) fun j ej => ?_).setCell (p := ⟨B + 1, 0, none⟩) (by show w.heap.size ≤ B + 1; omega) v'
    have := (h.ow.lt j ej).1
    omega
theorem join_len (m : Nat) (sep : List UInt8) : ∀ xs : List (List UInt8), (∀ s ∈ xs, s.length ≤ m) → (Lib.join xs sep).length ≤ xs.length * (m + sep.length)
  | [], _ => by simp [Lib.join]
  | [x], h => by
    have := h x (by simp)
    simp [Lib.join]
    omega
  | x :: y :: l, h => by
    have h1 := h x (by simp)
    have h2 := join_len m sep (y :: l) (fun s hs => h s (List.mem_cons_of_mem _ hs))
    have e : Lib.join (x :: y :: l) sep = x ++ sep ++ Lib.join (y :: l) sep := by simp [Lib.join, List.intercalate]
    rw [e, List.length_append, List.length_append, List.length_cons, Nat.succ_mul]
    omega
theorem join_calls (g o i : Nat) (cs : List ByteArray) (rest : List Value) (W : World) (hx : Tx W g 0 cs rest) (hi : i = 0 ∨ o + i ≤ cs.length) (hi2 : i ≤ 1000) (hz : ∀ s ∈ (cs.drop o).take i, s.size ≤ 20) :
    Calls Tryd.prog 13 #[.slice (some ⟨g, o, none⟩) i i, .string ⟨#[32, 32]⟩] W fun e w' => e = .returned (.string (jn2 ((cs.drop o).take i))) ∧ Below W.heap.size W w' := by
  have hl : ((cs.drop o).take i).length = i := by rw [List.length_take, List.length_drop]; omega
  have h := Lay.strings_Join g o i ((cs.drop o).take i) ⟨#[32, 32]⟩ W (fun j x hj => by
    have hji : j < i := by
      have := (List.getElem?_eq_some_iff.1 hj).1
      omega
    rw [List.getElem?_take, if_pos hji, List.getElem?_drop] at hj
    have hlt : o + j < cs.length := (List.getElem?_eq_some_iff.1 hj).1
    rw [hx.cell (o + j) hlt, List.getD_eq_getElem?_getD, hj]
    rfl) hx.b.lt (by omega) (by omega) (by
      refine Nat.le_trans (join_len 20 _ _ (fun s hs => ?_)) (by rw [List.length_map, hl]; show i * (20 + 2) ≤ _; omega)
      obtain ⟨y, hy, rfl⟩ := List.mem_map.1 hs
      exact hz y hy)
  rw [hl] at h
  exact h
end Go.Proofs.YtmmgiolhfekplaaDoor.Shw
end
section
namespace Go.Proofs.YtmmgiolhfekplaaDoor.Shw
open Go.RowKit Go.Shelf Go.Proofs.YtmmgiolhfekplaaDoor Go.Proofs.YtmmgiolhfekplaaDoor.Obj Go.Proofs.YtmmgiolhfekplaaDoorW.PrintWords
set_option linter.unusedVariables false
set_option linter.unusedSimpArgs false
set_option maxRecDepth 100000
attribute [local go_sem] Oper.semAt_some
theorem size1 : (⟨#[32]⟩ : ByteArray).size = 1 := rfl
theorem repL_len (d : Nat) : (Lib.repeatL [(32 : UInt8)] d).length = d := by
  induction d with
  | zero => rfl
  | succ d ih =>
    show ([(32 : UInt8)] ++ Lib.repeatL [32] d).length = d + 1
    rw [List.length_append, ih]; simp; omega
theorem wd_fold (ts : List ByteArray) : ∀ n, n ≤ ts.foldl (fun n s => if n < s.size then s.size else n) n ∧ ∀ s ∈ ts, s.size ≤ ts.foldl (fun n s => if n < s.size then s.size else n) n := by
  induction ts with
  | nil => exact fun n => ⟨Nat.le_refl _, fun s hs => by cases hs⟩
  | cons t ts ih =>
    intro n
    rw [List.foldl_cons]
    have h := ih (if n < t.size then t.size else n)
    have h2 : n ≤ (if n < t.size then t.size else n) ∧ t.size ≤ (if n < t.size then t.size else n) := by split <;> omega
    refine ⟨by omega, fun s hs => ?_⟩
    rcases List.mem_cons.1 hs with rfl | hs
    · omega
    · exact h.2 s hs
theorem wd_ge (ts : List ByteArray) : ∀ s ∈ ts, s.size ≤ wd ts := (wd_fold ts 0).2
theorem wd_le (ts : List ByteArray) (m : Nat) (h : ∀ s ∈ ts, s.size ≤ m) : wd ts ≤ m := by
  have : ∀ n, n ≤ m → (∀ s ∈ ts, s.size ≤ m) → ts.foldl (fun n s => if n < s.size then s.size else n) n ≤ m := by
    clear h
    induction ts with
    | nil => exact fun n h _ => h
    | cons t ts ih =>
      intro n hn h
      rw [List.foldl_cons]
      refine ih _ ?_ (fun s hs => h s (List.mem_cons_of_mem _ hs))
      have := h t (by simp)
      split <;> omega
  exact this 0 (Nat.zero_le _) h
set_option maxHeartbeats 8000000 in
theorem table_yes (A : Option Addr) (c : Nat) (xs : List Int) (ts : List ByteArray) (wide : Nat) (hts : digs xs = ts) (hwd : wd ts = wide) (k : Nat) (hk1 : 1 ≤ k) (hk2 : k ≤ 1000) (w : World) (hx : ∀ x ∈ xs, 0 ≤ x ∧ x ≤ 18446744073709551615) (hn : xs.length ≤ 1000) (hl : Kd.C (Kd.int .u64) w A xs.length xs) (hT : TabW w) :
    Calls Tryd.prog 5 #[.slice A xs.length c, .int .i64 k] w fun e w' => ∃ v, e = .returned (.tuple #[v, .int .i64 0]) ∧ So w' w.heap.size v ((List.range (parts ts.length k)).map (line wide k ts)) ∧ Below w.heap.size w w' := by
  obtain ⟨i0, hi', hz0, hz1, hz2⟩ := info_parts infoS
  have HX := Aside0.mk hx
  have HL := Aside0.mk hl
  have HT := Aside0.mk hT
  have HTS := Aside0.mk hts
  have hdl : ts.length = xs.length := by rw [← hts, digs_len]
  have HWD := Aside0.mk hwd
  have HN := Aside0.mk hdl
  have hn2 : ts.length ≤ 1000 := by omega
  clear hx hl hT hts hdl hwd
  refine (callsIn_wide (n := 6)).1 ?_
  refine callsIn_of_wp_marks Tryd.func5 rfl trivial ?_ rfl
  simp only [Tryd.ntmps5, List.size_toArray, List.length_cons, List.length_nil, Nat.reduceAdd, Nat.reduceSub, Array.replicate_succ, Array.replicate_zero, List.push_toArray, List.append_toArray, List.nil_append, List.cons_append]
  have d1 : decide ((k : Int) < 1) = false := decide_eq_false (by omega)
  have d2 : decide ((1000 : Int) < (k : Int)) = false := decide_eq_false (by omega)
  gi_wp2_with fail
  refine ⟨trivial, ?_⟩
  with_reducible refine (callsIn_wide.2 (width_calls A c xs _ HX.out hn HL.out HT.out)).mono ?_
  rintro e w1 ⟨rfl, hb1⟩
  rw [HTS.out, HWD.out]
  have HB1 := Aside0.mk hb1
  clear hb1
  gi_wp2_with fail
  refine ⟨trivial, ?_⟩
  have bW := (Boxed.new w1 3 (.int .i64 wide)).alloc (.cells #[.slice none 0 0] 24)
  have bO := Boxed.new (w1.alloc (.cells #[.int .i64 wide] 3)) 24 (.slice none 0 0)
  rw [World.size_alloc] at bO
  have HBb : Aside0 (Below w1.heap.size w1 ((w1.alloc (.cells #[.int .i64 wide] 3)).alloc (.cells #[.slice none 0 0] 24))) := ⟨below_alloc (below_alloc (Below.refl _ _) _) _⟩
  have hsz : ((w1.alloc (.cells #[.int .i64 wide] 3)).alloc (.cells #[.slice none 0 0] 24)).heap.size = w1.heap.size + 2 := by simp
  have hwB := HB1.out.size
  have hw20 : wide ≤ 20 := by
    rw [← HWD.out, ← HTS.out]
    exact wd_le _ 20 (fun s hs => by
      obtain ⟨x, hx, rfl⟩ := List.mem_map.1 hs
      have := HX.out x hx
      exact dig_le _ (by omega))
  obtain ⟨Wb, hWb⟩ : ∃ Wb, (w1.alloc (.cells #[.int .i64 wide] 3)).alloc (.cells #[.slice none 0 0] 24) = Wb := ⟨_, rfl⟩
  obtain ⟨B, hB⟩ : ∃ B, w1.heap.size = B := ⟨_, rfl⟩
  rw [hB] at bW bO hsz hwB
  rw [hWb] at bW bO HBb hsz ⊢
  rw [hB]
  have HBw := Aside0.mk (below_then HB1.out HB1.out.size HBb.out)
  clear hWb hB HB1 
  with_reducible refine (callsIn_wide.2 (texts_calls A c xs _ HX.out hn (Kd.C_below HL.out HBw.out) (HT.out.below HBw.out))).mono ?_
  rintro e w2 ⟨v, rfl, hS, hb2⟩
  rw [HTS.out] at hS
  have hg : ∃ g, (∀ j, v.ownBlock = some j → j = g) ∧ (0 < ts.length → ∃ cap, v = .slice (some ⟨g, 0, none⟩) ts.length cap ∧ Wb.heap.size ≤ g ∧ g < w2.heap.size) := by
    rcases Nat.eq_zero_or_pos ts.length with h | h
    · refine ⟨v.ownBlock.getD 0, fun j e => by rw [e]; rfl, fun hp => by omega⟩
    · obtain ⟨g, cap, rfl, h1, h2, _⟩ := hS.at_ h
      exact ⟨g, fun j e => by simpa [Value.ownBlock, eq_comm] using e, fun _ => ⟨cap, rfl, h1, h2⟩⟩
  obtain ⟨g, hg1, hg2⟩ := hg
  have hvf := hS.form
  have bW2 : Boxed w2 B 3 (.int .i64 wide) := (hb2.block _ bW.lt).trans bW
  have bO2 : Boxed w2 (B + 1) 24 (.slice none 0 0) := (hb2.block _ bO.lt).trans bO
  have hsz2 := hb2.size
  have HB2 := Aside0.mk (below_then HBw.out HBw.out.size hb2)
  have HG1 := Aside0.mk hg1
  have HG2 := Aside0.mk hg2
  have HS := Aside0.mk hS
  have HVF := Aside0.mk hvf
  clear bW bO HBb hb2 hg1 hg2 hS hvf
  gi_wp2_with fail
  refine ⟨trivial, ?_⟩
  with_reducible refine (chunk_calls v k hk1 hk2 _ w2 (HVF.out.elim fun A' h => h.elim fun cap' h' => ⟨A', _, cap', h'⟩)).mono ?_
  rintro e w3 ⟨rfl, rfl⟩
  have bW3 := (bW2.alloc (.cells #[v] 24)).alloc (.cells #[.int .i64 k] 3)
  have bO3 := (bO2.alloc (.cells #[v] 24)).alloc (.cells #[.int .i64 k] 3)
  have bA3 := (Boxed.new w2 24 v).alloc (.cells #[.int .i64 k] 3)
  have bN3 := Boxed.new (w2.alloc (.cells #[v] 24)) 3 (.int .i64 k)
  rw [World.size_alloc] at bN3
  have hS3 : So ((w2.alloc (.cells #[v] 24)).alloc (.cells #[.int .i64 k] 3)) Wb.heap.size v ts := HS.out.below (below_alloc (below_alloc (Below.refl _ _) _) _)
  have HB3 : Aside0 (Below w.heap.size w ((w2.alloc (.cells #[v] 24)).alloc (.cells #[.int .i64 k] 3))) := ⟨below_then HB2.out HB2.out.size (below_alloc (below_alloc (Below.refl _ _) _) _)⟩
  have hsz3 : ((w2.alloc (.cells #[v] 24)).alloc (.cells #[.int .i64 k] 3)).heap.size = w2.heap.size + 2 := by simp
  obtain ⟨W0, hW0⟩ : ∃ W0, (w2.alloc (.cells #[v] 24)).alloc (.cells #[.int .i64 k] 3) = W0 := ⟨_, rfl⟩
  rw [hW0] at bW3 bO3 bA3 bN3 hS3 HB3 hsz3 ⊢
  clear hW0 bW2 bO2 HB2 HS
  obtain ⟨Ba, hBa⟩ : ∃ Ba, w2.heap.size = Ba := ⟨_, rfl⟩
  rw [hBa] at bA3 bN3 hsz3 hsz2 HG2 ⊢
  have HZ := Aside0.mk hBa
  clear hBa
  gi_wp2
  refine wpIn_rangeFunc_ownG (n := 6) rfl (by omega) (gf := 17) (lb := #[.pointer (some ⟨Ba, 0, none⟩), .pointer (some ⟨Ba + 1, 0, none⟩)]) rfl trivial (enters_of Tryd.func17 (by kernel_rfl) rfl)
    (chunk_stops 5 (by omega) Ba (Ba + 1) Wb.heap.size k v ts hk1 hk2 hn2 g HG1.out W0 (by omega) (by omega) bA3.cell bN3.cell hS3)
    (fun h k => h.trans k) (fun W l o o' _ h hc _ => Kb.put _ _ W l o o' h hc) (Below.refl _ _) (fun _ => rfl)
    (TI w B W0.heap.size g wide k ts) (fun _ _ _ => False) (TI.own (by have := HB3.out.size; omega)) (fun _ _ _ _ _ hs _ _ => hs)
    ⟨bW3, fun hp => ?row, ⟨_, bO3, World.ownsRow_nil _ _ _ _⟩, HB3.out, Nat.le_refl _⟩
    (fun x => { tmps := #[.slice A xs.length c, .int .i64 k, undef, undef, .slice none 0 0, .int .i64 0, .pointer (some ⟨B, 0, none⟩), .pointer (some ⟨B + 1, 0, none⟩), part g ts.length k x, undef, undef, .int .i64 k, .bool false, .bool false, .int .i64 k, .bool false, .bool false, .slice A xs.length c, .int .i64 wide, .slice A xs.length c, v, .int .i64 k, .func (.func 17) #[] #[.pointer (some ⟨Ba, 0, none⟩), .pointer (some ⟨Ba + 1, 0, none⟩)], part g ts.length k x, undef, undef, undef, undef, undef, undef, undef, undef, undef, undef, undef, undef, undef, undef, undef, undef, undef, undef, undef, undef, undef, undef, undef, undef], defers := [] }) ?assign ?body ?done ?stop
  case row =>
    obtain ⟨cap, e, _⟩ := HG2.out hp
    subst e
    obtain ⟨rest, hx⟩ := Tx.of hS3
    exact ⟨ts, rest, hx, half.refl _ _⟩
  case assign =>
    intro l x W K hK
    gi_wp2
    exact hK
  case stop =>
    rintro D cc pre W _ _ h _
    exact h.elim
  case done =>
    rintro D ys W hD rfl hI hK
    obtain ⟨u, hu, ho⟩ := hI.out
    have huc := hu.cell
    have HI := Aside0.mk hI
    have HU := Aside0.mk ho
    have HK := Aside0.mk hK
    clear hI ho hK
    gi_wp2
    refine ⟨by simp, .inl ⟨_, _, rfl, run_takeDeferred HK.out, ?_⟩⟩
    refine ⟨.tuple #[u, .int .i64 0], by simp [results, Tryd.results5, go_sem], u, rfl, ?_, ?_⟩
    · have h1 := own_lower (ownsRow_putObj HU.out (.deferred Option.none) HK.out rfl) (show w.heap.size ≤ W0.heap.size from HB3.out.size)
      unfold So
      rw [List.length_map]
      exact h1
    · exact HI.out.be.trans (belowK_b (w := w) (Nat.le_refl _) W D _ _ (by have := HB3.out.size; omega) HK.out rfl rfl)
  case body =>
    rintro l pre x W hI hlen
    have hpos : 0 < ts.length := by
      rcases Nat.eq_zero_or_pos ts.length with h | h
      · exfalso
        rw [h] at hlen
        have : parts 0 k = 0 := by unfold parts; exact Nat.div_eq_of_lt (by omega)
        omega
      · exact h
    have hmx : Tryd.prog.follows .mixedOrders = true := by kernel_rfl
    obtain ⟨cap, -, hg3, hg4⟩ := HG2.out hpos
    obtain ⟨cs, rest, hx, hh⟩ := hI.row hpos
    obtain ⟨u, hu, ho⟩ := hI.out
    obtain ⟨p, hp⟩ : ∃ p, plen ts.length k x = p := ⟨_, rfl⟩
    obtain ⟨o, ho2⟩ : ∃ o, x * k = o := ⟨_, rfl⟩
    have hop : p = 0 ∨ o + p ≤ ts.length := by rw [← hp, ← ho2]; unfold plen; omega
    have hpm : p ≤ 1000 := by rw [← hp]; unfold plen; omega
    have HPO := Aside0.mk hp
    have HOO := Aside0.mk ho2
    have HLEN := Aside0.mk hlen
    have hJ : TJ w W B W0.heap.size g Ba (Ba + 1) wide ts u pre.length (strs (pre.map (line wide k ts))) o 0 cs W := ⟨hI.bw, ⟨rest, hx⟩, hh, fun j hj => by omega, hu, ho, hI.be, KeepsOthers.refl _, Kb.refl _ _ _⟩
    have HJ := Aside0.mk hJ
    have hzb : ∀ s ∈ ts, s.size ≤ wide := by
      have := wd_ge ts
      rw [HWD.out] at this
      exact this
    have HZB := Aside0.mk hzb
    have HKO : Aside0 (W0.heap.size ≤ W.heap.size) := ⟨hI.sz⟩
    unfold part
    rw [hp, ho2]
    have h1g : w.heap.size ≤ g := by omega
    have h2g : B + 1 < g := by omega
    clear hI hx hh hu ho hp ho2 hlen hJ hzb
    gi_wp2
    gi_loopw [9, 10, 26] (fun v9 v10 v26 wr => ∃ (i : Nat) (cs : List ByteArray), i ≤ p ∧ v26 = .int .i64 i ∧ Aside0 (TJ w W B W0.heap.size g Ba (Ba + 1) wide ts u pre.length (strs (pre.map (line wide k ts))) o i cs wr)) (fun _ _ v26 _ => p - (intOf v26).toNat)
    case atStart => exact ⟨0, cs, Nat.zero_le _, rfl, HJ⟩
    case round =>
      obtain ⟨i, cs, hi, rfl, HJ⟩ := hrel
      by_cases hlt : i < p
      · have hoi : o + i < ts.length := by omega
        obtain ⟨rest, hx⟩ := HJ.out.tx
        have hcl := HJ.out.ha.1
        have hc1 := hx.cell (o + i) (by omega)
        have hsz' := HJ.out.ha.size_ HZB.out (o + i) hoi
        have hpp := HJ.out.ha.pad_ HZB.out (o + i) hoi
        have hcw := HJ.out.bw.cell
        obtain ⟨s, hs⟩ : ∃ s, cs.getD (o + i) ⟨#[]⟩ = s := ⟨_, rfl⟩
        rw [hs] at hc1 hsz' hpp
        obtain ⟨d, hd⟩ : ∃ d, wide - s.size = d := ⟨_, rfl⟩
        have hd20 : d ≤ 20 := by omega
        have hs20 : s.size ≤ 20 := by omega
        have hdi : (wide : Int) - (s.size : Int) = (d : Int) := by omega
        have hrp := rep_pad wide s
        rw [hd] at hrp
        have HPP := Aside0.mk (hrp.trans hpp)
        have HFZ := Aside0.mk (Bk.frozen hx.b)
        clear hs hpp hrp hx hcl
        gi_wp2_with fail
        refine ⟨trivial, ?_⟩
        with_reducible refine (CallsIn.inRound l (callsIn_wide.2 (Lay.strings_Repeat ⟨#[32]⟩ d _ (by omega) (by rw [size1]; omega)))).mono ?_
        rintro e w4 ⟨rfl, hb4⟩
        have HJ4 := Aside0.mk (HJ.out.below hb4)
        have hf4 : w4.frozen? ⟨g, o + i, none⟩ = false := by
          obtain ⟨rest', hx'⟩ := HJ4.out.tx
          exact Bk.frozen hx'.b _
        have hc4 : w4.cell? ⟨g, o + i, none⟩ = some (.string s) := pw_cell_below hb4 hc1
        clear hb4 hc1 hcw HJ HFZ
        have hrl : ¬ 9223372036854775807 < (Lib.repeatL [(32 : UInt8)] d).length + s.size := by rw [repL_len]; omega
        gi_wp2
        go_roundw
        case rel =>
          refine ⟨i + 1, cs.set (o + i) (pad wide (ts.getD (o + i) ⟨#[]⟩)), hlt, by go_num, ⟨?_⟩⟩
          rw [HPP.out]
          exact HJ4.out.store hoi h1g h2g hg4 (by omega) (by omega)
        case measure => simp [intOf]; omega
      · obtain rfl : i = p := by omega
        have HJd := Aside0.mk (HJ.out.below (below_drew1 (Below.refl _ _)))
        have hcb : wr.drew.cell? ⟨B + 1, 0, none⟩ = some u := HJd.out.bo.cell
        have hjn : Aside0 (∀ W', TJ w W B W0.heap.size g Ba (Ba + 1) wide ts u pre.length (strs (pre.map (line wide k ts))) o i cs W' → Calls Tryd.prog 13 #[.slice (some ⟨g, o, none⟩) i i, .string ⟨#[32, 32]⟩] W' fun e w' => e = .returned (.string (line wide k ts x)) ∧ Below W'.heap.size W' w') := ⟨fun W' h => by
          obtain ⟨rest', hx'⟩ := h.tx
          have hcl := h.ha.1
          have e := line_of (wide := wide) (c := k) (x := x) (ts := ts) (cs := cs) hcl (fun j hj => by rw [HOO.out]; exact h.pd j (by rw [HPO.out] at hj; exact hj))
          rw [HPO.out, HOO.out] at e
          unfold line
          rw [← HOO.out] at e ⊢
          rw [← e, HOO.out]
          refine join_calls g o i cs rest' W' hx' (by omega) hpm (fun s hs => ?_)
          have h1 := List.mem_of_mem_take hs
          obtain ⟨j, hj1, hj2⟩ := List.mem_iff_getElem.1 (List.mem_of_mem_drop h1)
          have := h.ha.size_ HZB.out j (by omega)
          rw [List.getD_eq_getElem?_getD, List.getElem?_eq_getElem hj1] at this
          rw [← hj2]
          have h3 : cs[j].size ≤ wide := this
          omega⟩
        obtain ⟨L, hL⟩ : ∃ L, line wide k ts x = L := ⟨_, rfl⟩
        have hle : pre.length < 1000 := by
          have := HLEN.out
          have h2 : parts ts.length k ≤ ts.length := by
            unfold parts
            have : (ts.length + k - 1) / k ≤ ts.length * k / k := Nat.div_le_div_right (by
              have : ts.length * k = (ts.length - 1) * k + k := by rw [← Nat.succ_mul]; congr 1; omega
              have h3 : ts.length - 1 ≤ (ts.length - 1) * k := Nat.le_mul_of_pos_right _ hk1
              omega)
            rwa [Nat.mul_div_cancel _ hk1] at this
          omega
        rw [hL] at hjn
        clear HJ
        gi_wp2
        refine wpIn_region_any (by assumption) ?_
        change wpAnyIn _ _ _ _ _ _ _ _ _ (World.drew _)
        refine wpAnyIn_ready (rs := [0, 1]) (by kernel_rfl) (by simp) ?_
        refine AllReadyIn.cons rfl (fun K hK => ?_) ?_
        · go_simp
          refine hK _ _ ?_
          clear hK K
          refine wpAnyIn_ready (rs := [1]) (by kernel_rfl) (by simp) ?_
          refine AllReadyIn.cons rfl (fun K hK => ?_) AllReadyIn.nil
          go_simp
          refine hK _ _ ?_
          clear hK K
          refine wpAnyIn_ready (rs := [2]) (by kernel_rfl) (by simp) ?_
          refine AllReadyIn.cons rfl (fun K hK => ?_) AllReadyIn.nil
          go_simp
          gi_wp2_with (refine ⟨trivial, ?_⟩; gi_at_call 13; refine (CallsIn.inRound l (callsIn_wide.2 (hjn.out _ HJd.out))).mono ?_; rintro e w5 ⟨rfl, hb5⟩; have HJ5 := Aside0.mk (HJd.out.below hb5); have hcb5 := HJ5.out.bo.cell; have hcb6 := (HJ5.out.bo.alloc (.cells #[.string L] 9)).cell; clear hb5)
          refine wpAnyIn_ready (rs := [3]) (by kernel_rfl) (by simp) ?_
          refine AllReadyIn.cons rfl (fun K hK => ?_) AllReadyIn.nil
          go_simp
          refine hK _ _ ?_
          clear hK K
          refine wpAnyIn_ready (rs := [4]) (by kernel_rfl) (by simp) ?_
          refine AllReadyIn.cons rfl (fun K hK => ?_) AllReadyIn.nil
          rw [if_pos (by kernel_rfl)]
          refine opIn_append_own _ _ _ 24 rfl W0.heap.size 9 i0 (.string ⟨#[]⟩) 1 16 Tryd.underlying24 hi' hz0 hz1 hz2 rfl (by decide) u pre.length _ rfl (HJ5.out.ow.alloc _) ⟨w5.heap.size, 0, none⟩ 1 1 [.string L] rfl rfl (cell_one_new _ _ _) (by simp [Value.oneCell']) (by unfold maxLen; omega) (by omega) (by have := HJ5.out.ko.size; have := HKO.out; simp; omega) ?_
          intro v' w6 hown' hgrow _
          obtain ⟨g', cap', rfl⟩ := ownsRow_succ hown'
          obtain ⟨k1, k2, k3, k4, k5, k6, k7⟩ := HJ5.out.done hgrow hown' (by omega) (by omega) (by omega) (by omega) (by omega) h2g (by omega) (by omega) (by omega)
          have bo6 : Boxed w6 (B + 1) 24 u := (grown_old hgrow _ HJ5.out.bo.lt (fun e => by have := (HJ5.out.ow.lt _ e.symm).1; omega)).trans HJ5.out.bo
          have hc6 := bo6.cell
          have hf6 := bo6.frozen
          refine hK _ _ ?_
          clear hK K hgrow hown' bo6
          refine wpAnyIn_ready (rs := [5]) (by kernel_rfl) (by simp) ?_
          refine AllReadyIn.cons rfl (fun K hK => ?_) AllReadyIn.nil
          go_simp
          refine hK _ _ ?_
          clear hK K
          refine wpAnyIn_done (by kernel_rfl) ?_ _
          refine ⟨k1.from _, k2, ⟨k3, fun _ => ?_, ⟨_, k5, ?_⟩, k7, Nat.le_trans HKO.out k1.size⟩⟩
          · obtain ⟨rest6, hx6⟩ := k4
            exact ⟨cs, rest6, hx6, HJ5.out.ha⟩
          · rw [List.length_append, List.map_append, List.map_cons, List.map_nil, hL]
            unfold strs at k6 ⊢
            rw [List.map_append]
            exact k6
        refine AllReadyIn.cons rfl (fun K hK => ?_) AllReadyIn.nil
        go_simp
        refine hK _ _ ?_
        clear hK K
        refine wpAnyIn_ready (rs := [0, 2]) (by kernel_rfl) (by simp) ?_
        refine AllReadyIn.cons rfl (fun K hK => ?_) ?_
        · go_simp
          refine hK _ _ ?_
          clear hK K
          refine wpAnyIn_ready (rs := [2]) (by kernel_rfl) (by simp) ?_
          refine AllReadyIn.cons rfl (fun K hK => ?_) AllReadyIn.nil
          go_simp
          gi_wp2_with (refine ⟨trivial, ?_⟩; gi_at_call 13; refine (CallsIn.inRound l (callsIn_wide.2 (hjn.out _ HJd.out))).mono ?_; rintro e w5 ⟨rfl, hb5⟩; have HJ5 := Aside0.mk (HJd.out.below hb5); have hcb5 := HJ5.out.bo.cell; have hcb6 := (HJ5.out.bo.alloc (.cells #[.string L] 9)).cell; clear hb5)
          refine wpAnyIn_ready (rs := [3]) (by kernel_rfl) (by simp) ?_
          refine AllReadyIn.cons rfl (fun K hK => ?_) AllReadyIn.nil
          go_simp
          refine hK _ _ ?_
          clear hK K
          refine wpAnyIn_ready (rs := [4]) (by kernel_rfl) (by simp) ?_
          refine AllReadyIn.cons rfl (fun K hK => ?_) AllReadyIn.nil
          rw [if_pos (by kernel_rfl)]
          refine opIn_append_own _ _ _ 24 rfl W0.heap.size 9 i0 (.string ⟨#[]⟩) 1 16 Tryd.underlying24 hi' hz0 hz1 hz2 rfl (by decide) u pre.length _ rfl (HJ5.out.ow.alloc _) ⟨w5.heap.size, 0, none⟩ 1 1 [.string L] rfl rfl (cell_one_new _ _ _) (by simp [Value.oneCell']) (by unfold maxLen; omega) (by omega) (by have := HJ5.out.ko.size; have := HKO.out; simp; omega) ?_
          intro v' w6 hown' hgrow _
          obtain ⟨g', cap', rfl⟩ := ownsRow_succ hown'
          obtain ⟨k1, k2, k3, k4, k5, k6, k7⟩ := HJ5.out.done hgrow hown' (by omega) (by omega) (by omega) (by omega) (by omega) h2g (by omega) (by omega) (by omega)
          have bo6 : Boxed w6 (B + 1) 24 u := (grown_old hgrow _ HJ5.out.bo.lt (fun e => by have := (HJ5.out.ow.lt _ e.symm).1; omega)).trans HJ5.out.bo
          have hc6 := bo6.cell
          have hf6 := bo6.frozen
          refine hK _ _ ?_
          clear hK K hgrow hown' bo6
          refine wpAnyIn_ready (rs := [5]) (by kernel_rfl) (by simp) ?_
          refine AllReadyIn.cons rfl (fun K hK => ?_) AllReadyIn.nil
          go_simp
          refine hK _ _ ?_
          clear hK K
          refine wpAnyIn_done (by kernel_rfl) ?_ _
          refine ⟨k1.from _, k2, ⟨k3, fun _ => ?_, ⟨_, k5, ?_⟩, k7, Nat.le_trans HKO.out k1.size⟩⟩
          · obtain ⟨rest6, hx6⟩ := k4
            exact ⟨cs, rest6, hx6, HJ5.out.ha⟩
          · rw [List.length_append, List.map_append, List.map_cons, List.map_nil, hL]
            unfold strs at k6 ⊢
            rw [List.map_append]
            exact k6
        refine AllReadyIn.cons rfl (fun K hK => ?_) AllReadyIn.nil
        go_simp
        gi_wp2_with (refine ⟨trivial, ?_⟩; gi_at_call 13; refine (CallsIn.inRound l (callsIn_wide.2 (hjn.out _ HJd.out))).mono ?_; rintro e w5 ⟨rfl, hb5⟩; have HJ5 := Aside0.mk (HJd.out.below hb5); have hcb5 := HJ5.out.bo.cell; have hcb6 := (HJ5.out.bo.alloc (.cells #[.string L] 9)).cell; clear hb5)
        refine wpAnyIn_ready (rs := [0, 3]) (by kernel_rfl) (by simp) ?_
        refine AllReadyIn.cons rfl (fun K hK => ?_) ?_
        · go_simp
          refine hK _ _ ?_
          clear hK K
          refine wpAnyIn_ready (rs := [3]) (by kernel_rfl) (by simp) ?_
          refine AllReadyIn.cons rfl (fun K hK => ?_) AllReadyIn.nil
          go_simp
          refine hK _ _ ?_
          clear hK K
          refine wpAnyIn_ready (rs := [4]) (by kernel_rfl) (by simp) ?_
          refine AllReadyIn.cons rfl (fun K hK => ?_) AllReadyIn.nil
          rw [if_pos (by kernel_rfl)]
          refine opIn_append_own _ _ _ 24 rfl W0.heap.size 9 i0 (.string ⟨#[]⟩) 1 16 Tryd.underlying24 hi' hz0 hz1 hz2 rfl (by decide) u pre.length _ rfl (HJ5.out.ow.alloc _) ⟨w5.heap.size, 0, none⟩ 1 1 [.string L] rfl rfl (cell_one_new _ _ _) (by simp [Value.oneCell']) (by unfold maxLen; omega) (by omega) (by have := HJ5.out.ko.size; have := HKO.out; simp; omega) ?_
          intro v' w6 hown' hgrow _
          obtain ⟨g', cap', rfl⟩ := ownsRow_succ hown'
          obtain ⟨k1, k2, k3, k4, k5, k6, k7⟩ := HJ5.out.done hgrow hown' (by omega) (by omega) (by omega) (by omega) (by omega) h2g (by omega) (by omega) (by omega)
          have bo6 : Boxed w6 (B + 1) 24 u := (grown_old hgrow _ HJ5.out.bo.lt (fun e => by have := (HJ5.out.ow.lt _ e.symm).1; omega)).trans HJ5.out.bo
          have hc6 := bo6.cell
          have hf6 := bo6.frozen
          refine hK _ _ ?_
          clear hK K hgrow hown' bo6
          refine wpAnyIn_ready (rs := [5]) (by kernel_rfl) (by simp) ?_
          refine AllReadyIn.cons rfl (fun K hK => ?_) AllReadyIn.nil
          go_simp
          refine hK _ _ ?_
          clear hK K
          refine wpAnyIn_done (by kernel_rfl) ?_ _
          refine ⟨k1.from _, k2, ⟨k3, fun _ => ?_, ⟨_, k5, ?_⟩, k7, Nat.le_trans HKO.out k1.size⟩⟩
          · obtain ⟨rest6, hx6⟩ := k4
            exact ⟨cs, rest6, hx6, HJ5.out.ha⟩
          · rw [List.length_append, List.map_append, List.map_cons, List.map_nil, hL]
            unfold strs at k6 ⊢
            rw [List.map_append]
            exact k6
        refine AllReadyIn.cons rfl (fun K hK => ?_) AllReadyIn.nil
        go_simp
        refine hK _ _ ?_
        clear hK K
        refine wpAnyIn_ready (rs := [0]) (by kernel_rfl) (by simp) ?_
        refine AllReadyIn.cons rfl (fun K hK => ?_) AllReadyIn.nil
        go_simp
        refine hK _ _ ?_
        clear hK K
        refine wpAnyIn_ready (rs := [4]) (by kernel_rfl) (by simp) ?_
        refine AllReadyIn.cons rfl (fun K hK => ?_) AllReadyIn.nil
        rw [if_pos (by kernel_rfl)]
        refine opIn_append_own _ _ _ 24 rfl W0.heap.size 9 i0 (.string ⟨#[]⟩) 1 16 Tryd.underlying24 hi' hz0 hz1 hz2 rfl (by decide) u pre.length _ rfl (HJ5.out.ow.alloc _) ⟨w5.heap.size, 0, none⟩ 1 1 [.string L] rfl rfl (cell_one_new _ _ _) (by simp [Value.oneCell']) (by unfold maxLen; omega) (by omega) (by have := HJ5.out.ko.size; have := HKO.out; simp; omega) ?_
        intro v' w6 hown' hgrow _
        obtain ⟨g', cap', rfl⟩ := ownsRow_succ hown'
        obtain ⟨k1, k2, k3, k4, k5, k6, k7⟩ := HJ5.out.done hgrow hown' (by omega) (by omega) (by omega) (by omega) (by omega) h2g (by omega) (by omega) (by omega)
        have bo6 : Boxed w6 (B + 1) 24 u := (grown_old hgrow _ HJ5.out.bo.lt (fun e => by have := (HJ5.out.ow.lt _ e.symm).1; omega)).trans HJ5.out.bo
        have hc6 := bo6.cell
        have hf6 := bo6.frozen
        refine hK _ _ ?_
        clear hK K hgrow hown' bo6
        refine wpAnyIn_ready (rs := [5]) (by kernel_rfl) (by simp) ?_
        refine AllReadyIn.cons rfl (fun K hK => ?_) AllReadyIn.nil
        go_simp
        refine hK _ _ ?_
        clear hK K
        refine wpAnyIn_done (by kernel_rfl) ?_ _
        refine ⟨k1.from _, k2, ⟨k3, fun _ => ?_, ⟨_, k5, ?_⟩, k7, Nat.le_trans HKO.out k1.size⟩⟩
        · obtain ⟨rest6, hx6⟩ := k4
          exact ⟨cs, rest6, hx6, HJ5.out.ha⟩
        · rw [List.length_append, List.map_append, List.map_cons, List.map_nil, hL]
          unfold strs at k6 ⊢
          rw [List.map_append]
          exact k6
end Go.Proofs.YtmmgiolhfekplaaDoor.Shw
end
section
namespace Go.Proofs.YtmmgiolhfekplaaDoor.PShowTables
open Go.RowKit Go.Proofs.YtmmgiolhfekplaaDoorW.PrintWords Go.Proofs.YtmmgiolhfekplaaDoorW.PrintLast Go.Proofs.YtmmgiolhfekplaaDoorW.PrintMore
attribute [local go_sem] max2_int min2_int max_two min_two max_three min_three max_four min_four   -- for this text's walks alone
set_option linter.unusedVariables false
set_option linter.unusedSimpArgs false
def errW : Option Int → Value
  | none => .nilIface
  | some c => .iface 0 (.int .i64 c)
theorem errW_none : errW none = .nilIface := rfl
theorem errW_some (c : Int) : errW (some c) = .iface 0 (.int .i64 c) := rfl
end Go.Proofs.YtmmgiolhfekplaaDoor.PShowTables
end
section
namespace Go.Proofs.YtmmgiolhfekplaaDoor.PShowTables
open Go.RowKit Go.Proofs.YtmmgiolhfekplaaDoorW.PrintWords Go.Proofs.YtmmgiolhfekplaaDoorW.PrintLast Go.Proofs.YtmmgiolhfekplaaDoorW.PrintMore
attribute [local go_sem] max2_int min2_int max_two min_two max_three min_three max_four min_four   -- for this text's walks alone
set_option linter.unusedVariables false
set_option linter.unusedSimpArgs false
def abacistref04_Digits.l0 : Nat → Int → ByteArray → Option (ByteArray)
  | 0, _, _ => none
  | k + 1, x0, x3 => (some (([(IntKind.u64.wrap (48 + (Int.tmod x0 10))) % 256] : List Int) : List Int)).bind fun y113 => (if (strOfNums y113).size + x3.size ≤ 9223372036854775807 then (if (IntKind.u64.wrap (Int.tdiv x0 10)) = 0 then (some ((strOfNums y113) ++ x3)) else (abacistref04_Digits.l0 k (IntKind.u64.wrap (Int.tdiv x0 10)) ((strOfNums y113) ++ x3))) else (none))
def abacistref04_Digits.f (k : Nat) (a0 : Int) : Option (ByteArray) := abacistref04_Digits.l0 k a0 (⟨#[]⟩ : ByteArray)
set_option maxHeartbeats 8000000 in
set_option maxRecDepth 100000 in
theorem abacistref04_Digits.calls (k : Nat) (a0 : Int) (r : ByteArray) (w : World) (h : abacistref04_Digits.f k a0 = some r) :
    Calls Tryd.prog 6 #[.int .u64 a0] w fun e w' => e = .returned (.string r) ∧ Below w.heap.size w w' := by
  have HB := Aside0.mk (Below.refl w.heap.size w)
  have H : (abacistref04_Digits.l0 k a0 (⟨#[]⟩ : ByteArray)) = some r := h
  clear h
  have H' := Aside0.mk H
  clear H
  go_enter Tryd.func6, Tryd.ntmps6
  go_wp2
  go_loopg [0, 3] k (fun kq v0 v3 w' => ∃ (x0_1 : Int) (x3_1 : ByteArray), v0 = .int .u64 x0_1 ∧ v3 = .string x3_1 ∧ Aside0 (abacistref04_Digits.l0 kq x0_1 x3_1 = some r) ∧ Aside0 (kq ≤ k) ∧ Aside0 (Below w.heap.size w w'))
  case atStart => exact ⟨(a0), ((⟨#[]⟩ : ByteArray)), (by first | rfl | (simp; done) | (simp [*]; done)), (by first | rfl | (simp; done) | (simp [*]; done)), H', ⟨Nat.le_refl _⟩, ⟨by repeat (first | (with_reducible first | exact HB.out | apply below_alloc | apply pw_below_drewN | apply below_drew1) | exact HB.out)⟩⟩
  case round =>
    clear H'
    obtain ⟨x0_1, x3_1, rfl, rfl, HA, HK1, HB⟩ := hrel
    cases gk with
    | zero => exact absurd HA.out (by simp [abacistref04_Digits.l0])
    | succ k1 =>
      have H := HA.out
      clear HA
      simp only [abacistref04_Digits.l0] at H
      obtain ⟨y113, hy113⟩ : ∃ y_ : List Int, y_ = (([(IntKind.u64.wrap (48 + (Int.tmod x0_1 10))) % 256] : List Int)) := ⟨_, rfl⟩
      replace H : (if (strOfNums y113).size + x3_1.size ≤ 9223372036854775807 then (if (IntKind.u64.wrap (Int.tdiv x0_1 10)) = 0 then (some ((strOfNums y113) ++ x3_1)) else (abacistref04_Digits.l0 k1 (IntKind.u64.wrap (Int.tdiv x0_1 10)) ((strOfNums y113) ++ x3_1))) else (none)) = some r := by first | (rw [hy113]; with_reducible exact H) | (have H2_ := (Option.bind_some _ _).symm.trans H; rw [hy113]; with_reducible exact H2_) | (have H2_ := (Option.bind_some _ _).symm.trans H; with_reducible exact H2_) | with_reducible exact H | (rw [hy113]; exact H) | exact H
      have Ny113 := Aside0.mk hy113
      clear hy113
      by_cases c2 : (strOfNums y113).size + x3_1.size ≤ 9223372036854775807
      · rw [if_pos c2] at H
        have c2b0 := eq_true c2
        have c2b1 : decide ((strOfNums y113).size + x3_1.size ≤ 9223372036854775807) = true := decide_eq_true c2
        try have c2b2 : (9223372036854775807 < (strOfNums y113).size + x3_1.size) = False := eq_false (Nat.not_lt.2 c2)
        by_cases c3 : (IntKind.u64.wrap (Int.tdiv x0_1 10)) = 0
        · rw [if_pos c3] at H
          have c3b0 : ((IntKind.u64.wrap (Int.tdiv x0_1 10)) == 0) = true := beq_iff_eq.mpr c3
          have c3b1 : ((IntKind.u64.wrap (Int.tdiv x0_1 10)) != 0) = false := bne_eq_false_iff_eq.mpr c3
          clear c3
          obtain rfl := Option.some.inj H
          go_wp2_with (first | ((with_reducible refine gate_dst (N := 8) rfl ?_); refine Kd.R_lit (Kd.int .u8) _ 5 ?hg (N := 8) ?hd (xs := ([(IntKind.u64.wrap (48 + (Int.tmod x0_1 10))) % 256] : List Int)) (inner := [.int .u8 ((IntKind.u64.wrap (48 + (Int.tmod x0_1 10))) % 256)]) (ok := fun _ => True) (okp := fun _ => True) ?hr ?hp (fun _ hk => hk) trivial (Below.refl _ _) (Nat.le_refl _) (by simp) ?_; (case hd => rfl); (case hg => rfl); (case hr => first | (go_simp; done) | (go_simp; rfl)); (case hp => exact (Reps.one (show Kd.M (Kd.int .u8) _ _ _ ((IntKind.u64.wrap (48 + (Int.tmod x0_1 10))) % 256) [.int .u8 ((IntKind.u64.wrap (48 + (Int.tmod x0_1 10))) % 256)] from rfl) (Reps.none _ _))); intro v114 w4 ho5 hb hg_ hnew_; clear hg_ hnew_; (first | rw [← Ny113.out] at ho5 | (simp only [Int.reduceToNat] at ho5; rw [← Ny113.out] at ho5)); have n0_ := Aside0.mk (Kd.R_lower ho5 (below_size (by repeat (first | (with_reducible first | exact HB.out | apply below_alloc | apply pw_below_drewN | apply below_drew1) | exact HB.out)))); have n1_ := Aside0.mk (below_step (by repeat (first | (with_reducible first | exact HB.out | apply below_alloc | apply pw_below_drewN | apply below_drew1) | exact HB.out)) hb); clear HB; have HO115 := n0_; have HB := n1_; clear n0_ n1_; clear hb ho5; have hcv6 := own_string (P := Tryd.prog) Tryd.underlying40 Tryd.underlying5 Tryd.underlying9 (Kd.own_of_R HO115.out)))
          go_ret
          exact ⟨by first | rfl | (simp [errW_none, errW_some] <;> rfl) | (simp [*, errW_none, errW_some] <;> rfl), by repeat (first | (with_reducible first | exact HB.out | apply below_alloc | apply pw_below_drewN | apply below_drew1) | exact HB.out)⟩
        · rw [if_neg c3] at H
          have c3b0 : ((IntKind.u64.wrap (Int.tdiv x0_1 10)) == 0) = false := beq_eq_false_iff_ne.mpr c3
          have c3b1 : ((IntKind.u64.wrap (Int.tdiv x0_1 10)) != 0) = true := bne_iff_ne.mpr c3
          have H' := Aside0.mk H
          clear H
          go_wp2_with (first | ((with_reducible refine gate_dst (N := 8) rfl ?_); refine Kd.R_lit (Kd.int .u8) _ 5 ?hg (N := 8) ?hd (xs := ([(IntKind.u64.wrap (48 + (Int.tmod x0_1 10))) % 256] : List Int)) (inner := [.int .u8 ((IntKind.u64.wrap (48 + (Int.tmod x0_1 10))) % 256)]) (ok := fun _ => True) (okp := fun _ => True) ?hr ?hp (fun _ hk => hk) trivial (Below.refl _ _) (Nat.le_refl _) (by simp) ?_; (case hd => rfl); (case hg => rfl); (case hr => first | (go_simp; done) | (go_simp; rfl)); (case hp => exact (Reps.one (show Kd.M (Kd.int .u8) _ _ _ ((IntKind.u64.wrap (48 + (Int.tmod x0_1 10))) % 256) [.int .u8 ((IntKind.u64.wrap (48 + (Int.tmod x0_1 10))) % 256)] from rfl) (Reps.none _ _))); intro v114 w7 ho8 hb hg_ hnew_; clear hg_ hnew_; (first | rw [← Ny113.out] at ho8 | (simp only [Int.reduceToNat] at ho8; rw [← Ny113.out] at ho8)); have n0_ := Aside0.mk (Kd.R_lower ho8 (below_size (by repeat (first | (with_reducible first | exact HB.out | apply below_alloc | apply pw_below_drewN | apply below_drew1) | exact HB.out)))); have n1_ := Aside0.mk (below_step (by repeat (first | (with_reducible first | exact HB.out | apply below_alloc | apply pw_below_drewN | apply below_drew1) | exact HB.out)) hb); clear HB; have HO115 := n0_; have HB := n1_; clear n0_ n1_; clear hb ho8; have hcv9 := own_string (P := Tryd.prog) Tryd.underlying40 Tryd.underlying5 Tryd.underlying9 (Kd.own_of_R HO115.out)))
          go_roundg k1
          case measure => have := HK1.out; omega
          case rel => exact ⟨(IntKind.u64.wrap (Int.tdiv x0_1 10)), ((strOfNums y113) ++ x3_1), (by first | rfl | (simp; done) | (simp [*]; done)), (by first | rfl | (simp; done) | (simp [*]; done)), H', ⟨by have := HK1.out; omega⟩, ⟨by repeat (first | (with_reducible first | exact HB.out | apply below_alloc | apply pw_below_drewN | apply below_drew1) | exact HB.out)⟩⟩
      · rw [if_neg c2] at H
        exact absurd H (by simp)
end Go.Proofs.YtmmgiolhfekplaaDoor.PShowTables
end
section
namespace Go.Proofs.YtmmgiolhfekplaaDoor.Shw
open Go.RowKit Go.Proofs.YtmmgiolhfekplaaDoor Go.Proofs.YtmmgiolhfekplaaDoor.Ext Go.Proofs.YtmmgiolhfekplaaDoor.PShowTables Go.Proofs.YtmmgiolhfekplaaDoor.Obj Go.Proofs.YtmmgiolhfekplaaDoorW.PrintWords Go.Proofs.YtmmgiolhfekplaaDoorW.PrintLast Go.Proofs.YtmmgiolhfekplaaDoorW.PrintMore
set_option linter.unusedVariables false
set_option linter.unusedSimpArgs false
set_option maxRecDepth 100000
theorem dig1 (u : Nat) (h : u < 10) : strOfNums [IntKind.u64.wrap (48 + Int.tmod (u : Int) 10) % 256] = dig u := by
  rw [dig, Lib.decDigits_one h, IntKind.wrap_u64, Int.tmod_eq_emod_of_nonneg (by omega)]
  have e : ((48 + (u : Int) % 10) % 18446744073709551616 % 256) = ((48 + u : Nat) : Int) := by omega
  rw [e]
  rfl
theorem digb (u : Nat) : strOfNums [IntKind.u64.wrap (48 + Int.tmod (u : Int) 10) % 256] = ⟨#[UInt8.ofNat (48 + u % 10)]⟩ := by
  rw [IntKind.wrap_u64, Int.tmod_eq_emod_of_nonneg (by omega)]
  have e : ((48 + (u : Int) % 10) % 18446744073709551616 % 256) = ((48 + u % 10 : Nat) : Int) := by omega
  rw [e]
  rfl
theorem digits_acc (n : Nat) : ∀ (u : Nat) (acc : ByteArray), u < 10 ^ n → u < 18446744073709551616 → acc.size + n ≤ 1000 → 0 < n → Ev (fun k => abacistref04_Digits.l0 k (u : Int) acc) (dig u ++ acc) := by
  induction n with
  | zero => intro u acc _ _ _ h; omega
  | succ n ih =>
    intro u acc hu hu2 ha _
    have e10 : IntKind.u64.wrap (Int.tdiv (u : Int) 10) = ((u / 10 : Nat) : Int) := by rw [IntKind.wrap_u64, Int.tdiv_eq_ediv_of_nonneg (by omega)]; omega
    have hs : (⟨#[UInt8.ofNat (48 + u % 10)]⟩ : ByteArray).size = 1 := rfl
    by_cases h : u < 10
    · refine Ev.step (f := fun _ => some (dig u ++ acc)) (fun k => ?_) (Ev.now _)
      simp only [abacistref04_Digits.l0]
      rw [Option.bind_some, digb, e10, hs, if_pos (by omega), if_pos (by omega)]
      rw [← digb, dig1 u h]
    · have h10 : u / 10 < 10 ^ n := by rw [Nat.pow_succ] at hu; omega
      have hn : 0 < n := by
        rcases Nat.eq_zero_or_pos n with rfl | q
        · simp at h10; omega
        · exact q
      refine Ev.step (f := fun k => abacistref04_Digits.l0 k ((u / 10 : Nat) : Int) (⟨#[UInt8.ofNat (48 + u % 10)]⟩ ++ acc)) (fun k => ?_) ?_
      · simp only [abacistref04_Digits.l0]
        rw [Option.bind_some, digb, e10, hs, if_pos (by omega), if_neg (by omega)]
      · have := ih (u / 10) (⟨#[UInt8.ofNat (48 + u % 10)]⟩ ++ acc) h10 (by omega) (by rw [ByteArray.size_append, hs]; omega) hn
        have e : dig u ++ acc = dig (u / 10) ++ (⟨#[UInt8.ofNat (48 + u % 10)]⟩ ++ acc) := by
          unfold dig
          rw [Lib.decDigits, dif_neg h]
          apply ByteArray.ext
          simp
        rw [e]
        exact this
theorem digits_is (u : Nat) (hu : u < 18446744073709551616) : Ev (fun k => abacistref04_Digits.f k (u : Int)) (dig u) := by
  have h := digits_acc 20 u ⟨#[]⟩ (by omega) hu (by decide) (by decide)
  have e : dig u ++ (⟨#[]⟩ : ByteArray) = dig u := by apply ByteArray.ext; simp
  rw [e] at h
  exact h
theorem digits_calls (u : Nat) (hu : u < 18446744073709551616) (w : World) : Calls Tryd.prog 6 #[.int .u64 (u : Int)] w fun e w' => e = .returned (.string (dig u)) ∧ Below w.heap.size w w' := by
  obtain ⟨n, h⟩ := (digits_is u hu).rounds
  exact (abacistref04_Digits.calls n (u : Int) (dig u) w h)
theorem pad_succ (m : Nat) (s : ByteArray) (h : s.size ≤ m) : (⟨#[32]⟩ : ByteArray) ++ pad m s = pad (m + 1) s := by
  unfold pad
  rw [show m + 1 - s.size = (m - s.size) + 1 by omega, List.replicate_succ]
  apply ByteArray.ext
  apply Array.ext'
  simp
theorem pad_self (s : ByteArray) : pad s.size s = s := pad_full _ _ (Nat.le_refl _)
theorem jn2_one (x : ByteArray) : jn2 [x] = x := by
  unfold jn2
  simp only [List.map_cons, List.map_nil, Lib.join_one]
theorem join_snoc (sep : List UInt8) (x : List UInt8) : ∀ (l : List (List UInt8)), l ≠ [] → Lib.join (l ++ [x]) sep = Lib.join l sep ++ sep ++ x
  | [], h => absurd rfl h
  | [a], _ => by simp [Lib.join, List.intercalate]
  | a :: b :: l, _ => by
    have ih := join_snoc sep x (b :: l) (by simp)
    have e : ∀ l', Lib.join (a :: b :: l') sep = a ++ sep ++ Lib.join (b :: l') sep := fun l' => by simp [Lib.join, List.intercalate]
    rw [List.cons_append, List.cons_append, e, e, ← List.cons_append, ih]
    simp
theorem jn2_snoc (l : List ByteArray) (x : ByteArray) (h : l ≠ []) : jn2 (l ++ [x]) = (jn2 l ++ ⟨#[32, 32]⟩) ++ x := by
  unfold jn2
  rw [List.map_append, List.map_cons, List.map_nil, join_snoc _ _ _ (by simpa using h)]
  apply ByteArray.ext
  simp
theorem jn2_size (l : List ByteArray) (h : ∀ s ∈ l, s.size ≤ 20) : (jn2 l).size ≤ l.length * 22 := by
  have := join_len 20 [32, 32] (l.map (·.data.toList)) (fun s hs => by
    obtain ⟨y, hy, rfl⟩ := List.mem_map.1 hs
    exact h y hy)
  rw [List.length_map] at this
  exact this
def lin (wide c : Nat) (ts : List ByteArray) (q r : Nat) : ByteArray := jn2 (((ts.map (pad wide)).drop (q * c)).take r)
theorem lin_zero (wide c : Nat) (ts : List ByteArray) (q : Nat) : lin wide c ts q 0 = ⟨#[]⟩ := by unfold lin; rw [List.take_zero]; rfl
theorem lin_get (wide c : Nat) (ts : List ByteArray) (q r : Nat) (h : q * c + r < ts.length) : ((ts.map (pad wide)).drop (q * c)).take (r + 1) = ((ts.map (pad wide)).drop (q * c)).take r ++ [pad wide (ts.getD (q * c + r) ⟨#[]⟩)] := by
  rw [List.take_succ_eq_append_getElem (by simp; omega)]
  simp [h]
theorem lin_one (wide c : Nat) (ts : List ByteArray) (q : Nat) (h : q * c < ts.length) : lin wide c ts q 1 = pad wide (ts.getD (q * c) ⟨#[]⟩) := by
  unfold lin
  rw [show (1 : Nat) = 0 + 1 from rfl, lin_get wide c ts q 0 h, List.take_zero, List.nil_append, jn2_one]
  rfl
theorem lin_succ (wide c : Nat) (ts : List ByteArray) (q r : Nat) (hr : 0 < r) (h : q * c + r < ts.length) : lin wide c ts q (r + 1) = (lin wide c ts q r ++ ⟨#[32, 32]⟩) ++ pad wide (ts.getD (q * c + r) ⟨#[]⟩) := by
  unfold lin
  rw [lin_get wide c ts q r h, jn2_snoc]
  intro e
  have := congrArg List.length e
  simp at this
  omega
theorem lin_all (wide c : Nat) (ts : List ByteArray) (q r : Nat) (h : r = c ∨ r ≤ c ∧ ts.length ≤ q * c + r) : lin wide c ts q r = line wide c ts q := by
  unfold lin line
  rcases h with rfl | ⟨h1, h2⟩
  · rfl
  · rw [List.take_of_length_le (by simp; omega), List.take_of_length_le (by simp; omega)]
theorem lin_size (wide c : Nat) (ts : List ByteArray) (q r : Nat) (hw : wide ≤ 20) (hz : ∀ s ∈ ts, s.size ≤ wide) (hr : r ≤ 40) : (lin wide c ts q r).size ≤ 880 := by
  unfold lin
  refine Nat.le_trans (jn2_size _ (fun s hs => ?_)) (by rw [List.length_take]; omega)
  obtain ⟨y, hy, rfl⟩ := List.mem_map.1 (List.mem_of_mem_drop (List.mem_of_mem_take hs))
  rw [pad_size _ _ (hz y hy)]
  exact hw
def cnt (n c i : Nat) : Nat := if i = n then parts n c else i / c
def lsz (n c i : Nat) : Nat := if i = n then 0 else i % c
theorem cnt_zero (n c : Nat) (hc : 1 ≤ c) : cnt n c 0 = 0 := by
  unfold cnt
  split
  · rename_i h
    subst h
    unfold parts
    exact Nat.div_eq_of_lt (by omega)
  · exact Nat.zero_div c
theorem lsz_zero (n c : Nat) : lsz n c 0 = 0 := by
  unfold lsz
  split
  · rfl
  · exact Nat.zero_mod c
theorem parts_last (n c q r : Nat) (hc : 1 ≤ c) (hr : r < c) (h : q * c + r + 1 = n) : parts n c = q + 1 := by
  unfold parts
  have : n + c - 1 = (q + 1) * c + r := by rw [Nat.succ_mul]; omega
  rw [this, Nat.add_comm, Nat.add_mul_div_right _ _ (by omega), Nat.div_eq_of_lt hr]
  omega
theorem div_next (c q r : Nat) (hr : r + 1 < c) : (q * c + r + 1) / c = q ∧ (q * c + r + 1) % c = r + 1 := by
  have : q * c + r + 1 = (r + 1) + c * q := by rw [Nat.mul_comm]; omega
  rw [this]
  exact ⟨by rw [Nat.add_mul_div_left _ _ (by omega), Nat.div_eq_of_lt hr]; omega, by rw [Nat.add_mul_mod_self_left, Nat.mod_eq_of_lt hr]⟩
theorem div_full (c q r : Nat) (hr : r + 1 = c) : (q * c + r + 1) / c = q + 1 ∧ (q * c + r + 1) % c = 0 := by
  have : q * c + r + 1 = (q + 1) * c := by rw [Nat.succ_mul]; omega
  rw [this]
  exact ⟨Nat.mul_div_cancel _ (by omega), Nat.mul_mod_left _ _⟩
end Go.Proofs.YtmmgiolhfekplaaDoor.Shw
end
section
namespace Go.Proofs.YtmmgiolhfekplaaDoor.Shw
open Go.RowKit Go.Proofs.YtmmgiolhfekplaaDoor Go.Proofs.YtmmgiolhfekplaaDoor.Ext Go.Proofs.YtmmgiolhfekplaaDoor.Obj Go.Proofs.YtmmgiolhfekplaaDoorW.PrintWords Go.Proofs.YtmmgiolhfekplaaDoorW.PrintLast Go.Proofs.YtmmgiolhfekplaaDoorW.PrintMore
set_option linter.unusedVariables false
set_option linter.unusedSimpArgs false
set_option maxRecDepth 100000
attribute [local go_sem high] max2_mx max_two
structure TR (w w' : World) (xs : List Int) (k : Int) (v : Value) (e : Int) : Prop where
  be : Below w.heap.size w w'
  no : k < 1 ∨ 1000 < k → v = .slice none 0 0 ∧ e = 1
  yes : ¬ (k < 1 ∨ 1000 < k) → e = 0 ∧ So w' w.heap.size v ((List.range (parts xs.length k.toNat)).map (line (wd (digs xs)) k.toNat (digs xs)))
theorem table_calls (A : Option Addr) (c : Nat) (xs : List Int) (k : Int) (w : World) (hx : ∀ x ∈ xs, 0 ≤ x ∧ x ≤ 18446744073709551615) (hn : xs.length ≤ 1000) (hl : Kd.C (Kd.int .u64) w A xs.length xs) (hT : TabW w) :
    Calls Tryd.prog 5 #[.slice A xs.length c, .int .i64 k] w fun e w' => ∃ v e', e = .returned (.tuple #[v, .int .i64 e']) ∧ TR w w' xs k v e' := by
  by_cases h : k < 1 ∨ 1000 < k
  · refine (table_no _ k h w).mono ?_
    rintro e w' ⟨rfl, rfl⟩
    exact ⟨_, _, rfl, Below.refl _ _, fun _ => ⟨rfl, rfl⟩, fun h' => absurd h h'⟩
  · obtain ⟨m, rfl⟩ := Int.eq_ofNat_of_zero_le (show 0 ≤ k by omega)
    refine (table_yes A c xs _ _ rfl rfl m (by omega) (by omega) w hx hn hl hT).mono ?_
    rintro e w' ⟨v, rfl, hS, hb⟩
    exact ⟨_, _, rfl, hb, fun h' => absurd h' h, fun _ => ⟨rfl, by rw [Int.toNat_natCast]; rw [digs_len] at hS; exact hS⟩⟩
set_option maxHeartbeats 8000000 in
theorem law_no (A : Option Addr) (c : Nat) (xs : List Int) (k : Int) (w : World) (h : k < 1 ∨ 1000 < k) (hx : ∀ x ∈ xs, 0 ≤ x ∧ x ≤ 18446744073709551615) (hl : Kd.C (Kd.int .u64) w A xs.length xs) (hT : TabW w) :
    Calls Tryd.prog 3 #[.slice A xs.length c, .int .i64 k] w fun e w' => e = .returned (.bool true) ∧ Below w.heap.size w w' := by
  have HX := Aside0.mk hx
  have HL := Aside0.mk hl
  have HT := Aside0.mk hT
  have HN := Aside0.mk h
  obtain ⟨ts, hts⟩ : ∃ ts, digs xs = ts := ⟨_, rfl⟩
  have hdl : ts.length = xs.length := by rw [← hts, digs_len]
  have HTS := Aside0.mk hts
  have HDL := Aside0.mk hdl
  clear hx hl hT hts hdl h
  go_enter Tryd.func3, Tryd.ntmps3
  go_wp2_with fail
  refine (awake_calls w).mono ?_
  rintro e w1 ⟨rfl, hb1⟩
  have HB1 := Aside0.mk hb1
  clear hb1
  by_cases hlen : 40 < xs.length
  · go_wp2
    go_ret
    exact ⟨rfl, HB1.out⟩
  · go_wp2_with fail
    refine (table_calls A c xs k w1 HX.out (by omega) (Kd.C_below HL.out HB1.out) (HT.out.below HB1.out)).mono ?_
    rintro e w2 ⟨v, e2, rfl, hR⟩
    obtain ⟨rfl, rfl⟩ := hR.no HN.out
    have HB2 := Aside0.mk (below_then HB1.out HB1.out.size hR.be)
    clear hR HB1
    go_wp2
    go_loopw [7, 8] (fun v7 v8 wr => ∃ i : Nat, i ≤ xs.length ∧ v8 = .int .i64 i ∧ v7 = .int .i64 (wd (ts.take i)) ∧ Aside0 (Below w.heap.size w wr)) (fun _ v8 _ => xs.length - (intOf v8).toNat)
    case atStart => exact ⟨0, by omega, rfl, rfl, HB2⟩
    case round =>
      obtain ⟨i, hi, rfl, rfl, HB⟩ := hrel
      by_cases hlt : i < xs.length
      · obtain ⟨u, hu, hu2⟩ : ∃ u : Nat, xs.getD i 0 = (u : Int) ∧ u < 18446744073709551616 := by
          have := HX.out (xs.getD i 0) (by rw [List.getD_eq_getElem?_getD, List.getElem?_eq_getElem hlt]; exact List.getElem_mem hlt)
          exact ⟨(xs.getD i 0).toNat, by omega, by omega⟩
        obtain ⟨ad, q, hc⟩ := C_at (Kd.C_below HL.out HB.out) i hlt
        subst q
        rw [hu] at hc
        have hsd : ts.getD i ⟨#[]⟩ = dig u := by
          rw [← HTS.out]
          have : (digs xs)[i]? = some (dig (xs.getD i 0).toNat) := by simp [digs, hlt]
          rw [List.getD_eq_getElem?_getD, this, hu, Int.toNat_natCast]
          rfl
        have hw := wd_snoc ts i (by rw [HDL.out]; exact hlt)
        rw [hsd] at hw
        have hm := mx_nat (wd (ts.take i)) (dig u).size
        rw [← hw] at hm
        clear hw hsd hu
        go_wp2_with fail
        refine (digits_calls u hu2 _).mono ?_
        rintro e w3 ⟨rfl, hb3⟩
        have HB3 := Aside0.mk (below_then HB.out HB.out.size hb3)
        clear hb3 hc
        go_wp2
        go_roundw
        case rel => exact ⟨i + 1, hlt, by go_num, rfl, HB3⟩
        case measure => simp [intOf]; omega
      · obtain rfl : i = xs.length := by omega
        have htl : ts.take xs.length = ts := List.take_of_length_le (by rw [HDL.out]; exact Nat.le_refl _)
        have hww : wd ts ≤ 20 := by
          rw [← HTS.out]
          exact wd_le _ 20 (fun s hs => by
            obtain ⟨x, hx, rfl⟩ := List.mem_map.1 hs
            have := HX.out x hx
            exact dig_le _ (by omega))
        rw [htl]
        clear htl
        go_wp2_with fail
        refine (width_aux A c xs ts HTS.out _ HX.out (by omega) (Kd.C_below HL.out HB.out) (HT.out.below HB.out)).mono ?_
        rintro e w3 ⟨rfl, hb3⟩
        have HB3 := Aside0.mk (below_then HB.out HB.out.size hb3)
        clear hb3
        rcases HN.out with h | h
        · have d1 : decide (k < 1) = true := decide_eq_true h
          go_wp2
          go_ret
          exact ⟨rfl, HB3.out⟩
        · have d1 : decide (k < 1) = false := decide_eq_false (by omega)
          have d2 : decide (1000 < k) = true := decide_eq_true h
          go_wp2
          go_ret
          exact ⟨rfl, HB3.out⟩
end Go.Proofs.YtmmgiolhfekplaaDoor.Shw
end
section
namespace Go.Proofs.YtmmgiolhfekplaaDoor.Shw
open Go.RowKit Go.Proofs.YtmmgiolhfekplaaDoor Go.Proofs.YtmmgiolhfekplaaDoor.Ext Go.Proofs.YtmmgiolhfekplaaDoor.Obj Go.Proofs.YtmmgiolhfekplaaDoorW.PrintWords Go.Proofs.YtmmgiolhfekplaaDoorW.PrintLast Go.Proofs.YtmmgiolhfekplaaDoorW.PrintMore
set_option linter.unusedVariables false
set_option linter.unusedSimpArgs false
set_option maxRecDepth 100000
attribute [local go_sem high] max2_mx max_two
set_option maxHeartbeats 8000000 in
theorem law_yes (A : Option Addr) (c : Nat) (xs : List Int) (k : Nat) (w : World) (h : 1 ≤ k) (h' : k ≤ 1000) (hx : ∀ x ∈ xs, 0 ≤ x ∧ x ≤ 18446744073709551615) (hl : Kd.C (Kd.int .u64) w A xs.length xs) (hT : TabW w) :
    Calls Tryd.prog 3 #[.slice A xs.length c, .int .i64 k] w fun e w' => e = .returned (.bool true) ∧ Below w.heap.size w w' := by
  have HX := Aside0.mk hx
  have HL := Aside0.mk hl
  have HT := Aside0.mk hT
  obtain ⟨ts, hts⟩ : ∃ ts, digs xs = ts := ⟨_, rfl⟩
  have hdl : ts.length = xs.length := by rw [← hts, digs_len]
  have HTS := Aside0.mk hts
  have HDL := Aside0.mk hdl
  clear hx hl hT hts hdl
  go_enter Tryd.func3, Tryd.ntmps3
  go_wp2_with fail
  refine (awake_calls w).mono ?_
  rintro e w1 ⟨rfl, hb1⟩
  have HB1 := Aside0.mk hb1
  clear hb1
  by_cases hlen : 40 < xs.length
  · go_wp2
    go_ret
    exact ⟨rfl, HB1.out⟩
  · go_wp2_with fail
    refine (table_calls A c xs k w1 HX.out (by omega) (Kd.C_below HL.out HB1.out) (HT.out.below HB1.out)).mono ?_
    rintro e w2 ⟨v, e2, rfl, hR⟩
    obtain ⟨rfl, hS⟩ := hR.yes (by omega)
    rw [HTS.out, Int.toNat_natCast] at hS
    obtain ⟨B, cap, hv⟩ := hS.form
    rw [List.length_map, List.length_range] at hv
    subst hv
    have HS := Aside0.mk hS
    have HB2 := Aside0.mk (below_then HB1.out HB1.out.size hR.be)
    clear hR HB1 hS
    go_wp2
    go_loopw [7, 8] (fun v7 v8 wr => ∃ i : Nat, i ≤ xs.length ∧ v8 = .int .i64 i ∧ v7 = .int .i64 (wd (ts.take i)) ∧ Aside0 (Below w.heap.size w wr) ∧ Aside0 (Below w2.heap.size w2 wr)) (fun _ v8 _ => xs.length - (intOf v8).toNat)
    case atStart => exact ⟨0, by omega, rfl, rfl, HB2, ⟨Below.refl _ _⟩⟩
    case round =>
      obtain ⟨i, hi, rfl, rfl, HB, HC⟩ := hrel
      by_cases hlt : i < xs.length
      · obtain ⟨u, hu, hu2⟩ : ∃ u : Nat, xs.getD i 0 = (u : Int) ∧ u < 18446744073709551616 := by
          have := HX.out (xs.getD i 0) (by rw [List.getD_eq_getElem?_getD, List.getElem?_eq_getElem hlt]; exact List.getElem_mem hlt)
          exact ⟨(xs.getD i 0).toNat, by omega, by omega⟩
        obtain ⟨ad, q, hc⟩ := C_at (Kd.C_below HL.out HB.out) i hlt
        subst q
        rw [hu] at hc
        have hsd : ts.getD i ⟨#[]⟩ = dig u := by
          rw [← HTS.out]
          have : (digs xs)[i]? = some (dig (xs.getD i 0).toNat) := by simp [digs, hlt]
          rw [List.getD_eq_getElem?_getD, this, hu, Int.toNat_natCast]
          rfl
        have hw := wd_snoc ts i (by rw [HDL.out]; exact hlt)
        rw [hsd] at hw
        have hm := mx_nat (wd (ts.take i)) (dig u).size
        rw [← hw] at hm
        clear hw hsd hu
        go_wp2_with fail
        refine (digits_calls u hu2 _).mono ?_
        rintro e w3 ⟨rfl, hb3⟩
        have HB3 := Aside0.mk (below_then HB.out HB.out.size hb3)
        have HC3 := Aside0.mk (below_then HC.out HC.out.size hb3)
        clear hb3 hc
        go_wp2
        go_roundw
        case rel => exact ⟨i + 1, hlt, by go_num, rfl, HB3, HC3⟩
        case measure => simp [intOf]; omega
      · obtain rfl : i = xs.length := by omega
        have htl : ts.take xs.length = ts := List.take_of_length_le (by rw [HDL.out]; exact Nat.le_refl _)
        have hww : wd ts ≤ 20 := by
          rw [← HTS.out]
          exact wd_le _ 20 (fun s hs => by
            obtain ⟨x, hx, rfl⟩ := List.mem_map.1 hs
            have := HX.out x hx
            exact dig_le _ (by omega))
        rw [htl]
        clear htl
        go_wp2_with fail
        refine (width_aux A c xs ts HTS.out _ HX.out (by omega) (Kd.C_below HL.out HB.out) (HT.out.below HB.out)).mono ?_
        rintro e w3 ⟨rfl, hb3⟩
        have HB3 := Aside0.mk (below_then HB.out HB.out.size hb3)
        have HC3 := Aside0.mk (below_then HC.out HC.out.size hb3)
        clear hb3
        have d1 : decide ((k : Int) < 1) = false := decide_eq_false (by omega)
        have d2 : decide ((1000 : Int) < (k : Int)) = false := decide_eq_false (by omega)
        have hsz : ∀ s ∈ ts, s.size ≤ wd ts := wd_ge ts
        have HSZ := Aside0.mk hsz
        have HS3 := Aside0.mk (HS.out.below HC3.out)
        obtain ⟨wide, hwide⟩ : ∃ wide, wd ts = wide := ⟨_, rfl⟩
        rw [hwide] at hww HSZ HS3 ⊢
        clear hsz
        obtain ⟨n, hn⟩ : ∃ n, xs.length = n := ⟨_, rfl⟩
        have HNN := Aside0.mk hn
        clear hn
        obtain ⟨M, hM⟩ : ∃ M, parts xs.length k = M := ⟨_, rfl⟩
        have HM := Aside0.mk hM
        rw [hM] at HS3 ⊢
        clear HS hwide hM
        go_wp2
        go_loopw [9, 10, 11, 12] (fun v9 v10 v11 v12 wr => ∃ i : Nat, i ≤ xs.length ∧ v11 = .int .i64 i ∧ v9 = .int .i64 (cnt xs.length k i) ∧ v10 = .string (lin wide k ts (i / k) (lsz xs.length k i)) ∧ Aside0 (Below w.heap.size w wr) ∧ Aside0 (So wr w1.heap.size (.slice B M cap) ((List.range M).map (line wide k ts)))) (fun _ _ v11 _ _ => xs.length - (intOf v11).toNat)
        case atStart => exact ⟨0, by omega, rfl, by rw [cnt_zero _ _ h]; rfl, by rw [lsz_zero, lin_zero], HB3, HS3⟩
        case round =>
          obtain ⟨i, hi, rfl, rfl, rfl, HB, HS⟩ := hrel
          by_cases hlt : i < xs.length
          · obtain ⟨u, hu, hu2⟩ : ∃ u : Nat, xs.getD i 0 = (u : Int) ∧ u < 18446744073709551616 := by
              have := HX.out (xs.getD i 0) (by rw [List.getD_eq_getElem?_getD, List.getElem?_eq_getElem hlt]; exact List.getElem_mem hlt)
              exact ⟨(xs.getD i 0).toNat, by omega, by omega⟩
            obtain ⟨ad, e1, hc⟩ := C_at (Kd.C_below HL.out HB.out) i hlt
            subst e1
            rw [hu] at hc
            have hsd : ts.getD i ⟨#[]⟩ = dig u := by
              rw [← HTS.out]
              have : (digs xs)[i]? = some (dig (xs.getD i 0).toNat) := by simp [digs, hlt]
              rw [List.getD_eq_getElem?_getD, this, hu, Int.toNat_natCast]
              rfl
            have hds : (dig u).size ≤ wide := by
              rw [← hsd]
              exact HSZ.out _ (by rw [List.getD_eq_getElem?_getD, List.getElem?_eq_getElem (by rw [HDL.out]; exact hlt)]; exact List.getElem_mem _)
            obtain ⟨q, hq⟩ : ∃ q, i / k = q := ⟨_, rfl⟩
            obtain ⟨r, hr⟩ : ∃ r, i % k = r := ⟨_, rfl⟩
            have hrk : r < k := by rw [← hr]; exact Nat.mod_lt _ (by omega)
            have hqr : q * k + r = i := by rw [← hq, ← hr, Nat.mul_comm]; exact Nat.div_add_mod i k
            have hmod : Int.tmod ((i : Nat) : Int) ((k : Nat) : Int) = ((r : Nat) : Int) := by rw [Int.tmod_eq_emod_of_nonneg (by omega), ← hr]; rfl
            have e1 : cnt xs.length k i = q := by unfold cnt; rw [if_neg (by omega), hq]
            have e2 : lsz xs.length k i = r := by unfold lsz; rw [if_neg (by omega), hr]
            rw [e1, e2, hq]
            have HSD := Aside0.mk hsd
            have HQR := Aside0.mk hqr
            have HHQ := Aside0.mk hq
            have HHR := Aside0.mk hr
            have HMOD := Aside0.mk hmod
            have hqM : q < M := by
              have := (parts_lt (n := xs.length) (c := k) (k := q) (by omega)).2 (by omega)
              rw [← HM.out]; exact this
            have hPs := lin_size wide k ts q r hww HSZ.out (by omega)
            obtain ⟨P, hP⟩ : ∃ P, lin wide k ts q r = P := ⟨_, rfl⟩
            have HP := Aside0.mk hP
            rw [hP] at hPs ⊢
            clear hu hsd hq hr hqr hmod e1 e2 hP
            go_wp2_with fail
            refine (digits_calls u hu2 _).mono ?_
            rintro e w4 ⟨rfl, hb4⟩
            have HB4 := Aside0.mk (below_then HB.out HB.out.size hb4)
            have HS4 := Aside0.mk (HS.out.below hb4)
            clear hb4 hc HS HB
            go_wp2
            go_loopw [12] (fun v12 wr => ∃ m : Nat, (dig u).size ≤ m ∧ m ≤ wide ∧ v12 = .string (pad m (dig u)) ∧ wr = w4) (fun v12 _ => match v12 with | .string s => wide - s.size | _ => 0)
            case atStart => exact ⟨(dig u).size, Nat.le_refl _, hds, by rw [pad_self], rfl⟩
            case round =>
              obtain ⟨m, hm1, hm2, rfl, rfl⟩ := hrel
              have hps := pad_size m (dig u) hm1
              by_cases hmw : m < wide
              · have hpn := pad_succ m (dig u) hm1
                have hps2 := pad_size (m + 1) (dig u) (by omega)
                obtain ⟨X, hX⟩ : ∃ X, pad m (dig u) = X := ⟨_, rfl⟩
                rw [hX] at hps hpn ⊢
                have HPN := Aside0.mk hpn
                clear hX hpn
                go_wp2
                go_roundw
                case rel => exact ⟨m + 1, by omega, hmw, by rw [HPN.out], trivial⟩
                case measure => rw [HPN.out]; simp only [hps2, hps]; omega
              · obtain rfl : wide = m := by omega
                obtain ⟨X, hX⟩ : ∃ X, pad wide (dig u) = X := ⟨_, rfl⟩
                have HX2 := Aside0.mk hX
                rw [hX] at hps ⊢
                have HPS := Aside0.mk hps
                have hX20 : X.size ≤ 20 := by omega
                have hXw : ¬ X.size < wide := by omega
                have hqk := HQR.out
                obtain ⟨g, cap', e5, _, _, _, _, hcA⟩ := HS4.out.at_ (by rw [List.length_map, List.length_range]; omega)
                rw [List.length_map, List.length_range] at e5
                cases e5
                have hcL := hcA q (by rw [List.length_map, List.length_range]; omega)
                have hget : ((List.range M).map (line wide k ts)).getD q ⟨#[]⟩ = line wide k ts q := by simp [hqM]
                rw [hget] at hcL
                have HEND : Aside0 (r + 1 = k ∨ i + 1 = xs.length → cnt xs.length k (i + 1) = q + 1 ∧ lsz xs.length k (i + 1) = 0 ∧ lin wide k ts q (r + 1) = line wide k ts q) := ⟨fun hh => by
                  refine ⟨?_, ?_, lin_all _ _ _ _ _ (by rw [HDL.out]; omega)⟩
                  · unfold cnt
                    by_cases h1 : i + 1 = xs.length
                    · rw [if_pos h1]; exact parts_last _ _ q r (by omega) hrk (by omega)
                    · rw [if_neg h1, ← hqk]; exact (div_full k q r (by omega)).1
                  · unfold lsz
                    by_cases h1 : i + 1 = xs.length
                    · rw [if_pos h1]
                    · rw [if_neg h1, ← hqk]; exact (div_full k q r (by omega)).2⟩
                have HGO : Aside0 (¬ (r + 1 = k ∨ i + 1 = xs.length) → cnt xs.length k (i + 1) = q ∧ lsz xs.length k (i + 1) = r + 1 ∧ (i + 1) / k = q) := ⟨fun hh => by
                  have := div_next k q r (by omega)
                  rw [hqk] at this
                  refine ⟨?_, ?_, this.1⟩
                  · unfold cnt; rw [if_neg (by omega)]; exact this.1
                  · unfold lsz; rw [if_neg (by omega)]; exact this.2⟩
                have hmod := HMOD.out
                have HQK := Aside0.mk hqk
                have hqi : q ≤ 40 := by
                  have := Nat.le_mul_of_pos_right q (show 0 < k by omega)
                  omega
                clear hcA hget hX hps hqk
                have HNEW : Aside0 ((0 < r → (P ++ ⟨#[32, 32]⟩) ++ X = lin wide k ts q (r + 1)) ∧ (r = 0 → P = ⟨#[]⟩ ∧ (⟨#[]⟩ : ByteArray) ++ X = lin wide k ts q (r + 1))) := by
                  refine ⟨⟨fun hr0 => ?_, fun hr0 => ?_⟩⟩
                  · rw [lin_succ wide k ts q r hr0 (by rw [HQK.out, HDL.out]; exact hlt), HP.out, HQK.out, HSD.out, HX2.out]
                  · have hz : P = ⟨#[]⟩ := by rw [← HP.out, hr0, lin_zero]
                    refine ⟨hz, ?_⟩
                    have h0 := HQK.out
                    rw [hr0, Nat.zero_add, lin_one wide k ts q (by rw [HDL.out]; omega), show q * k = i by omega, HSD.out, HX2.out]
                    apply ByteArray.ext
                    simp
                by_cases hr0 : 0 < r
                · by_cases ha : r + 1 = k
                  · have hnew := HNEW.out.1 hr0
                    have hb1 : ¬ 9223372036854775807 < P.size + 2 := by omega
                    have hb2 : ¬ 9223372036854775807 < P.size + 2 + X.size := by omega
                    have b1 : ((r : Int) == (k : Int) - 1) = true := by rw [beq_iff_eq]; omega
                    have hend : r + 1 = k ∨ i + 1 = xs.length := .inl ha
                    obtain ⟨e6, e7, e8⟩ := HEND.out hend
                    rw [e8] at hnew
                    have HE6 := Aside0.mk e6
                    have HE7 := Aside0.mk e7
                    obtain ⟨L, hL⟩ : ∃ L, line wide k ts q = L := ⟨_, rfl⟩
                    rw [hL] at hnew hcL
                    clear e6 e7 e8 hL hend
                    go_wp2
                    go_roundw
                    case rel => exact ⟨i + 1, hlt, by go_num, by rw [HE6.out]; rfl, by rw [HE7.out, lin_zero], HB4, HS4⟩
                    case measure => simp [intOf]; omega
                  · by_cases hb : i + 1 = xs.length
                    · have hnew := HNEW.out.1 hr0
                      have hb1 : ¬ 9223372036854775807 < P.size + 2 := by omega
                      have hb2 : ¬ 9223372036854775807 < P.size + 2 + X.size := by omega
                      have b1 : ((r : Int) == (k : Int) - 1) = false := by rw [beq_eq_false_iff_ne]; omega
                      have b2 : ((i : Int) == (xs.length : Int) - 1) = true := by rw [beq_iff_eq]; omega
                      have hend : r + 1 = k ∨ i + 1 = xs.length := .inr hb
                      obtain ⟨e6, e7, e8⟩ := HEND.out hend
                      rw [e8] at hnew
                      have HE6 := Aside0.mk e6
                      have HE7 := Aside0.mk e7
                      obtain ⟨L, hL⟩ : ∃ L, line wide k ts q = L := ⟨_, rfl⟩
                      rw [hL] at hnew hcL
                      clear e6 e7 e8 hL hend
                      go_wp2
                      go_roundw
                      case rel => exact ⟨i + 1, hlt, by go_num, by rw [HE6.out]; rfl, by rw [HE7.out, lin_zero], HB4, HS4⟩
                      case measure => simp [intOf]; omega
                    · have hnew := HNEW.out.1 hr0
                      have hb1 : ¬ 9223372036854775807 < P.size + 2 := by omega
                      have hb2 : ¬ 9223372036854775807 < P.size + 2 + X.size := by omega
                      have b1 : ((r : Int) == (k : Int) - 1) = false := by rw [beq_eq_false_iff_ne]; omega
                      have b2 : ((i : Int) == (xs.length : Int) - 1) = false := by rw [beq_eq_false_iff_ne]; omega
                      have hend : ¬ (r + 1 = k ∨ i + 1 = xs.length) := fun h => h.elim ha hb
                      obtain ⟨e6, e7, e8⟩ := HGO.out hend
                      have HE6 := Aside0.mk e6
                      have HE7 := Aside0.mk e7
                      have HE8 := Aside0.mk e8
                      have HNW := Aside0.mk hnew
                      clear e6 e7 e8 hnew hend
                      go_wp2
                      go_roundw
                      case rel => exact ⟨i + 1, hlt, by go_num, by rw [HE6.out], by rw [HE7.out, HE8.out, HNW.out], HB4, HS4⟩
                      case measure => simp [intOf]; omega
                · by_cases ha : r + 1 = k
                  · obtain ⟨hz, hnew⟩ := HNEW.out.2 (by omega)
                    subst hz
                    have b1 : ((r : Int) == (k : Int) - 1) = true := by rw [beq_iff_eq]; omega
                    have hend : r + 1 = k ∨ i + 1 = xs.length := .inl ha
                    obtain ⟨e6, e7, e8⟩ := HEND.out hend
                    rw [e8] at hnew
                    have HE6 := Aside0.mk e6
                    have HE7 := Aside0.mk e7
                    obtain ⟨L, hL⟩ : ∃ L, line wide k ts q = L := ⟨_, rfl⟩
                    rw [hL] at hnew hcL
                    clear e6 e7 e8 hL hend
                    go_wp2
                    go_roundw
                    case rel => exact ⟨i + 1, hlt, by go_num, by rw [HE6.out]; rfl, by rw [HE7.out, lin_zero], HB4, HS4⟩
                    case measure => simp [intOf]; omega
                  · by_cases hb : i + 1 = xs.length
                    · obtain ⟨hz, hnew⟩ := HNEW.out.2 (by omega)
                      subst hz
                      have b1 : ((r : Int) == (k : Int) - 1) = false := by rw [beq_eq_false_iff_ne]; omega
                      have b2 : ((i : Int) == (xs.length : Int) - 1) = true := by rw [beq_iff_eq]; omega
                      have hend : r + 1 = k ∨ i + 1 = xs.length := .inr hb
                      obtain ⟨e6, e7, e8⟩ := HEND.out hend
                      rw [e8] at hnew
                      have HE6 := Aside0.mk e6
                      have HE7 := Aside0.mk e7
                      obtain ⟨L, hL⟩ : ∃ L, line wide k ts q = L := ⟨_, rfl⟩
                      rw [hL] at hnew hcL
                      clear e6 e7 e8 hL hend
                      go_wp2
                      go_roundw
                      case rel => exact ⟨i + 1, hlt, by go_num, by rw [HE6.out]; rfl, by rw [HE7.out, lin_zero], HB4, HS4⟩
                      case measure => simp [intOf]; omega
                    · obtain ⟨hz, hnew⟩ := HNEW.out.2 (by omega)
                      subst hz
                      have b1 : ((r : Int) == (k : Int) - 1) = false := by rw [beq_eq_false_iff_ne]; omega
                      have b2 : ((i : Int) == (xs.length : Int) - 1) = false := by rw [beq_eq_false_iff_ne]; omega
                      have hend : ¬ (r + 1 = k ∨ i + 1 = xs.length) := fun h => h.elim ha hb
                      obtain ⟨e6, e7, e8⟩ := HGO.out hend
                      have HE6 := Aside0.mk e6
                      have HE7 := Aside0.mk e7
                      have HE8 := Aside0.mk e8
                      have HNW := Aside0.mk hnew
                      clear e6 e7 e8 hnew hend
                      go_wp2
                      go_roundw
                      case rel => exact ⟨i + 1, hlt, by go_num, by rw [HE6.out], by rw [HE7.out, HE8.out, HNW.out], HB4, HS4⟩
                      case measure => simp [intOf]; omega
          · obtain rfl : i = xs.length := by omega
            have hcn : cnt xs.length k xs.length = M := by rw [← HM.out]; unfold cnt; rw [if_pos rfl]
            rw [hcn]
            go_wp2
            go_ret
            exact ⟨rfl, HB.out⟩
end Go.Proofs.YtmmgiolhfekplaaDoor.Shw
end
section
namespace Go.Proofs.YtmmgiolhfekplaaDoor.Shw
open Go.RowKit Go.Proofs.YtmmgiolhfekplaaDoor Go.Proofs.YtmmgiolhfekplaaDoor.Ext Go.Proofs.YtmmgiolhfekplaaDoor.Obj Go.Proofs.YtmmgiolhfekplaaDoorW.PrintWords Go.Proofs.YtmmgiolhfekplaaDoorW.PrintLast Go.Proofs.YtmmgiolhfekplaaDoorW.PrintMore
set_option linter.unusedVariables false
set_option linter.unusedSimpArgs false
set_option maxRecDepth 100000
theorem ShowTablesRow (a0 : Option Addr) (len0 cap0 : Nat) (z0 : List Int) (k : Int) (w : World)
    (w0 : (a0 = none ∧ len0 = 0 ∧ cap0 = 0 ∧ z0 = []) ∨ ∃ x, a0 = some x ∧ len0 ≤ cap0 ∧ cap0 ≤ maxLen ∧ z0.length = cap0 ∧ (∀ i, i < z0.length → w.cell? (x.add i) = some (.int .u64 (z0.getD i 0))) ∧ ∀ n ∈ z0, (Lit.int .u64 n).wf = true) (hT : TabW w) :
    Calls Tryd.prog 3 #[.slice a0 len0 cap0, .int .i64 k] w fun e w' => e = .returned (.bool true) ∧ Below w.heap.size w w' := by
  obtain ⟨l, rfl, hr, hm, hw, hc⟩ := ReadsInt.ofRowC w0
  have hC := Kd.C_of_reads (d := (0 : Int)) (enc := Value.int .u64) (h1 := fun _ => rfl) hr
  have hx : ∀ x ∈ l, 0 ≤ x ∧ x ≤ 18446744073709551615 := fun x hx => by
    have := hw x hx
    exact bounds_u64 this
  by_cases h : k < 1 ∨ 1000 < k
  · exact law_no a0 cap0 l k w h hx hC hT
  · obtain ⟨m, rfl⟩ := Int.eq_ofNat_of_zero_le (show 0 ≤ k by omega)
    exact law_yes a0 cap0 l m w (by omega) (by omega) hx hC hT
theorem tabW_of {W : World} (h : laidMetH Tryd.prog [("math/bits.deBruijn32tab", Rows.laid_math_bits_deBruijn32tab), ("math/bits.deBruijn64tab", Rows.laid_math_bits_deBruijn64tab), ("internal/strconv.uint64pow10", Rows.laid_internal_strconv_uint64pow10)] W) : TabW W := by
  rw [MakeChecks.laidMetH_plain _ _ _ (by kernel_rfl)] at h
  have h1 := Go.laidMet.tail (show laidMet Tryd.prog (_ :: _) W from h)
  have h2 := Go.laidMet.tail (show laidMet Tryd.prog (_ :: _) W from h1)
  exact Lib.tabIs_of_head (g := 0) (t := 78) (e := 29) (n := 20) (by kernel_rfl) (by kernel_rfl) Tryd.underlying78 Tryd.underlying29 (by kernel_rfl) (by kernel_rfl) h2
end Go.Proofs.YtmmgiolhfekplaaDoor.Shw
end
