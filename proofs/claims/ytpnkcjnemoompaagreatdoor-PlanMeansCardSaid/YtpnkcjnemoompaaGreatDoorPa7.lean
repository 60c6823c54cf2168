import Derived.Test.YtpnkcjnemoompaaGreatDoorPa6
import Derived.Test.YtpnkcjnemoompaaGreatDoorProg
import Derived.Below
import Derived.Deep.Draws
import Derived.Deep.AppendLies
import Derived.Maps.AppendAt
import Derived.OwnWalk
import Derived.Laws.BytesArg
import Derived.Laws.MakeOwn
import Derived.Laws.OwnMore
import Derived.Deep.OwnRows
import Derived.Tactics
import Derived.Lib.ConvBytes
import Derived.Laws.Slices
import Derived.WalkKit
import Derived.KernelRfl
import Derived.RowKit3
import Derived.Deep.LoopGhost
import Derived.Deep.QuietTactic
import Derived.BigQuiet
import Derived.WideLaws
import Derived.Deep.DeepCutAuto
import Derived.Deep.CutBlock
import Derived.Deep.RegionHeld3
import Derived.Laws.Rows
import Derived.Lib.AppendStr
import Derived.ArgAppend
import Derived.Laws.IdiomCopy
import Derived.RowKit
import Derived.OrdersHeld
import Derived.Laws.BitsLemmas
import Derived.Laws.CopyOwn
import Derived.Lib.Hide
import Derived.Shelf.Spec.TrailingZeros
import Derived.Lib.LaidTab
import Derived.Shelf.Strings.Builder1
import Derived.Shelf.Strings.Builder2
import Derived.Shelf.Strings.OnBuilder
import Derived.Shelf.Strings.BuilderF
import Derived.Shelf.Strings.BuilderK
import Derived.Shelf.Strings.Builder2Cap
import Derived.Shelf.Strconv.Itoa0
import Derived.Shelf.Strconv.Itoa1
import Derived.Shelf.LaysM
import Derived.Shelf.Strconv.Itoa2
import Derived.Shelf.Strconv.Itoa3
import Derived.Shelf.Bits.Mul64
import Derived.Shelf.Strings.BuilderCap
import Derived.Ground.SlgnProg
import Derived.Shelf.SlicesE.Clone
import Derived.Laws.StructEq
import Derived.Shelf.Spec.BitsCarry
import Derived.Laws.BitsAllLaws
import Derived.OpenShut
import Derived.StillTailTactics
import Derived.Outline
import Derived.RegionTactic
import Derived.ChangeAlike
import Derived.BigRegion
import Derived.Lib.ItoaLen
import Derived.Test.YtpnkcjnemoompaaGreatDoorRows
import Derived.Test.YtpnkcjnemoompaaGreatDoorTie
import Derived.Stop.LaidErr
import Derived.MakeChecks
import Derived.ChangeArms
/-! Texts of this claim, joined: AplC, SameA, PlanA, PlanC, PlanD, PlanE, PlanF, PlanG, PlanH, AplD, PlanTab. -/
section
namespace Go.Proofs.YtpnkcjnemoompaaGreatDoor.Kern
open Go.RowKit Go.Proofs.YtpnkcjnemoompaaGreatDoor Go.Proofs.YtpnkcjnemoompaaGreatDoor.Ext Go.Proofs.YtpnkcjnemoompaaGreatDoor.PPlan Go.Proofs.YtpnkcjnemoompaaGreatDoor.PFft Go.Proofs.YtpnkcjnemoompaaGreatDoor.Pure Go.Proofs.YtpnkcjnemoompaaGreatDoor.Obj Go.Proofs.YtpnkcjnemoompaaGreatDoor.Fft Go.Proofs.YtpnkcjnemoompaaGreatDoorW.PrintWords Go.Proofs.YtpnkcjnemoompaaGreatDoorW.PrintLast Go.Proofs.YtpnkcjnemoompaaGreatDoorW.PrintMore
set_option linter.unusedVariables false
set_option linter.unusedSimpArgs false
set_option maxRecDepth 100000
set_option maxHeartbeats 2000000 in
theorem work_k0 (A : Option Addr) (c : Nat) (l : List Int) (R C d T s K F O : Int) (h : d < 0) (w : World) (hI : In w A c l) (hT : TabOK w) :
    Calls Tryz.prog 24 #[.slice A l.length c, .agg #[.int .i64 R, .int .i64 C, .int .i64 d, .int .i64 T, .int .u64 s, .int .i64 K, .int .i64 F, .int .i64 O]] w fun e w' => e = .returned (.tuple #[.slice none 0 0, .int .i64 18]) ∧ Below w.heap.size w w' := by
  have f1 : decide (d < 0) = true := decide_eq_true (by omega)
  have HB := Aside0.mk (below_alloc (Below.refl w.heap.size w) (Obj.cells #[.int .i64 R, .int .i64 C, .int .i64 d, .int .i64 T, .int .u64 s, .int .i64 K, .int .i64 F, .int .i64 O] 37))
  have HS := Aside0.mk (Bk.new w 37 [.int .i64 R, .int .i64 C, .int .i64 d, .int .i64 T, .int .u64 s, .int .i64 K, .int .i64 F, .int .i64 O])
  have HL := Aside0.mk (hI.below HB.out)
  have HT := Aside0.mk hT
  have u0 := HS.out.cell 0
  have u1 := HS.out.cell 1
  have u2 := HS.out.cell 2
  have u3 := HS.out.cell 3
  have u4 := HS.out.cell 4
  have u5 := HS.out.cell 5
  have u6 := HS.out.cell 6
  have u7 := HS.out.cell 7
  clear hI hT
  go_enter Tryz.func24, Tryz.ntmps24
  go_wp2_with fail
  refine bodyPost_ret (v := .tuple #[.slice none 0 0, .int .i64 18]) (by simp [results, Tryz.results24, go_sem]) rfl ?_
  exact ⟨rfl, HB.out⟩
set_option maxHeartbeats 2000000 in
theorem work_k1 (A : Option Addr) (c : Nat) (l : List Int) (R C d T s K F O : Int) (h0 : ¬ d < 0) (h : d > 1) (w : World) (hI : In w A c l) (hT : TabOK w) :
    Calls Tryz.prog 24 #[.slice A l.length c, .agg #[.int .i64 R, .int .i64 C, .int .i64 d, .int .i64 T, .int .u64 s, .int .i64 K, .int .i64 F, .int .i64 O]] w fun e w' => e = .returned (.tuple #[.slice none 0 0, .int .i64 18]) ∧ Below w.heap.size w w' := by
  have f1 : decide (d < 0) = false := decide_eq_false (by omega)
  have f2 : decide (d > 1) = true := decide_eq_true (by omega)
  have f3 : decide (1 < d) = true := decide_eq_true (by omega)
  have HB := Aside0.mk (below_alloc (Below.refl w.heap.size w) (Obj.cells #[.int .i64 R, .int .i64 C, .int .i64 d, .int .i64 T, .int .u64 s, .int .i64 K, .int .i64 F, .int .i64 O] 37))
  have HS := Aside0.mk (Bk.new w 37 [.int .i64 R, .int .i64 C, .int .i64 d, .int .i64 T, .int .u64 s, .int .i64 K, .int .i64 F, .int .i64 O])
  have HL := Aside0.mk (hI.below HB.out)
  have HT := Aside0.mk hT
  have u0 := HS.out.cell 0
  have u1 := HS.out.cell 1
  have u2 := HS.out.cell 2
  have u3 := HS.out.cell 3
  have u4 := HS.out.cell 4
  have u5 := HS.out.cell 5
  have u6 := HS.out.cell 6
  have u7 := HS.out.cell 7
  clear hI hT
  go_enter Tryz.func24, Tryz.ntmps24
  go_wp2_with fail
  refine bodyPost_ret (v := .tuple #[.slice none 0 0, .int .i64 18]) (by simp [results, Tryz.results24, go_sem]) rfl ?_
  exact ⟨rfl, HB.out⟩
set_option maxHeartbeats 2000000 in
theorem work_r0a (A : Option Addr) (c : Nat) (l : List Int) (R C d T s K F O : Int) (h : T < -1) (w : World) (hI : In w A c l) (hT : TabOK w) :
    Calls Tryz.prog 24 #[.slice A l.length c, .agg #[.int .i64 R, .int .i64 C, .int .i64 0, .int .i64 T, .int .u64 s, .int .i64 K, .int .i64 F, .int .i64 O]] w fun e w' => e = .returned (.tuple #[.slice none 0 0, .int .i64 2]) ∧ Below w.heap.size w w' := by
  have f1 : decide (T < -1) = true := decide_eq_true (by omega)
  have HB := Aside0.mk (below_alloc (Below.refl w.heap.size w) (Obj.cells #[.int .i64 R, .int .i64 C, .int .i64 0, .int .i64 T, .int .u64 s, .int .i64 K, .int .i64 F, .int .i64 O] 37))
  have HS := Aside0.mk (Bk.new w 37 [.int .i64 R, .int .i64 C, .int .i64 0, .int .i64 T, .int .u64 s, .int .i64 K, .int .i64 F, .int .i64 O])
  have HL := Aside0.mk (hI.below HB.out)
  have HT := Aside0.mk hT
  have u0 := HS.out.cell 0
  have u1 := HS.out.cell 1
  have u2 := HS.out.cell 2
  have u3 := HS.out.cell 3
  have u4 := HS.out.cell 4
  have u5 := HS.out.cell 5
  have u6 := HS.out.cell 6
  have u7 := HS.out.cell 7
  clear hI hT
  go_enter Tryz.func24, Tryz.ntmps24
  go_wp2_with fail
  refine bodyPost_ret (v := .tuple #[.slice none 0 0, .int .i64 2]) (by simp [results, Tryz.results24, go_sem]) rfl ?_
  exact ⟨rfl, HB.out⟩
set_option maxHeartbeats 2000000 in
theorem work_r0b (A : Option Addr) (c : Nat) (l : List Int) (R C d T s K F O : Int) (h0 : ¬ T < -1) (h : T > 32) (w : World) (hI : In w A c l) (hT : TabOK w) :
    Calls Tryz.prog 24 #[.slice A l.length c, .agg #[.int .i64 R, .int .i64 C, .int .i64 0, .int .i64 T, .int .u64 s, .int .i64 K, .int .i64 F, .int .i64 O]] w fun e w' => e = .returned (.tuple #[.slice none 0 0, .int .i64 2]) ∧ Below w.heap.size w w' := by
  have f1 : decide (T < -1) = false := decide_eq_false (by omega)
  have f2 : decide (T > 32) = true := decide_eq_true (by omega)
  have f3 : decide (32 < T) = true := decide_eq_true (by omega)
  have HB := Aside0.mk (below_alloc (Below.refl w.heap.size w) (Obj.cells #[.int .i64 R, .int .i64 C, .int .i64 0, .int .i64 T, .int .u64 s, .int .i64 K, .int .i64 F, .int .i64 O] 37))
  have HS := Aside0.mk (Bk.new w 37 [.int .i64 R, .int .i64 C, .int .i64 0, .int .i64 T, .int .u64 s, .int .i64 K, .int .i64 F, .int .i64 O])
  have HL := Aside0.mk (hI.below HB.out)
  have HT := Aside0.mk hT
  have u0 := HS.out.cell 0
  have u1 := HS.out.cell 1
  have u2 := HS.out.cell 2
  have u3 := HS.out.cell 3
  have u4 := HS.out.cell 4
  have u5 := HS.out.cell 5
  have u6 := HS.out.cell 6
  have u7 := HS.out.cell 7
  clear hI hT
  go_enter Tryz.func24, Tryz.ntmps24
  go_wp2_with fail
  refine bodyPost_ret (v := .tuple #[.slice none 0 0, .int .i64 2]) (by simp [results, Tryz.results24, go_sem]) rfl ?_
  exact ⟨rfl, HB.out⟩
set_option maxHeartbeats 2000000 in
theorem work_r1a (A : Option Addr) (c : Nat) (l : List Int) (R C d T s K F O : Int) (h : T < -1) (w : World) (hI : In w A c l) (hT : TabOK w) :
    Calls Tryz.prog 24 #[.slice A l.length c, .agg #[.int .i64 R, .int .i64 C, .int .i64 1, .int .i64 T, .int .u64 s, .int .i64 K, .int .i64 F, .int .i64 O]] w fun e w' => e = .returned (.tuple #[.slice none 0 0, .int .i64 2]) ∧ Below w.heap.size w w' := by
  have f1 : decide (T < -1) = true := decide_eq_true (by omega)
  have HB := Aside0.mk (below_alloc (Below.refl w.heap.size w) (Obj.cells #[.int .i64 R, .int .i64 C, .int .i64 1, .int .i64 T, .int .u64 s, .int .i64 K, .int .i64 F, .int .i64 O] 37))
  have HS := Aside0.mk (Bk.new w 37 [.int .i64 R, .int .i64 C, .int .i64 1, .int .i64 T, .int .u64 s, .int .i64 K, .int .i64 F, .int .i64 O])
  have HL := Aside0.mk (hI.below HB.out)
  have HT := Aside0.mk hT
  have u0 := HS.out.cell 0
  have u1 := HS.out.cell 1
  have u2 := HS.out.cell 2
  have u3 := HS.out.cell 3
  have u4 := HS.out.cell 4
  have u5 := HS.out.cell 5
  have u6 := HS.out.cell 6
  have u7 := HS.out.cell 7
  clear hI hT
  go_enter Tryz.func24, Tryz.ntmps24
  go_wp2_with fail
  refine bodyPost_ret (v := .tuple #[.slice none 0 0, .int .i64 2]) (by simp [results, Tryz.results24, go_sem]) rfl ?_
  exact ⟨rfl, HB.out⟩
set_option maxHeartbeats 2000000 in
theorem work_r1b (A : Option Addr) (c : Nat) (l : List Int) (R C d T s K F O : Int) (h0 : ¬ T < -1) (h : T > 32) (w : World) (hI : In w A c l) (hT : TabOK w) :
    Calls Tryz.prog 24 #[.slice A l.length c, .agg #[.int .i64 R, .int .i64 C, .int .i64 1, .int .i64 T, .int .u64 s, .int .i64 K, .int .i64 F, .int .i64 O]] w fun e w' => e = .returned (.tuple #[.slice none 0 0, .int .i64 2]) ∧ Below w.heap.size w w' := by
  have f1 : decide (T < -1) = false := decide_eq_false (by omega)
  have f2 : decide (T > 32) = true := decide_eq_true (by omega)
  have f3 : decide (32 < T) = true := decide_eq_true (by omega)
  have HB := Aside0.mk (below_alloc (Below.refl w.heap.size w) (Obj.cells #[.int .i64 R, .int .i64 C, .int .i64 1, .int .i64 T, .int .u64 s, .int .i64 K, .int .i64 F, .int .i64 O] 37))
  have HS := Aside0.mk (Bk.new w 37 [.int .i64 R, .int .i64 C, .int .i64 1, .int .i64 T, .int .u64 s, .int .i64 K, .int .i64 F, .int .i64 O])
  have HL := Aside0.mk (hI.below HB.out)
  have HT := Aside0.mk hT
  have u0 := HS.out.cell 0
  have u1 := HS.out.cell 1
  have u2 := HS.out.cell 2
  have u3 := HS.out.cell 3
  have u4 := HS.out.cell 4
  have u5 := HS.out.cell 5
  have u6 := HS.out.cell 6
  have u7 := HS.out.cell 7
  clear hI hT
  go_enter Tryz.func24, Tryz.ntmps24
  go_wp2_with fail
  refine bodyPost_ret (v := .tuple #[.slice none 0 0, .int .i64 2]) (by simp [results, Tryz.results24, go_sem]) rfl ?_
  exact ⟨rfl, HB.out⟩
theorem in_nil (w : World) : In w none 0 [] := ⟨⟨rfl, by decide, fun h => absurd h (by decide)⟩, Nat.le_refl _⟩
theorem work_refuses (A : Option Addr) (c : Nat) (l : List Int) (R C d T s K F O : Int) (n : Int) (h : (¬ (d = 0 ∨ d = 1) ∧ n = 18) ∨ ((d = 0 ∨ d = 1) ∧ (T < -1 ∨ T > 32) ∧ n = 2)) (w : World) (hI : In w A c l) (hT : TabOK w) :
    Calls Tryz.prog 24 #[.slice A l.length c, .agg #[.int .i64 R, .int .i64 C, .int .i64 d, .int .i64 T, .int .u64 s, .int .i64 K, .int .i64 F, .int .i64 O]] w fun e w' => e = .returned (.tuple #[.slice none 0 0, .int .i64 n]) ∧ Below w.heap.size w w' := by
  rcases h with ⟨h, rfl⟩ | ⟨hd, h, rfl⟩
  · by_cases h1 : d < 0
    · exact work_k0 A c l R C d T s K F O h1 w hI hT
    · exact work_k1 A c l R C d T s K F O h1 (by omega) w hI hT
  · by_cases h1 : T < -1
    · rcases hd with rfl | rfl
      · exact work_r0a A c l R C 0 T s K F O h1 w hI hT
      · exact work_r1a A c l R C 1 T s K F O h1 w hI hT
    · rcases hd with rfl | rfl
      · exact work_r0b A c l R C 0 T s K F O h1 (by omega) w hI hT
      · exact work_r1b A c l R C 1 T s K F O h1 (by omega) w hI hT
theorem work_yes (R C a b : Nat) (A : Option Addr) (c : Nat) (l : List Int) (d T s K F O : Int) (hd : d = 0 ∨ d = 1) (hT1 : -1 ≤ T) (hT2 : T ≤ 32) (hs : W64 s) (ha : R = 2 ^ a) (hb : C = 2 ^ b) (hab : a + b ≤ 20) (hl : R * C = l.length) (hW : Ws l) (w : World) (hI : In w A c l) (hT : TabOK w) :
    Calls Tryz.prog 24 #[.slice A l.length c, .agg #[.int .i64 (R : Int), .int .i64 (C : Int), .int .i64 d, .int .i64 T, .int .u64 s, .int .i64 K, .int .i64 F, .int .i64 O]] w fun e w' => ∃ g c', e = .returned (.tuple #[.slice (some ⟨g, 0, none⟩) l.length c', .int .i64 0]) ∧ Mr w' g c' (tb l.length (pv l C b d T s)) ∧ Below w.heap.size w w' := by
  rw [← wres_is l R C b hb hl]
  by_cases h : 0 ≤ T
  · rcases hd with rfl | rfl
    · exact work_0t R C a b A c l T s K F O h hT2 hs ha hb hab hl hW w hI hT
    · exact work_1t R C a b A c l T s K F O h hT2 hs ha hb hab hl hW w hI hT
  · rcases hd with rfl | rfl
    · exact work_0f R C a b A c l T s K F O (by omega) hs ha hb hab hl hW w hI hT
    · exact work_1f R C a b A c l T s K F O (by omega) hs ha hb hab hl hW w hI hT
set_option maxHeartbeats 2000000 in
theorem apply_bad (A : Option Addr) (c : Nat) (l : List Int) (R C d T s K F O : Int) (h : ¬ GoodS R C) (w : World) (hI : In w A c l) (hT : TabOK w) :
    Calls Tryz.prog 9 #[.slice A l.length c, .agg #[.int .i64 R, .int .i64 C, .int .i64 d, .int .i64 T, .int .u64 s, .int .i64 K, .int .i64 F, .int .i64 O]] w fun e w' => e = .returned (.tuple #[.slice none 0 0, .int .i64 19]) ∧ Below w.heap.size w w' := by
  have hg := good_no R C h
  have HB := Aside0.mk (below_alloc (Below.refl w.heap.size w) (Obj.cells #[.int .i64 R, .int .i64 C, .int .i64 d, .int .i64 T, .int .u64 s, .int .i64 K, .int .i64 F, .int .i64 O] 37))
  have HS := Aside0.mk (Bk.new w 37 [.int .i64 R, .int .i64 C, .int .i64 d, .int .i64 T, .int .u64 s, .int .i64 K, .int .i64 F, .int .i64 O])
  have HL := Aside0.mk (hI.below HB.out)
  have HT := Aside0.mk hT
  have u0 := HS.out.cell 0
  have u1 := HS.out.cell 1
  have u2 := HS.out.cell 2
  have u3 := HS.out.cell 3
  have u4 := HS.out.cell 4
  have u5 := HS.out.cell 5
  have u6 := HS.out.cell 6
  have u7 := HS.out.cell 7
  clear hI hT
  go_enter Tryz.func9, Tryz.ntmps9
  go_wp2_with fail
  clear u0 u1 u2 u3 u4 u5 u6 u7
  with_reducible refine (shape_Good.calls R C false _ hg (HT.out.below HB.out)).mono ?_
  rintro e w1 ⟨rfl, hb⟩
  have HB1 := Aside0.mk (below_then HB.out HB.out.size hb)
  have HS1 := Aside0.mk (HS.out.below hb)
  have HL1 := Aside0.mk (HL.out.below hb)
  clear hb HB HS HL
  have u0 := HS1.out.cell 0
  have u1 := HS1.out.cell 1
  have u2 := HS1.out.cell 2
  have u3 := HS1.out.cell 3
  have u4 := HS1.out.cell 4
  have u5 := HS1.out.cell 5
  have u6 := HS1.out.cell 6
  have u7 := HS1.out.cell 7
  go_wp2_with fail
  refine bodyPost_ret (v := .tuple #[.slice none 0 0, .int .i64 19]) (by simp [results, Tryz.results9, go_sem]) rfl ?_
  exact ⟨rfl, HB1.out⟩
set_option maxHeartbeats 2000000 in
theorem apply_size (A : Option Addr) (c : Nat) (l : List Int) (R C d T s K F O : Int) (h : GoodS R C) (z : Int) (hz : shape_Size.f R C = some z) (hne : ((l.length : Int) != z) = true) (w : World) (hI : In w A c l) (hT : TabOK w) :
    Calls Tryz.prog 9 #[.slice A l.length c, .agg #[.int .i64 R, .int .i64 C, .int .i64 d, .int .i64 T, .int .u64 s, .int .i64 K, .int .i64 F, .int .i64 O]] w fun e w' => e = .returned (.tuple #[.slice none 0 0, .int .i64 19]) ∧ Below w.heap.size w w' := by
  have hg := good_yes R C h
  have HB := Aside0.mk (below_alloc (Below.refl w.heap.size w) (Obj.cells #[.int .i64 R, .int .i64 C, .int .i64 d, .int .i64 T, .int .u64 s, .int .i64 K, .int .i64 F, .int .i64 O] 37))
  have HS := Aside0.mk (Bk.new w 37 [.int .i64 R, .int .i64 C, .int .i64 d, .int .i64 T, .int .u64 s, .int .i64 K, .int .i64 F, .int .i64 O])
  have HL := Aside0.mk (hI.below HB.out)
  have HT := Aside0.mk hT
  have u0 := HS.out.cell 0
  have u1 := HS.out.cell 1
  have u2 := HS.out.cell 2
  have u3 := HS.out.cell 3
  have u4 := HS.out.cell 4
  have u5 := HS.out.cell 5
  have u6 := HS.out.cell 6
  have u7 := HS.out.cell 7
  clear hI hT
  go_enter Tryz.func9, Tryz.ntmps9
  go_wp2_with fail
  clear u0 u1 u2 u3 u4 u5 u6 u7
  with_reducible refine (shape_Good.calls R C true _ hg (HT.out.below HB.out)).mono ?_
  rintro e w1 ⟨rfl, hb⟩
  have HB1 := Aside0.mk (below_then HB.out HB.out.size hb)
  have HS1 := Aside0.mk (HS.out.below hb)
  have HL1 := Aside0.mk (HL.out.below hb)
  clear hb HB HS HL
  have u0 := HS1.out.cell 0
  have u1 := HS1.out.cell 1
  have u2 := HS1.out.cell 2
  have u3 := HS1.out.cell 3
  have u4 := HS1.out.cell 4
  have u5 := HS1.out.cell 5
  have u6 := HS1.out.cell 6
  have u7 := HS1.out.cell 7
  go_wp2_with fail
  clear u0 u1 u2 u3 u4 u5 u6 u7
  with_reducible refine (shape_Size.calls R C z _ hz (HT.out.below HB1.out)).mono ?_
  rintro e w2 ⟨rfl, hb⟩
  have HB2 := Aside0.mk (below_then HB1.out HB1.out.size hb)
  have HS2 := Aside0.mk (HS1.out.below hb)
  have HL2 := Aside0.mk (HL1.out.below hb)
  clear hb HB1 HS1 HL1
  have u0 := HS2.out.cell 0
  have u1 := HS2.out.cell 1
  have u2 := HS2.out.cell 2
  have u3 := HS2.out.cell 3
  have u4 := HS2.out.cell 4
  have u5 := HS2.out.cell 5
  have u6 := HS2.out.cell 6
  have u7 := HS2.out.cell 7
  go_wp2_with fail
  refine bodyPost_ret (v := .tuple #[.slice none 0 0, .int .i64 19]) (by simp [results, Tryz.results9, go_sem]) rfl ?_
  exact ⟨rfl, HB2.out⟩
set_option maxHeartbeats 2000000 in
theorem apply_turn (A : Option Addr) (c : Nat) (l : List Int) (R C : Nat) (d T s K F O : Int) (hG : GoodS R C) (hl : R * C = l.length) (hL : l.length ≤ 1048576) (hC : C ≤ 1048576) (w : World) (hI : In w A c l) (hT : TabOK w) :
    Calls Tryz.prog 9 #[.slice A l.length c, .agg #[.int .i64 (R : Int), .int .i64 (C : Int), .int .i64 d, .int .i64 T, .int .u64 s, .int .i64 1, .int .i64 F, .int .i64 O]] w fun e w' => ∃ A' c', e = .returned (.tuple #[.slice A' l.length c', .int .i64 0]) ∧ In w' A' c' (tl (C * R) (tps l R C)) ∧ Below w.heap.size w w' := by
  have hg := good_yes (R : Int) (C : Int) hG
  have hz : shape_Size.f (R : Int) (C : Int) = some (l.length : Int) := by rw [size_is _ _ hG, ← Int.natCast_mul, hl]
  obtain ⟨k, hk⟩ := (gTpose l R C hG hC hl hL).rounds
  have HK := Aside0.mk hk
  clear hk
  have HB := Aside0.mk (below_alloc (Below.refl w.heap.size w) (Obj.cells #[.int .i64 (R : Int), .int .i64 (C : Int), .int .i64 d, .int .i64 T, .int .u64 s, .int .i64 1, .int .i64 F, .int .i64 O] 37))
  have HS := Aside0.mk (Bk.new w 37 [.int .i64 (R : Int), .int .i64 (C : Int), .int .i64 d, .int .i64 T, .int .u64 s, .int .i64 1, .int .i64 F, .int .i64 O])
  have HL := Aside0.mk (hI.below HB.out)
  have HT := Aside0.mk hT
  have u0 := HS.out.cell 0
  have u1 := HS.out.cell 1
  have u2 := HS.out.cell 2
  have u3 := HS.out.cell 3
  have u4 := HS.out.cell 4
  have u5 := HS.out.cell 5
  have u6 := HS.out.cell 6
  have u7 := HS.out.cell 7
  clear hI hT
  go_enter Tryz.func9, Tryz.ntmps9
  go_wp2_with fail
  clear u0 u1 u2 u3 u4 u5 u6 u7
  with_reducible refine (shape_Good.calls (R : Int) (C : Int) true _ hg (HT.out.below HB.out)).mono ?_
  rintro e w1 ⟨rfl, hb⟩
  have HB1 := Aside0.mk (below_then HB.out HB.out.size hb)
  have HS1 := Aside0.mk (HS.out.below hb)
  have HL1 := Aside0.mk (HL.out.below hb)
  clear hb HB HS HL
  have u0 := HS1.out.cell 0
  have u1 := HS1.out.cell 1
  have u2 := HS1.out.cell 2
  have u3 := HS1.out.cell 3
  have u4 := HS1.out.cell 4
  have u5 := HS1.out.cell 5
  have u6 := HS1.out.cell 6
  have u7 := HS1.out.cell 7
  go_wp2_with fail
  clear u0 u1 u2 u3 u4 u5 u6 u7
  with_reducible refine (shape_Size.calls (R : Int) (C : Int) (l.length : Int) _ hz (HT.out.below HB1.out)).mono ?_
  rintro e w2 ⟨rfl, hb⟩
  have HB2 := Aside0.mk (below_then HB1.out HB1.out.size hb)
  have HS2 := Aside0.mk (HS1.out.below hb)
  have HL2 := Aside0.mk (HL1.out.below hb)
  clear hb HB1 HS1 HL1
  have u0 := HS2.out.cell 0
  have u1 := HS2.out.cell 1
  have u2 := HS2.out.cell 2
  have u3 := HS2.out.cell 3
  have u4 := HS2.out.cell 4
  have u5 := HS2.out.cell 5
  have u6 := HS2.out.cell 6
  have u7 := HS2.out.cell 7
  go_wp2_with fail
  clear u0 u1 u2 u3 u4 u5 u6 u7
  with_reducible refine (shape_Transpose.calls k A c l (R : Int) (C : Int) (tl (C * R) (tps l R C)) 0 _ HL2.out.r HL2.out.c HK.out (HT.out.below HB2.out)).mono ?_
  rintro e w3 ⟨v, rfl, hr, hb⟩
  obtain ⟨A3, c3, hv, hl3, hc3⟩ := Kd.R_reads hr
  subst hv
  have hn : (tl (C * R) (tps l R C)).length = l.length := by rw [tl_len, Nat.mul_comm, hl]
  have HB3 := Aside0.mk (below_then HB2.out HB2.out.size hb)
  have HI3 := Aside0.mk (In.mk hc3 hl3)
  clear hr hb hl3 hc3 HB2 HS2 HL2
  rw [hn]
  go_wp2_with fail
  refine bodyPost_ret (v := .tuple #[.slice A3 l.length c3, .int .i64 0]) (by simp [results, Tryz.results9, go_sem]) rfl ?_
  exact ⟨A3, c3, rfl, HI3.out, HB3.out⟩
set_option maxHeartbeats 2000000 in
theorem apply_kind (A : Option Addr) (c : Nat) (l : List Int) (R C : Nat) (d T s K F O : Int) (hG : GoodS R C) (hl : R * C = l.length) (hL : l.length ≤ 1048576) (hk1 : (K == 1) = false) (hk2 : (K == 2) = false) (w : World) (hI : In w A c l) (hT : TabOK w) :
    Calls Tryz.prog 9 #[.slice A l.length c, .agg #[.int .i64 (R : Int), .int .i64 (C : Int), .int .i64 d, .int .i64 T, .int .u64 s, .int .i64 K, .int .i64 F, .int .i64 O]] w fun e w' => e = .returned (.tuple #[.slice none 0 0, .int .i64 18]) ∧ Below w.heap.size w w' := by
  have hg := good_yes (R : Int) (C : Int) hG
  have hz : shape_Size.f (R : Int) (C : Int) = some (l.length : Int) := by rw [size_is _ _ hG, ← Int.natCast_mul, hl]
  have HB := Aside0.mk (below_alloc (Below.refl w.heap.size w) (Obj.cells #[.int .i64 (R : Int), .int .i64 (C : Int), .int .i64 d, .int .i64 T, .int .u64 s, .int .i64 K, .int .i64 F, .int .i64 O] 37))
  have HS := Aside0.mk (Bk.new w 37 [.int .i64 (R : Int), .int .i64 (C : Int), .int .i64 d, .int .i64 T, .int .u64 s, .int .i64 K, .int .i64 F, .int .i64 O])
  have HL := Aside0.mk (hI.below HB.out)
  have HT := Aside0.mk hT
  have u0 := HS.out.cell 0
  have u1 := HS.out.cell 1
  have u2 := HS.out.cell 2
  have u3 := HS.out.cell 3
  have u4 := HS.out.cell 4
  have u5 := HS.out.cell 5
  have u6 := HS.out.cell 6
  have u7 := HS.out.cell 7
  clear hI hT
  go_enter Tryz.func9, Tryz.ntmps9
  go_wp2_with fail
  clear u0 u1 u2 u3 u4 u5 u6 u7
  with_reducible refine (shape_Good.calls (R : Int) (C : Int) true _ hg (HT.out.below HB.out)).mono ?_
  rintro e w1 ⟨rfl, hb⟩
  have HB1 := Aside0.mk (below_then HB.out HB.out.size hb)
  have HS1 := Aside0.mk (HS.out.below hb)
  have HL1 := Aside0.mk (HL.out.below hb)
  clear hb HB HS HL
  have u0 := HS1.out.cell 0
  have u1 := HS1.out.cell 1
  have u2 := HS1.out.cell 2
  have u3 := HS1.out.cell 3
  have u4 := HS1.out.cell 4
  have u5 := HS1.out.cell 5
  have u6 := HS1.out.cell 6
  have u7 := HS1.out.cell 7
  go_wp2_with fail
  clear u0 u1 u2 u3 u4 u5 u6 u7
  with_reducible refine (shape_Size.calls (R : Int) (C : Int) (l.length : Int) _ hz (HT.out.below HB1.out)).mono ?_
  rintro e w2 ⟨rfl, hb⟩
  have HB2 := Aside0.mk (below_then HB1.out HB1.out.size hb)
  have HS2 := Aside0.mk (HS1.out.below hb)
  have HL2 := Aside0.mk (HL1.out.below hb)
  clear hb HB1 HS1 HL1
  have u0 := HS2.out.cell 0
  have u1 := HS2.out.cell 1
  have u2 := HS2.out.cell 2
  have u3 := HS2.out.cell 3
  have u4 := HS2.out.cell 4
  have u5 := HS2.out.cell 5
  have u6 := HS2.out.cell 6
  have u7 := HS2.out.cell 7
  go_wp2_with fail
  refine bodyPost_ret (v := .tuple #[.slice none 0 0, .int .i64 18]) (by simp [results, Tryz.results9, go_sem]) rfl ?_
  exact ⟨rfl, HB2.out⟩
set_option maxHeartbeats 2000000 in
theorem apply_refuses (A : Option Addr) (c : Nat) (l : List Int) (R C : Nat) (d T s K F O : Int) (hG : GoodS R C) (hl : R * C = l.length) (hL : l.length ≤ 1048576) (n : Int) (h : (¬ (d = 0 ∨ d = 1) ∧ n = 18) ∨ ((d = 0 ∨ d = 1) ∧ (T < -1 ∨ T > 32) ∧ n = 2)) (w : World) (hI : In w A c l) (hT : TabOK w) :
    Calls Tryz.prog 9 #[.slice A l.length c, .agg #[.int .i64 (R : Int), .int .i64 (C : Int), .int .i64 d, .int .i64 T, .int .u64 s, .int .i64 2, .int .i64 F, .int .i64 O]] w fun e w' => e = .returned (.tuple #[.slice none 0 0, .int .i64 n]) ∧ Below w.heap.size w w' := by
  have hg := good_yes (R : Int) (C : Int) hG
  have hz : shape_Size.f (R : Int) (C : Int) = some (l.length : Int) := by rw [size_is _ _ hG, ← Int.natCast_mul, hl]
  have HH := Aside0.mk h
  clear h
  have HB := Aside0.mk (below_alloc (Below.refl w.heap.size w) (Obj.cells #[.int .i64 (R : Int), .int .i64 (C : Int), .int .i64 d, .int .i64 T, .int .u64 s, .int .i64 2, .int .i64 F, .int .i64 O] 37))
  have HS := Aside0.mk (Bk.new w 37 [.int .i64 (R : Int), .int .i64 (C : Int), .int .i64 d, .int .i64 T, .int .u64 s, .int .i64 2, .int .i64 F, .int .i64 O])
  have HL := Aside0.mk (hI.below HB.out)
  have HT := Aside0.mk hT
  have u0 := HS.out.cell 0
  have u1 := HS.out.cell 1
  have u2 := HS.out.cell 2
  have u3 := HS.out.cell 3
  have u4 := HS.out.cell 4
  have u5 := HS.out.cell 5
  have u6 := HS.out.cell 6
  have u7 := HS.out.cell 7
  clear hI hT
  go_enter Tryz.func9, Tryz.ntmps9
  go_wp2_with fail
  clear u0 u1 u2 u3 u4 u5 u6 u7
  with_reducible refine (shape_Good.calls (R : Int) (C : Int) true _ hg (HT.out.below HB.out)).mono ?_
  rintro e w1 ⟨rfl, hb⟩
  have HB1 := Aside0.mk (below_then HB.out HB.out.size hb)
  have HS1 := Aside0.mk (HS.out.below hb)
  have HL1 := Aside0.mk (HL.out.below hb)
  clear hb HB HS HL
  have u0 := HS1.out.cell 0
  have u1 := HS1.out.cell 1
  have u2 := HS1.out.cell 2
  have u3 := HS1.out.cell 3
  have u4 := HS1.out.cell 4
  have u5 := HS1.out.cell 5
  have u6 := HS1.out.cell 6
  have u7 := HS1.out.cell 7
  go_wp2_with fail
  clear u0 u1 u2 u3 u4 u5 u6 u7
  with_reducible refine (shape_Size.calls (R : Int) (C : Int) (l.length : Int) _ hz (HT.out.below HB1.out)).mono ?_
  rintro e w2 ⟨rfl, hb⟩
  have HB2 := Aside0.mk (below_then HB1.out HB1.out.size hb)
  have HS2 := Aside0.mk (HS1.out.below hb)
  have HL2 := Aside0.mk (HL1.out.below hb)
  clear hb HB1 HS1 HL1
  have u0 := HS2.out.cell 0
  have u1 := HS2.out.cell 1
  have u2 := HS2.out.cell 2
  have u3 := HS2.out.cell 3
  have u4 := HS2.out.cell 4
  have u5 := HS2.out.cell 5
  have u6 := HS2.out.cell 6
  have u7 := HS2.out.cell 7
  go_wp2_with fail
  clear u0 u1 u2 u3 u4 u5 u6 u7
  with_reducible refine (work_refuses A c l (R : Int) (C : Int) d T s 2 F O n HH.out _ HL2.out (HT.out.below HB2.out)).mono ?_
  rintro e w3 ⟨rfl, hb⟩
  have HB3 := Aside0.mk (below_then HB2.out HB2.out.size hb)
  clear hb HB2 HS2 HL2
  go_wp2_with fail
  refine bodyPost_ret (v := .tuple #[.slice none 0 0, .int .i64 n]) (by simp [results, Tryz.results9, go_sem]) rfl ?_
  exact ⟨rfl, HB3.out⟩
set_option maxHeartbeats 2000000 in
theorem apply_rows (A : Option Addr) (c : Nat) (l : List Int) (R C : Nat) (d T s K F O : Int) (hG : GoodS R C) (hl : R * C = l.length) (hL : l.length ≤ 1048576) (a b : Nat) (ha : R = 2 ^ a) (hb : C = 2 ^ b) (hab : a + b ≤ 20) (hd : d = 0 ∨ d = 1) (hT1 : -1 ≤ T) (hT2 : T ≤ 32) (hs : W64 s) (hW : Ws l) (w : World) (hI : In w A c l) (hT : TabOK w) :
    Calls Tryz.prog 9 #[.slice A l.length c, .agg #[.int .i64 (R : Int), .int .i64 (C : Int), .int .i64 d, .int .i64 T, .int .u64 s, .int .i64 2, .int .i64 F, .int .i64 O]] w fun e w' => ∃ A' c', e = .returned (.tuple #[.slice A' l.length c', .int .i64 0]) ∧ In w' A' c' (tb l.length (pv l C b d T s)) ∧ Below w.heap.size w w' := by
  have hg := good_yes (R : Int) (C : Int) hG
  have hz : shape_Size.f (R : Int) (C : Int) = some (l.length : Int) := by rw [size_is _ _ hG, ← Int.natCast_mul, hl]
  have HA := Aside0.mk ha
  have HBb := Aside0.mk hb
  have HD := Aside0.mk hd
  have H1 := Aside0.mk hT1
  have H2 := Aside0.mk hT2
  have HSs := Aside0.mk hs
  have HW := Aside0.mk hW
  clear ha hb hd hT1 hT2 hs hW
  have HB := Aside0.mk (below_alloc (Below.refl w.heap.size w) (Obj.cells #[.int .i64 (R : Int), .int .i64 (C : Int), .int .i64 d, .int .i64 T, .int .u64 s, .int .i64 2, .int .i64 F, .int .i64 O] 37))
  have HS := Aside0.mk (Bk.new w 37 [.int .i64 (R : Int), .int .i64 (C : Int), .int .i64 d, .int .i64 T, .int .u64 s, .int .i64 2, .int .i64 F, .int .i64 O])
  have HL := Aside0.mk (hI.below HB.out)
  have HT := Aside0.mk hT
  have u0 := HS.out.cell 0
  have u1 := HS.out.cell 1
  have u2 := HS.out.cell 2
  have u3 := HS.out.cell 3
  have u4 := HS.out.cell 4
  have u5 := HS.out.cell 5
  have u6 := HS.out.cell 6
  have u7 := HS.out.cell 7
  clear hI hT
  go_enter Tryz.func9, Tryz.ntmps9
  go_wp2_with fail
  clear u0 u1 u2 u3 u4 u5 u6 u7
  with_reducible refine (shape_Good.calls (R : Int) (C : Int) true _ hg (HT.out.below HB.out)).mono ?_
  rintro e w1 ⟨rfl, hb⟩
  have HB1 := Aside0.mk (below_then HB.out HB.out.size hb)
  have HS1 := Aside0.mk (HS.out.below hb)
  have HL1 := Aside0.mk (HL.out.below hb)
  clear hb HB HS HL
  have u0 := HS1.out.cell 0
  have u1 := HS1.out.cell 1
  have u2 := HS1.out.cell 2
  have u3 := HS1.out.cell 3
  have u4 := HS1.out.cell 4
  have u5 := HS1.out.cell 5
  have u6 := HS1.out.cell 6
  have u7 := HS1.out.cell 7
  go_wp2_with fail
  clear u0 u1 u2 u3 u4 u5 u6 u7
  with_reducible refine (shape_Size.calls (R : Int) (C : Int) (l.length : Int) _ hz (HT.out.below HB1.out)).mono ?_
  rintro e w2 ⟨rfl, hb⟩
  have HB2 := Aside0.mk (below_then HB1.out HB1.out.size hb)
  have HS2 := Aside0.mk (HS1.out.below hb)
  have HL2 := Aside0.mk (HL1.out.below hb)
  clear hb HB1 HS1 HL1
  have u0 := HS2.out.cell 0
  have u1 := HS2.out.cell 1
  have u2 := HS2.out.cell 2
  have u3 := HS2.out.cell 3
  have u4 := HS2.out.cell 4
  have u5 := HS2.out.cell 5
  have u6 := HS2.out.cell 6
  have u7 := HS2.out.cell 7
  go_wp2_with fail
  clear u0 u1 u2 u3 u4 u5 u6 u7
  with_reducible refine (work_yes R C a b A c l d T s 2 F O HD.out H1.out H2.out HSs.out HA.out HBb.out hab hl HW.out _ HL2.out (HT.out.below HB2.out)).mono ?_
  rintro e w3 ⟨g3, c3, rfl, hm, hb⟩
  have HB3 := Aside0.mk (below_then HB2.out HB2.out.size hb)
  have hi := In.of_mr hm (by rw [tb_len]; omega)
  have HI3 := Aside0.mk hi
  clear hi hm hb HB2 HS2 HL2
  go_wp2_with fail
  refine bodyPost_ret (v := .tuple #[.slice (some ⟨g3, 0, none⟩) l.length c3, .int .i64 0]) (by simp [results, Tryz.results9, go_sem]) rfl ?_
  exact ⟨_, c3, rfl, HI3.out, HB3.out⟩
end Go.Proofs.YtpnkcjnemoompaaGreatDoor.Kern
end
section
set_option linter.unusedVariables false
set_option linter.unusedSimpArgs false
namespace Go.Proofs.YtpnkcjnemoompaaGreatDoor.Pure
open Go.RowKit Go.Proofs.YtpnkcjnemoompaaGreatDoor Go.Proofs.YtpnkcjnemoompaaGreatDoor.PPlan Go.Proofs.YtpnkcjnemoompaaGreatDoor.PFft Go.Proofs.YtpnkcjnemoompaaGreatDoor.Ext Go.Proofs.YtpnkcjnemoompaaGreatDoorW.PrintWords Go.Proofs.YtpnkcjnemoompaaGreatDoorW.PrintLast Go.Proofs.YtpnkcjnemoompaaGreatDoorW.PrintMore
theorem rd_nat (l : List Int) (i : Nat) : rd l (i : Int) = l.getD i 0 := by unfold rd; rw [Int.toNat_natCast]
theorem next_i (i n : Nat) (h : i < n) (hn : n ≤ 9223372036854775807) : wrap64 ((i : Int) + 1) = ((i + 1 : Nat) : Int) := by unfold wrap64; omega
theorem getD_lt (l : List Int) (i : Nat) (h : i < l.length) : l.getD i 0 = l[i] := by simp [List.getD, h]
theorem same_loop (a b : List Int) (hl : a.length = b.length) (hn : a.length ≤ 9223372036854775807) (d : Nat) : ∀ i : Nat, i + d = a.length → (∀ j, j < i → a.getD j 0 = b.getD j 0) →
    Ev (fun k => abacistref04_Same.l0 k a b (i : Int)) (decide (a = b)) := by
  induction d with
  | zero =>
    intro i hi hj
    refine Ev.step (f := fun _ => some true) (fun k => ?_) ?_
    · simp only [abacistref04_Same.l0]
      rw [if_neg (by omega)]
    · have e : a = b := List.ext_getElem hl fun j h1 h2 => by
        have := hj j (by omega)
        rw [getD_lt _ _ h1, getD_lt _ _ h2] at this
        exact this
      rw [decide_eq_true e]
      exact Ev.now _
  | succ d ih =>
    intro i hi hj
    have e1 := next_i i a.length (by omega) hn
    by_cases c : a.getD i 0 = b.getD i 0
    · refine Ev.step (f := fun k => abacistref04_Same.l0 k a b ((i + 1 : Nat) : Int)) (fun k => ?_) (ih (i + 1) (by omega) fun j hj2 => ?_)
      · simp only [abacistref04_Same.l0]
        rw [if_pos (by omega), if_pos (by omega), if_pos (by omega), rd_nat, rd_nat, if_pos c, e1]
      · by_cases c2 : j = i
        · subst c2; exact c
        · exact hj j (by omega)
    · refine Ev.step (f := fun _ => some false) (fun k => ?_) ?_
      · simp only [abacistref04_Same.l0]
        rw [if_pos (by omega), if_pos (by omega), if_pos (by omega), rd_nat, rd_nat, if_neg c]
      · rw [decide_eq_false (fun h => c (by rw [h]))]
        exact Ev.now _
theorem same_ (a b : List Int) (hn : a.length ≤ 9223372036854775807) : Ev (fun k => abacistref04_Same.f k a b) (decide (a = b)) := by
  unfold abacistref04_Same.f
  by_cases c : a.length = b.length
  · exact Ev_if (by omega) (same_loop a b c hn a.length 0 (by omega) fun j h => by omega)
  · refine Ev_ifn (by omega) ?_
    rw [decide_eq_false (fun h => c (by rw [h]))]
    exact Ev.now _
theorem same_yes (a b : List Int) (hn : a.length ≤ 9223372036854775807) (h : a = b) : Ev (fun k => abacistref04_Same.f k a b) true := by
  have := same_ a b hn
  rwa [decide_eq_true h] at this
end Go.Proofs.YtpnkcjnemoompaaGreatDoor.Pure
end
section
namespace Go.Proofs.YtpnkcjnemoompaaGreatDoor.Plan
open Go.RowKit Go.Proofs.YtpnkcjnemoompaaGreatDoor Go.Proofs.YtpnkcjnemoompaaGreatDoor.Ext Go.Proofs.YtpnkcjnemoompaaGreatDoor.PPlan Go.Proofs.YtpnkcjnemoompaaGreatDoorW.PrintWords Go.Proofs.YtpnkcjnemoompaaGreatDoorW.PrintLast Go.Proofs.YtpnkcjnemoompaaGreatDoorW.PrintMore
set_option linter.unusedVariables false
set_option linter.unusedSimpArgs false
set_option maxRecDepth 100000
def perq (n : Nat) : Bool := n == 4 || n == 8 || n == 16 || n == 32 || n == 64 || n == 128 || n == 256 || n == 512
theorem per_bits : ∀ n : Fin 513, 4 ≤ n.val → ((Go.bits .and .i64 (n.val : Int) (wrap64 ((n.val : Int) - 1))) == 0) = perq n.val := of_decide_eq_true (by kernel_rfl)
def goodq (k per : Int) : Bool := decide (0 ≤ k) && decide (k ≤ 32) && decide (0 ≤ per) && perq per.toNat
theorem perq_le {n : Nat} (h : perq n = true) : 4 ≤ n ∧ n ≤ 512 := by
  simp only [perq, Bool.or_eq_true, beq_iff_eq] at h
  omega
theorem good_is (k per : Int) : plan_good.f k per = some (goodq k per) := by
  unfold plan_good.f goodq
  by_cases h1 : k ≥ 0
  · rw [if_pos h1, decide_eq_true (show 0 ≤ k from h1)]
    by_cases h2 : k ≤ 32
    · rw [if_pos h2, decide_eq_true h2]
      by_cases h3 : per ≥ 4
      · rw [if_pos h3, decide_eq_true (show 0 ≤ per by omega)]
        obtain ⟨n, rfl⟩ := Int.eq_ofNat_of_zero_le (show 0 ≤ per by omega)
        by_cases h4 : (n : Int) ≤ 512
        · rw [if_pos h4]
          have := per_bits ⟨n, by omega⟩ (by show 4 ≤ n; omega)
          rw [show (Go.bits .and .i64 (n : Int) (wrap64 ((n : Int) - 1)) == 0) = perq n from this]
          simp
        · rw [if_neg h4]
          have : perq n = false := Bool.eq_false_iff.2 fun h => by have := perq_le h; omega
          simp [this]
      · rw [if_neg h3]
        have : (decide (0 ≤ per) && perq per.toNat) = false := Bool.eq_false_iff.2 fun h => by
          simp only [Bool.and_eq_true, decide_eq_true_eq] at h
          have := perq_le h.2
          omega
        simp [Bool.and_assoc, this]
    · rw [if_neg h2, decide_eq_false h2]; simp
  · rw [if_neg h1, decide_eq_false (show ¬ 0 ≤ k from h1)]; simp
theorem shl_all : ∀ k : Fin 33, shl .i64 2 (IntKind.u64.wrap (k.val : Int)) = ((2 * 2 ^ k.val : Nat) : Int) ∧ 0 ≤ IntKind.u64.wrap (k.val : Int) ∧ shl .i64 1 (IntKind.u64.wrap (k.val : Int)) = ((2 ^ k.val : Nat) : Int) := of_decide_eq_true (by kernel_rfl)
theorem half_all : ∀ k : Fin 33, wrap64 (Int.tdiv (wrap64 ((k.val : Int) + 1)) 2) = (((k.val + 1) / 2 : Nat) : Int) ∧ wrap64 (Int.tdiv (k.val : Int) 2) = ((k.val / 2 : Nat) : Int) ∧ wrap64 ((k.val : Int) - ((k.val / 2 : Nat) : Int)) = ((k.val - k.val / 2 : Nat) : Int) := of_decide_eq_true (by kernel_rfl)
theorem pow_lt {k : Nat} (h : k ≤ 32) : 2 ^ k ≤ 4294967296 := by
  have := Nat.pow_le_pow_right (show 0 < 2 by decide) h
  simpa using this
theorem wrap_is (z : Nat) (h : z ≤ 9223372036854775807) : wrap64 (z : Int) = (z : Int) := by unfold wrap64; omega
theorem least_is (k per : Nat) (hk : k ≤ 32) (hp : per ≤ 512) : plan_least.f (k : Int) (per : Int) = some ((2 * 2 ^ ((k + 1) / 2) + per : Nat) : Int) := by
  have h1 := (half_all ⟨k, by omega⟩).1
  have h2 := shl_all ⟨(k + 1) / 2, by omega⟩
  simp only at h1 h2
  unfold plan_least.f
  rw [h1, if_pos h2.2.1, h2.1, ← Int.natCast_add, wrap_is _ (by have := pow_lt (k := (k + 1) / 2) (by omega); omega)]
def shortq (k per words : Int) : Bool := goodq k per && decide (((2 * 2 ^ k.toNat : Nat) : Int) + per ≤ words)
theorem Short_is (k per words : Int) : plan_Short.f k per words = some (shortq k per words) := by
  unfold plan_Short.f shortq
  rw [good_is, Option.bind_some]
  by_cases h : goodq k per = true
  · rw [if_pos h, h]
    simp only [goodq, Bool.and_eq_true, decide_eq_true_eq] at h
    obtain ⟨⟨⟨h1, h2⟩, h3⟩, h4⟩ := h
    have := perq_le h4
    obtain ⟨k, rfl⟩ := Int.eq_ofNat_of_zero_le h1
    obtain ⟨per, rfl⟩ := Int.eq_ofNat_of_zero_le h3
    have h5 := shl_all ⟨k, by omega⟩
    simp only at h5
    rw [if_pos h5.2.1, h5.1, ← Int.natCast_add, wrap_is _ (by have := pow_lt (k := k) (by omega); simp at this ⊢; omega)]
    simp
  · rw [if_neg h]
    rw [Bool.eq_false_iff.2 h]
    rfl
theorem shares : ∀ k : Fin 33, plan_share.f 80 (k.val : Int) 1 = abacistref08_Share.f 80 (k.val : Int) ∧ (plan_share.f 80 (k.val : Int) 1).isSome = true := of_decide_eq_true (by kernel_rfl)
end Go.Proofs.YtpnkcjnemoompaaGreatDoor.Plan
end
section
namespace Go.Proofs.YtpnkcjnemoompaaGreatDoor.Plan
open Go.RowKit Go.Proofs.YtpnkcjnemoompaaGreatDoor Go.Proofs.YtpnkcjnemoompaaGreatDoor.Ext Go.Proofs.YtpnkcjnemoompaaGreatDoor.PPlan Go.Proofs.YtpnkcjnemoompaaGreatDoor.Pure Go.Proofs.YtpnkcjnemoompaaGreatDoorW.PrintWords Go.Proofs.YtpnkcjnemoompaaGreatDoorW.PrintLast Go.Proofs.YtpnkcjnemoompaaGreatDoorW.PrintMore
set_option linter.unusedVariables false
set_option linter.unusedSimpArgs false
set_option maxRecDepth 100000
def shr1 (k : Nat) : Int := (plan_share.f 80 (k : Int) 1).getD 0
theorem share1 (k : Nat) (hk : k ≤ 32) : Ev (fun n => plan_share.f n (k : Int) 1) (shr1 k) := by
  refine Ev.of (k := 80) (fun n => plan_share.mono _ _ n) ?_
  have h := (shares ⟨k, by omega⟩).2
  simp only at h
  unfold shr1
  obtain ⟨x, hx⟩ := Option.isSome_iff_exists.1 h
  rw [hx]; rfl
def sh (k : Nat) (d : Int) : Int := if d = 1 then shr1 k else 1
theorem share_is (k : Nat) (hk : k ≤ 32) (d : Int) (hd : d = 0 ∨ d = 1) : Ev (fun n => plan_share.f n (k : Int) d) (sh k d) := by
  rcases hd with rfl | rfl
  · refine Ev.congr (f := fun _ => some (sh k 0)) (fun n => ?_) (Ev.now _)
    unfold plan_share.f
    rw [if_pos rfl]; rfl
  · exact share1 k hk
end Go.Proofs.YtpnkcjnemoompaaGreatDoor.Plan
end
section
namespace Go.Proofs.YtpnkcjnemoompaaGreatDoor.Plan
open Go.RowKit Go.Proofs.YtpnkcjnemoompaaGreatDoor Go.Proofs.YtpnkcjnemoompaaGreatDoor.Ext Go.Proofs.YtpnkcjnemoompaaGreatDoor.PPlan Go.Proofs.YtpnkcjnemoompaaGreatDoor.Pure Go.Proofs.YtpnkcjnemoompaaGreatDoorW.PrintWords Go.Proofs.YtpnkcjnemoompaaGreatDoorW.PrintLast Go.Proofs.YtpnkcjnemoompaaGreatDoorW.PrintMore
set_option linter.unusedVariables false
set_option linter.unusedSimpArgs false
set_option maxRecDepth 100000
def ps (r c d t s k f o : Int) : S37 := ⟨⟨⟨r, c⟩, d, t, s⟩, k, f, o⟩
def longl (k : Nat) (d : Int) : List S37 :=
  [ps ((2 ^ (k / 2) : Nat) : Int) ((2 ^ (k - k / 2) : Nat) : Int) 0 (-1) 1 1 0 1, ps ((2 ^ (k - k / 2) : Nat) : Int) ((2 ^ (k / 2) : Nat) : Int) d k 1 2 1 2, ps ((2 ^ (k - k / 2) : Nat) : Int) ((2 ^ (k / 2) : Nat) : Int) 0 (-1) 1 1 2 1,
   ps ((2 ^ (k / 2) : Nat) : Int) ((2 ^ (k - k / 2) : Nat) : Int) d (-1) (sh k d) 2 1 2, ps ((2 ^ (k / 2) : Nat) : Int) ((2 ^ (k - k / 2) : Nat) : Int) 0 (-1) 1 1 2 3]
def psl (k : Nat) (d : Int) (per : Nat) (words : Int) : List S37 := if k ≤ 20 ∧ ((2 * 2 ^ k + per : Nat) : Int) ≤ words then [ps 1 ((2 ^ k : Nat) : Int) d (-1) (sh k d) 2 0 3] else longl k d
theorem even_is (k : Nat) (hk : k ≤ 32) : shape_Even.f (k : Int) = some (((2 ^ (k / 2) : Nat) : Int), ((2 ^ (k - k / 2) : Nat) : Int), 0) := by
  have h1 := half_all ⟨k, by omega⟩
  have h2 := shl_all ⟨k / 2, by omega⟩
  have h3 := shl_all ⟨k - k / 2, by omega⟩
  simp only at h1 h2 h3
  unfold shape_Even.f shape_good.f
  rw [if_pos (show (k : Int) ≥ 0 by omega), Option.bind_some, if_pos (decide_eq_true (show (k : Int) ≤ 32 by omega)), h1.2.1]
  unfold shape_split.f
  rw [if_pos h2.2.1, h1.2.2, if_pos h3.2.1, h2.2.2, h3.2.2]
  rfl
theorem long_is (k : Nat) (hk : k ≤ 32) (d : Int) (hd : d = 0 ∨ d = 1) : Ev (fun n => plan_long.f n (k : Int) d) (longl k d) := by
  unfold plan_long.f
  rw [even_is k hk]
  refine Ev.bind (Ev_eq rfl) (Ev.bind (Ev_eq rfl) (Ev.bind (Ev_eq rfl) (Ev.bind (Ev_eq rfl) (Ev.bind (Ev_eq rfl) (Ev.bind (share_is k hk d hd) (Ev.bind (Ev_eq rfl) (Ev.bind (Ev_eq rfl) (Ev_eq ?_))))))))
  rfl
theorem good_facts {k per : Int} (h : goodq k per = true) : ∃ K P : Nat, k = (K : Int) ∧ per = (P : Int) ∧ K ≤ 32 ∧ 4 ≤ P ∧ P ≤ 512 ∧ perq P = true := by
  simp only [goodq, Bool.and_eq_true, decide_eq_true_eq] at h
  obtain ⟨⟨⟨h1, h2⟩, h3⟩, h4⟩ := h
  have := perq_le h4
  exact ⟨k.toNat, per.toNat, by omega, by omega, by omega, this.1, this.2, h4⟩
theorem passes_ok (k P : Nat) (d words : Int) (hg : goodq k P = true) (hd : d = 0 ∨ d = 1) (hw : ((2 * 2 ^ ((k + 1) / 2) + P : Nat) : Int) ≤ words) : Ev (fun n => plan_Passes.f n (k : Int) d (P : Int) words) (psl k d P words, 0) := by
  obtain ⟨K', P', e1, e2, hk, hp4, hp, hq⟩ := good_facts hg
  obtain rfl : K' = k := by omega
  obtain rfl : P' = P := by omega
  unfold plan_Passes.f
  refine Ev.bind (Ev_eq (good_is _ _)) (Ev_if hg (Ev_ifn (by omega) ?_))
  rw [decide_eq_false (show ¬ d > 1 by omega)]
  have hlong : Ev (fun n => plan_Passes.j1 n (K' : Int) d false) (longl K' d, 0) := by
    refine Ev.step (f := fun n => (plan_long.f n (K' : Int) d).bind fun t => some (t, 0)) (fun n => ?_) (Ev.bind (long_is K' hk d hd) (Ev_eq rfl))
    simp only [plan_Passes.j1]
    rw [if_neg (by decide)]
  have hshort : Ev (fun n => plan_Passes.j1 n (K' : Int) d true) ([ps 1 ((2 ^ K' : Nat) : Int) d (-1) (sh K' d) 2 0 3], 0) := by
    have h3 := shl_all ⟨K', by omega⟩
    simp only at h3
    refine Ev.step (f := fun n => (plan_share.f n (K' : Int) d).bind fun t => some ([ps 1 ((2 ^ K' : Nat) : Int) d (-1) t 2 0 3], 0)) (fun n => ?_) (Ev.bind (share_is K' hk d hd) (Ev_eq rfl))
    simp only [plan_Passes.j1]
    rw [if_pos trivial, if_pos h3.2.1, h3.2.2]
    rfl
  refine Ev.step (f := fun n => if shortq K' P' words = true then plan_Passes.j1 n (K' : Int) d (decide ((K' : Int) ≤ 20)) else plan_Passes.j1 n (K' : Int) d false) (fun n => ?_) ?_
  · simp only [plan_Passes.j0]
    rw [if_neg (by decide), least_is K' P' hk hp, Option.bind_some, if_neg (by omega), Short_is, Option.bind_some]
  · have hS : shortq K' P' words = decide (((2 * 2 ^ K' + P' : Nat) : Int) ≤ words) := by
      unfold shortq
      rw [hg, Bool.true_and, Int.toNat_natCast, Int.natCast_add]
    unfold psl
    by_cases h1 : ((2 * 2 ^ K' + P' : Nat) : Int) ≤ words
    · refine Ev_if (by rw [hS]; exact decide_eq_true h1) ?_
      by_cases h2 : K' ≤ 20
      · rw [if_pos ⟨h2, h1⟩, decide_eq_true (show (K' : Int) ≤ 20 by omega)]
        exact hshort
      · rw [if_neg (fun h => h2 h.1), decide_eq_false (show ¬ (K' : Int) ≤ 20 by omega)]
        exact hlong
    · rw [if_neg (fun h => h1 h.2)]
      refine Ev_ifn (by rw [hS]; simpa using h1) hlong
end Go.Proofs.YtpnkcjnemoompaaGreatDoor.Plan
end
section
namespace Go.Proofs.YtpnkcjnemoompaaGreatDoor.Plan
open Go.RowKit Go.Proofs.YtpnkcjnemoompaaGreatDoor Go.Proofs.YtpnkcjnemoompaaGreatDoor.Ext Go.Proofs.YtpnkcjnemoompaaGreatDoor.PPlan Go.Proofs.YtpnkcjnemoompaaGreatDoor.Pure Go.Proofs.YtpnkcjnemoompaaGreatDoorW.PrintWords Go.Proofs.YtpnkcjnemoompaaGreatDoorW.PrintLast Go.Proofs.YtpnkcjnemoompaaGreatDoorW.PrintMore
set_option linter.unusedVariables false
set_option linter.unusedSimpArgs false
set_option maxRecDepth 100000
def inq (n : Int) : Bool := decide (0 ≤ n) && decide (n < 4)
theorem in_calls (n : Int) (w : World) : Calls Tryz.prog 49 #[.int .i64 n] w fun e w' => e = .returned (.bool (inq n)) ∧ w' = w := by
  by_cases h : 0 ≤ n
  · by_cases h2 : n < 4
    · have d1 : inq n = true := by simp [inq, h, h2]
      rw [d1]
      go_enter Tryz.func49, Tryz.ntmps49
      go_wp2
      go_ret
      exact ⟨by first | rfl | (simp; omega), rfl⟩
    · have d1 : inq n = false := by simp [inq, h2]
      rw [d1]
      go_enter Tryz.func49, Tryz.ntmps49
      go_wp2
      go_ret
      exact ⟨by first | rfl | (simp; omega), rfl⟩
  · have d1 : inq n = false := by simp [inq, h]
    rw [d1]
    go_enter Tryz.func49, Tryz.ntmps49
    go_wp2
    go_ret
    exact ⟨by first | rfl | (simp; omega), rfl⟩
def rightq (k f o : Int) : Bool := (decide (k = 1) || decide (k = 2)) && inq f && inq o
set_option maxHeartbeats 2000000 in
theorem right_calls (r c d t s k f o : Int) (w : World) : Calls Tryz.prog 31 #[.agg #[.int .i64 r, .int .i64 c, .int .i64 d, .int .i64 t, .int .u64 s, .int .i64 k, .int .i64 f, .int .i64 o]] w fun e w' => e = .returned (.bool (rightq k f o)) ∧ Below w.heap.size w w' := by
  have hb0 := below_alloc (Below.refl w.heap.size w) (Obj.cells #[.int .i64 r, .int .i64 c, .int .i64 d, .int .i64 t, .int .u64 s, .int .i64 k, .int .i64 f, .int .i64 o] 37)
  have HB := Aside0.mk hb0
  clear hb0
  by_cases hk : k = 1
  · have k1 : (k == 1) = true := by simp [hk]
    have hr : rightq k f o = (inq f && inq o) := by simp [rightq, hk]
    rw [hr]
    clear hr hk
    cases hf : inq f
    · go_enter Tryz.func31, Tryz.ntmps31
      go_wp2_with fail
      refine (in_calls f _).mono ?_
      rintro e w1 ⟨rfl, rfl⟩
      rw [hf]
      go_wp2_with fail
      go_ret
      exact ⟨rfl, HB.out⟩
    · go_enter Tryz.func31, Tryz.ntmps31
      go_wp2_with fail
      refine (in_calls f _).mono ?_
      rintro e w1 ⟨rfl, rfl⟩
      rw [hf]
      go_wp2_with fail
      refine (in_calls o _).mono ?_
      rintro e w1 ⟨rfl, rfl⟩
      go_wp2_with fail
      go_ret
      exact ⟨by simp, HB.out⟩
  · have k1 : (k == 1) = false := by simp [hk]
    by_cases hk2 : k = 2
    · have k2 : (k == 2) = true := by simp [hk2]
      have hr : rightq k f o = (inq f && inq o) := by simp [rightq, hk2]
      rw [hr]
      clear hr hk hk2
      cases hf : inq f
      · go_enter Tryz.func31, Tryz.ntmps31
        go_wp2_with fail
        refine (in_calls f _).mono ?_
        rintro e w1 ⟨rfl, rfl⟩
        rw [hf]
        go_wp2_with fail
        go_ret
        exact ⟨rfl, HB.out⟩
      · go_enter Tryz.func31, Tryz.ntmps31
        go_wp2_with fail
        refine (in_calls f _).mono ?_
        rintro e w1 ⟨rfl, rfl⟩
        rw [hf]
        go_wp2_with fail
        refine (in_calls o _).mono ?_
        rintro e w1 ⟨rfl, rfl⟩
        go_wp2_with fail
        go_ret
        exact ⟨by simp, HB.out⟩
    · have k2 : (k == 2) = false := by simp [hk2]
      have hr : rightq k f o = false := by simp [rightq, hk, hk2]
      rw [hr]
      clear hr hk hk2
      go_enter Tryz.func31, Tryz.ntmps31
      go_wp2_with fail
      go_ret
      exact ⟨rfl, HB.out⟩
end Go.Proofs.YtpnkcjnemoompaaGreatDoor.Plan
end
section
namespace Go.Proofs.YtpnkcjnemoompaaGreatDoor.Plan
open Go.RowKit Go.Proofs.YtpnkcjnemoompaaGreatDoor Go.Proofs.YtpnkcjnemoompaaGreatDoor.Ext Go.Proofs.YtpnkcjnemoompaaGreatDoor.PPlan Go.Proofs.YtpnkcjnemoompaaGreatDoor.Pure Go.Proofs.YtpnkcjnemoompaaGreatDoorW.PrintWords Go.Proofs.YtpnkcjnemoompaaGreatDoorW.PrintLast Go.Proofs.YtpnkcjnemoompaaGreatDoorW.PrintMore
set_option linter.unusedVariables false
set_option linter.unusedSimpArgs false
set_option maxRecDepth 100000
def extw (n : Nat) : ByteArray := if n = 0 then ⟨#[105, 110, 112, 117, 116]⟩ else if n = 1 then ⟨#[108, 101, 102, 116]⟩ else if n = 2 then ⟨#[114, 105, 103, 104, 116]⟩ else ⟨#[111, 117, 116, 112, 117, 116]⟩
theorem pow_g : Tryz.prog.globalNamed "internal/strconv.uint64pow10" = some 2 := by kernel_rfl
structure TabP (w : World) : Prop where
  ext : ∀ j, j < 4 → w.cell? ⟨0, j, none⟩ = some (.string (extw j))
  pow : Lib.TabIs Tryz.prog w "internal/strconv.uint64pow10" .u64 Lib.pow10Tab
  bits : TabOK w
theorem tab_below {n : String} {g : Nat} {k : IntKind} {zs : List Int} {w w' : World} (hg : Tryz.prog.globalNamed n = some g) (h : Lib.TabIs Tryz.prog w n k zs) (hb : Below w.heap.size w w') (hz : zs ≠ []) : Lib.TabIs Tryz.prog w' n k zs := by
  unfold Lib.TabIs World.var? at *
  rw [hg] at h ⊢
  simp only [Option.bind_some] at h ⊢
  have hlt : g < w.heap.size := by
    rcases Nat.lt_or_ge g w.heap.size with q | q
    · exact q
    · rw [Array.getElem?_eq_none q] at h
      simp at h
  rw [hb.block g hlt]
  exact h
theorem below_grow (w : World) (os : Array Obj) : Below w.heap.size w (Go.Sort.grow w os) := by
  refine ⟨rfl, rfl, rfl, by simp [Go.Sort.grow], fun k hk => ?_⟩
  simp [Go.Sort.grow, Array.getElem?_append, hk]
theorem itoa_calls (n : Int) (w : World) (h0 : -9223372036854775808 ≤ n) (h1 : n ≤ 9223372036854775807) (hT : TabP w) : Calls Tryz.prog 32 #[.int .i64 n] w fun e w' => e = .returned (.string ⟨(Lib.itoa n).toArray⟩) ∧ Below w.heap.size w w' :=
  (Lay.strconv_Itoa n h0 h1 w hT.pow).mono fun _ _ ⟨he, k, os, hw⟩ => ⟨he, by subst hw; exact (pw_below_drewN (Below.refl w.heap.size w) k).trans (below_grow (w.drewN k) os)⟩
end Go.Proofs.YtpnkcjnemoompaaGreatDoor.Plan
end
section
namespace Go.Proofs.YtpnkcjnemoompaaGreatDoor.Plan
open Go.RowKit Go.Proofs.YtpnkcjnemoompaaGreatDoor Go.Proofs.YtpnkcjnemoompaaGreatDoor.Ext Go.Proofs.YtpnkcjnemoompaaGreatDoor.PPlan Go.Proofs.YtpnkcjnemoompaaGreatDoor.Pure Go.Proofs.YtpnkcjnemoompaaGreatDoor.Obj Go.Proofs.YtpnkcjnemoompaaGreatDoorW.PrintWords Go.Proofs.YtpnkcjnemoompaaGreatDoorW.PrintLast Go.Proofs.YtpnkcjnemoompaaGreatDoorW.PrintMore
set_option linter.unusedVariables false
set_option linter.unusedSimpArgs false
set_option maxRecDepth 100000
theorem TabP.below {w W : World} (h : TabP w) (hb : Below w.heap.size w W) : TabP W := ⟨fun j hj => pw_cell_below hb (h.ext j hj), tab_below pow_g h.pow hb (by decide), h.bits.below hb⟩
structure Pl (w0 w : World) (b : Nat) (R C d t s k f o : Int) : Prop where
  box : Bk w b 37 [.int .i64 R, .int .i64 C, .int .i64 d, .int .i64 t, .int .u64 s, .int .i64 k, .int .i64 f, .int .i64 o]
  be : Below w0.heap.size w0 w
  tab : TabP w
theorem Pl.below {w0 w w1 : World} {b : Nat} {R C d t s k f o : Int} (h : Pl w0 w b R C d t s k f o) (hb : Below w.heap.size w w1) : Pl w0 w1 b R C d t s k f o := ⟨h.box.below hb, below_then h.be h.be.size hb, h.tab.below hb⟩
theorem Pl.drew {w0 w : World} {b : Nat} {R C d t s k f o : Int} (h : Pl w0 w b R C d t s k f o) : Pl w0 w.drew b R C d t s k f o := h.below (below_drew1 (Below.refl _ _))
theorem Pl.new {w : World} (R C d t s k f o : Int) (h : TabP w) : Pl w (w.alloc (.cells #[.int .i64 R, .int .i64 C, .int .i64 d, .int .i64 t, .int .u64 s, .int .i64 k, .int .i64 f, .int .i64 o] 37)) w.heap.size R C d t s k f o :=
  ⟨Bk.new w 37 [.int .i64 R, .int .i64 C, .int .i64 d, .int .i64 t, .int .u64 s, .int .i64 k, .int .i64 f, .int .i64 o], below_alloc (Below.refl _ _) _, h.below (below_alloc (Below.refl _ _) _)⟩
def jn (xs : List ByteArray) : ByteArray := ⟨(Lib.join (xs.map (·.data.toList)) [32]).toArray⟩
theorem jn_calls (b n : Nat) (xs : List ByteArray) (w : World) (hB : Bk w b 9 (xs.map Value.string)) (hn : xs.length = n) (hj : (Lib.join (xs.map (·.data.toList)) [32]).length ≤ 140737488355328) (hn2 : n ≤ 1000) :
    Calls Tryz.prog 34 #[.slice (some ⟨b, 0, none⟩) n n, .string ⟨#[32]⟩] w fun e w' => e = .returned (.string (jn xs)) ∧ Below w.heap.size w w' := by
  subst hn
  refine Lay.strings_Join b 0 xs.length xs ⟨#[32]⟩ w (fun j x hx => ?_) hB.lt (by omega) (Nat.le_refl _) hj
  rw [Nat.zero_add, hB.cell j, List.getElem?_map, hx]
  rfl
def ita (n : Int) : ByteArray := ⟨(Lib.itoa n).toArray⟩
theorem extw_le (n : Nat) : (extw n).data.toList.length ≤ 6 := by unfold extw; split <;> (try split) <;> (try split) <;> simp
theorem jn5 (F O : Nat) (R C : Int) (hR : -9223372036854775808 ≤ R ∧ R ≤ 9223372036854775807) (hC : -9223372036854775808 ≤ C ∧ C ≤ 9223372036854775807) : (Lib.join ([(⟨#[116, 117, 114, 110]⟩ : ByteArray), extw F, extw O, ita R, ita C].map (·.data.toList)) [32]).length ≤ 140737488355328 := by
  have h1 := extw_le F
  have h2 := extw_le O
  have h3 := Lib.itoa_length_le R hR.1 hR.2
  have h4 := Lib.itoa_length_le C hC.1 hC.2
  simp [Lib.join, List.intercalate, ita] at *
  omega
set_option maxHeartbeats 4000000 in
theorem line_turn (R C d t s : Int) (F O : Nat) (w : World) (hF : F < 4) (hO : O < 4) (hR : -9223372036854775808 ≤ R ∧ R ≤ 9223372036854775807) (hC : -9223372036854775808 ≤ C ∧ C ≤ 9223372036854775807) (hT : TabP w) :
    Calls Tryz.prog 13 #[.agg #[.int .i64 R, .int .i64 C, .int .i64 d, .int .i64 t, .int .u64 s, .int .i64 1, .int .i64 F, .int .i64 O]] w fun e w' => e = .returned (.string (jn [⟨#[116, 117, 114, 110]⟩, extw F, extw O, ita R, ita C])) ∧ Below w.heap.size w w' := by
  have HP := Aside0.mk (Pl.new R C d t s 1 F O hT)
  have HF := Aside0.mk hF
  have HO := Aside0.mk hO
  have HR := Aside0.mk hR
  have HC := Aside0.mk hC
  have hr : rightq 1 F O = true := by simp [rightq, inq]; omega
  have q1 : (0 : Int) ≤ (F : Int) := by omega
  have q2 : (F : Int) < 4 := by omega
  have q3 : (0 : Int) ≤ (O : Int) := by omega
  have q4 : (O : Int) < 4 := by omega
  clear hT hF hO hR hC
  go_enter Tryz.func13, Tryz.ntmps13
  go_wp2_with fail
  refine (right_calls R C d t s 1 F O _).mono ?_
  rintro e w1 ⟨rfl, hb⟩
  have HP1 := Aside0.mk (HP.out.below hb)
  clear hb HP
  rw [hr]
  clear hr
  go_wp2_with fail
  refine start_ (n := 20) (S := fun w' => w'.cell? ⟨w.heap.size, 6, none⟩ = some (.int .i64 (F : Int)) ∧ w'.cell? ⟨w.heap.size, 7, none⟩ = some (.int .i64 (O : Int)) ∧ w'.cell? ⟨w.heap.size, 0, none⟩ = some (.int .i64 R) ∧ w'.cell? ⟨w.heap.size, 1, none⟩ = some (.int .i64 C) ∧ w'.cell? ⟨0, F, none⟩ = some (.string (extw F)) ∧ w'.cell? ⟨0, O, none⟩ = some (.string (extw O)) ∧ Aside0 (Pl w w' w.heap.size R C d t s 1 F O)) (ds := []) #[false, false, false, false, false, false, false, false, false, false, false, false, false, false, false, false, false, false, false, false] (by kernel_rfl) rfl rfl ⟨HP1.out.drew.box.cell 6, HP1.out.drew.box.cell 7, HP1.out.drew.box.cell 0, HP1.out.drew.box.cell 1, HP1.out.drew.tab.ext F HF.out, HP1.out.drew.tab.ext O HO.out, ⟨HP1.out.drew⟩⟩ (fun hHeld => ?_)
  refine pure_ (i := 0) (N := some 7) (v := ?_) (a' := ?_) #[true, false, false, false, false, false, false, false, false, false, false, false, false, false, false, false, false, false, false, false] rfl rfl (by kernel_rfl) (fun _ _ _ h => h) (Or.inl ⟨by rfl, ?_⟩) ?_ ?_
  rotate_left
  · intro w'
    go_simp
    with_reducible rfl
  rotate_left
  · simp only [Act.put, List.setIfInBounds_toArray, List.set_cons_zero, List.set_cons_succ, i64_w, i32_w]
    rfl
  refine pure_ (i := 4) (N := some 11) (v := ?_) (a' := ?_) #[true, false, false, false, true, false, false, false, false, false, false, false, false, false, false, false, false, false, false, false] rfl rfl (by kernel_rfl) (fun _ _ _ h => h) (Or.inl ⟨by rfl, ?_⟩) ?_ ?_
  rotate_left
  · intro w'
    go_simp
    with_reducible rfl
  rotate_left
  · simp only [Act.put, List.setIfInBounds_toArray, List.set_cons_zero, List.set_cons_succ, i64_w, i32_w]
    rfl
  refine pure_ (i := 8) (N := some 15) (v := ?_) (a' := ?_) #[true, false, false, false, true, false, false, false, true, false, false, false, false, false, false, false, false, false, false, false] rfl rfl (by kernel_rfl) (fun _ _ _ h => h) (Or.inl ⟨by rfl, ?_⟩) ?_ ?_
  rotate_left
  · intro w'
    go_simp
    with_reducible rfl
  rotate_left
  · simp only [Act.put, List.setIfInBounds_toArray, List.set_cons_zero, List.set_cons_succ, i64_w, i32_w]
    rfl
  refine pure_ (i := 9) (N := some 16) (v := ?_) (a' := ?_) #[true, false, false, false, true, false, false, false, true, true, false, false, false, false, false, false, false, false, false, false] rfl rfl (by kernel_rfl) (fun _ _ _ h => h) (Or.inl ⟨by rfl, ?_⟩) ?_ ?_
  rotate_left
  · intro w'
    go_simp
    with_reducible rfl
  rotate_left
  · simp only [Act.put, List.setIfInBounds_toArray, List.set_cons_zero, List.set_cons_succ, i64_w, i32_w]
    rfl
  refine pure_ (i := 10) (N := some 17) (v := ?_) (a' := ?_) #[true, false, false, false, true, false, false, false, true, true, true, false, false, false, false, false, false, false, false, false] rfl rfl (by kernel_rfl) (fun _ _ _ h => h) (Or.inl ⟨by rfl, ?_⟩) ?_ ?_
  rotate_left
  · intro w'
    go_simp
    with_reducible rfl
  rotate_left
  · simp only [Act.put, List.setIfInBounds_toArray, List.set_cons_zero, List.set_cons_succ, i64_w, i32_w]
    rfl
  refine pure_ (i := 13) (N := some 20) (v := ?_) (a' := ?_) #[true, false, false, false, true, false, false, false, true, true, true, false, false, true, false, false, false, false, false, false] rfl rfl (by kernel_rfl) (fun _ _ _ h => h) (Or.inl ⟨by rfl, ?_⟩) ?_ ?_
  rotate_left
  · intro w'
    go_simp
    with_reducible rfl
  rotate_left
  · simp only [Act.put, List.setIfInBounds_toArray, List.set_cons_zero, List.set_cons_succ, i64_w, i32_w]
    rfl
  refine pure_ (i := 14) (N := some 21) (v := ?_) (a' := ?_) #[true, false, false, false, true, false, false, false, true, true, true, false, false, true, true, false, false, false, false, false] rfl rfl (by kernel_rfl) (fun _ _ _ h => h) (Or.inl ⟨by rfl, ?_⟩) ?_ ?_
  rotate_left
  · intro w'
    go_simp
    with_reducible rfl
  rotate_left
  · simp only [Act.put, List.setIfInBounds_toArray, List.set_cons_zero, List.set_cons_succ, i64_w, i32_w]
    rfl
  refine pure_ (i := 15) (N := some 22) (v := ?_) (a' := ?_) #[true, false, false, false, true, false, false, false, true, true, true, false, false, true, true, true, false, false, false, false] rfl rfl (by kernel_rfl) (fun _ _ _ h => h) (Or.inl ⟨by rfl, ?_⟩) ?_ ?_
  rotate_left
  · intro w'
    go_simp
    with_reducible rfl
  rotate_left
  · simp only [Act.put, List.setIfInBounds_toArray, List.set_cons_zero, List.set_cons_succ, i64_w, i32_w]
    rfl
  refine take_ (i := 1) (N := some 8) (v := ?_) (a' := ?_) #[true, true, false, false, true, false, false, false, true, true, true, false, false, true, true, true, false, false, false, false] rfl rfl (by kernel_rfl) (fun _ _ _ h => h) (Or.inl ⟨by rfl, ?_⟩) hHeld ?_ ?_
  rotate_left
  · rintro w' ⟨s0, s1, s2, s3, s4, s5, s6⟩
    go_simp
    with_reducible rfl
  rotate_left
  · simp only [Act.put, List.setIfInBounds_toArray, List.set_cons_zero, List.set_cons_succ, i64_w, i32_w]
    rfl
  refine pure_ (i := 2) (N := some 9) (v := ?_) (a' := ?_) #[true, true, true, false, true, false, false, false, true, true, true, false, false, true, true, true, false, false, false, false] rfl rfl (by kernel_rfl) (fun _ _ _ h => h) (Or.inl ⟨by rfl, ?_⟩) ?_ ?_
  rotate_left
  · intro w'
    go_simp
    with_reducible rfl
  rotate_left
  · simp only [Act.put, List.setIfInBounds_toArray, List.set_cons_zero, List.set_cons_succ, i64_w, i32_w]
    rfl
  refine take_ (i := 3) (N := some 10) (v := ?_) (a' := ?_) #[true, true, true, true, true, false, false, false, true, true, true, false, false, true, true, true, false, false, false, false] rfl rfl (by kernel_rfl) (fun _ _ _ h => h) (Or.inl ⟨by rfl, ?_⟩) hHeld ?_ ?_
  rotate_left
  · rintro w' ⟨s0, s1, s2, s3, s4, s5, s6⟩
    go_simp
    with_reducible rfl
  rotate_left
  · simp only [Act.put, List.setIfInBounds_toArray, List.set_cons_zero, List.set_cons_succ, i64_w, i32_w]
    rfl
  refine take_ (i := 5) (N := some 12) (v := ?_) (a' := ?_) #[true, true, true, true, true, true, false, false, true, true, true, false, false, true, true, true, false, false, false, false] rfl rfl (by kernel_rfl) (fun _ _ _ h => h) (Or.inl ⟨by rfl, ?_⟩) hHeld ?_ ?_
  rotate_left
  · rintro w' ⟨s0, s1, s2, s3, s4, s5, s6⟩
    go_simp
    with_reducible rfl
  rotate_left
  · simp only [Act.put, List.setIfInBounds_toArray, List.set_cons_zero, List.set_cons_succ, i64_w, i32_w]
    rfl
  refine pure_ (i := 6) (N := some 13) (v := ?_) (a' := ?_) #[true, true, true, true, true, true, true, false, true, true, true, false, false, true, true, true, false, false, false, false] rfl rfl (by kernel_rfl) (fun _ _ _ h => h) (Or.inl ⟨by rfl, ?_⟩) ?_ ?_
  rotate_left
  · intro w'
    go_simp
    with_reducible rfl
  rotate_left
  · simp only [Act.put, List.setIfInBounds_toArray, List.set_cons_zero, List.set_cons_succ, i64_w, i32_w]
    rfl
  refine take_ (i := 7) (N := some 14) (v := ?_) (a' := ?_) #[true, true, true, true, true, true, true, true, true, true, true, false, false, true, true, true, false, false, false, false] rfl rfl (by kernel_rfl) (fun _ _ _ h => h) (Or.inl ⟨by rfl, ?_⟩) hHeld ?_ ?_
  rotate_left
  · rintro w' ⟨s0, s1, s2, s3, s4, s5, s6⟩
    go_simp
    with_reducible rfl
  rotate_left
  · simp only [Act.put, List.setIfInBounds_toArray, List.set_cons_zero, List.set_cons_succ, i64_w, i32_w]
    rfl
  refine take_ (i := 11) (N := some 18) (v := ?_) (a' := ?_) #[true, true, true, true, true, true, true, true, true, true, true, true, false, true, true, true, false, false, false, false] rfl rfl (by kernel_rfl) (fun _ _ _ h => h) (Or.inl ⟨by rfl, ?_⟩) hHeld ?_ ?_
  rotate_left
  · rintro w' ⟨s0, s1, s2, s3, s4, s5, s6⟩
    go_simp
    with_reducible rfl
  rotate_left
  · simp only [Act.put, List.setIfInBounds_toArray, List.set_cons_zero, List.set_cons_succ, i64_w, i32_w]
    rfl
  refine take_ (i := 16) (N := some 23) (v := ?_) (a' := ?_) #[true, true, true, true, true, true, true, true, true, true, true, true, false, true, true, true, true, false, false, false] rfl rfl (by kernel_rfl) (fun _ _ _ h => h) (Or.inl ⟨by rfl, ?_⟩) hHeld ?_ ?_
  rotate_left
  · rintro w' ⟨s0, s1, s2, s3, s4, s5, s6⟩
    go_simp
    with_reducible rfl
  rotate_left
  · simp only [Act.put, List.setIfInBounds_toArray, List.set_cons_zero, List.set_cons_succ, i64_w, i32_w]
    rfl
  refine one_ (i := 12) (N := some 19) #[true, true, true, true, true, true, true, true, true, true, true, true, true, true, true, true, true, false, false, false] rfl rfl (by kernel_rfl) (by decide) (fun K hK => ?_)
  refine goes_ Tryz.func32 (by kernel_rfl) rfl #[.int .i64 R] (by rfl) rfl rfl (by simp only [List.map_toArray, List.map_cons, List.map_nil]; rfl) ?_
  with_reducible refine (itoa_calls R _ HR.out.1 HR.out.2 hHeld.2.2.2.2.2.2.out.tab).mono ?_
  rintro e w4 ⟨rfl, hb⟩
  refine ⟨_, rfl, ?_⟩
  have nS := hHeld.2.2.2.2.2.2.out.below hb
  clear hHeld hb
  refine hK.out _ _ ⟨nS.box.cell 6, nS.box.cell 7, nS.box.cell 0, nS.box.cell 1, nS.tab.ext F HF.out, nS.tab.ext O HO.out, ⟨nS⟩⟩ (fun hHeld => ?_)
  clear hK K
  refine norm_ (a' := ?_) ?_ ?_
  rotate_left
  · show Act.put _ (some 19) _ = _
    simp only [Act.put, List.setIfInBounds_toArray, List.set_cons_zero, List.set_cons_succ, i64_w, i32_w]
    rfl
  refine one_ (i := 17) (N := some 24) #[true, true, true, true, true, true, true, true, true, true, true, true, true, true, true, true, true, true, false, false] rfl rfl (by kernel_rfl) (by decide) (fun K hK => ?_)
  refine goes_ Tryz.func32 (by kernel_rfl) rfl #[.int .i64 C] (by rfl) rfl rfl (by simp only [List.map_toArray, List.map_cons, List.map_nil]; rfl) ?_
  with_reducible refine (itoa_calls C _ HC.out.1 HC.out.2 hHeld.2.2.2.2.2.2.out.tab).mono ?_
  rintro e w5 ⟨rfl, hb⟩
  refine ⟨_, rfl, ?_⟩
  have nS := hHeld.2.2.2.2.2.2.out.below hb
  clear hHeld hb
  refine hK.out _ _ ⟨nS.box.cell 6, nS.box.cell 7, nS.box.cell 0, nS.box.cell 1, nS.tab.ext F HF.out, nS.tab.ext O HO.out, ⟨nS⟩⟩ (fun hHeld => ?_)
  clear hK K
  refine norm_ (a' := ?_) ?_ ?_
  rotate_left
  · show Act.put _ (some 24) _ = _
    simp only [Act.put, List.setIfInBounds_toArray, List.set_cons_zero, List.set_cons_succ, i64_w, i32_w]
    rfl
  refine one_ (i := 18) (N := some 25) #[true, true, true, true, true, true, true, true, true, true, true, true, true, true, true, true, true, true, true, false] rfl rfl (by kernel_rfl) (by decide) (fun K hK => ?_)
  refine value_ (w1 := ?_) (v := ?_) (by rfl) rfl ?_ ?_
  rotate_left 2
  · go_simp
    constructor
    · rfl
    · rfl
  have nS := hHeld.2.2.2.2.2.2.out.below (below_alloc (Below.refl _ _) (Obj.cells #[.string ⟨#[116, 117, 114, 110]⟩, .string (extw F), .string (extw O), .string ⟨(Lib.itoa R).toArray⟩, .string ⟨(Lib.itoa C).toArray⟩] 9))
  clear hHeld
  refine hK.out _ _ ⟨nS.box.cell 6, nS.box.cell 7, nS.box.cell 0, nS.box.cell 1, nS.tab.ext F HF.out, nS.tab.ext O HO.out, ⟨nS⟩⟩ (fun hHeld => ?_)
  clear hK K
  refine norm_ (a' := ?_) ?_ ?_
  rotate_left
  · show Act.put _ (some 25) _ = _
    simp only [Act.put, List.setIfInBounds_toArray, List.set_cons_zero, List.set_cons_succ, i64_w, i32_w]
    rfl
  refine pure_ (i := 19) (N := some 3) (v := ?_) (a' := ?_) #[true, true, true, true, true, true, true, true, true, true, true, true, true, true, true, true, true, true, true, true] rfl rfl (by kernel_rfl) (fun _ _ _ h => h) (Or.inl ⟨by rfl, ?_⟩) ?_ ?_
  rotate_left
  · intro w'
    go_simp
    with_reducible rfl
  rotate_left
  · simp only [Act.put, List.setIfInBounds_toArray, List.set_cons_zero, List.set_cons_succ, i64_w, i32_w]
    rfl
  refine done_ (by kernel_rfl) ?_
  have HS := hHeld.2.2.2.2.2.2
  have HL : Aside0 (Bk (w5.alloc (Obj.cells #[.string ⟨#[116, 117, 114, 110]⟩, .string (extw F), .string (extw O), .string ⟨(Lib.itoa R).toArray⟩, .string ⟨(Lib.itoa C).toArray⟩] 9)) w5.heap.size 9 [.string ⟨#[116, 117, 114, 110]⟩, .string (extw F), .string (extw O), .string (ita R), .string (ita C)]) := ⟨Bk.new w5 9 [.string ⟨#[116, 117, 114, 110]⟩, .string (extw F), .string (extw O), .string (ita R), .string (ita C)]⟩
  clear hHeld HP1
  have u5 := HS.out.box.cell 5
  go_wp2_with fail
  clear u5
  refine (jn_calls w5.heap.size 5 [⟨#[116, 117, 114, 110]⟩, extw F, extw O, ita R, ita C] _ HL.out rfl (jn5 F O R C HR.out HC.out) (by decide)).mono ?_
  rintro e w6 ⟨rfl, hb⟩
  have HS6 := HS.out.below hb
  clear hb HS HL
  go_wp2_with fail
  go_ret
  exact ⟨rfl, HS6.be⟩
end Go.Proofs.YtpnkcjnemoompaaGreatDoor.Plan
end
section
namespace Go.Proofs.YtpnkcjnemoompaaGreatDoor.Plan
open Go.RowKit Go.Proofs.YtpnkcjnemoompaaGreatDoor Go.Proofs.YtpnkcjnemoompaaGreatDoor.Ext Go.Proofs.YtpnkcjnemoompaaGreatDoor.PPlan Go.Proofs.YtpnkcjnemoompaaGreatDoor.Pure Go.Proofs.YtpnkcjnemoompaaGreatDoor.Obj Go.Proofs.YtpnkcjnemoompaaGreatDoorW.PrintWords Go.Proofs.YtpnkcjnemoompaaGreatDoorW.PrintLast Go.Proofs.YtpnkcjnemoompaaGreatDoorW.PrintMore
set_option linter.unusedVariables false
set_option linter.unusedSimpArgs false
set_option maxRecDepth 100000
theorem psl2 : psl 2 0 4 8 = longl 2 0 := by unfold psl; rw [if_neg (by decide)]
set_option maxHeartbeats 4000000 in
theorem awake_calls (w : World) (hT : TabP w) : Calls Tryz.prog 5 #[] w fun e w' => e = .returned (.bool true) ∧ Below w.heap.size w w' := by
  obtain ⟨n, h1⟩ := (passes_ok 2 4 0 8 (by decide) (.inl rfl) (by decide)).rounds
  rw [psl2] at h1
  have K1 : Aside0 (plan_Passes.f n 2 0 4 8 = some (longl 2 0, 0)) := ⟨h1⟩
  have HT := Aside0.mk hT
  clear h1 hT
  go_enter Tryz.func5, Tryz.ntmps5
  go_wp2_with fail
  refine (plan_Passes.calls n 2 0 4 8 _ _ _ K1.out).mono ?_
  rintro e w1 ⟨v, rfl, hR, hb⟩
  have HB1 := Aside0.mk hb
  have HT1 := Aside0.mk (HT.out.below hb)
  obtain ⟨A, ca, rfl, hca, hCa⟩ := Kd.R_reads hR
  rw [show (longl 2 0).length = 5 from rfl] at hCa ⊢
  obtain ⟨ad, rfl, t0, t1, t2, t3, t4, t5, t6, t7⟩ := at_T37 hCa 0 (by decide) (by decide)
  clear hCa hca hR hb HT
  simp only [show (0 : Int).toNat * 8 = 0 from rfl] at t0 t1 t2 t3 t4 t5 t6 t7
  rw [show ad.add 0 = ad from by cases ad; rfl] at t0 t1 t2 t3 t4 t5 t6 t7
  simp only [show rd_T37 (longl 2 0) 0 = ps 2 2 0 (-1) 1 1 0 1 from rfl, ps] at t0 t1 t2 t3 t4 t5 t6 t7
  go_wp2_with fail
  refine (line_turn 2 2 0 (-1) 1 0 1 _ (by decide) (by decide) (by decide) (by decide) HT1.out).mono ?_
  rintro e w2 ⟨rfl, hb2⟩
  have HB2 := Aside0.mk (below_then HB1.out HB1.out.size hb2)
  clear hb2
  rw [show jn [⟨#[116, 117, 114, 110]⟩, extw 0, extw 1, ita 2, ita 2] = ⟨#[116, 117, 114, 110, 32, 105, 110, 112, 117, 116, 32, 108, 101, 102, 116, 32, 50, 32, 50]⟩ by kernel_rfl]
  go_wp2_with fail
  go_ret
  exact ⟨rfl, HB2.out⟩
end Go.Proofs.YtpnkcjnemoompaaGreatDoor.Plan
end
section
namespace Go.Proofs.YtpnkcjnemoompaaGreatDoor.Kern
open Go.RowKit Go.Proofs.YtpnkcjnemoompaaGreatDoor.Plan Go.Proofs.YtpnkcjnemoompaaGreatDoor Go.Proofs.YtpnkcjnemoompaaGreatDoor.Ext Go.Proofs.YtpnkcjnemoompaaGreatDoor.PPlan Go.Proofs.YtpnkcjnemoompaaGreatDoor.PFft Go.Proofs.YtpnkcjnemoompaaGreatDoor.Pure Go.Proofs.YtpnkcjnemoompaaGreatDoor.Obj Go.Proofs.YtpnkcjnemoompaaGreatDoor.Fft Go.Proofs.YtpnkcjnemoompaaGreatDoorW.PrintWords Go.Proofs.YtpnkcjnemoompaaGreatDoorW.PrintLast Go.Proofs.YtpnkcjnemoompaaGreatDoorW.PrintMore
set_option linter.unusedVariables false
set_option linter.unusedSimpArgs false
set_option maxRecDepth 100000
theorem In.of {w : World} {a : Option Addr} {len cap : Nat} {z : List Int} (h : (a = none ∧ len = 0 ∧ cap = 0 ∧ z = []) ∨ ∃ x, a = some x ∧ len ≤ cap ∧ cap ≤ maxLen ∧ z.length = cap ∧ (∀ i, i < z.length → w.cell? (x.add i) = some (.int .u64 (z.getD i 0))) ∧ ∀ n ∈ z, (Lit.int .u64 n).wf = true) : ∃ l : List Int, len = l.length ∧ In w a cap l ∧ Ws l := by
  obtain ⟨l, rfl, hr, hm, hw, hc⟩ := ReadsInt.ofRowC h
  exact ⟨l, rfl, ⟨Kd.C_of_reads (d := (0 : Int)) (h1 := fun _ => rfl) hr, hc⟩, Ws.of hw⟩
theorem bad_n {a b : Int} (h : a ≠ b) : (a != b) = true := by simpa [bne_iff_ne] using h
theorem ref_odd (l : List Int) (R C d T s K F O : Int) (h : ¬ GoodS R C ∨ (GoodS R C ∧ (wrap64 (R * C) != (l.length : Int)) = true)) : Ev (fun k => abacistref24_Apply.f k l R C d T s K F O) ([], 19) := by
  have hj : Ev (fun k => abacistref24_Apply.j0 k l true R C d T s K F O) ([], 19) := by
    refine Ev.step (f := fun _ => some (([] : List Int), (19 : Int))) (fun k => ?_) (Ev.now _)
    simp only [abacistref24_Apply.j0]
    rw [if_pos trivial]
  unfold abacistref24_Apply.f
  rcases h with h | ⟨h, h2⟩
  · exact Ev.bind (rgood_no R C h) (Ev_ifn (by decide) hj)
  · refine Ev.bind (rgood_yes R C h) (Ev_if rfl ?_)
    rw [h2]
    exact hj
theorem ref_go (l : List Int) (R C d T s K F O : Int) (h : GoodS R C) (h2 : (wrap64 (R * C) != (l.length : Int)) = false) (r : List Int × Int) (hr : Ev (fun k => abacistref24_Apply.j0 k l false R C d T s K F O) r) : Ev (fun k => abacistref24_Apply.f k l R C d T s K F O) r := by
  unfold abacistref24_Apply.f
  refine Ev.bind (rgood_yes R C h) (Ev_if rfl ?_)
  rw [h2]
  exact hr
theorem ref_turn (l : List Int) (R C : Nat) (d T s F O : Int) (hR : R ≤ 1048576) (hC : C ≤ 1048576) (hRC : R * C = l.length) (hL : l.length ≤ 1048576) : Ev (fun k => abacistref24_Apply.j0 k l false (R : Int) (C : Int) d T s 1 F O) (tl (C * R) (tps l R C), 0) := by
  refine Ev.step (f := fun k => (abacistref06_Transpose.f k l (R : Int) (C : Int)).bind fun t => some (t, 0)) (fun k => ?_) (Ev.bind (rTpose l R C hR hC hRC hL) (Ev.now _))
  simp only [abacistref24_Apply.j0]
  rw [if_neg (by decide), if_pos trivial]
theorem ref_j1 (l : List Int) (R C d T s K F O : Int) : Ev (fun k => abacistref24_Apply.j1 k l true R C d T s K F O) ([], 18) := by
  refine Ev.step (f := fun _ => some (([] : List Int), (18 : Int))) (fun k => ?_) (Ev.now _)
  simp only [abacistref24_Apply.j1]
  rw [if_pos trivial]
theorem ref_kind (l : List Int) (R C d T s K F O : Int) (h1 : K ≠ 1) (h2 : K ≠ 2) : Ev (fun k => abacistref24_Apply.j0 k l false R C d T s K F O) ([], 18) := by
  refine Ev.step (f := fun k => abacistref24_Apply.j1 k l true R C d T s K F O) (fun k => ?_) (ref_j1 _ _ _ _ _ _ _ _ _)
  simp only [abacistref24_Apply.j0]
  rw [if_neg (by decide), if_neg h1, if_neg h2]
theorem ref_dir (l : List Int) (R C d T s F O : Int) (h : ¬ (d = 0 ∨ d = 1)) : Ev (fun k => abacistref24_Apply.j0 k l false R C d T s 2 F O) ([], 18) := by
  refine Ev.step (f := fun k => abacistref24_Apply.j1 k l true R C d T s 2 F O) (fun k => ?_) (ref_j1 _ _ _ _ _ _ _ _ _)
  simp only [abacistref24_Apply.j0]
  rw [if_neg (by decide), if_neg (by decide), if_pos trivial]
  by_cases h1 : d < 0
  · rw [if_pos h1]
  · rw [if_neg h1, decide_eq_true (show d > 1 by omega)]
theorem ref_two (l : List Int) (R C d T s F O : Int) (hd : d = 0 ∨ d = 1) (r : List Int × Int) (hr : Ev (fun k => abacistref24_Apply.j1 k l false R C d T s 2 F O) r) : Ev (fun k => abacistref24_Apply.j0 k l false R C d T s 2 F O) r := by
  refine Ev.step (fun k => ?_) hr
  simp only [abacistref24_Apply.j0]
  rw [if_neg (by decide), if_neg (by decide), if_pos trivial, if_neg (by omega), decide_eq_false (show ¬ d > 1 by omega)]
theorem ref_range (l : List Int) (R C d T s F O : Int) (h : T < -1 ∨ T > 32) : Ev (fun k => abacistref24_Apply.j1 k l false R C d T s 2 F O) ([], 2) := by
  refine Ev.step (f := fun _ => some (([] : List Int), (2 : Int))) (fun k => ?_) (Ev.now _)
  simp only [abacistref24_Apply.j1]
  rw [if_neg (by decide)]
  by_cases h1 : T < -1
  · rw [if_pos h1]
  · rw [if_neg h1, if_pos (by omega)]
theorem ref_rows (l : List Int) (R C d T s F O : Int) (h1 : -1 ≤ T) (h2 : T ≤ 32) (m : List Int) (hm : Ev (fun k => abacistref24_Rows.f k l R C d T s) m) : Ev (fun k => abacistref24_Apply.j1 k l false R C d T s 2 F O) (m, 0) := by
  refine Ev.step (f := fun k => (abacistref24_Rows.f k l R C d T s).bind fun t => some (t, 0)) (fun k => ?_) (Ev.bind hm (Ev.now _))
  simp only [abacistref24_Apply.j1]
  rw [if_neg (by decide), if_neg (by omega), if_neg (by omega)]
theorem wrap_rc (R C : Int) (h : GoodS R C) : wrap64 (R * C) = R * C := by
  obtain ⟨a, b, hab, rfl, rfl⟩ := good_ints h
  rw [← Int.natCast_mul, ← Nat.pow_add]
  have := pow32 hab
  generalize 2 ^ (a + b) = y at *
  exact wrap_i _ (by omega) (by omega)
theorem apply_all (A : Option Addr) (c : Nat) (l : List Int) (R C d T s K F O : Int) (hL : l.length ≤ 64) (hW : Ws l) (hs : W64 s) (w : World) (hI : In w A c l) (hT : TabOK w) :
    ∃ (m : List Int) (n : Int), m.length ≤ 64 ∧ Ev (fun k => abacistref24_Apply.f k l R C d T s K F O) (m, n) ∧
      Calls Tryz.prog 9 #[.slice A l.length c, .agg #[.int .i64 R, .int .i64 C, .int .i64 d, .int .i64 T, .int .u64 s, .int .i64 K, .int .i64 F, .int .i64 O]] w fun e w' => ∃ A' c', e = .returned (.tuple #[.slice A' m.length c', .int .i64 n]) ∧ In w' A' c' m ∧ Below w.heap.size w w' := by
  by_cases hg : GoodS R C
  · have hwr := wrap_rc R C hg
    by_cases hz : R * C = (l.length : Int)
    · obtain ⟨a, b, hab, rfl, rfl⟩ := good_ints hg
      have hRC : 2 ^ a * 2 ^ b = l.length := by exact_mod_cast hz
      have hab2 : a + b ≤ 20 := by
        rcases Nat.lt_or_ge 20 (a + b) with h | h
        · have := pow_mono (show 21 ≤ a + b by omega)
          rw [← Nat.pow_add] at hRC
          have e : (2 : Nat) ^ 21 = 2097152 := by decide
          clear hwr
          omega
        · exact h
      have hR : 2 ^ a ≤ 1048576 := pow20 (by omega)
      have hC : 2 ^ b ≤ 1048576 := pow20 (by omega)
      have hne : (wrap64 (((2 ^ a : Nat) : Int) * ((2 ^ b : Nat) : Int)) != (l.length : Int)) = false := by rw [hwr, hz, bne_eq_false_iff_eq]
      have hL2 : l.length ≤ 1048576 := by omega
      clear hwr
      by_cases k1 : K = 1
      · subst k1
        refine ⟨tl (2 ^ b * 2 ^ a) (tps l (2 ^ a) (2 ^ b)), 0, by rw [tl_len, Nat.mul_comm, hRC]; exact hL, ref_go l _ _ _ _ _ _ _ _ hg hne _ (ref_turn l _ _ _ _ _ _ _ hR hC hRC hL2), ?_⟩
        have hn : (tl (2 ^ b * 2 ^ a) (tps l (2 ^ a) (2 ^ b))).length = l.length := by rw [tl_len, Nat.mul_comm, hRC]
        rw [hn]
        exact apply_turn A c l (2 ^ a) (2 ^ b) d T s 1 F O hg hRC hL2 hC w hI hT
      · by_cases k2 : K = 2
        · subst k2
          by_cases hd : d = 0 ∨ d = 1
          · by_cases ht : T < -1 ∨ T > 32
            · exact ⟨[], 2, by simp, ref_go l _ _ _ _ _ _ _ _ hg hne _ (ref_two l _ _ _ _ _ _ _ hd _ (ref_range l _ _ _ _ _ _ _ ht)), (apply_refuses A c l (2 ^ a) (2 ^ b) d T s 2 F O hg hRC hL2 2 (.inr ⟨hd, ht, rfl⟩) w hI hT).mono fun e w' ⟨he, hb⟩ => ⟨none, 0, he, in_nil w', hb⟩⟩
            · refine ⟨tb l.length (pv l (2 ^ b) b d T s), 0, by rw [tb_len]; exact hL, ref_go l _ _ _ _ _ _ _ _ hg hne _ (ref_two l _ _ _ _ _ _ _ hd _ (ref_rows l _ _ _ _ _ _ _ (by omega) (by omega) _ (rRows l hW b (by omega) (2 ^ a) (2 ^ b) rfl hR hC hRC hL2 d T s hd (by omega) hs))), ?_⟩
              rw [tb_len]
              exact apply_rows A c l (2 ^ a) (2 ^ b) d T s 2 F O hg hRC hL2 a b rfl rfl hab2 hd (by omega) (by omega) hs hW w hI hT
          · exact ⟨[], 18, by simp, ref_go l _ _ _ _ _ _ _ _ hg hne _ (ref_dir l _ _ _ _ _ _ _ hd), (apply_refuses A c l (2 ^ a) (2 ^ b) d T s 2 F O hg hRC hL2 18 (.inl ⟨hd, rfl⟩) w hI hT).mono fun e w' ⟨he, hb⟩ => ⟨none, 0, he, in_nil w', hb⟩⟩
        · exact ⟨[], 18, by simp, ref_go l _ _ _ _ _ _ _ _ hg hne _ (ref_kind l _ _ _ _ _ _ _ _ k1 k2), (apply_kind A c l (2 ^ a) (2 ^ b) d T s K F O hg hRC hL2 (by simpa using k1) (by simpa using k2) w hI hT).mono fun e w' ⟨he, hb⟩ => ⟨none, 0, he, in_nil w', hb⟩⟩
    · exact ⟨[], 19, by simp, ref_odd l _ _ _ _ _ _ _ _ (.inr ⟨hg, by rw [hwr]; exact bad_n hz⟩), (apply_size A c l R C d T s K F O hg (R * C) (size_is R C hg) (bad_n (Ne.symm hz)) w hI hT).mono fun e w' ⟨he, hb⟩ => ⟨none, 0, he, in_nil w', hb⟩⟩
  · exact ⟨[], 19, by simp, ref_odd l _ _ _ _ _ _ _ _ (.inl hg), (apply_bad A c l R C d T s K F O hg w hI hT).mono fun e w' ⟨he, hb⟩ => ⟨none, 0, he, in_nil w', hb⟩⟩
set_option maxHeartbeats 2000000 in
theorem applies_ (A : Option Addr) (c : Nat) (l : List Int) (R C d T s K F O : Int) (hL : l.length ≤ 64) (hW : Ws l) (hs : W64 s) (w : World) (hI : In w A c l) (hT : TabP w) :
    Calls Tryz.prog 4 #[.slice A l.length c, .agg #[.int .i64 R, .int .i64 C, .int .i64 d, .int .i64 T, .int .u64 s, .int .i64 K, .int .i64 F, .int .i64 O]] w fun e w' => e = .returned (.bool true) ∧ Below w.heap.size w w' := by
  have f1 : decide ((l.length : Int) > 64) = false := decide_eq_false (by omega)
  have f2 : decide ((64 : Int) < (l.length : Int)) = false := decide_eq_false (by omega)
  have HB := Aside0.mk (below_alloc (Below.refl w.heap.size w) (Obj.cells #[.int .i64 R, .int .i64 C, .int .i64 d, .int .i64 T, .int .u64 s, .int .i64 K, .int .i64 F, .int .i64 O] 37))
  have HS := Aside0.mk (Bk.new w 37 [.int .i64 R, .int .i64 C, .int .i64 d, .int .i64 T, .int .u64 s, .int .i64 K, .int .i64 F, .int .i64 O])
  have HL := Aside0.mk (hI.below HB.out)
  have HT := Aside0.mk hT
  have u0 := HS.out.cell 0
  have u1 := HS.out.cell 1
  have u2 := HS.out.cell 2
  have u3 := HS.out.cell 3
  have u4 := HS.out.cell 4
  have u5 := HS.out.cell 5
  have u6 := HS.out.cell 6
  have u7 := HS.out.cell 7
  clear hI hT
  go_enter Tryz.func4, Tryz.ntmps4
  go_wp2_with fail
  clear u0 u1 u2 u3 u4 u5 u6 u7
  with_reducible refine (awake_calls _ (HT.out.below HB.out)).mono ?_
  rintro e w1 ⟨rfl, hb⟩
  have HB1 := Aside0.mk (below_then HB.out HB.out.size hb)
  have HS1 := Aside0.mk (HS.out.below hb)
  have HL1 := Aside0.mk (HL.out.below hb)
  clear hb HB HS HL
  have u0 := HS1.out.cell 0
  have u1 := HS1.out.cell 1
  have u2 := HS1.out.cell 2
  have u3 := HS1.out.cell 3
  have u4 := HS1.out.cell 4
  have u5 := HS1.out.cell 5
  have u6 := HS1.out.cell 6
  have u7 := HS1.out.cell 7
  go_wp2_with fail
  clear u0 u1 u2 u3 u4 u5 u6 u7
  obtain ⟨m, n, hm, hr, hc⟩ := apply_all A c l R C d T s K F O hL hW hs w1 HL1.out (HT.out.below HB1.out).bits
  obtain ⟨k, hk⟩ := hr.rounds
  obtain ⟨k2, hk2⟩ := (same_yes m m (by omega) rfl).rounds
  have HK := Aside0.mk hk
  have HK2 := Aside0.mk hk2
  clear hk hk2 hr
  with_reducible refine hc.mono ?_
  clear hc
  rintro e w2 ⟨A2, c2, rfl, hi, hb⟩
  have HB2 := Aside0.mk (below_then HB1.out HB1.out.size hb)
  have HS2 := Aside0.mk (HS1.out.below hb)
  have HL2 := Aside0.mk (HL1.out.below hb)
  have HM2 := Aside0.mk hi
  clear hb hi HB1 HS1 HL1
  have u0 := HS2.out.cell 0
  have u1 := HS2.out.cell 1
  have u2 := HS2.out.cell 2
  have u3 := HS2.out.cell 3
  have u4 := HS2.out.cell 4
  have u5 := HS2.out.cell 5
  have u6 := HS2.out.cell 6
  have u7 := HS2.out.cell 7
  go_wp2_with fail
  clear u0 u1 u2 u3 u4 u5 u6 u7
  with_reducible refine (abacistref24_Apply.calls k A c l R C d T s K F O m n _ HL2.out.r HL2.out.c HK.out).mono ?_
  rintro e w3 ⟨v, rfl, hr, hb⟩
  obtain ⟨A3, c3, hv, hl3, hc3⟩ := Kd.R_reads hr
  subst hv
  have HB3 := Aside0.mk (below_then HB2.out HB2.out.size hb)
  have HM3 := Aside0.mk (HM2.out.below hb)
  have HN3 := Aside0.mk (In.mk hc3 hl3)
  clear hr hb hl3 hc3 HB2 HS2 HL2 HM2
  have nn : (n == n) = true := beq_self_eq_true n
  go_wp2_with fail
  with_reducible refine (abacistref04_Same.calls k2 A2 c2 m A3 c3 m true _ HM3.out.r HM3.out.c HN3.out.r HN3.out.c HK2.out).mono ?_
  rintro e w4 ⟨rfl, hb⟩
  have HB4 := Aside0.mk (below_then HB3.out HB3.out.size hb.below)
  clear hb
  go_wp2_with fail
  go_ret
  exact ⟨rfl, HB4.out⟩
set_option maxHeartbeats 2000000 in
theorem applies_long (A : Option Addr) (c : Nat) (l : List Int) (R C d T s K F O : Int) (hL : 64 < l.length) (w : World) (hI : In w A c l) (hT : TabP w) :
    Calls Tryz.prog 4 #[.slice A l.length c, .agg #[.int .i64 R, .int .i64 C, .int .i64 d, .int .i64 T, .int .u64 s, .int .i64 K, .int .i64 F, .int .i64 O]] w fun e w' => e = .returned (.bool true) ∧ Below w.heap.size w w' := by
  have f1 : decide ((l.length : Int) > 64) = true := decide_eq_true (by omega)
  have f2 : decide ((64 : Int) < (l.length : Int)) = true := decide_eq_true (by omega)
  have HB := Aside0.mk (below_alloc (Below.refl w.heap.size w) (Obj.cells #[.int .i64 R, .int .i64 C, .int .i64 d, .int .i64 T, .int .u64 s, .int .i64 K, .int .i64 F, .int .i64 O] 37))
  have HS := Aside0.mk (Bk.new w 37 [.int .i64 R, .int .i64 C, .int .i64 d, .int .i64 T, .int .u64 s, .int .i64 K, .int .i64 F, .int .i64 O])
  have HL := Aside0.mk (hI.below HB.out)
  have HT := Aside0.mk hT
  have u0 := HS.out.cell 0
  have u1 := HS.out.cell 1
  have u2 := HS.out.cell 2
  have u3 := HS.out.cell 3
  have u4 := HS.out.cell 4
  have u5 := HS.out.cell 5
  have u6 := HS.out.cell 6
  have u7 := HS.out.cell 7
  clear hI hT
  go_enter Tryz.func4, Tryz.ntmps4
  go_wp2_with fail
  clear u0 u1 u2 u3 u4 u5 u6 u7
  with_reducible refine (awake_calls _ (HT.out.below HB.out)).mono ?_
  rintro e w1 ⟨rfl, hb⟩
  have HB1 := Aside0.mk (below_then HB.out HB.out.size hb)
  clear hb HB HS HL
  go_wp2_with fail
  go_ret
  exact ⟨rfl, HB1.out⟩
theorem PlanAppliesRow (a0 : Option Addr) (len0 cap0 : Nat) (z0 : List Int) (R C d T s K F O : Int) (w : World)
    (w0 : (a0 = none ∧ len0 = 0 ∧ cap0 = 0 ∧ z0 = []) ∨ ∃ x, a0 = some x ∧ len0 ≤ cap0 ∧ cap0 ≤ maxLen ∧ z0.length = cap0 ∧ (∀ i, i < z0.length → w.cell? (x.add i) = some (.int .u64 (z0.getD i 0))) ∧ ∀ n ∈ z0, (Lit.int .u64 n).wf = true)
    (hs : W64 s) (hT : TabP w) :
    Calls Tryz.prog 4 #[.slice a0 len0 cap0, .agg #[.int .i64 R, .int .i64 C, .int .i64 d, .int .i64 T, .int .u64 s, .int .i64 K, .int .i64 F, .int .i64 O]] w fun e w' => e = .returned (.bool true) ∧ Below w.heap.size w w' := by
  obtain ⟨l, rfl, hl, hW⟩ := In.of w0
  by_cases h1 : 64 < l.length
  · exact applies_long a0 cap0 l R C d T s K F O h1 w hl hT
  · exact applies_ a0 cap0 l R C d T s K F O (by omega) hW hs w hl hT
end Go.Proofs.YtpnkcjnemoompaaGreatDoor.Kern
end
section
namespace Go.Proofs.YtpnkcjnemoompaaGreatDoor.Plan
open Go.RowKit Go.Proofs.YtpnkcjnemoompaaGreatDoor Go.Proofs.YtpnkcjnemoompaaGreatDoor.Ext Go.Proofs.YtpnkcjnemoompaaGreatDoorW.PrintWords
set_option linter.unusedVariables false
set_option linter.unusedSimpArgs false
def strData {H : Type} (ss : List (List UInt8)) : DataW H := .agg (ss.map fun s => .lit (.string s))
theorem cells_of_strs {H : Type} {enc : TypeId × Value → H} {P : Program} {w : World} {base : Nat} {sp : Nat → Bool} {held : Bool} {fuel : Nat} {t e : TypeId} {n : Nat} {cs : List Value} {ss : List (List UInt8)} {p : List MemPlace}
    (ht : P.underlying t = some (.array n e)) (he : P.underlying e = some .string) (hce : P.cellsOf e = 1) (hct : P.cellsOf t = n)
    (h : DataW.trod enc P w base sp held fuel t cs = some (strData ss, p)) : cs = ss.map fun s => Value.string ⟨s.toArray⟩ := by
  cases fuel with
  | zero => simp [DataW.trod] at h
  | succ fuel =>
    simp only [DataW.trod, ht, hce, hct, Nat.mul_one] at h
    split at h
    · rename_i hl
      obtain ⟨xs, hm, hx⟩ := Option.map_eq_some_iff.1 h
      have hxs : xs.map (·.1) = ss.map fun s => (DataW.lit (.string s) : DataW H) := by
        have := congrArg Prod.fst hx
        simpa [strData] using this
      have hxl : xs.length = n := by simpa using Lib.mapM_length hm
      have hzl : ss.length = n := by
        have := congrArg List.length hxs
        simp at this
        omega
      apply List.ext_getElem?
      intro i
      by_cases hi : i < n
      · obtain ⟨b, hb, hf⟩ := Lib.mapM_at hm i i (by simp [hi])
        obtain ⟨z, hc, rfl, _⟩ := DataW.trod_string he hf
        have h1 : cs[i]? = some (.string z) := by
          have := congrArg (·[0]?) hc
          simpa [List.getElem?_take, List.getElem?_drop] using this
        have h2 : (xs.map (·.1))[i]? = some (DataW.lit (.string z.data.toList) : DataW H) := by simp [hb]
        rw [hxs] at h2
        simp only [List.getElem?_map, Option.map_eq_some_iff, DataW.lit.injEq, Lit.string.injEq] at h2
        obtain ⟨z', hz', rfl⟩ := h2
        simp [h1, hz']
      · rw [List.getElem?_eq_none (by omega), List.getElem?_eq_none (by simp; omega)]
    · cases h
theorem tabP_of {W : World} (h : laidMetH Tryz.prog [("math/bits.deBruijn32tab", Rows.laid_math_bits_deBruijn32tab), ("math/bits.deBruijn64tab", Rows.laid_math_bits_deBruijn64tab), ("internal/strconv.uint64pow10", Rows.laid_internal_strconv_uint64pow10), ("abacist/plan.extents", Rows.laid_abacist_plan_extents)] W) : TabP W := by
  rw [MakeChecks.laidMetH_plain _ _ _ (by kernel_rfl)] at h
  have h1 := Go.laidMet.tail (show laidMet Tryz.prog (_ :: _) W from h)
  have h2 := Go.laidMet.tail (show laidMet Tryz.prog (_ :: _) W from h1)
  have h3 := Go.laidMet.tail (show laidMet Tryz.prog (_ :: _) W from h2)
  refine ⟨?_, ?_, ?_⟩
  · obtain ⟨ps, ⟨g', t', cs, fuel, p, q, hg', ht', hvar, hd, _, _⟩, _⟩ := h3
    have hg : Tryz.prog.globalNamed "abacist/plan.extents" = some 0 := by kernel_rfl
    have hty : (Tryz.prog.globals[0]?).map (·.type) = some 61 := by kernel_rfl
    obtain rfl := Option.some.inj (hg.symm.trans hg')
    obtain rfl := Option.some.inj (hty.symm.trans ht')
    have hcs := cells_of_strs (ss := [[105, 110, 112, 117, 116], [108, 101, 102, 116], [114, 105, 103, 104, 116], [111, 117, 116, 112, 117, 116]]) Tryz.underlying61 Tryz.underlying9 (by kernel_rfl) (by kernel_rfl) hd
    intro j hj
    rw [World.var?_cell hg hvar j]
    have e : cs = (cs.toList).toArray := by simp
    rw [e, hcs]
    rcases (by omega : j = 0 ∨ j = 1 ∨ j = 2 ∨ j = 3) with rfl | rfl | rfl | rfl <;> rfl
  · exact Lib.tabIs_of_head (g := 2) (t := 118) (e := 33) (n := 20) (by kernel_rfl) (by kernel_rfl) Tryz.underlying118 Tryz.underlying33 (by kernel_rfl) (by kernel_rfl) h2
  · have hT : Lib.TabIs Tryz.prog W "math/bits.deBruijn64tab" .u8 (Lib.deBruijn64tab.map fun (n : Nat) => (n : Int)) := Lib.tabIs_of_head (g := 1) (t := 108) (e := 5) (n := 64) (by kernel_rfl) (by kernel_rfl) Tryz.underlying108 Tryz.underlying5 (by kernel_rfl) (by kernel_rfl) h1
    refine ⟨fun j hj => ?_⟩
    have hc := hT.cell (g := 1) (by kernel_rfl) j (by rw [List.length_map]; exact hj)
    rw [hc]
    have hl : j < Lib.deBruijn64tab.length := hj
    simp [List.getD, hl]
end Go.Proofs.YtpnkcjnemoompaaGreatDoor.Plan
end
