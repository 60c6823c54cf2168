import Derived.Test.YthppiphldaopnaaDoorObj
import Derived.Test.YthppiphldaopnaaDoorShapeB
import Derived.Test.YthppiphldaopnaaDoorPShapex4
import Derived.Test.YthppiphldaopnaaDoorPBlkx1
import Derived.BigQuiet
import Derived.Deep.QuietTactic
import Derived.StillTailTactics
import Derived.Outline
/-! Blocks: what New, Of, Shape, Words, Get and Put do in memory. -/
namespace Go.Proofs.YthppiphldaopnaaDoor.Obj
open Go.RowKit Go.Proofs.YthppiphldaopnaaDoor Go.Proofs.YthppiphldaopnaaDoor.Ext Go.Proofs.YthppiphldaopnaaDoor.PShape Go.Proofs.YthppiphldaopnaaDoor.PBlk Go.Proofs.YthppiphldaopnaaDoor.Pure Go.Proofs.YthppiphldaopnaaDoorW.PrintWords Go.Proofs.YthppiphldaopnaaDoorW.PrintLast Go.Proofs.YthppiphldaopnaaDoorW.PrintMore
set_option linter.unusedVariables false
set_option linter.unusedSimpArgs false

/-- A block at p, its words at g. -/
structure Blo (w : World) (p g : Nat) (r c : Int) (xs : List Int) : Prop where
  obj : Bk w p 91 [.int .i64 r, .int .i64 c, .slice (some ⟨g, 0, none⟩) xs.length xs.length]
  row : Rw w g xs
  good : GoodS r c
  len : r * c = (xs.length : Int)
  max : xs.length ≤ 1048576
theorem Blo.ne {w : World} {p g : Nat} {r c : Int} {xs : List Int} (h : Blo w p g r c xs) : p ≠ g := h.obj.ne h.row (by decide)
theorem Blo.fr {w w' : World} {S : List Nat} {p g : Nat} {r c : Int} {xs : List Int} (h : Blo w p g r c xs) (hf : Fr w w' S) (hp : p ∉ S) (hg : g ∉ S) : Blo w' p g r c xs := ⟨h.obj.fr hf hp, h.row.fr hf hg, h.good, h.len, h.max⟩
theorem Blo.below {w w' : World} {p g : Nat} {r c : Int} {xs : List Int} (h : Blo w p g r c xs) (hb : Below w.heap.size w w') : Blo w' p g r c xs := ⟨h.obj.below hb, h.row.below hb, h.good, h.len, h.max⟩
theorem Blo.c0 {w : World} {p g : Nat} {r c : Int} {xs : List Int} (h : Blo w p g r c xs) : w.cell? ⟨p, 0, none⟩ = some (.int .i64 r) := h.obj.cell 0
theorem Blo.c1 {w : World} {p g : Nat} {r c : Int} {xs : List Int} (h : Blo w p g r c xs) : w.cell? ⟨p, 1, none⟩ = some (.int .i64 c) := h.obj.cell 1
theorem Blo.c2 {w : World} {p g : Nat} {r c : Int} {xs : List Int} (h : Blo w p g r c xs) : w.cell? ⟨p, 2, none⟩ = some (.slice (some ⟨g, 0, none⟩) xs.length xs.length) := h.obj.cell 2
theorem info66 : (Tryd.prog.info? 66).map (fun i => (i.zero, i.size, i.bytes)) = some (some (.int .u64 0), 1, 8) := by kernel_rfl
theorem size66 : (Tryd.prog.info? 66).map (·.size) = some 1 := by kernel_rfl
theorem good_pos {r c : Int} (h : GoodS r c) : 1 ≤ r ∧ 1 ≤ c ∧ r ≤ 4294967296 ∧ c ≤ 4294967296 ∧ 1 ≤ r * c ∧ r * c ≤ 4294967296 := by
  obtain ⟨x, y, rfl, rfl, hx, hy, hxy⟩ := good_bounds h
  have h1 : x ≤ x * y := Nat.le_mul_of_pos_right _ hy
  have h2 : y ≤ x * y := Nat.le_mul_of_pos_left _ hx
  have h3 : 0 < x * y := Nat.mul_pos hx hy
  rw [← Int.natCast_mul]
  omega
set_option maxRecDepth 100000 in
set_option maxHeartbeats 1000000 in
theorem new_yes (r c : Int) (n : Nat) (w : World) (hg : GoodS r c) (hn : r * c = (n : Int)) (hm : n ≤ 1048576) (hT : TabOK w) :
    Calls Tryd.prog 38 #[.agg #[.int .i64 r, .int .i64 c]] w fun e w' => ∃ p g, e = .returned (.pointer (some ⟨p, 0, none⟩)) ∧ Blo w' p g r c (List.replicate n 0) ∧ Below w.heap.size w w' ∧ w.heap.size ≤ p ∧ w.heap.size ≤ g := by
  have h1 := Aside0.mk (good_yes r c hg)
  have h2 := Aside0.mk (size_yes r c hg)
  have HG := Aside0.mk hg
  have HN := Aside0.mk hn
  have HT := Aside0.mk (TabOK.below hT (below_alloc (Below.refl _ _) (Obj.cells #[Value.int .i64 r, .int .i64 c] 26)))
  rw [hn] at h2
  clear hg hn hT
  go_enter Tryd.func38, Tryd.ntmps38
  go_wp2_with fail
  refine (shape_Good.calls r c true _ h1.out HT.out).mono ?_
  rintro e w1 ⟨rfl, hb⟩
  have hb1 : Below w.heap.size w w1 := below_then (below_alloc (Below.refl _ _) _) (below_alloc (Below.refl _ _) _).size hb
  have c0 : w1.cell? ⟨w.heap.size, 0, none⟩ = some (.int .i64 r) := pw_cell_below hb (by rw [World.cell?_alloc_at _ _ _ _ rfl]; rfl)
  have c1 : w1.cell? ⟨w.heap.size, 1, none⟩ = some (.int .i64 c) := pw_cell_below hb (by rw [World.cell?_alloc_at _ _ _ _ rfl]; rfl)
  have HT1 := Aside0.mk (TabOK.below HT.out hb)
  have HB1 := Aside0.mk hb1
  have C0 := Aside0.mk c0
  have C1 := Aside0.mk c1
  clear hb hb1
  go_wp2_with fail
  refine (shape_Size.calls r c (n : Int) _ h2.out HT1.out).mono ?_
  rintro e w2 ⟨rfl, hb⟩
  have c0' : w2.cell? ⟨w.heap.size, 0, none⟩ = some (.int .i64 r) := pw_cell_below hb C0.out
  have c1' : w2.cell? ⟨w.heap.size, 1, none⟩ = some (.int .i64 c) := pw_cell_below hb C1.out
  have HT2 := Aside0.mk (TabOK.below HT1.out hb)
  have HB2 := Aside0.mk (below_then HB1.out HB1.out.size hb)
  have hm2 : decide (1048576 < (n : Int)) = false := decide_eq_false (by omega)
  clear hb c0 c1
  go_wp2_with fail
  refine start_ (n := 8) (S := fun w' => w'.cell? ⟨w.heap.size, 0, none⟩ = some (.int .i64 r) ∧ w'.cell? ⟨w.heap.size, 1, none⟩ = some (.int .i64 c)) (ds := []) #[false, false, false, false, false, false, false, false] (by kernel_rfl) rfl rfl ⟨c0', c1'⟩ (fun hHeld => ?_)
  refine take_ (i := 0) (N := some 11) (v := ?_) (a' := ?_) #[true, false, false, false, false, false, false, false] rfl rfl (by kernel_rfl) (fun _ _ _ h => h) (Or.inl ⟨by rfl, ?_⟩) hHeld ?_ ?_
  rotate_left
  · rintro w' ⟨s0, s1⟩
    go_simp
    with_reducible rfl
  rotate_left
  · simp only [Act.put, List.setIfInBounds_toArray, List.set_cons_zero, List.set_cons_succ, i64_w, i32_w]
    rfl
  refine take_ (i := 1) (N := some 12) (v := ?_) (a' := ?_) #[true, true, false, false, false, false, false, false] rfl rfl (by kernel_rfl) (fun _ _ _ h => h) (Or.inl ⟨by rfl, ?_⟩) hHeld ?_ ?_
  rotate_left
  · rintro w' ⟨s0, s1⟩
    go_simp
    with_reducible rfl
  rotate_left
  · simp only [Act.put, List.setIfInBounds_toArray, List.set_cons_zero, List.set_cons_succ, i64_w, i32_w]
    rfl
  refine one_ (i := 2) (N := some 13) #[true, true, true, false, false, false, false, false] rfl rfl (by kernel_rfl) (by decide) (fun K hK => ?_)
  refine goes_ Tryd.func21 (by kernel_rfl) rfl #[.agg #[.int .i64 r, .int .i64 c]] (by rfl) rfl rfl (by simp only [List.map_toArray, List.map_cons, List.map_nil]; rfl) ?_
  with_reducible refine (shape_Size.calls r c (n : Int) _ h2.out (TabOK.drew HT2.out)).mono ?_
  rintro e w3 ⟨rfl, hb⟩
  refine ⟨_, rfl, ?_⟩
  have c0 := pw_cell_below hb hHeld.1
  have c1 := pw_cell_below hb hHeld.2
  have HB3 := Aside0.mk (below_then (below_drew1 HB2.out) (below_drew1 HB2.out).size hb)
  clear hb hHeld
  refine hK.out _ _ ⟨c0, c1⟩ (fun hHeld => ?_)
  clear hK K
  refine norm_ (a' := ?_) ?_ ?_
  rotate_left
  · show Act.put _ (some 13) _ = _
    simp only [Act.put, List.setIfInBounds_toArray, List.set_cons_zero, List.set_cons_succ, i64_w, i32_w]
    rfl
  refine one_ (i := 3) (N := some 14) #[true, true, true, true, false, false, false, false] rfl rfl (by kernel_rfl) (by decide) (fun K hK => ?_)
  refine make_step 47 _ _ n (by rfl) rfl rfl rfl rfl (by kernel_rfl) info66 (by omega) ?_
  intro w4 hrow hb hsz
  have c2 := pw_cell_below hb hHeld.1
  have c3 := pw_cell_below hb hHeld.2
  have HR := Aside0.mk hrow
  have HB4 := Aside0.mk (below_then HB3.out HB3.out.size hb)
  clear hb hrow hHeld hsz
  refine hK.out _ _ ⟨c2, c3⟩ (fun hHeld => ?_)
  clear hK K
  refine norm_ (a' := ?_) ?_ ?_
  rotate_left
  · show Act.put _ (some 14) _ = _
    simp only [Act.put, List.setIfInBounds_toArray, List.set_cons_zero, List.set_cons_succ, i64_w, i32_w]
    rfl
  refine pure_ (i := 4) (N := some 15) (v := ?_) (a' := ?_) #[true, true, true, true, true, false, false, false] rfl rfl (by kernel_rfl) (fun _ _ _ h => h) (Or.inl ⟨by rfl, ?_⟩) ?_ ?_
  rotate_left
  · intro w'
    go_simp
    with_reducible rfl
  rotate_left
  · simp only [Act.put, List.setIfInBounds_toArray, List.set_cons_zero, List.set_cons_succ, i64_w, i32_w]
    rfl
  refine pure_ (i := 5) (N := some 16) (v := ?_) (a' := ?_) #[true, true, true, true, true, true, false, false] rfl rfl (by kernel_rfl) (fun _ _ _ h => h) (Or.inl ⟨by rfl, ?_⟩) ?_ ?_
  rotate_left
  · intro w'
    go_simp
    with_reducible rfl
  rotate_left
  · simp only [Act.put, List.setIfInBounds_toArray, List.set_cons_zero, List.set_cons_succ, i64_w, i32_w]
    rfl
  refine one_ (i := 6) (N := some 17) #[true, true, true, true, true, true, true, false] rfl rfl (by kernel_rfl) (by decide) (fun K hK => ?_)
  refine value_ (w1 := ?_) (v := ?_) (by rfl) rfl ?_ ?_
  rotate_left 2
  · go_simp
    constructor
    · rfl
    · rfl
  have c4 := pw_cell_below (below_alloc (Below.refl _ w4) (Obj.cells #[.int .i64 r, .int .i64 c, .slice (some ⟨w3.heap.size, 0, none⟩) n n] 91)) hHeld.1
  have c5 := pw_cell_below (below_alloc (Below.refl _ w4) (Obj.cells #[.int .i64 r, .int .i64 c, .slice (some ⟨w3.heap.size, 0, none⟩) n n] 91)) hHeld.2
  refine hK.out _ _ ⟨c4, c5⟩ (fun hHeld => ?_)
  clear hK K
  refine norm_ (a' := ?_) ?_ ?_
  rotate_left
  · show Act.put _ (some 17) _ = _
    simp only [Act.put, List.setIfInBounds_toArray, List.set_cons_zero, List.set_cons_succ, i64_w, i32_w]
    rfl
  refine pure_ (i := 7) (N := some 2) (v := ?_) (a' := ?_) #[true, true, true, true, true, true, true, true] rfl rfl (by kernel_rfl) (fun _ _ _ h => h) (Or.inl ⟨by rfl, ?_⟩) ?_ ?_
  rotate_left
  · intro w'
    go_simp
    with_reducible rfl
  rotate_left
  · simp only [Act.put, List.setIfInBounds_toArray, List.set_cons_zero, List.set_cons_succ, i64_w, i32_w]
    rfl
  refine done_ (by kernel_rfl) ?_

  clear hHeld
  go_wp2
  go_ret
  have hg1 := HB3.out.size
  have hg2 := HB4.out.size
  refine ⟨_, _, rfl, ⟨by rw [List.length_replicate]; exact Bk.new w4 91 [_, _, _], Bk.alloc HR.out _, HG.out, by rw [List.length_replicate]; exact HN.out, by rw [List.length_replicate]; exact hm⟩, below_alloc HB4.out _, hg2, hg1⟩
/-- Where there is none. -/
def Fit (r c : Int) : Prop := GoodS r c ∧ r * c ≤ 1048576
set_option maxRecDepth 100000 in
theorem new_no (r c : Int) (w : World) (hg : ¬ Fit r c) (hT : TabOK w) :
    Calls Tryd.prog 38 #[.agg #[.int .i64 r, .int .i64 c]] w fun e w' => e = .returned (.pointer none) ∧ Below w.heap.size w w' := by
  have HT := Aside0.mk (TabOK.below hT (below_alloc (Below.refl _ _) (Obj.cells #[Value.int .i64 r, .int .i64 c] 26)))
  clear hT
  by_cases hgs : GoodS r c
  · have h1 := Aside0.mk (good_yes r c hgs)
    have h2 := Aside0.mk (size_yes r c hgs)
    have hm2 : decide (1048576 < r * c) = true := decide_eq_true (by have : ¬ r * c ≤ 1048576 := fun h => hg ⟨hgs, h⟩
                                                                     omega)
    clear hg hgs
    go_enter Tryd.func38, Tryd.ntmps38
    go_wp2_with fail
    refine (shape_Good.calls r c true _ h1.out HT.out).mono ?_
    rintro e w1 ⟨rfl, hb⟩
    have c0 : w1.cell? ⟨w.heap.size, 0, none⟩ = some (.int .i64 r) := pw_cell_below hb (by rw [World.cell?_alloc_at _ _ _ _ rfl]; rfl)
    have c1 : w1.cell? ⟨w.heap.size, 1, none⟩ = some (.int .i64 c) := pw_cell_below hb (by rw [World.cell?_alloc_at _ _ _ _ rfl]; rfl)
    have HT1 := Aside0.mk (TabOK.below HT.out hb)
    have HB1 := Aside0.mk (below_then (below_alloc (Below.refl _ _) _) (below_alloc (Below.refl _ _) _).size hb)
    clear hb
    go_wp2_with fail
    refine (shape_Size.calls r c (r * c) _ h2.out HT1.out).mono ?_
    rintro e w2 ⟨rfl, hb⟩
    have HB2 := Aside0.mk (below_then HB1.out HB1.out.size hb)
    clear hb c0 c1
    go_wp2
    go_ret
    exact ⟨rfl, HB2.out⟩
  · have h1 := Aside0.mk (good_no r c hgs)
    clear hg hgs
    go_enter Tryd.func38, Tryd.ntmps38
    go_wp2_with fail
    refine (shape_Good.calls r c false _ h1.out HT.out).mono ?_
    rintro e w1 ⟨rfl, hb⟩
    have HB1 := Aside0.mk (below_then (below_alloc (Below.refl _ _) _) (below_alloc (Below.refl _ _) _).size hb)
    clear hb
    go_wp2
    go_ret
    exact ⟨rfl, HB1.out⟩
/-- A row that came in, or was made. -/
structure In (w : World) (A : Option Addr) (c : Nat) (l : List Int) : Prop where
  r : Kd.C (Kd.int .u64) w A l.length l
  c : l.length ≤ c
theorem In.below {w W : World} {A : Option Addr} {c : Nat} {l : List Int} (h : In w A c l) (hb : Below w.heap.size w W) : In W A c l := ⟨Kd.C_below h.r hb, h.c⟩
theorem In.drew {w : World} {A : Option Addr} {c : Nat} {l : List Int} (h : In w A c l) : In w.drew A c l := ⟨Kd.C_drew h.r, h.c⟩
set_option maxRecDepth 100000 in
set_option maxHeartbeats 1000000 in
theorem of_yes (r c : Int) (A : Option Addr) (n : Nat) (l : List Int) (w : World) (hg : GoodS r c) (hn : r * c = (l.length : Int)) (hm : l.length ≤ 1048576) (hl : In w A n l) (hT : TabOK w) :
    Calls Tryd.prog 24 #[.agg #[.int .i64 r, .int .i64 c], .slice A l.length n] w fun e w' => ∃ p g, e = .returned (.tuple #[.pointer (some ⟨p, 0, none⟩), .int .i64 0]) ∧ Blo w' p g r c l ∧ Below w.heap.size w w' ∧ w.heap.size ≤ p ∧ w.heap.size ≤ g := by
  have hpos : 0 < l.length := by have := (good_pos hg).2.2.2.2.1; omega
  obtain ⟨ad, rfl, _⟩ := C_at hl.r 0 hpos
  have HG := Aside0.mk hg
  have HN := Aside0.mk hn
  have HL := Aside0.mk hl
  have HT := Aside0.mk (TabOK.below hT (below_alloc (Below.refl _ _) (Obj.cells #[Value.int .i64 r, .int .i64 c] 26)))
  clear hg hn hl hT
  go_enter Tryd.func24, Tryd.ntmps24
  go_wp2_with fail
  refine (new_yes r c l.length _ HG.out HN.out hm HT.out).mono ?_
  rintro e w1 ⟨p, g, rfl, hb, hbe, hp, hg⟩
  have hsz : w.heap.size < (w.alloc (Obj.cells #[Value.int .i64 r, .int .i64 c] 26)).heap.size := by simp
  have hp1 : w.heap.size ≤ p := by omega
  have hg1 : w.heap.size ≤ g := by omega
  have c2 := hb.c2
  rw [List.length_replicate] at c2
  have HB := Aside0.mk hb
  have HBe := Aside0.mk (below_then (below_alloc (Below.refl _ _) _) (below_alloc (Below.refl _ _) _).size hbe)
  clear hb hbe hsz hp hg
  go_wp2_with ((with_reducible refine gate_builtin (b := .copy) (xs := #[.tmp 26, .tmp 27]) rfl ?_); refine copy_row rfl (.tmp 26) (.tmp 27) 47 47 rfl Tryd.underlying47 size66 g 0 l.length l.length ad l.length n rfl rfl (List.replicate l.length 0) l HB.out.row (by simp) ?hsrc (by simp) ?_; (case hsrc => (intro j hj; obtain ⟨ad', q, hx⟩ := C_at (HL.out.below HBe.out).r j hj; cases q; exact hx)); intro w2 hr2 hf2 hs2; have HR := Aside0.mk hr2; have HF := Aside0.mk hf2; clear hr2 hf2 hs2)
  go_wp2
  refine bodyPost_ret (v := .tuple #[.pointer (some ⟨p, 0, none⟩), .int .i64 0]) (by simp [results, Tryd.results24, go_sem]) rfl ?_
  have hr := HR.out
  simp only [List.take_zero, List.nil_append, Nat.zero_add, List.drop_replicate, Nat.sub_self, List.replicate_zero, List.append_nil] at hr
  have hne := HB.out.ne
  refine ⟨p, g, rfl, ⟨?_, hr, HG.out, HN.out, hm⟩, HBe.out.trans (HF.out.below (B := w.heap.size) HBe.out.size ?_), hp1, hg1⟩
  · have := HB.out.obj.fr HF.out (by simpa using hne)
    rw [List.length_replicate] at this
    exact this
  · intro k hk
    simp only [List.mem_singleton] at hk
    omega
set_option maxRecDepth 100000 in
set_option maxHeartbeats 1000000 in
theorem of_no (r c : Int) (A : Option Addr) (n : Nat) (l : List Int) (w : World) (hg : ¬ (Fit r c ∧ r * c = (l.length : Int))) (hT : TabOK w) :
    Calls Tryd.prog 24 #[.agg #[.int .i64 r, .int .i64 c], .slice A l.length n] w fun e w' => e = .returned (.tuple #[.pointer none, .int .i64 19]) ∧ Below w.heap.size w w' := by
  have HT := Aside0.mk (TabOK.below hT (below_alloc (Below.refl _ _) (Obj.cells #[Value.int .i64 r, .int .i64 c] 26)))
  clear hT
  by_cases hf : Fit r c
  · obtain ⟨k, hk⟩ := Int.eq_ofNat_of_zero_le (show 0 ≤ r * c by have := (good_pos hf.1).2.2.2.2.1; omega)
    have hne : (((l.length : Nat) : Int) != (k : Int)) = true := by rw [bne_iff_ne]; intro h; exact hg ⟨hf, by omega⟩
    have hk2 : k ≤ 1048576 := by have := hf.2; omega
    have HK := Aside0.mk hk
    have HFt := Aside0.mk hf
    clear hg hk hf
    go_enter Tryd.func24, Tryd.ntmps24
    go_wp2_with fail
    refine (new_yes r c k _ HFt.out.1 HK.out hk2 HT.out).mono ?_
    rintro e w1 ⟨p, g, rfl, hb, hbe, hp, hg⟩
    have c2 := hb.c2
    rw [List.length_replicate] at c2
    have HBe := Aside0.mk (below_then (below_alloc (Below.refl _ _) _) (below_alloc (Below.refl _ _) _).size hbe)
    clear hb hbe hp hg
    go_wp2
    refine bodyPost_ret (v := .tuple #[.pointer none, .int .i64 19]) (by simp [results, Tryd.results24, go_sem]) rfl ?_
    exact ⟨rfl, HBe.out⟩
  · have HFt := Aside0.mk hf
    clear hg hf
    go_enter Tryd.func24, Tryd.ntmps24
    go_wp2_with fail
    refine (new_no r c _ HFt.out HT.out).mono ?_
    rintro e w1 ⟨rfl, hbe⟩
    have HBe := Aside0.mk (below_then (below_alloc (Below.refl _ _) _) (below_alloc (Below.refl _ _) _).size hbe)
    clear hbe
    go_wp2
    refine bodyPost_ret (v := .tuple #[.pointer none, .int .i64 19]) (by simp [results, Tryd.results24, go_sem]) rfl ?_
    exact ⟨rfl, HBe.out⟩
theorem shape_ (p g : Nat) (r c : Int) (xs : List Int) (w : World) (h : Blo w p g r c xs) :
    Calls Tryd.prog 25 #[.pointer (some ⟨p, 0, none⟩)] w fun e w' => e = .returned (.agg #[.int .i64 r, .int .i64 c]) ∧ Below w.heap.size w w' := by
  have c0 := h.c0
  have c1 := h.c1
  have hlt := h.obj.lt
  clear h
  go_enter Tryd.func25, Tryd.ntmps25
  go_wp2
  refine bodyPost_ret (v := .agg #[.int .i64 r, .int .i64 c]) (by simp [results, Tryd.results25, go_sem]) rfl ⟨rfl, ?_⟩
  exact below_alloc (Below.refl _ _) _
set_option maxRecDepth 100000 in
set_option maxHeartbeats 1000000 in
theorem words_ (p g : Nat) (r c : Int) (xs : List Int) (w : World) (h : Blo w p g r c xs) :
    Calls Tryd.prog 27 #[.pointer (some ⟨p, 0, none⟩)] w fun e w' => ∃ v, e = .returned v ∧ Kd.R (Kd.int .u64) 66 w' w.heap.size (fun _ => True) v xs ∧ Below w.heap.size w w' := by
  have c2 := h.c2
  have HX := Aside0.mk h
  clear h
  go_enter Tryd.func27, Tryd.ntmps27
  go_wp2_with (first | ((with_reducible refine gate_dst (N := 3) rfl ?_); refine Kd.R_lit (Kd.int .u64) _ 66 ?hg (N := 3) ?hd (xs := ([] : List Int)) (inner := []) (ok := fun _ => True) (okp := fun _ => True) ?hr ?hp (fun _ hk => hk) trivial (Below.refl _ _) (Nat.le_refl _) (by simp) ?_; (case hd => rfl); (case hg => rfl); (case hr => first | (go_simp; done) | (go_simp; rfl)); (case hp => exact (Reps.none _ _)); intro v1 w1 ho hb hg_ hnew_; have c2' := pw_cell_below hb c2; have HO := Aside0.mk ho; have HB := Aside0.mk hb; clear hg_ hnew_ ho hb c2) | ((with_reducible refine gate_builtin (b := .append) (xs := #[.tmp 3, .tmp 8]) rfl ?_); at_builtin; refine Kd.R_append_rows (Kd.int .u64) (w0 := w) w.heap.size rfl (.tmp 3) (.tmp 8) 47 66 (.int .u64 0) 8 rfl Tryd.underlying47 info66 rfl (by decide) (by omega) v1 [] xs _ _ _ (fun _ => True) (fun _ => False) rfl rfl ?aO ?aR (fun _ _ h => h) (fun _ h => h.elim) ?aF ?aB ?aS ?aL ?_; (case aR => exact (Kd.C_below (HX.out.row.whole (by have := HX.out.max; omega)) HB.out)); (case aB => exact HB.out); (case aF => exact (fun _ _ => trivial)); (case aO => exact HO.out); (case aS => exact HB.out.size); (case aL => have := HX.out.max; simp only [List.length_nil]; omega); intro v2 w2 ho2 hb2 hg hat; have HO2 := Aside0.mk ho2; have HB2 := Aside0.mk hb2; clear ho2 hb2 hg hat))
  go_wp2
  go_ret
  exact ⟨_, rfl, by have := HO2.out; rwa [List.nil_append] at this, HB2.out⟩
theorem idx_ {r c i j : Int} {n m : Nat} (hg : GoodS r c) (hm : r * c = (m : Int)) (hi : 0 ≤ i ∧ i < r) (hj : 0 ≤ j ∧ j < c) (hn : i * c + j = (n : Int)) : wrap64 (wrap64 (i * c) + j) = (n : Int) ∧ n < m := by
  have h1 : i * c + c ≤ r * c := by
    have : (i + 1) * c ≤ r * c := Int.mul_le_mul_of_nonneg_right (by omega) (by omega)
    rw [Int.add_mul] at this
    omega
  have h2 : 0 ≤ i * c := Int.mul_nonneg hi.1 (by omega)
  have h3 := (good_pos hg).2.2.2.2.2
  generalize i * c = y at *
  unfold wrap64
  omega
theorem Blo.cell {w : World} {p g : Nat} {r c : Int} {xs : List Int} (h : Blo w p g r c xs) (i : Nat) (hi : i < xs.length) : w.cell? ⟨g, i, none⟩ = some (.int .u64 (xs.getD i 0)) := h.row.cell i hi
theorem Blo.put {w : World} {p g : Nat} {r c : Int} {xs : List Int} (h : Blo w p g r c xs) (i : Nat) (x : Int) : Blo (w.setCell ⟨g, i, none⟩ (.int .u64 x)) p g r c (xs.set i x) :=
  ⟨by rw [List.length_set]; exact h.obj.far i _ h.ne, h.row.put i x, h.good, by rw [List.length_set]; exact h.len, by rw [List.length_set]; exact h.max⟩
set_option maxRecDepth 100000 in
theorem get_yes (p g : Nat) (r c i j : Int) (n : Nat) (xs : List Int) (w : World) (h : Blo w p g r c xs) (hi : 0 ≤ i ∧ i < r) (hj : 0 ≤ j ∧ j < c) (hn : i * c + j = (n : Int)) (hT : TabOK w) :
    Calls Tryd.prog 39 #[.pointer (some ⟨p, 0, none⟩), .int .i64 i, .int .i64 j] w fun e w' => e = .returned (.tuple #[.int .u64 (xs.getD n 0), .int .i64 0]) ∧ Below w.heap.size w w' := by
  have c0 := h.c0
  have c1 := h.c1
  obtain ⟨e1, hlt⟩ := idx_ h.good h.len hi hj hn
  have h1 := at_yes r c i j h.good hi hj
  rw [e1] at h1
  have H1 := Aside0.mk h1
  have HX := Aside0.mk h
  have HT := Aside0.mk hT
  clear h hi hj hn hT h1 e1
  generalize hx : xs.getD n 0 = x
  go_enter Tryd.func39, Tryd.ntmps39
  go_wp2_with fail
  refine (shape_At.calls r c i j _ _ _ H1.out HT.out).mono ?_
  rintro e w1 ⟨rfl, hb⟩
  have h1 := HX.out.below hb
  have c2 := h1.c2
  have c3 := h1.cell n hlt
  rw [hx] at c3
  have hltI : (n : Int) < (xs.length : Int) := by omega
  have HB := Aside0.mk hb
  clear hb h1 c0 c1
  clear hx
  go_wp2
  refine bodyPost_ret (v := .tuple #[.int .u64 x, .int .i64 0]) (by simp [results, Tryd.results39, go_sem]) rfl ?_
  exact ⟨rfl, HB.out⟩
theorem get_no (p g : Nat) (r c i j : Int) (xs : List Int) (w : World) (h : Blo w p g r c xs) (hi : ¬ (0 ≤ i ∧ i < r ∧ 0 ≤ j ∧ j < c)) (hT : TabOK w) :
    Calls Tryd.prog 39 #[.pointer (some ⟨p, 0, none⟩), .int .i64 i, .int .i64 j] w fun e w' => e = .returned (.tuple #[.int .u64 0, .int .i64 2]) ∧ Below w.heap.size w w' := by
  have c0 := h.c0
  have c1 := h.c1
  have H1 := Aside0.mk (at_no r c i j (fun hh => hi hh.2))
  have HT := Aside0.mk hT
  clear h hi hT
  go_enter Tryd.func39, Tryd.ntmps39
  go_wp2_with fail
  refine (shape_At.calls r c i j _ _ _ H1.out HT.out).mono ?_
  rintro e w1 ⟨rfl, hb⟩
  have HB := Aside0.mk hb
  clear hb c0 c1
  go_wp2
  refine bodyPost_ret (v := .tuple #[.int .u64 0, .int .i64 2]) (by simp [results, Tryd.results39, go_sem]) rfl ?_
  exact ⟨rfl, HB.out⟩
set_option maxRecDepth 100000 in
theorem put_yes (p g : Nat) (r c i j x : Int) (n : Nat) (xs : List Int) (w : World) (h : Blo w p g r c xs) (hi : 0 ≤ i ∧ i < r) (hj : 0 ≤ j ∧ j < c) (hn : i * c + j = (n : Int)) (hT : TabOK w) :
    Calls Tryd.prog 40 #[.pointer (some ⟨p, 0, none⟩), .int .i64 i, .int .i64 j, .int .u64 x] w fun e w' => e = .returned (.int .i64 0) ∧ Blo w' p g r c (xs.set n x) ∧ Fr w w' [g] := by
  have c0 := h.c0
  have c1 := h.c1
  obtain ⟨e1, hlt⟩ := idx_ h.good h.len hi hj hn
  have h1 := at_yes r c i j h.good hi hj
  rw [e1] at h1
  have H1 := Aside0.mk h1
  have HX := Aside0.mk h
  have HT := Aside0.mk hT
  clear h hi hj hn hT h1 e1
  go_enter Tryd.func40, Tryd.ntmps40
  go_wp2_with fail
  refine (shape_At.calls r c i j _ _ _ H1.out HT.out).mono ?_
  rintro e w1 ⟨rfl, hb⟩
  have h1 := HX.out.below hb
  have c2 := h1.c2
  have c3 := h1.cell n hlt
  have f3 := h1.row.frozen n
  have hltI : (n : Int) < (xs.length : Int) := by omega
  have HB := Aside0.mk hb
  have H2 := Aside0.mk h1
  clear hb h1 c0 c1
  generalize xs.getD n 0 = y at *
  go_wp2
  go_ret
  exact ⟨rfl, H2.out.put n x, (Fr.of_below HB.out [g]).set g n _ (.inl (by simp))⟩
theorem put_no (p g : Nat) (r c i j x : Int) (xs : List Int) (w : World) (h : Blo w p g r c xs) (hi : ¬ (0 ≤ i ∧ i < r ∧ 0 ≤ j ∧ j < c)) (hT : TabOK w) :
    Calls Tryd.prog 40 #[.pointer (some ⟨p, 0, none⟩), .int .i64 i, .int .i64 j, .int .u64 x] w fun e w' => e = .returned (.int .i64 2) ∧ Below w.heap.size w w' := by
  have c0 := h.c0
  have c1 := h.c1
  have H1 := Aside0.mk (at_no r c i j (fun hh => hi hh.2))
  have HT := Aside0.mk hT
  clear h hi hT
  go_enter Tryd.func40, Tryd.ntmps40
  go_wp2_with fail
  refine (shape_At.calls r c i j _ _ _ H1.out HT.out).mono ?_
  rintro e w1 ⟨rfl, hb⟩
  have HB := Aside0.mk hb
  clear hb c0 c1
  go_wp2
  go_ret
  exact ⟨rfl, HB.out⟩
end Go.Proofs.YthppiphldaopnaaDoor.Obj
