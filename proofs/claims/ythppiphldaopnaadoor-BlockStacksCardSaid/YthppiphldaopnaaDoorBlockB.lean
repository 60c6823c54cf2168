import Derived.Test.YthppiphldaopnaaDoorBlockA
/-! Blocks: how one is turned. -/
namespace Go.Proofs.YthppiphldaopnaaDoor.Obj
open Go.RowKit Go.Proofs.YthppiphldaopnaaDoor Go.Proofs.YthppiphldaopnaaDoor.Ext Go.Proofs.YthppiphldaopnaaDoor.PShape Go.Proofs.YthppiphldaopnaaDoor.PBlk Go.Proofs.YthppiphldaopnaaDoor.Pure Go.Proofs.YthppiphldaopnaaDoorW.PrintWords Go.Proofs.YthppiphldaopnaaDoorW.PrintLast Go.Proofs.YthppiphldaopnaaDoorW.PrintMore
set_option linter.unusedVariables false
set_option linter.unusedSimpArgs false

/-- Where D tells so, ys is xs turned (R rows, C columns). -/
structure Cov (R C : Nat) (xs ys : List Int) (D : Nat → Nat → Prop) : Prop where
  len : ys.length = R * C
  at_ : ∀ i j, i < R → j < C → D i j → ys.getD (j * R + i) 0 = xs.getD (i * C + j) 0
theorem Cov.mono {R C : Nat} {xs ys : List Int} {D E : Nat → Nat → Prop} (h : Cov R C xs ys D) (hd : ∀ i j, E i j → D i j) : Cov R C xs ys E := ⟨h.len, fun i j hi hj he => h.at_ i j hi hj (hd i j he)⟩
theorem Cov.mono' {R C : Nat} {xs ys : List Int} {D E : Nat → Nat → Prop} (h : Cov R C xs ys D) (hd : ∀ i j, i < R → j < C → E i j → D i j) : Cov R C xs ys E := ⟨h.len, fun i j hi hj he => h.at_ i j hi hj (hd i j hi hj he)⟩
theorem place_inj {R i j a b : Nat} (hi : i < R) (ha : a < R) (h : j * R + i = b * R + a) : i = a ∧ j = b := by
  have hR : 0 < R := by omega
  have h1 : (j * R + i) % R = i := by rw [Nat.mul_comm, Nat.mul_add_mod, Nat.mod_eq_of_lt hi]
  have h2 : (b * R + a) % R = a := by rw [Nat.mul_comm, Nat.mul_add_mod, Nat.mod_eq_of_lt ha]
  have h3 : i = a := by rw [← h1, ← h2, h]
  subst h3
  exact ⟨rfl, Nat.eq_of_mul_eq_mul_right hR (by omega)⟩
theorem place_lt {R C i j : Nat} (hi : i < R) (hj : j < C) : j * R + i < R * C := by
  have : (j + 1) * R ≤ C * R := Nat.mul_le_mul_right _ (by omega)
  rw [Nat.add_mul] at this
  rw [Nat.mul_comm R C]
  omega
theorem Cov.put {R C : Nat} {xs ys : List Int} {D : Nat → Nat → Prop} (h : Cov R C xs ys D) (i j : Nat) (hi : i < R) (hj : j < C) :
    Cov R C xs (ys.set (j * R + i) (xs.getD (i * C + j) 0)) (fun a b => D a b ∨ (a = i ∧ b = j)) := by
  refine ⟨by rw [List.length_set]; exact h.len, fun a b ha hb hd => ?_⟩
  have hlt := place_lt hi hj
  by_cases e : b * R + a = j * R + i
  · obtain ⟨rfl, rfl⟩ := place_inj ha hi e
    simp [List.getD, h.len, hlt]
  · have h1 : (ys.set (j * R + i) (xs.getD (i * C + j) 0)).getD (b * R + a) 0 = ys.getD (b * R + a) 0 := by
      simp [List.getD, List.getElem?_set, Ne.symm e]
    rw [h1]
    rcases hd with hd | ⟨rfl, rfl⟩
    · exact h.at_ a b ha hb hd
    · exact absurd rfl e
theorem widx (i C j m : Nat) (h : i * C + j < m) (hm : m ≤ 1048576) : wrap64 (wrap64 ((i : Int) * (C : Int)) + (j : Int)) = ((i * C + j : Nat) : Int) := by
  rw [show (i : Int) * (C : Int) = ((i * C : Nat) : Int) by rw [Int.natCast_mul]]
  generalize i * C = y at *
  unfold wrap64
  omega
theorem widx' (i C j m : Nat) (h : i * C + j < m) (hm : m ≤ 1048576) : IntKind.i64.wrap (IntKind.i64.wrap ((i : Int) * (C : Int)) + (j : Int)) = ((i * C + j : Nat) : Int) := by
  rw [i64_w, i64_w]; exact widx i C j m h hm
theorem place_lt' {R C i j : Nat} (hi : i < R) (hj : j < C) : i * C + j < R * C := by
  have := place_lt hj hi
  rw [Nat.mul_comm C R] at this
  exact this
/-- What lies in memory while a tile is turned: the block at p, g; the tile at t; the block that is made at q, g2, as yet ys. -/
structure Turning (w : World) (p g t q g2 R C tr tc r0 c0 : Nat) (xs ys : List Int) : Prop where
  blk : Blo w p g R C xs
  tile : Bk w t 38 [.int .i64 tr, .int .i64 tc, .int .i64 r0, .int .i64 c0]
  dest : Bk w q 89 [.int .i64 C, .int .i64 R, .slice (some ⟨g2, 0, none⟩) ys.length ys.length]
  row : Rw w g2 ys
  ng : g2 ≠ g
  nq : g2 ≠ q
theorem Turning.len {w : World} {p g t q g2 R C tr tc r0 c0 : Nat} {xs ys : List Int} (h : Turning w p g t q g2 R C tr tc r0 c0 xs ys) : R * C = xs.length := by
  have := h.blk.len
  rw [← Int.natCast_mul] at this
  omega
theorem Turning.put {w : World} {p g t q g2 R C tr tc r0 c0 : Nat} {xs ys : List Int} (h : Turning w p g t q g2 R C tr tc r0 c0 xs ys) (n : Nat) (x : Int) :
    Turning (w.setCell ⟨g2, n, none⟩ (.int .u64 x)) p g t q g2 R C tr tc r0 c0 xs (ys.set n x) := by
  have h1 : p ≠ g2 := h.blk.obj.ne h.row (by decide)
  have h2 : t ≠ g2 := h.tile.ne h.row (by decide)
  refine ⟨⟨h.blk.obj.far n _ h1, Bk.far h.blk.row n _ (Ne.symm h.ng), h.blk.good, h.blk.len, h.blk.max⟩, h.tile.far n _ h2, ?_, h.row.put n x, h.ng, h.nq⟩
  rw [List.length_set]
  exact h.dest.far n _ (Ne.symm h.nq)
theorem Turning.drewN {w : World} {p g t q g2 R C tr tc r0 c0 : Nat} {xs ys : List Int} (h : Turning w p g t q g2 R C tr tc r0 c0 xs ys) (n : Nat) : Turning (w.drewN n) p g t q g2 R C tr tc r0 c0 xs ys := ⟨⟨h.blk.obj, h.blk.row, h.blk.good, h.blk.len, h.blk.max⟩, h.tile, h.dest, h.row, h.ng, h.nq⟩
theorem Turning.drew {w : World} {p g t q g2 R C tr tc r0 c0 : Nat} {xs ys : List Int} (h : Turning w p g t q g2 R C tr tc r0 c0 xs ys) : Turning w.drew p g t q g2 R C tr tc r0 c0 xs ys := ⟨⟨h.blk.obj, h.blk.row, h.blk.good, h.blk.len, h.blk.max⟩, h.tile, h.dest, h.row, h.ng, h.nq⟩
set_option maxRecDepth 100000 in
set_option maxHeartbeats 2000000 in
theorem turn_ (p g q g2 R C r0 c0 tr tc : Nat) (xs ys : List Int) (D : Nat → Nat → Prop) (w : World) (h : Blo w p g R C xs)
    (hq : Bk w q 89 [.int .i64 C, .int .i64 R, .slice (some ⟨g2, 0, none⟩) ys.length ys.length]) (hr : Rw w g2 ys) (ng : g2 ≠ g) (nq : g2 ≠ q) (hb1 : r0 + tr ≤ R) (hb2 : c0 + tc ≤ C) (hD : Cov R C xs ys D) :
    Calls Tryd.prog 52 #[.pointer (some ⟨p, 0, none⟩), .agg #[.int .i64 tr, .int .i64 tc, .int .i64 r0, .int .i64 c0], .pointer (some ⟨q, 0, none⟩)] w fun e w' => e = .returned (.tuple #[]) ∧
      ∃ ys', Rw w' g2 ys' ∧ Fr w w' [g2] ∧ Cov R C xs ys' (fun i j => D i j ∨ (r0 ≤ i ∧ i < r0 + tr ∧ c0 ≤ j ∧ j < c0 + tc)) := by
  have hT : Turning (w.alloc (Obj.cells #[.int .i64 tr, .int .i64 tc, .int .i64 r0, .int .i64 c0] 38)) p g w.heap.size q g2 R C tr tc r0 c0 xs ys :=
    ⟨h.below (below_alloc (Below.refl _ _) _), Bk.new w 38 [_, _, _, _], hq.alloc _, Bk.alloc hr _, ng, nq⟩
  have hgp := good_pos h.good
  have hR : R ≤ 4294967296 := by omega
  have hC : C ≤ 4294967296 := by omega
  have HT := Aside0.mk hT
  have HD := Aside0.mk hD
  have HFr := Aside0.mk (Fr.of_below (below_alloc (Below.refl w.heap.size w) (Obj.cells #[.int .i64 tr, .int .i64 tc, .int .i64 r0, .int .i64 c0] 38)) [g2])
  have HB1 := Aside0.mk hb1
  have HB2 := Aside0.mk hb2
  have t0 := hT.tile.cell 0
  have t1 := hT.tile.cell 1
  have t2 := hT.tile.cell 2
  have t3 := hT.tile.cell 3
  clear h hq hr hT hD hgp ng nq
  go_enter Tryd.func52, Tryd.ntmps52
  go_wp2
  clear t0 t1 t2 t3
  go_loopw [6] (fun v6 wr => ∃ (i : Nat) (zs : List Int), v6 = .int .i64 i ∧ r0 ≤ i ∧ i ≤ r0 + tr ∧ Aside0 (Turning wr p g w.heap.size q g2 R C tr tc r0 c0 xs zs) ∧ Aside0 (Fr w wr [g2]) ∧ Aside0 (Cov R C xs zs (fun a b => D a b ∨ (r0 ≤ a ∧ a < i ∧ c0 ≤ b ∧ b < c0 + tc)))) (fun v6 _ => r0 + tr - (intOf v6).toNat)
  case atStart => exact ⟨r0, ys, rfl, by omega, by omega, HT, HFr, ⟨HD.out.mono (fun a b hab => hab.elim id (fun h => by omega))⟩⟩
  case round =>
    clear HT HFr HD
    obtain ⟨i, zs, rfl, hi1, hi2, HT, HFr, HD⟩ := hrel
    have t0 := HT.out.tile.cell 0
    have t1 := HT.out.tile.cell 1
    have t2 := HT.out.tile.cell 2
    have t3 := HT.out.tile.cell 3
    by_cases h1 : i < r0 + tr
    · have HI := Aside0.mk h1
      have d1 : decide ((i : Int) < (r0 : Int) + (tr : Int)) = true := decide_eq_true (by omega)
      clear h1
      go_wp2
      clear t0 t1 t2 t3 d1
      go_loopw [7] (fun v7 wr => ∃ (j : Nat) (zs : List Int), v7 = .int .i64 j ∧ c0 ≤ j ∧ j ≤ c0 + tc ∧ Aside0 (Turning wr p g w.heap.size q g2 R C tr tc r0 c0 xs zs) ∧ Aside0 (Fr w wr [g2]) ∧ Aside0 (Cov R C xs zs (fun a b => D a b ∨ (r0 ≤ a ∧ a < i ∧ c0 ≤ b ∧ b < c0 + tc) ∨ (a = i ∧ c0 ≤ b ∧ b < j)))) (fun v7 _ => c0 + tc - (intOf v7).toNat)
      case atStart => exact ⟨c0, zs, rfl, Nat.le_refl _, by omega, HT, HFr, ⟨HD.out.mono (fun a b hab => hab.elim .inl (fun h => h.elim .inr (fun h => by omega)))⟩⟩
      case round =>
        clear HT HFr HD
        obtain ⟨j, ys2, rfl, hj1, hj2, HT, HFr, HD⟩ := hrel
        have t0 := HT.out.tile.cell 0
        have t1 := HT.out.tile.cell 1
        have t2 := HT.out.tile.cell 2
        have t3 := HT.out.tile.cell 3
        by_cases h2 : j < c0 + tc
        · have hi3 : i < R := Nat.lt_of_lt_of_le HI.out HB1.out
          have hj3 : j < C := Nat.lt_of_lt_of_le h2 HB2.out
          have hlen := HT.out.len
          have hp1 : i * C + j < xs.length := hlen ▸ place_lt' hi3 hj3
          have hp2 : j * R + i < ys2.length := HD.out.len ▸ place_lt hi3 hj3
          have b1 := HT.out.blk.c1
          have b2 := HT.out.blk.c2
          have q1 := HT.out.dest.cell 1
          have q2 := HT.out.dest.cell 2
          have x1 := HT.out.blk.cell _ hp1
          have y1 := HT.out.row.cell _ hp2
          have y2 := HT.out.row.frozen (j * R + i)
          have hm := HT.out.blk.max
          have hl2 : ys2.length = xs.length := HD.out.len.trans hlen
          have d2 : decide ((j : Int) < (c0 : Int) + (tc : Int)) = true := decide_eq_true (by omega)
          have e1 := widx i C j _ hp1 hm
          have e2 := widx j R i _ hp2 (hl2 ▸ hm)
          have e3 := widx' i C j _ hp1 hm
          have e4 := widx' j R i _ hp2 (hl2 ▸ hm)
          have HD2 := Aside0.mk (HD.out.put i j hi3 hj3)
          have HT2 := Aside0.mk (HT.out.drew.put (j * R + i) (xs.getD (i * C + j) 0))
          have HF2 := Aside0.mk (HFr.out.drew.set g2 (j * R + i) (.int .u64 (xs.getD (i * C + j) 0)) (.inl (by simp)))
          clear HD HT HFr hlen
          generalize xs.getD (i * C + j) 0 = x at *
          generalize ys2.getD (j * R + i) 0 = y at *
          generalize i * C + j = n1 at *
          generalize j * R + i = n2 at *
          have hp1I : (n1 : Int) < (xs.length : Int) := Int.ofNat_lt.2 hp1
          have hp2J : (n2 : Int) < (xs.length : Int) := Int.ofNat_lt.2 (hl2 ▸ hp2)
          have hp2I : (n2 : Int) < (ys2.length : Int) := Int.ofNat_lt.2 hp2
          clear h2
          go_wp2
          go_still_tail 29, (by kernel_rfl)
          go_wp2
          go_roundw
          case rel =>
            exact ⟨j + 1, _, by go_num, by omega, by have := of_decide_eq_true d2; omega, HT2, HF2, ⟨HD2.out.mono (fun a b hab => by
              rcases hab with h | h | h
              · exact .inl (.inl h)
              · exact .inl (.inr (.inl h))
              · rcases Nat.lt_or_ge b j with hb | hb
                · exact .inl (.inr (.inr ⟨h.1, h.2.1, hb⟩))
                · exact .inr ⟨h.1, by omega⟩)⟩⟩
          case measure =>
            have := of_decide_eq_true d2
            simp [intOf]; omega
        · obtain rfl : j = c0 + tc := by omega
          go_wp2
          go_roundw
          case rel => exact ⟨i + 1, _, by go_num, by omega, HI.out, HT, HFr, ⟨HD.out.mono (fun a b hab => by
              rcases hab with h | h
              · exact .inl h
              · rcases Nat.lt_or_ge a i with ha | ha
                · exact .inr (.inl ⟨h.1, ha, h.2.2⟩)
                · exact .inr (.inr ⟨by omega, h.2.2⟩))⟩⟩
          case measure =>
            have := HI.out
            simp [intOf]; omega
    · obtain rfl : i = r0 + tr := by omega
      go_wp2
      refine bodyPost_end (results_none Tryd.results52 _ _ _) rfl ?_
      exact ⟨rfl, _, HT.out.row, HFr.out, HD.out⟩
/-- Go's min of two whole numbers, as one word. -/
def mn (x y : Int) : Int := if y < x then y else x
theorem min2_mn (k k' : IntKind) (x y : Int) : Builtin.min2 (.int k x) (.int k' y) = pure (.int k (mn x y)) := min2_int k k' x y
theorem least_ (s n : Nat) : ∃ t : Nat, mn (s : Int) (n : Int) = (t : Int) ∧ t ≤ n ∧ t ≤ s ∧ (t = n ∨ t = s) := by
  by_cases h : n < s
  · exact ⟨n, by unfold mn; rw [if_pos (by omega)], by omega, by omega, .inl rfl⟩
  · exact ⟨s, by unfold mn; rw [if_neg (by omega)], by omega, by omega, .inr rfl⟩
theorem good_swap {r c : Int} (h : GoodS r c) : GoodS c r := by
  obtain ⟨a, b, h1, h2, h3⟩ := h
  exact ⟨b, a, by omega, h3, h2⟩
theorem Cov.tile {R C i j tr tc s x y : Nat} {xs zs : List Int} (h : Cov R C xs zs (fun a b => (a < i ∨ (a < i + s ∧ b < j)) ∨ (i ≤ a ∧ a < i + tr ∧ j ≤ b ∧ b < j + tc))) (e1 : R = i + x) (e2 : C = j + y) (e3 : tr = x ∨ tr = s) (e4 : tc = y ∨ tc = s) :
    Cov R C xs zs (fun a b => a < i ∨ (a < i + s ∧ b < j + s)) := h.mono' (fun a b ha hb hh => by omega)
theorem Cov.line {R C i j s : Nat} {xs zs : List Int} (h : Cov R C xs zs (fun a b => a < i ∨ (a < i + s ∧ b < j))) (hj : ¬ j < C) : Cov R C xs zs (fun a b => a < i + s) := h.mono' (fun a b ha hb hh => by omega)
theorem Cov.whole {R C i : Nat} {xs zs : List Int} (h : Cov R C xs zs (fun a b => a < i)) (hi : ¬ i < R) : Cov R C xs zs (fun _ _ => True) := h.mono' (fun a b ha hb hh => by omega)
theorem meas_ (n j s : Nat) (x : Int) (hx : x = (j : Int) + (s : Int)) (h : j < n) (hs : 1 ≤ s) : n + s - (intOf (.int .i64 x)).toNat < n + s - (intOf (.int .i64 (j : Int))).toNat := by
  subst hx
  show n + s - ((j : Int) + (s : Int)).toNat < n + s - ((j : Int)).toNat
  omega
attribute [local go_sem high] min2_mn min_two
/-- What lies in memory while a block is turned. -/
structure Turns (w0 w : World) (p g q g2 R C : Nat) (xs ys : List Int) : Prop where
  blk : Blo w p g R C xs
  dest : Bk w q 89 [.int .i64 C, .int .i64 R, .slice (some ⟨g2, 0, none⟩) ys.length ys.length]
  row : Rw w g2 ys
  ng : g2 ≠ g
  nq : g2 ≠ q
  fr : Fr w0 w []
theorem Turns.lie {w0 w w' : World} {p g q g2 R C : Nat} {xs ys zs : List Int} (h : Turns w0 w p g q g2 R C xs ys) (hr : Rw w' g2 zs) (hf : Fr w w' [g2]) (hl : zs.length = ys.length) (h2 : w0.heap.size ≤ g2) : Turns w0 w' p g q g2 R C xs zs := by
  have n1 : p ≠ g2 := h.blk.obj.ne h.row (by decide)
  exact ⟨h.blk.fr hf (by simpa using n1) (by simpa using Ne.symm h.ng), by rw [hl]; exact h.dest.fr hf (by simpa using Ne.symm h.nq), hr, h.ng, h.nq, h.fr.then_ hf (fun i hi => by simp at hi) (fun i hi => by simp at hi; exact .inr (by omega))⟩
theorem Turns.drew {w0 w : World} {p g q g2 R C : Nat} {xs ys : List Int} (h : Turns w0 w p g q g2 R C xs ys) : Turns w0 w.drew p g q g2 R C xs ys := ⟨⟨h.blk.obj, h.blk.row, h.blk.good, h.blk.len, h.blk.max⟩, h.dest, h.row, h.ng, h.nq, h.fr.drew⟩
theorem Turns.len {w0 w : World} {p g q g2 R C : Nat} {xs ys : List Int} (h : Turns w0 w p g q g2 R C xs ys) : R * C = xs.length := by
  have := h.blk.len
  rw [← Int.natCast_mul] at this
  omega
theorem Cov.none (R C : Nat) (xs : List Int) : Cov R C xs (List.replicate (R * C) 0) (fun _ _ => False) := ⟨List.length_replicate, fun _ _ _ _ h => h.elim⟩
set_option maxRecDepth 100000 in
set_option maxHeartbeats 4000000 in
theorem turn_yes (p g R C : Nat) (side : Int) (xs : List Int) (w : World) (h : Blo w p g R C xs) (hs : 1 ≤ side) :
    Calls Tryd.prog 28 #[.pointer (some ⟨p, 0, none⟩), .int .i64 side] w fun e w' => e = .returned (.int .i64 0) ∧ ∃ g' ys, Blo w' p g' C R ys ∧ w.heap.size ≤ g' ∧ Fr w w' [p] ∧ Cov R C xs ys (fun _ _ => True) := by
  have hm := h.max
  have HX := Aside0.mk h
  have c0 := h.c0
  have c1 := h.c1
  have c2 := h.c2
  have d0 : decide (side < 1) = false := decide_eq_false (by omega)
  have hturn : shape_Turned.f (R : Int) (C : Int) = some ((C : Int), (R : Int)) := rfl
  have HS := Aside0.mk hs
  clear h hs
  go_enter Tryd.func28, Tryd.ntmps28
  go_wp2_with fail
  refine start_ (n := 16) (S := fun w' => w'.cell? ⟨p, 0, none⟩ = some (.int .i64 (R : Int)) ∧ w'.cell? ⟨p, 1, none⟩ = some (.int .i64 (C : Int)) ∧ w'.cell? ⟨p, 2, none⟩ = some (.slice (some ⟨g, 0, none⟩) xs.length xs.length) ∧ Aside0 (Below w.heap.size w w')) (ds := [15]) #[false, false, false, false, false, false, false, false, false, false, false, false, false, false, false, false] (by kernel_rfl) rfl rfl ⟨c0, c1, c2, ⟨below_drew1 (Below.refl w.heap.size w)⟩⟩ (fun hHeld => ?_)
  refine pure_ (i := 0) (N := some 10) (v := ?_) (a' := ?_) #[true, false, false, false, false, false, false, false, false, false, false, false, false, false, false, false] rfl rfl (by kernel_rfl) (fun _ _ _ h => h) (Or.inl ⟨by rfl, ?_⟩) ?_ ?_
  rotate_left
  · intro w'
    go_simp
    with_reducible rfl
  rotate_left
  · simp only [Act.put, List.setIfInBounds_toArray, List.set_cons_zero, List.set_cons_succ, i64_w, i32_w]
    rfl
  refine pure_ (i := 1) (N := some 11) (v := ?_) (a' := ?_) #[true, true, false, false, false, false, false, false, false, false, false, false, false, false, false, false] rfl rfl (by kernel_rfl) (fun _ _ _ h => h) (Or.inl ⟨by rfl, ?_⟩) ?_ ?_
  rotate_left
  · intro w'
    go_simp
    with_reducible rfl
  rotate_left
  · simp only [Act.put, List.setIfInBounds_toArray, List.set_cons_zero, List.set_cons_succ, i64_w, i32_w]
    rfl
  refine pure_ (i := 2) (N := some 12) (v := ?_) (a' := ?_) #[true, true, true, false, false, false, false, false, false, false, false, false, false, false, false, false] rfl rfl (by kernel_rfl) (fun _ _ _ h => h) (Or.inl ⟨by rfl, ?_⟩) ?_ ?_
  rotate_left
  · intro w'
    go_simp
    with_reducible rfl
  rotate_left
  · simp only [Act.put, List.setIfInBounds_toArray, List.set_cons_zero, List.set_cons_succ, i64_w, i32_w]
    rfl
  refine pure_ (i := 3) (N := some 13) (v := ?_) (a' := ?_) #[true, true, true, true, false, false, false, false, false, false, false, false, false, false, false, false] rfl rfl (by kernel_rfl) (fun _ _ _ h => h) (Or.inl ⟨by rfl, ?_⟩) ?_ ?_
  rotate_left
  · intro w'
    go_simp
    with_reducible rfl
  rotate_left
  · simp only [Act.put, List.setIfInBounds_toArray, List.set_cons_zero, List.set_cons_succ, i64_w, i32_w]
    rfl
  refine pure_ (i := 6) (N := some 16) (v := ?_) (a' := ?_) #[true, true, true, true, false, false, true, false, false, false, false, false, false, false, false, false] rfl rfl (by kernel_rfl) (fun _ _ _ h => h) (Or.inl ⟨by rfl, ?_⟩) ?_ ?_
  rotate_left
  · intro w'
    go_simp
    with_reducible rfl
  rotate_left
  · simp only [Act.put, List.setIfInBounds_toArray, List.set_cons_zero, List.set_cons_succ, i64_w, i32_w]
    rfl
  refine pure_ (i := 7) (N := some 17) (v := ?_) (a' := ?_) #[true, true, true, true, false, false, true, true, false, false, false, false, false, false, false, false] rfl rfl (by kernel_rfl) (fun _ _ _ h => h) (Or.inl ⟨by rfl, ?_⟩) ?_ ?_
  rotate_left
  · intro w'
    go_simp
    with_reducible rfl
  rotate_left
  · simp only [Act.put, List.setIfInBounds_toArray, List.set_cons_zero, List.set_cons_succ, i64_w, i32_w]
    rfl
  refine pure_ (i := 8) (N := some 18) (v := ?_) (a' := ?_) #[true, true, true, true, false, false, true, true, true, false, false, false, false, false, false, false] rfl rfl (by kernel_rfl) (fun _ _ _ h => h) (Or.inl ⟨by rfl, ?_⟩) ?_ ?_
  rotate_left
  · intro w'
    go_simp
    with_reducible rfl
  rotate_left
  · simp only [Act.put, List.setIfInBounds_toArray, List.set_cons_zero, List.set_cons_succ, i64_w, i32_w]
    rfl
  refine pure_ (i := 9) (N := some 19) (v := ?_) (a' := ?_) #[true, true, true, true, false, false, true, true, true, true, false, false, false, false, false, false] rfl rfl (by kernel_rfl) (fun _ _ _ h => h) (Or.inl ⟨by rfl, ?_⟩) ?_ ?_
  rotate_left
  · intro w'
    go_simp
    with_reducible rfl
  rotate_left
  · simp only [Act.put, List.setIfInBounds_toArray, List.set_cons_zero, List.set_cons_succ, i64_w, i32_w]
    rfl
  refine take_ (i := 4) (N := some 14) (v := ?_) (a' := ?_) #[true, true, true, true, true, false, true, true, true, true, false, false, false, false, false, false] rfl rfl (by kernel_rfl) (fun _ _ _ h => h) (Or.inl ⟨by rfl, ?_⟩) hHeld ?_ ?_
  rotate_left
  · rintro w' ⟨s0, s1, s2, s3⟩
    go_simp
    with_reducible rfl
  rotate_left
  · simp only [Act.put, List.setIfInBounds_toArray, List.set_cons_zero, List.set_cons_succ, i64_w, i32_w]
    rfl
  refine take_ (i := 10) (N := some 20) (v := ?_) (a' := ?_) #[true, true, true, true, true, false, true, true, true, true, true, false, false, false, false, false] rfl rfl (by kernel_rfl) (fun _ _ _ h => h) (Or.inl ⟨by rfl, ?_⟩) hHeld ?_ ?_
  rotate_left
  · rintro w' ⟨s0, s1, s2, s3⟩
    go_simp
    with_reducible rfl
  rotate_left
  · simp only [Act.put, List.setIfInBounds_toArray, List.set_cons_zero, List.set_cons_succ, i64_w, i32_w]
    rfl
  refine pure_ (i := 11) (N := some 21) (v := ?_) (a' := ?_) #[true, true, true, true, true, false, true, true, true, true, true, true, false, false, false, false] rfl rfl (by kernel_rfl) (fun _ _ _ h => h) (Or.inl ⟨by rfl, ?_⟩) ?_ ?_
  rotate_left
  · intro w'
    go_simp
    with_reducible rfl
  rotate_left
  · simp only [Act.put, List.setIfInBounds_toArray, List.set_cons_zero, List.set_cons_succ, i64_w, i32_w]
    rfl
  refine join_ (σ := Nat × Nat) 1 #[true, true, true, true, true, true, true, true, true, true, true, true, true, true, true, false] (fun s => [(15, .agg #[.int .i64 (C : Int), .int .i64 (R : Int)]), (22, .slice (some ⟨s.1, 0, none⟩) xs.length xs.length), (23, .agg #[.int .i64 (C : Int), .int .i64 (R : Int), .slice (some ⟨s.1, 0, none⟩) xs.length xs.length]), (5, .pointer (some ⟨s.2, 0, none⟩))]) (fun s w' => (w'.cell? ⟨p, 0, none⟩ = some (.int .i64 (R : Int)) ∧ w'.cell? ⟨p, 1, none⟩ = some (.int .i64 (C : Int)) ∧ w'.cell? ⟨p, 2, none⟩ = some (.slice (some ⟨g, 0, none⟩) xs.length xs.length) ∧ Aside0 (Below w.heap.size w w')) ∧ Aside0 (Rw w' s.1 (List.replicate xs.length 0)) ∧ Aside0 (Bk w' s.2 89 [.int .i64 0, .int .i64 0, .slice none 0 0]) ∧ w.heap.size ≤ s.1 ∧ w.heap.size ≤ s.2) ?_ ?_
  rotate_left
  · intro hCont
    refine three_ (i := 5) (j := 12) (k := 14) (Ni := some 15) (Nj := some 22) (Nk := some 5) #[true, true, true, true, true, true, true, true, true, true, true, true, false, false, false, false] #[true, true, true, true, true, false, true, true, true, true, true, true, true, false, false, false] #[true, true, true, true, true, false, true, true, true, true, true, true, false, false, true, false] rfl rfl rfl rfl rfl rfl (by kernel_rfl) (by decide) (by decide) (by decide) (fun K hK => ?_) (fun K hK => ?_) (fun K hK => ?_)
    · skip
      refine goes_ Tryd.func22 (by kernel_rfl) rfl #[.agg #[.int .i64 (R : Int), .int .i64 (C : Int)]] (by rfl) rfl rfl (by simp only [List.map_toArray, List.map_cons, List.map_nil]; rfl) ?_
      with_reducible refine (shape_Turned.calls (R : Int) (C : Int) (C : Int) (R : Int) _ hturn).mono ?_
      rintro e w1 ⟨rfl, hb⟩
      refine ⟨_, rfl, ?_⟩
      have a0 := pw_cell_below hb hHeld.1
      have a1 := pw_cell_below hb hHeld.2.1
      have a2 := pw_cell_below hb hHeld.2.2.1
      have aB := below_step hHeld.2.2.2.out hb
      clear hHeld hb
      refine hK.out _ _ ⟨a0, a1, a2, ⟨aB⟩⟩ (fun hHeld => ?_)
      clear hK K
      refine norm_ (a' := ?_) ?_ ?_
      rotate_left
      · show Act.put _ (some 15) _ = _
        simp only [Act.put, List.setIfInBounds_toArray, List.set_cons_zero, List.set_cons_succ, i64_w, i32_w]
        rfl
      refine two_ (i := 12) (j := 14) (Ni := some 22) (Nj := some 5) #[true, true, true, true, true, true, true, true, true, true, true, true, true, false, false, false] #[true, true, true, true, true, true, true, true, true, true, true, true, false, false, true, false] rfl rfl rfl rfl (by kernel_rfl) (by decide) (by decide) (fun K hK => ?_) (fun K hK => ?_)
      · skip
        refine make_step 47 _ _ xs.length (by rfl) rfl rfl rfl rfl (by kernel_rfl) info66 (by omega) ?_
        intro w2 hrow hb hsz
        have HR := Aside0.mk hrow
        have HRs := Aside0.mk hHeld.2.2.2.out.size
        have a0 := pw_cell_below hb hHeld.1
        have a1 := pw_cell_below hb hHeld.2.1
        have a2 := pw_cell_below hb hHeld.2.2.1
        have aB := below_step hHeld.2.2.2.out hb
        clear hHeld hb
        clear hrow hsz
        refine hK.out _ _ ⟨a0, a1, a2, ⟨aB⟩⟩ (fun hHeld => ?_)
        clear hK K
        refine norm_ (a' := ?_) ?_ ?_
        rotate_left
        · show Act.put _ (some 22) _ = _
          simp only [Act.put, List.setIfInBounds_toArray, List.set_cons_zero, List.set_cons_succ, i64_w, i32_w]
          rfl
        refine pure_ (i := 13) (N := some 23) (v := ?_) (a' := ?_) #[true, true, true, true, true, true, true, true, true, true, true, true, true, true, false, false] rfl rfl (by kernel_rfl) (fun _ _ _ h => h) (Or.inl ⟨by rfl, ?_⟩) ?_ ?_
        rotate_left
        · intro w'
          go_simp
          with_reducible rfl
        rotate_left
        · simp only [Act.put, List.setIfInBounds_toArray, List.set_cons_zero, List.set_cons_succ, i64_w, i32_w]
          rfl
        refine one_ (i := 14) (N := some 5) #[true, true, true, true, true, true, true, true, true, true, true, true, true, true, true, false] rfl rfl (by kernel_rfl) (by decide) (fun K hK => ?_)
        refine alloc_step (t := 89) (cs := #[.int .i64 0, .int .i64 0, .slice none 0 0]) (by rfl) rfl ?hr ?_
        case hr => first | (go_simp; done) | (go_simp; rfl)
        intro w3 hblk hb hsz
        have nR := HR.out.below hb
        clear HR
        have HR := Aside0.mk nR
        clear nR
        have HQ := Aside0.mk hblk
        have HQs := Aside0.mk hHeld.2.2.2.out.size
        have a0 := pw_cell_below hb hHeld.1
        have a1 := pw_cell_below hb hHeld.2.1
        have a2 := pw_cell_below hb hHeld.2.2.1
        have aB := below_step hHeld.2.2.2.out hb
        clear hHeld hb
        clear hblk hsz
        refine hK.out _ _ ⟨a0, a1, a2, ⟨aB⟩⟩ (fun hHeld => ?_)
        clear hK K
        refine norm_ (a' := ?_) ?_ ?_
        rotate_left
        · show Act.put _ (some 5) _ = _
          simp only [Act.put, List.setIfInBounds_toArray, List.set_cons_zero, List.set_cons_succ, i64_w, i32_w]
          rfl
        exact norm_ (by first | (simp only [putAll, Act.put, List.setIfInBounds_toArray, List.set_cons_zero, List.set_cons_succ]; done) | (simp only [putAll, Act.put, List.setIfInBounds_toArray, List.set_cons_zero, List.set_cons_succ]; rfl)) (hCont (w1.heap.size, w2.heap.size) _ ⟨hHeld, HR, HQ, HRs.out, HQs.out⟩)
      · skip
        refine alloc_step (t := 89) (cs := #[.int .i64 0, .int .i64 0, .slice none 0 0]) (by rfl) rfl ?hr ?_
        case hr => first | (go_simp; done) | (go_simp; rfl)
        intro w2 hblk hb hsz
        have HQ := Aside0.mk hblk
        have HQs := Aside0.mk hHeld.2.2.2.out.size
        have a0 := pw_cell_below hb hHeld.1
        have a1 := pw_cell_below hb hHeld.2.1
        have a2 := pw_cell_below hb hHeld.2.2.1
        have aB := below_step hHeld.2.2.2.out hb
        clear hHeld hb
        clear hblk hsz
        refine hK.out _ _ ⟨a0, a1, a2, ⟨aB⟩⟩ (fun hHeld => ?_)
        clear hK K
        refine norm_ (a' := ?_) ?_ ?_
        rotate_left
        · show Act.put _ (some 5) _ = _
          simp only [Act.put, List.setIfInBounds_toArray, List.set_cons_zero, List.set_cons_succ, i64_w, i32_w]
          rfl
        refine one_ (i := 12) (N := some 22) #[true, true, true, true, true, true, true, true, true, true, true, true, true, false, true, false] rfl rfl (by kernel_rfl) (by decide) (fun K hK => ?_)
        refine make_step 47 _ _ xs.length (by rfl) rfl rfl rfl rfl (by kernel_rfl) info66 (by omega) ?_
        intro w3 hrow hb hsz
        have nQ := HQ.out.below hb
        clear HQ
        have HQ := Aside0.mk nQ
        clear nQ
        have HR := Aside0.mk hrow
        have HRs := Aside0.mk hHeld.2.2.2.out.size
        have a0 := pw_cell_below hb hHeld.1
        have a1 := pw_cell_below hb hHeld.2.1
        have a2 := pw_cell_below hb hHeld.2.2.1
        have aB := below_step hHeld.2.2.2.out hb
        clear hHeld hb
        clear hrow hsz
        refine hK.out _ _ ⟨a0, a1, a2, ⟨aB⟩⟩ (fun hHeld => ?_)
        clear hK K
        refine norm_ (a' := ?_) ?_ ?_
        rotate_left
        · show Act.put _ (some 22) _ = _
          simp only [Act.put, List.setIfInBounds_toArray, List.set_cons_zero, List.set_cons_succ, i64_w, i32_w]
          rfl
        refine pure_ (i := 13) (N := some 23) (v := ?_) (a' := ?_) #[true, true, true, true, true, true, true, true, true, true, true, true, true, true, true, false] rfl rfl (by kernel_rfl) (fun _ _ _ h => h) (Or.inl ⟨by rfl, ?_⟩) ?_ ?_
        rotate_left
        · intro w'
          go_simp
          with_reducible rfl
        rotate_left
        · simp only [Act.put, List.setIfInBounds_toArray, List.set_cons_zero, List.set_cons_succ, i64_w, i32_w]
          rfl
        exact norm_ (by first | (simp only [putAll, Act.put, List.setIfInBounds_toArray, List.set_cons_zero, List.set_cons_succ]; done) | (simp only [putAll, Act.put, List.setIfInBounds_toArray, List.set_cons_zero, List.set_cons_succ]; rfl)) (hCont (w2.heap.size, w1.heap.size) _ ⟨hHeld, HR, HQ, HRs.out, HQs.out⟩)
    · skip
      refine make_step 47 _ _ xs.length (by rfl) rfl rfl rfl rfl (by kernel_rfl) info66 (by omega) ?_
      intro w1 hrow hb hsz
      have HR := Aside0.mk hrow
      have HRs := Aside0.mk hHeld.2.2.2.out.size
      have a0 := pw_cell_below hb hHeld.1
      have a1 := pw_cell_below hb hHeld.2.1
      have a2 := pw_cell_below hb hHeld.2.2.1
      have aB := below_step hHeld.2.2.2.out hb
      clear hHeld hb
      clear hrow hsz
      refine hK.out _ _ ⟨a0, a1, a2, ⟨aB⟩⟩ (fun hHeld => ?_)
      clear hK K
      refine norm_ (a' := ?_) ?_ ?_
      rotate_left
      · show Act.put _ (some 22) _ = _
        simp only [Act.put, List.setIfInBounds_toArray, List.set_cons_zero, List.set_cons_succ, i64_w, i32_w]
        rfl
      refine two_ (i := 5) (j := 14) (Ni := some 15) (Nj := some 5) #[true, true, true, true, true, true, true, true, true, true, true, true, true, false, false, false] #[true, true, true, true, true, false, true, true, true, true, true, true, true, false, true, false] rfl rfl rfl rfl (by kernel_rfl) (by decide) (by decide) (fun K hK => ?_) (fun K hK => ?_)
      · skip
        refine goes_ Tryd.func22 (by kernel_rfl) rfl #[.agg #[.int .i64 (R : Int), .int .i64 (C : Int)]] (by rfl) rfl rfl (by simp only [List.map_toArray, List.map_cons, List.map_nil]; rfl) ?_
        with_reducible refine (shape_Turned.calls (R : Int) (C : Int) (C : Int) (R : Int) _ hturn).mono ?_
        rintro e w2 ⟨rfl, hb⟩
        refine ⟨_, rfl, ?_⟩
        have nR := HR.out.below hb
        clear HR
        have HR := Aside0.mk nR
        clear nR
        have a0 := pw_cell_below hb hHeld.1
        have a1 := pw_cell_below hb hHeld.2.1
        have a2 := pw_cell_below hb hHeld.2.2.1
        have aB := below_step hHeld.2.2.2.out hb
        clear hHeld hb
        refine hK.out _ _ ⟨a0, a1, a2, ⟨aB⟩⟩ (fun hHeld => ?_)
        clear hK K
        refine norm_ (a' := ?_) ?_ ?_
        rotate_left
        · show Act.put _ (some 15) _ = _
          simp only [Act.put, List.setIfInBounds_toArray, List.set_cons_zero, List.set_cons_succ, i64_w, i32_w]
          rfl
        refine pure_ (i := 13) (N := some 23) (v := ?_) (a' := ?_) #[true, true, true, true, true, true, true, true, true, true, true, true, true, true, false, false] rfl rfl (by kernel_rfl) (fun _ _ _ h => h) (Or.inl ⟨by rfl, ?_⟩) ?_ ?_
        rotate_left
        · intro w'
          go_simp
          with_reducible rfl
        rotate_left
        · simp only [Act.put, List.setIfInBounds_toArray, List.set_cons_zero, List.set_cons_succ, i64_w, i32_w]
          rfl
        refine one_ (i := 14) (N := some 5) #[true, true, true, true, true, true, true, true, true, true, true, true, true, true, true, false] rfl rfl (by kernel_rfl) (by decide) (fun K hK => ?_)
        refine alloc_step (t := 89) (cs := #[.int .i64 0, .int .i64 0, .slice none 0 0]) (by rfl) rfl ?hr ?_
        case hr => first | (go_simp; done) | (go_simp; rfl)
        intro w3 hblk hb hsz
        have nR := HR.out.below hb
        clear HR
        have HR := Aside0.mk nR
        clear nR
        have HQ := Aside0.mk hblk
        have HQs := Aside0.mk hHeld.2.2.2.out.size
        have a0 := pw_cell_below hb hHeld.1
        have a1 := pw_cell_below hb hHeld.2.1
        have a2 := pw_cell_below hb hHeld.2.2.1
        have aB := below_step hHeld.2.2.2.out hb
        clear hHeld hb
        clear hblk hsz
        refine hK.out _ _ ⟨a0, a1, a2, ⟨aB⟩⟩ (fun hHeld => ?_)
        clear hK K
        refine norm_ (a' := ?_) ?_ ?_
        rotate_left
        · show Act.put _ (some 5) _ = _
          simp only [Act.put, List.setIfInBounds_toArray, List.set_cons_zero, List.set_cons_succ, i64_w, i32_w]
          rfl
        exact norm_ (by first | (simp only [putAll, Act.put, List.setIfInBounds_toArray, List.set_cons_zero, List.set_cons_succ]; done) | (simp only [putAll, Act.put, List.setIfInBounds_toArray, List.set_cons_zero, List.set_cons_succ]; rfl)) (hCont (w.heap.size, w2.heap.size) _ ⟨hHeld, HR, HQ, HRs.out, HQs.out⟩)
      · skip
        refine alloc_step (t := 89) (cs := #[.int .i64 0, .int .i64 0, .slice none 0 0]) (by rfl) rfl ?hr ?_
        case hr => first | (go_simp; done) | (go_simp; rfl)
        intro w2 hblk hb hsz
        have nR := HR.out.below hb
        clear HR
        have HR := Aside0.mk nR
        clear nR
        have HQ := Aside0.mk hblk
        have HQs := Aside0.mk hHeld.2.2.2.out.size
        have a0 := pw_cell_below hb hHeld.1
        have a1 := pw_cell_below hb hHeld.2.1
        have a2 := pw_cell_below hb hHeld.2.2.1
        have aB := below_step hHeld.2.2.2.out hb
        clear hHeld hb
        clear hblk hsz
        refine hK.out _ _ ⟨a0, a1, a2, ⟨aB⟩⟩ (fun hHeld => ?_)
        clear hK K
        refine norm_ (a' := ?_) ?_ ?_
        rotate_left
        · show Act.put _ (some 5) _ = _
          simp only [Act.put, List.setIfInBounds_toArray, List.set_cons_zero, List.set_cons_succ, i64_w, i32_w]
          rfl
        refine one_ (i := 5) (N := some 15) #[true, true, true, true, true, true, true, true, true, true, true, true, true, false, true, false] rfl rfl (by kernel_rfl) (by decide) (fun K hK => ?_)
        refine goes_ Tryd.func22 (by kernel_rfl) rfl #[.agg #[.int .i64 (R : Int), .int .i64 (C : Int)]] (by rfl) rfl rfl (by simp only [List.map_toArray, List.map_cons, List.map_nil]; rfl) ?_
        with_reducible refine (shape_Turned.calls (R : Int) (C : Int) (C : Int) (R : Int) _ hturn).mono ?_
        rintro e w3 ⟨rfl, hb⟩
        refine ⟨_, rfl, ?_⟩
        have nR := HR.out.below hb
        clear HR
        have HR := Aside0.mk nR
        clear nR
        have nQ := HQ.out.below hb
        clear HQ
        have HQ := Aside0.mk nQ
        clear nQ
        have a0 := pw_cell_below hb hHeld.1
        have a1 := pw_cell_below hb hHeld.2.1
        have a2 := pw_cell_below hb hHeld.2.2.1
        have aB := below_step hHeld.2.2.2.out hb
        clear hHeld hb
        refine hK.out _ _ ⟨a0, a1, a2, ⟨aB⟩⟩ (fun hHeld => ?_)
        clear hK K
        refine norm_ (a' := ?_) ?_ ?_
        rotate_left
        · show Act.put _ (some 15) _ = _
          simp only [Act.put, List.setIfInBounds_toArray, List.set_cons_zero, List.set_cons_succ, i64_w, i32_w]
          rfl
        refine pure_ (i := 13) (N := some 23) (v := ?_) (a' := ?_) #[true, true, true, true, true, true, true, true, true, true, true, true, true, true, true, false] rfl rfl (by kernel_rfl) (fun _ _ _ h => h) (Or.inl ⟨by rfl, ?_⟩) ?_ ?_
        rotate_left
        · intro w'
          go_simp
          with_reducible rfl
        rotate_left
        · simp only [Act.put, List.setIfInBounds_toArray, List.set_cons_zero, List.set_cons_succ, i64_w, i32_w]
          rfl
        exact norm_ (by first | (simp only [putAll, Act.put, List.setIfInBounds_toArray, List.set_cons_zero, List.set_cons_succ]; done) | (simp only [putAll, Act.put, List.setIfInBounds_toArray, List.set_cons_zero, List.set_cons_succ]; rfl)) (hCont (w.heap.size, w1.heap.size) _ ⟨hHeld, HR, HQ, HRs.out, HQs.out⟩)
    · skip
      refine alloc_step (t := 89) (cs := #[.int .i64 0, .int .i64 0, .slice none 0 0]) (by rfl) rfl ?hr ?_
      case hr => first | (go_simp; done) | (go_simp; rfl)
      intro w1 hblk hb hsz
      have HQ := Aside0.mk hblk
      have HQs := Aside0.mk hHeld.2.2.2.out.size
      have a0 := pw_cell_below hb hHeld.1
      have a1 := pw_cell_below hb hHeld.2.1
      have a2 := pw_cell_below hb hHeld.2.2.1
      have aB := below_step hHeld.2.2.2.out hb
      clear hHeld hb
      clear hblk hsz
      refine hK.out _ _ ⟨a0, a1, a2, ⟨aB⟩⟩ (fun hHeld => ?_)
      clear hK K
      refine norm_ (a' := ?_) ?_ ?_
      rotate_left
      · show Act.put _ (some 5) _ = _
        simp only [Act.put, List.setIfInBounds_toArray, List.set_cons_zero, List.set_cons_succ, i64_w, i32_w]
        rfl
      refine two_ (i := 5) (j := 12) (Ni := some 15) (Nj := some 22) #[true, true, true, true, true, true, true, true, true, true, true, true, false, false, true, false] #[true, true, true, true, true, false, true, true, true, true, true, true, true, false, true, false] rfl rfl rfl rfl (by kernel_rfl) (by decide) (by decide) (fun K hK => ?_) (fun K hK => ?_)
      · skip
        refine goes_ Tryd.func22 (by kernel_rfl) rfl #[.agg #[.int .i64 (R : Int), .int .i64 (C : Int)]] (by rfl) rfl rfl (by simp only [List.map_toArray, List.map_cons, List.map_nil]; rfl) ?_
        with_reducible refine (shape_Turned.calls (R : Int) (C : Int) (C : Int) (R : Int) _ hturn).mono ?_
        rintro e w2 ⟨rfl, hb⟩
        refine ⟨_, rfl, ?_⟩
        have nQ := HQ.out.below hb
        clear HQ
        have HQ := Aside0.mk nQ
        clear nQ
        have a0 := pw_cell_below hb hHeld.1
        have a1 := pw_cell_below hb hHeld.2.1
        have a2 := pw_cell_below hb hHeld.2.2.1
        have aB := below_step hHeld.2.2.2.out hb
        clear hHeld hb
        refine hK.out _ _ ⟨a0, a1, a2, ⟨aB⟩⟩ (fun hHeld => ?_)
        clear hK K
        refine norm_ (a' := ?_) ?_ ?_
        rotate_left
        · show Act.put _ (some 15) _ = _
          simp only [Act.put, List.setIfInBounds_toArray, List.set_cons_zero, List.set_cons_succ, i64_w, i32_w]
          rfl
        refine one_ (i := 12) (N := some 22) #[true, true, true, true, true, true, true, true, true, true, true, true, true, false, true, false] rfl rfl (by kernel_rfl) (by decide) (fun K hK => ?_)
        refine make_step 47 _ _ xs.length (by rfl) rfl rfl rfl rfl (by kernel_rfl) info66 (by omega) ?_
        intro w3 hrow hb hsz
        have nQ := HQ.out.below hb
        clear HQ
        have HQ := Aside0.mk nQ
        clear nQ
        have HR := Aside0.mk hrow
        have HRs := Aside0.mk hHeld.2.2.2.out.size
        have a0 := pw_cell_below hb hHeld.1
        have a1 := pw_cell_below hb hHeld.2.1
        have a2 := pw_cell_below hb hHeld.2.2.1
        have aB := below_step hHeld.2.2.2.out hb
        clear hHeld hb
        clear hrow hsz
        refine hK.out _ _ ⟨a0, a1, a2, ⟨aB⟩⟩ (fun hHeld => ?_)
        clear hK K
        refine norm_ (a' := ?_) ?_ ?_
        rotate_left
        · show Act.put _ (some 22) _ = _
          simp only [Act.put, List.setIfInBounds_toArray, List.set_cons_zero, List.set_cons_succ, i64_w, i32_w]
          rfl
        refine pure_ (i := 13) (N := some 23) (v := ?_) (a' := ?_) #[true, true, true, true, true, true, true, true, true, true, true, true, true, true, true, false] rfl rfl (by kernel_rfl) (fun _ _ _ h => h) (Or.inl ⟨by rfl, ?_⟩) ?_ ?_
        rotate_left
        · intro w'
          go_simp
          with_reducible rfl
        rotate_left
        · simp only [Act.put, List.setIfInBounds_toArray, List.set_cons_zero, List.set_cons_succ, i64_w, i32_w]
          rfl
        exact norm_ (by first | (simp only [putAll, Act.put, List.setIfInBounds_toArray, List.set_cons_zero, List.set_cons_succ]; done) | (simp only [putAll, Act.put, List.setIfInBounds_toArray, List.set_cons_zero, List.set_cons_succ]; rfl)) (hCont (w2.heap.size, w.heap.size) _ ⟨hHeld, HR, HQ, HRs.out, HQs.out⟩)
      · skip
        refine make_step 47 _ _ xs.length (by rfl) rfl rfl rfl rfl (by kernel_rfl) info66 (by omega) ?_
        intro w2 hrow hb hsz
        have nQ := HQ.out.below hb
        clear HQ
        have HQ := Aside0.mk nQ
        clear nQ
        have HR := Aside0.mk hrow
        have HRs := Aside0.mk hHeld.2.2.2.out.size
        have a0 := pw_cell_below hb hHeld.1
        have a1 := pw_cell_below hb hHeld.2.1
        have a2 := pw_cell_below hb hHeld.2.2.1
        have aB := below_step hHeld.2.2.2.out hb
        clear hHeld hb
        clear hrow hsz
        refine hK.out _ _ ⟨a0, a1, a2, ⟨aB⟩⟩ (fun hHeld => ?_)
        clear hK K
        refine norm_ (a' := ?_) ?_ ?_
        rotate_left
        · show Act.put _ (some 22) _ = _
          simp only [Act.put, List.setIfInBounds_toArray, List.set_cons_zero, List.set_cons_succ, i64_w, i32_w]
          rfl
        refine one_ (i := 5) (N := some 15) #[true, true, true, true, true, true, true, true, true, true, true, true, true, false, true, false] rfl rfl (by kernel_rfl) (by decide) (fun K hK => ?_)
        refine goes_ Tryd.func22 (by kernel_rfl) rfl #[.agg #[.int .i64 (R : Int), .int .i64 (C : Int)]] (by rfl) rfl rfl (by simp only [List.map_toArray, List.map_cons, List.map_nil]; rfl) ?_
        with_reducible refine (shape_Turned.calls (R : Int) (C : Int) (C : Int) (R : Int) _ hturn).mono ?_
        rintro e w3 ⟨rfl, hb⟩
        refine ⟨_, rfl, ?_⟩
        have nR := HR.out.below hb
        clear HR
        have HR := Aside0.mk nR
        clear nR
        have nQ := HQ.out.below hb
        clear HQ
        have HQ := Aside0.mk nQ
        clear nQ
        have a0 := pw_cell_below hb hHeld.1
        have a1 := pw_cell_below hb hHeld.2.1
        have a2 := pw_cell_below hb hHeld.2.2.1
        have aB := below_step hHeld.2.2.2.out hb
        clear hHeld hb
        refine hK.out _ _ ⟨a0, a1, a2, ⟨aB⟩⟩ (fun hHeld => ?_)
        clear hK K
        refine norm_ (a' := ?_) ?_ ?_
        rotate_left
        · show Act.put _ (some 15) _ = _
          simp only [Act.put, List.setIfInBounds_toArray, List.set_cons_zero, List.set_cons_succ, i64_w, i32_w]
          rfl
        refine pure_ (i := 13) (N := some 23) (v := ?_) (a' := ?_) #[true, true, true, true, true, true, true, true, true, true, true, true, true, true, true, false] rfl rfl (by kernel_rfl) (fun _ _ _ h => h) (Or.inl ⟨by rfl, ?_⟩) ?_ ?_
        rotate_left
        · intro w'
          go_simp
          with_reducible rfl
        rotate_left
        · simp only [Act.put, List.setIfInBounds_toArray, List.set_cons_zero, List.set_cons_succ, i64_w, i32_w]
          rfl
        exact norm_ (by first | (simp only [putAll, Act.put, List.setIfInBounds_toArray, List.set_cons_zero, List.set_cons_succ]; done) | (simp only [putAll, Act.put, List.setIfInBounds_toArray, List.set_cons_zero, List.set_cons_succ]; rfl)) (hCont (w1.heap.size, w.heap.size) _ ⟨hHeld, HR, HQ, HRs.out, HQs.out⟩)
  rintro ⟨g2, q⟩ w1 ⟨hHeld, HR, HQ, HRs, HQs⟩
  dsimp only at HR HQ HRs HQs
  have q0 := HQ.out.cell 0
  have q1 := HQ.out.cell 1
  have q2 := HQ.out.cell 2
  have f0 := HQ.out.frozen 0
  have f1 := HQ.out.frozen 1
  have f2 := HQ.out.frozen 2
  refine norm_ (a' := ?_) ?_ ?_
  rotate_left
  · simp only [putAll, Act.put, List.setIfInBounds_toArray, List.set_cons_zero, List.set_cons_succ]
    rfl
  refine last_ (i := 15) (N := none) #[true, true, true, true, true, true, true, true, true, true, true, true, true, true, true, true] rfl rfl (by kernel_rfl) (by decide) (fun K hK => ?_)
  refine skip_ (w1 := ?_) (by rfl) rfl ?_ ?_
  rotate_left
  · go_simp
    rfl
  refine hK.out _ _ ?_
  clear hK K
  refine done_ (by kernel_rfl) ?_

  have hTu : Turns w (((w1.setCell ⟨q, 0, none⟩ (.int .i64 C)).setCell ⟨q, 1, none⟩ (.int .i64 R)).setCell ⟨q, 2, none⟩ (.slice (some ⟨g2, 0, none⟩) xs.length xs.length)) p g q g2 R C xs (List.replicate xs.length 0) := by
    have hb := hHeld.2.2.2.out
    have hp := HX.out.obj.lt
    have hg := HX.out.row.lt
    have nq : g2 ≠ q := (HR.out : Bk w1 g2 66 _).ne HQ.out (by decide)
    have e1 : p ≠ q := by omega
    have e2 : g ≠ q := by omega
    have hbl := HX.out.below hb
    refine ⟨⟨((hbl.obj.far 0 _ e1).far 1 _ e1).far 2 _ e1, ((Bk.far hbl.row 0 _ e2).far 1 _ e2).far 2 _ e2, HX.out.good, HX.out.len, HX.out.max⟩, ?_, ((Bk.far HR.out 0 _ nq).far 1 _ nq).far 2 _ nq, by omega, nq, ?_⟩
    · rw [List.length_replicate]
      exact ((HQ.out.put 0 _).put 1 _).put 2 _
    · exact (((Fr.of_below hb []).set q 0 _ (.inr HQs)).set q 1 _ (.inr HQs)).set q 2 _ (.inr HQs)
  clear hHeld q0 q1 q2 f0 f1 f2 c0 c1 c2
  generalize World.setCell _ _ _ = W0 at *
  have HT := Aside0.mk hTu
  clear hTu HR HQ
  obtain ⟨s, hs, hs1, hs2⟩ : ∃ s : Nat, mn side 1048576 = (s : Int) ∧ 1 ≤ s ∧ s ≤ 1048576 := by
    have := HS.out
    by_cases h : (1048576 : Int) < side
    · exact ⟨1048576, by unfold mn; rw [if_pos h]; rfl, by omega, by omega⟩
    · exact ⟨side.toNat, by unfold mn; rw [if_neg h]; omega, by omega, by omega⟩
  go_wp2
  clear hs d0 hturn
  have hgp := good_pos HX.out.good
  have hR : R ≤ 4294967296 := by omega
  have hC : C ≤ 4294967296 := by omega
  have HG2 := Aside0.mk HRs
  clear hgp hm HRs HQs HS
  go_loopw [6] (fun v6 wr => ∃ (i : Nat) (ys : List Int), v6 = .int .i64 i ∧ i ≤ R + s ∧ Aside0 (Turns w wr p g q g2 R C xs ys) ∧ Aside0 (Cov R C xs ys (fun a b => a < i))) (fun v6 _ => R + s - (intOf v6).toNat)
  case atStart => exact ⟨0, _, rfl, Nat.zero_le _, HT, ⟨by rw [← HT.out.len]; exact (Cov.none R C xs).mono (fun a b h => by omega)⟩⟩
  case round =>
    clear HT
    obtain ⟨i, ys, rfl, hi, HT, HD⟩ := hrel
    have c0 := HT.out.blk.c0
    have c1 := HT.out.blk.c1
    have c2 := HT.out.blk.c2
    by_cases h1 : i < R
    · have d1 : decide ((i : Int) < (R : Int)) = true := decide_eq_true (by omega)
      have d1' : decide (i < R) = true := decide_eq_true h1
      have HI := Aside0.mk h1
      clear h1
      go_wp2
      clear c0 c1 c2 d1 d1'
      go_loopw [7] (fun v7 wr => ∃ (j : Nat) (ys : List Int), v7 = .int .i64 j ∧ j ≤ C + s ∧ Aside0 (Turns w wr p g q g2 R C xs ys) ∧ Aside0 (Cov R C xs ys (fun a b => a < i ∨ (a < i + s ∧ b < j)))) (fun v7 _ => C + s - (intOf v7).toNat)
      case atStart => exact ⟨0, ys, rfl, Nat.zero_le _, HT, ⟨HD.out.mono (fun a b h => by omega)⟩⟩
      case round =>
        clear HT HD
        obtain ⟨j, ys2, rfl, hj, HT, HD⟩ := hrel
        have c0 := HT.out.blk.c0
        have c1 := HT.out.blk.c1
        have c2 := HT.out.blk.c2
        by_cases h2 : j < C
        · have d2 : decide ((j : Int) < (C : Int)) = true := decide_eq_true (by omega)
          have d2' : decide (j < C) = true := decide_eq_true h2
          have HJ := Aside0.mk h2
          obtain ⟨x, hx⟩ : ∃ x : Nat, R = i + x := ⟨R - i, by have := HI.out; omega⟩
          obtain ⟨y, hy⟩ : ∃ y : Nat, C = j + y := ⟨C - j, by omega⟩
          obtain ⟨tr, m1, l1, l2, l3⟩ := least_ s x
          obtain ⟨tc, m2, k1, k2, k3⟩ := least_ s y
          have s1 : (R : Int) - (i : Int) = (x : Int) := by omega
          have s2 : (C : Int) - (j : Int) = (y : Int) := by omega
          have E1 := Aside0.mk hx
          have E2 := Aside0.mk hy
          have B1 : Aside0 (i + tr ≤ R) := ⟨by omega⟩
          have B2 : Aside0 (j + tc ≤ C) := ⟨by omega⟩
          have E3 := Aside0.mk l3
          have E4 := Aside0.mk k3
          clear h2 hx hy l3 k3
          go_wp2
          go_still_tail 27, (by kernel_rfl)
          go_wp2_with fail
          have HT1 := Aside0.mk HT.out.drew
          rw [m1, m2]
          with_reducible refine (turn_ p g q g2 R C i j tr tc xs ys2 _ _ HT1.out.blk HT1.out.dest HT1.out.row HT1.out.ng HT1.out.nq B1.out B2.out HD.out).mono ?_
          rintro e w2 ⟨rfl, zs, hr, hf, hc⟩
          have HT2 := Aside0.mk (HT1.out.lie hr hf (hc.len.trans HD.out.len.symm) HG2.out)
          have HD2 := Aside0.mk (hc.tile E1.out E2.out E3.out E4.out)
          clear hr hf hc HT HT1 HD
          go_wp2
          go_roundw
          case rel => exact ⟨j + s, zs, by go_num, Nat.add_le_add_right (Nat.le_of_lt HJ.out) s, HT2, HD2⟩
          case measure => exact meas_ C j s _ (by go_num) HJ.out hs1
        · have d2 : decide ((j : Int) < (C : Int)) = false := decide_eq_false (by omega)
          have d2' : decide (j < C) = false := decide_eq_false h2
          have HJ := Aside0.mk h2
          clear h2
          go_wp2
          go_roundw
          case rel => exact ⟨i + s, ys2, by go_num, Nat.add_le_add_right (Nat.le_of_lt HI.out) s, HT, ⟨HD.out.line HJ.out⟩⟩
          case measure => exact meas_ R i s _ (by go_num) HI.out hs1
    · have d1 : decide ((i : Int) < (R : Int)) = false := decide_eq_false (by omega)
      have d1' : decide (i < R) = false := decide_eq_false h1
      have HI := Aside0.mk h1
      have f0 := HT.out.blk.obj.frozen 0
      have f1 := HT.out.blk.obj.frozen 1
      have f2 := HT.out.blk.obj.frozen 2
      have q0 := HT.out.dest.cell 0
      have q1 := HT.out.dest.cell 1
      have q2 := HT.out.dest.cell 2
      clear h1
      go_wp2
      go_ret
      have n1 : p ≠ g2 := HT.out.blk.obj.ne HT.out.row (by decide)
      have hlen : ys.length = xs.length := HD.out.len.trans HT.out.len
      refine ⟨rfl, g2, ys, ⟨?_, ((Bk.far HT.out.row 0 _ n1.symm).far 1 _ n1.symm).far 2 _ n1.symm, good_swap HX.out.good, ?_, by rw [hlen]; exact HX.out.max⟩, HG2.out, ?_, HD.out.whole HI.out⟩
      · exact ((HT.out.blk.obj.put 0 _).put 1 _).put 2 _
      · rw [hlen, Int.mul_comm]; exact HX.out.len
      · exact (((HT.out.fr.mono (fun k hk => by simp at hk)).set p 0 _ (.inl (by simp))).set p 1 _ (.inl (by simp))).set p 2 _ (.inl (by simp))
end Go.Proofs.YthppiphldaopnaaDoor.Obj
