import Derived.Test.YthppiphldaopnaaDoorPRevAx1
import Derived.StillTailTactics
import Derived.Deep.LoopGhost
import Derived.BigQuiet
import Derived.Deep.QuietTactic
import Derived.Outline
namespace Go.Proofs.YthppiphldaopnaaDoor.Ext
open Go.RowKit Go.Proofs.YthppiphldaopnaaDoorW.PrintWords Go.Proofs.YthppiphldaopnaaDoorW.PrintLast Go.Proofs.YthppiphldaopnaaDoorW.PrintMore Go.Proofs.YthppiphldaopnaaDoor.PRevA
set_option linter.unusedVariables false
set_option linter.unusedSimpArgs false

/-- What stands behind n rounds, where F tells the places. -/
def mvs (F : Int → Option Int) (l : List Int) : Nat → Option (List Int)
  | 0 => some (List.replicate l.length 0)
  | n + 1 => (mvs F l n).bind fun out => (F (n : Int)).bind fun t => if 0 ≤ t ∧ t < (l.length : Int) then some (out.set t.toNat (rd l (n : Int))) else none
theorem mvs_le (F : Int → Option Int) (l out : List Int) (d : Nat) : ∀ n, mvs F l (n + d) = some out → ∃ o, mvs F l n = some o := by
  induction d generalizing out with
  | zero => intro n h; exact ⟨_, h⟩
  | succ d ih =>
    intro n h
    obtain ⟨o, h1, h2⟩ := Option.bind_eq_some_iff.mp (show (mvs F l (n + d)).bind _ = some out from h)
    exact ih _ n h1
theorem mvs_at (F : Int → Option Int) (l out : List Int) (n : Nat) (hn : n < l.length) (h : mvs F l l.length = some out) (o : List Int) (ho : mvs F l n = some o) :
    ∃ t, F (n : Int) = some t ∧ 0 ≤ t ∧ t < (l.length : Int) ∧ mvs F l (n + 1) = some (o.set t.toNat (rd l (n : Int))) := by
  obtain ⟨q, hq⟩ := mvs_le F l out (l.length - (n + 1)) (n + 1) (by rw [show n + 1 + (l.length - (n + 1)) = l.length by omega]; exact h)
  have h2 : (mvs F l n).bind _ = some q := hq
  rw [ho] at h2
  obtain ⟨t, ht, h3⟩ := Option.bind_eq_some_iff.mp (show (F (n : Int)).bind _ = some q from h2)
  by_cases c : 0 ≤ t ∧ t < (l.length : Int)
  · rw [if_pos c] at h3
    exact ⟨t, ht, c.1, c.2, by rw [hq, h3]⟩
  · rw [if_neg c] at h3; cases h3
theorem mvs_len (F : Int → Option Int) (l : List Int) : ∀ n out, mvs F l n = some out → out.length = l.length := by
  intro n
  induction n with
  | zero => intro out h; simp only [mvs, Option.some.injEq] at h; subst h; simp
  | succ n ih =>
    intro out h
    obtain ⟨o, h1, h2⟩ := Option.bind_eq_some_iff.mp (show (mvs F l n).bind _ = some out from h)
    obtain ⟨t, ht, h3⟩ := Option.bind_eq_some_iff.mp h2
    by_cases c : 0 ≤ t ∧ t < (l.length : Int)
    · rw [if_pos c] at h3; simp only [Option.some.injEq] at h3; subst h3; rw [List.length_set]; exact ih _ h1
    · rw [if_neg c] at h3; cases h3

def MoveInv (F : Int → Option Int) (l : List Int) (v1 : Value) (w wr : World) (n : Nat) : Prop := ∃ o, mvs F l n = some o ∧ Kd.R (Kd.int .u64) 66 wr w.heap.size (fun _ => True) v1 o ∧ Below w.heap.size w wr

theorem turn1 (i k r : Int) (w : World) (g : Nat) (hc : w.cell? ⟨g, 0, none⟩ = some (.int .i64 k)) (h : rev_turned.f i k = some r) :
    Calls Tryd.prog 55 #[.int .i64 i, .pointer (some ⟨g, 0, none⟩)] w fun e w' => e = .returned (.int .i64 r) ∧ Drawn0 w w' := by
  have A := Aside0.mk h
  clear h
  go_enter Tryd.func55, Tryd.ntmps55
  go_wp2_with fail
  refine (rev_turned.calls i k r _ A.out).mono ?_
  rintro e w' ⟨rfl, ⟨m, rfl⟩⟩
  go_wp2_with fail
  go_ret
  exact ⟨rfl, by repeat (first | exact Drawn0.refl _ | apply Drawn0.step)⟩
theorem digs1 (n : Nat) (i k r q : Int) (w : World) (g g' : Nat) (hc : w.cell? ⟨g, 0, none⟩ = some (.int .i64 k)) (hc' : w.cell? ⟨g', 0, none⟩ = some (.int .i64 r)) (h : rev_digits.f n i k r = some q) :
    Calls Tryd.prog 58 #[.int .i64 i, .pointer (some ⟨g, 0, none⟩), .pointer (some ⟨g', 0, none⟩)] w fun e w' => e = .returned (.int .i64 q) ∧ Drawn0 w w' := by
  have A := Aside0.mk h
  clear h
  go_enter Tryd.func58, Tryd.ntmps58
  go_wp2_with fail
  refine (rev_digits.calls n i k r q _ A.out).mono ?_
  rintro e w' ⟨rfl, ⟨m, rfl⟩⟩
  go_wp2_with fail
  go_ret
  exact ⟨rfl, by repeat (first | exact Drawn0.refl _ | apply Drawn0.step)⟩
def Clos55 (g : Nat) (F : Int → Option Int) (w : World) : Prop :=
  ∀ (i t : Int) (W : World), F i = some t → Below w.heap.size w W → Calls Tryd.prog 55 #[.int .i64 i, .pointer (some ⟨g, 0, none⟩)] W fun e w' => e = .returned (.int .i64 t) ∧ Drawn0 W w'
set_option maxRecDepth 100000 in
set_option maxHeartbeats 1000000 in
theorem move55 (F : Int → Option Int) (g : Nat) (A0 : Option Addr) (c0 : Nat) (l out : List Int) (w : World) (hr0 : Kd.C (Kd.int .u64) w A0 l.length l) (hc0 : l.length ≤ c0) (hl : l.length < 17592186044416)
    (hF : Clos55 g F w) (h : mvs F l l.length = some out) :
    Calls Tryd.prog 54 #[.slice A0 l.length c0, .func (.func 55) #[] #[.pointer (some ⟨g, 0, none⟩)]] w fun e w' => ∃ v0_ : Value, e = .returned v0_ ∧ Kd.R (Kd.int .u64) 66 w' w.heap.size (fun _ => True) v0_ out ∧ Below w.heap.size w w' := by
  have HR0 := Aside0.mk hr0
  have HF := Aside0.mk hF
  have A := Aside0.mk h
  clear hr0 hF h
  go_enter Tryd.func54, Tryd.ntmps54
  go_wp2_with ((with_reducible refine gate_dst (N := 10) rfl ?_); refine Kd.R_make (Kd.int .u64) w.heap.size 66 rfl rfl 47 (.tmp 9) (.tmp 9) rfl (l.length : Int) rfl rfl Tryd.underlying47 (.int .u64 0) 8 (by kernel_rfl) rfl (by decide) (by decide) 0 (ok := fun _ => True) (okp := fun _ => True) rfl (fun _ h => h) trivial (by omega) (by omega) (Below.refl _ _) (Nat.le_refl _) ?_; intro v1 w1 hR hB hG hO)
  have HI := Aside0.mk (show MoveInv F l v1 w w1 0 from ⟨_, rfl, by simpa using hR, hB⟩)
  clear hR hB hG hO
  go_loopw [13] (fun v wr => ∃ n : Nat, v = .int .i64 n ∧ n ≤ l.length ∧ Aside0 (MoveInv F l v1 w wr n)) (fun v _ => l.length - (intOf v).toNat)
  case atStart => exact ⟨0, rfl, Nat.zero_le _, HI⟩
  case round =>
    clear HI
    obtain ⟨n, rfl, hn, HI⟩ := hrel
    obtain ⟨o, ho, hR, hB⟩ := HI.out
    clear HI
    have HO := Aside0.mk ho
    have HR := Aside0.mk hR
    have HB := Aside0.mk hB
    clear ho hR hB
    by_cases hlt : n < l.length
    · obtain ⟨t, ht, ht0, ht1, hnext⟩ := mvs_at F l out n hlt A.out o HO.out
      have HT := Aside0.mk ht
      have HN := Aside0.mk hnext
      have hol := mvs_len F l n o HO.out
      clear ht hnext
      obtain ⟨ad, e1, hx⟩ := Kd.at_int (Kd.C_below HR0.out HB.out) (n : Int) (by omega) (by omega)
      cases e1
      simp only [Int.toNat_natCast] at hx
      obtain ⟨go, co, eo, gb, gl, -⟩ := Kd.R_form HR.out (by omega)
      subst eo
      obtain ⟨hy0, hy1⟩ := Kd.R_celln 0 HR.out t ht0 (by omega)
      have HP := Aside0.mk (fun m => Kd.R_putn (Kd.R_drewN HR.out m) t (rd l (n : Int)))
      have htl : t < (o.length : Int) := by omega
      clear hol
      go_wp2_with fail
      refine (HF.out (n : Int) t _ HT.out HB.out).mono ?_
      rintro e w2 ⟨rfl, ⟨m, rfl⟩⟩
      go_wp2
      go_roundw
      case rel => exact ⟨n + 1, by go_num, by omega, ⟨_, HN.out, HP.out m, by first | exact below_set HB.out gb | exact pw_below_drewN (below_set HB.out gb) m | exact below_set (pw_below_drewN HB.out m) gb⟩⟩
      case measure => simp [intOf]; omega
    · obtain rfl : n = l.length := by omega
      go_wp2
      go_ret
      exact ⟨_, rfl, by rw [show out = o from Option.some.inj (A.out.symm.trans HO.out)]; exact HR.out, HB.out⟩
def Clos58 (g g' : Nat) (F : Int → Option Int) (w : World) : Prop :=
  ∀ (i t : Int) (W : World), F i = some t → Below w.heap.size w W → Calls Tryd.prog 58 #[.int .i64 i, .pointer (some ⟨g, 0, none⟩), .pointer (some ⟨g', 0, none⟩)] W fun e w' => e = .returned (.int .i64 t) ∧ Drawn0 W w'
set_option maxRecDepth 100000 in
set_option maxHeartbeats 1000000 in
theorem move58 (F : Int → Option Int) (g g' : Nat) (A0 : Option Addr) (c0 : Nat) (l out : List Int) (w : World) (hr0 : Kd.C (Kd.int .u64) w A0 l.length l) (hc0 : l.length ≤ c0) (hl : l.length < 17592186044416)
    (hF : Clos58 g g' F w) (h : mvs F l l.length = some out) :
    Calls Tryd.prog 54 #[.slice A0 l.length c0, .func (.func 58) #[] #[.pointer (some ⟨g, 0, none⟩), .pointer (some ⟨g', 0, none⟩)]] w fun e w' => ∃ v0_ : Value, e = .returned v0_ ∧ Kd.R (Kd.int .u64) 66 w' w.heap.size (fun _ => True) v0_ out ∧ Below w.heap.size w w' := by
  have HR0 := Aside0.mk hr0
  have HF := Aside0.mk hF
  have A := Aside0.mk h
  clear hr0 hF h
  go_enter Tryd.func54, Tryd.ntmps54
  go_wp2_with ((with_reducible refine gate_dst (N := 10) rfl ?_); refine Kd.R_make (Kd.int .u64) w.heap.size 66 rfl rfl 47 (.tmp 9) (.tmp 9) rfl (l.length : Int) rfl rfl Tryd.underlying47 (.int .u64 0) 8 (by kernel_rfl) rfl (by decide) (by decide) 0 (ok := fun _ => True) (okp := fun _ => True) rfl (fun _ h => h) trivial (by omega) (by omega) (Below.refl _ _) (Nat.le_refl _) ?_; intro v1 w1 hR hB hG hO)
  have HI := Aside0.mk (show MoveInv F l v1 w w1 0 from ⟨_, rfl, by simpa using hR, hB⟩)
  clear hR hB hG hO
  go_loopw [13] (fun v wr => ∃ n : Nat, v = .int .i64 n ∧ n ≤ l.length ∧ Aside0 (MoveInv F l v1 w wr n)) (fun v _ => l.length - (intOf v).toNat)
  case atStart => exact ⟨0, rfl, Nat.zero_le _, HI⟩
  case round =>
    clear HI
    obtain ⟨n, rfl, hn, HI⟩ := hrel
    obtain ⟨o, ho, hR, hB⟩ := HI.out
    clear HI
    have HO := Aside0.mk ho
    have HR := Aside0.mk hR
    have HB := Aside0.mk hB
    clear ho hR hB
    by_cases hlt : n < l.length
    · obtain ⟨t, ht, ht0, ht1, hnext⟩ := mvs_at F l out n hlt A.out o HO.out
      have HT := Aside0.mk ht
      have HN := Aside0.mk hnext
      have hol := mvs_len F l n o HO.out
      clear ht hnext
      obtain ⟨ad, e1, hx⟩ := Kd.at_int (Kd.C_below HR0.out HB.out) (n : Int) (by omega) (by omega)
      cases e1
      simp only [Int.toNat_natCast] at hx
      obtain ⟨go, co, eo, gb, gl, -⟩ := Kd.R_form HR.out (by omega)
      subst eo
      obtain ⟨hy0, hy1⟩ := Kd.R_celln 0 HR.out t ht0 (by omega)
      have HP := Aside0.mk (fun m => Kd.R_putn (Kd.R_drewN HR.out m) t (rd l (n : Int)))
      have htl : t < (o.length : Int) := by omega
      clear hol
      go_wp2_with fail
      refine (HF.out (n : Int) t _ HT.out HB.out).mono ?_
      rintro e w2 ⟨rfl, ⟨m, rfl⟩⟩
      go_wp2
      go_roundw
      case rel => exact ⟨n + 1, by go_num, by omega, ⟨_, HN.out, HP.out m, by first | exact below_set HB.out gb | exact pw_below_drewN (below_set HB.out gb) m | exact below_set (pw_below_drewN HB.out m) gb⟩⟩
      case measure => simp [intOf]; omega
    · obtain rfl : n = l.length := by omega
      go_wp2
      go_ret
      exact ⟨_, rfl, by rw [show out = o from Option.some.inj (A.out.symm.trans HO.out)]; exact HR.out, HB.out⟩
def rev_Turn.f (l : List Int) : Option (List Int × Int) :=
  (root_Fits.f (l.length : Int)).bind fun b => if b.2 = true then (if l.length < 17592186044416 then (mvs (fun i => rev_turned.f i b.1) l l.length).bind fun o => some (o, 0) else none) else some ([], 4)
set_option maxHeartbeats 1000000 in
theorem rev_Turn.calls (A0 : Option Addr) (c0 : Nat) (l0 : List Int) (r1 : List Int) (r2 : Int) (w : World) (hr0 : Kd.C (Kd.int .u64) w A0 l0.length l0) (hc0 : l0.length ≤ c0) (h : rev_Turn.f l0 = some (r1, r2)) (hT : TabOK w) :
    Calls Tryd.prog 32 #[.slice A0 l0.length c0] w fun e w' => ∃ v0_ : Value, e = .returned (.tuple #[v0_, .int .i64 r2]) ∧ Kd.R (Kd.int .u64) 66 w' w.heap.size (fun _ => True) v0_ r1 ∧ Below w.heap.size w w' := by
  have hmf : ∀ (fn : Fn) (first cap : Array Value) (w : World), (Instr.makeFunc fn first cap).run Tryd.prog w = .ok (.func fn first cap) w := fun _ _ _ _ => rfl
  obtain ⟨⟨k, ok⟩, h1, h⟩ := Option.bind_eq_some_iff.mp (show (root_Fits.f (l0.length : Int)).bind _ = _ from h)
  have A1 := Aside0.mk h1
  have HR0 := Aside0.mk hr0
  have HT := Aside0.mk hT
  clear h1 hr0 hT
  cases ok with
  | false =>
    obtain ⟨rfl, rfl⟩ := Prod.mk.inj (Option.some.inj (show some (([] : List Int), (4 : Int)) = some (r1, r2) from h))
    clear h
    go_enter Tryd.func32, Tryd.ntmps32
    go_wp2_with fail
    refine (root_Fits.calls _ k false _ A1.out HT.out).mono ?_
    rintro e w1 ⟨rfl, hd⟩
    have HD := Aside0.mk hd
    clear hd
    go_wp2_with fail
    go_ret2
    exact ⟨_, rfl, Kd.R_nil _ _ _ _ _, below_alloc HD.out.below _⟩
  | true =>
    have h2 : (if l0.length < 17592186044416 then (mvs (fun i => rev_turned.f i k) l0 l0.length).bind fun o => some (o, 0) else none) = some (r1, r2) := h
    clear h
    by_cases hl : l0.length < 17592186044416
    · rw [if_pos hl] at h2
      obtain ⟨o, h3, h4⟩ := Option.bind_eq_some_iff.mp h2
      obtain ⟨rfl, rfl⟩ := Prod.mk.inj (Option.some.inj h4)
      have A3 := Aside0.mk h3
      clear h2 h3 h4
      go_enter Tryd.func32, Tryd.ntmps32
      go_wp2_with fail
      refine (root_Fits.calls _ k true _ A1.out HT.out).mono ?_
      rintro e w1 ⟨rfl, hd⟩
      have HD := Aside0.mk hd
      clear hd
      go_wp2_with fail
      refine (move55 (fun i => rev_turned.f i k) w1.heap.size A0 c0 l0 o _ (Kd.C_below HR0.out (below_alloc HD.out.below _)) hc0 hl (fun i t W hi hb => turn1 i k t W _ (pw_cell_below hb (by rw [World.cell?_alloc_at _ _ _ _ rfl]; rfl)) hi) A3.out).mono ?_
      rintro e w2 ⟨v0, rfl, hR, hB⟩
      have HR := Aside0.mk (Kd.R_lower hR (below_alloc HD.out.below _).size)
      have HB := Aside0.mk (below_then (below_alloc HD.out.below _) (below_alloc HD.out.below _).size hB)
      clear hR hB
      go_wp2_with fail
      go_ret2
      exact ⟨_, rfl, HR.out, HB.out⟩
    · rw [if_neg hl] at h2; cases h2
def rev_TurnBy.f (l : List Int) (r : Int) : Option (List Int × Int) :=
  (root_Fits.f (l.length : Int)).bind fun b => if b.2 = true then ((rev_goes.f b.1 r).bind fun g => if g = true then (if l.length < 17592186044416 then (mvs (fun i => rev_digits.f 40 i b.1 r) l l.length).bind fun o => some (o, 0) else none) else some ([], 1)) else some ([], 4)
set_option maxHeartbeats 1000000 in
theorem rev_TurnBy.calls (A0 : Option Addr) (c0 : Nat) (l0 : List Int) (a1 : Int) (r1 : List Int) (r2 : Int) (w : World) (hr0 : Kd.C (Kd.int .u64) w A0 l0.length l0) (hc0 : l0.length ≤ c0) (h : rev_TurnBy.f l0 a1 = some (r1, r2)) (hT : TabOK w) :
    Calls Tryd.prog 33 #[.slice A0 l0.length c0, .int .i64 a1] w fun e w' => ∃ v0_ : Value, e = .returned (.tuple #[v0_, .int .i64 r2]) ∧ Kd.R (Kd.int .u64) 66 w' w.heap.size (fun _ => True) v0_ r1 ∧ Below w.heap.size w w' := by
  have hmf : ∀ (fn : Fn) (first cap : Array Value) (w : World), (Instr.makeFunc fn first cap).run Tryd.prog w = .ok (.func fn first cap) w := fun _ _ _ _ => rfl
  obtain ⟨⟨k, ok⟩, h1, h⟩ := Option.bind_eq_some_iff.mp (show (root_Fits.f (l0.length : Int)).bind _ = _ from h)
  have A1 := Aside0.mk h1
  have HR0 := Aside0.mk hr0
  have HT := Aside0.mk (TabOK.below hT (below_alloc (Below.refl _ _) (Obj.cells #[Value.int .i64 a1] 3)))
  clear h1 hr0 hT
  cases ok with
  | false =>
    obtain ⟨rfl, rfl⟩ := Prod.mk.inj (Option.some.inj (show some (([] : List Int), (4 : Int)) = some (r1, r2) from h))
    clear h
    go_enter Tryd.func33, Tryd.ntmps33
    go_wp2_with fail
    refine (root_Fits.calls _ k false _ A1.out HT.out).mono ?_
    rintro e w1 ⟨rfl, hd⟩
    have HD := Aside0.mk (below_then (below_alloc (Below.refl w.heap.size w) (Obj.cells #[Value.int .i64 a1] 3)) (below_alloc (Below.refl w.heap.size w) (Obj.cells #[Value.int .i64 a1] 3)).size hd.below)
    clear hd
    go_wp2_with fail
    go_ret2
    exact ⟨_, rfl, Kd.R_nil _ _ _ _ _, below_alloc HD.out _⟩
  | true =>
    obtain ⟨g, hg, h2⟩ := Option.bind_eq_some_iff.mp (show (rev_goes.f k a1).bind _ = some (r1, r2) from h)
    have AG := Aside0.mk hg
    clear h hg
    cases g with
    | false =>
      obtain ⟨rfl, rfl⟩ := Prod.mk.inj (Option.some.inj (show some (([] : List Int), (1 : Int)) = some (r1, r2) from h2))
      clear h2
      go_enter Tryd.func33, Tryd.ntmps33
      go_wp2_with fail
      refine (root_Fits.calls _ k true _ A1.out HT.out).mono ?_
      rintro e w1 ⟨rfl, hd⟩
      have hb1 : Below w.heap.size w w1 := below_then (below_alloc (Below.refl w.heap.size w) (Obj.cells #[Value.int .i64 a1] 3)) (below_alloc (Below.refl w.heap.size w) (Obj.cells #[Value.int .i64 a1] 3)).size hd.below
      have hc1 : w1.cell? ⟨w.heap.size, 0, none⟩ = some (.int .i64 a1) := pw_cell_below hd.below (by rw [World.cell?_alloc_at _ _ _ _ rfl]; rfl)
      have hl1 : w.heap.size < w1.heap.size := by have := hd.below.size; simp at this; omega
      have HD := Aside0.mk hb1
      clear hb1 hd
      go_wp2_with fail
      refine (rev_goes.calls k a1 false _ AG.out).mono ?_
      rintro e w2 ⟨rfl, hd⟩
      have HE := Aside0.mk (below_then (below_alloc HD.out (Obj.cells #[Value.int .i64 k] 3)) (below_alloc HD.out _).size hd.below)
      clear hd
      go_wp2_with fail
      go_ret2
      exact ⟨_, rfl, Kd.R_nil _ _ _ _ _, HE.out⟩
    | true =>
      by_cases hl : l0.length < 17592186044416
      · have h3 := (if_pos hl).symm.trans (show (if l0.length < 17592186044416 then (mvs (fun i => rev_digits.f 40 i k a1) l0 l0.length).bind fun o => some (o, 0) else none) = some (r1, r2) from h2)
        clear h2
        obtain ⟨o, h5, h4⟩ := Option.bind_eq_some_iff.mp h3
        obtain ⟨rfl, rfl⟩ := Prod.mk.inj (Option.some.inj h4)
        have A3 := Aside0.mk h5
        clear h3 h4 h5
        go_enter Tryd.func33, Tryd.ntmps33
        go_wp2_with fail
        refine (root_Fits.calls _ k true _ A1.out HT.out).mono ?_
        rintro e w1 ⟨rfl, hd⟩
        have hb1 : Below w.heap.size w w1 := below_then (below_alloc (Below.refl w.heap.size w) (Obj.cells #[Value.int .i64 a1] 3)) (below_alloc (Below.refl w.heap.size w) (Obj.cells #[Value.int .i64 a1] 3)).size hd.below
        have hc1 : w1.cell? ⟨w.heap.size, 0, none⟩ = some (.int .i64 a1) := pw_cell_below hd.below (by rw [World.cell?_alloc_at _ _ _ _ rfl]; rfl)
        have hl1 : w.heap.size < w1.heap.size := by have := hd.below.size; simp at this; omega
        have HC1 := Aside0.mk hc1
        have HD := Aside0.mk hb1
        clear hb1 hd
        go_wp2_with fail
        refine (rev_goes.calls k a1 true _ AG.out).mono ?_
        rintro e w2 ⟨rfl, hd⟩
        have HE := Aside0.mk (below_then (below_alloc HD.out (Obj.cells #[Value.int .i64 k] 3)) (below_alloc HD.out _).size hd.below)
        have HC2 := Aside0.mk (show w2.cell? ⟨w1.heap.size, 0, none⟩ = some (.int .i64 k) from pw_cell_below hd.below (by rw [World.cell?_alloc_at _ _ _ _ rfl]; rfl))
        have HC3 := Aside0.mk (show w2.cell? ⟨w.heap.size, 0, none⟩ = some (.int .i64 a1) from pw_cell_below hd.below (pw_cell_below (below_alloc (Below.refl _ _) _) HC1.out))
        clear hd hc1
        go_wp2_with fail
        refine (move58 (fun i => rev_digits.f 40 i k a1) w1.heap.size w.heap.size A0 c0 l0 o _ (Kd.C_below HR0.out HE.out) hc0 hl (fun i t W hi hb => digs1 40 i k a1 t W _ _ (pw_cell_below hb HC2.out) (pw_cell_below hb HC3.out) hi) A3.out).mono ?_
        rintro e w3 ⟨v0, rfl, hR, hB⟩
        have HR := Aside0.mk (Kd.R_lower hR HE.out.size)
        have HB := Aside0.mk (below_then HE.out HE.out.size hB)
        clear hR hB
        go_wp2_with fail
        go_ret2
        exact ⟨_, rfl, HR.out, HB.out⟩
      · exact absurd ((if_neg hl).symm.trans (show (if l0.length < 17592186044416 then (mvs (fun i => rev_digits.f 40 i k a1) l0 l0.length).bind fun o => some (o, 0) else none) = some (r1, r2) from h2)) (by simp)
end Go.Proofs.YthppiphldaopnaaDoor.Ext
