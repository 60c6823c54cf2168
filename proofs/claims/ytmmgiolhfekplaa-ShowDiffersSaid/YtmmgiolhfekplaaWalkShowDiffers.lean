import Derived.Laws.BitsAllLaws
import Derived.OpenShut
import Derived.Test.YtmmgiolhfekplaaPShowx1
import Derived.Test.YtmmgiolhfekplaaWNEv
--NEEDS show_Diff show_Same slices_Equal_uint64_uint64 abacistlaw39_awake abacistref04_Same
import Derived.Test.YtmmgiolhfekplaaPureShowDiffers
import Derived.BigQuiet
import Derived.Deep.QuietTactic
import Derived.Outline
set_option linter.unusedVariables false
set_option linter.unusedSimpArgs false
namespace Go.Proofs.Ytmmgiolhfekplaa.Pure
open Go.RowKit Go.Proofs.Ytmmgiolhfekplaa Go.Proofs.Ytmmgiolhfekplaa.PShow Go.Proofs.Ytmmgiolhfekplaa.Ext Go.Proofs.YtmmgiolhfekplaaW.PrintWords Go.Proofs.YtmmgiolhfekplaaW.PrintLast Go.Proofs.YtmmgiolhfekplaaW.PrintMore

/-- A literal whose elements are read. -/
theorem C_lit {α : Type} (d : Kd α) (W : World) (e : Nat) (inner : List Value) (ps : List α) (hr : Reps (d.K W) d.sz ps inner) (hm : ps.length ≤ 9223372036854775807) :
    d.C (W.alloc (.cells inner.toArray e)) (some ⟨W.heap.size, 0, none⟩) ps.length ps := by
  have ho := World.ownsRow_lit (base := 0) (e := e) (size := d.sz) W inner.toArray ps.length (Nat.zero_le _) (by simpa [maxLen] using hm) (by simpa using hr.1)
  obtain ⟨A, c, hv, h⟩ := own_reads_row ho (show Reps (d.K (W.alloc (.cells inner.toArray e))) d.sz ps inner.toArray.toList from by simpa using hr.imp_ (R' := d.K (W.alloc (.cells inner.toArray e))) (fun p c hp => d.K_below (below_alloc (Below.refl _ _) _) hp)) rfl
  injection hv with h1 h2 h3
  subst h1
  exact h
structure In (w : World) (A : Option Addr) (c : Nat) (l : List Int) : Prop where
  r : Kd.C (Kd.int .u64) w A l.length l
  c : l.length ≤ c
theorem In.below {w W : World} {A : Option Addr} {c : Nat} {l : List Int} (h : In w A c l) (hb : Below w.heap.size w W) : In W A c l := ⟨Kd.C_below h.r hb, h.c⟩
theorem reps1 {α : Type} {d : Kd α} {W : World} {x : α} {v : Value} (hs : d.sz = 1) (h : d.K W x [v]) : Reps (d.K W) d.sz [x] [v] := by
  have := Reps.snoc (Reps.none (d.K W) d.sz) h (by rw [hs]; rfl)
  simpa using this
theorem lit2 (W : World) (A B : Option Addr) (c e : Nat) (a b : List Int) (ha : In W A c a) (hb : In W B e b) :
    Kd.C (Kd.slice 30 (Kd.int .u64)) (W.alloc (.cells #[.slice A a.length c, .slice B b.length e] 22)) (some ⟨W.heap.size, 0, none⟩) ([a, b] : List (List Int)).length [a, b] := by
  have h1 := reps1 (d := Kd.slice 30 (Kd.int .u64)) rfl (show (Kd.slice 30 (Kd.int .u64)).K W a [.slice A a.length c] from ⟨A, c, rfl, ha.c, ha.r⟩)
  have h2 := Reps.snoc h1 (show (Kd.slice 30 (Kd.int .u64)).K W b [.slice B b.length e] from ⟨B, e, rfl, hb.c, hb.r⟩) rfl
  exact C_lit (Kd.slice 30 (Kd.int .u64)) W 22 [.slice A a.length c, .slice B b.length e] [a, b] h2 (by simp)
theorem lit3 (W : World) (A B C : Option Addr) (c e f : Nat) (a b g : List Int) (ha : In W A c a) (hb : In W B e b) (hg : In W C f g) :
    Kd.C (Kd.slice 30 (Kd.int .u64)) (W.alloc (.cells #[.slice A a.length c, .slice B b.length e, .slice C g.length f] 22)) (some ⟨W.heap.size, 0, none⟩) ([a, b, g] : List (List Int)).length [a, b, g] := by
  have h1 := reps1 (d := Kd.slice 30 (Kd.int .u64)) rfl (show (Kd.slice 30 (Kd.int .u64)).K W a [.slice A a.length c] from ⟨A, c, rfl, ha.c, ha.r⟩)
  have h2 := Reps.snoc h1 (show (Kd.slice 30 (Kd.int .u64)).K W b [.slice B b.length e] from ⟨B, e, rfl, hb.c, hb.r⟩) rfl
  have h3 := Reps.snoc h2 (show (Kd.slice 30 (Kd.int .u64)).K W g [.slice C g.length f] from ⟨C, f, rfl, hg.c, hg.r⟩) rfl
  exact C_lit (Kd.slice 30 (Kd.int .u64)) W 22 [.slice A a.length c, .slice B b.length e, .slice C g.length f] [a, b, g] h3 (by simp)
theorem eqA32 (d : Nat) (w : World) (x0 y0 : Int) (x1 y1 : Int) (x2 y2 : Int) :
    (Op.equalIn (d + 2) 32 (.agg #[.int .i64 x0, .int .u64 x1, .int .u64 x2]) (.agg #[.int .i64 y0, .int .u64 y1, .int .u64 y2])).run Try.prog w = .ok (x0 == y0 && (x1 == y1 && (x2 == y2))) w := by
  refine eqA_of Try.underlying32 (by kernel_rfl) ?_
  refine eqf_cons (by rfl) (by go_simp; rfl) (by go_simp; rfl) (by go_simp) ?_
  refine eqf_cons (by rfl) (by go_simp; rfl) (by go_simp; rfl) (by go_simp) ?_
  exact eqf_last (by rfl) (by go_simp; rfl) (by go_simp; rfl) (by go_simp)
attribute [local go_sem high] eqA32
def Ok (B : Nat) (w : World) (e : Ending) (w' : World) : Prop := e = .returned (.bool true) ∧ Below B w w'
set_option maxHeartbeats 2000000 in
set_option maxRecDepth 100000 in
theorem differs_same (a b : List Int) (A B : Option Addr) (c e : Nat) (m : Int) (w : World) (ha : In w A c a) (hb : In w B e b) (la : a.length ≤ 60) (lb : b.length ≤ 60) :
    Calls Try.prog 3 #[.slice A a.length c, .slice B b.length e, .int .i64 m] w (Ok w.heap.size w) := by
  obtain ⟨k1, h1⟩ := shawake_.rounds
  have HA := Aside0.mk ha
  have HB := Aside0.mk hb
  have K1 := Aside0.mk h1
  clear ha hb h1
  obtain ⟨ds, er, k2, h2, hfin⟩ : ∃ (ds : List S32) (er : Int) (k2 : Nat), show_Diff.f k2 a b m = some (ds, er) ∧ (a.length ≠ b.length ∧ ds = [] ∧ er = 19 ∨ a.length = b.length ∧ m < 0 ∧ ds = [] ∧ er = 1 ∨ a.length = b.length ∧ 0 ≤ m ∧ ds = (dfs a b a.length).take m.toNat ∧ er = 0) := by
    by_cases c1 : a.length = b.length
    · by_cases c2 : m < 0
      · obtain ⟨k, h⟩ := (diff_neg a b m c1 c2).rounds
        exact ⟨_, _, k, h, .inr (.inl ⟨c1, c2, rfl, rfl⟩)⟩
      · obtain ⟨q, rfl⟩ := Int.eq_ofNat_of_zero_le (show 0 ≤ m by omega)
        obtain ⟨k, h⟩ := (diff_yes a b q c1 la).rounds
        exact ⟨_, _, k, h, .inr (.inr ⟨c1, by omega, rfl, rfl⟩)⟩
    · obtain ⟨k, h⟩ := (diff_odd a b m c1).rounds
      exact ⟨_, _, k, h, .inl ⟨c1, rfl, rfl⟩⟩
  obtain ⟨k3, h3⟩ := (psame2 a b la lb).rounds
  obtain ⟨k4, h4⟩ := (same_ a b (by omega)).rounds
  obtain ⟨k5, h5⟩ := (psame3 a la).rounds
  obtain ⟨k6, h6⟩ := (psame3' a b la lb).rounds
  have K2 := Aside0.mk h2
  have K3 := Aside0.mk h3
  have K4 := Aside0.mk h4
  have K5 := Aside0.mk h5
  have K6 := Aside0.mk h6
  have HF := Aside0.mk hfin
  clear h2 h3 h4 h5 h6 hfin
  have e1 : decide (60 < (a.length : Int)) = false := decide_eq_false (by omega)
  have e2 : decide (60 < (b.length : Int)) = false := decide_eq_false (by omega)
  generalize hq : decide (a = b) = q at K3 K4 K6
  clear hq
  have fin : ∀ (W : World) (Q' : Exit → Act → World → Prop), True := fun _ _ => trivial
  clear fin
  cases q
  all_goals
    go_enter Try.func3, Try.ntmps3
    go_wp2_with fail
    refine (abacistlaw39_awake.calls k1 true _ K1.out).mono ?_
    rintro e w1 ⟨rfl, hb1⟩
    have B1 := Aside0.mk hb1
    clear hb1
    go_wp2_with fail
    refine (show_Diff.calls k2 A c a B _ b m ds er _ (Kd.C_below HA.out.r B1.out) HA.out.c (Kd.C_below HB.out.r B1.out) HB.out.c K2.out).mono ?_
    rintro e w2 ⟨v, rfl, hR, hb2⟩
    have B2 := Aside0.mk (below_then B1.out B1.out.size hb2)
    obtain ⟨Av, cv, rfl, hcv, hCv⟩ := Kd.R_reads hR
    have HC := Aside0.mk hCv
    clear hb2 hR hCv
    go_wp2_with fail
    refine (show_Same.calls k3 _ _ [a, b] _ _ (lit2 w2 A B c _ a b (HA.out.below B2.out) (HB.out.below B2.out)) (Nat.le_refl _) K3.out).mono ?_
    rintro e w3 ⟨rfl, hd⟩
    have B3 := Aside0.mk (below_then (below_alloc B2.out _) (below_alloc B2.out _).size hd.below)
    have HC3 := Aside0.mk (Kd.C_below HC.out (below_then (below_alloc (Below.refl _ _) _) (below_alloc (Below.refl _ _) _).size hd.below))
    clear hd HC
    go_wp2_with fail
    refine (abacistref04_Same.calls k4 A c a B _ b _ _ (HA.out.below B3.out).r HA.out.c (HB.out.below B3.out).r HB.out.c K4.out).mono ?_
    rintro e w4 ⟨rfl, hd⟩
    have B4 := Aside0.mk (below_then B3.out B3.out.size hd.below)
    have HC4 := Aside0.mk (Kd.C_below HC3.out hd.below)
    clear hd HC3
    go_wp2_with fail
    refine (show_Same.calls k5 _ _ [a, a, a] _ _ (lit3 w4 A A A c c c a a a (HA.out.below B4.out) (HA.out.below B4.out) (HA.out.below B4.out)) (Nat.le_refl _) K5.out).mono ?_
    rintro e w5 ⟨rfl, hd⟩
    have B5 := Aside0.mk (below_then (below_alloc B4.out _) (below_alloc B4.out _).size hd.below)
    have HC5 := Aside0.mk (Kd.C_below HC4.out (below_then (below_alloc (Below.refl _ _) _) (below_alloc (Below.refl _ _) _).size hd.below))
    clear hd HC4
    go_wp2_with fail
    refine (show_Same.calls k6 _ _ [a, b, a] _ _ (lit3 w5 A B A c _ c a b a (HA.out.below B5.out) (HB.out.below B5.out) (HA.out.below B5.out)) (Nat.le_refl _) K6.out).mono ?_
    rintro e w6 ⟨rfl, hd⟩
    have B6 := Aside0.mk (below_then (below_alloc B5.out _) (below_alloc B5.out _).size hd.below)
    have HC6 := Aside0.mk (Kd.C_below HC5.out (below_then (below_alloc (Below.refl _ _) _) (below_alloc (Below.refl _ _) _).size hd.below))
    clear hd HC5
    go_wp2_with fail
    refine (abacistref04_Same.calls k4 A c a B _ b _ _ (HA.out.below B6.out).r HA.out.c (HB.out.below B6.out).r HB.out.c K4.out).mono ?_
    rintro e w7 ⟨rfl, hd⟩
    have B7 := Aside0.mk (below_then B6.out B6.out.size hd.below)
    have HC7 := Aside0.mk (Kd.C_below HC6.out hd.below)
    clear hd HC6
    rcases HF.out with ⟨c1, rfl, rfl⟩ | ⟨c1, c2, rfl, rfl⟩ | ⟨c1, c2, hds, rfl⟩
    · have d1 : ((a.length : Int) != (b.length : Int)) = true := by rw [bne_iff_ne]; omega
      clear c1
      go_wp2
      go_ret
      exact ⟨rfl, B7.out⟩
    · have d1 : ((a.length : Int) != (b.length : Int)) = false := by rw [bne_eq_false_iff_eq]; omega
      clear c1
      go_wp2
      go_ret
      exact ⟨rfl, B7.out⟩
    · have d1 : ((a.length : Int) != (b.length : Int)) = false := by rw [bne_eq_false_iff_eq]; omega
      have HS := Aside0.mk hds
      have HL := Aside0.mk c1
      clear c1 hds K1 K2 K3 K4 K5 K6 HF
      obtain ⟨m, rfl⟩ := Int.eq_ofNat_of_zero_le c2
      have HS2 := Aside0.mk (show ds = (dfs a b a.length).take m from HS.out)
      clear HS
      have hdl : ds.length ≤ 60 := by
        have h1 := dfs_len a b a.length
        rw [HS2.out, List.length_take]; omega
      go_wp2
      go_loopw [9, 10] (fun v9 v10 wr => ∃ i n : Nat, v10 = .int .i64 i ∧ v9 = .int .i64 n ∧ i ≤ a.length ∧ n ≤ i ∧ n ≤ m ∧ Aside0 (n = (dfs a b i).length) ∧ Aside0 (Below w.heap.size w wr) ∧ Aside0 (Kd.C k32 wr Av ds.length ds)) (fun _ v10 _ => a.length - (intOf v10).toNat)
      case atStart => exact ⟨0, 0, rfl, rfl, Nat.zero_le _, Nat.le_refl _, Nat.zero_le _, ⟨rfl⟩, B7, HC7⟩
      case round =>
        clear B1 B2 B3 B4 B5 B6 B7 HC7
        obtain ⟨i, n, rfl, rfl, hi, hni, hnm, HN, HB', HCd⟩ := hrel
        by_cases h1 : i < a.length
        · by_cases h2 : n < m
          · have hib : i < b.length := by rw [← HL.out]; exact h1
            obtain ⟨ad, q1, hx⟩ := Kd.at_int (HA.out.below HB'.out).r (i : Int) (by omega) (by omega)
            obtain ⟨bd, q2, hy⟩ := Kd.at_int (HB.out.below HB'.out).r (i : Int) (by omega) (by omega)
            cases q1
            cases q2
            simp only [Int.toNat_natCast] at hx hy
            have ea : rd a (i : Int) = a.getD i 0 := rd_nat a i
            have eb : rd b (i : Int) = b.getD i 0 := rd_nat b i
            rw [ea] at hx
            rw [eb] at hy
            clear ea eb
            by_cases h3 : a.getD i 0 = b.getD i 0
            · have h3b : (a.getD i 0 == b.getD i 0) = true := beq_iff_eq.2 h3
              have HN2 := Aside0.mk (show n = (dfs a b (i + 1)).length by rw [show dfs a b (i + 1) = dfs a b i from if_pos h3]; exact HN.out)
              clear h3
              generalize a.getD i 0 = x at *
              generalize b.getD i 0 = y at *
              have hia : (i : Int) < (a.length : Int) := by omega
              have hib2 : (i : Int) < (b.length : Int) := by omega
              go_wp2_with fail
              go_quiet (fail)
              go_wp2
              go_roundw
              case rel => exact ⟨i + 1, n, by go_num, rfl, by omega, by omega, by omega, HN2, ⟨pw_below_drewN HB'.out _⟩, ⟨Kd.C_drewN HCd.out _⟩⟩
              case measure => simp [intOf]; omega
            · have h3b : (a.getD i 0 == b.getD i 0) = false := beq_eq_false_iff_ne.2 h3
              have hh := dfs_here a b m i h1 h3 (by rw [← HN.out]; exact h2)
              rw [← HS2.out, ← HN.out] at hh
              obtain ⟨hnl, hat⟩ := hh
              have HN2 := Aside0.mk (show n + 1 = (dfs a b (i + 1)).length by rw [show dfs a b (i + 1) = dfs a b i ++ [⟨(i : Int), a.getD i 0, b.getD i 0⟩] from if_neg h3, List.length_append, ← HN.out]; rfl)
              have hrd : rd_T32 ds (n : Int) = ⟨(i : Int), a.getD i 0, b.getD i 0⟩ := by unfold rd_T32; simp [List.getD, hat]
              obtain ⟨dd, q3, z0, z1, z2⟩ := at_T32 HCd.out (n : Int) (by omega) (by omega)
              cases q3
              rw [hrd] at z0 z1 z2
              simp only [Int.toNat_natCast] at z0 z1 z2
              clear h3 hat hrd
              generalize a.getD i 0 = x at *
              generalize b.getD i 0 = y at *
              have hia : (i : Int) < (a.length : Int) := by omega
              have hib2 : (i : Int) < (b.length : Int) := by omega
              have hnl2 : decide ((ds.length : Int) ≤ (n : Int)) = false := decide_eq_false (by omega)
              have hnl3 : (n : Int) < (ds.length : Int) := by omega
              go_wp2_with fail
              go_quiet (fail)
              go_wp2_with fail
              go_quiet (fail)
              go_wp2
              go_roundw
              case rel => exact ⟨i + 1, n + 1, by go_num, by go_num, by omega, by omega, by omega, HN2, ⟨pw_below_drewN HB'.out _⟩, ⟨Kd.C_drewN HCd.out _⟩⟩
              case measure => simp [intOf]; omega
          · have hnd : n = ds.length := by
              obtain ⟨r, hr⟩ := dfs_pre a b i (a.length - i)
              rw [show i + (a.length - i) = a.length by omega] at hr
              rw [HS2.out, List.length_take, hr, List.length_append, ← HN.out]; omega
            have hia : decide ((i : Int) < (a.length : Int)) = true := decide_eq_true (by omega)
            have hnm2 : decide ((n : Int) < (m : Int)) = false := decide_eq_false (by omega)
            subst hnd
            go_wp2
            go_ret
            exact ⟨rfl, HB'.out⟩
        · obtain rfl : i = a.length := by omega
          have hnd : n = ds.length := by
            rw [HS2.out, List.length_take, ← HN.out]; omega
          subst hnd
          go_wp2
          go_ret
          exact ⟨rfl, HB'.out⟩
set_option maxRecDepth 100000 in
theorem differs_long (a b : List Int) (A B : Option Addr) (c e : Nat) (m : Int) (w : World) (h : 60 < a.length ∨ 60 < b.length) :
    Calls Try.prog 3 #[.slice A a.length c, .slice B b.length e, .int .i64 m] w (Ok w.heap.size w) := by
  obtain ⟨k1, h1⟩ := shawake_.rounds
  have K1 := Aside0.mk h1
  clear h1
  by_cases c1 : 60 < a.length
  · have e1 : decide (60 < (a.length : Int)) = true := decide_eq_true (by omega)
    clear h
    go_enter Try.func3, Try.ntmps3
    go_wp2_with fail
    refine (abacistlaw39_awake.calls k1 true _ K1.out).mono ?_
    rintro e w1 ⟨rfl, hb1⟩
    have B1 := Aside0.mk hb1
    clear hb1
    go_wp2
    go_ret
    exact ⟨rfl, B1.out⟩
  · have e1 : decide (60 < (a.length : Int)) = false := decide_eq_false (by omega)
    have e2 : decide (60 < (b.length : Int)) = true := decide_eq_true (by omega)
    clear h
    go_enter Try.func3, Try.ntmps3
    go_wp2_with fail
    refine (abacistlaw39_awake.calls k1 true _ K1.out).mono ?_
    rintro e w1 ⟨rfl, hb1⟩
    have B1 := Aside0.mk hb1
    clear hb1
    go_wp2
    go_ret
    exact ⟨rfl, B1.out⟩
theorem ShowDiffersCalls_ (a b : List Int) (A B : Option Addr) (c e : Nat) (m : Int) (w : World) (ha : In w A c a) (hb : In w B e b) :
    Calls Try.prog 3 #[.slice A a.length c, .slice B b.length e, .int .i64 m] w fun e w' => e = .returned (.bool true) ∧ Below w.heap.size w w' := by
  by_cases h : 60 < a.length ∨ 60 < b.length
  · exact differs_long a b A B c e m w h
  · exact differs_same a b A B c e m w ha hb (by omega) (by omega)
/-- A row that came in, as it is opened. -/
theorem In.of {w : World} {a : Option Addr} {len cap : Nat} {zs : List Int} (h : (a = none ∧ len = 0 ∧ cap = 0 ∧ zs = []) ∨ ∃ x, a = some x ∧ len ≤ cap ∧ cap ≤ maxLen ∧ zs.length = cap ∧ (∀ i, i < zs.length → w.cell? (x.add i) = some (.int .u64 (zs.getD i 0))) ∧ ∀ n ∈ zs, (Lit.int .u64 n).wf = true) :
    ∃ l : List Int, l.length = len ∧ In w a cap l ∧ ∀ x ∈ l, (Lit.int .u64 x).wf = true := by
  obtain ⟨l, rfl, hr, hm, hw, hc⟩ := ReadsInt.ofRowC h
  exact ⟨l, rfl, ⟨Kd.C_of_reads (d := (0 : Int)) (h1 := fun _ => rfl) hr, hc⟩, hw⟩
theorem ShowDiffersRow (a0 : Option Addr) (len0 cap0 : Nat) (z0 : List Int) (a1 : Option Addr) (len1 cap1 : Nat) (z1 : List Int) (m : Int) (w : World)
    (w0 : (a0 = none ∧ len0 = 0 ∧ cap0 = 0 ∧ z0 = []) ∨ ∃ x, a0 = some x ∧ len0 ≤ cap0 ∧ cap0 ≤ maxLen ∧ z0.length = cap0 ∧ (∀ i, i < z0.length → w.cell? (x.add i) = some (.int .u64 (z0.getD i 0))) ∧ ∀ n ∈ z0, (Lit.int .u64 n).wf = true)
    (w1 : (a1 = none ∧ len1 = 0 ∧ cap1 = 0 ∧ z1 = []) ∨ ∃ x, a1 = some x ∧ len1 ≤ cap1 ∧ cap1 ≤ maxLen ∧ z1.length = cap1 ∧ (∀ i, i < z1.length → w.cell? (x.add i) = some (.int .u64 (z1.getD i 0))) ∧ ∀ n ∈ z1, (Lit.int .u64 n).wf = true) :
    Calls Try.prog 3 #[.slice a0 len0 cap0, .slice a1 len1 cap1, .int .i64 m] w fun e w' => e = .returned (.bool true) ∧ Below w.heap.size w w' := by
  obtain ⟨l0, rfl, h0, _⟩ := In.of w0
  obtain ⟨l1, rfl, h1, _⟩ := In.of w1
  exact ShowDiffersCalls_ l0 l1 _ _ _ _ m w h0 h1
end Go.Proofs.Ytmmgiolhfekplaa.Pure
