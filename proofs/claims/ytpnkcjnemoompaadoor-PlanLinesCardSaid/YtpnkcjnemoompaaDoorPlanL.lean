import Derived.Test.YtpnkcjnemoompaaDoorPlanK
/-! Plan: Check, and PlanChecks. -/
namespace Go.Proofs.YtpnkcjnemoompaaDoor.Plan
open Go.RowKit Go.Proofs.YtpnkcjnemoompaaDoor Go.Proofs.YtpnkcjnemoompaaDoor.Ext Go.Proofs.YtpnkcjnemoompaaDoor.PPlan Go.Proofs.YtpnkcjnemoompaaDoor.Pure Go.Proofs.YtpnkcjnemoompaaDoor.Obj Go.Proofs.YtpnkcjnemoompaaDoorW.PrintWords Go.Proofs.YtpnkcjnemoompaaDoorW.PrintLast Go.Proofs.YtpnkcjnemoompaaDoorW.PrintMore
set_option linter.unusedVariables false
set_option linter.unusedSimpArgs false
set_option maxRecDepth 100000

theorem badw_le {x : Int} (h : badw x = true) : 18446744069414584321 ≤ x := by
  by_cases q : x < 18446744069414584321
  · unfold badw at h; rw [decide_eq_true q] at h; cases h
  · omega
/-- What is wrong with a job's words: how many bits, a place, an error. -/
def Wrong (l : List Int) (most k at_ e : Int) : Prop :=
  ((∀ j, ¬ Pw (l.length : Int) j) ∧ k = 0 ∧ at_ = 0 ∧ e = 4) ∨
  ∃ q : Nat, Pw (l.length : Int) q ∧ ((most < (q : Int) ∧ k = 0 ∧ at_ = 0 ∧ e = 14) ∨ ((q : Int) ≤ most ∧
    ((∃ m : Nat, m < l.length ∧ GoodTo l m ∧ badw (l.getD m 0) = true ∧ k = 0 ∧ at_ = (m : Int) ∧ e = 3) ∨ (GoodTo l l.length ∧ k = (q : Int) ∧ at_ = 0 ∧ e = 0))))
theorem good_or (l : List Int) : ∀ n, GoodTo l n ∨ ∃ m, m < n ∧ GoodTo l m ∧ badw (l.getD m 0) = true
  | 0 => .inl fun j hj => by omega
  | n + 1 => by
    rcases good_or l n with h | ⟨m, h1, h2, h3⟩
    · by_cases q : l.getD n 0 < 18446744069414584321
      · exact .inl (h.succ q)
      · exact .inr ⟨n, by omega, h, by unfold badw; rw [decide_eq_false q]; rfl⟩
    · exact .inr ⟨m, by omega, h2, h3⟩
theorem wrong_or (l : List Int) (most : Int) : ∃ k at_ e, Wrong l most k at_ e := by
  rcases pw_cases (l.length : Int) with ⟨q, hq⟩ | h
  · by_cases h1 : most < (q : Int)
    · exact ⟨0, 0, 14, .inr ⟨q, hq, .inl ⟨h1, rfl, rfl, rfl⟩⟩⟩
    · rcases good_or l l.length with g | ⟨m, g1, g2, g3⟩
      · exact ⟨q, 0, 0, .inr ⟨q, hq, .inr ⟨by omega, .inr ⟨g, rfl, rfl, rfl⟩⟩⟩⟩
      · exact ⟨0, m, 3, .inr ⟨q, hq, .inr ⟨by omega, .inl ⟨m, g1, g2, g3, rfl, rfl, rfl⟩⟩⟩⟩
  · exact ⟨0, 0, 4, .inl ⟨h, rfl, rfl, rfl⟩⟩
theorem pcheck (A : Option Addr) (c : Nat) (l : List Int) (most k at_ er : Int) (w : World) (hl : In w A c l) (hm : l.length ≤ 9223372036854775807) (hw : Wrong l most k at_ er) (hT : TabOK w) :
    Calls Tryd.prog 67 #[.slice A l.length c, .int .i64 most] w fun e w' => e = .returned (.tuple #[.int .i64 k, .int .i64 at_, .int .i64 er]) ∧ Below w.heap.size w w' := by
  have HL := Aside0.mk hl
  have HT := Aside0.mk hT
  clear hl hT
  rcases hw with ⟨h1, rfl, rfl, rfl⟩ | ⟨q, hq, ⟨h1, rfl, rfl, rfl⟩ | ⟨h1, ⟨m, g1, g2, g3, rfl, rfl, rfl⟩ | ⟨g, rfl, rfl, rfl⟩⟩⟩
  · have hf := Aside0.mk (fits_no _ h1)
    clear h1
    go_enter Tryd.func67, Tryd.ntmps67
    go_wp2_with fail
    with_reducible refine (root_Fits.calls _ 0 false _ hf.out HT.out).mono ?_
    rintro e w1 ⟨rfl, hb⟩
    have HB := Aside0.mk hb.below
    clear hb
    go_wp2
    go_ret3
    exact ⟨rfl, HB.out⟩
  · have hf := Aside0.mk (show root_Fits.f (l.length : Int) = some ((q : Int), true) by rw [hq.2]; exact fits_yes q hq.1)
    have d1 : decide (most < (q : Int)) = true := decide_eq_true h1
    clear h1 hq
    go_enter Tryd.func67, Tryd.ntmps67
    go_wp2_with fail
    with_reducible refine (root_Fits.calls _ q true _ hf.out HT.out).mono ?_
    rintro e w1 ⟨rfl, hb⟩
    have HB := Aside0.mk hb.below
    clear hb
    go_wp2
    go_ret3
    exact ⟨rfl, HB.out⟩
  · have hf := Aside0.mk (show root_Fits.f (l.length : Int) = some ((q : Int), true) by rw [hq.2]; exact fits_yes q hq.1)
    have d1 : decide (most < (q : Int)) = false := decide_eq_false (by omega)
    have H2 := Aside0.mk g2
    have H3 := Aside0.mk g3
    clear h1 hq g2 g3
    go_enter Tryd.func67, Tryd.ntmps67
    go_wp2_with fail
    with_reducible refine (root_Fits.calls _ q true _ hf.out HT.out).mono ?_
    rintro e w1 ⟨rfl, hb⟩
    have HB := Aside0.mk hb.below
    have HL1 := Aside0.mk (HL.out.below hb.below)
    clear hb
    go_wp2_with fail
    with_reducible refine (check_some A c l m _ HL1.out hm g1 H2.out H3.out).mono ?_
    rintro e w2 ⟨rfl, rfl⟩
    go_wp2
    go_ret3
    exact ⟨rfl, HB.out⟩
  · have hf := Aside0.mk (show root_Fits.f (l.length : Int) = some ((q : Int), true) by rw [hq.2]; exact fits_yes q hq.1)
    have d1 : decide (most < (q : Int)) = false := decide_eq_false (by omega)
    have H2 := Aside0.mk g
    clear h1 hq g
    go_enter Tryd.func67, Tryd.ntmps67
    go_wp2_with fail
    with_reducible refine (root_Fits.calls _ q true _ hf.out HT.out).mono ?_
    rintro e w1 ⟨rfl, hb⟩
    have HB := Aside0.mk hb.below
    have HL1 := Aside0.mk (HL.out.below hb.below)
    clear hb
    go_wp2_with fail
    with_reducible refine (check_none A c l _ HL1.out hm H2.out).mono ?_
    rintro e w2 ⟨rfl, rfl⟩
    go_wp2
    go_ret3
    exact ⟨rfl, HB.out⟩
theorem checks_long (A : Option Addr) (c : Nat) (l : List Int) (most : Int) (w : World) (h : 300 < l.length) (hT : TabP w) : Calls Tryd.prog 14 #[.slice A l.length c, .int .i64 most] w fun e w' => e = .returned (.bool true) ∧ Below w.heap.size w w' := by
  have HT := Aside0.mk hT
  have d1 : decide (300 < (l.length : Int)) = true := decide_eq_true (by omega)
  clear hT h
  go_enter Tryd.func14, Tryd.ntmps14
  go_wp2_with fail
  refine (awake_calls _ HT.out).mono ?_
  rintro e w1 ⟨rfl, hb⟩
  have HB1 := Aside0.mk hb
  clear hb
  go_wp2
  go_ret
  exact ⟨rfl, HB1.out⟩
set_option maxHeartbeats 4000000 in
theorem checks_ (A : Option Addr) (c : Nat) (l : List Int) (most : Int) (w : World) (h : l.length ≤ 300) (hl : In w A c l) (hT : TabP w) : Calls Tryd.prog 14 #[.slice A l.length c, .int .i64 most] w fun e w' => e = .returned (.bool true) ∧ Below w.heap.size w w' := by
  obtain ⟨k, at_, er, hw⟩ := wrong_or l most
  have HW := Aside0.mk hw
  obtain ⟨n, fi, hn, hfi⟩ : ∃ n fi, abacistref03_Fits.f n (l.length : Int) = some fi ∧ ((fi = -1 ∧ ∀ j, ¬ Pw (l.length : Int) j) ∨ ∃ q : Nat, fi = (q : Int) ∧ Pw (l.length : Int) q) := by
    rcases pw_cases (l.length : Int) with ⟨q, hq⟩ | hq
    · obtain ⟨n, hn⟩ := (rfits_yes _ q hq).rounds
      exact ⟨n, q, hn, .inr ⟨q, rfl, hq⟩⟩
    · obtain ⟨n, hn⟩ := (rfits_no _ hq).rounds
      exact ⟨n, -1, hn, .inl ⟨rfl, hq⟩⟩
  have HN := Aside0.mk hn
  have HF := Aside0.mk hfi
  have HT := Aside0.mk hT
  have HL := Aside0.mk hl
  have d1 : decide (300 < (l.length : Int)) = false := decide_eq_false (by omega)
  clear hT hw hl hn hfi
  go_enter Tryd.func14, Tryd.ntmps14
  go_wp2_with fail
  refine (awake_calls _ HT.out).mono ?_
  rintro e w1 ⟨rfl, hb⟩
  have HB1 := Aside0.mk hb
  have HL1 := Aside0.mk (HL.out.below hb)
  have HT1 := Aside0.mk (HT.out.below hb)
  clear hb
  go_wp2_with fail
  with_reducible refine (pcheck A c l most k at_ er _ HL1.out (by omega) HW.out HT1.out.bits).mono ?_
  rintro e w2 ⟨rfl, hb⟩
  have HB2 := Aside0.mk (below_then HB1.out HB1.out.size hb)
  have HL2 := Aside0.mk (HL1.out.below hb)
  clear hb HB1 HL1 HT1
  go_wp2_with fail
  with_reducible refine (abacistref03_Fits.calls n _ fi _ HN.out).mono ?_
  rintro e w3 ⟨rfl, hb⟩
  have HB3 := Aside0.mk (below_then HB2.out HB2.out.size hb.below)
  have HL3 := Aside0.mk (HL2.out.below hb.below)
  clear hb HB2 HL2
  rcases HW.out with ⟨h1, rfl, rfl, rfl⟩ | ⟨q, hq, hrest⟩
  · obtain rfl : fi = -1 := by
      rcases HF.out with ⟨e, _⟩ | ⟨q, _, hq⟩
      · exact e
      · exact absurd hq (h1 q)
    clear h1
    go_wp2
    go_ret
    exact ⟨rfl, HB3.out⟩
  · obtain rfl : fi = (q : Int) := by
      rcases HF.out with ⟨_, h⟩ | ⟨q', e, hq'⟩
      · exact absurd hq (h q)
      · rw [e, hq.uniq hq']
    have d2 : decide ((q : Int) < 0) = false := decide_eq_false (by omega)
    rcases hrest with ⟨h2, rfl, rfl, rfl⟩ | ⟨h2, hrest⟩
    · have d3 : decide (most < (q : Int)) = true := decide_eq_true h2
      clear h2 hq
      go_wp2
      go_ret
      exact ⟨rfl, HB3.out⟩
    · have d3 : decide (most < (q : Int)) = false := decide_eq_false (by omega)
      clear h2 hq
      rcases hrest with ⟨m, g1, g2, g3, rfl, rfl, rfl⟩ | ⟨g, rfl, rfl, rfl⟩
      · have H2 := Aside0.mk g2
        have H3 := Aside0.mk g3
        clear g2 g3
        go_wp2
        go_loop [9] (fun v9 => ∃ i : Nat, v9 = .int .i64 i ∧ i ≤ m) (fun v9 => l.length - (intOf v9).toNat)
        case atStart => exact ⟨0, rfl, Nat.zero_le _⟩
        case round =>
          obtain ⟨i, rfl, hi⟩ := hrel
          obtain ⟨ad, q, hx⟩ := Kd.at_int HL3.out.r (i : Int) (by omega) (by omega)
          cases q
          simp only [Int.toNat_natCast] at hx
          rw [rd_nat l i] at hx
          have hia : (i : Int) < (l.length : Int) := by omega
          by_cases h1 : i < m
          · have hb : decide (18446744069414584321 ≤ l.getD i 0) = false := decide_eq_false (by have := H2.out i h1; omega)
            generalize l.getD i 0 = x at *
            go_wp2
            go_round
            case rel => exact ⟨i + 1, by go_num, by omega⟩
            case measure => simp [intOf]; omega
          · obtain rfl : i = m := by omega
            have hb : decide (18446744069414584321 ≤ l.getD i 0) = true := decide_eq_true (badw_le H3.out)
            generalize l.getD i 0 = x at *
            go_wp2
            go_ret
            exact ⟨rfl, HB3.out⟩
      · have H2 := Aside0.mk g
        clear g
        go_wp2
        go_loop [9] (fun v9 => ∃ i : Nat, v9 = .int .i64 i ∧ i ≤ l.length) (fun v9 => l.length - (intOf v9).toNat)
        case atStart => exact ⟨0, rfl, Nat.zero_le _⟩
        case round =>
          obtain ⟨i, rfl, hi⟩ := hrel
          by_cases h1 : i < l.length
          · obtain ⟨ad, q, hx⟩ := Kd.at_int HL3.out.r (i : Int) (by omega) (by omega)
            cases q
            simp only [Int.toNat_natCast] at hx
            rw [rd_nat l i] at hx
            have hia : (i : Int) < (l.length : Int) := by omega
            have hb : decide (18446744069414584321 ≤ l.getD i 0) = false := decide_eq_false (by have := H2.out i h1; omega)
            generalize l.getD i 0 = x at *
            go_wp2
            go_round
            case rel => exact ⟨i + 1, by go_num, by omega⟩
            case measure => simp [intOf]; omega
          · have hia : decide ((i : Int) < (l.length : Int)) = false := decide_eq_false (by omega)
            go_wp2
            go_ret
            exact ⟨rfl, HB3.out⟩
/-- A row that came in, as it is opened. -/
theorem In.of {w : World} {a : Option Addr} {len cap : Nat} {zs : List Int} (h : (a = none ∧ len = 0 ∧ cap = 0 ∧ zs = []) ∨ ∃ x, a = some x ∧ len ≤ cap ∧ cap ≤ maxLen ∧ zs.length = cap ∧ (∀ i, i < zs.length → w.cell? (x.add i) = some (.int .u64 (zs.getD i 0))) ∧ ∀ n ∈ zs, (Lit.int .u64 n).wf = true) :
    ∃ l : List Int, l.length = len ∧ In w a cap l ∧ ∀ x ∈ l, (Lit.int .u64 x).wf = true := by
  obtain ⟨l, rfl, hr, hm, hw, hc⟩ := ReadsInt.ofRowC h
  exact ⟨l, rfl, ⟨Kd.C_of_reads (d := (0 : Int)) (h1 := fun _ => rfl) hr, hc⟩, hw⟩
theorem PlanChecksRow (a0 : Option Addr) (len0 cap0 : Nat) (z0 : List Int) (most : Int) (w : World)
    (w0 : (a0 = none ∧ len0 = 0 ∧ cap0 = 0 ∧ z0 = []) ∨ ∃ x, a0 = some x ∧ len0 ≤ cap0 ∧ cap0 ≤ maxLen ∧ z0.length = cap0 ∧ (∀ i, i < z0.length → w.cell? (x.add i) = some (.int .u64 (z0.getD i 0))) ∧ ∀ n ∈ z0, (Lit.int .u64 n).wf = true) (hT : TabP w) :
    Calls Tryd.prog 14 #[.slice a0 len0 cap0, .int .i64 most] w fun e w' => e = .returned (.bool true) ∧ Below w.heap.size w w' := by
  obtain ⟨l, rfl, hl, _⟩ := In.of w0
  by_cases h1 : 300 < l.length
  · exact checks_long a0 cap0 l most w h1 hT
  · exact checks_ a0 cap0 l most w (by omega) hl hT
end Go.Proofs.YtpnkcjnemoompaaDoor.Plan
