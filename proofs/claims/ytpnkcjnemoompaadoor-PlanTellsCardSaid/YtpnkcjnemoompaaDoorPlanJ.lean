import Derived.Test.YtpnkcjnemoompaaDoorPlanI
/-! Plan: PlanTells, right arguments. -/
namespace Go.Proofs.YtpnkcjnemoompaaDoor.Plan
open Go.RowKit Go.Proofs.YtpnkcjnemoompaaDoor Go.Proofs.YtpnkcjnemoompaaDoor.Ext Go.Proofs.YtpnkcjnemoompaaDoor.PPlan Go.Proofs.YtpnkcjnemoompaaDoor.Pure Go.Proofs.YtpnkcjnemoompaaDoor.Obj Go.Proofs.YtpnkcjnemoompaaDoorW.PrintWords Go.Proofs.YtpnkcjnemoompaaDoorW.PrintLast Go.Proofs.YtpnkcjnemoompaaDoorW.PrintMore
set_option linter.unusedVariables false
set_option linter.unusedSimpArgs false
set_option maxRecDepth 100000

theorem eqA23 (d : Nat) (w : World) (x0 y0 x1 y1 : Int) :
    (Op.equalIn (d + 2) 23 (.agg #[.int .i64 x0, .int .i64 x1]) (.agg #[.int .i64 y0, .int .i64 y1])).run Tryd.prog w = .ok (x0 == y0 && (x1 == y1)) w := by
  refine eqA_of Tryd.underlying23 (by kernel_rfl) ?_
  refine eqf_cons (by rfl) (by go_simp; rfl) (by go_simp; rfl) (by go_simp) ?_
  exact eqf_last (by rfl) (by go_simp; rfl) (by go_simp; rfl) (by go_simp)
theorem eqA49 (d : Nat) (w : World) (x0 y0 x1 y1 x2 y2 x3 y3 x4 y4 : Int) :
    (Op.equalIn (d + 3) 49 (.agg #[.int .i64 x0, .int .i64 x1, .int .i64 x2, .int .i64 x3, .int .u64 x4]) (.agg #[.int .i64 y0, .int .i64 y1, .int .i64 y2, .int .i64 y3, .int .u64 y4])).run Tryd.prog w = .ok ((x0 == y0 && (x1 == y1)) && (x2 == y2 && (x3 == y3 && (x4 == y4)))) w := by
  refine eqA_of Tryd.underlying49 (by kernel_rfl) ?_
  refine eqf_cons (by rfl) (by first | (go_simp; done) | (go_simp; rfl)) (by first | (go_simp; done) | (go_simp; rfl)) (eqA23 _ _ _ _ _ _) ?_
  refine eqf_cons (by rfl) (by go_simp; rfl) (by go_simp; rfl) (by go_simp) ?_
  refine eqf_cons (by rfl) (by go_simp; rfl) (by go_simp; rfl) (by go_simp) ?_
  exact eqf_last (by rfl) (by go_simp; rfl) (by go_simp; rfl) (by go_simp)
theorem eqA51 (d : Nat) (w : World) (x0 y0 x1 y1 x2 y2 x3 y3 x4 y4 x5 y5 x6 y6 x7 y7 : Int) :
    (Op.equalIn (d + 4) 51 (.agg #[.int .i64 x0, .int .i64 x1, .int .i64 x2, .int .i64 x3, .int .u64 x4, .int .i64 x5, .int .i64 x6, .int .i64 x7]) (.agg #[.int .i64 y0, .int .i64 y1, .int .i64 y2, .int .i64 y3, .int .u64 y4, .int .i64 y5, .int .i64 y6, .int .i64 y7])).run Tryd.prog w = .ok (((x0 == y0 && (x1 == y1)) && (x2 == y2 && (x3 == y3 && (x4 == y4)))) && (x5 == y5 && (x6 == y6 && (x7 == y7)))) w := by
  refine eqA_of Tryd.underlying51 (by kernel_rfl) ?_
  refine eqf_cons (by rfl) (by first | (go_simp; done) | (go_simp; rfl)) (by first | (go_simp; done) | (go_simp; rfl)) (eqA49 _ _ _ _ _ _ _ _ _ _ _ _) ?_
  refine eqf_cons (by rfl) (by go_simp; rfl) (by go_simp; rfl) (by go_simp) ?_
  refine eqf_cons (by rfl) (by go_simp; rfl) (by go_simp; rfl) (by go_simp) ?_
  exact eqf_last (by rfl) (by go_simp; rfl) (by go_simp; rfl) (by go_simp)
attribute [local go_sem high] eqA51
/-- The numbers of right arguments. -/
structure Num (K P T L : Nat) (words : Int) (n3 n5 : Nat) (b : Bool) : Prop where
  k : K ≤ 32
  p : P ≤ 512
  least : plan_Least.f (K : Int) (P : Int) = some ((L : Int), 0)
  short : plan_Short.f (K : Int) (P : Int) words = some b
  per : abacistref24_Per.f n3 (P : Int) = some true
  least2 : abacistref24_Least.f n5 (K : Int) (P : Int) = some (L : Int)
  shl : wrap64 (2 * 2 ^ min (IntKind.u64.wrap (K : Int)).toNat 64) = (T : Int)
  l : L = 2 * 2 ^ ((K + 1) / 2) + P
  t : T ≤ 8589934592
  b : b = decide (((T + P : Nat) : Int) ≤ words)
theorem shl_spell (K : Nat) : shl .i64 2 (IntKind.u64.wrap (K : Int)) = wrap64 (2 * 2 ^ min (IntKind.u64.wrap (K : Int)).toNat 64) := by
  unfold shl
  rw [show IntKind.i64.bits = 64 from by decide]
  exact i64_w _
theorem nums_of (K P : Nat) (words : Int) (hg : goodq K P = true) : ∃ T L n3 n5 b, Num K P T L words n3 n5 b := by
  obtain ⟨K', P', e1, e2, hk, hp4, hp, hq⟩ := good_facts hg
  obtain rfl : K' = K := by omega
  obtain rfl : P' = P := by omega
  obtain ⟨n3, h3⟩ := (Per_is (P' : Int)).rounds
  obtain ⟨n5, h5⟩ := (Least2 K' hk P' hp).rounds
  have hs := shl_all ⟨K', by omega⟩
  have hpw := pow_lt hk
  refine ⟨2 * 2 ^ K', 2 * 2 ^ ((K' + 1) / 2) + P', n3, n5, _, hk, hp, ?_, Short_is _ _ _, ?_, h5, (shl_spell K').symm.trans hs.1, rfl, by omega, ?_⟩
  · rw [Least_is, if_pos hg, if_pos hg]; rfl
  · rw [h3]; simp [hq]
  · unfold shortq; rw [hg, Bool.true_and, Int.toNat_natCast, Int.natCast_add]
theorem sub_in {P : Nat} {words : Int} (h : (P : Int) ≤ words) (hm : words ≤ 9223372036854775807) : wrap64 (words - (P : Int)) = words - (P : Int) := by unfold wrap64; omega
set_option maxHeartbeats 4000000 in
theorem tells_kind (K P T L n2 n3 n5 : Nat) (b : Bool) (d words c : Int) (r : List S51) (w : World) (hn : Num K P T L words n3 n5 b) (h2 : plan_Passes.f n2 K d P words = some (r, c)) (hm : words ≤ 9223372036854775807) (hd0 : (d != 0) = true) (hd1 : (d != 1) = true) (hr : r = []) (hc : c = 18) (hT : TabP w) : Calls Tryd.prog 10 #[.int .i64 K, .int .i64 d, .int .i64 P, .int .i64 words] w fun e w' => e = .returned (.bool true) ∧ Below w.heap.size w w' := by
  have HR := Aside0.mk hr
  have HC := Aside0.mk hc
  clear hr hc
  have HN := Aside0.mk hn
  have HT := Aside0.mk hT
  have HM := Aside0.mk hm
  have K2 := Aside0.mk h2
  clear h2 hm hn hT
  go_enter Tryd.func10, Tryd.ntmps10
  go_wp2_with fail
  refine (awake_calls _ HT.out).mono ?_
  rintro e w1 ⟨rfl, hb⟩
  have HB1 := Aside0.mk hb
  clear hb
  go_wp2_with fail
  refine (plan_Least.calls K P L 0 _ HN.out.least).mono ?_
  rintro e w2 ⟨rfl, hb⟩
  have HB2 := Aside0.mk (below_then HB1.out HB1.out.size hb.below)
  clear hb HB1
  go_wp2_with fail
  refine (plan_Passes.calls n2 K d P words r c _ K2.out).mono ?_
  rintro e w3 ⟨v, rfl, hR, hb⟩
  have HB3 := Aside0.mk (below_then HB2.out HB2.out.size hb)
  obtain ⟨A, ca, rfl, hca, hCa⟩ := Kd.R_reads hR
  have HA := Aside0.mk hCa
  clear hb hR hca hCa HB2
  have d1 : decide ((K : Int) < 0) = false := decide_eq_false (by omega)
  have d2 : decide (32 < (K : Int)) = false := decide_eq_false (by have := HN.out.k; omega)
  go_wp2_with fail
  refine (abacistref24_Per.calls n3 P true _ HN.out.per).mono ?_
  rintro e w4 ⟨rfl, hb⟩
  have HB4 := Aside0.mk (below_then HB3.out HB3.out.size hb.below)
  have HA4 := Aside0.mk (Kd.C_below HA.out hb.below)
  clear hb HB3 HA d1 d2
  go_wp2_with fail
  refine (abacistref24_Least.calls n5 K P L _ HN.out.least2).mono ?_
  rintro e w5 ⟨rfl, hb⟩
  have HB5 := Aside0.mk (below_then HB4.out HB4.out.size hb.below)
  have HA5 := Aside0.mk (Kd.C_below HA4.out hb.below)
  clear hb HB4 HA4
  go_wp2_with fail
  refine (plan_Short.calls K P words b _ HN.out.short).mono ?_
  rintro e w6 ⟨rfl, hb⟩
  have HB6 := Aside0.mk (below_then HB5.out HB5.out.size hb.below)
  have HA6 := Aside0.mk (Kd.C_below HA5.out hb.below)
  clear hb HB5 HA5
  have e1 := HN.out.shl
  obtain rfl := HC.out
  obtain rfl := HR.out
  rw [List.length_nil]
  have hways : (b = true ∧ (P : Int) ≤ words ∧ (T : Int) ≤ words - (P : Int)) ∨ (b = false ∧ (P : Int) ≤ words ∧ words - (P : Int) < (T : Int)) ∨ (b = false ∧ words < (P : Int)) := by
    have hb := HN.out.b
    by_cases q : ((T + P : Nat) : Int) ≤ words
    · rw [decide_eq_true q] at hb
      exact .inl ⟨hb, by omega, by omega⟩
    · rw [decide_eq_false q] at hb
      by_cases q2 : (P : Int) ≤ words
      · exact .inr (.inl ⟨hb, q2, by omega⟩)
      · exact .inr (.inr ⟨hb, by omega⟩)
  have HE1 := Aside0.mk e1
  clear e1
  rcases hways with ⟨rfl, q1, q2⟩ | ⟨rfl, q1, q2⟩ | ⟨rfl, q1⟩
  · have d3 : decide ((P : Int) ≤ words) = true := decide_eq_true q1
    have d4 : decide ((T : Int) ≤ words - (P : Int)) = true := decide_eq_true (by omega)
    have e2 : wrap64 (words - (P : Int)) = words - (P : Int) := sub_in q1 HM.out
    have e1 := HE1.out
    clear q1 q2
    go_wp2
    go_ret
    exact ⟨by simp, HB6.out⟩
  · have d3 : decide ((P : Int) ≤ words) = true := decide_eq_true q1
    have d4 : decide ((T : Int) ≤ words - (P : Int)) = false := decide_eq_false (by omega)
    have e2 : wrap64 (words - (P : Int)) = words - (P : Int) := sub_in q1 HM.out
    have e1 := HE1.out
    clear q1 q2
    go_wp2
    go_ret
    exact ⟨by simp, HB6.out⟩
  · have d3 : decide ((P : Int) ≤ words) = false := decide_eq_false (by omega)
    clear q1
    go_wp2
    go_ret
    exact ⟨by simp, HB6.out⟩
set_option maxHeartbeats 4000000 in
theorem tells_arena (K P T L n2 n3 n5 : Nat) (b : Bool) (d words c : Int) (r : List S51) (w : World) (hn : Num K P T L words n3 n5 b) (h2 : plan_Passes.f n2 K d P words = some (r, c)) (hm : words ≤ 9223372036854775807) (hd : d = 0 ∨ d = 1) (hl : decide (words < (L : Int)) = true) (hr : r = []) (hc : c = 6) (hT : TabP w) : Calls Tryd.prog 10 #[.int .i64 K, .int .i64 d, .int .i64 P, .int .i64 words] w fun e w' => e = .returned (.bool true) ∧ Below w.heap.size w w' := by
  have HR := Aside0.mk hr
  have HC := Aside0.mk hc
  have HD := Aside0.mk hd
  clear hr hc hd
  have HN := Aside0.mk hn
  have HT := Aside0.mk hT
  have HM := Aside0.mk hm
  have K2 := Aside0.mk h2
  clear h2 hm hn hT
  go_enter Tryd.func10, Tryd.ntmps10
  go_wp2_with fail
  refine (awake_calls _ HT.out).mono ?_
  rintro e w1 ⟨rfl, hb⟩
  have HB1 := Aside0.mk hb
  clear hb
  go_wp2_with fail
  refine (plan_Least.calls K P L 0 _ HN.out.least).mono ?_
  rintro e w2 ⟨rfl, hb⟩
  have HB2 := Aside0.mk (below_then HB1.out HB1.out.size hb.below)
  clear hb HB1
  go_wp2_with fail
  refine (plan_Passes.calls n2 K d P words r c _ K2.out).mono ?_
  rintro e w3 ⟨v, rfl, hR, hb⟩
  have HB3 := Aside0.mk (below_then HB2.out HB2.out.size hb)
  obtain ⟨A, ca, rfl, hca, hCa⟩ := Kd.R_reads hR
  have HA := Aside0.mk hCa
  clear hb hR hca hCa HB2
  have d1 : decide ((K : Int) < 0) = false := decide_eq_false (by omega)
  have d2 : decide (32 < (K : Int)) = false := decide_eq_false (by have := HN.out.k; omega)
  go_wp2_with fail
  refine (abacistref24_Per.calls n3 P true _ HN.out.per).mono ?_
  rintro e w4 ⟨rfl, hb⟩
  have HB4 := Aside0.mk (below_then HB3.out HB3.out.size hb.below)
  have HA4 := Aside0.mk (Kd.C_below HA.out hb.below)
  clear hb HB3 HA d1 d2
  go_wp2_with fail
  refine (abacistref24_Least.calls n5 K P L _ HN.out.least2).mono ?_
  rintro e w5 ⟨rfl, hb⟩
  have HB5 := Aside0.mk (below_then HB4.out HB4.out.size hb.below)
  have HA5 := Aside0.mk (Kd.C_below HA4.out hb.below)
  clear hb HB4 HA4
  go_wp2_with fail
  refine (plan_Short.calls K P words b _ HN.out.short).mono ?_
  rintro e w6 ⟨rfl, hb⟩
  have HB6 := Aside0.mk (below_then HB5.out HB5.out.size hb.below)
  have HA6 := Aside0.mk (Kd.C_below HA5.out hb.below)
  clear hb HB5 HA5
  have e1 := HN.out.shl
  obtain rfl := HC.out
  obtain rfl := HR.out
  rw [List.length_nil]
  have hways : (b = true ∧ (P : Int) ≤ words ∧ (T : Int) ≤ words - (P : Int)) ∨ (b = false ∧ (P : Int) ≤ words ∧ words - (P : Int) < (T : Int)) ∨ (b = false ∧ words < (P : Int)) := by
    have hb := HN.out.b
    by_cases q : ((T + P : Nat) : Int) ≤ words
    · rw [decide_eq_true q] at hb
      exact .inl ⟨hb, by omega, by omega⟩
    · rw [decide_eq_false q] at hb
      by_cases q2 : (P : Int) ≤ words
      · exact .inr (.inl ⟨hb, q2, by omega⟩)
      · exact .inr (.inr ⟨hb, by omega⟩)
  have HE1 := Aside0.mk e1
  clear e1
  rcases hways with ⟨rfl, q1, q2⟩ | ⟨rfl, q1, q2⟩ | ⟨rfl, q1⟩
  · have d3 : decide ((P : Int) ≤ words) = true := decide_eq_true q1
    have d4 : decide ((T : Int) ≤ words - (P : Int)) = true := decide_eq_true (by omega)
    have e2 : wrap64 (words - (P : Int)) = words - (P : Int) := sub_in q1 HM.out
    have e1 := HE1.out
    clear q1 q2
    rcases HD.out with rfl | rfl
    all_goals
      go_wp2
      go_ret
      exact ⟨by simp, HB6.out⟩
  · have d3 : decide ((P : Int) ≤ words) = true := decide_eq_true q1
    have d4 : decide ((T : Int) ≤ words - (P : Int)) = false := decide_eq_false (by omega)
    have e2 : wrap64 (words - (P : Int)) = words - (P : Int) := sub_in q1 HM.out
    have e1 := HE1.out
    clear q1 q2
    rcases HD.out with rfl | rfl
    all_goals
      go_wp2
      go_ret
      exact ⟨by simp, HB6.out⟩
  · have d3 : decide ((P : Int) ≤ words) = false := decide_eq_false (by omega)
    clear q1
    rcases HD.out with rfl | rfl
    all_goals
      go_wp2
      go_ret
      exact ⟨by simp, HB6.out⟩
set_option maxHeartbeats 8000000 in
theorem tells_yes (K P T L n2 n3 n5 n6 : Nat) (b : Bool) (d words c : Int) (r : List S51) (w : World) (hn : Num K P T L words n3 n5 b) (h2 : plan_Passes.f n2 K d P words = some (r, c)) (h6 : abacistref24_Passes.f n6 K d P words = some r) (hm : words ≤ 9223372036854775807) (hd : d = 0 ∨ d = 1) (hl : decide (words < (L : Int)) = false) (hr : r.length ≤ 5) (hc : c = 0) (hT : TabP w) : Calls Tryd.prog 10 #[.int .i64 K, .int .i64 d, .int .i64 P, .int .i64 words] w fun e w' => e = .returned (.bool true) ∧ Below w.heap.size w w' := by
  have HL := Aside0.mk hr
  have HC := Aside0.mk hc
  have HD := Aside0.mk hd
  have HP := Aside0.mk h6
  clear hr hc hd h6
  have HN := Aside0.mk hn
  have HT := Aside0.mk hT
  have HM := Aside0.mk hm
  have K2 := Aside0.mk h2
  clear h2 hm hn hT
  go_enter Tryd.func10, Tryd.ntmps10
  go_wp2_with fail
  refine (awake_calls _ HT.out).mono ?_
  rintro e w1 ⟨rfl, hb⟩
  have HB1 := Aside0.mk hb
  clear hb
  go_wp2_with fail
  refine (plan_Least.calls K P L 0 _ HN.out.least).mono ?_
  rintro e w2 ⟨rfl, hb⟩
  have HB2 := Aside0.mk (below_then HB1.out HB1.out.size hb.below)
  clear hb HB1
  go_wp2_with fail
  refine (plan_Passes.calls n2 K d P words r c _ K2.out).mono ?_
  rintro e w3 ⟨v, rfl, hR, hb⟩
  have HB3 := Aside0.mk (below_then HB2.out HB2.out.size hb)
  obtain ⟨A, ca, rfl, hca, hCa⟩ := Kd.R_reads hR
  have HA := Aside0.mk hCa
  clear hb hR hca hCa HB2
  have d1 : decide ((K : Int) < 0) = false := decide_eq_false (by omega)
  have d2 : decide (32 < (K : Int)) = false := decide_eq_false (by have := HN.out.k; omega)
  go_wp2_with fail
  refine (abacistref24_Per.calls n3 P true _ HN.out.per).mono ?_
  rintro e w4 ⟨rfl, hb⟩
  have HB4 := Aside0.mk (below_then HB3.out HB3.out.size hb.below)
  have HA4 := Aside0.mk (Kd.C_below HA.out hb.below)
  clear hb HB3 HA d1 d2
  go_wp2_with fail
  refine (abacistref24_Least.calls n5 K P L _ HN.out.least2).mono ?_
  rintro e w5 ⟨rfl, hb⟩
  have HB5 := Aside0.mk (below_then HB4.out HB4.out.size hb.below)
  have HA5 := Aside0.mk (Kd.C_below HA4.out hb.below)
  clear hb HB4 HA4
  go_wp2_with fail
  refine (plan_Short.calls K P words b _ HN.out.short).mono ?_
  rintro e w6 ⟨rfl, hb⟩
  have HB6 := Aside0.mk (below_then HB5.out HB5.out.size hb.below)
  have HA6 := Aside0.mk (Kd.C_below HA5.out hb.below)
  clear hb HB5 HA5
  have e1 := HN.out.shl
  obtain rfl := HC.out
  have hways : (b = true ∧ (P : Int) ≤ words ∧ (T : Int) ≤ words - (P : Int)) ∨ (b = false ∧ (P : Int) ≤ words ∧ words - (P : Int) < (T : Int)) ∨ (b = false ∧ words < (P : Int)) := by
    have hb := HN.out.b
    by_cases q : ((T + P : Nat) : Int) ≤ words
    · rw [decide_eq_true q] at hb
      exact .inl ⟨hb, by omega, by omega⟩
    · rw [decide_eq_false q] at hb
      by_cases q2 : (P : Int) ≤ words
      · exact .inr (.inl ⟨hb, q2, by omega⟩)
      · exact .inr (.inr ⟨hb, by omega⟩)
  have HE1 := Aside0.mk e1
  clear e1
  rcases hways with ⟨rfl, q1, q2⟩ | ⟨rfl, q1, q2⟩ | ⟨rfl, q1⟩
  · have d3 : decide ((P : Int) ≤ words) = true := decide_eq_true q1
    have d4 : decide ((T : Int) ≤ words - (P : Int)) = true := decide_eq_true (by omega)
    have e2 : wrap64 (words - (P : Int)) = words - (P : Int) := sub_in q1 HM.out
    have e1 := HE1.out
    clear q1 q2
    rcases HD.out with rfl | rfl
    all_goals
      go_wp2_with fail
      with_reducible refine (abacistref24_Passes.calls n6 K _ P words r _ HP.out).mono ?_
      rintro e w7 ⟨v, rfl, hR, hb⟩
      have HB7 := Aside0.mk (below_then HB6.out HB6.out.size hb)
      have HA7 := Aside0.mk (Kd.C_below HA6.out hb)
      obtain ⟨B, cb, rfl, hcb, hCb⟩ := Kd.R_reads hR
      have HB' := Aside0.mk hCb
      clear hb hR hcb hCb HB6 HA6
      go_wp2
      go_loopw [14] (fun v14 wr => ∃ i : Nat, v14 = .int .i64 i ∧ i ≤ r.length ∧ Aside0 (Below w.heap.size w wr) ∧ Aside0 (Kd.C k51 wr A r.length r) ∧ Aside0 (Kd.C k51 wr B r.length r)) (fun v14 _ => r.length - (intOf v14).toNat)
      case atStart => exact ⟨0, rfl, Nat.zero_le _, HB7, HA7, HB'⟩
      case round =>
        clear HB7 HA7 HB'
        obtain ⟨i, rfl, hi, HBe, HCa, HCb⟩ := hrel
        have hlen := HL.out
        by_cases h1 : i < r.length
        · obtain ⟨ad, q1, a0, a1, a2, a3, a4, a5, a6, a7⟩ := at_T51 HCa.out (i : Int) (by omega) (by omega)
          obtain ⟨bd, q2, b0, b1, b2, b3, b4, b5, b6, b7⟩ := at_T51 HCb.out (i : Int) (by omega) (by omega)
          cases q1
          cases q2
          simp only [Int.toNat_natCast] at a0 a1 a2 a3 a4 a5 a6 a7 b0 b1 b2 b3 b4 b5 b6 b7
          generalize rd_T51 r (i : Int) = x at *
          have hia : (i : Int) < (r.length : Int) := by omega
          go_wp2_with fail
          go_quiet (fail)
          go_wp2
          go_roundw
          case rel => exact ⟨i + 1, by go_num, by omega, ⟨pw_below_drewN HBe.out _⟩, ⟨Kd.C_drewN HCa.out _⟩, ⟨Kd.C_drewN HCb.out _⟩⟩
          case measure => simp [intOf]; omega
        · have hia : decide ((i : Int) < (r.length : Int)) = false := decide_eq_false (by omega)
          go_wp2
          go_ret
          exact ⟨rfl, HBe.out⟩
  · have d3 : decide ((P : Int) ≤ words) = true := decide_eq_true q1
    have d4 : decide ((T : Int) ≤ words - (P : Int)) = false := decide_eq_false (by omega)
    have e2 : wrap64 (words - (P : Int)) = words - (P : Int) := sub_in q1 HM.out
    have e1 := HE1.out
    clear q1 q2
    rcases HD.out with rfl | rfl
    all_goals
      go_wp2_with fail
      with_reducible refine (abacistref24_Passes.calls n6 K _ P words r _ HP.out).mono ?_
      rintro e w7 ⟨v, rfl, hR, hb⟩
      have HB7 := Aside0.mk (below_then HB6.out HB6.out.size hb)
      have HA7 := Aside0.mk (Kd.C_below HA6.out hb)
      obtain ⟨B, cb, rfl, hcb, hCb⟩ := Kd.R_reads hR
      have HB' := Aside0.mk hCb
      clear hb hR hcb hCb HB6 HA6
      go_wp2
      go_loopw [14] (fun v14 wr => ∃ i : Nat, v14 = .int .i64 i ∧ i ≤ r.length ∧ Aside0 (Below w.heap.size w wr) ∧ Aside0 (Kd.C k51 wr A r.length r) ∧ Aside0 (Kd.C k51 wr B r.length r)) (fun v14 _ => r.length - (intOf v14).toNat)
      case atStart => exact ⟨0, rfl, Nat.zero_le _, HB7, HA7, HB'⟩
      case round =>
        clear HB7 HA7 HB'
        obtain ⟨i, rfl, hi, HBe, HCa, HCb⟩ := hrel
        have hlen := HL.out
        by_cases h1 : i < r.length
        · obtain ⟨ad, q1, a0, a1, a2, a3, a4, a5, a6, a7⟩ := at_T51 HCa.out (i : Int) (by omega) (by omega)
          obtain ⟨bd, q2, b0, b1, b2, b3, b4, b5, b6, b7⟩ := at_T51 HCb.out (i : Int) (by omega) (by omega)
          cases q1
          cases q2
          simp only [Int.toNat_natCast] at a0 a1 a2 a3 a4 a5 a6 a7 b0 b1 b2 b3 b4 b5 b6 b7
          generalize rd_T51 r (i : Int) = x at *
          have hia : (i : Int) < (r.length : Int) := by omega
          go_wp2_with fail
          go_quiet (fail)
          go_wp2
          go_roundw
          case rel => exact ⟨i + 1, by go_num, by omega, ⟨pw_below_drewN HBe.out _⟩, ⟨Kd.C_drewN HCa.out _⟩, ⟨Kd.C_drewN HCb.out _⟩⟩
          case measure => simp [intOf]; omega
        · have hia : decide ((i : Int) < (r.length : Int)) = false := decide_eq_false (by omega)
          go_wp2
          go_ret
          exact ⟨rfl, HBe.out⟩
  · have d3 : decide ((P : Int) ≤ words) = false := decide_eq_false (by omega)
    clear q1
    rcases HD.out with rfl | rfl
    all_goals
      go_wp2_with fail
      with_reducible refine (abacistref24_Passes.calls n6 K _ P words r _ HP.out).mono ?_
      rintro e w7 ⟨v, rfl, hR, hb⟩
      have HB7 := Aside0.mk (below_then HB6.out HB6.out.size hb)
      have HA7 := Aside0.mk (Kd.C_below HA6.out hb)
      obtain ⟨B, cb, rfl, hcb, hCb⟩ := Kd.R_reads hR
      have HB' := Aside0.mk hCb
      clear hb hR hcb hCb HB6 HA6
      go_wp2
      go_loopw [14] (fun v14 wr => ∃ i : Nat, v14 = .int .i64 i ∧ i ≤ r.length ∧ Aside0 (Below w.heap.size w wr) ∧ Aside0 (Kd.C k51 wr A r.length r) ∧ Aside0 (Kd.C k51 wr B r.length r)) (fun v14 _ => r.length - (intOf v14).toNat)
      case atStart => exact ⟨0, rfl, Nat.zero_le _, HB7, HA7, HB'⟩
      case round =>
        clear HB7 HA7 HB'
        obtain ⟨i, rfl, hi, HBe, HCa, HCb⟩ := hrel
        have hlen := HL.out
        by_cases h1 : i < r.length
        · obtain ⟨ad, q1, a0, a1, a2, a3, a4, a5, a6, a7⟩ := at_T51 HCa.out (i : Int) (by omega) (by omega)
          obtain ⟨bd, q2, b0, b1, b2, b3, b4, b5, b6, b7⟩ := at_T51 HCb.out (i : Int) (by omega) (by omega)
          cases q1
          cases q2
          simp only [Int.toNat_natCast] at a0 a1 a2 a3 a4 a5 a6 a7 b0 b1 b2 b3 b4 b5 b6 b7
          generalize rd_T51 r (i : Int) = x at *
          have hia : (i : Int) < (r.length : Int) := by omega
          go_wp2_with fail
          go_quiet (fail)
          go_wp2
          go_roundw
          case rel => exact ⟨i + 1, by go_num, by omega, ⟨pw_below_drewN HBe.out _⟩, ⟨Kd.C_drewN HCa.out _⟩, ⟨Kd.C_drewN HCb.out _⟩⟩
          case measure => simp [intOf]; omega
        · have hia : decide ((i : Int) < (r.length : Int)) = false := decide_eq_false (by omega)
          go_wp2
          go_ret
          exact ⟨rfl, HBe.out⟩
theorem psl_len (k : Nat) (d : Int) (P : Nat) (words : Int) : (psl k d P words).length ≤ 5 := by
  unfold psl; split
  · simp
  · simp [longl]
theorem PlanTellsRow (k d per words : Int) (w : World) (hm : words ≤ 9223372036854775807) (hT : TabP w) : Calls Tryd.prog 10 #[.int .i64 k, .int .i64 d, .int .i64 per, .int .i64 words] w fun e w' => e = .returned (.bool true) ∧ Below w.heap.size w w' := by
  by_cases hg : goodq k per = true
  · obtain ⟨K, P, rfl, rfl, hk, hp4, hp, hq⟩ := good_facts hg
    obtain ⟨T, L, n3, n5, b, hn⟩ := nums_of K P words hg
    by_cases hd : d = 0 ∨ d = 1
    · have hl := hn.l
      by_cases hw : words < (L : Int)
      · obtain ⟨n2, h2⟩ := (passes_arena K P d words hg hd (by rw [← hl]; exact hw)).rounds
        exact tells_arena K P T L n2 n3 n5 b d words 6 [] w hn h2 hm hd (decide_eq_true hw) rfl rfl hT
      · obtain ⟨n2, h2⟩ := (passes_ok K P d words hg hd (by rw [← hl]; omega)).rounds
        obtain ⟨n6, h6⟩ := (passes_ref K P d words hk hp hd).rounds
        exact tells_yes K P T L n2 n3 n5 n6 b d words 0 _ w hn h2 h6 hm hd (decide_eq_false hw) (psl_len K d P words) rfl hT
    · obtain ⟨n2, h2⟩ := (passes_kind K d P words hg hd).rounds
      exact tells_kind K P T L n2 n3 n5 b d words 18 [] w hn h2 hm (by rw [bne_iff_ne]; exact fun h => hd (.inl h)) (by rw [bne_iff_ne]; exact fun h => hd (.inr h)) rfl rfl hT
  · exact tells_bad k d per words w hg hT
end Go.Proofs.YtpnkcjnemoompaaDoor.Plan
