import Derived.Test.YtpnkcjnemoompaaDoorPlanO
/-! Plan: PlanLines. -/
namespace Go.Proofs.YtpnkcjnemoompaaDoor.Plan
open Go.RowKit Go.Proofs.YtpnkcjnemoompaaDoor Go.Proofs.YtpnkcjnemoompaaDoor.Ext Go.Proofs.YtpnkcjnemoompaaDoor.PPlan Go.Proofs.YtpnkcjnemoompaaDoor.Pure Go.Proofs.YtpnkcjnemoompaaDoor.Obj Go.Proofs.YtpnkcjnemoompaaDoorW.PrintWords Go.Proofs.YtpnkcjnemoompaaDoorW.PrintLast Go.Proofs.YtpnkcjnemoompaaDoorW.PrintMore
set_option linter.unusedVariables false
set_option linter.unusedSimpArgs false
set_option maxRecDepth 100000

abbrev Rg (n : Int) : Prop := -9223372036854775808 ≤ n ∧ n ≤ 9223372036854775807
theorem ita_dig (n : Nat) : ita (n : Int) = dig n := by unfold ita dig; rw [Lib.itoa_nonneg]
theorem ba_ext {a b : ByteArray} (h : a.data.toList = b.data.toList) : a = b := by
  obtain ⟨⟨a⟩⟩ := a
  obtain ⟨⟨b⟩⟩ := b
  simp only at h
  rw [h]
theorem u64_nat (n : Nat) (h : n ≤ 9223372036854775807) : IntKind.u64.wrap (n : Int) = (n : Int) := by rw [IntKind.wrap_u64]; omega
theorem rw2 {w : World} {g : Nat} {a b : Int} (h : Bk w g 45 [.int .u64 a, .int .u64 b]) : Rw w g [a, b] := by simpa [Rw, nums] using h
section
variable {P : Program} {w : World} {ops : Array Oper} {o : Oper} {a : Act} {Q : Exit → Act → World → Prop}
theorem lit_step {N : Option Tmp} {K : Act → World → Prop} {cs : Array Value} {t : TypeId} {n : Nat} (hw : Region.wanted o (yielded ops a.tmps) = true) (hN : o.dst = N)
    (hrun : (execOp a.eval o).run P w = .ok (.value (.slice (some ⟨w.heap.size, 0, none⟩) n n)) (w.alloc (.cells cs t (0, 0))))
    (h : ∀ w', Bk w' w.heap.size t cs.toList → Below w.heap.size w w' → K (a.put N (.slice (some ⟨w.heap.size, 0, none⟩) n n)) w') :
    if Region.wanted o (yielded ops a.tmps) = true then Oper.wp P o a w K Q else K (a.put N undef) w :=
  value_ hw hN hrun (h _ (Bk.new w t cs.toList) (below_alloc (Below.refl _ _) _))
end
def wantq (F O R C : Nat) : ByteArray := (⟨#[32]⟩ : ByteArray) ++ extw F ++ ⟨#[32]⟩ ++ extw O ++ ⟨#[32]⟩ ++ (dig R ++ ⟨#[32]⟩ ++ dig C)
theorem jn_turn (F O R C : Nat) : jn [⟨#[116, 117, 114, 110]⟩, extw F, extw O, ita (R : Int), ita (C : Int)] = ⟨#[116, 117, 114, 110]⟩ ++ wantq F O R C := by
  rw [ita_dig, ita_dig]
  apply ba_ext
  simp [jn, Lib.join, List.intercalate, wantq]
theorem jn_rows (F O R C : Nat) (d t s : ByteArray) : jn [⟨#[114, 111, 119, 115]⟩, extw F, extw O, ita (R : Int), ita (C : Int), d, t, s] = (⟨#[114, 111, 119, 115]⟩ : ByteArray) ++ wantq F O R C ++ ⟨#[32]⟩ ++ d ++ ⟨#[32]⟩ ++ t ++ ⟨#[32]⟩ ++ s := by
  rw [ita_dig, ita_dig]
  apply ba_ext
  simp [jn, Lib.join, List.intercalate, wantq]
theorem extw_size (n : Nat) : (extw n).size ≤ 6 := by
  have h := extw_le n
  rw [Array.length_toList] at h
  exact h
theorem want_size (F O R C : Nat) (hR : R ≤ 9223372036854775807) (hC : C ≤ 9223372036854775807) : (wantq F O R C).size ≤ 60 := by
  have h1 := extw_size F
  have h2 := extw_size O
  have h3 := dig_le R (by omega)
  have h4 := dig_le C (by omega)
  have s1 : (⟨#[32]⟩ : ByteArray).size = 1 := rfl
  simp only [wantq, ByteArray.size_append, s1]
  omega
theorem join_cons (x : List UInt8) (l : List (List UInt8)) : ∃ r, Lib.join (x :: l) [32] = x ++ r := by
  cases l with
  | nil => exact ⟨[], by simp [Lib.join, List.intercalate]⟩
  | cons b l => exact ⟨_, by simp only [Lib.join, List.intercalate, List.intersperse, List.flatten]; rfl⟩
theorem jn_pos (a : ByteArray) (l : List ByteArray) (h : 0 < a.data.toList.length) : decide ((0 : Int) < ((jn (a :: l)).size : Int)) = true := by
  apply decide_eq_true
  obtain ⟨r, hr⟩ := join_cons a.data.toList (l.map (·.data.toList))
  have e : (jn (a :: l)).size = (Lib.join (a.data.toList :: l.map (·.data.toList)) [32]).length := rfl
  rw [e, hr, List.length_append]
  omega
set_option maxHeartbeats 4000000 in
theorem lines_no (R C d t s k f o : Int) (w : World) (hr : rightq k f o = false) (hT : TabP w) : Calls Tryd.prog 5 #[.agg #[.int .i64 R, .int .i64 C, .int .i64 d, .int .i64 t, .int .u64 s, .int .i64 k, .int .i64 f, .int .i64 o]] w fun e w' => e = .returned (.bool true) ∧ Below w.heap.size w w' := by
  have HP := Aside0.mk (Pl.new R C d t s k f o hT)
  have HT := Aside0.mk (hT.below (below_alloc (Below.refl w.heap.size w) (Obj.cells #[.int .i64 R, .int .i64 C, .int .i64 d, .int .i64 t, .int .u64 s, .int .i64 k, .int .i64 f, .int .i64 o] 51)))
  have HR := Aside0.mk hr
  have hways : ((k != 1) = true ∧ (k != 2) = true) ∨ ((k != 1) = false ∨ ((k != 1) = true ∧ (k != 2) = false)) ∧ (decide (f < 0) = true ∨ decide (f < 0) = false ∧ (decide (3 < f) = true ∨ decide (3 < f) = false ∧ (decide (o < 0) = true ∨ decide (o < 0) = false ∧ decide (3 < o) = true))) := by
    by_cases k1 : k = 1
    · refine .inr ⟨.inl (by simp [k1]), ?_⟩
      by_cases f1 : f < 0
      · exact .inl (decide_eq_true f1)
      · refine .inr ⟨decide_eq_false f1, ?_⟩
        by_cases f2 : 3 < f
        · exact .inl (decide_eq_true f2)
        · refine .inr ⟨decide_eq_false f2, ?_⟩
          by_cases o1 : o < 0
          · exact .inl (decide_eq_true o1)
          · refine .inr ⟨decide_eq_false o1, decide_eq_true ?_⟩
            simp [rightq, inq, k1] at hr
            omega
    · by_cases k2 : k = 2
      · refine .inr ⟨.inr ⟨by simp [k1], by simp [k2]⟩, ?_⟩
        by_cases f1 : f < 0
        · exact .inl (decide_eq_true f1)
        · refine .inr ⟨decide_eq_false f1, ?_⟩
          by_cases f2 : 3 < f
          · exact .inl (decide_eq_true f2)
          · refine .inr ⟨decide_eq_false f2, ?_⟩
            by_cases o1 : o < 0
            · exact .inl (decide_eq_true o1)
            · refine .inr ⟨decide_eq_false o1, decide_eq_true ?_⟩
              simp [rightq, inq, k2] at hr
              omega
      · exact .inl ⟨by simp [k1], by simp [k2]⟩
  clear hT hr
  go_enter Tryd.func5, Tryd.ntmps5
  go_wp2_with fail
  refine (awake_calls _ HT.out).mono ?_
  rintro e w1 ⟨rfl, hb⟩
  have HP1 := Aside0.mk (HP.out.below hb)
  have u0 := HP1.out.box.cell 0
  have u1 := HP1.out.box.cell 1
  have u2 := HP1.out.box.cell 2
  have u3 := HP1.out.box.cell 3
  have u4 := HP1.out.box.cell 4
  have u5 := HP1.out.box.cell 5
  have u6 := HP1.out.box.cell 6
  have u7 := HP1.out.box.cell 7
  clear hb
  go_wp2_with fail
  with_reducible refine (line_no R C d t s k f o _ HR.out HP1.out.tab).mono ?_
  rintro e w2 ⟨rfl, hb⟩
  have HP2 := Aside0.mk (HP1.out.below hb)
  clear hb u0 u1 u2 u3 u4 u5 u6 u7
  have u0 := HP2.out.box.cell 0
  have u1 := HP2.out.box.cell 1
  have u2 := HP2.out.box.cell 2
  have u3 := HP2.out.box.cell 3
  have u4 := HP2.out.box.cell 4
  have u5 := HP2.out.box.cell 5
  have u6 := HP2.out.box.cell 6
  have u7 := HP2.out.box.cell 7
  rcases hways with ⟨a1, a2⟩ | ⟨a1 | ⟨a1, a2⟩, b1 | ⟨b1, b2 | ⟨b2, b3 | ⟨b3, b4⟩⟩⟩⟩
  all_goals
    go_wp2
    go_ret
    exact ⟨by simp, HP2.out.be⟩
set_option maxHeartbeats 4000000 in
theorem lines_neg1 (R C d t : Int) (s F O : Nat) (w : World) (hF : F < 4) (hO : O < 4) (hR : Rg R) (hC : Rg C) (hd : Rg d) (ht : Rg t) (hs : s < 18446744073709551616) (hn : R < 0 ∨ C < 0 ∨ d < 0 ∨ t < -1) (hT : TabP w) : Calls Tryd.prog 5 #[.agg #[.int .i64 R, .int .i64 C, .int .i64 d, .int .i64 t, .int .u64 s, .int .i64 1, .int .i64 F, .int .i64 O]] w fun e w' => e = .returned (.bool true) ∧ Below w.heap.size w w' := by
  have HP := Aside0.mk (Pl.new R C d t s 1 F O hT)
  have HT := Aside0.mk (hT.below (below_alloc (Below.refl w.heap.size w) (Obj.cells #[.int .i64 R, .int .i64 C, .int .i64 d, .int .i64 t, .int .u64 (s : Int), .int .i64 1, .int .i64 (F : Int), .int .i64 (O : Int)] 51)))
  have HF := Aside0.mk hF
  have HO := Aside0.mk hO
  have HR := Aside0.mk hR
  have HC := Aside0.mk hC
  have HD := Aside0.mk hd
  have HW := Aside0.mk ht
  have HS := Aside0.mk hs
  have p1 : decide ((F : Int) < 0) = false := decide_eq_false (by omega)
  have p2 : decide (3 < (F : Int)) = false := decide_eq_false (by omega)
  have p3 : decide ((O : Int) < 0) = false := decide_eq_false (by omega)
  have p4 : decide (3 < (O : Int)) = false := decide_eq_false (by omega)
  have hways : decide (R < 0) = true ∨ decide (R < 0) = false ∧ (decide (C < 0) = true ∨ decide (C < 0) = false ∧ (decide (d < 0) = true ∨ decide (d < 0) = false ∧ decide (t < -1) = true)) := by
    by_cases h1 : R < 0
    · exact .inl (decide_eq_true h1)
    · refine .inr ⟨decide_eq_false h1, ?_⟩
      by_cases h2 : C < 0
      · exact .inl (decide_eq_true h2)
      · refine .inr ⟨decide_eq_false h2, ?_⟩
        by_cases h3 : d < 0
        · exact .inl (decide_eq_true h3)
        · exact .inr ⟨decide_eq_false h3, decide_eq_true (by omega)⟩
  clear hT hF hO hR hC hd ht hs hn
  go_enter Tryd.func5, Tryd.ntmps5
  go_wp2_with fail
  refine (awake_calls _ HT.out).mono ?_
  rintro e w1 ⟨rfl, hb⟩
  have HP1 := Aside0.mk (HP.out.below hb)
  have u0 := HP1.out.box.cell 0
  have u1 := HP1.out.box.cell 1
  have u2 := HP1.out.box.cell 2
  have u3 := HP1.out.box.cell 3
  have u4 := HP1.out.box.cell 4
  have u5 := HP1.out.box.cell 5
  have u6 := HP1.out.box.cell 6
  have u7 := HP1.out.box.cell 7
  clear hb
  go_wp2_with fail
  with_reducible refine (line_turn R C d t s F O _ HF.out HO.out HR.out HC.out HP1.out.tab).mono ?_
  rintro e w2 ⟨rfl, hb⟩
  have HP2 := Aside0.mk (HP1.out.below hb)
  clear hb u0 u1 u2 u3 u4 u5 u6 u7
  have u0 := HP2.out.box.cell 0
  have u1 := HP2.out.box.cell 1
  have u2 := HP2.out.box.cell 2
  have u3 := HP2.out.box.cell 3
  have u4 := HP2.out.box.cell 4
  have u5 := HP2.out.box.cell 5
  have u6 := HP2.out.box.cell 6
  have u7 := HP2.out.box.cell 7
  have hpos := jn_pos ⟨#[116, 117, 114, 110]⟩ [extw F, extw O, ita R, ita C] (by decide)
  obtain ⟨S, hS⟩ : ∃ S, S = jn [⟨#[116, 117, 114, 110]⟩, extw F, extw O, ita R, ita C] := ⟨_, rfl⟩
  rw [← hS] at hpos ⊢
  clear hS
  rcases hways with a1 | ⟨a1, a2 | ⟨a2, a3 | ⟨a3, a4⟩⟩⟩
  all_goals
    go_wp2
    go_ret
    exact ⟨by simpa using hpos, HP2.out.be⟩
set_option maxHeartbeats 4000000 in
theorem lines_neg2 (R C d t : Int) (s F O : Nat) (w : World) (hF : F < 4) (hO : O < 4) (hR : Rg R) (hC : Rg C) (hd : Rg d) (ht : Rg t) (hs : s < 18446744073709551616) (hn : R < 0 ∨ C < 0 ∨ d < 0 ∨ t < -1) (hT : TabP w) : Calls Tryd.prog 5 #[.agg #[.int .i64 R, .int .i64 C, .int .i64 d, .int .i64 t, .int .u64 s, .int .i64 2, .int .i64 F, .int .i64 O]] w fun e w' => e = .returned (.bool true) ∧ Below w.heap.size w w' := by
  have HP := Aside0.mk (Pl.new R C d t s 2 F O hT)
  have HT := Aside0.mk (hT.below (below_alloc (Below.refl w.heap.size w) (Obj.cells #[.int .i64 R, .int .i64 C, .int .i64 d, .int .i64 t, .int .u64 (s : Int), .int .i64 2, .int .i64 (F : Int), .int .i64 (O : Int)] 51)))
  have HF := Aside0.mk hF
  have HO := Aside0.mk hO
  have HR := Aside0.mk hR
  have HC := Aside0.mk hC
  have HD := Aside0.mk hd
  have HW := Aside0.mk ht
  have HS := Aside0.mk hs
  have p1 : decide ((F : Int) < 0) = false := decide_eq_false (by omega)
  have p2 : decide (3 < (F : Int)) = false := decide_eq_false (by omega)
  have p3 : decide ((O : Int) < 0) = false := decide_eq_false (by omega)
  have p4 : decide (3 < (O : Int)) = false := decide_eq_false (by omega)
  have hways : decide (R < 0) = true ∨ decide (R < 0) = false ∧ (decide (C < 0) = true ∨ decide (C < 0) = false ∧ (decide (d < 0) = true ∨ decide (d < 0) = false ∧ decide (t < -1) = true)) := by
    by_cases h1 : R < 0
    · exact .inl (decide_eq_true h1)
    · refine .inr ⟨decide_eq_false h1, ?_⟩
      by_cases h2 : C < 0
      · exact .inl (decide_eq_true h2)
      · refine .inr ⟨decide_eq_false h2, ?_⟩
        by_cases h3 : d < 0
        · exact .inl (decide_eq_true h3)
        · exact .inr ⟨decide_eq_false h3, decide_eq_true (by omega)⟩
  clear hT hF hO hR hC hd ht hs hn
  go_enter Tryd.func5, Tryd.ntmps5
  go_wp2_with fail
  refine (awake_calls _ HT.out).mono ?_
  rintro e w1 ⟨rfl, hb⟩
  have HP1 := Aside0.mk (HP.out.below hb)
  have u0 := HP1.out.box.cell 0
  have u1 := HP1.out.box.cell 1
  have u2 := HP1.out.box.cell 2
  have u3 := HP1.out.box.cell 3
  have u4 := HP1.out.box.cell 4
  have u5 := HP1.out.box.cell 5
  have u6 := HP1.out.box.cell 6
  have u7 := HP1.out.box.cell 7
  clear hb
  go_wp2_with fail
  with_reducible refine (line_rows R C d t s F O _ HF.out HO.out HR.out HC.out HD.out HW.out HS.out HP1.out.tab).mono ?_
  rintro e w2 ⟨rfl, hb⟩
  have HP2 := Aside0.mk (HP1.out.below hb)
  clear hb u0 u1 u2 u3 u4 u5 u6 u7
  have u0 := HP2.out.box.cell 0
  have u1 := HP2.out.box.cell 1
  have u2 := HP2.out.box.cell 2
  have u3 := HP2.out.box.cell 3
  have u4 := HP2.out.box.cell 4
  have u5 := HP2.out.box.cell 5
  have u6 := HP2.out.box.cell 6
  have u7 := HP2.out.box.cell 7
  have hpos := jn_pos ⟨#[114, 111, 119, 115]⟩ [extw F, extw O, ita R, ita C, ita d, ita t, dig s] (by decide)
  obtain ⟨S, hS⟩ : ∃ S, S = jn [⟨#[114, 111, 119, 115]⟩, extw F, extw O, ita R, ita C, ita d, ita t, dig s] := ⟨_, rfl⟩
  rw [← hS] at hpos ⊢
  clear hS
  rcases hways with a1 | ⟨a1, a2 | ⟨a2, a3 | ⟨a3, a4⟩⟩⟩
  all_goals
    go_wp2
    go_ret
    exact ⟨by simpa using hpos, HP2.out.be⟩
set_option maxHeartbeats 8000000 in
theorem lines_yes1 (R C F O : Nat) (d t : Int) (SS : Nat) (w : World) (hF : F < 4) (hO : O < 4) (hR : R ≤ 9223372036854775807) (hC : C ≤ 9223372036854775807) (hn : 0 ≤ d ∧ -1 ≤ t) (hT : TabP w) : Calls Tryd.prog 5 #[.agg #[.int .i64 R, .int .i64 C, .int .i64 d, .int .i64 t, .int .u64 SS, .int .i64 1, .int .i64 F, .int .i64 O]] w fun e w' => e = .returned (.bool true) ∧ Below w.heap.size w w' := by
  have HP := Aside0.mk (Pl.new R C d t SS 1 F O hT)
  have HT := Aside0.mk (hT.below (below_alloc (Below.refl w.heap.size w) (Obj.cells #[.int .i64 (R : Int), .int .i64 (C : Int), .int .i64 d, .int .i64 t, .int .u64 (SS : Int), .int .i64 1, .int .i64 (F : Int), .int .i64 (O : Int)] 51)))
  have HF := Aside0.mk hF
  have HO := Aside0.mk hO
  have HR := Aside0.mk hR
  have HC := Aside0.mk hC
  have p1 : decide ((F : Int) < 0) = false := decide_eq_false (by omega)
  have p2 : decide (3 < (F : Int)) = false := decide_eq_false (by omega)
  have p3 : decide ((O : Int) < 0) = false := decide_eq_false (by omega)
  have p4 : decide (3 < (O : Int)) = false := decide_eq_false (by omega)
  have a1 : decide ((R : Int) < 0) = false := decide_eq_false (by omega)
  have a2 : decide ((C : Int) < 0) = false := decide_eq_false (by omega)
  have a3 : decide (d < 0) = false := decide_eq_false (by omega)
  have a4 : decide (t < -1) = false := decide_eq_false (by omega)
  have z1 := extw_size F
  have z2 := extw_size O
  have z3 := dig_le R (by omega)
  have z4 := dig_le C (by omega)
  have z5 := want_size F O R C hR hC
  have e1 := Aside0.mk (u64_nat R hR)
  have e2 := Aside0.mk (u64_nat C hC)
  clear hT hF hO hR hC hn
  go_enter Tryd.func5, Tryd.ntmps5
  go_wp2_with fail
  refine (awake_calls _ HT.out).mono ?_
  rintro e w1 ⟨rfl, hb⟩
  have HP1 := Aside0.mk (HP.out.below hb)
  have u0 := HP1.out.box.cell 0
  have u1 := HP1.out.box.cell 1
  have u2 := HP1.out.box.cell 2
  have u3 := HP1.out.box.cell 3
  have u4 := HP1.out.box.cell 4
  have u5 := HP1.out.box.cell 5
  have u6 := HP1.out.box.cell 6
  have u7 := HP1.out.box.cell 7
  clear hb
  go_wp2_with fail
  with_reducible refine (line_turn R C d t SS F O _ HF.out HO.out (by have := HR.out; omega) (by have := HC.out; omega) HP1.out.tab).mono ?_
  rintro e w2 ⟨rfl, hb⟩
  have HP2 := Aside0.mk (HP1.out.below hb)
  clear hb u0 u1 u2 u3 u4 u5 u6 u7
  have u0 := HP2.out.box.cell 0
  have u1 := HP2.out.box.cell 1
  have u2 := HP2.out.box.cell 2
  have u3 := HP2.out.box.cell 3
  have u4 := HP2.out.box.cell 4
  have u5 := HP2.out.box.cell 5
  have u6 := HP2.out.box.cell 6
  have u7 := HP2.out.box.cell 7
  rw [jn_turn]
  go_wp2_with fail
  clear u0 u1 u2 u3 u4 u5 u6 u7 p1 p2 p3 p4 a1 a2 a3 a4
  have e1 := e1.out
  have e2 := e2.out
  have k1 : (9223372036854775807 < 1 + (extw F).size) = False := eq_false (by omega)
  have k2 : (9223372036854775807 < 1 + (extw F).size + 1) = False := eq_false (by omega)
  have k3 : (9223372036854775807 < 1 + (extw F).size + 1 + (extw O).size) = False := eq_false (by omega)
  have k4 : (9223372036854775807 < 1 + (extw F).size + 1 + (extw O).size + 1) = False := eq_false (by omega)
  have k5 : (9223372036854775807 < 1 + (extw F).size + 1 + (extw O).size + 1 + ((dig R).size + 1 + (dig C).size)) = False := eq_false (by omega)
  refine start_ (n := 24) (S := fun w' => w'.cell? ⟨w.heap.size, 6, none⟩ = some (.int .i64 (F : Int)) ∧ w'.cell? ⟨w.heap.size, 7, none⟩ = some (.int .i64 (O : Int)) ∧ w'.cell? ⟨w.heap.size, 0, none⟩ = some (.int .i64 (R : Int)) ∧ w'.cell? ⟨w.heap.size, 1, none⟩ = some (.int .i64 (C : Int)) ∧ Aside0 (Pl w w' w.heap.size R C d t SS 1 F O)) (ds := []) #[false, false, false, false, false, false, false, false, false, false, false, false, false, false, false, false, false, false, false, false, false, false, false, false] (by kernel_rfl) rfl rfl ⟨HP2.out.drew.box.cell 6, HP2.out.drew.box.cell 7, HP2.out.drew.box.cell 0, HP2.out.drew.box.cell 1, ⟨HP2.out.drew⟩⟩ (fun hHeld => ?_)
  refine pure_ (i := 0) (N := some 67) (v := ?_) (a' := ?_) #[true, false, false, false, false, false, false, false, false, false, false, false, false, false, false, false, false, false, false, false, false, false, false, false] rfl rfl (by kernel_rfl) (fun _ _ _ h => h) (Or.inl ⟨by rfl, ?_⟩) ?_ ?_
  rotate_left
  · intro w'
    go_simp
    with_reducible rfl
  rotate_left
  · simp only [Act.put, List.setIfInBounds_toArray, List.set_cons_zero, List.set_cons_succ, i64_w, i32_w]
    rfl
  refine pure_ (i := 5) (N := some 72) (v := ?_) (a' := ?_) #[true, false, false, false, false, true, false, false, false, false, false, false, false, false, false, false, false, false, false, false, false, false, false, false] rfl rfl (by kernel_rfl) (fun _ _ _ h => h) (Or.inl ⟨by rfl, ?_⟩) ?_ ?_
  rotate_left
  · intro w'
    go_simp
    with_reducible rfl
  rotate_left
  · simp only [Act.put, List.setIfInBounds_toArray, List.set_cons_zero, List.set_cons_succ, i64_w, i32_w]
    rfl
  refine pure_ (i := 10) (N := some 77) (v := ?_) (a' := ?_) #[true, false, false, false, false, true, false, false, false, false, true, false, false, false, false, false, false, false, false, false, false, false, false, false] rfl rfl (by kernel_rfl) (fun _ _ _ h => h) (Or.inl ⟨by rfl, ?_⟩) ?_ ?_
  rotate_left
  · intro w'
    go_simp
    with_reducible rfl
  rotate_left
  · simp only [Act.put, List.setIfInBounds_toArray, List.set_cons_zero, List.set_cons_succ, i64_w, i32_w]
    rfl
  refine pure_ (i := 11) (N := some 78) (v := ?_) (a' := ?_) #[true, false, false, false, false, true, false, false, false, false, true, true, false, false, false, false, false, false, false, false, false, false, false, false] rfl rfl (by kernel_rfl) (fun _ _ _ h => h) (Or.inl ⟨by rfl, ?_⟩) ?_ ?_
  rotate_left
  · intro w'
    go_simp
    with_reducible rfl
  rotate_left
  · simp only [Act.put, List.setIfInBounds_toArray, List.set_cons_zero, List.set_cons_succ, i64_w, i32_w]
    rfl
  refine pure_ (i := 12) (N := some 79) (v := ?_) (a' := ?_) #[true, false, false, false, false, true, false, false, false, false, true, true, true, false, false, false, false, false, false, false, false, false, false, false] rfl rfl (by kernel_rfl) (fun _ _ _ h => h) (Or.inl ⟨by rfl, ?_⟩) ?_ ?_
  rotate_left
  · intro w'
    go_simp
    with_reducible rfl
  rotate_left
  · simp only [Act.put, List.setIfInBounds_toArray, List.set_cons_zero, List.set_cons_succ, i64_w, i32_w]
    rfl
  refine pure_ (i := 15) (N := some 82) (v := ?_) (a' := ?_) #[true, false, false, false, false, true, false, false, false, false, true, true, true, false, false, true, false, false, false, false, false, false, false, false] rfl rfl (by kernel_rfl) (fun _ _ _ h => h) (Or.inl ⟨by rfl, ?_⟩) ?_ ?_
  rotate_left
  · intro w'
    go_simp
    with_reducible rfl
  rotate_left
  · simp only [Act.put, List.setIfInBounds_toArray, List.set_cons_zero, List.set_cons_succ, i64_w, i32_w]
    rfl
  refine pure_ (i := 16) (N := some 83) (v := ?_) (a' := ?_) #[true, false, false, false, false, true, false, false, false, false, true, true, true, false, false, true, true, false, false, false, false, false, false, false] rfl rfl (by kernel_rfl) (fun _ _ _ h => h) (Or.inl ⟨by rfl, ?_⟩) ?_ ?_
  rotate_left
  · intro w'
    go_simp
    with_reducible rfl
  rotate_left
  · simp only [Act.put, List.setIfInBounds_toArray, List.set_cons_zero, List.set_cons_succ, i64_w, i32_w]
    rfl
  refine pure_ (i := 17) (N := some 84) (v := ?_) (a' := ?_) #[true, false, false, false, false, true, false, false, false, false, true, true, true, false, false, true, true, true, false, false, false, false, false, false] rfl rfl (by kernel_rfl) (fun _ _ _ h => h) (Or.inl ⟨by rfl, ?_⟩) ?_ ?_
  rotate_left
  · intro w'
    go_simp
    with_reducible rfl
  rotate_left
  · simp only [Act.put, List.setIfInBounds_toArray, List.set_cons_zero, List.set_cons_succ, i64_w, i32_w]
    rfl
  refine take_ (i := 1) (N := some 68) (v := ?_) (a' := ?_) #[true, true, false, false, false, true, false, false, false, false, true, true, true, false, false, true, true, true, false, false, false, false, false, false] rfl rfl (by kernel_rfl) (fun _ _ _ h => h) (Or.inl ⟨by rfl, ?_⟩) hHeld ?_ ?_
  rotate_left
  · rintro w' ⟨s0, s1, s2, s3, s4⟩
    go_simp
    with_reducible rfl
  rotate_left
  · simp only [Act.put, List.setIfInBounds_toArray, List.set_cons_zero, List.set_cons_succ, i64_w, i32_w]
    rfl
  refine take_ (i := 6) (N := some 73) (v := ?_) (a' := ?_) #[true, true, false, false, false, true, true, false, false, false, true, true, true, false, false, true, true, true, false, false, false, false, false, false] rfl rfl (by kernel_rfl) (fun _ _ _ h => h) (Or.inl ⟨by rfl, ?_⟩) hHeld ?_ ?_
  rotate_left
  · rintro w' ⟨s0, s1, s2, s3, s4⟩
    go_simp
    with_reducible rfl
  rotate_left
  · simp only [Act.put, List.setIfInBounds_toArray, List.set_cons_zero, List.set_cons_succ, i64_w, i32_w]
    rfl
  refine take_ (i := 13) (N := some 80) (v := ?_) (a' := ?_) #[true, true, false, false, false, true, true, false, false, false, true, true, true, true, false, true, true, true, false, false, false, false, false, false] rfl rfl (by kernel_rfl) (fun _ _ _ h => h) (Or.inl ⟨by rfl, ?_⟩) hHeld ?_ ?_
  rotate_left
  · rintro w' ⟨s0, s1, s2, s3, s4⟩
    go_simp
    with_reducible rfl
  rotate_left
  · simp only [Act.put, List.setIfInBounds_toArray, List.set_cons_zero, List.set_cons_succ, i64_w, i32_w]
    rfl
  refine pure_ (i := 14) (N := some 81) (v := ?_) (a' := ?_) #[true, true, false, false, false, true, true, false, false, false, true, true, true, true, true, true, true, true, false, false, false, false, false, false] rfl rfl (by kernel_rfl) (fun _ _ _ h => h) (Or.inl ⟨by rfl, ?_⟩) ?_ ?_
  rotate_left
  · intro w'
    go_simp
    with_reducible rfl
  rotate_left
  · simp only [Act.put, List.setIfInBounds_toArray, List.set_cons_zero, List.set_cons_succ, i64_w, i32_w]
    rfl
  refine take_ (i := 18) (N := some 85) (v := ?_) (a' := ?_) #[true, true, false, false, false, true, true, false, false, false, true, true, true, true, true, true, true, true, true, false, false, false, false, false] rfl rfl (by kernel_rfl) (fun _ _ _ h => h) (Or.inl ⟨by rfl, ?_⟩) hHeld ?_ ?_
  rotate_left
  · rintro w' ⟨s0, s1, s2, s3, s4⟩
    go_simp
    with_reducible rfl
  rotate_left
  · simp only [Act.put, List.setIfInBounds_toArray, List.set_cons_zero, List.set_cons_succ, i64_w, i32_w]
    rfl
  refine pure_ (i := 19) (N := some 86) (v := ?_) (a' := ?_) #[true, true, false, false, false, true, true, false, false, false, true, true, true, true, true, true, true, true, true, true, false, false, false, false] rfl rfl (by kernel_rfl) (fun _ _ _ h => h) (Or.inl ⟨by rfl, ?_⟩) ?_ ?_
  rotate_left
  · intro w'
    go_simp
    with_reducible rfl
  rotate_left
  · simp only [Act.put, List.setIfInBounds_toArray, List.set_cons_zero, List.set_cons_succ, i64_w, i32_w]
    rfl
  refine join_ (σ := Nat) 3 #[true, true, true, true, true, true, true, true, true, true, true, true, true, true, true, true, true, true, true, true, true, false, false, false] (fun s => [(69, .string (extw F)), (70, .string ((⟨#[32]⟩ : ByteArray) ++ extw F)), (71, .string ((⟨#[32]⟩ : ByteArray) ++ extw F ++ ⟨#[32]⟩)), (74, .string (extw O)), (75, .string ((⟨#[32]⟩ : ByteArray) ++ extw F ++ ⟨#[32]⟩ ++ extw O)), (76, .string ((⟨#[32]⟩ : ByteArray) ++ extw F ++ ⟨#[32]⟩ ++ extw O ++ ⟨#[32]⟩)), (87, .slice (some ⟨s, 0, none⟩) 2 2)]) (fun s w' => (w'.cell? ⟨w.heap.size, 6, none⟩ = some (.int .i64 (F : Int)) ∧ w'.cell? ⟨w.heap.size, 7, none⟩ = some (.int .i64 (O : Int)) ∧ w'.cell? ⟨w.heap.size, 0, none⟩ = some (.int .i64 (R : Int)) ∧ w'.cell? ⟨w.heap.size, 1, none⟩ = some (.int .i64 (C : Int)) ∧ Aside0 (Pl w w' w.heap.size R C d t SS 1 F O)) ∧ Aside0 (Bk w' s 45 [.int .u64 (R : Int), .int .u64 (C : Int)])) ?_ ?_
  rotate_left
  · intro hCont
    refine two_ (i := 2) (j := 20) (Ni := some 69) (Nj := some 87) #[true, true, true, false, false, true, true, false, false, false, true, true, true, true, true, true, true, true, true, true, false, false, false, false] #[true, true, false, false, false, true, true, false, false, false, true, true, true, true, true, true, true, true, true, true, true, false, false, false] rfl rfl rfl rfl (by kernel_rfl) (by decide) (by decide) (fun K hK => ?_) (fun K hK => ?_)
    · skip
      refine goes_ Tryd.func31 (by kernel_rfl) rfl #[.int .i64 (F : Int)] (by rfl) rfl rfl (by simp only [List.map_toArray, List.map_cons, List.map_nil]; rfl) ?_
      with_reducible refine (name_calls F HF.out _).mono ?_
      rintro e w3 ⟨rfl, hb⟩
      refine ⟨_, rfl, ?_⟩
      have nS := hHeld.2.2.2.2.out.below hb
      clear hHeld hb
      refine hK.out _ _ ⟨nS.box.cell 6, nS.box.cell 7, nS.box.cell 0, nS.box.cell 1, ⟨nS⟩⟩ (fun hHeld => ?_)
      clear hK K
      refine norm_ (a' := ?_) ?_ ?_
      rotate_left
      · show Act.put _ (some 69) _ = _
        simp only [Act.put, List.setIfInBounds_toArray, List.set_cons_zero, List.set_cons_succ, i64_w, i32_w]
        rfl
      refine pure_ (i := 3) (N := some 70) (v := ?_) (a' := ?_) #[true, true, true, true, false, true, true, false, false, false, true, true, true, true, true, true, true, true, true, true, false, false, false, false] rfl rfl (by kernel_rfl) (fun _ _ _ h => h) (Or.inl ⟨by rfl, ?_⟩) ?_ ?_
      rotate_left
      · intro w'
        go_simp
        with_reducible rfl
      rotate_left
      · simp only [Act.put, List.setIfInBounds_toArray, List.set_cons_zero, List.set_cons_succ, i64_w, i32_w]
        rfl
      refine pure_ (i := 4) (N := some 71) (v := ?_) (a' := ?_) #[true, true, true, true, true, true, true, false, false, false, true, true, true, true, true, true, true, true, true, true, false, false, false, false] rfl rfl (by kernel_rfl) (fun _ _ _ h => h) (Or.inl ⟨by rfl, ?_⟩) ?_ ?_
      rotate_left
      · intro w'
        go_simp
        with_reducible rfl
      rotate_left
      · simp only [Act.put, List.setIfInBounds_toArray, List.set_cons_zero, List.set_cons_succ, i64_w, i32_w]
        rfl
      refine two_ (i := 7) (j := 20) (Ni := some 74) (Nj := some 87) #[true, true, true, true, true, true, true, true, false, false, true, true, true, true, true, true, true, true, true, true, false, false, false, false] #[true, true, true, true, true, true, true, false, false, false, true, true, true, true, true, true, true, true, true, true, true, false, false, false] rfl rfl rfl rfl (by kernel_rfl) (by decide) (by decide) (fun K hK => ?_) (fun K hK => ?_)
      · skip
        refine goes_ Tryd.func31 (by kernel_rfl) rfl #[.int .i64 (O : Int)] (by rfl) rfl rfl (by simp only [List.map_toArray, List.map_cons, List.map_nil]; rfl) ?_
        with_reducible refine (name_calls O HO.out _).mono ?_
        rintro e w4 ⟨rfl, hb⟩
        refine ⟨_, rfl, ?_⟩
        have nS := hHeld.2.2.2.2.out.below hb
        clear hHeld hb
        refine hK.out _ _ ⟨nS.box.cell 6, nS.box.cell 7, nS.box.cell 0, nS.box.cell 1, ⟨nS⟩⟩ (fun hHeld => ?_)
        clear hK K
        refine norm_ (a' := ?_) ?_ ?_
        rotate_left
        · show Act.put _ (some 74) _ = _
          simp only [Act.put, List.setIfInBounds_toArray, List.set_cons_zero, List.set_cons_succ, i64_w, i32_w]
          rfl
        refine pure_ (i := 8) (N := some 75) (v := ?_) (a' := ?_) #[true, true, true, true, true, true, true, true, true, false, true, true, true, true, true, true, true, true, true, true, false, false, false, false] rfl rfl (by kernel_rfl) (fun _ _ _ h => h) (Or.inl ⟨by rfl, ?_⟩) ?_ ?_
        rotate_left
        · intro w'
          go_simp
          with_reducible rfl
        rotate_left
        · simp only [Act.put, List.setIfInBounds_toArray, List.set_cons_zero, List.set_cons_succ, i64_w, i32_w]
          rfl
        refine pure_ (i := 9) (N := some 76) (v := ?_) (a' := ?_) #[true, true, true, true, true, true, true, true, true, true, true, true, true, true, true, true, true, true, true, true, false, false, false, false] rfl rfl (by kernel_rfl) (fun _ _ _ h => h) (Or.inl ⟨by rfl, ?_⟩) ?_ ?_
        rotate_left
        · intro w'
          go_simp
          with_reducible rfl
        rotate_left
        · simp only [Act.put, List.setIfInBounds_toArray, List.set_cons_zero, List.set_cons_succ, i64_w, i32_w]
          rfl
        refine one_ (i := 20) (N := some 87) #[true, true, true, true, true, true, true, true, true, true, true, true, true, true, true, true, true, true, true, true, true, false, false, false] rfl rfl (by kernel_rfl) (by decide) (fun K hK => ?_)
        refine lit_step (n := 2) (t := 45) (cs := #[.int .u64 (R : Int), .int .u64 (C : Int)]) (by rfl) rfl ?hr ?_
        case hr => first | (go_simp; done) | (go_simp; rfl)
        intro w5 hX hb
        have HX := Aside0.mk hX
        clear hX
        have nS := hHeld.2.2.2.2.out.below hb
        clear hHeld hb
        refine hK.out _ _ ⟨nS.box.cell 6, nS.box.cell 7, nS.box.cell 0, nS.box.cell 1, ⟨nS⟩⟩ (fun hHeld => ?_)
        clear hK K
        refine norm_ (a' := ?_) ?_ ?_
        rotate_left
        · show Act.put _ (some 87) _ = _
          simp only [Act.put, List.setIfInBounds_toArray, List.set_cons_zero, List.set_cons_succ, i64_w, i32_w]
          rfl
        exact norm_ (by first | (simp only [putAll, Act.put, List.setIfInBounds_toArray, List.set_cons_zero, List.set_cons_succ]; done) | (simp only [putAll, Act.put, List.setIfInBounds_toArray, List.set_cons_zero, List.set_cons_succ]; rfl)) (hCont w4.heap.size _ ⟨hHeld, HX⟩)
      · skip
        refine lit_step (n := 2) (t := 45) (cs := #[.int .u64 (R : Int), .int .u64 (C : Int)]) (by rfl) rfl ?hr ?_
        case hr => first | (go_simp; done) | (go_simp; rfl)
        intro w4 hX hb
        have HX := Aside0.mk hX
        clear hX
        have nS := hHeld.2.2.2.2.out.below hb
        clear hHeld hb
        refine hK.out _ _ ⟨nS.box.cell 6, nS.box.cell 7, nS.box.cell 0, nS.box.cell 1, ⟨nS⟩⟩ (fun hHeld => ?_)
        clear hK K
        refine norm_ (a' := ?_) ?_ ?_
        rotate_left
        · show Act.put _ (some 87) _ = _
          simp only [Act.put, List.setIfInBounds_toArray, List.set_cons_zero, List.set_cons_succ, i64_w, i32_w]
          rfl
        refine one_ (i := 7) (N := some 74) #[true, true, true, true, true, true, true, true, false, false, true, true, true, true, true, true, true, true, true, true, true, false, false, false] rfl rfl (by kernel_rfl) (by decide) (fun K hK => ?_)
        refine goes_ Tryd.func31 (by kernel_rfl) rfl #[.int .i64 (O : Int)] (by rfl) rfl rfl (by simp only [List.map_toArray, List.map_cons, List.map_nil]; rfl) ?_
        with_reducible refine (name_calls O HO.out _).mono ?_
        rintro e w5 ⟨rfl, hb⟩
        refine ⟨_, rfl, ?_⟩
        have nX := HX.out.below hb
        clear HX
        have HX := Aside0.mk nX
        clear nX
        have nS := hHeld.2.2.2.2.out.below hb
        clear hHeld hb
        refine hK.out _ _ ⟨nS.box.cell 6, nS.box.cell 7, nS.box.cell 0, nS.box.cell 1, ⟨nS⟩⟩ (fun hHeld => ?_)
        clear hK K
        refine norm_ (a' := ?_) ?_ ?_
        rotate_left
        · show Act.put _ (some 74) _ = _
          simp only [Act.put, List.setIfInBounds_toArray, List.set_cons_zero, List.set_cons_succ, i64_w, i32_w]
          rfl
        refine pure_ (i := 8) (N := some 75) (v := ?_) (a' := ?_) #[true, true, true, true, true, true, true, true, true, false, true, true, true, true, true, true, true, true, true, true, true, false, false, false] rfl rfl (by kernel_rfl) (fun _ _ _ h => h) (Or.inl ⟨by rfl, ?_⟩) ?_ ?_
        rotate_left
        · intro w'
          go_simp
          with_reducible rfl
        rotate_left
        · simp only [Act.put, List.setIfInBounds_toArray, List.set_cons_zero, List.set_cons_succ, i64_w, i32_w]
          rfl
        refine pure_ (i := 9) (N := some 76) (v := ?_) (a' := ?_) #[true, true, true, true, true, true, true, true, true, true, true, true, true, true, true, true, true, true, true, true, true, false, false, false] rfl rfl (by kernel_rfl) (fun _ _ _ h => h) (Or.inl ⟨by rfl, ?_⟩) ?_ ?_
        rotate_left
        · intro w'
          go_simp
          with_reducible rfl
        rotate_left
        · simp only [Act.put, List.setIfInBounds_toArray, List.set_cons_zero, List.set_cons_succ, i64_w, i32_w]
          rfl
        exact norm_ (by first | (simp only [putAll, Act.put, List.setIfInBounds_toArray, List.set_cons_zero, List.set_cons_succ]; done) | (simp only [putAll, Act.put, List.setIfInBounds_toArray, List.set_cons_zero, List.set_cons_succ]; rfl)) (hCont w3.heap.size _ ⟨hHeld, HX⟩)
    · skip
      refine lit_step (n := 2) (t := 45) (cs := #[.int .u64 (R : Int), .int .u64 (C : Int)]) (by rfl) rfl ?hr ?_
      case hr => first | (go_simp; done) | (go_simp; rfl)
      intro w3 hX hb
      have HX := Aside0.mk hX
      clear hX
      have nS := hHeld.2.2.2.2.out.below hb
      clear hHeld hb
      refine hK.out _ _ ⟨nS.box.cell 6, nS.box.cell 7, nS.box.cell 0, nS.box.cell 1, ⟨nS⟩⟩ (fun hHeld => ?_)
      clear hK K
      refine norm_ (a' := ?_) ?_ ?_
      rotate_left
      · show Act.put _ (some 87) _ = _
        simp only [Act.put, List.setIfInBounds_toArray, List.set_cons_zero, List.set_cons_succ, i64_w, i32_w]
        rfl
      refine one_ (i := 2) (N := some 69) #[true, true, true, false, false, true, true, false, false, false, true, true, true, true, true, true, true, true, true, true, true, false, false, false] rfl rfl (by kernel_rfl) (by decide) (fun K hK => ?_)
      refine goes_ Tryd.func31 (by kernel_rfl) rfl #[.int .i64 (F : Int)] (by rfl) rfl rfl (by simp only [List.map_toArray, List.map_cons, List.map_nil]; rfl) ?_
      with_reducible refine (name_calls F HF.out _).mono ?_
      rintro e w4 ⟨rfl, hb⟩
      refine ⟨_, rfl, ?_⟩
      have nX := HX.out.below hb
      clear HX
      have HX := Aside0.mk nX
      clear nX
      have nS := hHeld.2.2.2.2.out.below hb
      clear hHeld hb
      refine hK.out _ _ ⟨nS.box.cell 6, nS.box.cell 7, nS.box.cell 0, nS.box.cell 1, ⟨nS⟩⟩ (fun hHeld => ?_)
      clear hK K
      refine norm_ (a' := ?_) ?_ ?_
      rotate_left
      · show Act.put _ (some 69) _ = _
        simp only [Act.put, List.setIfInBounds_toArray, List.set_cons_zero, List.set_cons_succ, i64_w, i32_w]
        rfl
      refine pure_ (i := 3) (N := some 70) (v := ?_) (a' := ?_) #[true, true, true, true, false, true, true, false, false, false, true, true, true, true, true, true, true, true, true, true, true, false, false, false] rfl rfl (by kernel_rfl) (fun _ _ _ h => h) (Or.inl ⟨by rfl, ?_⟩) ?_ ?_
      rotate_left
      · intro w'
        go_simp
        with_reducible rfl
      rotate_left
      · simp only [Act.put, List.setIfInBounds_toArray, List.set_cons_zero, List.set_cons_succ, i64_w, i32_w]
        rfl
      refine pure_ (i := 4) (N := some 71) (v := ?_) (a' := ?_) #[true, true, true, true, true, true, true, false, false, false, true, true, true, true, true, true, true, true, true, true, true, false, false, false] rfl rfl (by kernel_rfl) (fun _ _ _ h => h) (Or.inl ⟨by rfl, ?_⟩) ?_ ?_
      rotate_left
      · intro w'
        go_simp
        with_reducible rfl
      rotate_left
      · simp only [Act.put, List.setIfInBounds_toArray, List.set_cons_zero, List.set_cons_succ, i64_w, i32_w]
        rfl
      refine one_ (i := 7) (N := some 74) #[true, true, true, true, true, true, true, true, false, false, true, true, true, true, true, true, true, true, true, true, true, false, false, false] rfl rfl (by kernel_rfl) (by decide) (fun K hK => ?_)
      refine goes_ Tryd.func31 (by kernel_rfl) rfl #[.int .i64 (O : Int)] (by rfl) rfl rfl (by simp only [List.map_toArray, List.map_cons, List.map_nil]; rfl) ?_
      with_reducible refine (name_calls O HO.out _).mono ?_
      rintro e w5 ⟨rfl, hb⟩
      refine ⟨_, rfl, ?_⟩
      have nX := HX.out.below hb
      clear HX
      have HX := Aside0.mk nX
      clear nX
      have nS := hHeld.2.2.2.2.out.below hb
      clear hHeld hb
      refine hK.out _ _ ⟨nS.box.cell 6, nS.box.cell 7, nS.box.cell 0, nS.box.cell 1, ⟨nS⟩⟩ (fun hHeld => ?_)
      clear hK K
      refine norm_ (a' := ?_) ?_ ?_
      rotate_left
      · show Act.put _ (some 74) _ = _
        simp only [Act.put, List.setIfInBounds_toArray, List.set_cons_zero, List.set_cons_succ, i64_w, i32_w]
        rfl
      refine pure_ (i := 8) (N := some 75) (v := ?_) (a' := ?_) #[true, true, true, true, true, true, true, true, true, false, true, true, true, true, true, true, true, true, true, true, true, false, false, false] rfl rfl (by kernel_rfl) (fun _ _ _ h => h) (Or.inl ⟨by rfl, ?_⟩) ?_ ?_
      rotate_left
      · intro w'
        go_simp
        with_reducible rfl
      rotate_left
      · simp only [Act.put, List.setIfInBounds_toArray, List.set_cons_zero, List.set_cons_succ, i64_w, i32_w]
        rfl
      refine pure_ (i := 9) (N := some 76) (v := ?_) (a' := ?_) #[true, true, true, true, true, true, true, true, true, true, true, true, true, true, true, true, true, true, true, true, true, false, false, false] rfl rfl (by kernel_rfl) (fun _ _ _ h => h) (Or.inl ⟨by rfl, ?_⟩) ?_ ?_
      rotate_left
      · intro w'
        go_simp
        with_reducible rfl
      rotate_left
      · simp only [Act.put, List.setIfInBounds_toArray, List.set_cons_zero, List.set_cons_succ, i64_w, i32_w]
        rfl
      exact norm_ (by first | (simp only [putAll, Act.put, List.setIfInBounds_toArray, List.set_cons_zero, List.set_cons_succ]; done) | (simp only [putAll, Act.put, List.setIfInBounds_toArray, List.set_cons_zero, List.set_cons_succ]; rfl)) (hCont w2.heap.size _ ⟨hHeld, HX⟩)
  rintro g w5 ⟨hHeld, HX⟩
  refine norm_ (a' := ?_) ?_ ?_
  rotate_left
  · simp only [putAll, Act.put, List.setIfInBounds_toArray, List.set_cons_zero, List.set_cons_succ]
    rfl
  refine one_ (i := 21) (N := some 88) #[true, true, true, true, true, true, true, true, true, true, true, true, true, true, true, true, true, true, true, true, true, true, false, false] rfl rfl (by kernel_rfl) (by decide) (fun K hK => ?_)
  refine goes_ Tryd.func32 (by kernel_rfl) rfl #[.slice (some ⟨g, 0, none⟩) 2 2] (by rfl) rfl rfl (by simp only [List.map_toArray, List.map_cons, List.map_nil]; rfl) ?_
  with_reducible refine (text_calls R C (some ⟨g, 0, none⟩) 2 _ (by have := HR.out; omega) (by have := HC.out; omega) ⟨Rw.whole (rw2 HX.out) (by simp), by simp⟩).mono ?_
  rintro e w6 ⟨rfl, hb⟩
  refine ⟨_, rfl, ?_⟩
  have nS := hHeld.2.2.2.2.out.below hb
  clear hHeld hb
  refine hK.out _ _ ⟨nS.box.cell 6, nS.box.cell 7, nS.box.cell 0, nS.box.cell 1, ⟨nS⟩⟩ (fun hHeld => ?_)
  clear hK K
  refine norm_ (a' := ?_) ?_ ?_
  rotate_left
  · show Act.put _ (some 88) _ = _
    simp only [Act.put, List.setIfInBounds_toArray, List.set_cons_zero, List.set_cons_succ, i64_w, i32_w]
    rfl
  refine pure_ (i := 22) (N := some 89) (v := ?_) (a' := ?_) #[true, true, true, true, true, true, true, true, true, true, true, true, true, true, true, true, true, true, true, true, true, true, true, false] rfl rfl (by kernel_rfl) (fun _ _ _ h => h) (Or.inl ⟨by rfl, ?_⟩) ?_ ?_
  rotate_left
  · intro w'
    go_simp
    with_reducible rfl
  rotate_left
  · simp only [Act.put, List.setIfInBounds_toArray, List.set_cons_zero, List.set_cons_succ, i64_w, i32_w]
    rfl
  refine pure_ (i := 23) (N := some 4) (v := ?_) (a' := ?_) #[true, true, true, true, true, true, true, true, true, true, true, true, true, true, true, true, true, true, true, true, true, true, true, true] rfl rfl (by kernel_rfl) (fun _ _ _ h => h) (Or.inl ⟨by rfl, ?_⟩) ?_ ?_
  rotate_left
  · intro w'
    go_simp
    with_reducible rfl
  rotate_left
  · simp only [Act.put, List.setIfInBounds_toArray, List.set_cons_zero, List.set_cons_succ, i64_w, i32_w]
    rfl
  refine done_ (by kernel_rfl) ?_

  have HP6 := hHeld.2.2.2.2
  clear hHeld
  have u5 := HP6.out.box.cell 5
  go_wp2
  go_ret
  exact ⟨by simp [wantq], HP6.out.be⟩
set_option maxHeartbeats 8000000 in
theorem lines_yesp (R C F O d t SS : Nat) (w : World) (hF : F < 4) (hO : O < 4) (hR : R ≤ 9223372036854775807) (hC : C ≤ 9223372036854775807) (hd : d ≤ 9223372036854775807) (ht : t ≤ 9223372036854775807) (hs : SS < 18446744073709551616) (hT : TabP w) : Calls Tryd.prog 5 #[.agg #[.int .i64 R, .int .i64 C, .int .i64 (d : Int), .int .i64 (t : Int), .int .u64 SS, .int .i64 2, .int .i64 F, .int .i64 O]] w fun e w' => e = .returned (.bool true) ∧ Below w.heap.size w w' := by
  have HP := Aside0.mk (Pl.new R C (d : Int) (t : Int) SS 2 F O hT)
  have HT := Aside0.mk (hT.below (below_alloc (Below.refl w.heap.size w) (Obj.cells #[.int .i64 (R : Int), .int .i64 (C : Int), .int .i64 (d : Int), .int .i64 (t : Int), .int .u64 (SS : Int), .int .i64 2, .int .i64 (F : Int), .int .i64 (O : Int)] 51)))
  have HF := Aside0.mk hF
  have HO := Aside0.mk hO
  have HR := Aside0.mk hR
  have HC := Aside0.mk hC
  have p1 : decide ((F : Int) < 0) = false := decide_eq_false (by omega)
  have p2 : decide (3 < (F : Int)) = false := decide_eq_false (by omega)
  have p3 : decide ((O : Int) < 0) = false := decide_eq_false (by omega)
  have p4 : decide (3 < (O : Int)) = false := decide_eq_false (by omega)
  have a1 : decide ((R : Int) < 0) = false := decide_eq_false (by omega)
  have a2 : decide ((C : Int) < 0) = false := decide_eq_false (by omega)
  have a3 : decide ((d : Int) < 0) = false := decide_eq_false (by omega)
  have a4 : decide ((t : Int) < (-1 : Int)) = false := decide_eq_false (by omega)
  have z1 := extw_size F
  have z2 := extw_size O
  have z3 := dig_le R (by omega)
  have z4 := dig_le C (by omega)
  have z5 := want_size F O R C hR hC
  have e1 := Aside0.mk (u64_nat R hR)
  have e2 := Aside0.mk (u64_nat C hC)
  have HD := Aside0.mk hd
  have HS := Aside0.mk hs
  have HW := Aside0.mk ht
  have z6 := dig_le d (by omega)
  have z7 := dig_le SS hs
  have z8 := dig_le t (by omega)
  have e4 := Aside0.mk (u64_nat t ht)
  have e3 := Aside0.mk (u64_nat d hd)
  clear hT hF hO hR hC hd hs ht
  go_enter Tryd.func5, Tryd.ntmps5
  go_wp2_with fail
  refine (awake_calls _ HT.out).mono ?_
  rintro e w1 ⟨rfl, hb⟩
  have HP1 := Aside0.mk (HP.out.below hb)
  have u0 := HP1.out.box.cell 0
  have u1 := HP1.out.box.cell 1
  have u2 := HP1.out.box.cell 2
  have u3 := HP1.out.box.cell 3
  have u4 := HP1.out.box.cell 4
  have u5 := HP1.out.box.cell 5
  have u6 := HP1.out.box.cell 6
  have u7 := HP1.out.box.cell 7
  clear hb
  go_wp2_with fail
  with_reducible refine (line_rows R C d (t : Int) SS F O _ HF.out HO.out (by have := HR.out; omega) (by have := HC.out; omega) (by have := HD.out; omega) (by have := HW.out; omega) HS.out HP1.out.tab).mono ?_
  rintro e w2 ⟨rfl, hb⟩
  have HP2 := Aside0.mk (HP1.out.below hb)
  clear hb u0 u1 u2 u3 u4 u5 u6 u7
  have u0 := HP2.out.box.cell 0
  have u1 := HP2.out.box.cell 1
  have u2 := HP2.out.box.cell 2
  have u3 := HP2.out.box.cell 3
  have u4 := HP2.out.box.cell 4
  have u5 := HP2.out.box.cell 5
  have u6 := HP2.out.box.cell 6
  have u7 := HP2.out.box.cell 7
  rw [jn_rows]
  obtain ⟨LN, hLN⟩ : ∃ LN, LN = ((⟨#[114, 111, 119, 115]⟩ : ByteArray) ++ wantq F O R C ++ ⟨#[32]⟩ ++ ita d ++ ⟨#[32]⟩ ++ ita (t : Int) ++ ⟨#[32]⟩ ++ dig SS) := ⟨_, rfl⟩
  rw [← hLN]
  have HLN := Aside0.mk hLN
  clear hLN
  go_wp2_with fail
  clear u0 u1 u2 u3 u4 u5 u6 u7 p1 p2 p3 p4 a1 a2 a3 a4
  have e1 := e1.out
  have e2 := e2.out
  have k1 : (9223372036854775807 < 1 + (extw F).size) = False := eq_false (by omega)
  have k2 : (9223372036854775807 < 1 + (extw F).size + 1) = False := eq_false (by omega)
  have k3 : (9223372036854775807 < 1 + (extw F).size + 1 + (extw O).size) = False := eq_false (by omega)
  have k4 : (9223372036854775807 < 1 + (extw F).size + 1 + (extw O).size + 1) = False := eq_false (by omega)
  have k5 : (9223372036854775807 < 1 + (extw F).size + 1 + (extw O).size + 1 + ((dig R).size + 1 + (dig C).size)) = False := eq_false (by omega)
  refine start_ (n := 24) (S := fun w' => w'.cell? ⟨w.heap.size, 6, none⟩ = some (.int .i64 (F : Int)) ∧ w'.cell? ⟨w.heap.size, 7, none⟩ = some (.int .i64 (O : Int)) ∧ w'.cell? ⟨w.heap.size, 0, none⟩ = some (.int .i64 (R : Int)) ∧ w'.cell? ⟨w.heap.size, 1, none⟩ = some (.int .i64 (C : Int)) ∧ Aside0 (Pl w w' w.heap.size R C (d : Int) (t : Int) SS 2 F O)) (ds := []) #[false, false, false, false, false, false, false, false, false, false, false, false, false, false, false, false, false, false, false, false, false, false, false, false] (by kernel_rfl) rfl rfl ⟨HP2.out.drew.box.cell 6, HP2.out.drew.box.cell 7, HP2.out.drew.box.cell 0, HP2.out.drew.box.cell 1, ⟨HP2.out.drew⟩⟩ (fun hHeld => ?_)
  refine pure_ (i := 0) (N := some 67) (v := ?_) (a' := ?_) #[true, false, false, false, false, false, false, false, false, false, false, false, false, false, false, false, false, false, false, false, false, false, false, false] rfl rfl (by kernel_rfl) (fun _ _ _ h => h) (Or.inl ⟨by rfl, ?_⟩) ?_ ?_
  rotate_left
  · intro w'
    go_simp
    with_reducible rfl
  rotate_left
  · simp only [Act.put, List.setIfInBounds_toArray, List.set_cons_zero, List.set_cons_succ, i64_w, i32_w]
    rfl
  refine pure_ (i := 5) (N := some 72) (v := ?_) (a' := ?_) #[true, false, false, false, false, true, false, false, false, false, false, false, false, false, false, false, false, false, false, false, false, false, false, false] rfl rfl (by kernel_rfl) (fun _ _ _ h => h) (Or.inl ⟨by rfl, ?_⟩) ?_ ?_
  rotate_left
  · intro w'
    go_simp
    with_reducible rfl
  rotate_left
  · simp only [Act.put, List.setIfInBounds_toArray, List.set_cons_zero, List.set_cons_succ, i64_w, i32_w]
    rfl
  refine pure_ (i := 10) (N := some 77) (v := ?_) (a' := ?_) #[true, false, false, false, false, true, false, false, false, false, true, false, false, false, false, false, false, false, false, false, false, false, false, false] rfl rfl (by kernel_rfl) (fun _ _ _ h => h) (Or.inl ⟨by rfl, ?_⟩) ?_ ?_
  rotate_left
  · intro w'
    go_simp
    with_reducible rfl
  rotate_left
  · simp only [Act.put, List.setIfInBounds_toArray, List.set_cons_zero, List.set_cons_succ, i64_w, i32_w]
    rfl
  refine pure_ (i := 11) (N := some 78) (v := ?_) (a' := ?_) #[true, false, false, false, false, true, false, false, false, false, true, true, false, false, false, false, false, false, false, false, false, false, false, false] rfl rfl (by kernel_rfl) (fun _ _ _ h => h) (Or.inl ⟨by rfl, ?_⟩) ?_ ?_
  rotate_left
  · intro w'
    go_simp
    with_reducible rfl
  rotate_left
  · simp only [Act.put, List.setIfInBounds_toArray, List.set_cons_zero, List.set_cons_succ, i64_w, i32_w]
    rfl
  refine pure_ (i := 12) (N := some 79) (v := ?_) (a' := ?_) #[true, false, false, false, false, true, false, false, false, false, true, true, true, false, false, false, false, false, false, false, false, false, false, false] rfl rfl (by kernel_rfl) (fun _ _ _ h => h) (Or.inl ⟨by rfl, ?_⟩) ?_ ?_
  rotate_left
  · intro w'
    go_simp
    with_reducible rfl
  rotate_left
  · simp only [Act.put, List.setIfInBounds_toArray, List.set_cons_zero, List.set_cons_succ, i64_w, i32_w]
    rfl
  refine pure_ (i := 15) (N := some 82) (v := ?_) (a' := ?_) #[true, false, false, false, false, true, false, false, false, false, true, true, true, false, false, true, false, false, false, false, false, false, false, false] rfl rfl (by kernel_rfl) (fun _ _ _ h => h) (Or.inl ⟨by rfl, ?_⟩) ?_ ?_
  rotate_left
  · intro w'
    go_simp
    with_reducible rfl
  rotate_left
  · simp only [Act.put, List.setIfInBounds_toArray, List.set_cons_zero, List.set_cons_succ, i64_w, i32_w]
    rfl
  refine pure_ (i := 16) (N := some 83) (v := ?_) (a' := ?_) #[true, false, false, false, false, true, false, false, false, false, true, true, true, false, false, true, true, false, false, false, false, false, false, false] rfl rfl (by kernel_rfl) (fun _ _ _ h => h) (Or.inl ⟨by rfl, ?_⟩) ?_ ?_
  rotate_left
  · intro w'
    go_simp
    with_reducible rfl
  rotate_left
  · simp only [Act.put, List.setIfInBounds_toArray, List.set_cons_zero, List.set_cons_succ, i64_w, i32_w]
    rfl
  refine pure_ (i := 17) (N := some 84) (v := ?_) (a' := ?_) #[true, false, false, false, false, true, false, false, false, false, true, true, true, false, false, true, true, true, false, false, false, false, false, false] rfl rfl (by kernel_rfl) (fun _ _ _ h => h) (Or.inl ⟨by rfl, ?_⟩) ?_ ?_
  rotate_left
  · intro w'
    go_simp
    with_reducible rfl
  rotate_left
  · simp only [Act.put, List.setIfInBounds_toArray, List.set_cons_zero, List.set_cons_succ, i64_w, i32_w]
    rfl
  refine take_ (i := 1) (N := some 68) (v := ?_) (a' := ?_) #[true, true, false, false, false, true, false, false, false, false, true, true, true, false, false, true, true, true, false, false, false, false, false, false] rfl rfl (by kernel_rfl) (fun _ _ _ h => h) (Or.inl ⟨by rfl, ?_⟩) hHeld ?_ ?_
  rotate_left
  · rintro w' ⟨s0, s1, s2, s3, s4⟩
    go_simp
    with_reducible rfl
  rotate_left
  · simp only [Act.put, List.setIfInBounds_toArray, List.set_cons_zero, List.set_cons_succ, i64_w, i32_w]
    rfl
  refine take_ (i := 6) (N := some 73) (v := ?_) (a' := ?_) #[true, true, false, false, false, true, true, false, false, false, true, true, true, false, false, true, true, true, false, false, false, false, false, false] rfl rfl (by kernel_rfl) (fun _ _ _ h => h) (Or.inl ⟨by rfl, ?_⟩) hHeld ?_ ?_
  rotate_left
  · rintro w' ⟨s0, s1, s2, s3, s4⟩
    go_simp
    with_reducible rfl
  rotate_left
  · simp only [Act.put, List.setIfInBounds_toArray, List.set_cons_zero, List.set_cons_succ, i64_w, i32_w]
    rfl
  refine take_ (i := 13) (N := some 80) (v := ?_) (a' := ?_) #[true, true, false, false, false, true, true, false, false, false, true, true, true, true, false, true, true, true, false, false, false, false, false, false] rfl rfl (by kernel_rfl) (fun _ _ _ h => h) (Or.inl ⟨by rfl, ?_⟩) hHeld ?_ ?_
  rotate_left
  · rintro w' ⟨s0, s1, s2, s3, s4⟩
    go_simp
    with_reducible rfl
  rotate_left
  · simp only [Act.put, List.setIfInBounds_toArray, List.set_cons_zero, List.set_cons_succ, i64_w, i32_w]
    rfl
  refine pure_ (i := 14) (N := some 81) (v := ?_) (a' := ?_) #[true, true, false, false, false, true, true, false, false, false, true, true, true, true, true, true, true, true, false, false, false, false, false, false] rfl rfl (by kernel_rfl) (fun _ _ _ h => h) (Or.inl ⟨by rfl, ?_⟩) ?_ ?_
  rotate_left
  · intro w'
    go_simp
    with_reducible rfl
  rotate_left
  · simp only [Act.put, List.setIfInBounds_toArray, List.set_cons_zero, List.set_cons_succ, i64_w, i32_w]
    rfl
  refine take_ (i := 18) (N := some 85) (v := ?_) (a' := ?_) #[true, true, false, false, false, true, true, false, false, false, true, true, true, true, true, true, true, true, true, false, false, false, false, false] rfl rfl (by kernel_rfl) (fun _ _ _ h => h) (Or.inl ⟨by rfl, ?_⟩) hHeld ?_ ?_
  rotate_left
  · rintro w' ⟨s0, s1, s2, s3, s4⟩
    go_simp
    with_reducible rfl
  rotate_left
  · simp only [Act.put, List.setIfInBounds_toArray, List.set_cons_zero, List.set_cons_succ, i64_w, i32_w]
    rfl
  refine pure_ (i := 19) (N := some 86) (v := ?_) (a' := ?_) #[true, true, false, false, false, true, true, false, false, false, true, true, true, true, true, true, true, true, true, true, false, false, false, false] rfl rfl (by kernel_rfl) (fun _ _ _ h => h) (Or.inl ⟨by rfl, ?_⟩) ?_ ?_
  rotate_left
  · intro w'
    go_simp
    with_reducible rfl
  rotate_left
  · simp only [Act.put, List.setIfInBounds_toArray, List.set_cons_zero, List.set_cons_succ, i64_w, i32_w]
    rfl
  refine join_ (σ := Nat) 3 #[true, true, true, true, true, true, true, true, true, true, true, true, true, true, true, true, true, true, true, true, true, false, false, false] (fun s => [(69, .string (extw F)), (70, .string ((⟨#[32]⟩ : ByteArray) ++ extw F)), (71, .string ((⟨#[32]⟩ : ByteArray) ++ extw F ++ ⟨#[32]⟩)), (74, .string (extw O)), (75, .string ((⟨#[32]⟩ : ByteArray) ++ extw F ++ ⟨#[32]⟩ ++ extw O)), (76, .string ((⟨#[32]⟩ : ByteArray) ++ extw F ++ ⟨#[32]⟩ ++ extw O ++ ⟨#[32]⟩)), (87, .slice (some ⟨s, 0, none⟩) 2 2)]) (fun s w' => (w'.cell? ⟨w.heap.size, 6, none⟩ = some (.int .i64 (F : Int)) ∧ w'.cell? ⟨w.heap.size, 7, none⟩ = some (.int .i64 (O : Int)) ∧ w'.cell? ⟨w.heap.size, 0, none⟩ = some (.int .i64 (R : Int)) ∧ w'.cell? ⟨w.heap.size, 1, none⟩ = some (.int .i64 (C : Int)) ∧ Aside0 (Pl w w' w.heap.size R C (d : Int) (t : Int) SS 2 F O)) ∧ Aside0 (Bk w' s 45 [.int .u64 (R : Int), .int .u64 (C : Int)])) ?_ ?_
  rotate_left
  · intro hCont
    refine two_ (i := 2) (j := 20) (Ni := some 69) (Nj := some 87) #[true, true, true, false, false, true, true, false, false, false, true, true, true, true, true, true, true, true, true, true, false, false, false, false] #[true, true, false, false, false, true, true, false, false, false, true, true, true, true, true, true, true, true, true, true, true, false, false, false] rfl rfl rfl rfl (by kernel_rfl) (by decide) (by decide) (fun K hK => ?_) (fun K hK => ?_)
    · skip
      refine goes_ Tryd.func31 (by kernel_rfl) rfl #[.int .i64 (F : Int)] (by rfl) rfl rfl (by simp only [List.map_toArray, List.map_cons, List.map_nil]; rfl) ?_
      with_reducible refine (name_calls F HF.out _).mono ?_
      rintro e w3 ⟨rfl, hb⟩
      refine ⟨_, rfl, ?_⟩
      have nS := hHeld.2.2.2.2.out.below hb
      clear hHeld hb
      refine hK.out _ _ ⟨nS.box.cell 6, nS.box.cell 7, nS.box.cell 0, nS.box.cell 1, ⟨nS⟩⟩ (fun hHeld => ?_)
      clear hK K
      refine norm_ (a' := ?_) ?_ ?_
      rotate_left
      · show Act.put _ (some 69) _ = _
        simp only [Act.put, List.setIfInBounds_toArray, List.set_cons_zero, List.set_cons_succ, i64_w, i32_w]
        rfl
      refine pure_ (i := 3) (N := some 70) (v := ?_) (a' := ?_) #[true, true, true, true, false, true, true, false, false, false, true, true, true, true, true, true, true, true, true, true, false, false, false, false] rfl rfl (by kernel_rfl) (fun _ _ _ h => h) (Or.inl ⟨by rfl, ?_⟩) ?_ ?_
      rotate_left
      · intro w'
        go_simp
        with_reducible rfl
      rotate_left
      · simp only [Act.put, List.setIfInBounds_toArray, List.set_cons_zero, List.set_cons_succ, i64_w, i32_w]
        rfl
      refine pure_ (i := 4) (N := some 71) (v := ?_) (a' := ?_) #[true, true, true, true, true, true, true, false, false, false, true, true, true, true, true, true, true, true, true, true, false, false, false, false] rfl rfl (by kernel_rfl) (fun _ _ _ h => h) (Or.inl ⟨by rfl, ?_⟩) ?_ ?_
      rotate_left
      · intro w'
        go_simp
        with_reducible rfl
      rotate_left
      · simp only [Act.put, List.setIfInBounds_toArray, List.set_cons_zero, List.set_cons_succ, i64_w, i32_w]
        rfl
      refine two_ (i := 7) (j := 20) (Ni := some 74) (Nj := some 87) #[true, true, true, true, true, true, true, true, false, false, true, true, true, true, true, true, true, true, true, true, false, false, false, false] #[true, true, true, true, true, true, true, false, false, false, true, true, true, true, true, true, true, true, true, true, true, false, false, false] rfl rfl rfl rfl (by kernel_rfl) (by decide) (by decide) (fun K hK => ?_) (fun K hK => ?_)
      · skip
        refine goes_ Tryd.func31 (by kernel_rfl) rfl #[.int .i64 (O : Int)] (by rfl) rfl rfl (by simp only [List.map_toArray, List.map_cons, List.map_nil]; rfl) ?_
        with_reducible refine (name_calls O HO.out _).mono ?_
        rintro e w4 ⟨rfl, hb⟩
        refine ⟨_, rfl, ?_⟩
        have nS := hHeld.2.2.2.2.out.below hb
        clear hHeld hb
        refine hK.out _ _ ⟨nS.box.cell 6, nS.box.cell 7, nS.box.cell 0, nS.box.cell 1, ⟨nS⟩⟩ (fun hHeld => ?_)
        clear hK K
        refine norm_ (a' := ?_) ?_ ?_
        rotate_left
        · show Act.put _ (some 74) _ = _
          simp only [Act.put, List.setIfInBounds_toArray, List.set_cons_zero, List.set_cons_succ, i64_w, i32_w]
          rfl
        refine pure_ (i := 8) (N := some 75) (v := ?_) (a' := ?_) #[true, true, true, true, true, true, true, true, true, false, true, true, true, true, true, true, true, true, true, true, false, false, false, false] rfl rfl (by kernel_rfl) (fun _ _ _ h => h) (Or.inl ⟨by rfl, ?_⟩) ?_ ?_
        rotate_left
        · intro w'
          go_simp
          with_reducible rfl
        rotate_left
        · simp only [Act.put, List.setIfInBounds_toArray, List.set_cons_zero, List.set_cons_succ, i64_w, i32_w]
          rfl
        refine pure_ (i := 9) (N := some 76) (v := ?_) (a' := ?_) #[true, true, true, true, true, true, true, true, true, true, true, true, true, true, true, true, true, true, true, true, false, false, false, false] rfl rfl (by kernel_rfl) (fun _ _ _ h => h) (Or.inl ⟨by rfl, ?_⟩) ?_ ?_
        rotate_left
        · intro w'
          go_simp
          with_reducible rfl
        rotate_left
        · simp only [Act.put, List.setIfInBounds_toArray, List.set_cons_zero, List.set_cons_succ, i64_w, i32_w]
          rfl
        refine one_ (i := 20) (N := some 87) #[true, true, true, true, true, true, true, true, true, true, true, true, true, true, true, true, true, true, true, true, true, false, false, false] rfl rfl (by kernel_rfl) (by decide) (fun K hK => ?_)
        refine lit_step (n := 2) (t := 45) (cs := #[.int .u64 (R : Int), .int .u64 (C : Int)]) (by rfl) rfl ?hr ?_
        case hr => first | (go_simp; done) | (go_simp; rfl)
        intro w5 hX hb
        have HX := Aside0.mk hX
        clear hX
        have nS := hHeld.2.2.2.2.out.below hb
        clear hHeld hb
        refine hK.out _ _ ⟨nS.box.cell 6, nS.box.cell 7, nS.box.cell 0, nS.box.cell 1, ⟨nS⟩⟩ (fun hHeld => ?_)
        clear hK K
        refine norm_ (a' := ?_) ?_ ?_
        rotate_left
        · show Act.put _ (some 87) _ = _
          simp only [Act.put, List.setIfInBounds_toArray, List.set_cons_zero, List.set_cons_succ, i64_w, i32_w]
          rfl
        exact norm_ (by first | (simp only [putAll, Act.put, List.setIfInBounds_toArray, List.set_cons_zero, List.set_cons_succ]; done) | (simp only [putAll, Act.put, List.setIfInBounds_toArray, List.set_cons_zero, List.set_cons_succ]; rfl)) (hCont w4.heap.size _ ⟨hHeld, HX⟩)
      · skip
        refine lit_step (n := 2) (t := 45) (cs := #[.int .u64 (R : Int), .int .u64 (C : Int)]) (by rfl) rfl ?hr ?_
        case hr => first | (go_simp; done) | (go_simp; rfl)
        intro w4 hX hb
        have HX := Aside0.mk hX
        clear hX
        have nS := hHeld.2.2.2.2.out.below hb
        clear hHeld hb
        refine hK.out _ _ ⟨nS.box.cell 6, nS.box.cell 7, nS.box.cell 0, nS.box.cell 1, ⟨nS⟩⟩ (fun hHeld => ?_)
        clear hK K
        refine norm_ (a' := ?_) ?_ ?_
        rotate_left
        · show Act.put _ (some 87) _ = _
          simp only [Act.put, List.setIfInBounds_toArray, List.set_cons_zero, List.set_cons_succ, i64_w, i32_w]
          rfl
        refine one_ (i := 7) (N := some 74) #[true, true, true, true, true, true, true, true, false, false, true, true, true, true, true, true, true, true, true, true, true, false, false, false] rfl rfl (by kernel_rfl) (by decide) (fun K hK => ?_)
        refine goes_ Tryd.func31 (by kernel_rfl) rfl #[.int .i64 (O : Int)] (by rfl) rfl rfl (by simp only [List.map_toArray, List.map_cons, List.map_nil]; rfl) ?_
        with_reducible refine (name_calls O HO.out _).mono ?_
        rintro e w5 ⟨rfl, hb⟩
        refine ⟨_, rfl, ?_⟩
        have nX := HX.out.below hb
        clear HX
        have HX := Aside0.mk nX
        clear nX
        have nS := hHeld.2.2.2.2.out.below hb
        clear hHeld hb
        refine hK.out _ _ ⟨nS.box.cell 6, nS.box.cell 7, nS.box.cell 0, nS.box.cell 1, ⟨nS⟩⟩ (fun hHeld => ?_)
        clear hK K
        refine norm_ (a' := ?_) ?_ ?_
        rotate_left
        · show Act.put _ (some 74) _ = _
          simp only [Act.put, List.setIfInBounds_toArray, List.set_cons_zero, List.set_cons_succ, i64_w, i32_w]
          rfl
        refine pure_ (i := 8) (N := some 75) (v := ?_) (a' := ?_) #[true, true, true, true, true, true, true, true, true, false, true, true, true, true, true, true, true, true, true, true, true, false, false, false] rfl rfl (by kernel_rfl) (fun _ _ _ h => h) (Or.inl ⟨by rfl, ?_⟩) ?_ ?_
        rotate_left
        · intro w'
          go_simp
          with_reducible rfl
        rotate_left
        · simp only [Act.put, List.setIfInBounds_toArray, List.set_cons_zero, List.set_cons_succ, i64_w, i32_w]
          rfl
        refine pure_ (i := 9) (N := some 76) (v := ?_) (a' := ?_) #[true, true, true, true, true, true, true, true, true, true, true, true, true, true, true, true, true, true, true, true, true, false, false, false] rfl rfl (by kernel_rfl) (fun _ _ _ h => h) (Or.inl ⟨by rfl, ?_⟩) ?_ ?_
        rotate_left
        · intro w'
          go_simp
          with_reducible rfl
        rotate_left
        · simp only [Act.put, List.setIfInBounds_toArray, List.set_cons_zero, List.set_cons_succ, i64_w, i32_w]
          rfl
        exact norm_ (by first | (simp only [putAll, Act.put, List.setIfInBounds_toArray, List.set_cons_zero, List.set_cons_succ]; done) | (simp only [putAll, Act.put, List.setIfInBounds_toArray, List.set_cons_zero, List.set_cons_succ]; rfl)) (hCont w3.heap.size _ ⟨hHeld, HX⟩)
    · skip
      refine lit_step (n := 2) (t := 45) (cs := #[.int .u64 (R : Int), .int .u64 (C : Int)]) (by rfl) rfl ?hr ?_
      case hr => first | (go_simp; done) | (go_simp; rfl)
      intro w3 hX hb
      have HX := Aside0.mk hX
      clear hX
      have nS := hHeld.2.2.2.2.out.below hb
      clear hHeld hb
      refine hK.out _ _ ⟨nS.box.cell 6, nS.box.cell 7, nS.box.cell 0, nS.box.cell 1, ⟨nS⟩⟩ (fun hHeld => ?_)
      clear hK K
      refine norm_ (a' := ?_) ?_ ?_
      rotate_left
      · show Act.put _ (some 87) _ = _
        simp only [Act.put, List.setIfInBounds_toArray, List.set_cons_zero, List.set_cons_succ, i64_w, i32_w]
        rfl
      refine one_ (i := 2) (N := some 69) #[true, true, true, false, false, true, true, false, false, false, true, true, true, true, true, true, true, true, true, true, true, false, false, false] rfl rfl (by kernel_rfl) (by decide) (fun K hK => ?_)
      refine goes_ Tryd.func31 (by kernel_rfl) rfl #[.int .i64 (F : Int)] (by rfl) rfl rfl (by simp only [List.map_toArray, List.map_cons, List.map_nil]; rfl) ?_
      with_reducible refine (name_calls F HF.out _).mono ?_
      rintro e w4 ⟨rfl, hb⟩
      refine ⟨_, rfl, ?_⟩
      have nX := HX.out.below hb
      clear HX
      have HX := Aside0.mk nX
      clear nX
      have nS := hHeld.2.2.2.2.out.below hb
      clear hHeld hb
      refine hK.out _ _ ⟨nS.box.cell 6, nS.box.cell 7, nS.box.cell 0, nS.box.cell 1, ⟨nS⟩⟩ (fun hHeld => ?_)
      clear hK K
      refine norm_ (a' := ?_) ?_ ?_
      rotate_left
      · show Act.put _ (some 69) _ = _
        simp only [Act.put, List.setIfInBounds_toArray, List.set_cons_zero, List.set_cons_succ, i64_w, i32_w]
        rfl
      refine pure_ (i := 3) (N := some 70) (v := ?_) (a' := ?_) #[true, true, true, true, false, true, true, false, false, false, true, true, true, true, true, true, true, true, true, true, true, false, false, false] rfl rfl (by kernel_rfl) (fun _ _ _ h => h) (Or.inl ⟨by rfl, ?_⟩) ?_ ?_
      rotate_left
      · intro w'
        go_simp
        with_reducible rfl
      rotate_left
      · simp only [Act.put, List.setIfInBounds_toArray, List.set_cons_zero, List.set_cons_succ, i64_w, i32_w]
        rfl
      refine pure_ (i := 4) (N := some 71) (v := ?_) (a' := ?_) #[true, true, true, true, true, true, true, false, false, false, true, true, true, true, true, true, true, true, true, true, true, false, false, false] rfl rfl (by kernel_rfl) (fun _ _ _ h => h) (Or.inl ⟨by rfl, ?_⟩) ?_ ?_
      rotate_left
      · intro w'
        go_simp
        with_reducible rfl
      rotate_left
      · simp only [Act.put, List.setIfInBounds_toArray, List.set_cons_zero, List.set_cons_succ, i64_w, i32_w]
        rfl
      refine one_ (i := 7) (N := some 74) #[true, true, true, true, true, true, true, true, false, false, true, true, true, true, true, true, true, true, true, true, true, false, false, false] rfl rfl (by kernel_rfl) (by decide) (fun K hK => ?_)
      refine goes_ Tryd.func31 (by kernel_rfl) rfl #[.int .i64 (O : Int)] (by rfl) rfl rfl (by simp only [List.map_toArray, List.map_cons, List.map_nil]; rfl) ?_
      with_reducible refine (name_calls O HO.out _).mono ?_
      rintro e w5 ⟨rfl, hb⟩
      refine ⟨_, rfl, ?_⟩
      have nX := HX.out.below hb
      clear HX
      have HX := Aside0.mk nX
      clear nX
      have nS := hHeld.2.2.2.2.out.below hb
      clear hHeld hb
      refine hK.out _ _ ⟨nS.box.cell 6, nS.box.cell 7, nS.box.cell 0, nS.box.cell 1, ⟨nS⟩⟩ (fun hHeld => ?_)
      clear hK K
      refine norm_ (a' := ?_) ?_ ?_
      rotate_left
      · show Act.put _ (some 74) _ = _
        simp only [Act.put, List.setIfInBounds_toArray, List.set_cons_zero, List.set_cons_succ, i64_w, i32_w]
        rfl
      refine pure_ (i := 8) (N := some 75) (v := ?_) (a' := ?_) #[true, true, true, true, true, true, true, true, true, false, true, true, true, true, true, true, true, true, true, true, true, false, false, false] rfl rfl (by kernel_rfl) (fun _ _ _ h => h) (Or.inl ⟨by rfl, ?_⟩) ?_ ?_
      rotate_left
      · intro w'
        go_simp
        with_reducible rfl
      rotate_left
      · simp only [Act.put, List.setIfInBounds_toArray, List.set_cons_zero, List.set_cons_succ, i64_w, i32_w]
        rfl
      refine pure_ (i := 9) (N := some 76) (v := ?_) (a' := ?_) #[true, true, true, true, true, true, true, true, true, true, true, true, true, true, true, true, true, true, true, true, true, false, false, false] rfl rfl (by kernel_rfl) (fun _ _ _ h => h) (Or.inl ⟨by rfl, ?_⟩) ?_ ?_
      rotate_left
      · intro w'
        go_simp
        with_reducible rfl
      rotate_left
      · simp only [Act.put, List.setIfInBounds_toArray, List.set_cons_zero, List.set_cons_succ, i64_w, i32_w]
        rfl
      exact norm_ (by first | (simp only [putAll, Act.put, List.setIfInBounds_toArray, List.set_cons_zero, List.set_cons_succ]; done) | (simp only [putAll, Act.put, List.setIfInBounds_toArray, List.set_cons_zero, List.set_cons_succ]; rfl)) (hCont w2.heap.size _ ⟨hHeld, HX⟩)
  rintro g w5 ⟨hHeld, HX⟩
  refine norm_ (a' := ?_) ?_ ?_
  rotate_left
  · simp only [putAll, Act.put, List.setIfInBounds_toArray, List.set_cons_zero, List.set_cons_succ]
    rfl
  refine one_ (i := 21) (N := some 88) #[true, true, true, true, true, true, true, true, true, true, true, true, true, true, true, true, true, true, true, true, true, true, false, false] rfl rfl (by kernel_rfl) (by decide) (fun K hK => ?_)
  refine goes_ Tryd.func32 (by kernel_rfl) rfl #[.slice (some ⟨g, 0, none⟩) 2 2] (by rfl) rfl rfl (by simp only [List.map_toArray, List.map_cons, List.map_nil]; rfl) ?_
  with_reducible refine (text_calls R C (some ⟨g, 0, none⟩) 2 _ (by have := HR.out; omega) (by have := HC.out; omega) ⟨Rw.whole (rw2 HX.out) (by simp), by simp⟩).mono ?_
  rintro e w6 ⟨rfl, hb⟩
  refine ⟨_, rfl, ?_⟩
  have nS := hHeld.2.2.2.2.out.below hb
  clear hHeld hb
  refine hK.out _ _ ⟨nS.box.cell 6, nS.box.cell 7, nS.box.cell 0, nS.box.cell 1, ⟨nS⟩⟩ (fun hHeld => ?_)
  clear hK K
  refine norm_ (a' := ?_) ?_ ?_
  rotate_left
  · show Act.put _ (some 88) _ = _
    simp only [Act.put, List.setIfInBounds_toArray, List.set_cons_zero, List.set_cons_succ, i64_w, i32_w]
    rfl
  refine pure_ (i := 22) (N := some 89) (v := ?_) (a' := ?_) #[true, true, true, true, true, true, true, true, true, true, true, true, true, true, true, true, true, true, true, true, true, true, true, false] rfl rfl (by kernel_rfl) (fun _ _ _ h => h) (Or.inl ⟨by rfl, ?_⟩) ?_ ?_
  rotate_left
  · intro w'
    go_simp
    with_reducible rfl
  rotate_left
  · simp only [Act.put, List.setIfInBounds_toArray, List.set_cons_zero, List.set_cons_succ, i64_w, i32_w]
    rfl
  refine pure_ (i := 23) (N := some 4) (v := ?_) (a' := ?_) #[true, true, true, true, true, true, true, true, true, true, true, true, true, true, true, true, true, true, true, true, true, true, true, true] rfl rfl (by kernel_rfl) (fun _ _ _ h => h) (Or.inl ⟨by rfl, ?_⟩) ?_ ?_
  rotate_left
  · intro w'
    go_simp
    with_reducible rfl
  rotate_left
  · simp only [Act.put, List.setIfInBounds_toArray, List.set_cons_zero, List.set_cons_succ, i64_w, i32_w]
    rfl
  refine done_ (by kernel_rfl) ?_

  have HP6 := hHeld.2.2.2.2
  clear hHeld
  obtain ⟨W, hW⟩ : ∃ W, W = wantq F O R C := ⟨_, rfl⟩
  have hW2 : ((⟨#[32]⟩ : ByteArray) ++ extw F ++ ⟨#[32]⟩ ++ extw O ++ ⟨#[32]⟩ ++ (dig R ++ ⟨#[32]⟩ ++ dig C)) = W := hW.symm
  rw [hW2]
  rw [← hW] at z5
  have HW2 := Aside0.mk hW
  clear k1 k2 k3 k4 k5 hW hW2 e1 e2 z1 z2 z3 z4
  have u5 := HP6.out.box.cell 5
  have u3 := HP6.out.box.cell 3
  have d4 : decide ((0 : Int) ≤ (t : Int)) = true := decide_eq_true (by omega)
  obtain ⟨n1, h1⟩ := (digits_is t (by have := HW.out; omega)).rounds
  have H1 := Aside0.mk h1
  have e4 := e4.out
  clear h1
  go_wp2_with fail
  with_reducible refine (abacistref04_Digits.calls n1 (t : Int) (dig t) _ H1.out).mono ?_
  rintro e w7 ⟨rfl, hb⟩
  have HP7 := Aside0.mk (HP6.out.below hb)
  clear hb u3 u5 d4 HP6 e4
  obtain ⟨T, hT⟩ : ∃ T, T = dig t := ⟨_, rfl⟩
  rw [← hT] at z8 ⊢
  have HTW := Aside0.mk (show ita (t : Int) = T by rw [ita_dig, hT])
  clear hT
  go_wp2_with fail
  obtain ⟨n2, h2⟩ := (digits_is d (by have := HD.out; omega)).rounds
  obtain ⟨n3, h3⟩ := (digits_is SS HS.out).rounds
  have H2 := Aside0.mk h2
  have H3 := Aside0.mk h3
  have e3 := e3.out
  clear h2 h3
  have k1 : (9223372036854775807 < 4 + W.size) = False := eq_false (by omega)
  have k2 : (9223372036854775807 < 4 + W.size + 1) = False := eq_false (by omega)
  have k3 : (9223372036854775807 < 4 + W.size + 1 + (dig d).size) = False := eq_false (by omega)
  have k4 : (9223372036854775807 < 4 + W.size + 1 + (dig d).size + 1) = False := eq_false (by omega)
  have k5 : (9223372036854775807 < 4 + W.size + 1 + (dig d).size + 1 + T.size) = False := eq_false (by omega)
  have k6 : (9223372036854775807 < 4 + W.size + 1 + (dig d).size + 1 + T.size + 1) = False := eq_false (by omega)
  have k7 : (9223372036854775807 < 4 + W.size + 1 + (dig d).size + 1 + T.size + 1 + (dig SS).size) = False := eq_false (by omega)
  refine start_ (n := 21) (S := fun w' => w'.cell? ⟨w.heap.size, 2, none⟩ = some (.int .i64 (d : Int)) ∧ w'.cell? ⟨w.heap.size, 4, none⟩ = some (.int .u64 (SS : Int)) ∧ Aside0 (Pl w w' w.heap.size R C (d : Int) (t : Int) SS 2 F O)) (ds := []) #[false, false, false, false, false, false, false, false, false, false, false, false, false, false, false, false, false, false, false, false, false] (by kernel_rfl) rfl rfl ⟨HP7.out.drew.box.cell 2, HP7.out.drew.box.cell 4, ⟨HP7.out.drew⟩⟩ (fun hHeld => ?_)
  refine pure_ (i := 0) (N := some 106) (v := ?_) (a' := ?_) #[true, false, false, false, false, false, false, false, false, false, false, false, false, false, false, false, false, false, false, false, false] rfl rfl (by kernel_rfl) (fun _ _ _ h => h) (Or.inl ⟨by rfl, ?_⟩) ?_ ?_
  rotate_left
  · intro w'
    go_simp
    with_reducible rfl
  rotate_left
  · simp only [Act.put, List.setIfInBounds_toArray, List.set_cons_zero, List.set_cons_succ, i64_w, i32_w]
    rfl
  refine pure_ (i := 1) (N := some 107) (v := ?_) (a' := ?_) #[true, true, false, false, false, false, false, false, false, false, false, false, false, false, false, false, false, false, false, false, false] rfl rfl (by kernel_rfl) (fun _ _ _ h => h) (Or.inl ⟨by rfl, ?_⟩) ?_ ?_
  rotate_left
  · intro w'
    go_simp
    with_reducible rfl
  rotate_left
  · simp only [Act.put, List.setIfInBounds_toArray, List.set_cons_zero, List.set_cons_succ, i64_w, i32_w]
    rfl
  refine pure_ (i := 2) (N := some 108) (v := ?_) (a' := ?_) #[true, true, true, false, false, false, false, false, false, false, false, false, false, false, false, false, false, false, false, false, false] rfl rfl (by kernel_rfl) (fun _ _ _ h => h) (Or.inl ⟨by rfl, ?_⟩) ?_ ?_
  rotate_left
  · intro w'
    go_simp
    with_reducible rfl
  rotate_left
  · simp only [Act.put, List.setIfInBounds_toArray, List.set_cons_zero, List.set_cons_succ, i64_w, i32_w]
    rfl
  refine pure_ (i := 3) (N := some 109) (v := ?_) (a' := ?_) #[true, true, true, true, false, false, false, false, false, false, false, false, false, false, false, false, false, false, false, false, false] rfl rfl (by kernel_rfl) (fun _ _ _ h => h) (Or.inl ⟨by rfl, ?_⟩) ?_ ?_
  rotate_left
  · intro w'
    go_simp
    with_reducible rfl
  rotate_left
  · simp only [Act.put, List.setIfInBounds_toArray, List.set_cons_zero, List.set_cons_succ, i64_w, i32_w]
    rfl
  refine pure_ (i := 4) (N := some 110) (v := ?_) (a' := ?_) #[true, true, true, true, true, false, false, false, false, false, false, false, false, false, false, false, false, false, false, false, false] rfl rfl (by kernel_rfl) (fun _ _ _ h => h) (Or.inl ⟨by rfl, ?_⟩) ?_ ?_
  rotate_left
  · intro w'
    go_simp
    with_reducible rfl
  rotate_left
  · simp only [Act.put, List.setIfInBounds_toArray, List.set_cons_zero, List.set_cons_succ, i64_w, i32_w]
    rfl
  refine pure_ (i := 5) (N := some 111) (v := ?_) (a' := ?_) #[true, true, true, true, true, true, false, false, false, false, false, false, false, false, false, false, false, false, false, false, false] rfl rfl (by kernel_rfl) (fun _ _ _ h => h) (Or.inl ⟨by rfl, ?_⟩) ?_ ?_
  rotate_left
  · intro w'
    go_simp
    with_reducible rfl
  rotate_left
  · simp only [Act.put, List.setIfInBounds_toArray, List.set_cons_zero, List.set_cons_succ, i64_w, i32_w]
    rfl
  refine pure_ (i := 11) (N := some 117) (v := ?_) (a' := ?_) #[true, true, true, true, true, true, false, false, false, false, false, true, false, false, false, false, false, false, false, false, false] rfl rfl (by kernel_rfl) (fun _ _ _ h => h) (Or.inl ⟨by rfl, ?_⟩) ?_ ?_
  rotate_left
  · intro w'
    go_simp
    with_reducible rfl
  rotate_left
  · simp only [Act.put, List.setIfInBounds_toArray, List.set_cons_zero, List.set_cons_succ, i64_w, i32_w]
    rfl
  refine pure_ (i := 14) (N := some 120) (v := ?_) (a' := ?_) #[true, true, true, true, true, true, false, false, false, false, false, true, false, false, true, false, false, false, false, false, false] rfl rfl (by kernel_rfl) (fun _ _ _ h => h) (Or.inl ⟨by rfl, ?_⟩) ?_ ?_
  rotate_left
  · intro w'
    go_simp
    with_reducible rfl
  rotate_left
  · simp only [Act.put, List.setIfInBounds_toArray, List.set_cons_zero, List.set_cons_succ, i64_w, i32_w]
    rfl
  refine pure_ (i := 15) (N := some 121) (v := ?_) (a' := ?_) #[true, true, true, true, true, true, false, false, false, false, false, true, false, false, true, true, false, false, false, false, false] rfl rfl (by kernel_rfl) (fun _ _ _ h => h) (Or.inl ⟨by rfl, ?_⟩) ?_ ?_
  rotate_left
  · intro w'
    go_simp
    with_reducible rfl
  rotate_left
  · simp only [Act.put, List.setIfInBounds_toArray, List.set_cons_zero, List.set_cons_succ, i64_w, i32_w]
    rfl
  refine take_ (i := 6) (N := some 112) (v := ?_) (a' := ?_) #[true, true, true, true, true, true, true, false, false, false, false, true, false, false, true, true, false, false, false, false, false] rfl rfl (by kernel_rfl) (fun _ _ _ h => h) (Or.inl ⟨by rfl, ?_⟩) hHeld ?_ ?_
  rotate_left
  · rintro w' ⟨s0, s1, s2⟩
    go_simp
    with_reducible rfl
  rotate_left
  · simp only [Act.put, List.setIfInBounds_toArray, List.set_cons_zero, List.set_cons_succ, i64_w, i32_w]
    rfl
  refine pure_ (i := 7) (N := some 113) (v := ?_) (a' := ?_) #[true, true, true, true, true, true, true, true, false, false, false, true, false, false, true, true, false, false, false, false, false] rfl rfl (by kernel_rfl) (fun _ _ _ h => h) (Or.inl ⟨by rfl, ?_⟩) ?_ ?_
  rotate_left
  · intro w'
    go_simp
    with_reducible rfl
  rotate_left
  · simp only [Act.put, List.setIfInBounds_toArray, List.set_cons_zero, List.set_cons_succ, i64_w, i32_w]
    rfl
  refine take_ (i := 16) (N := some 122) (v := ?_) (a' := ?_) #[true, true, true, true, true, true, true, true, false, false, false, true, false, false, true, true, true, false, false, false, false] rfl rfl (by kernel_rfl) (fun _ _ _ h => h) (Or.inl ⟨by rfl, ?_⟩) hHeld ?_ ?_
  rotate_left
  · rintro w' ⟨s0, s1, s2⟩
    go_simp
    with_reducible rfl
  rotate_left
  · simp only [Act.put, List.setIfInBounds_toArray, List.set_cons_zero, List.set_cons_succ, i64_w, i32_w]
    rfl
  refine one_ (i := 8) (N := some 114) #[true, true, true, true, true, true, true, true, true, false, false, true, false, false, true, true, true, false, false, false, false] rfl rfl (by kernel_rfl) (by decide) (fun K hK => ?_)
  refine goes_ Tryd.func33 (by kernel_rfl) rfl #[.int .u64 (d : Int)] (by rfl) rfl rfl (by simp only [List.map_toArray, List.map_cons, List.map_nil]; rfl) ?_
  with_reducible refine (abacistref04_Digits.calls n2 (d : Int) (dig d) _ H2.out).mono ?_
  rintro e w8 ⟨rfl, hb⟩
  refine ⟨_, rfl, ?_⟩
  have nS := hHeld.2.2.out.below hb
  clear hHeld hb
  refine hK.out _ _ ⟨nS.box.cell 2, nS.box.cell 4, ⟨nS⟩⟩ (fun hHeld => ?_)
  clear hK K
  refine norm_ (a' := ?_) ?_ ?_
  rotate_left
  · show Act.put _ (some 114) _ = _
    simp only [Act.put, List.setIfInBounds_toArray, List.set_cons_zero, List.set_cons_succ, i64_w, i32_w]
    rfl
  refine pure_ (i := 9) (N := some 115) (v := ?_) (a' := ?_) #[true, true, true, true, true, true, true, true, true, true, false, true, false, false, true, true, true, false, false, false, false] rfl rfl (by kernel_rfl) (fun _ _ _ h => h) (Or.inl ⟨by rfl, ?_⟩) ?_ ?_
  rotate_left
  · intro w'
    go_simp
    with_reducible rfl
  rotate_left
  · simp only [Act.put, List.setIfInBounds_toArray, List.set_cons_zero, List.set_cons_succ, i64_w, i32_w]
    rfl
  refine pure_ (i := 10) (N := some 116) (v := ?_) (a' := ?_) #[true, true, true, true, true, true, true, true, true, true, true, true, false, false, true, true, true, false, false, false, false] rfl rfl (by kernel_rfl) (fun _ _ _ h => h) (Or.inl ⟨by rfl, ?_⟩) ?_ ?_
  rotate_left
  · intro w'
    go_simp
    with_reducible rfl
  rotate_left
  · simp only [Act.put, List.setIfInBounds_toArray, List.set_cons_zero, List.set_cons_succ, i64_w, i32_w]
    rfl
  refine pure_ (i := 12) (N := some 118) (v := ?_) (a' := ?_) #[true, true, true, true, true, true, true, true, true, true, true, true, true, false, true, true, true, false, false, false, false] rfl rfl (by kernel_rfl) (fun _ _ _ h => h) (Or.inl ⟨by rfl, ?_⟩) ?_ ?_
  rotate_left
  · intro w'
    go_simp
    with_reducible rfl
  rotate_left
  · simp only [Act.put, List.setIfInBounds_toArray, List.set_cons_zero, List.set_cons_succ, i64_w, i32_w]
    rfl
  refine pure_ (i := 13) (N := some 119) (v := ?_) (a' := ?_) #[true, true, true, true, true, true, true, true, true, true, true, true, true, true, true, true, true, false, false, false, false] rfl rfl (by kernel_rfl) (fun _ _ _ h => h) (Or.inl ⟨by rfl, ?_⟩) ?_ ?_
  rotate_left
  · intro w'
    go_simp
    with_reducible rfl
  rotate_left
  · simp only [Act.put, List.setIfInBounds_toArray, List.set_cons_zero, List.set_cons_succ, i64_w, i32_w]
    rfl
  refine one_ (i := 17) (N := some 123) #[true, true, true, true, true, true, true, true, true, true, true, true, true, true, true, true, true, true, false, false, false] rfl rfl (by kernel_rfl) (by decide) (fun K hK => ?_)
  refine goes_ Tryd.func33 (by kernel_rfl) rfl #[.int .u64 (SS : Int)] (by rfl) rfl rfl (by simp only [List.map_toArray, List.map_cons, List.map_nil]; rfl) ?_
  with_reducible refine (abacistref04_Digits.calls n3 (SS : Int) (dig SS) _ H3.out).mono ?_
  rintro e w9 ⟨rfl, hb⟩
  refine ⟨_, rfl, ?_⟩
  have nS := hHeld.2.2.out.below hb
  clear hHeld hb
  refine hK.out _ _ ⟨nS.box.cell 2, nS.box.cell 4, ⟨nS⟩⟩ (fun hHeld => ?_)
  clear hK K
  refine norm_ (a' := ?_) ?_ ?_
  rotate_left
  · show Act.put _ (some 123) _ = _
    simp only [Act.put, List.setIfInBounds_toArray, List.set_cons_zero, List.set_cons_succ, i64_w, i32_w]
    rfl
  refine pure_ (i := 18) (N := some 124) (v := ?_) (a' := ?_) #[true, true, true, true, true, true, true, true, true, true, true, true, true, true, true, true, true, true, true, false, false] rfl rfl (by kernel_rfl) (fun _ _ _ h => h) (Or.inl ⟨by rfl, ?_⟩) ?_ ?_
  rotate_left
  · intro w'
    go_simp
    with_reducible rfl
  rotate_left
  · simp only [Act.put, List.setIfInBounds_toArray, List.set_cons_zero, List.set_cons_succ, i64_w, i32_w]
    rfl
  refine pure_ (i := 19) (N := some 125) (v := ?_) (a' := ?_) #[true, true, true, true, true, true, true, true, true, true, true, true, true, true, true, true, true, true, true, true, false] rfl rfl (by kernel_rfl) (fun _ _ _ h => h) (Or.inl ⟨by rfl, ?_⟩) ?_ ?_
  rotate_left
  · intro w'
    go_simp
    with_reducible rfl
  rotate_left
  · simp only [Act.put, List.setIfInBounds_toArray, List.set_cons_zero, List.set_cons_succ, i64_w, i32_w]
    rfl
  refine pure_ (i := 20) (N := some 2) (v := ?_) (a' := ?_) #[true, true, true, true, true, true, true, true, true, true, true, true, true, true, true, true, true, true, true, true, true] rfl rfl (by kernel_rfl) (fun _ _ _ h => h) (Or.inl ⟨by rfl, ?_⟩) ?_ ?_
  rotate_left
  · intro w'
    go_simp
    with_reducible rfl
  rotate_left
  · simp only [Act.put, List.setIfInBounds_toArray, List.set_cons_zero, List.set_cons_succ, i64_w, i32_w]
    rfl
  refine done_ (by kernel_rfl) ?_

  have HP9 := hHeld.2.2
  clear hHeld
  go_wp2
  go_ret
  exact ⟨by rw [HLN.out, HTW.out, ita_dig, ← HW2.out]; simp, HP9.out.be⟩
set_option maxHeartbeats 8000000 in
theorem lines_yesm (R C F O d SS : Nat) (w : World) (hF : F < 4) (hO : O < 4) (hR : R ≤ 9223372036854775807) (hC : C ≤ 9223372036854775807) (hd : d ≤ 9223372036854775807) (hs : SS < 18446744073709551616) (hT : TabP w) : Calls Tryd.prog 5 #[.agg #[.int .i64 R, .int .i64 C, .int .i64 (d : Int), .int .i64 (-1), .int .u64 SS, .int .i64 2, .int .i64 F, .int .i64 O]] w fun e w' => e = .returned (.bool true) ∧ Below w.heap.size w w' := by
  have HP := Aside0.mk (Pl.new R C (d : Int) (-1) SS 2 F O hT)
  have HT := Aside0.mk (hT.below (below_alloc (Below.refl w.heap.size w) (Obj.cells #[.int .i64 (R : Int), .int .i64 (C : Int), .int .i64 (d : Int), .int .i64 (-1), .int .u64 (SS : Int), .int .i64 2, .int .i64 (F : Int), .int .i64 (O : Int)] 51)))
  have HF := Aside0.mk hF
  have HO := Aside0.mk hO
  have HR := Aside0.mk hR
  have HC := Aside0.mk hC
  have p1 : decide ((F : Int) < 0) = false := decide_eq_false (by omega)
  have p2 : decide (3 < (F : Int)) = false := decide_eq_false (by omega)
  have p3 : decide ((O : Int) < 0) = false := decide_eq_false (by omega)
  have p4 : decide (3 < (O : Int)) = false := decide_eq_false (by omega)
  have a1 : decide ((R : Int) < 0) = false := decide_eq_false (by omega)
  have a2 : decide ((C : Int) < 0) = false := decide_eq_false (by omega)
  have a3 : decide ((d : Int) < 0) = false := decide_eq_false (by omega)
  have a4 : decide ((-1) < (-1 : Int)) = false := decide_eq_false (by omega)
  have z1 := extw_size F
  have z2 := extw_size O
  have z3 := dig_le R (by omega)
  have z4 := dig_le C (by omega)
  have z5 := want_size F O R C hR hC
  have e1 := Aside0.mk (u64_nat R hR)
  have e2 := Aside0.mk (u64_nat C hC)
  have HD := Aside0.mk hd
  have HS := Aside0.mk hs
  have z6 := dig_le d (by omega)
  have z7 := dig_le SS hs
  have e3 := Aside0.mk (u64_nat d hd)
  clear hT hF hO hR hC hd hs
  go_enter Tryd.func5, Tryd.ntmps5
  go_wp2_with fail
  refine (awake_calls _ HT.out).mono ?_
  rintro e w1 ⟨rfl, hb⟩
  have HP1 := Aside0.mk (HP.out.below hb)
  have u0 := HP1.out.box.cell 0
  have u1 := HP1.out.box.cell 1
  have u2 := HP1.out.box.cell 2
  have u3 := HP1.out.box.cell 3
  have u4 := HP1.out.box.cell 4
  have u5 := HP1.out.box.cell 5
  have u6 := HP1.out.box.cell 6
  have u7 := HP1.out.box.cell 7
  clear hb
  go_wp2_with fail
  with_reducible refine (line_rows R C d (-1) SS F O _ HF.out HO.out (by have := HR.out; omega) (by have := HC.out; omega) (by have := HD.out; omega) (by decide) HS.out HP1.out.tab).mono ?_
  rintro e w2 ⟨rfl, hb⟩
  have HP2 := Aside0.mk (HP1.out.below hb)
  clear hb u0 u1 u2 u3 u4 u5 u6 u7
  have u0 := HP2.out.box.cell 0
  have u1 := HP2.out.box.cell 1
  have u2 := HP2.out.box.cell 2
  have u3 := HP2.out.box.cell 3
  have u4 := HP2.out.box.cell 4
  have u5 := HP2.out.box.cell 5
  have u6 := HP2.out.box.cell 6
  have u7 := HP2.out.box.cell 7
  rw [jn_rows]
  obtain ⟨LN, hLN⟩ : ∃ LN, LN = ((⟨#[114, 111, 119, 115]⟩ : ByteArray) ++ wantq F O R C ++ ⟨#[32]⟩ ++ ita d ++ ⟨#[32]⟩ ++ ita (-1) ++ ⟨#[32]⟩ ++ dig SS) := ⟨_, rfl⟩
  rw [← hLN]
  have HLN := Aside0.mk hLN
  clear hLN
  go_wp2_with fail
  clear u0 u1 u2 u3 u4 u5 u6 u7 p1 p2 p3 p4 a1 a2 a3 a4
  have e1 := e1.out
  have e2 := e2.out
  have k1 : (9223372036854775807 < 1 + (extw F).size) = False := eq_false (by omega)
  have k2 : (9223372036854775807 < 1 + (extw F).size + 1) = False := eq_false (by omega)
  have k3 : (9223372036854775807 < 1 + (extw F).size + 1 + (extw O).size) = False := eq_false (by omega)
  have k4 : (9223372036854775807 < 1 + (extw F).size + 1 + (extw O).size + 1) = False := eq_false (by omega)
  have k5 : (9223372036854775807 < 1 + (extw F).size + 1 + (extw O).size + 1 + ((dig R).size + 1 + (dig C).size)) = False := eq_false (by omega)
  refine start_ (n := 24) (S := fun w' => w'.cell? ⟨w.heap.size, 6, none⟩ = some (.int .i64 (F : Int)) ∧ w'.cell? ⟨w.heap.size, 7, none⟩ = some (.int .i64 (O : Int)) ∧ w'.cell? ⟨w.heap.size, 0, none⟩ = some (.int .i64 (R : Int)) ∧ w'.cell? ⟨w.heap.size, 1, none⟩ = some (.int .i64 (C : Int)) ∧ Aside0 (Pl w w' w.heap.size R C (d : Int) (-1) SS 2 F O)) (ds := []) #[false, false, false, false, false, false, false, false, false, false, false, false, false, false, false, false, false, false, false, false, false, false, false, false] (by kernel_rfl) rfl rfl ⟨HP2.out.drew.box.cell 6, HP2.out.drew.box.cell 7, HP2.out.drew.box.cell 0, HP2.out.drew.box.cell 1, ⟨HP2.out.drew⟩⟩ (fun hHeld => ?_)
  refine pure_ (i := 0) (N := some 67) (v := ?_) (a' := ?_) #[true, false, false, false, false, false, false, false, false, false, false, false, false, false, false, false, false, false, false, false, false, false, false, false] rfl rfl (by kernel_rfl) (fun _ _ _ h => h) (Or.inl ⟨by rfl, ?_⟩) ?_ ?_
  rotate_left
  · intro w'
    go_simp
    with_reducible rfl
  rotate_left
  · simp only [Act.put, List.setIfInBounds_toArray, List.set_cons_zero, List.set_cons_succ, i64_w, i32_w]
    rfl
  refine pure_ (i := 5) (N := some 72) (v := ?_) (a' := ?_) #[true, false, false, false, false, true, false, false, false, false, false, false, false, false, false, false, false, false, false, false, false, false, false, false] rfl rfl (by kernel_rfl) (fun _ _ _ h => h) (Or.inl ⟨by rfl, ?_⟩) ?_ ?_
  rotate_left
  · intro w'
    go_simp
    with_reducible rfl
  rotate_left
  · simp only [Act.put, List.setIfInBounds_toArray, List.set_cons_zero, List.set_cons_succ, i64_w, i32_w]
    rfl
  refine pure_ (i := 10) (N := some 77) (v := ?_) (a' := ?_) #[true, false, false, false, false, true, false, false, false, false, true, false, false, false, false, false, false, false, false, false, false, false, false, false] rfl rfl (by kernel_rfl) (fun _ _ _ h => h) (Or.inl ⟨by rfl, ?_⟩) ?_ ?_
  rotate_left
  · intro w'
    go_simp
    with_reducible rfl
  rotate_left
  · simp only [Act.put, List.setIfInBounds_toArray, List.set_cons_zero, List.set_cons_succ, i64_w, i32_w]
    rfl
  refine pure_ (i := 11) (N := some 78) (v := ?_) (a' := ?_) #[true, false, false, false, false, true, false, false, false, false, true, true, false, false, false, false, false, false, false, false, false, false, false, false] rfl rfl (by kernel_rfl) (fun _ _ _ h => h) (Or.inl ⟨by rfl, ?_⟩) ?_ ?_
  rotate_left
  · intro w'
    go_simp
    with_reducible rfl
  rotate_left
  · simp only [Act.put, List.setIfInBounds_toArray, List.set_cons_zero, List.set_cons_succ, i64_w, i32_w]
    rfl
  refine pure_ (i := 12) (N := some 79) (v := ?_) (a' := ?_) #[true, false, false, false, false, true, false, false, false, false, true, true, true, false, false, false, false, false, false, false, false, false, false, false] rfl rfl (by kernel_rfl) (fun _ _ _ h => h) (Or.inl ⟨by rfl, ?_⟩) ?_ ?_
  rotate_left
  · intro w'
    go_simp
    with_reducible rfl
  rotate_left
  · simp only [Act.put, List.setIfInBounds_toArray, List.set_cons_zero, List.set_cons_succ, i64_w, i32_w]
    rfl
  refine pure_ (i := 15) (N := some 82) (v := ?_) (a' := ?_) #[true, false, false, false, false, true, false, false, false, false, true, true, true, false, false, true, false, false, false, false, false, false, false, false] rfl rfl (by kernel_rfl) (fun _ _ _ h => h) (Or.inl ⟨by rfl, ?_⟩) ?_ ?_
  rotate_left
  · intro w'
    go_simp
    with_reducible rfl
  rotate_left
  · simp only [Act.put, List.setIfInBounds_toArray, List.set_cons_zero, List.set_cons_succ, i64_w, i32_w]
    rfl
  refine pure_ (i := 16) (N := some 83) (v := ?_) (a' := ?_) #[true, false, false, false, false, true, false, false, false, false, true, true, true, false, false, true, true, false, false, false, false, false, false, false] rfl rfl (by kernel_rfl) (fun _ _ _ h => h) (Or.inl ⟨by rfl, ?_⟩) ?_ ?_
  rotate_left
  · intro w'
    go_simp
    with_reducible rfl
  rotate_left
  · simp only [Act.put, List.setIfInBounds_toArray, List.set_cons_zero, List.set_cons_succ, i64_w, i32_w]
    rfl
  refine pure_ (i := 17) (N := some 84) (v := ?_) (a' := ?_) #[true, false, false, false, false, true, false, false, false, false, true, true, true, false, false, true, true, true, false, false, false, false, false, false] rfl rfl (by kernel_rfl) (fun _ _ _ h => h) (Or.inl ⟨by rfl, ?_⟩) ?_ ?_
  rotate_left
  · intro w'
    go_simp
    with_reducible rfl
  rotate_left
  · simp only [Act.put, List.setIfInBounds_toArray, List.set_cons_zero, List.set_cons_succ, i64_w, i32_w]
    rfl
  refine take_ (i := 1) (N := some 68) (v := ?_) (a' := ?_) #[true, true, false, false, false, true, false, false, false, false, true, true, true, false, false, true, true, true, false, false, false, false, false, false] rfl rfl (by kernel_rfl) (fun _ _ _ h => h) (Or.inl ⟨by rfl, ?_⟩) hHeld ?_ ?_
  rotate_left
  · rintro w' ⟨s0, s1, s2, s3, s4⟩
    go_simp
    with_reducible rfl
  rotate_left
  · simp only [Act.put, List.setIfInBounds_toArray, List.set_cons_zero, List.set_cons_succ, i64_w, i32_w]
    rfl
  refine take_ (i := 6) (N := some 73) (v := ?_) (a' := ?_) #[true, true, false, false, false, true, true, false, false, false, true, true, true, false, false, true, true, true, false, false, false, false, false, false] rfl rfl (by kernel_rfl) (fun _ _ _ h => h) (Or.inl ⟨by rfl, ?_⟩) hHeld ?_ ?_
  rotate_left
  · rintro w' ⟨s0, s1, s2, s3, s4⟩
    go_simp
    with_reducible rfl
  rotate_left
  · simp only [Act.put, List.setIfInBounds_toArray, List.set_cons_zero, List.set_cons_succ, i64_w, i32_w]
    rfl
  refine take_ (i := 13) (N := some 80) (v := ?_) (a' := ?_) #[true, true, false, false, false, true, true, false, false, false, true, true, true, true, false, true, true, true, false, false, false, false, false, false] rfl rfl (by kernel_rfl) (fun _ _ _ h => h) (Or.inl ⟨by rfl, ?_⟩) hHeld ?_ ?_
  rotate_left
  · rintro w' ⟨s0, s1, s2, s3, s4⟩
    go_simp
    with_reducible rfl
  rotate_left
  · simp only [Act.put, List.setIfInBounds_toArray, List.set_cons_zero, List.set_cons_succ, i64_w, i32_w]
    rfl
  refine pure_ (i := 14) (N := some 81) (v := ?_) (a' := ?_) #[true, true, false, false, false, true, true, false, false, false, true, true, true, true, true, true, true, true, false, false, false, false, false, false] rfl rfl (by kernel_rfl) (fun _ _ _ h => h) (Or.inl ⟨by rfl, ?_⟩) ?_ ?_
  rotate_left
  · intro w'
    go_simp
    with_reducible rfl
  rotate_left
  · simp only [Act.put, List.setIfInBounds_toArray, List.set_cons_zero, List.set_cons_succ, i64_w, i32_w]
    rfl
  refine take_ (i := 18) (N := some 85) (v := ?_) (a' := ?_) #[true, true, false, false, false, true, true, false, false, false, true, true, true, true, true, true, true, true, true, false, false, false, false, false] rfl rfl (by kernel_rfl) (fun _ _ _ h => h) (Or.inl ⟨by rfl, ?_⟩) hHeld ?_ ?_
  rotate_left
  · rintro w' ⟨s0, s1, s2, s3, s4⟩
    go_simp
    with_reducible rfl
  rotate_left
  · simp only [Act.put, List.setIfInBounds_toArray, List.set_cons_zero, List.set_cons_succ, i64_w, i32_w]
    rfl
  refine pure_ (i := 19) (N := some 86) (v := ?_) (a' := ?_) #[true, true, false, false, false, true, true, false, false, false, true, true, true, true, true, true, true, true, true, true, false, false, false, false] rfl rfl (by kernel_rfl) (fun _ _ _ h => h) (Or.inl ⟨by rfl, ?_⟩) ?_ ?_
  rotate_left
  · intro w'
    go_simp
    with_reducible rfl
  rotate_left
  · simp only [Act.put, List.setIfInBounds_toArray, List.set_cons_zero, List.set_cons_succ, i64_w, i32_w]
    rfl
  refine join_ (σ := Nat) 3 #[true, true, true, true, true, true, true, true, true, true, true, true, true, true, true, true, true, true, true, true, true, false, false, false] (fun s => [(69, .string (extw F)), (70, .string ((⟨#[32]⟩ : ByteArray) ++ extw F)), (71, .string ((⟨#[32]⟩ : ByteArray) ++ extw F ++ ⟨#[32]⟩)), (74, .string (extw O)), (75, .string ((⟨#[32]⟩ : ByteArray) ++ extw F ++ ⟨#[32]⟩ ++ extw O)), (76, .string ((⟨#[32]⟩ : ByteArray) ++ extw F ++ ⟨#[32]⟩ ++ extw O ++ ⟨#[32]⟩)), (87, .slice (some ⟨s, 0, none⟩) 2 2)]) (fun s w' => (w'.cell? ⟨w.heap.size, 6, none⟩ = some (.int .i64 (F : Int)) ∧ w'.cell? ⟨w.heap.size, 7, none⟩ = some (.int .i64 (O : Int)) ∧ w'.cell? ⟨w.heap.size, 0, none⟩ = some (.int .i64 (R : Int)) ∧ w'.cell? ⟨w.heap.size, 1, none⟩ = some (.int .i64 (C : Int)) ∧ Aside0 (Pl w w' w.heap.size R C (d : Int) (-1) SS 2 F O)) ∧ Aside0 (Bk w' s 45 [.int .u64 (R : Int), .int .u64 (C : Int)])) ?_ ?_
  rotate_left
  · intro hCont
    refine two_ (i := 2) (j := 20) (Ni := some 69) (Nj := some 87) #[true, true, true, false, false, true, true, false, false, false, true, true, true, true, true, true, true, true, true, true, false, false, false, false] #[true, true, false, false, false, true, true, false, false, false, true, true, true, true, true, true, true, true, true, true, true, false, false, false] rfl rfl rfl rfl (by kernel_rfl) (by decide) (by decide) (fun K hK => ?_) (fun K hK => ?_)
    · skip
      refine goes_ Tryd.func31 (by kernel_rfl) rfl #[.int .i64 (F : Int)] (by rfl) rfl rfl (by simp only [List.map_toArray, List.map_cons, List.map_nil]; rfl) ?_
      with_reducible refine (name_calls F HF.out _).mono ?_
      rintro e w3 ⟨rfl, hb⟩
      refine ⟨_, rfl, ?_⟩
      have nS := hHeld.2.2.2.2.out.below hb
      clear hHeld hb
      refine hK.out _ _ ⟨nS.box.cell 6, nS.box.cell 7, nS.box.cell 0, nS.box.cell 1, ⟨nS⟩⟩ (fun hHeld => ?_)
      clear hK K
      refine norm_ (a' := ?_) ?_ ?_
      rotate_left
      · show Act.put _ (some 69) _ = _
        simp only [Act.put, List.setIfInBounds_toArray, List.set_cons_zero, List.set_cons_succ, i64_w, i32_w]
        rfl
      refine pure_ (i := 3) (N := some 70) (v := ?_) (a' := ?_) #[true, true, true, true, false, true, true, false, false, false, true, true, true, true, true, true, true, true, true, true, false, false, false, false] rfl rfl (by kernel_rfl) (fun _ _ _ h => h) (Or.inl ⟨by rfl, ?_⟩) ?_ ?_
      rotate_left
      · intro w'
        go_simp
        with_reducible rfl
      rotate_left
      · simp only [Act.put, List.setIfInBounds_toArray, List.set_cons_zero, List.set_cons_succ, i64_w, i32_w]
        rfl
      refine pure_ (i := 4) (N := some 71) (v := ?_) (a' := ?_) #[true, true, true, true, true, true, true, false, false, false, true, true, true, true, true, true, true, true, true, true, false, false, false, false] rfl rfl (by kernel_rfl) (fun _ _ _ h => h) (Or.inl ⟨by rfl, ?_⟩) ?_ ?_
      rotate_left
      · intro w'
        go_simp
        with_reducible rfl
      rotate_left
      · simp only [Act.put, List.setIfInBounds_toArray, List.set_cons_zero, List.set_cons_succ, i64_w, i32_w]
        rfl
      refine two_ (i := 7) (j := 20) (Ni := some 74) (Nj := some 87) #[true, true, true, true, true, true, true, true, false, false, true, true, true, true, true, true, true, true, true, true, false, false, false, false] #[true, true, true, true, true, true, true, false, false, false, true, true, true, true, true, true, true, true, true, true, true, false, false, false] rfl rfl rfl rfl (by kernel_rfl) (by decide) (by decide) (fun K hK => ?_) (fun K hK => ?_)
      · skip
        refine goes_ Tryd.func31 (by kernel_rfl) rfl #[.int .i64 (O : Int)] (by rfl) rfl rfl (by simp only [List.map_toArray, List.map_cons, List.map_nil]; rfl) ?_
        with_reducible refine (name_calls O HO.out _).mono ?_
        rintro e w4 ⟨rfl, hb⟩
        refine ⟨_, rfl, ?_⟩
        have nS := hHeld.2.2.2.2.out.below hb
        clear hHeld hb
        refine hK.out _ _ ⟨nS.box.cell 6, nS.box.cell 7, nS.box.cell 0, nS.box.cell 1, ⟨nS⟩⟩ (fun hHeld => ?_)
        clear hK K
        refine norm_ (a' := ?_) ?_ ?_
        rotate_left
        · show Act.put _ (some 74) _ = _
          simp only [Act.put, List.setIfInBounds_toArray, List.set_cons_zero, List.set_cons_succ, i64_w, i32_w]
          rfl
        refine pure_ (i := 8) (N := some 75) (v := ?_) (a' := ?_) #[true, true, true, true, true, true, true, true, true, false, true, true, true, true, true, true, true, true, true, true, false, false, false, false] rfl rfl (by kernel_rfl) (fun _ _ _ h => h) (Or.inl ⟨by rfl, ?_⟩) ?_ ?_
        rotate_left
        · intro w'
          go_simp
          with_reducible rfl
        rotate_left
        · simp only [Act.put, List.setIfInBounds_toArray, List.set_cons_zero, List.set_cons_succ, i64_w, i32_w]
          rfl
        refine pure_ (i := 9) (N := some 76) (v := ?_) (a' := ?_) #[true, true, true, true, true, true, true, true, true, true, true, true, true, true, true, true, true, true, true, true, false, false, false, false] rfl rfl (by kernel_rfl) (fun _ _ _ h => h) (Or.inl ⟨by rfl, ?_⟩) ?_ ?_
        rotate_left
        · intro w'
          go_simp
          with_reducible rfl
        rotate_left
        · simp only [Act.put, List.setIfInBounds_toArray, List.set_cons_zero, List.set_cons_succ, i64_w, i32_w]
          rfl
        refine one_ (i := 20) (N := some 87) #[true, true, true, true, true, true, true, true, true, true, true, true, true, true, true, true, true, true, true, true, true, false, false, false] rfl rfl (by kernel_rfl) (by decide) (fun K hK => ?_)
        refine lit_step (n := 2) (t := 45) (cs := #[.int .u64 (R : Int), .int .u64 (C : Int)]) (by rfl) rfl ?hr ?_
        case hr => first | (go_simp; done) | (go_simp; rfl)
        intro w5 hX hb
        have HX := Aside0.mk hX
        clear hX
        have nS := hHeld.2.2.2.2.out.below hb
        clear hHeld hb
        refine hK.out _ _ ⟨nS.box.cell 6, nS.box.cell 7, nS.box.cell 0, nS.box.cell 1, ⟨nS⟩⟩ (fun hHeld => ?_)
        clear hK K
        refine norm_ (a' := ?_) ?_ ?_
        rotate_left
        · show Act.put _ (some 87) _ = _
          simp only [Act.put, List.setIfInBounds_toArray, List.set_cons_zero, List.set_cons_succ, i64_w, i32_w]
          rfl
        exact norm_ (by first | (simp only [putAll, Act.put, List.setIfInBounds_toArray, List.set_cons_zero, List.set_cons_succ]; done) | (simp only [putAll, Act.put, List.setIfInBounds_toArray, List.set_cons_zero, List.set_cons_succ]; rfl)) (hCont w4.heap.size _ ⟨hHeld, HX⟩)
      · skip
        refine lit_step (n := 2) (t := 45) (cs := #[.int .u64 (R : Int), .int .u64 (C : Int)]) (by rfl) rfl ?hr ?_
        case hr => first | (go_simp; done) | (go_simp; rfl)
        intro w4 hX hb
        have HX := Aside0.mk hX
        clear hX
        have nS := hHeld.2.2.2.2.out.below hb
        clear hHeld hb
        refine hK.out _ _ ⟨nS.box.cell 6, nS.box.cell 7, nS.box.cell 0, nS.box.cell 1, ⟨nS⟩⟩ (fun hHeld => ?_)
        clear hK K
        refine norm_ (a' := ?_) ?_ ?_
        rotate_left
        · show Act.put _ (some 87) _ = _
          simp only [Act.put, List.setIfInBounds_toArray, List.set_cons_zero, List.set_cons_succ, i64_w, i32_w]
          rfl
        refine one_ (i := 7) (N := some 74) #[true, true, true, true, true, true, true, true, false, false, true, true, true, true, true, true, true, true, true, true, true, false, false, false] rfl rfl (by kernel_rfl) (by decide) (fun K hK => ?_)
        refine goes_ Tryd.func31 (by kernel_rfl) rfl #[.int .i64 (O : Int)] (by rfl) rfl rfl (by simp only [List.map_toArray, List.map_cons, List.map_nil]; rfl) ?_
        with_reducible refine (name_calls O HO.out _).mono ?_
        rintro e w5 ⟨rfl, hb⟩
        refine ⟨_, rfl, ?_⟩
        have nX := HX.out.below hb
        clear HX
        have HX := Aside0.mk nX
        clear nX
        have nS := hHeld.2.2.2.2.out.below hb
        clear hHeld hb
        refine hK.out _ _ ⟨nS.box.cell 6, nS.box.cell 7, nS.box.cell 0, nS.box.cell 1, ⟨nS⟩⟩ (fun hHeld => ?_)
        clear hK K
        refine norm_ (a' := ?_) ?_ ?_
        rotate_left
        · show Act.put _ (some 74) _ = _
          simp only [Act.put, List.setIfInBounds_toArray, List.set_cons_zero, List.set_cons_succ, i64_w, i32_w]
          rfl
        refine pure_ (i := 8) (N := some 75) (v := ?_) (a' := ?_) #[true, true, true, true, true, true, true, true, true, false, true, true, true, true, true, true, true, true, true, true, true, false, false, false] rfl rfl (by kernel_rfl) (fun _ _ _ h => h) (Or.inl ⟨by rfl, ?_⟩) ?_ ?_
        rotate_left
        · intro w'
          go_simp
          with_reducible rfl
        rotate_left
        · simp only [Act.put, List.setIfInBounds_toArray, List.set_cons_zero, List.set_cons_succ, i64_w, i32_w]
          rfl
        refine pure_ (i := 9) (N := some 76) (v := ?_) (a' := ?_) #[true, true, true, true, true, true, true, true, true, true, true, true, true, true, true, true, true, true, true, true, true, false, false, false] rfl rfl (by kernel_rfl) (fun _ _ _ h => h) (Or.inl ⟨by rfl, ?_⟩) ?_ ?_
        rotate_left
        · intro w'
          go_simp
          with_reducible rfl
        rotate_left
        · simp only [Act.put, List.setIfInBounds_toArray, List.set_cons_zero, List.set_cons_succ, i64_w, i32_w]
          rfl
        exact norm_ (by first | (simp only [putAll, Act.put, List.setIfInBounds_toArray, List.set_cons_zero, List.set_cons_succ]; done) | (simp only [putAll, Act.put, List.setIfInBounds_toArray, List.set_cons_zero, List.set_cons_succ]; rfl)) (hCont w3.heap.size _ ⟨hHeld, HX⟩)
    · skip
      refine lit_step (n := 2) (t := 45) (cs := #[.int .u64 (R : Int), .int .u64 (C : Int)]) (by rfl) rfl ?hr ?_
      case hr => first | (go_simp; done) | (go_simp; rfl)
      intro w3 hX hb
      have HX := Aside0.mk hX
      clear hX
      have nS := hHeld.2.2.2.2.out.below hb
      clear hHeld hb
      refine hK.out _ _ ⟨nS.box.cell 6, nS.box.cell 7, nS.box.cell 0, nS.box.cell 1, ⟨nS⟩⟩ (fun hHeld => ?_)
      clear hK K
      refine norm_ (a' := ?_) ?_ ?_
      rotate_left
      · show Act.put _ (some 87) _ = _
        simp only [Act.put, List.setIfInBounds_toArray, List.set_cons_zero, List.set_cons_succ, i64_w, i32_w]
        rfl
      refine one_ (i := 2) (N := some 69) #[true, true, true, false, false, true, true, false, false, false, true, true, true, true, true, true, true, true, true, true, true, false, false, false] rfl rfl (by kernel_rfl) (by decide) (fun K hK => ?_)
      refine goes_ Tryd.func31 (by kernel_rfl) rfl #[.int .i64 (F : Int)] (by rfl) rfl rfl (by simp only [List.map_toArray, List.map_cons, List.map_nil]; rfl) ?_
      with_reducible refine (name_calls F HF.out _).mono ?_
      rintro e w4 ⟨rfl, hb⟩
      refine ⟨_, rfl, ?_⟩
      have nX := HX.out.below hb
      clear HX
      have HX := Aside0.mk nX
      clear nX
      have nS := hHeld.2.2.2.2.out.below hb
      clear hHeld hb
      refine hK.out _ _ ⟨nS.box.cell 6, nS.box.cell 7, nS.box.cell 0, nS.box.cell 1, ⟨nS⟩⟩ (fun hHeld => ?_)
      clear hK K
      refine norm_ (a' := ?_) ?_ ?_
      rotate_left
      · show Act.put _ (some 69) _ = _
        simp only [Act.put, List.setIfInBounds_toArray, List.set_cons_zero, List.set_cons_succ, i64_w, i32_w]
        rfl
      refine pure_ (i := 3) (N := some 70) (v := ?_) (a' := ?_) #[true, true, true, true, false, true, true, false, false, false, true, true, true, true, true, true, true, true, true, true, true, false, false, false] rfl rfl (by kernel_rfl) (fun _ _ _ h => h) (Or.inl ⟨by rfl, ?_⟩) ?_ ?_
      rotate_left
      · intro w'
        go_simp
        with_reducible rfl
      rotate_left
      · simp only [Act.put, List.setIfInBounds_toArray, List.set_cons_zero, List.set_cons_succ, i64_w, i32_w]
        rfl
      refine pure_ (i := 4) (N := some 71) (v := ?_) (a' := ?_) #[true, true, true, true, true, true, true, false, false, false, true, true, true, true, true, true, true, true, true, true, true, false, false, false] rfl rfl (by kernel_rfl) (fun _ _ _ h => h) (Or.inl ⟨by rfl, ?_⟩) ?_ ?_
      rotate_left
      · intro w'
        go_simp
        with_reducible rfl
      rotate_left
      · simp only [Act.put, List.setIfInBounds_toArray, List.set_cons_zero, List.set_cons_succ, i64_w, i32_w]
        rfl
      refine one_ (i := 7) (N := some 74) #[true, true, true, true, true, true, true, true, false, false, true, true, true, true, true, true, true, true, true, true, true, false, false, false] rfl rfl (by kernel_rfl) (by decide) (fun K hK => ?_)
      refine goes_ Tryd.func31 (by kernel_rfl) rfl #[.int .i64 (O : Int)] (by rfl) rfl rfl (by simp only [List.map_toArray, List.map_cons, List.map_nil]; rfl) ?_
      with_reducible refine (name_calls O HO.out _).mono ?_
      rintro e w5 ⟨rfl, hb⟩
      refine ⟨_, rfl, ?_⟩
      have nX := HX.out.below hb
      clear HX
      have HX := Aside0.mk nX
      clear nX
      have nS := hHeld.2.2.2.2.out.below hb
      clear hHeld hb
      refine hK.out _ _ ⟨nS.box.cell 6, nS.box.cell 7, nS.box.cell 0, nS.box.cell 1, ⟨nS⟩⟩ (fun hHeld => ?_)
      clear hK K
      refine norm_ (a' := ?_) ?_ ?_
      rotate_left
      · show Act.put _ (some 74) _ = _
        simp only [Act.put, List.setIfInBounds_toArray, List.set_cons_zero, List.set_cons_succ, i64_w, i32_w]
        rfl
      refine pure_ (i := 8) (N := some 75) (v := ?_) (a' := ?_) #[true, true, true, true, true, true, true, true, true, false, true, true, true, true, true, true, true, true, true, true, true, false, false, false] rfl rfl (by kernel_rfl) (fun _ _ _ h => h) (Or.inl ⟨by rfl, ?_⟩) ?_ ?_
      rotate_left
      · intro w'
        go_simp
        with_reducible rfl
      rotate_left
      · simp only [Act.put, List.setIfInBounds_toArray, List.set_cons_zero, List.set_cons_succ, i64_w, i32_w]
        rfl
      refine pure_ (i := 9) (N := some 76) (v := ?_) (a' := ?_) #[true, true, true, true, true, true, true, true, true, true, true, true, true, true, true, true, true, true, true, true, true, false, false, false] rfl rfl (by kernel_rfl) (fun _ _ _ h => h) (Or.inl ⟨by rfl, ?_⟩) ?_ ?_
      rotate_left
      · intro w'
        go_simp
        with_reducible rfl
      rotate_left
      · simp only [Act.put, List.setIfInBounds_toArray, List.set_cons_zero, List.set_cons_succ, i64_w, i32_w]
        rfl
      exact norm_ (by first | (simp only [putAll, Act.put, List.setIfInBounds_toArray, List.set_cons_zero, List.set_cons_succ]; done) | (simp only [putAll, Act.put, List.setIfInBounds_toArray, List.set_cons_zero, List.set_cons_succ]; rfl)) (hCont w2.heap.size _ ⟨hHeld, HX⟩)
  rintro g w5 ⟨hHeld, HX⟩
  refine norm_ (a' := ?_) ?_ ?_
  rotate_left
  · simp only [putAll, Act.put, List.setIfInBounds_toArray, List.set_cons_zero, List.set_cons_succ]
    rfl
  refine one_ (i := 21) (N := some 88) #[true, true, true, true, true, true, true, true, true, true, true, true, true, true, true, true, true, true, true, true, true, true, false, false] rfl rfl (by kernel_rfl) (by decide) (fun K hK => ?_)
  refine goes_ Tryd.func32 (by kernel_rfl) rfl #[.slice (some ⟨g, 0, none⟩) 2 2] (by rfl) rfl rfl (by simp only [List.map_toArray, List.map_cons, List.map_nil]; rfl) ?_
  with_reducible refine (text_calls R C (some ⟨g, 0, none⟩) 2 _ (by have := HR.out; omega) (by have := HC.out; omega) ⟨Rw.whole (rw2 HX.out) (by simp), by simp⟩).mono ?_
  rintro e w6 ⟨rfl, hb⟩
  refine ⟨_, rfl, ?_⟩
  have nS := hHeld.2.2.2.2.out.below hb
  clear hHeld hb
  refine hK.out _ _ ⟨nS.box.cell 6, nS.box.cell 7, nS.box.cell 0, nS.box.cell 1, ⟨nS⟩⟩ (fun hHeld => ?_)
  clear hK K
  refine norm_ (a' := ?_) ?_ ?_
  rotate_left
  · show Act.put _ (some 88) _ = _
    simp only [Act.put, List.setIfInBounds_toArray, List.set_cons_zero, List.set_cons_succ, i64_w, i32_w]
    rfl
  refine pure_ (i := 22) (N := some 89) (v := ?_) (a' := ?_) #[true, true, true, true, true, true, true, true, true, true, true, true, true, true, true, true, true, true, true, true, true, true, true, false] rfl rfl (by kernel_rfl) (fun _ _ _ h => h) (Or.inl ⟨by rfl, ?_⟩) ?_ ?_
  rotate_left
  · intro w'
    go_simp
    with_reducible rfl
  rotate_left
  · simp only [Act.put, List.setIfInBounds_toArray, List.set_cons_zero, List.set_cons_succ, i64_w, i32_w]
    rfl
  refine pure_ (i := 23) (N := some 4) (v := ?_) (a' := ?_) #[true, true, true, true, true, true, true, true, true, true, true, true, true, true, true, true, true, true, true, true, true, true, true, true] rfl rfl (by kernel_rfl) (fun _ _ _ h => h) (Or.inl ⟨by rfl, ?_⟩) ?_ ?_
  rotate_left
  · intro w'
    go_simp
    with_reducible rfl
  rotate_left
  · simp only [Act.put, List.setIfInBounds_toArray, List.set_cons_zero, List.set_cons_succ, i64_w, i32_w]
    rfl
  refine done_ (by kernel_rfl) ?_

  have HP6 := hHeld.2.2.2.2
  clear hHeld
  obtain ⟨W, hW⟩ : ∃ W, W = wantq F O R C := ⟨_, rfl⟩
  have hW2 : ((⟨#[32]⟩ : ByteArray) ++ extw F ++ ⟨#[32]⟩ ++ extw O ++ ⟨#[32]⟩ ++ (dig R ++ ⟨#[32]⟩ ++ dig C)) = W := hW.symm
  rw [hW2]
  rw [← hW] at z5
  have HW2 := Aside0.mk hW
  clear k1 k2 k3 k4 k5 hW hW2 e1 e2 z1 z2 z3 z4
  have u5 := HP6.out.box.cell 5
  have u3 := HP6.out.box.cell 3
  go_wp2_with fail
  have HP7 := HP6
  obtain ⟨T, hT⟩ : ∃ T : ByteArray, T = ⟨#[45, 49]⟩ := ⟨_, rfl⟩
  rw [← hT]
  have z8 : T.size ≤ 20 := by rw [hT]; decide
  have HTW := Aside0.mk (show ita (-1) = T by rw [hT]; decide +kernel)
  clear hT u3 u5
  obtain ⟨n2, h2⟩ := (digits_is d (by have := HD.out; omega)).rounds
  obtain ⟨n3, h3⟩ := (digits_is SS HS.out).rounds
  have H2 := Aside0.mk h2
  have H3 := Aside0.mk h3
  have e3 := e3.out
  clear h2 h3
  have k1 : (9223372036854775807 < 4 + W.size) = False := eq_false (by omega)
  have k2 : (9223372036854775807 < 4 + W.size + 1) = False := eq_false (by omega)
  have k3 : (9223372036854775807 < 4 + W.size + 1 + (dig d).size) = False := eq_false (by omega)
  have k4 : (9223372036854775807 < 4 + W.size + 1 + (dig d).size + 1) = False := eq_false (by omega)
  have k5 : (9223372036854775807 < 4 + W.size + 1 + (dig d).size + 1 + T.size) = False := eq_false (by omega)
  have k6 : (9223372036854775807 < 4 + W.size + 1 + (dig d).size + 1 + T.size + 1) = False := eq_false (by omega)
  have k7 : (9223372036854775807 < 4 + W.size + 1 + (dig d).size + 1 + T.size + 1 + (dig SS).size) = False := eq_false (by omega)
  refine start_ (n := 21) (S := fun w' => w'.cell? ⟨w.heap.size, 2, none⟩ = some (.int .i64 (d : Int)) ∧ w'.cell? ⟨w.heap.size, 4, none⟩ = some (.int .u64 (SS : Int)) ∧ Aside0 (Pl w w' w.heap.size R C (d : Int) (-1) SS 2 F O)) (ds := []) #[false, false, false, false, false, false, false, false, false, false, false, false, false, false, false, false, false, false, false, false, false] (by kernel_rfl) rfl rfl ⟨HP7.out.drew.box.cell 2, HP7.out.drew.box.cell 4, ⟨HP7.out.drew⟩⟩ (fun hHeld => ?_)
  refine pure_ (i := 0) (N := some 106) (v := ?_) (a' := ?_) #[true, false, false, false, false, false, false, false, false, false, false, false, false, false, false, false, false, false, false, false, false] rfl rfl (by kernel_rfl) (fun _ _ _ h => h) (Or.inl ⟨by rfl, ?_⟩) ?_ ?_
  rotate_left
  · intro w'
    go_simp
    with_reducible rfl
  rotate_left
  · simp only [Act.put, List.setIfInBounds_toArray, List.set_cons_zero, List.set_cons_succ, i64_w, i32_w]
    rfl
  refine pure_ (i := 1) (N := some 107) (v := ?_) (a' := ?_) #[true, true, false, false, false, false, false, false, false, false, false, false, false, false, false, false, false, false, false, false, false] rfl rfl (by kernel_rfl) (fun _ _ _ h => h) (Or.inl ⟨by rfl, ?_⟩) ?_ ?_
  rotate_left
  · intro w'
    go_simp
    with_reducible rfl
  rotate_left
  · simp only [Act.put, List.setIfInBounds_toArray, List.set_cons_zero, List.set_cons_succ, i64_w, i32_w]
    rfl
  refine pure_ (i := 2) (N := some 108) (v := ?_) (a' := ?_) #[true, true, true, false, false, false, false, false, false, false, false, false, false, false, false, false, false, false, false, false, false] rfl rfl (by kernel_rfl) (fun _ _ _ h => h) (Or.inl ⟨by rfl, ?_⟩) ?_ ?_
  rotate_left
  · intro w'
    go_simp
    with_reducible rfl
  rotate_left
  · simp only [Act.put, List.setIfInBounds_toArray, List.set_cons_zero, List.set_cons_succ, i64_w, i32_w]
    rfl
  refine pure_ (i := 3) (N := some 109) (v := ?_) (a' := ?_) #[true, true, true, true, false, false, false, false, false, false, false, false, false, false, false, false, false, false, false, false, false] rfl rfl (by kernel_rfl) (fun _ _ _ h => h) (Or.inl ⟨by rfl, ?_⟩) ?_ ?_
  rotate_left
  · intro w'
    go_simp
    with_reducible rfl
  rotate_left
  · simp only [Act.put, List.setIfInBounds_toArray, List.set_cons_zero, List.set_cons_succ, i64_w, i32_w]
    rfl
  refine pure_ (i := 4) (N := some 110) (v := ?_) (a' := ?_) #[true, true, true, true, true, false, false, false, false, false, false, false, false, false, false, false, false, false, false, false, false] rfl rfl (by kernel_rfl) (fun _ _ _ h => h) (Or.inl ⟨by rfl, ?_⟩) ?_ ?_
  rotate_left
  · intro w'
    go_simp
    with_reducible rfl
  rotate_left
  · simp only [Act.put, List.setIfInBounds_toArray, List.set_cons_zero, List.set_cons_succ, i64_w, i32_w]
    rfl
  refine pure_ (i := 5) (N := some 111) (v := ?_) (a' := ?_) #[true, true, true, true, true, true, false, false, false, false, false, false, false, false, false, false, false, false, false, false, false] rfl rfl (by kernel_rfl) (fun _ _ _ h => h) (Or.inl ⟨by rfl, ?_⟩) ?_ ?_
  rotate_left
  · intro w'
    go_simp
    with_reducible rfl
  rotate_left
  · simp only [Act.put, List.setIfInBounds_toArray, List.set_cons_zero, List.set_cons_succ, i64_w, i32_w]
    rfl
  refine pure_ (i := 11) (N := some 117) (v := ?_) (a' := ?_) #[true, true, true, true, true, true, false, false, false, false, false, true, false, false, false, false, false, false, false, false, false] rfl rfl (by kernel_rfl) (fun _ _ _ h => h) (Or.inl ⟨by rfl, ?_⟩) ?_ ?_
  rotate_left
  · intro w'
    go_simp
    with_reducible rfl
  rotate_left
  · simp only [Act.put, List.setIfInBounds_toArray, List.set_cons_zero, List.set_cons_succ, i64_w, i32_w]
    rfl
  refine pure_ (i := 14) (N := some 120) (v := ?_) (a' := ?_) #[true, true, true, true, true, true, false, false, false, false, false, true, false, false, true, false, false, false, false, false, false] rfl rfl (by kernel_rfl) (fun _ _ _ h => h) (Or.inl ⟨by rfl, ?_⟩) ?_ ?_
  rotate_left
  · intro w'
    go_simp
    with_reducible rfl
  rotate_left
  · simp only [Act.put, List.setIfInBounds_toArray, List.set_cons_zero, List.set_cons_succ, i64_w, i32_w]
    rfl
  refine pure_ (i := 15) (N := some 121) (v := ?_) (a' := ?_) #[true, true, true, true, true, true, false, false, false, false, false, true, false, false, true, true, false, false, false, false, false] rfl rfl (by kernel_rfl) (fun _ _ _ h => h) (Or.inl ⟨by rfl, ?_⟩) ?_ ?_
  rotate_left
  · intro w'
    go_simp
    with_reducible rfl
  rotate_left
  · simp only [Act.put, List.setIfInBounds_toArray, List.set_cons_zero, List.set_cons_succ, i64_w, i32_w]
    rfl
  refine take_ (i := 6) (N := some 112) (v := ?_) (a' := ?_) #[true, true, true, true, true, true, true, false, false, false, false, true, false, false, true, true, false, false, false, false, false] rfl rfl (by kernel_rfl) (fun _ _ _ h => h) (Or.inl ⟨by rfl, ?_⟩) hHeld ?_ ?_
  rotate_left
  · rintro w' ⟨s0, s1, s2⟩
    go_simp
    with_reducible rfl
  rotate_left
  · simp only [Act.put, List.setIfInBounds_toArray, List.set_cons_zero, List.set_cons_succ, i64_w, i32_w]
    rfl
  refine pure_ (i := 7) (N := some 113) (v := ?_) (a' := ?_) #[true, true, true, true, true, true, true, true, false, false, false, true, false, false, true, true, false, false, false, false, false] rfl rfl (by kernel_rfl) (fun _ _ _ h => h) (Or.inl ⟨by rfl, ?_⟩) ?_ ?_
  rotate_left
  · intro w'
    go_simp
    with_reducible rfl
  rotate_left
  · simp only [Act.put, List.setIfInBounds_toArray, List.set_cons_zero, List.set_cons_succ, i64_w, i32_w]
    rfl
  refine take_ (i := 16) (N := some 122) (v := ?_) (a' := ?_) #[true, true, true, true, true, true, true, true, false, false, false, true, false, false, true, true, true, false, false, false, false] rfl rfl (by kernel_rfl) (fun _ _ _ h => h) (Or.inl ⟨by rfl, ?_⟩) hHeld ?_ ?_
  rotate_left
  · rintro w' ⟨s0, s1, s2⟩
    go_simp
    with_reducible rfl
  rotate_left
  · simp only [Act.put, List.setIfInBounds_toArray, List.set_cons_zero, List.set_cons_succ, i64_w, i32_w]
    rfl
  refine one_ (i := 8) (N := some 114) #[true, true, true, true, true, true, true, true, true, false, false, true, false, false, true, true, true, false, false, false, false] rfl rfl (by kernel_rfl) (by decide) (fun K hK => ?_)
  refine goes_ Tryd.func33 (by kernel_rfl) rfl #[.int .u64 (d : Int)] (by rfl) rfl rfl (by simp only [List.map_toArray, List.map_cons, List.map_nil]; rfl) ?_
  with_reducible refine (abacistref04_Digits.calls n2 (d : Int) (dig d) _ H2.out).mono ?_
  rintro e w8 ⟨rfl, hb⟩
  refine ⟨_, rfl, ?_⟩
  have nS := hHeld.2.2.out.below hb
  clear hHeld hb
  refine hK.out _ _ ⟨nS.box.cell 2, nS.box.cell 4, ⟨nS⟩⟩ (fun hHeld => ?_)
  clear hK K
  refine norm_ (a' := ?_) ?_ ?_
  rotate_left
  · show Act.put _ (some 114) _ = _
    simp only [Act.put, List.setIfInBounds_toArray, List.set_cons_zero, List.set_cons_succ, i64_w, i32_w]
    rfl
  refine pure_ (i := 9) (N := some 115) (v := ?_) (a' := ?_) #[true, true, true, true, true, true, true, true, true, true, false, true, false, false, true, true, true, false, false, false, false] rfl rfl (by kernel_rfl) (fun _ _ _ h => h) (Or.inl ⟨by rfl, ?_⟩) ?_ ?_
  rotate_left
  · intro w'
    go_simp
    with_reducible rfl
  rotate_left
  · simp only [Act.put, List.setIfInBounds_toArray, List.set_cons_zero, List.set_cons_succ, i64_w, i32_w]
    rfl
  refine pure_ (i := 10) (N := some 116) (v := ?_) (a' := ?_) #[true, true, true, true, true, true, true, true, true, true, true, true, false, false, true, true, true, false, false, false, false] rfl rfl (by kernel_rfl) (fun _ _ _ h => h) (Or.inl ⟨by rfl, ?_⟩) ?_ ?_
  rotate_left
  · intro w'
    go_simp
    with_reducible rfl
  rotate_left
  · simp only [Act.put, List.setIfInBounds_toArray, List.set_cons_zero, List.set_cons_succ, i64_w, i32_w]
    rfl
  refine pure_ (i := 12) (N := some 118) (v := ?_) (a' := ?_) #[true, true, true, true, true, true, true, true, true, true, true, true, true, false, true, true, true, false, false, false, false] rfl rfl (by kernel_rfl) (fun _ _ _ h => h) (Or.inl ⟨by rfl, ?_⟩) ?_ ?_
  rotate_left
  · intro w'
    go_simp
    with_reducible rfl
  rotate_left
  · simp only [Act.put, List.setIfInBounds_toArray, List.set_cons_zero, List.set_cons_succ, i64_w, i32_w]
    rfl
  refine pure_ (i := 13) (N := some 119) (v := ?_) (a' := ?_) #[true, true, true, true, true, true, true, true, true, true, true, true, true, true, true, true, true, false, false, false, false] rfl rfl (by kernel_rfl) (fun _ _ _ h => h) (Or.inl ⟨by rfl, ?_⟩) ?_ ?_
  rotate_left
  · intro w'
    go_simp
    with_reducible rfl
  rotate_left
  · simp only [Act.put, List.setIfInBounds_toArray, List.set_cons_zero, List.set_cons_succ, i64_w, i32_w]
    rfl
  refine one_ (i := 17) (N := some 123) #[true, true, true, true, true, true, true, true, true, true, true, true, true, true, true, true, true, true, false, false, false] rfl rfl (by kernel_rfl) (by decide) (fun K hK => ?_)
  refine goes_ Tryd.func33 (by kernel_rfl) rfl #[.int .u64 (SS : Int)] (by rfl) rfl rfl (by simp only [List.map_toArray, List.map_cons, List.map_nil]; rfl) ?_
  with_reducible refine (abacistref04_Digits.calls n3 (SS : Int) (dig SS) _ H3.out).mono ?_
  rintro e w9 ⟨rfl, hb⟩
  refine ⟨_, rfl, ?_⟩
  have nS := hHeld.2.2.out.below hb
  clear hHeld hb
  refine hK.out _ _ ⟨nS.box.cell 2, nS.box.cell 4, ⟨nS⟩⟩ (fun hHeld => ?_)
  clear hK K
  refine norm_ (a' := ?_) ?_ ?_
  rotate_left
  · show Act.put _ (some 123) _ = _
    simp only [Act.put, List.setIfInBounds_toArray, List.set_cons_zero, List.set_cons_succ, i64_w, i32_w]
    rfl
  refine pure_ (i := 18) (N := some 124) (v := ?_) (a' := ?_) #[true, true, true, true, true, true, true, true, true, true, true, true, true, true, true, true, true, true, true, false, false] rfl rfl (by kernel_rfl) (fun _ _ _ h => h) (Or.inl ⟨by rfl, ?_⟩) ?_ ?_
  rotate_left
  · intro w'
    go_simp
    with_reducible rfl
  rotate_left
  · simp only [Act.put, List.setIfInBounds_toArray, List.set_cons_zero, List.set_cons_succ, i64_w, i32_w]
    rfl
  refine pure_ (i := 19) (N := some 125) (v := ?_) (a' := ?_) #[true, true, true, true, true, true, true, true, true, true, true, true, true, true, true, true, true, true, true, true, false] rfl rfl (by kernel_rfl) (fun _ _ _ h => h) (Or.inl ⟨by rfl, ?_⟩) ?_ ?_
  rotate_left
  · intro w'
    go_simp
    with_reducible rfl
  rotate_left
  · simp only [Act.put, List.setIfInBounds_toArray, List.set_cons_zero, List.set_cons_succ, i64_w, i32_w]
    rfl
  refine pure_ (i := 20) (N := some 2) (v := ?_) (a' := ?_) #[true, true, true, true, true, true, true, true, true, true, true, true, true, true, true, true, true, true, true, true, true] rfl rfl (by kernel_rfl) (fun _ _ _ h => h) (Or.inl ⟨by rfl, ?_⟩) ?_ ?_
  rotate_left
  · intro w'
    go_simp
    with_reducible rfl
  rotate_left
  · simp only [Act.put, List.setIfInBounds_toArray, List.set_cons_zero, List.set_cons_succ, i64_w, i32_w]
    rfl
  refine done_ (by kernel_rfl) ?_

  have HP9 := hHeld.2.2
  clear hHeld
  go_wp2
  go_ret
  exact ⟨by rw [HLN.out, HTW.out, ita_dig, ← HW2.out]; simp, HP9.out.be⟩
theorem PlanLinesRow (R C d t : Int) (s : Int) (k f o : Int) (w : World) (hR : Rg R) (hC : Rg C) (hd : Rg d) (ht : Rg t) (hs : 0 ≤ s ∧ s < 18446744073709551616) (hT : TabP w) : Calls Tryd.prog 5 #[.agg #[.int .i64 R, .int .i64 C, .int .i64 d, .int .i64 t, .int .u64 s, .int .i64 k, .int .i64 f, .int .i64 o]] w fun e w' => e = .returned (.bool true) ∧ Below w.heap.size w w' := by
  cases hr : rightq k f o
  · exact lines_no R C d t s k f o w hr hT
  · obtain ⟨S, rfl⟩ := Int.eq_ofNat_of_zero_le hs.1
    have hk : (k = 1 ∨ k = 2) ∧ (0 ≤ f ∧ f < 4) ∧ (0 ≤ o ∧ o < 4) := by
      simp only [rightq, inq, Bool.and_eq_true, Bool.or_eq_true, decide_eq_true_eq] at hr
      exact ⟨hr.1.1, hr.1.2, hr.2⟩
    obtain ⟨hk, ⟨f0, f1⟩, o0, o1⟩ := hk
    obtain ⟨F, rfl⟩ := Int.eq_ofNat_of_zero_le f0
    obtain ⟨O, rfl⟩ := Int.eq_ofNat_of_zero_le o0
    by_cases hn : R < 0 ∨ C < 0 ∨ d < 0 ∨ t < -1
    · rcases hk with rfl | rfl
      · exact lines_neg1 R C d t S F O w (by omega) (by omega) hR hC hd ht (by omega) hn hT
      · exact lines_neg2 R C d t S F O w (by omega) (by omega) hR hC hd ht (by omega) hn hT
    · obtain ⟨R, rfl⟩ := Int.eq_ofNat_of_zero_le (show 0 ≤ R by omega)
      obtain ⟨C, rfl⟩ := Int.eq_ofNat_of_zero_le (show 0 ≤ C by omega)
      have hR2 := hR.2
      have hC2 := hC.2
      rcases hk with rfl | rfl
      · exact lines_yes1 R C F O d t S w (by omega) (by omega) (by omega) (by omega) ⟨by omega, by omega⟩ hT
      · obtain ⟨D, rfl⟩ := Int.eq_ofNat_of_zero_le (show 0 ≤ d by omega)
        have hd2 := hd.2
        by_cases h1 : t = -1
        · subst h1
          exact lines_yesm R C F O D S w (by omega) (by omega) (by omega) (by omega) (by omega) (by omega) hT
        · obtain ⟨T, rfl⟩ := Int.eq_ofNat_of_zero_le (show 0 ≤ t by omega)
          have ht2 := ht.2
          exact lines_yesp R C F O D T S w (by omega) (by omega) (by omega) (by omega) (by omega) (by omega) (by omega) hT
end Go.Proofs.YtpnkcjnemoompaaDoor.Plan
