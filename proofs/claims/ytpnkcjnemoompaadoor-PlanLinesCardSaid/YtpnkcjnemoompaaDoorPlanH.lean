import Derived.Test.YtpnkcjnemoompaaDoorPlanG
/-! Plan: what the document tells. -/
namespace Go.Proofs.YtpnkcjnemoompaaDoor.Plan
open Go.RowKit Go.Proofs.YtpnkcjnemoompaaDoor Go.Proofs.YtpnkcjnemoompaaDoor.Ext Go.Proofs.YtpnkcjnemoompaaDoor.PPlan Go.Proofs.YtpnkcjnemoompaaDoor.Pure Go.Proofs.YtpnkcjnemoompaaDoor.Obj Go.Proofs.YtpnkcjnemoompaaDoorW.PrintWords Go.Proofs.YtpnkcjnemoompaaDoorW.PrintLast Go.Proofs.YtpnkcjnemoompaaDoorW.PrintMore
set_option linter.unusedVariables false
set_option linter.unusedSimpArgs false
set_option maxRecDepth 100000

theorem psl2 : psl 2 0 4 8 = longl 2 0 := by unfold psl; rw [if_neg (by decide)]
set_option maxHeartbeats 4000000 in
theorem awake_calls (w : World) (hT : TabP w) : Calls Tryd.prog 29 #[] w fun e w' => e = .returned (.bool true) ∧ Below w.heap.size w w' := by
  obtain ⟨n, h1⟩ := (passes_ok 2 4 0 8 (by decide) (.inl rfl) (by decide)).rounds
  rw [psl2] at h1
  have K1 : Aside0 (plan_Passes.f n 2 0 4 8 = some (longl 2 0, 0)) := ⟨h1⟩
  have HT := Aside0.mk hT
  clear h1 hT
  go_enter Tryd.func29, Tryd.ntmps29
  go_wp2_with fail
  refine (plan_Passes.calls n 2 0 4 8 _ _ _ K1.out).mono ?_
  rintro e w1 ⟨v, rfl, hR, hb⟩
  have HB1 := Aside0.mk hb
  have HT1 := Aside0.mk (HT.out.below hb)
  obtain ⟨A, ca, rfl, hca, hCa⟩ := Kd.R_reads hR
  rw [show (longl 2 0).length = 5 from rfl] at hCa ⊢
  obtain ⟨ad, rfl, t0, t1, t2, t3, t4, t5, t6, t7⟩ := at_T51 hCa 0 (by decide) (by decide)
  clear hCa hca hR hb HT
  simp only [show (0 : Int).toNat * 8 = 0 from rfl] at t0 t1 t2 t3 t4 t5 t6 t7
  rw [show ad.add 0 = ad from by cases ad; rfl] at t0 t1 t2 t3 t4 t5 t6 t7
  simp only [show rd_T51 (longl 2 0) 0 = ps 2 2 0 (-1) 1 1 0 1 from rfl, ps] at t0 t1 t2 t3 t4 t5 t6 t7
  go_wp2_with fail
  refine (line_turn 2 2 0 (-1) 1 0 1 _ (by decide) (by decide) (by decide) (by decide) HT1.out).mono ?_
  rintro e w2 ⟨rfl, hb2⟩
  have HB2 := Aside0.mk (below_then HB1.out HB1.out.size hb2)
  clear hb2
  rw [show jn [⟨#[116, 117, 114, 110]⟩, extw 0, extw 1, ita 2, ita 2] = ⟨#[116, 117, 114, 110, 32, 105, 110, 112, 117, 116, 32, 108, 101, 102, 116, 32, 50, 32, 50]⟩ by kernel_rfl]
  go_wp2_with fail
  go_ret
  exact ⟨rfl, HB2.out⟩
end Go.Proofs.YtpnkcjnemoompaaDoor.Plan
