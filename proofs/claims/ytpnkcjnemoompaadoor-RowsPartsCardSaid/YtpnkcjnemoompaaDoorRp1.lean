import Derived.Test.YtpnkcjnemoompaaDoorRp0
import Derived.Test.YtpnkcjnemoompaaDoorProg
import Derived.Below
import Derived.Deep.Draws
import Derived.Deep.AppendLies
import Derived.Maps.AppendAt
import Derived.OwnWalk
import Derived.Laws.BytesArg
import Derived.Laws.MakeOwn
import Derived.Laws.OwnMore
import Derived.Deep.OwnRows
import Derived.Tactics
import Derived.Lib.ConvBytes
import Derived.Laws.Slices
import Derived.WalkKit
import Derived.KernelRfl
import Derived.RowKit3
import Derived.Deep.LoopGhost
import Derived.Deep.QuietTactic
import Derived.BigQuiet
import Derived.WideLaws
import Derived.Deep.DeepCutAuto
import Derived.Deep.CutBlock
import Derived.Deep.RegionHeld3
import Derived.Laws.Rows
import Derived.Lib.AppendStr
import Derived.ArgAppend
import Derived.Laws.IdiomCopy
import Derived.RowKit
import Derived.OrdersHeld
import Derived.Laws.BitsLemmas
import Derived.Laws.CopyOwn
import Derived.Lib.Hide
import Derived.Shelf.Spec.TrailingZeros
import Derived.Lib.LaidTab
import Derived.Shelf.Strings.Builder1
import Derived.Shelf.Strings.Builder2
import Derived.Shelf.Strings.OnBuilder
import Derived.Shelf.Strings.BuilderF
import Derived.Shelf.Strings.BuilderK
import Derived.Shelf.Strings.Builder2Cap
import Derived.Shelf.Strconv.Itoa0
import Derived.Shelf.Strconv.Itoa1
import Derived.Shelf.LaysM
import Derived.Shelf.Strconv.Itoa2
import Derived.Shelf.Strconv.Itoa3
import Derived.Shelf.Bits.Mul64
import Derived.Shelf.Strings.BuilderCap
import Derived.Ground.SlgnProg
import Derived.Shelf.SlicesE.Clone
import Derived.Ground.SlgfProg
import Derived.Shelf.SlicesE.IndexFunc
import Derived.Laws.StructEq
import Derived.Shelf.Spec.BitsCarry
import Derived.Laws.BitsAllLaws
import Derived.OpenShut
import Derived.StillTailTactics
import Derived.Outline
import Derived.RegionTactic
import Derived.ChangeAlike
import Derived.BigRegion
/-! Texts of this claim, joined: RowH, RowI. -/
section
namespace Go.Proofs.YtpnkcjnemoompaaDoor.Kern
open Go.RowKit Go.Proofs.YtpnkcjnemoompaaDoor Go.Proofs.YtpnkcjnemoompaaDoor.Ext Go.Proofs.YtpnkcjnemoompaaDoor.PPlan Go.Proofs.YtpnkcjnemoompaaDoor.PFft Go.Proofs.YtpnkcjnemoompaaDoor.Pure Go.Proofs.YtpnkcjnemoompaaDoor.Obj Go.Proofs.YtpnkcjnemoompaaDoor.Fft Go.Proofs.YtpnkcjnemoompaaDoorW.PrintWords Go.Proofs.YtpnkcjnemoompaaDoorW.PrintLast Go.Proofs.YtpnkcjnemoompaaDoorW.PrintMore
set_option linter.unusedVariables false
set_option linter.unusedSimpArgs false
set_option maxRecDepth 100000
def prt (l : List Int) (n m : Nat) : List (List Int) := (List.range m).map fun i => (l.drop (i * n)).take n
theorem prt_len (l : List Int) (n m : Nat) : (prt l n m).length = m := by simp [prt]
theorem prt_get (l : List Int) (n m i : Nat) (h : i < m) : (prt l n m)[i]? = some ((l.drop (i * n)).take n) := by simp [prt, h]
theorem prt_succ (l : List Int) (n m : Nat) : prt l n (m + 1) = prt l n m ++ [(l.drop (m * n)).take n] := by simp [prt, List.range_succ]
theorem prt_flat (l : List Int) (n m : Nat) (h : m * n ≤ l.length) : (prt l n m).flatten = l.take (m * n) := by
  induction m with
  | zero => simp [prt]
  | succ m ih =>
    rw [Nat.add_mul, Nat.one_mul] at h
    rw [prt_succ, List.flatten_append, ih (by omega), Nat.add_mul, Nat.one_mul, List.take_add]
    simp
def slen : Value → Nat
  | .slice _ k _ => k
  | _ => 0
abbrev LL := Kd.slice 45 (Kd.int .u64)
theorem cut_low {P : Program} (t e : TypeId) (kl : IntKind) {i : TypeInfo} (ht : P.underlying t = some (.slice e)) (hi : P.info? e = some i) (hsz : i.size = 1) (A : Option Addr) (n c m : Nat) (hm : m ≤ n) (W : World) :
    (Instr.slice t (.slice A n c) (some (.int kl (m : Int))) none none).run P W = .ok (.slice (if c = m then A else A.map (·.add m)) (n - m) (c - m)) W := by
  have hel : P.elem t = e := by simp [Program.elem, ht]
  have hu : P.underlying t = some (.slice (P.elem t)) := by rw [hel]; exact ht
  rw [run_slice_l W t A n c hu kl (m : Int) (Int.natCast_nonneg _) (by omega), hel]
  simp [sizeOf, typeInfo, hi, hsz, sliced, Result.andThen]
theorem cut_high {P : Program} (t e : TypeId) {i : TypeInfo} (ht : P.underlying t = some (.slice e)) (hi : P.info? e = some i) (hsz : i.size = 1) (A : Option Addr) (c : Nat) (xs : List Int) (m : Nat) (hm : m ≤ xs.length) (hc : xs.length ≤ c) (W : World) :
    (Instr.slice t (.slice A xs.length c) none (some (.int .i64 (m : Int))) none).run P W = .ok (.slice A m c) W := by
  have h := (print_take_int (P := P) (k := .u64) t e ht hi hsz A c xs (m : Int) (by omega) (by omega) hc).1 W
  rw [Int.toNat_natCast, show (xs.take m).length = m by rw [List.length_take]; omega] at h
  exact h
set_option maxHeartbeats 4000000 in
theorem parts_no (A : Option Addr) (c L : Nat) (n : Int) (w : World) (h : n < 1) :
    Calls Tryd.prog 64 #[.slice A L c, .int .i64 n] w fun e w' => e = .returned (.tuple #[.slice none 0 0, .int .i64 1]) ∧ Below w.heap.size w w' := by
  have HB := Aside0.mk (Below.refl w.heap.size w)
  have d1 : decide (n < 1) = true := decide_eq_true h
  clear h
  go_enter Tryd.func64, Tryd.ntmps64
  go_wp2
  go_ret2
  exact ⟨rfl, HB.out⟩
set_option maxHeartbeats 4000000 in
theorem parts_odd (A : Option Addr) (c L : Nat) (n : Int) (w : World) (h1 : 1 ≤ n) (h : Int.tmod (L : Int) n ≠ 0) :
    Calls Tryd.prog 64 #[.slice A L c, .int .i64 n] w fun e w' => e = .returned (.tuple #[.slice none 0 0, .int .i64 19]) ∧ Below w.heap.size w w' := by
  have HB := Aside0.mk (Below.refl w.heap.size w)
  have d1 : decide (n < 1) = false := decide_eq_false (by omega)
  have d2 : (n == 0) = false := beq_eq_false_iff_ne.2 (by omega)
  have d3 : (n = 0) = False := eq_false (by omega)
  have d4 : (Int.tmod (L : Int) n != 0) = true := by rw [bne_iff_ne]; exact h
  have d5 : ((L : Int) % n != 0) = true := by rw [← Int.tmod_eq_emod_of_nonneg (by omega)]; exact d4
  clear h h1
  go_enter Tryd.func64, Tryd.ntmps64
  go_wp2
  go_ret2
  exact ⟨rfl, HB.out⟩
set_option maxHeartbeats 8000000 in
theorem parts_yes (A : Option Addr) (c : Nat) (l : List Int) (n m : Nat) (w : World) (hl : In w A c l) (hn : 1 ≤ n) (hm : m * n = l.length) (hL : l.length ≤ 1048576) :
    Calls Tryd.prog 64 #[.slice A l.length c, .int .i64 (n : Int)] w fun e w' => ∃ B d, e = .returned (.tuple #[.slice B m d, .int .i64 0]) ∧ Kd.C LL w' B m (prt l n m) ∧ m ≤ d ∧ Below w.heap.size w w' := by
  have HB := Aside0.mk (Below.refl w.heap.size w)
  have HL0 := Aside0.mk hl
  have HM := Aside0.mk hm
  have bm : m ≤ 1048576 := by
    have : m ≤ m * n := Nat.le_mul_of_pos_right _ hn
    omega
  have bn : n ≤ 1048576 ∨ m = 0 := by
    rcases Nat.eq_zero_or_pos m with h | h
    · exact .inr h
    · have : n ≤ m * n := Nat.le_mul_of_pos_left _ h
      exact .inl (by omega)
  have d1 : decide ((n : Int) < 1) = false := decide_eq_false (by omega)
  have d2 : ((n : Int) == 0) = false := beq_eq_false_iff_ne.2 (by omega)
  have d3 : ((n : Int) = 0) = False := eq_false (by omega)
  have d3' : (n = 0) = False := eq_false (by omega)
  have d4 : Int.tmod (l.length : Int) (n : Int) = 0 := by rw [← Int.ofNat_tmod, ← hm, Nat.mul_mod_left]; rfl
  have HI0 := Aside0.mk (show In w A c (l.drop (0 * n)) by rw [Nat.zero_mul]; exact hl)
  have HO0 := Aside0.mk (show LL.R 24 w w.heap.size (fun _ => True) (.slice none 0 0) (prt l n 0) from Kd.R_nil _ _ _ _ _)
  have hq : l.length = m * n := hm.symm
  clear hl hm
  go_enter Tryd.func64, Tryd.ntmps64
  go_wp2
  rw [hq]
  clear d4 hq
  go_loopw [0, 6] (fun v0 v6 wr => ∃ (i : Nat) (Ai : Option Addr) (ci : Nat), v0 = .slice Ai ((m - i) * n) ci ∧ i ≤ m ∧ Aside0 (In w Ai ci (l.drop (i * n))) ∧ Aside0 (LL.R 24 wr w.heap.size (fun _ => True) v6 (prt l n i)) ∧ Aside0 (Below w.heap.size w wr)) (fun v0 _ _ => slen v0)
  case atStart => exact ⟨0, A, c, rfl, Nat.zero_le _, HI0, HO0, HB⟩
  case round =>
    clear HI0 HO0 HB
    obtain ⟨i, Ai, ci, rfl, hi, HIw, HO, HB⟩ := hrel
    have HI := Aside0.mk (HIw.out.below HB.out)
    by_cases h1 : i < m
    · have hk : (l.drop (i * n)).length = (m - i) * n := by rw [List.length_drop, ← HM.out, Nat.sub_mul]
      have hq1 : n ≤ (m - i) * n := Nat.le_mul_of_pos_left _ (by omega)
      have hnx : (m - i) * n - n = (m - (i + 1)) * n := by rw [show m - (i + 1) = m - i - 1 by omega, Nat.sub_mul (m - i) 1 n, Nat.one_mul]
      have hms : (m - (i + 1)) * n < (m - i) * n := by rw [← hnx]; omega
      have hci := HI.out.c
      have hpl : ((l.drop (i * n)).take n).length = n := by rw [List.length_take, hk]; omega
      have HPC := Aside0.mk (Kd.C_take HI.out.r (show n ≤ (l.drop (i * n)).length by rw [hk]; exact hq1))
      have hch : ∀ W : World, (Instr.slice 24 (.slice Ai ((m - i) * n) ci) none (some (.int .i64 (n : Int))) none).run Tryd.prog W = .ok (.slice Ai n ci) W := by
        intro W
        obtain ⟨i0, hi0, hzz⟩ := Option.map_eq_some_iff.1 info_u64
        simp only [Prod.mk.injEq] at hzz
        have h := cut_high 24 45 Tryd.underlying24 hi0 hzz.2.1 Ai ci (l.drop (i * n)) n (by rw [hk]; exact hq1) HI.out.c W
        rw [hk] at h
        exact h
      have hcl : ∀ W : World, (Instr.slice 24 (.slice Ai ((m - i) * n) ci) (some (.int .i64 (n : Int))) none none).run Tryd.prog W = .ok (.slice (if ci = n then Ai else Ai.map (·.add n)) ((m - (i + 1)) * n) (ci - n)) W := by
        intro W
        obtain ⟨i0, hi0, hzz⟩ := Option.map_eq_some_iff.1 info_u64
        simp only [Prod.mk.injEq] at hzz
        have h := cut_low 24 45 .i64 Tryd.underlying24 hi0 hzz.2.1 Ai ((m - i) * n) ci n hq1 W
        rw [hnx] at h
        exact h
      have HI2 := Aside0.mk (show In w (if ci = n then Ai else Ai.map (·.add n)) (ci - n) (l.drop ((i + 1) * n)) from by
        have h := Kd.C_drop (c := ci) HIw.out.r (show n ≤ (l.drop (i * n)).length by rw [hk]; exact hq1) HIw.out.c
        rw [show n * (Kd.int IntKind.u64).sz = n from Nat.mul_one n, List.drop_drop, show i * n + n = (i + 1) * n by rw [Nat.add_mul, Nat.one_mul]] at h
        refine ⟨h, ?_⟩
        rw [List.length_drop, ← HM.out]
        rw [hk] at hci
        have e : m * n - (i + 1) * n = (m - (i + 1)) * n := by rw [Nat.sub_mul]
        omega)
      rw [hk] at hci
      have HMs := Aside0.mk hms
      obtain ⟨A2, hA2⟩ : ∃ z, z = (if ci = n then Ai else Ai.map (·.add n)) := ⟨_, rfl⟩
      rw [← hA2] at HI2
      simp only [← hA2] at hcl
      obtain ⟨q, hq⟩ : ∃ z, z = (m - i) * n := ⟨_, rfl⟩
      obtain ⟨q2, hq2⟩ : ∃ z, z = (m - (i + 1)) * n := ⟨_, rfl⟩
      have HQ2 := Aside0.mk hq2
      have hq0 : 0 < q := by omega
      rw [← hq] at hch hcl hms ⊢
      rw [← hq2] at hcl hms
      have hqb : decide ((0 : Int) < (q : Int)) = true := decide_eq_true (by omega)
      have hqc : decide (0 < q) = true := decide_eq_true hq0
      clear hk hq1 hnx hA2 hq hq2 hci HMs
      go_wp2_with (first | ((with_reducible refine gate_dst (N := 23) rfl ?_); refine Kd.R_lit (Kd.int .u64) _ 45 ?hg (N := 23) ?hd (xs := []) (inner := []) (ok := fun _ => True) (okp := fun _ => True) ?hr ?hp (fun _ hk => hk) trivial (Below.refl _ _) (Nat.le_refl _) (by simp) ?_; (case hd => rfl); (case hg => rfl); (case hr => first | (go_simp; done) | (go_simp; rfl)); (case hp => exact (Reps.none _ _)); intro va wa ho hb hg_ hnew_; have HOx := Aside0.mk ho; have HBx := Aside0.mk hb; clear hg_ hnew_ ho hb) | ((with_reducible refine gate_builtin (b := .append) (xs := #[.tmp 23, .tmp 26]) rfl ?_); at_builtin; refine Kd.R_append_rows (Kd.int .u64) (w0 := wr) wr.heap.size rfl (.tmp 23) (.tmp 26) 24 45 (.int .u64 0) 8 rfl Tryd.underlying24 info45 rfl (by decide) (by omega) va [] ((l.drop (i * n)).take n) _ _ _ (fun _ => True) (fun _ => False) rfl rfl ?aO ?aR (fun _ _ h => h) (fun _ h => h.elim) ?aF ?aB ?aS ?aL ?_; (case aR => exact (Kd.C_below (d := Kd.int .u64) (by have h := HPC.out; rw [hpl] at h; exact h) HBx.out)); (case aB => exact HBx.out); (case aF => exact (fun _ _ => trivial)); (case aO => exact HOx.out); (case aS => exact HBx.out.size); (case aL => (simp only [List.length_nil]; first | omega | (rw [hpl]; omega))); intro vb wb ho2 hb2 hg_ hat_; rw [List.nil_append] at ho2; clear hg_ hat_; clear HOx HBx; obtain ⟨Ab, cb, hvb⟩ := Kd.R_slice ho2; rw [hpl] at hvb; subst hvb; have HP6 := Aside0.mk ho2; have HB6 := Aside0.mk hb2; clear ho2 hb2) | ((with_reducible refine gate_builtin (b := .append) (xs := #[.tmp 22, .tmp 28]) rfl ?_); at_builtin; refine Kd.R_append LL (w0 := w) (W := wb) w.heap.size rfl (.tmp 22) (.tmp 28) 89 24 (.slice none 0 0) 24 rfl Tryd.underlying89 (by kernel_rfl) rfl (by decide) (by decide) u6 (prt l n i) ((l.drop (i * n)).take n) [.slice Ab n cb] (fun _ => True) (fun k => wr.heap.size ≤ k) rfl rfl ?pM ?pK ?pF ?pO ?pB ?pS ?pL ?_; (case pM => exact ⟨_, rfl, Kd.R_lower (Kd.R_mono (Kd.R_bound HP6.out) (fun k hk => hk.2.1)) HB.out.size⟩); (case pK => exact fun k hk => ⟨trivial, fun e => absurd (Kd.R_lt HO.out k e.symm) (by omega)⟩); (case pF => exact fun _ _ => trivial); (case pO => exact Kd.R_below HO.out HB6.out); (case pB => exact below_then HB.out HB.out.size HB6.out); (case pS => exact Nat.le_trans HB.out.size HB6.out.size); (case pL => (rw [prt_len]; omega)); intro vc wc hoc hbc hgc hac; have HO7 := Aside0.mk hoc; have HB7 := Aside0.mk hbc; clear hoc hbc hgc hac))
      rw [HQ2.out]
      go_roundw
      case rel => exact ⟨i + 1, A2, ci - n, rfl, by omega, HI2, ⟨by rw [prt_succ]; exact HO7.out⟩, HB7⟩
      case measure =>
        rw [HQ2.out] at hms
        exact hms
    · obtain rfl : i = m := by omega
      have hqb : decide ((0 : Int) < (((i - i) * n : Nat) : Int)) = false := by rw [Nat.sub_self, Nat.zero_mul]; rfl
      have hqc : decide (0 < (i - i) * n) = false := by rw [Nat.sub_self, Nat.zero_mul]; rfl
      obtain ⟨z, hz⟩ : ∃ z, z = (i - i) * n := ⟨_, rfl⟩
      rw [← hz] at hqb hqc ⊢
      clear hz
      obtain ⟨B, d, hv⟩ := Kd.R_slice HO.out
      rw [prt_len] at hv
      subst hv
      obtain ⟨-, hd, hC⟩ := Kd.R_reads' HO.out
      rw [prt_len] at hC
      have HC := Aside0.mk hC
      clear hC
      go_wp2
      go_ret2
      exact ⟨B, d, rfl, HC.out, hd, HB.out⟩
end Go.Proofs.YtpnkcjnemoompaaDoor.Kern
end
section
namespace Go.Proofs.YtpnkcjnemoompaaDoor.Kern
open Go.RowKit Go.Proofs.YtpnkcjnemoompaaDoor Go.Proofs.YtpnkcjnemoompaaDoor.Ext Go.Proofs.YtpnkcjnemoompaaDoor.PPlan Go.Proofs.YtpnkcjnemoompaaDoor.PFft Go.Proofs.YtpnkcjnemoompaaDoor.Pure Go.Proofs.YtpnkcjnemoompaaDoor.Obj Go.Proofs.YtpnkcjnemoompaaDoor.Fft Go.Proofs.YtpnkcjnemoompaaDoorW.PrintWords Go.Proofs.YtpnkcjnemoompaaDoorW.PrintLast Go.Proofs.YtpnkcjnemoompaaDoorW.PrintMore
set_option linter.unusedVariables false
set_option linter.unusedSimpArgs false
set_option maxRecDepth 100000
theorem ll_at {w : World} {B : Option Addr} {k : Nat} {ps : List (List Int)} (h : Kd.C LL w B k ps) (hk : ps.length = k) (i : Nat) (hi : i < k) : ∃ ad A c p, B = some ad ∧ ps[i]? = some p ∧ w.cell? (ad.add i) = some (.slice A p.length c) ∧ p.length ≤ c ∧ Kd.C (Kd.int .u64) w A p.length p := by
  obtain ⟨ad, cs, hB, hl, ⟨A, c, hcs, hc, hC⟩, hcell⟩ := Kd.C_get h [] (i : Int) (by omega) (by omega)
  rw [Int.toNat_natCast] at hcs hc hC hcell
  have hp : ps[i]? = some (ps.getD i []) := by rw [List.getD_eq_getElem?_getD, List.getElem?_eq_getElem (by omega)]; rfl
  refine ⟨ad, A, c, ps.getD i [], hB, hp, ?_, hc, hC⟩
  have h2 := hcell 0 (.slice A (ps.getD i []).length c) (by rw [hcs]; rfl)
  rw [show i * LL.sz + 0 = i from by show i * 1 + 0 = i; omega] at h2
  exact h2
theorem cut_both {P : Program} (t e : TypeId) {i : TypeInfo} (ht : P.underlying t = some (.slice e)) (hi : P.info? e = some i) (hsz : i.size = 1) (A : Option Addr) (n c lo hi' : Nat) (h1 : lo ≤ hi') (h2 : hi' ≤ n) (hc : n ≤ c) (W : World) :
    (Instr.slice t (.slice A n c) (some (.int .i64 (lo : Int))) (some (.int .i64 (hi' : Int))) none).run P W = .ok (.slice (if c = lo then A else A.map (·.add lo)) (hi' - lo) (c - lo)) W := by
  have h := cut_mid (P := P) t e .i64 .i64 ht hi 1 hsz A n c (lo : Int) (hi' : Int) (by omega) (by omega) (by omega) hc W
  simpa using h
theorem part_num (i i1 n hi_ lo : Nat) (h0 : i1 = i + 1) (h1 : hi_ ≤ 1048576) (h2 : lo = i * n) (h3 : hi_ = i1 * n) (hi : i ≤ 1048576) : (IntKind.i64.wrap ((i : Int) * (n : Int)) = (lo : Int) ∧ wrap64 ((i : Int) * (n : Int)) = (lo : Int)) ∧ (IntKind.i64.wrap ((i : Int) + 1) = (i1 : Int) ∧ wrap64 ((i : Int) + 1) = (i1 : Int)) ∧ (IntKind.i64.wrap ((i1 : Int) * (n : Int)) = (hi_ : Int) ∧ wrap64 ((i1 : Int) * (n : Int)) = (hi_ : Int)) := by
  have e1 : (i : Int) * (n : Int) = ((lo : Nat) : Int) := by rw [h2, Int.natCast_mul]
  have e2 : (i1 : Int) * (n : Int) = ((hi_ : Nat) : Int) := by rw [h3, Int.natCast_mul]
  have e3 : (i : Int) + 1 = (i1 : Int) := by omega
  have b1 : lo ≤ 9223372036854775807 := by
    rw [h0, Nat.add_mul, Nat.one_mul] at h3
    omega
  have b2 : hi_ ≤ 9223372036854775807 := by omega
  have b3 : i1 ≤ 9223372036854775807 := by omega
  exact ⟨wrapb e1 b1, wrapb e3 b3, wrapb e2 b2⟩
set_option maxHeartbeats 4000000 in
theorem pa_long (A B : Option Addr) (c e0 : Nat) (l : List Int) (ps : List (List Int)) (n : Int) (w : World) (h : 100 < l.length ∨ 20 < ps.length) (hT : TabOK w) :
    Calls Tryd.prog 12 #[.slice A l.length c, .int .i64 n, .slice B ps.length e0] w fun e w' => e = .returned (.bool true) ∧ Below w.heap.size w w' := by
  have HT0 := Aside0.mk hT
  by_cases h1 : 100 < l.length
  · have d1 : decide ((100 : Int) < (l.length : Int)) = true := decide_eq_true (by omega)
    clear hT
    go_enter Tryd.func12, Tryd.ntmps12
    go_wp2_with fail
    with_reducible refine (awake_calls _ HT0.out).mono ?_
    rintro e w1 ⟨rfl, hb⟩
    have HB1 := Aside0.mk hb
    clear hb
    go_wp2
    go_ret
    exact ⟨rfl, HB1.out⟩
  · have d1 : decide ((100 : Int) < (l.length : Int)) = false := decide_eq_false (by omega)
    have d2 : decide ((20 : Int) < (ps.length : Int)) = true := decide_eq_true (by omega)
    clear hT
    go_enter Tryd.func12, Tryd.ntmps12
    go_wp2_with fail
    with_reducible refine (awake_calls _ HT0.out).mono ?_
    rintro e w1 ⟨rfl, hb⟩
    have HB1 := Aside0.mk hb
    clear hb
    go_wp2
    go_ret
    exact ⟨rfl, HB1.out⟩
set_option maxHeartbeats 16000000 in
theorem pa_no (A B : Option Addr) (c e0 : Nat) (l : List Int) (ps : List (List Int)) (n : Int) (hn : n < 1) (w : World) (hl : In w A c l) (hP : Kd.C LL w B ps.length ps) (he0 : ps.length ≤ e0) (hL : l.length ≤ 100) (hK : ps.length ≤ 20) (hT : TabOK w) :
    Calls Tryd.prog 12 #[.slice A l.length c, .int .i64 n, .slice B ps.length e0] w fun e w' => e = .returned (.bool true) ∧ Below w.heap.size w w' := by
  have HT0 := Aside0.mk hT
  have HL0 := Aside0.mk hl
  have HP0 := Aside0.mk hP
  have HE0 := Aside0.mk he0
  have k1 : decide (n < 1) = true := decide_eq_true hn
  have HN := Aside0.mk hn
  clear hn
  have d1 : decide ((100 : Int) < (l.length : Int)) = false := decide_eq_false (by omega)
  have d2 : decide ((20 : Int) < (ps.length : Int)) = false := decide_eq_false (by omega)
  have HO0 := Aside0.mk (show ∀ w1, (Kd.int .u64).R 45 w1 w.heap.size (fun _ => True) (.slice none 0 0) (ps.take 0).flatten from fun w1 => Kd.R_nil _ _ _ _ _)
  clear hT hl hP he0
  go_enter Tryd.func12, Tryd.ntmps12
  go_wp2_with fail
  with_reducible refine (awake_calls _ HT0.out).mono ?_
  rintro e w1 ⟨rfl, hb⟩
  have HB1 := Aside0.mk hb
  clear hb
  go_wp2
  go_loopw [7, 8] (fun v7 v8 wr => ∃ i : Nat, v8 = .int .i64 i ∧ i ≤ ps.length ∧ Aside0 ((Kd.int .u64).R 45 wr w.heap.size (fun _ => True) v7 (ps.take i).flatten) ∧ Aside0 ((ps.take i).flatten.length ≤ i * 100) ∧ Aside0 (Below w.heap.size w wr)) (fun _ v8 _ => ps.length - (intOf v8).toNat)
  case atStart => exact ⟨0, rfl, Nat.zero_le _, ⟨HO0.out _⟩, ⟨by simp⟩, HB1⟩
  case round =>
    clear HB1 HO0
    obtain ⟨i, rfl, hi, HO, HF, HB⟩ := hrel
    by_cases h1 : i < ps.length
    · have hia : (i : Int) < (ps.length : Int) := by omega
      have hib : decide ((i : Int) < (ps.length : Int)) = true := decide_eq_true hia
      have hic : decide (i < ps.length) = true := decide_eq_true h1
      have hi0 : (0 : Int) ≤ (i : Int) := by omega
      obtain ⟨ad, Ap, cp, p, hB, hp, hcell, hcp, hCp⟩ := ll_at (Kd.C_below HP0.out HB.out) rfl i h1
      cases hB
      have HP := Aside0.mk hCp
      have hfl : (ps.take (i + 1)).flatten = (ps.take i).flatten ++ p := by rw [flat_take ps i h1]; congr 1; rw [List.getElem?_eq_getElem h1] at hp; exact Option.some.inj hp
      have HFl := Aside0.mk hfl
      clear hCp hp hfl
      by_cases h2 : 100 < p.length
      · have e1 : decide ((100 : Int) < (p.length : Int)) = true := decide_eq_true (by omega)
        go_wp2
        go_ret
        exact ⟨rfl, HB.out⟩
      · have e1 : decide ((100 : Int) < (p.length : Int)) = false := decide_eq_false (by omega)
        go_wp2_with ((with_reducible refine gate_builtin (b := .append) (xs := #[.tmp 34, .tmp 38]) rfl ?_); at_builtin; refine Kd.R_append_rows (Kd.int .u64) (w0 := w) w.heap.size rfl (.tmp 34) (.tmp 38) 24 45 (.int .u64 0) 8 rfl Tryd.underlying24 info45 rfl (by decide) (by omega) u7 (ps.take i).flatten p _ _ _ (fun _ => True) (fun _ => False) rfl rfl ?aO ?aR (fun _ _ h => h) (fun _ h => h.elim) ?aF ?aB ?aS ?aL ?_; (case aR => exact HP.out); (case aB => exact HB.out); (case aF => exact (fun _ _ => trivial)); (case aO => exact HO.out); (case aS => exact HB.out.size); (case aL => (have := HF.out; omega)); intro va wa ho hb hg_ hat_; have HO2 := Aside0.mk ho; have HB2 := Aside0.mk hb; clear ho hb hg_ hat_)
        go_roundw
        case rel => exact ⟨i + 1, by go_num, by omega, ⟨by rw [HFl.out]; exact HO2.out⟩, ⟨by rw [HFl.out, List.length_append]; have := HF.out; omega⟩, HB2⟩
        case measure => simp [intOf]; omega
    · obtain rfl : i = ps.length := by omega
      have hia : decide ((ps.length : Int) < (ps.length : Int)) = false := decide_eq_false (by omega)
      have hic : decide (ps.length < ps.length) = false := decide_eq_false (by omega)
      rw [List.take_length] at HO HF
      obtain ⟨kj, hkj⟩ := (join_is ps (by have := HF.out; omega) (by omega)).rounds
      obtain ⟨FL, hFL⟩ : ∃ z, z = ps.flatten := ⟨_, rfl⟩
      rw [← hFL] at HO HF hkj
      clear hFL
      obtain ⟨Aa, ca, hv⟩ := Kd.R_slice HO.out
      subst hv
      obtain ⟨-, hca, hCa⟩ := Kd.R_reads' HO.out
      have HAa := Aside0.mk (show In wr Aa ca FL from ⟨hCa, hca⟩)
      have hfl : FL.length ≤ 2000 := by have := HF.out; omega
      have HKj := Aside0.mk hkj
      clear hCa hca hkj HO
      go_wp2_with fail
      with_reducible refine (rows_Join.calls kj B e0 ps FL _ (Kd.C_below HP0.out HB.out) HE0.out HKj.out).mono ?_
      rintro e w2 ⟨v, rfl, hr, hb⟩
      obtain ⟨Aj, cj, hv, hlj, hcj⟩ := Kd.R_reads hr
      subst hv
      have HB2 := Aside0.mk (below_then HB.out HB.out.size hb)
      have HJ2 := Aside0.mk (In.mk hcj hlj)
      have HA2 := Aside0.mk (HAa.out.below hb)
      clear hb hr hlj hcj HB HAa
      go_wp2_with fail
      with_reducible refine (same_calls Aj Aa cj ca FL FL _ HJ2.out HA2.out (by omega) rfl).mono ?_
      rintro e w3 ⟨rfl, hd⟩
      have HB3 := Aside0.mk (below_then HB2.out HB2.out.size hd.below)
      clear hd HJ2 HA2 HB2
      go_wp2_with fail
      with_reducible refine (parts_no A c l.length n _ HN.out).mono ?_
      rintro e w4 ⟨rfl, hb⟩
      have HB4 := Aside0.mk (below_then HB3.out HB3.out.size hb)
      clear hb
      go_wp2
      go_ret
      exact ⟨rfl, HB4.out⟩
set_option maxHeartbeats 16000000 in
theorem pa_odd (A B : Option Addr) (c e0 : Nat) (l : List Int) (ps : List (List Int)) (n : Int) (hn : 1 ≤ n) (hodd : Int.tmod (l.length : Int) n ≠ 0) (w : World) (hl : In w A c l) (hP : Kd.C LL w B ps.length ps) (he0 : ps.length ≤ e0) (hL : l.length ≤ 100) (hK : ps.length ≤ 20) (hT : TabOK w) :
    Calls Tryd.prog 12 #[.slice A l.length c, .int .i64 n, .slice B ps.length e0] w fun e w' => e = .returned (.bool true) ∧ Below w.heap.size w w' := by
  have HT0 := Aside0.mk hT
  have HL0 := Aside0.mk hl
  have HP0 := Aside0.mk hP
  have HE0 := Aside0.mk he0
  have k1 : decide (n < 1) = false := decide_eq_false (by omega)
  have k2 : (n == 0) = false := beq_eq_false_iff_ne.2 (by omega)
  have k3 : (n = 0) = False := eq_false (by omega)
  have k4 : (Int.tmod (l.length : Int) n != 0) = true := by rw [bne_iff_ne]; exact hodd
  have k5 : ((l.length : Int) % n != 0) = true := by rw [← Int.tmod_eq_emod_of_nonneg (by omega)]; exact k4
  have HN := Aside0.mk (show 1 ≤ n ∧ Int.tmod (l.length : Int) n ≠ 0 from ⟨hn, hodd⟩)
  clear hn hodd
  have d1 : decide ((100 : Int) < (l.length : Int)) = false := decide_eq_false (by omega)
  have d2 : decide ((20 : Int) < (ps.length : Int)) = false := decide_eq_false (by omega)
  have HO0 := Aside0.mk (show ∀ w1, (Kd.int .u64).R 45 w1 w.heap.size (fun _ => True) (.slice none 0 0) (ps.take 0).flatten from fun w1 => Kd.R_nil _ _ _ _ _)
  clear hT hl hP he0
  go_enter Tryd.func12, Tryd.ntmps12
  go_wp2_with fail
  with_reducible refine (awake_calls _ HT0.out).mono ?_
  rintro e w1 ⟨rfl, hb⟩
  have HB1 := Aside0.mk hb
  clear hb
  go_wp2
  go_loopw [7, 8] (fun v7 v8 wr => ∃ i : Nat, v8 = .int .i64 i ∧ i ≤ ps.length ∧ Aside0 ((Kd.int .u64).R 45 wr w.heap.size (fun _ => True) v7 (ps.take i).flatten) ∧ Aside0 ((ps.take i).flatten.length ≤ i * 100) ∧ Aside0 (Below w.heap.size w wr)) (fun _ v8 _ => ps.length - (intOf v8).toNat)
  case atStart => exact ⟨0, rfl, Nat.zero_le _, ⟨HO0.out _⟩, ⟨by simp⟩, HB1⟩
  case round =>
    clear HB1 HO0
    obtain ⟨i, rfl, hi, HO, HF, HB⟩ := hrel
    by_cases h1 : i < ps.length
    · have hia : (i : Int) < (ps.length : Int) := by omega
      have hib : decide ((i : Int) < (ps.length : Int)) = true := decide_eq_true hia
      have hic : decide (i < ps.length) = true := decide_eq_true h1
      have hi0 : (0 : Int) ≤ (i : Int) := by omega
      obtain ⟨ad, Ap, cp, p, hB, hp, hcell, hcp, hCp⟩ := ll_at (Kd.C_below HP0.out HB.out) rfl i h1
      cases hB
      have HP := Aside0.mk hCp
      have hfl : (ps.take (i + 1)).flatten = (ps.take i).flatten ++ p := by rw [flat_take ps i h1]; congr 1; rw [List.getElem?_eq_getElem h1] at hp; exact Option.some.inj hp
      have HFl := Aside0.mk hfl
      clear hCp hp hfl
      by_cases h2 : 100 < p.length
      · have e1 : decide ((100 : Int) < (p.length : Int)) = true := decide_eq_true (by omega)
        go_wp2
        go_ret
        exact ⟨rfl, HB.out⟩
      · have e1 : decide ((100 : Int) < (p.length : Int)) = false := decide_eq_false (by omega)
        go_wp2_with ((with_reducible refine gate_builtin (b := .append) (xs := #[.tmp 34, .tmp 38]) rfl ?_); at_builtin; refine Kd.R_append_rows (Kd.int .u64) (w0 := w) w.heap.size rfl (.tmp 34) (.tmp 38) 24 45 (.int .u64 0) 8 rfl Tryd.underlying24 info45 rfl (by decide) (by omega) u7 (ps.take i).flatten p _ _ _ (fun _ => True) (fun _ => False) rfl rfl ?aO ?aR (fun _ _ h => h) (fun _ h => h.elim) ?aF ?aB ?aS ?aL ?_; (case aR => exact HP.out); (case aB => exact HB.out); (case aF => exact (fun _ _ => trivial)); (case aO => exact HO.out); (case aS => exact HB.out.size); (case aL => (have := HF.out; omega)); intro va wa ho hb hg_ hat_; have HO2 := Aside0.mk ho; have HB2 := Aside0.mk hb; clear ho hb hg_ hat_)
        go_roundw
        case rel => exact ⟨i + 1, by go_num, by omega, ⟨by rw [HFl.out]; exact HO2.out⟩, ⟨by rw [HFl.out, List.length_append]; have := HF.out; omega⟩, HB2⟩
        case measure => simp [intOf]; omega
    · obtain rfl : i = ps.length := by omega
      have hia : decide ((ps.length : Int) < (ps.length : Int)) = false := decide_eq_false (by omega)
      have hic : decide (ps.length < ps.length) = false := decide_eq_false (by omega)
      rw [List.take_length] at HO HF
      obtain ⟨kj, hkj⟩ := (join_is ps (by have := HF.out; omega) (by omega)).rounds
      obtain ⟨FL, hFL⟩ : ∃ z, z = ps.flatten := ⟨_, rfl⟩
      rw [← hFL] at HO HF hkj
      clear hFL
      obtain ⟨Aa, ca, hv⟩ := Kd.R_slice HO.out
      subst hv
      obtain ⟨-, hca, hCa⟩ := Kd.R_reads' HO.out
      have HAa := Aside0.mk (show In wr Aa ca FL from ⟨hCa, hca⟩)
      have hfl : FL.length ≤ 2000 := by have := HF.out; omega
      have HKj := Aside0.mk hkj
      clear hCa hca hkj HO
      go_wp2_with fail
      with_reducible refine (rows_Join.calls kj B e0 ps FL _ (Kd.C_below HP0.out HB.out) HE0.out HKj.out).mono ?_
      rintro e w2 ⟨v, rfl, hr, hb⟩
      obtain ⟨Aj, cj, hv, hlj, hcj⟩ := Kd.R_reads hr
      subst hv
      have HB2 := Aside0.mk (below_then HB.out HB.out.size hb)
      have HJ2 := Aside0.mk (In.mk hcj hlj)
      have HA2 := Aside0.mk (HAa.out.below hb)
      clear hb hr hlj hcj HB HAa
      go_wp2_with fail
      with_reducible refine (same_calls Aj Aa cj ca FL FL _ HJ2.out HA2.out (by omega) rfl).mono ?_
      rintro e w3 ⟨rfl, hd⟩
      have HB3 := Aside0.mk (below_then HB2.out HB2.out.size hd.below)
      clear hd HJ2 HA2 HB2
      go_wp2_with fail
      with_reducible refine (parts_odd A c l.length n _ HN.out.1 HN.out.2).mono ?_
      rintro e w4 ⟨rfl, hb⟩
      have HB4 := Aside0.mk (below_then HB3.out HB3.out.size hb)
      clear hb
      go_wp2
      go_ret
      exact ⟨rfl, HB4.out⟩
set_option maxHeartbeats 16000000 in
theorem pa_yes (A B : Option Addr) (c e0 : Nat) (l : List Int) (ps : List (List Int)) (n m : Nat) (hn : 1 ≤ n) (hm : m * n = l.length) (w : World) (hl : In w A c l) (hP : Kd.C LL w B ps.length ps) (he0 : ps.length ≤ e0) (hL : l.length ≤ 100) (hK : ps.length ≤ 20) (hT : TabOK w) :
    Calls Tryd.prog 12 #[.slice A l.length c, .int .i64 (n : Int), .slice B ps.length e0] w fun e w' => e = .returned (.bool true) ∧ Below w.heap.size w w' := by
  have HT0 := Aside0.mk hT
  have HL0 := Aside0.mk hl
  have HP0 := Aside0.mk hP
  have HE0 := Aside0.mk he0
  have k1 : decide ((n : Int) < 1) = false := decide_eq_false (by omega)
  have k2 : ((n : Int) == 0) = false := beq_eq_false_iff_ne.2 (by omega)
  have k3 : ((n : Int) = 0) = False := eq_false (by omega)
  have k3' : (n = 0) = False := eq_false (by omega)
  have bm : m ≤ 100 := by
    have : m ≤ m * n := Nat.le_mul_of_pos_right _ hn
    omega
  have k4 : (l.length : Int) % (n : Int) = 0 := by rw [← Int.natCast_emod, ← hm, Nat.mul_mod_left]; rfl
  have k5 : (l.length : Int) / (n : Int) = (m : Int) := by rw [← Int.natCast_ediv, ← hm, Nat.mul_div_cancel _ (by omega)]
  have k6 : IntKind.i64.wrap (m : Int) = (m : Int) ∧ wrap64 (m : Int) = (m : Int) := wrapb rfl (by omega)
  have HK6 := Aside0.mk k6
  have k7 : ((m : Int) != (m : Int)) = false := by simp
  have HN := Aside0.mk (show 1 ≤ n ∧ m * n = l.length from ⟨hn, hm⟩)
  clear hn hm k6
  have d1 : decide ((100 : Int) < (l.length : Int)) = false := decide_eq_false (by omega)
  have d2 : decide ((20 : Int) < (ps.length : Int)) = false := decide_eq_false (by omega)
  have HO0 := Aside0.mk (show ∀ w1, (Kd.int .u64).R 45 w1 w.heap.size (fun _ => True) (.slice none 0 0) (ps.take 0).flatten from fun w1 => Kd.R_nil _ _ _ _ _)
  clear hT hl hP he0
  go_enter Tryd.func12, Tryd.ntmps12
  go_wp2_with fail
  with_reducible refine (awake_calls _ HT0.out).mono ?_
  rintro e w1 ⟨rfl, hb⟩
  have HB1 := Aside0.mk hb
  clear hb
  go_wp2
  go_loopw [7, 8] (fun v7 v8 wr => ∃ i : Nat, v8 = .int .i64 i ∧ i ≤ ps.length ∧ Aside0 ((Kd.int .u64).R 45 wr w.heap.size (fun _ => True) v7 (ps.take i).flatten) ∧ Aside0 ((ps.take i).flatten.length ≤ i * 100) ∧ Aside0 (Below w.heap.size w wr)) (fun _ v8 _ => ps.length - (intOf v8).toNat)
  case atStart => exact ⟨0, rfl, Nat.zero_le _, ⟨HO0.out _⟩, ⟨by simp⟩, HB1⟩
  case round =>
    clear HB1 HO0
    obtain ⟨i, rfl, hi, HO, HF, HB⟩ := hrel
    by_cases h1 : i < ps.length
    · have hia : (i : Int) < (ps.length : Int) := by omega
      have hib : decide ((i : Int) < (ps.length : Int)) = true := decide_eq_true hia
      have hic : decide (i < ps.length) = true := decide_eq_true h1
      have hi0 : (0 : Int) ≤ (i : Int) := by omega
      obtain ⟨ad, Ap, cp, p, hB, hp, hcell, hcp, hCp⟩ := ll_at (Kd.C_below HP0.out HB.out) rfl i h1
      cases hB
      have HP := Aside0.mk hCp
      have hfl : (ps.take (i + 1)).flatten = (ps.take i).flatten ++ p := by rw [flat_take ps i h1]; congr 1; rw [List.getElem?_eq_getElem h1] at hp; exact Option.some.inj hp
      have HFl := Aside0.mk hfl
      clear hCp hp hfl
      by_cases h2 : 100 < p.length
      · have e1 : decide ((100 : Int) < (p.length : Int)) = true := decide_eq_true (by omega)
        go_wp2
        go_ret
        exact ⟨rfl, HB.out⟩
      · have e1 : decide ((100 : Int) < (p.length : Int)) = false := decide_eq_false (by omega)
        go_wp2_with ((with_reducible refine gate_builtin (b := .append) (xs := #[.tmp 34, .tmp 38]) rfl ?_); at_builtin; refine Kd.R_append_rows (Kd.int .u64) (w0 := w) w.heap.size rfl (.tmp 34) (.tmp 38) 24 45 (.int .u64 0) 8 rfl Tryd.underlying24 info45 rfl (by decide) (by omega) u7 (ps.take i).flatten p _ _ _ (fun _ => True) (fun _ => False) rfl rfl ?aO ?aR (fun _ _ h => h) (fun _ h => h.elim) ?aF ?aB ?aS ?aL ?_; (case aR => exact HP.out); (case aB => exact HB.out); (case aF => exact (fun _ _ => trivial)); (case aO => exact HO.out); (case aS => exact HB.out.size); (case aL => (have := HF.out; omega)); intro va wa ho hb hg_ hat_; have HO2 := Aside0.mk ho; have HB2 := Aside0.mk hb; clear ho hb hg_ hat_)
        go_roundw
        case rel => exact ⟨i + 1, by go_num, by omega, ⟨by rw [HFl.out]; exact HO2.out⟩, ⟨by rw [HFl.out, List.length_append]; have := HF.out; omega⟩, HB2⟩
        case measure => simp [intOf]; omega
    · obtain rfl : i = ps.length := by omega
      have hia : decide ((ps.length : Int) < (ps.length : Int)) = false := decide_eq_false (by omega)
      have hic : decide (ps.length < ps.length) = false := decide_eq_false (by omega)
      rw [List.take_length] at HO HF
      obtain ⟨kj, hkj⟩ := (join_is ps (by have := HF.out; omega) (by omega)).rounds
      obtain ⟨FL, hFL⟩ : ∃ z, z = ps.flatten := ⟨_, rfl⟩
      rw [← hFL] at HO HF hkj
      clear hFL
      obtain ⟨Aa, ca, hv⟩ := Kd.R_slice HO.out
      subst hv
      obtain ⟨-, hca, hCa⟩ := Kd.R_reads' HO.out
      have HAa := Aside0.mk (show In wr Aa ca FL from ⟨hCa, hca⟩)
      have hfl : FL.length ≤ 2000 := by have := HF.out; omega
      have HKj := Aside0.mk hkj
      clear hCa hca hkj HO
      go_wp2_with fail
      with_reducible refine (rows_Join.calls kj B e0 ps FL _ (Kd.C_below HP0.out HB.out) HE0.out HKj.out).mono ?_
      rintro e w2 ⟨v, rfl, hr, hb⟩
      obtain ⟨Aj, cj, hv, hlj, hcj⟩ := Kd.R_reads hr
      subst hv
      have HB2 := Aside0.mk (below_then HB.out HB.out.size hb)
      have HJ2 := Aside0.mk (In.mk hcj hlj)
      have HA2 := Aside0.mk (HAa.out.below hb)
      clear hb hr hlj hcj HB HAa
      go_wp2_with fail
      with_reducible refine (same_calls Aj Aa cj ca FL FL _ HJ2.out HA2.out (by omega) rfl).mono ?_
      rintro e w3 ⟨rfl, hd⟩
      have HB3 := Aside0.mk (below_then HB2.out HB2.out.size hd.below)
      clear hd HJ2 HA2 HB2
      go_wp2_with fail
      with_reducible refine (parts_yes A c l n m _ (HL0.out.below HB3.out) HN.out.1 HN.out.2 (by omega)).mono ?_
      rintro e w4 ⟨Bp, dp, rfl, hC, hmd, hb⟩
      have HB4 := Aside0.mk (below_then HB3.out HB3.out.size hb)
      have HC4 := Aside0.mk hC
      have HM4 := Aside0.mk hmd
      clear hb hC hmd HB3
      obtain ⟨k6, k6'⟩ := HK6.out
      go_wp2
      clear k6 k6'
      go_loopw [11] (fun v11 wr => ∃ i : Nat, v11 = .int .i64 i ∧ i ≤ m ∧ Aside0 (Below w.heap.size w wr) ∧ Aside0 (Kd.C LL wr Bp m (prt l n m))) (fun v11 _ => m - (intOf v11).toNat)
      case atStart => exact ⟨0, rfl, Nat.zero_le _, HB4, HC4⟩
      case round =>
        clear HB4 HC4
        obtain ⟨i, rfl, hi, HB, HC⟩ := hrel
        by_cases h2 : i < m
        · have hja : (i : Int) < (m : Int) := by omega
          have hjb : decide ((i : Int) < (m : Int)) = true := decide_eq_true hja
          have hjc : decide (i < m) = true := decide_eq_true h2
          have hj0 : (0 : Int) ≤ (i : Int) := by omega
          obtain ⟨ad, Ap, cp, p, hB, hp, hcell, hcp, hCp⟩ := ll_at HC.out (prt_len l n m) i h2
          cases hB
          rw [prt_get l n m i h2] at hp
          obtain rfl := Option.some.inj hp
          have hle : (i + 1) * n ≤ l.length := by rw [← HN.out.2]; exact Nat.mul_le_mul_right _ h2
          have hen : (i + 1) * n = i * n + n := by rw [Nat.add_mul, Nat.one_mul]
          have hpl : ((l.drop (i * n)).take n).length = n := by rw [List.length_take, List.length_drop]; omega
          rw [hpl] at hcell hcp hCp
          have hlc := HL0.out.c
          have HPb := Aside0.mk (show n ≤ 1048576 by omega)
          have HMid := Aside0.mk (show ∃ A2, In w A2 (c - i * n) ((l.drop (i * n)).take n) ∧ ∀ W : World, (Instr.slice 24 (.slice A l.length c) (some (.int .i64 ((i * n : Nat) : Int))) (some (.int .i64 (((i + 1) * n : Nat) : Int))) none).run Tryd.prog W = .ok (.slice A2 n (c - i * n)) W from by
            obtain ⟨i0, hi0, hzz⟩ := Option.map_eq_some_iff.1 info_u64
            simp only [Prod.mk.injEq] at hzz
            refine ⟨if c = i * n then A else A.map (·.add (i * n)), ⟨?_, by rw [hpl]; omega⟩, fun W => ?_⟩
            · have h := Kd.C_mid (c := c) HL0.out.r (show i * n ≤ (i + 1) * n by omega) hle hlc
              rw [show i * n * (Kd.int IntKind.u64).sz = i * n from Nat.mul_one _] at h
              rw [show (l.take ((i + 1) * n)).drop (i * n) = (l.drop (i * n)).take n by rw [List.drop_take, hen, Nat.add_sub_cancel_left]] at h
              exact h
            · have h := cut_both 24 45 Tryd.underlying24 hi0 hzz.2.1 A l.length c (i * n) ((i + 1) * n) (by omega) hle hlc W
              rw [show (i + 1) * n - i * n = n by omega] at h
              exact h)
          obtain ⟨A2, hI2, hmid⟩ := HMid.out
          have HI2 := Aside0.mk hI2
          have HPc := Aside0.mk (show In wr Ap cp ((l.drop (i * n)).take n) from ⟨by rw [hpl]; exact hCp, by rw [hpl]; exact hcp⟩)
          have HCl := Aside0.mk hcell
          obtain ⟨i1, hi1⟩ : ∃ z, z = i + 1 := ⟨_, rfl⟩
          obtain ⟨⟨wA, wB⟩, ⟨wC, wD⟩, wE, wF⟩ := part_num i i1 n (i1 * n) (i * n) hi1 (by rw [hi1]; omega) rfl rfl (by omega)
          obtain ⟨lo, hlo⟩ : ∃ z, z = i * n := ⟨_, rfl⟩
          obtain ⟨hi_, hhi⟩ : ∃ z, z = i1 * n := ⟨_, rfl⟩
          rw [← hi1] at hmid
          obtain ⟨P, hPx⟩ : ∃ z, z = (l.drop lo).take n := ⟨_, rfl⟩
          rw [← hlo] at wA wB hmid HPc HI2 hpl
          rw [← hhi] at wE wF hmid
          rw [← hPx] at HPc HI2 hpl
          have HI1 := Aside0.mk hi1
          clear hI2 hcell hCp hcp hp hle hen hlo hhi hPx HMid hlc hi1
          go_wp2_with fail
          refine start_ (n := 15) (S := fun w' => w'.cell? (ad.add i) = some (.slice Ap n cp) ∧ Aside0 (Below w.heap.size w w' ∧ Kd.C LL w' (some ad) m (prt l n m))) (ds := []) #[false, false, false, false, false, false, false, false, false, false, false, false, false, false, false] (by kernel_rfl) rfl rfl ⟨HCl.out, ⟨below_drew1 HB.out, Kd.C_drew HC.out⟩⟩ (fun hHeld => ?_)
          refine pure_ (i := 0) (N := some 89) (v := ?_) (a' := ?_) #[true, false, false, false, false, false, false, false, false, false, false, false, false, false, false] rfl rfl (by kernel_rfl) (fun _ _ _ h => h) (Or.inl ⟨by rfl, ?_⟩) ?_ ?_
          rotate_left
          · intro w'
            go_simp
            with_reducible rfl
          rotate_left
          · simp only [Act.put, List.setIfInBounds_toArray, List.set_cons_zero, List.set_cons_succ, i64_w, i32_w]
            rfl
          refine pure_ (i := 1) (N := some 90) (v := ?_) (a' := ?_) #[true, true, false, false, false, false, false, false, false, false, false, false, false, false, false] rfl rfl (by kernel_rfl) (fun _ _ _ h => h) (Or.inl ⟨by rfl, ?_⟩) ?_ ?_
          rotate_left
          · intro w'
            go_simp
            with_reducible rfl
          rotate_left
          · simp only [Act.put, List.setIfInBounds_toArray, List.set_cons_zero, List.set_cons_succ, i64_w, i32_w]
            rfl
          refine pure_ (i := 2) (N := some 91) (v := ?_) (a' := ?_) #[true, true, true, false, false, false, false, false, false, false, false, false, false, false, false] rfl rfl (by kernel_rfl) (fun _ _ _ h => h) (Or.inl ⟨by rfl, ?_⟩) ?_ ?_
          rotate_left
          · intro w'
            go_simp
            with_reducible rfl
          rotate_left
          · simp only [Act.put, List.setIfInBounds_toArray, List.set_cons_zero, List.set_cons_succ, i64_w, i32_w]
            rfl
          refine pure_ (i := 4) (N := some 93) (v := ?_) (a' := ?_) #[true, true, true, false, true, false, false, false, false, false, false, false, false, false, false] rfl rfl (by kernel_rfl) (fun _ _ _ h => h) (Or.inl ⟨by rfl, ?_⟩) ?_ ?_
          rotate_left
          · intro w'
            go_simp
            with_reducible rfl
          rotate_left
          · simp only [Act.put, List.setIfInBounds_toArray, List.set_cons_zero, List.set_cons_succ, i64_w, i32_w]
            rfl
          refine pure_ (i := 5) (N := some 94) (v := ?_) (a' := ?_) #[true, true, true, false, true, true, false, false, false, false, false, false, false, false, false] rfl rfl (by kernel_rfl) (fun _ _ _ h => h) (Or.inl ⟨by rfl, ?_⟩) ?_ ?_
          rotate_left
          · intro w'
            go_simp
            with_reducible rfl
          rotate_left
          · simp only [Act.put, List.setIfInBounds_toArray, List.set_cons_zero, List.set_cons_succ, i64_w, i32_w]
            rfl
          refine pure_ (i := 6) (N := some 95) (v := ?_) (a' := ?_) #[true, true, true, false, true, true, true, false, false, false, false, false, false, false, false] rfl rfl (by kernel_rfl) (fun _ _ _ h => h) (Or.inl ⟨by rfl, ?_⟩) ?_ ?_
          rotate_left
          · intro w'
            go_simp
            with_reducible rfl
          rotate_left
          · simp only [Act.put, List.setIfInBounds_toArray, List.set_cons_zero, List.set_cons_succ, i64_w, i32_w]
            rfl
          refine pure_ (i := 7) (N := some 96) (v := ?_) (a' := ?_) #[true, true, true, false, true, true, true, true, false, false, false, false, false, false, false] rfl rfl (by kernel_rfl) (fun _ _ _ h => h) (Or.inl ⟨by rfl, ?_⟩) ?_ ?_
          rotate_left
          · intro w'
            go_simp
            with_reducible rfl
          rotate_left
          · simp only [Act.put, List.setIfInBounds_toArray, List.set_cons_zero, List.set_cons_succ, i64_w, i32_w]
            rfl
          refine pure_ (i := 8) (N := some 97) (v := ?_) (a' := ?_) #[true, true, true, false, true, true, true, true, true, false, false, false, false, false, false] rfl rfl (by kernel_rfl) (fun _ _ _ h => h) (Or.inl ⟨by rfl, ?_⟩) ?_ ?_
          rotate_left
          · intro w'
            go_simp
            with_reducible rfl
          rotate_left
          · simp only [Act.put, List.setIfInBounds_toArray, List.set_cons_zero, List.set_cons_succ, i64_w, i32_w]
            rfl
          refine pure_ (i := 9) (N := some 98) (v := ?_) (a' := ?_) #[true, true, true, false, true, true, true, true, true, true, false, false, false, false, false] rfl rfl (by kernel_rfl) (fun _ _ _ h => h) (Or.inl ⟨by rfl, ?_⟩) ?_ ?_
          rotate_left
          · intro w'
            go_simp
            with_reducible rfl
          rotate_left
          · simp only [Act.put, List.setIfInBounds_toArray, List.set_cons_zero, List.set_cons_succ, i64_w, i32_w]
            rfl
          refine pure_ (i := 10) (N := some 99) (v := ?_) (a' := ?_) #[true, true, true, false, true, true, true, true, true, true, true, false, false, false, false] rfl rfl (by kernel_rfl) (fun _ _ _ h => h) (Or.inl ⟨by rfl, ?_⟩) ?_ ?_
          rotate_left
          · intro w'
            go_simp
            with_reducible rfl
          rotate_left
          · simp only [Act.put, List.setIfInBounds_toArray, List.set_cons_zero, List.set_cons_succ, i64_w, i32_w]
            rfl
          refine pure_ (i := 11) (N := some 100) (v := ?_) (a' := ?_) #[true, true, true, false, true, true, true, true, true, true, true, true, false, false, false] rfl rfl (by kernel_rfl) (fun _ _ _ h => h) (Or.inl ⟨by rfl, ?_⟩) ?_ ?_
          rotate_left
          · intro w'
            go_simp
            with_reducible rfl
          rotate_left
          · simp only [Act.put, List.setIfInBounds_toArray, List.set_cons_zero, List.set_cons_succ, i64_w, i32_w]
            rfl
          refine pure_ (i := 12) (N := some 101) (v := ?_) (a' := ?_) #[true, true, true, false, true, true, true, true, true, true, true, true, true, false, false] rfl rfl (by kernel_rfl) (fun _ _ _ h => h) (Or.inl ⟨by rfl, ?_⟩) ?_ ?_
          rotate_left
          · intro w'
            go_simp
            with_reducible rfl
          rotate_left
          · simp only [Act.put, List.setIfInBounds_toArray, List.set_cons_zero, List.set_cons_succ, i64_w, i32_w]
            rfl
          refine take_ (i := 3) (N := some 92) (v := ?_) (a' := ?_) #[true, true, true, true, true, true, true, true, true, true, true, true, true, false, false] rfl rfl (by kernel_rfl) (fun _ _ _ h => h) (Or.inl ⟨by rfl, ?_⟩) hHeld ?_ ?_
          rotate_left
          · rintro w' ⟨s0, s1⟩
            go_simp
            with_reducible rfl
          rotate_left
          · simp only [Act.put, List.setIfInBounds_toArray, List.set_cons_zero, List.set_cons_succ, i64_w, i32_w]
            rfl
          refine one_ (i := 13) (N := some 102) #[true, true, true, true, true, true, true, true, true, true, true, true, true, true, false] rfl rfl (by kernel_rfl) (by decide) (fun K hK => ?_)
          have hsc := same_calls Ap A2 cp (c - lo) P P _ (HPc.out.below (below_drew1 (Below.refl _ _))) (HI2.out.below hHeld.2.out.1) (by rw [hpl]; exact HPb.out) rfl
          rw [hpl] at hsc
          refine goes_ Tryd.func19 (by kernel_rfl) rfl #[.slice Ap n cp, .slice A2 n (c - lo)] (by rfl) rfl rfl (by simp only [List.map_toArray, List.map_cons, List.map_nil]; rfl) ?_
          with_reducible refine (hsc).mono ?_
          rintro e w20 ⟨rfl, hd⟩
          refine ⟨_, rfl, ?_⟩
          clear hsc
          have n0 := pw_cell_below hd.below hHeld.1
          have nB := below_then hHeld.2.out.1 hHeld.2.out.1.size hd.below
          have nC := Kd.C_below hHeld.2.out.2 hd.below
          have HB20 := Aside0.mk nB
          have HC20 := Aside0.mk nC
          clear hHeld hd
          refine hK.out _ _ ⟨n0, ⟨nB, nC⟩⟩ (fun hHeld => ?_)
          clear hK K
          refine norm_ (a' := ?_) ?_ ?_
          rotate_left
          · show Act.put _ (some 102) _ = _
            simp only [Act.put, List.setIfInBounds_toArray, List.set_cons_zero, List.set_cons_succ, i64_w, i32_w]
            rfl
          refine pure_ (i := 14) (N := some 103) (v := ?_) (a' := ?_) #[true, true, true, true, true, true, true, true, true, true, true, true, true, true, true] rfl rfl (by kernel_rfl) (fun _ _ _ h => h) (Or.inl ⟨by rfl, ?_⟩) ?_ ?_
          rotate_left
          · intro w'
            go_simp
            with_reducible rfl
          rotate_left
          · simp only [Act.put, List.setIfInBounds_toArray, List.set_cons_zero, List.set_cons_succ, i64_w, i32_w]
            rfl
          refine done_ (by kernel_rfl) ?_
          clear hHeld n0 nB nC HCl
          go_wp2
          clear wA wB wC wD wE wF hmid
          go_roundw
          case rel => exact ⟨i1, rfl, by have := HI1.out; omega, HB20, HC20⟩
          case measure =>
            have := HI1.out
            simp [intOf]
            omega
        · obtain rfl : i = m := by omega
          have hja : decide ((i : Int) < (i : Int)) = false := decide_eq_false (by omega)
          have hjc : decide (i < i) = false := decide_eq_false (by omega)
          have hfl2 : (prt l n i).flatten = l := by rw [prt_flat l n i (by rw [HN.out.2]; omega), HN.out.2, List.take_length]
          obtain ⟨kq, hkq⟩ := (join_is (prt l n i) (by rw [hfl2]; omega) (by rw [prt_len]; omega)).rounds
          rw [hfl2] at hkq
          have HKq := Aside0.mk hkq
          have hpl := prt_len l n i
          clear hkq hfl2
          go_wp2_with fail
          have hj := rows_Join.calls kq Bp dp (prt l n i) l _ (by rw [hpl]; exact HC.out) (by rw [hpl]; exact HM4.out) HKq.out
          rw [hpl] at hj
          with_reducible refine hj.mono ?_
          clear hj
          rintro e w22 ⟨v, rfl, hr, hb⟩
          obtain ⟨Aj2, cj2, hv, hlj, hcj⟩ := Kd.R_reads hr
          subst hv
          have HB22 := Aside0.mk (below_then HB.out HB.out.size hb)
          have HJ22 := Aside0.mk (In.mk hcj hlj)
          clear hb hr hlj hcj HB HC
          go_wp2_with fail
          with_reducible refine (same_calls Aj2 A cj2 c l l _ HJ22.out (HL0.out.below HB22.out) (by omega) rfl).mono ?_
          rintro e w23 ⟨rfl, hd⟩
          have HB23 := Aside0.mk (below_then HB22.out HB22.out.size hd.below)
          clear hd HJ22 HB22
          go_wp2
          go_ret
          exact ⟨rfl, HB23.out⟩
def IsRows (w : World) (a : Option Addr) (len cap : Nat) : Prop := (a = none ∧ len = 0 ∧ cap = 0) ∨ ∃ y, a = some y ∧ len ≤ cap ∧ cap ≤ maxLen ∧ ∀ j, j < len → ∃ (ai : Option Addr) (li ci : Nat) (zi : List Int), w.cell? (y.add j) = some (.slice ai li ci) ∧ ((ai = none ∧ li = 0 ∧ ci = 0 ∧ zi = []) ∨ ∃ x, ai = some x ∧ li ≤ ci ∧ ci ≤ maxLen ∧ zi.length = ci ∧ (∀ i, i < zi.length → w.cell? (x.add i) = some (.int .u64 (zi.getD i 0))) ∧ ∀ n ∈ zi, (Lit.int .u64 n).wf = true)
theorem rows_list {w : World} {y : Addr} (k : Nat) (h : ∀ j, j < k → ∃ (ai : Option Addr) (li ci : Nat) (zi : List Int), w.cell? (y.add j) = some (.slice ai li ci) ∧ ((ai = none ∧ li = 0 ∧ ci = 0 ∧ zi = []) ∨ ∃ x, ai = some x ∧ li ≤ ci ∧ ci ≤ maxLen ∧ zi.length = ci ∧ (∀ i, i < zi.length → w.cell? (x.add i) = some (.int .u64 (zi.getD i 0))) ∧ ∀ n ∈ zi, (Lit.int .u64 n).wf = true)) : ∃ ps : List (List Int), ps.length = k ∧ ∀ j p, ps[j]? = some p → ∃ A c, w.cell? (y.add j) = some (.slice A p.length c) ∧ p.length ≤ c ∧ Kd.C (Kd.int .u64) w A p.length p := by
  induction k with
  | zero => exact ⟨[], rfl, fun j p hj => by simp at hj⟩
  | succ k ih =>
    obtain ⟨ps, hl, hp⟩ := ih (fun j hj => h j (by omega))
    obtain ⟨ai, li, ci, zi, hc, hz⟩ := h k (by omega)
    obtain ⟨l, rfl, hI, _⟩ := In.of hz
    refine ⟨ps ++ [l], by simp [hl], fun j p hj => ?_⟩
    by_cases hjk : j < k
    · rw [List.getElem?_append_left (by omega)] at hj
      exact hp j p hj
    · have hj2 := (List.getElem?_eq_some_iff.1 hj).1
      simp only [List.length_append, List.length_singleton] at hj2
      obtain rfl : j = k := by omega
      rw [List.getElem?_append_right (by omega), hl, Nat.sub_self] at hj
      obtain rfl : l = p := by simpa using hj
      exact ⟨ai, ci, hc, hI.c, hI.r⟩
theorem rows_of {w : World} {a : Option Addr} {len cap : Nat} (h : IsRows w a len cap) : ∃ ps : List (List Int), len = ps.length ∧ Kd.C LL w a ps.length ps ∧ ps.length ≤ cap := by
  rcases h with ⟨rfl, rfl, rfl⟩ | ⟨y, rfl, hl, hm, hc⟩
  · exact ⟨[], rfl, ⟨rfl, by simp, fun h => absurd h (Nat.lt_irrefl 0)⟩, Nat.le_refl _⟩
  · obtain ⟨ps, hk, hp⟩ := rows_list len hc
    refine ⟨ps, hk.symm, ⟨rfl, by rw [hk]; simp only [maxLen] at hm; omega, fun _ => ⟨y, rfl, fun j p hj => ?_⟩⟩, by omega⟩
    obtain ⟨A, c, h1, h2, h3⟩ := hp j p hj
    refine ⟨[.slice A p.length c], rfl, ⟨A, c, rfl, h2, h3⟩, fun i u hu => ?_⟩
    have h1' : i = 0 := by
      have := (List.getElem?_eq_some_iff.1 hu).1
      simp at this
      exact this
    subst h1'
    obtain rfl : Value.slice A p.length c = u := by simpa using hu
    rw [show j * LL.sz + 0 = j from by show j * 1 + 0 = j; omega]
    exact h1
theorem RowsPartsRow (a0 : Option Addr) (len0 cap0 : Nat) (z0 : List Int) (a1 : Int) (a2 : Option Addr) (len2 cap2 : Nat) (w : World)
    (w0 : (a0 = none ∧ len0 = 0 ∧ cap0 = 0 ∧ z0 = []) ∨ ∃ x, a0 = some x ∧ len0 ≤ cap0 ∧ cap0 ≤ maxLen ∧ z0.length = cap0 ∧ (∀ i, i < z0.length → w.cell? (x.add i) = some (.int .u64 (z0.getD i 0))) ∧ ∀ n ∈ z0, (Lit.int .u64 n).wf = true) (w2 : IsRows w a2 len2 cap2) (hT : TabOK w) :
    Calls Tryd.prog 12 #[.slice a0 len0 cap0, .int .i64 a1, .slice a2 len2 cap2] w fun e w' => e = .returned (.bool true) ∧ Below w.heap.size w w' := by
  obtain ⟨l, rfl, hl, hW⟩ := In.of w0
  obtain ⟨ps, rfl, hP, he⟩ := rows_of w2
  by_cases h1 : 100 < l.length ∨ 20 < ps.length
  · exact pa_long a0 a2 cap0 cap2 l ps a1 w h1 hT
  by_cases hn : a1 < 1
  · exact pa_no a0 a2 cap0 cap2 l ps a1 hn w hl hP he (by omega) (by omega) hT
  by_cases ho : Int.tmod (l.length : Int) a1 = 0
  · obtain ⟨n, rfl⟩ := Int.eq_ofNat_of_zero_le (show 0 ≤ a1 by omega)
    have ho2 : l.length % n = 0 := by rw [← Int.ofNat_tmod] at ho; exact_mod_cast ho
    exact pa_yes a0 a2 cap0 cap2 l ps n (l.length / n) (by omega) (Nat.div_mul_cancel (Nat.dvd_of_mod_eq_zero ho2)) w hl hP he (by omega) (by omega) hT
  · exact pa_odd a0 a2 cap0 cap2 l ps a1 (by omega) ho w hl hP he (by omega) (by omega) hT
end Go.Proofs.YtpnkcjnemoompaaDoor.Kern
end
