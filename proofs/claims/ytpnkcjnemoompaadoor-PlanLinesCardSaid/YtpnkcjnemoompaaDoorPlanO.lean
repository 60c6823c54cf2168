import Derived.Test.YtpnkcjnemoompaaDoorPlanN
import Derived.Test.YtpnkcjnemoompaaDoorPlanL
/-! Plan: digits, texts, names. -/
namespace Go.Proofs.YtpnkcjnemoompaaDoor.Plan
open Go.RowKit Go.Proofs.YtpnkcjnemoompaaDoor Go.Proofs.YtpnkcjnemoompaaDoor.Ext Go.Proofs.YtpnkcjnemoompaaDoor.PPlan Go.Proofs.YtpnkcjnemoompaaDoor.Pure Go.Proofs.YtpnkcjnemoompaaDoor.Obj Go.Proofs.YtpnkcjnemoompaaDoorW.PrintWords Go.Proofs.YtpnkcjnemoompaaDoorW.PrintLast Go.Proofs.YtpnkcjnemoompaaDoorW.PrintMore
set_option linter.unusedVariables false
set_option linter.unusedSimpArgs false
set_option maxRecDepth 100000

theorem dig_le (u : Nat) (hu : u < 18446744073709551616) : (dig u).size ≤ 20 := by
  have h7 : (Lib.decDigits u).length ≤ 20 := by
    rw [Lib.decDigits_length]
    by_cases h0 : u = 0
    · subst h0; decide +kernel
    · have := Lib.numDigits_eq u (by omega) hu; split at this <;> omega
  simpa [dig, ByteArray.size] using h7
theorem dig1 (u : Nat) (h : u < 10) : strOfNums [IntKind.u64.wrap (48 + Int.tmod (u : Int) 10) % 256] = dig u := by
  rw [dig, Lib.decDigits_one h, IntKind.wrap_u64, Int.tmod_eq_emod_of_nonneg (by omega)]
  have e : ((48 + (u : Int) % 10) % 18446744073709551616 % 256) = ((48 + u : Nat) : Int) := by omega
  rw [e]
  rfl
theorem digb (u : Nat) : strOfNums [IntKind.u64.wrap (48 + Int.tmod (u : Int) 10) % 256] = ⟨#[UInt8.ofNat (48 + u % 10)]⟩ := by
  rw [IntKind.wrap_u64, Int.tmod_eq_emod_of_nonneg (by omega)]
  have e : ((48 + (u : Int) % 10) % 18446744073709551616 % 256) = ((48 + u % 10 : Nat) : Int) := by omega
  rw [e]
  rfl
theorem digits_acc (n : Nat) : ∀ (u : Nat) (acc : ByteArray), u < 10 ^ n → u < 18446744073709551616 → acc.size + n ≤ 1000 → 0 < n → Ev (fun k => abacistref04_Digits.l0 k (u : Int) acc) (dig u ++ acc) := by
  induction n with
  | zero => intro u acc _ _ _ h; omega
  | succ n ih =>
    intro u acc hu hu2 ha _
    have e10 : IntKind.u64.wrap (Int.tdiv (u : Int) 10) = ((u / 10 : Nat) : Int) := by rw [IntKind.wrap_u64, Int.tdiv_eq_ediv_of_nonneg (by omega)]; omega
    have hs : (⟨#[UInt8.ofNat (48 + u % 10)]⟩ : ByteArray).size = 1 := rfl
    by_cases h : u < 10
    · refine Ev.step (f := fun _ => some (dig u ++ acc)) (fun k => ?_) (Ev.now _)
      simp only [abacistref04_Digits.l0]
      rw [Option.bind_some, digb, e10, hs, if_pos (by omega), if_pos (by omega)]
      rw [← digb, dig1 u h]
    · have h10 : u / 10 < 10 ^ n := by rw [Nat.pow_succ] at hu; omega
      have hn : 0 < n := by
        rcases Nat.eq_zero_or_pos n with rfl | q
        · simp at h10; omega
        · exact q
      refine Ev.step (f := fun k => abacistref04_Digits.l0 k ((u / 10 : Nat) : Int) (⟨#[UInt8.ofNat (48 + u % 10)]⟩ ++ acc)) (fun k => ?_) ?_
      · simp only [abacistref04_Digits.l0]
        rw [Option.bind_some, digb, e10, hs, if_pos (by omega), if_neg (by omega)]
      · have := ih (u / 10) (⟨#[UInt8.ofNat (48 + u % 10)]⟩ ++ acc) h10 (by omega) (by rw [ByteArray.size_append, hs]; omega) hn
        have e : dig u ++ acc = dig (u / 10) ++ (⟨#[UInt8.ofNat (48 + u % 10)]⟩ ++ acc) := by
          unfold dig
          rw [Lib.decDigits, dif_neg h]
          apply ByteArray.ext
          simp
        rw [e]
        exact this
theorem digits_is (u : Nat) (hu : u < 18446744073709551616) : Ev (fun k => abacistref04_Digits.f k (u : Int)) (dig u) := by
  have h := digits_acc 20 u ⟨#[]⟩ (by omega) hu (by decide) (by decide)
  have e : dig u ++ (⟨#[]⟩ : ByteArray) = dig u := by apply ByteArray.ext; simp
  rw [e] at h
  exact h
theorem name_calls (n : Nat) (hn : n < 4) (w : World) : Calls Tryd.prog 31 #[.int .i64 n] w fun e w' => e = .returned (.string (extw n)) ∧ Below w.heap.size w w' := by
  have HB := Aside0.mk (below_alloc (Below.refl w.heap.size w) (Obj.cells #[.string ⟨#[105, 110, 112, 117, 116]⟩, .string ⟨#[108, 101, 102, 116]⟩, .string ⟨#[114, 105, 103, 104, 116]⟩, .string ⟨#[111, 117, 116, 112, 117, 116]⟩] 105))
  rcases (by omega : n = 0 ∨ n = 1 ∨ n = 2 ∨ n = 3) with rfl | rfl | rfl | rfl
  all_goals
    clear hn
    go_enter Tryd.func31, Tryd.ntmps31
    go_wp2
    go_ret
    exact ⟨rfl, HB.out⟩
theorem nil_app (b : ByteArray) : (⟨#[]⟩ : ByteArray) ++ b = b := by apply ByteArray.ext; simp
theorem text_calls (x y : Nat) (A : Option Addr) (c : Nat) (w : World) (hx : x < 18446744073709551616) (hy : y < 18446744073709551616) (hl : In w A c [(x : Int), (y : Int)]) :
    Calls Tryd.prog 32 #[.slice A 2 c] w fun e w' => e = .returned (.string (dig x ++ ⟨#[32]⟩ ++ dig y)) ∧ Below w.heap.size w w' := by
  obtain ⟨n1, h1⟩ := (digits_is x hx).rounds
  obtain ⟨n2, h2⟩ := (digits_is y hy).rounds
  have H1 := Aside0.mk h1
  have H2 := Aside0.mk h2
  have HL := Aside0.mk hl
  have s1 := dig_le x hx
  have s2 := dig_le y hy
  clear h1 h2 hl hx hy
  go_enter Tryd.func32, Tryd.ntmps32
  go_wp2
  go_loopw [3, 4] (fun v3 v4 wr => ((v4 = .int .i64 0 ∧ v3 = .string ⟨#[]⟩) ∨ (v4 = .int .i64 1 ∧ v3 = .string (dig x)) ∨ (v4 = .int .i64 2 ∧ v3 = .string (dig x ++ ⟨#[32]⟩ ++ dig y))) ∧ Aside0 (Below w.heap.size w wr)) (fun _ v4 _ => 2 - (intOf v4).toNat)
  case atStart => exact ⟨.inl ⟨rfl, rfl⟩, ⟨Below.refl _ _⟩⟩
  case round =>
    obtain ⟨hv, HB⟩ := hrel
    rcases hv with ⟨rfl, rfl⟩ | ⟨rfl, rfl⟩ | ⟨rfl, rfl⟩
    · obtain ⟨ad, q, hc⟩ := C_at (HL.out.below HB.out).r 0 (by simp)
      cases q
      have hc' : wr.cell? ad = some (.int .u64 (x : Int)) := by rw [show ad.add 0 = ad from by cases ad; rfl] at hc; exact hc
      clear hc
      go_wp2_with fail
      with_reducible refine (abacistref04_Digits.calls n1 (x : Int) (dig x) _ H1.out).mono ?_
      rintro e w1 ⟨rfl, hb⟩
      have HB1 := Aside0.mk (below_then HB.out HB.out.size hb)
      clear hb hc'
      go_wp2
      go_roundw
      case rel => exact ⟨.inr (.inl ⟨by go_num, by rw [nil_app]⟩), HB1⟩
      case measure => simp [intOf]
    · obtain ⟨ad, q, hc⟩ := C_at (HL.out.below HB.out).r 1 (by simp)
      cases q
      have hc' : wr.cell? ⟨ad.block, ad.off + 1, none⟩ = some (.int .u64 (y : Int)) := hc
      clear hc
      go_wp2_with fail
      with_reducible refine (abacistref04_Digits.calls n2 (y : Int) (dig y) _ H2.out).mono ?_
      rintro e w1 ⟨rfl, hb⟩
      have HB1 := Aside0.mk (below_then HB.out HB.out.size hb)
      clear hb hc'
      go_wp2
      go_roundw
      case rel => exact ⟨.inr (.inr ⟨by go_num, by simp⟩), HB1⟩
      case measure => simp [intOf]
    · go_wp2
      go_ret
      exact ⟨rfl, HB.out⟩
end Go.Proofs.YtpnkcjnemoompaaDoor.Plan
