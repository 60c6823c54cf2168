/- The printed part of: the quotient and the rest of any two numbers are as the document says. -/
import Derived.Laws.BitsAllLaws
import Derived.OpenShut
import Derived.Test.YtmmgiolhfekplaaPWidex2
import Derived.Test.YtmmgiolhfekplaaPWidex5
import Derived.Test.YtmmgiolhfekplaaWNEv
import Derived.Test.YtmmgiolhfekplaaWideT
import Derived.Test.YtmmgiolhfekplaaWideS
import Derived.Test.YtmmgiolhfekplaaPRemsL
set_option linter.unusedVariables false
set_option linter.unusedSimpArgs false
namespace Go.Proofs.Ytmmgiolhfekplaa.Pure
open Go.RowKit Go.Proofs.Ytmmgiolhfekplaa Go.Proofs.Ytmmgiolhfekplaa.PRems Go.Proofs.Ytmmgiolhfekplaa.PWide Go.Proofs.Ytmmgiolhfekplaa.Ext Go.Proofs.YtmmgiolhfekplaaW.PrintWords Go.Proofs.YtmmgiolhfekplaaW.PrintLast Go.Proofs.YtmmgiolhfekplaaW.PrintMore Go.Proofs.Ytmmgiolhfekplaa.PRems

theorem evIf {α : Type} {c : Prop} [Decidable c] {f g : Nat → Option α} {r : α} (hc : c) (h : Ev f r) : Ev (fun n => if c then f n else g n) r := Ev.congr (fun _ => if_pos hc) h
theorem evIfn {α : Type} {c : Prop} [Decidable c] {f g : Nat → Option α} {r : α} (hc : ¬ c) (h : Ev g r) : Ev (fun n => if c then f n else g n) r := Ev.congr (fun _ => if_neg hc) h
theorem evEq {α β : Type} {o : Option α} {x : α} {f : Nat → α → Option β} {r : β} (h : o = some x) (e : Ev (fun n => f n x) r) : Ev (fun n => o.bind (f n)) r := Ev.congr (fun n => by show o.bind (f n) = f n x; rw [h]; rfl) e
theorem rems_back (a m q r : Nat) (hm : m < 18446744073709551616) (h : m * q + r = a) (ha : a < 340282366920938463463374607431768211456) :
    ((q % 18446744073709551616) * m + ((q / 18446744073709551616) * m * 18446744073709551616 % 340282366920938463463374607431768211456 + (r + 0))) % 340282366920938463463374607431768211456 = a ∧ (q / 18446744073709551616) * m < 18446744073709551616 := by
  have e : q = 18446744073709551616 * (q / 18446744073709551616) + q % 18446744073709551616 := (Nat.div_add_mod q _).symm
  generalize q / 18446744073709551616 = x at *
  generalize q % 18446744073709551616 = y at *
  subst e
  have e2 : m * (18446744073709551616 * x + y) = (x * m) * 18446744073709551616 + y * m := by
    rw [Nat.mul_add, Nat.mul_comm m y, ← Nat.mul_assoc, Nat.mul_comm m 18446744073709551616, Nat.mul_assoc, Nat.mul_comm m x, Nat.mul_comm (x * m)]
  rw [e2] at h
  generalize x * m = u at *
  generalize y * m = v at *
  omega
theorem val_hl (v : Nat) : val ⟨hiw v, low v⟩ = v := by show (hiw v * 18446744073709551616 + low v).toNat = v; unfold hiw low; omega
theorem fits_hl (v : Nat) (h : v < 340282366920938463463374607431768211456) : Fits ⟨hiw v, low v⟩ := by
  have h1 := hiw_range v h
  have h2 := low_range v
  exact ⟨h1.1, by show hiw v ≤ _; omega, h2.1, by show low v ≤ _; omega⟩
def tail_ (k : Nat) (a : Nat) (m : Int) (bt148 : Int × Int × Int × Int) (bt153 : Int × Int × Int) : Option Bool :=
  (wide_Mul.f bt148.2.1 m).bind fun bt157 => ((wide_Mul.f bt148.1 m).bind fun bt159 => ((wide_Shl.f bt159.1 bt159.2 64).bind fun bt163 => ((wide_Sum.f k (([(⟨bt157.1, bt157.2⟩ : S40), (⟨bt163.1, bt163.2⟩ : S40), (⟨0, bt148.2.2.1⟩ : S40)] : List (S40)))).bind fun bt168 => (if bt148.2.2.2 = 0 then (if (bt148.1 == bt153.1 && (bt148.2.1 == bt153.2.1)) = true then (if bt148.2.2.1 = bt153.2.2 then (if bt148.2.2.1 < m then (if (bt168.1 == hiw a && (bt168.2 == low a)) = true then (some (bt159.1 == 0)) else (none)) else (none)) else (none)) else (none)) else (none)))))
theorem tail_ok (a m q r u v z : Nat) (hr : r < m) (hb2 : v < 18446744073709551616)
    (m1 : wide_Mul.f (low q) (m : Int) = some (hiw u, low u)) (m2 : wide_Mul.f (hiw q) (m : Int) = some (hiw v, low v)) (s1 : wide_Shl.f (hiw v) (low v) 64 = some (hiw z, low z))
    (st : Ev (fun k => wide_Sum.f k [⟨hiw u, low u⟩, ⟨hiw z, low z⟩, ⟨0, (r : Int)⟩]) (hiw a, low a)) :
    Ev (fun k => tail_ k a (m : Int) (hiw q, low q, (r : Int), 0) (hiw q, low q, (r : Int))) true := by
  have hh : hiw v = 0 := (hiw_small v hb2).1
  have hr2 : (r : Int) < (m : Int) := by omega
  unfold tail_
  dsimp only
  refine evEq m1 ?_
  dsimp only
  refine evEq m2 ?_
  dsimp only
  refine evEq s1 ?_
  dsimp only
  refine Ev.bind st ?_
  dsimp only
  rw [if_pos rfl, if_pos (by simp), if_pos rfl, if_pos hr2, if_pos (by simp), hh]
  exact Ev.now _
theorem rems_zero (a : Nat) : Ev (fun k => wide_Rem.f k (hiw a) (low a) ((0 : Nat) : Int)) ((0 : Int), (0 : Int), (0 : Int), (13 : Int)) := by
  refine Ev.congr (fun k => ?_) (Ev.now ((0 : Int), (0 : Int), (0 : Int), (13 : Int)))
  unfold wide_Rem.f; rw [if_pos (by omega)]
theorem shl64_ (v : Nat) (hv : v < 340282366920938463463374607431768211456) : wide_Shl.f (hiw v) (low v) 64 = some (hiw (v * 18446744073709551616 % 340282366920938463463374607431768211456), low (v * 18446744073709551616 % 340282366920938463463374607431768211456)) := by
  have s := wshl_ v 64 hv (by decide) (by decide)
  rwa [show (2 : Nat) ^ (64 : Int).toNat = 18446744073709551616 by decide] at s
theorem val_r (r : Nat) : val ⟨0, (r : Int)⟩ = r := by show ((0 : Int) * 18446744073709551616 + (r : Int)).toNat = r; omega
theorem fits_r (r : Nat) (h : r < 18446744073709551616) : Fits ⟨0, (r : Int)⟩ := ⟨by show (0 : Int) ≤ 0; omega, by show (0 : Int) ≤ _; omega, by show (0 : Int) ≤ (r : Int); omega, by show (r : Int) ≤ _; omega⟩
theorem sum3_ (a u z r : Nat) (hu : u < 340282366920938463463374607431768211456) (hz : z < 340282366920938463463374607431768211456) (hr : r < 18446744073709551616)
    (hb : (u + (z + (r + 0))) % 340282366920938463463374607431768211456 = a) : Ev (fun k => wide_Sum.f k [⟨hiw u, low u⟩, ⟨hiw z, low z⟩, ⟨0, (r : Int)⟩]) (hiw a, low a) := by
  have st := sum_ [⟨hiw u, low u⟩, ⟨hiw z, low z⟩, ⟨0, (r : Int)⟩] (by show 3 ≤ 20; decide) (by
    intro x hx
    simp only [List.mem_cons, List.not_mem_nil, or_false] at hx
    rcases hx with rfl | rfl | rfl
    · exact fits_hl u hu
    · exact fits_hl z hz
    · exact fits_r r hr)
  have et : total [⟨hiw u, low u⟩, ⟨hiw z, low z⟩, ⟨0, (r : Int)⟩] = u + (z + (r + 0)) := by
    unfold total
    simp only [List.map_cons, List.map_nil, List.sum_cons, List.sum_nil, val_hl, val_r]
  rw [et, hb] at st
  exact st
theorem rems_parts (a m : Nat) (ha : a < 340282366920938463463374607431768211456) (hm0 : 0 < m) (hm : m < 18446744073709551616) :
    Ev (fun k => tail_ k a (m : Int) (hiw (a / m), low (a / m), ((a % m : Nat) : Int), 0) (hiw (a / m), low (a / m), ((a % m : Nat) : Int))) true := by
  have hb := rems_back a m (a / m) (a % m) hm (Nat.div_add_mod a m) ha
  have hq : a / m < 340282366920938463463374607431768211456 := Nat.lt_of_le_of_lt (Nat.div_le_self _ _) ha
  have hr : a % m < m := Nat.mod_lt _ hm0
  generalize a / m = q at *
  generalize a % m = r at *
  obtain ⟨hb1, hb2⟩ := hb
  have h1 : q / 18446744073709551616 < 18446744073709551616 := by clear hb1 hb2; omega
  have h2 : q % 18446744073709551616 < 18446744073709551616 := Nat.mod_lt _ (by decide)
  exact tail_ok a m q r _ _ _ hr hb2 (wmul_ (q % 18446744073709551616) m h2 hm) (wmul_ (q / 18446744073709551616) m h1 hm) (shl64_ _ (mul_lt (q / 18446744073709551616) m h1 hm))
    (sum3_ a _ _ r (mul_lt (q % 18446744073709551616) m h2 hm) (mod_L _) (Nat.lt_trans hr hm) hb1)
def head_ (k : Nat) (a : Nat) (m : Int) (bt148 : Int × Int × Int × Int) : Option Bool :=
  if m = 0 then (if bt148.2.2.2 = 13 then (if (bt148.1 == 0 && (bt148.2.1 == 0)) = true then (some (bt148.2.2.1 == 0)) else (none)) else (none)) else ((abacistref01_Rem.f k (hiw a) (low a) m).bind fun bt153 => tail_ k a m bt148 bt153)
theorem law_eq (k a : Nat) (m : Int) : abacistlaw01_WideRems.f k (hiw a) (low a) m = (abacistlaw01_awake.f k).bind fun t147 => (if t147 = true then ((wide_Rem.f k (hiw a) (low a) m).bind fun bt148 => head_ k a m bt148) else none) := by
  unfold abacistlaw01_WideRems.f head_ tail_
  rfl
theorem WideRems (a m : Nat) (ha : a < 340282366920938463463374607431768211456) (hm : m < 18446744073709551616) : Ev (fun k => abacistlaw01_WideRems.f k (hiw a) (low a) (m : Int)) true := by
  refine Ev.congr (fun k => law_eq k a (m : Int)) ?_
  refine Ev.bind awake_ ?_
  refine Ev.congr (fun k => if_pos rfl) ?_
  rcases Nat.eq_zero_or_pos m with rfl | hm0
  · refine Ev.bind (rems_zero a) ?_
    refine Ev.congr (fun k => ?_) (Ev.now true)
    unfold head_
    rw [if_pos (by omega), if_pos rfl]
    rfl
  · refine Ev.bind (wrem_ a m ha hm0 hm) ?_
    refine Ev.congr (fun k => if_neg (show ¬ (m : Int) = 0 by omega)) ?_
    exact Ev.bind (rrem_ a m ha hm0 hm) (rems_parts a m ha hm0 hm)
theorem WideRemsCalls_ (a b c : Int) (ha : (Lit.int .u64 a).wf = true) (hb : (Lit.int .u64 b).wf = true) (hc : (Lit.int .u64 c).wf = true) (w : World) :
    Calls Try.prog 9 #[.agg #[.int .u64 a, .int .u64 b], .int .u64 c] w fun e w' => e = .returned (.bool true) ∧ Below w.heap.size w w' := by
  have b0 := bounds_u64 ha
  have b1 := bounds_u64 hb
  have b2 := bounds_u64 hc
  obtain ⟨m, rfl⟩ := Int.eq_ofNat_of_zero_le b2.1
  obtain ⟨v, hv, rfl, rfl⟩ := wide_of a b b0.1 b1.1 b0.2 b1.2
  obtain ⟨k, hk⟩ := (WideRems v m hv (by omega)).rounds
  exact abacistlaw01_WideRems.calls k (hiw v) (low v) (m : Int) true w hk
end Go.Proofs.Ytmmgiolhfekplaa.Pure
