import Derived.Test.YtmmgiolhfekplaaProg
import Derived.Test.YtmmgiolhfekplaaMk
import Derived.Test.YtmmgiolhfekplaaShelfB
import Derived.Shelf.Strings.Builder1
import Derived.WalkKit
import Derived.Lib.Hide
import Derived.Deep.LoopGhost
import Derived.Outline
import Derived.Laws.BitsAllLaws
namespace Go.Proofs.Ytmmgiolhfekplaa.Ext
open Go.RowKit Go.Proofs.YtmmgiolhfekplaaW.PrintWords Go.Proofs.YtmmgiolhfekplaaW.PrintLast Go.Proofs.YtmmgiolhfekplaaW.PrintMore
set_option linter.unusedVariables false
set_option linter.unusedSimpArgs false

set_option maxRecDepth 100000 in
theorem cc_used (b : Nat) (w : World) (h0 : w.cell? ⟨b, 0, none⟩ = some (.pointer (some ⟨b, 0, none⟩))) :
    Calls Try.prog 51 #[.pointer (some ⟨b, 0, none⟩)] w fun e w' => e = .returned (.tuple #[]) ∧ w' = w := by
  obtain ⟨j, hj, _⟩ := Option.map_eq_some_iff.1 (Lay.Builder_Extra_169).sizeBuilder
  go_enter Try.func51, Try.ntmps51
  go_wp2
  rw [Lib.run_neq_ptr_same w _ Try.underlying61 hj]
  go_wp2
  go_end0
  exact ⟨rfl, rfl⟩
set_option maxRecDepth 100000 in
theorem cc_fresh (b : Nat) (w : World) (h0 : w.cell? ⟨b, 0, none⟩ = some (.pointer none)) (hsh : w.shape? b = some (63, 2)) (hfz : w.frozen? ⟨b, 0, none⟩ = false) :
    Calls Try.prog 51 #[.pointer (some ⟨b, 0, none⟩)] w fun e w' => e = .returned (.tuple #[]) ∧ w' = w.setCell ⟨b, 0, none⟩ (.pointer (some ⟨b, 0, none⟩)) := by
  obtain ⟨j, hj, hjs⟩ := Option.map_eq_some_iff.1 (Lay.Builder_Extra_169).sizeBuilder
  go_enter Try.func51, Try.ntmps51
  go_wp2
  rw [Lib.run_to_unsafe w ⟨b, 0, none⟩ Try.underlying61 Try.underlying80 hj (by rw [hjs]; decide) hsh (Nat.zero_lt_succ 1)]
  simp only [Result.andThen]
  rw [Oper.upon_value]
  go_wp2
  rw [run_callFunc_extern Try.func55 (by kernel_rfl) (by kernel_rfl) (by kernel_rfl) (e := Extern.AbiNoEscape.same) (by kernel_rfl)]
  rw [Lib.run_noEscape]
  simp only [Result.andThen]
  rw [Oper.upon_value]
  go_wp2
  rw [Lib.run_from_unsafe w ⟨b, 0, none⟩ Try.underlying80 Try.underlying61 hj hsh (Lay.Builder_Extra_169).liesBuilder]
  simp only [Result.andThen]
  rw [Oper.upon_value]
  go_wp2
  go_end0
  exact ⟨rfl, rfl⟩
theorem cc_any (B b : Nat) (bs : List Value) (w : World) (h : Lib.IsBuilder 63 5 B b bs w) :
    Calls Try.prog 51 #[.pointer (some ⟨b, 0, none⟩)] w fun e w' => e = .returned (.tuple #[]) ∧ (Lib.BuilderAt 63 5 B b (.pointer (some ⟨b, 0, none⟩)) bs w' ∧ Below B w w') := by
  rcases h with h | h
  · refine (cc_fresh b w h.cell0 h.shape h.frozen0).mono ?_
    rintro e w' ⟨rfl, rfl⟩
    exact ⟨rfl, h.used _, (Below.refl B w).setCell (p := ⟨b, 0, none⟩) h.1 _⟩
  · refine (cc_used b w h.cell0).mono ?_
    rintro e w' ⟨rfl, rfl⟩
    exact ⟨rfl, h, Below.refl B _⟩
set_option maxHeartbeats 2000000 in
set_option maxRecDepth 100000 in
theorem writeByte_ (B b : Nat) (bs : List Value) (c : Int) (w : World) (h : Lib.IsBuilder 63 5 B b bs w) (hlen : bs.length + 1 ≤ 140737488355328) (hBw : B ≤ w.heap.size) :
    Calls Try.prog 39 #[.pointer (some ⟨b, 0, none⟩), .int .u8 c] w fun e w' => e = .returned .nilIface ∧ (Lib.IsBuilder 63 5 B b (bs ++ [.int .u8 c]) w' ∧ Below B w w') := by
  obtain ⟨i0, hi, hz0, hz1, hz2⟩ := info_parts (show (Try.prog.info? 5).map (fun i => (i.zero, i.size, i.bytes)) = some (some (.int .u8 0), 1, 1) by kernel_rfl)
  go_enter Try.func39, Try.ntmps39
  go_wp2_with fail
  refine (cc_any B b bs _ h).mono ?_
  rintro e w1 ⟨rfl, h1, hb1⟩
  obtain ⟨hB, v, hbk, hown, hne⟩ := h1
  have c0 : w1.cell? ⟨b, 0, none⟩ = some (.pointer (some ⟨b, 0, none⟩)) := by rw [Lib.cell_of_heap hbk]; rfl
  have c1 : w1.cell? ⟨b, 1, none⟩ = some v := by rw [Lib.cell_of_heap hbk]; rfl
  go_wp2_with (at_builtin; refine wpList_append_own _ rfl _ _ 60 rfl B 5 i0 (.int .u8 0) 1 1 Try.underlying60 hi hz0 hz1 hz2 rfl (by decide) _ _ _ rfl (hown.alloc _) ⟨w1.heap.size, 0, none⟩ 1 1 [.int .u8 c] rfl rfl ?c1 ?c2 ?c3 ?c4 ?c5 ?_)
  case c1 =>
    intro j u hj
    match j, hj with
    | 0, hj => simp at hj; subst hj; simp [Addr.add]
  case c2 => intro u hu; simp at hu; subst hu; rfl
  case c3 => unfold maxLen; omega
  case c4 => omega
  case c5 => have := hb1.size; simp; omega
  intro v' w2 hown' hgrow _
  have hlt : b < w1.heap.size := by
    rcases Nat.lt_or_ge b w1.heap.size with h' | h'
    · exact h'
    · simp [Array.getElem?_eq_none h'] at hbk
  have hb2 : w2.heap[b]? = some (.cells #[.pointer (some ⟨b, 0, none⟩), v] 63 (0, 0)) := by
    rw [hgrow.block b (by simp; omega) (fun e => hne e.symm), Lib.alloc_old w1 _ b hlt]
    exact hbk
  have d0 : w2.cell? ⟨b, 0, none⟩ = some (.pointer (some ⟨b, 0, none⟩)) := by rw [Lib.cell_of_heap hb2]; rfl
  have d1 : w2.cell? ⟨b, 1, none⟩ = some v := by rw [Lib.cell_of_heap hb2]; rfl
  have f1 : w2.frozen? ⟨b, 1, none⟩ = false := Lib.frozen_of_heap hb2 1
  obtain ⟨g, cap, rfl⟩ : ∃ g cap, v' = .slice (some ⟨g, 0, none⟩) (bs.length + 1) cap := by
    rcases hown'.2 with ⟨_, h0⟩ | ⟨g, cap, cur, hv, _⟩
    · omega
    · exact ⟨g, cap, hv⟩
  go_wp2
  go_ret
  refine ⟨rfl, .inr ?_, ?_⟩
  · exact Lib.BuilderAt.put (T := 63) (e := 5) hB hb2 (bs' := bs ++ [.int .u8 c]) (by simpa using hown') (by decide)
  · exact ((hb1.alloc (by have := hb1.size; omega) _).grown hgrow (by have := hb1.size; simp; omega) (fun k hk => (hown.lt k hk).1)).setCell (p := ⟨b, 1, none⟩) hB _
/-- A number's digit, as a byte. -/
def dg (n : Nat) : UInt8 := #[48, 49, 50, 51, 52, 53, 54, 55, 56, 57, 97, 98, 99, 100, 101, 102].getD n 0
/-- A word's last digits. -/
def hexw (w : Nat) : Nat → List UInt8
  | 0 => []
  | j + 1 => hexw w j ++ [dg (w / 16 ^ (15 - j) % 16)]
def hexl (l : List Int) : List UInt8 := l.flatMap fun x => hexw x.toNat 16
theorem hexw_len (w : Nat) : ∀ j, (hexw w j).length = j
  | 0 => rfl
  | j + 1 => by simp [hexw, hexw_len w j]
theorem hexl_len (l : List Int) : (hexl l).length = 16 * l.length := by
  induction l with
  | nil => rfl
  | cons x l ih => simp [hexl, hexw_len] at ih ⊢; omega
theorem hexl_snoc (l : List Int) (x : Int) : hexl (l ++ [x]) = hexl l ++ hexw x.toNat 16 := by unfold hexl; rw [List.flatMap_append, List.flatMap_cons, List.flatMap_nil, List.append_nil]
theorem byteCells_len (l : List UInt8) : (Lib.byteCells l).length = l.length := by simp [Lib.byteCells]
theorem byteCells_snoc (l : List UInt8) (c : UInt8) : Lib.byteCells (l ++ [c]) = Lib.byteCells l ++ [.int .u8 ((c.toNat : Nat) : Int)] := by simp [Lib.byteCells]
theorem dg_at (x : Int) (d : Nat) (h : x = (d : Int)) (hd : d < 16) (hp : x.toNat < (⟨#[48, 49, 50, 51, 52, 53, 54, 55, 56, 57, 97, 98, 99, 100, 101, 102]⟩ : ByteArray).size) :
    ((((⟨#[48, 49, 50, 51, 52, 53, 54, 55, 56, 57, 97, 98, 99, 100, 101, 102]⟩ : ByteArray)[x.toNat]'hp).toNat : Nat) : Int) = (((dg d).toNat : Nat) : Int) := by
  subst h
  have : ∀ d : Nat, (hd : d < 16) → (hp : ((d : Int)).toNat < 16) → ((((⟨#[48, 49, 50, 51, 52, 53, 54, 55, 56, 57, 97, 98, 99, 100, 101, 102]⟩ : ByteArray)[((d : Int)).toNat]'hp).toNat : Nat) : Int) = (((dg d).toNat : Nat) : Int) := by decide
  exact this d hd hp
theorem digit_at (x : Int) (j : Nat) (h0 : 0 ≤ x) (h1 : x ≤ 18446744073709551615) : ∃ d : Nat, Go.bits .and .u64 (x / 2 ^ (4 * (15 - j))) 15 = (d : Int) ∧ d < 16 ∧ d = x.toNat / 16 ^ (15 - j) % 16 := by
  obtain ⟨y, rfl⟩ := Int.eq_ofNat_of_zero_le h0
  have e1 : (y : Int) / 2 ^ (4 * (15 - j)) = ((y / 2 ^ (4 * (15 - j)) : Nat) : Int) := by simp
  have e2 : (2 : Nat) ^ (4 * (15 - j)) = 16 ^ (15 - j) := by rw [Nat.pow_mul]
  have h2 : y / 16 ^ (15 - j) ≤ y := Nat.div_le_self _ _
  have h3 : y / 16 ^ (15 - j) < 18446744073709551616 := by omega
  refine ⟨y / 16 ^ (15 - j) % 16, ?_, Nat.mod_lt _ (by omega), by rw [Int.toNat_natCast]⟩
  rw [e1, e2]
  have h := u64_and_nat (y / 16 ^ (15 - j)) 15 h3 (by omega)
  rw [show ((15 : Nat) : Int) = (15 : Int) from rfl] at h
  rw [h, show (15 : Nat) = 2 ^ 4 - 1 from rfl, Nat.and_two_pow_sub_one_eq_mod]
set_option maxHeartbeats 2000000 in
set_option maxRecDepth 100000 in
theorem hex_ (A0 : Option Addr) (c0 : Nat) (l0 : List Int) (w : World) (hr0 : Kd.C (Kd.int .u64) w A0 l0.length l0) (hc0 : l0.length ≤ c0) (hl : l0.length ≤ 1000) (hw : ∀ x ∈ l0, 0 ≤ x ∧ x ≤ 18446744073709551615) :
    Calls Try.prog 16 #[.slice A0 l0.length c0] w fun e w' => e = .returned (.string ⟨(hexl l0).toArray⟩) ∧ Below w.heap.size w w' := by
  have HR0 := Aside0.mk hr0
  clear hr0
  go_enter Try.func16, Try.ntmps16
  go_wp2_with fail
  go_loopw [9] (fun v wr => ∃ n : Nat, v = .int .i64 n ∧ n ≤ l0.length ∧ Aside0 (Lib.IsBuilder 63 5 w.heap.size w.heap.size (Lib.byteCells (hexl (l0.take n))) wr) ∧ Aside0 (Below w.heap.size w wr)) (fun v _ => l0.length - (intOf v).toNat)
  case atStart => exact ⟨0, rfl, Nat.zero_le _, ⟨.inl ⟨Nat.le_refl _, .slice none 0 0, blk_new _ _, own_nil _ _ _ _, by simp [Value.ownBlock]⟩⟩, ⟨below_alloc (Below.refl _ _) _⟩⟩
  case round =>
    obtain ⟨n, rfl, hn, HI, HB⟩ := hrel
    by_cases hlt : n < l0.length
    · obtain ⟨ad, e1, hx⟩ := Kd.at_int (Kd.C_below HR0.out HB.out) (n : Int) (by omega) (by omega)
      cases e1
      simp only [Int.toNat_natCast] at hx
      have hr : 0 ≤ rd l0 (n : Int) ∧ rd l0 (n : Int) ≤ 18446744073709551615 := by
        have : rd l0 (n : Int) = l0[n] := by simp [rd, hlt]
        rw [this]; exact hw _ (List.getElem_mem hlt)
      go_wp2_with fail
      go_loopw [6] (fun v w2 => ∃ j : Nat, v = .int .i64 (15 - (j : Int)) ∧ j ≤ 16 ∧ Aside0 (Lib.IsBuilder 63 5 w.heap.size w.heap.size (Lib.byteCells (hexl (l0.take n) ++ hexw (rd l0 (n : Int)).toNat j)) w2) ∧ Aside0 (Below w.heap.size w w2)) (fun v _ => (intOf v + 1).toNat)
      case atStart => exact ⟨0, rfl, by omega, ⟨by simpa [hexw] using HI.out⟩, HB⟩
      case round =>
        obtain ⟨j, rfl, hj, HI2, HB2⟩ := hrel
        by_cases hjt : j < 16
        · have h0 : 0 ≤ 15 - (j : Int) := by omega
          obtain ⟨d, hd, hd16, hdv⟩ := digit_at (rd l0 (n : Int)) j hr.1 hr.2
          have HD := Lib.hid hd
          have hdb : 0 ≤ Go.bits .and .u64 (rd l0 (n : Int) / 2 ^ (4 * (15 - j))) 15 ∧ Go.bits .and .u64 (rd l0 (n : Int) / 2 ^ (4 * (15 - j))) 15 < 16 := by rw [hd]; omega
          have HV := Lib.hid hdv
          clear hd hdv
          go_wp2_with fail
          refine (writeByte_ w.heap.size w.heap.size _ _ _ HI2.out (by rw [byteCells_len]; simp only [List.length_append]; have := hexl_len (l0.take n); have := hexw_len (rd l0 (n : Int)).toNat j; have := List.length_take_le n l0; omega) HB2.out.size).mono ?_
          rintro e w3 ⟨rfl, h1, h2⟩
          have HI3 := Aside0.mk h1
          have HB3 := Aside0.mk (HB2.out.trans h2)
          clear h1 h2
          go_wp2
          go_roundw
          case rel =>
            refine ⟨j + 1, by congr 1; omega, by omega, ⟨?_⟩, HB3⟩
            have h3 := HI3.out
            rw [dg_at _ d HD.out hd16 _] at h3
            have e : hexl (l0.take n) ++ hexw (rd l0 (n : Int)).toNat (j + 1) = (hexl (l0.take n) ++ hexw (rd l0 (n : Int)).toNat j) ++ [dg d] := by rw [HV.out, List.append_assoc]; rfl
            rw [e, byteCells_snoc]
            exact h3
          case measure => simp [intOf]; omega
        · obtain rfl : j = 16 := by omega
          go_wp2
          go_roundw
          case rel =>
            refine ⟨n + 1, by go_num, by omega, ⟨?_⟩, HB2⟩
            have e : hexl (l0.take (n + 1)) = hexl (l0.take n) ++ hexw (rd l0 (n : Int)).toNat 16 := by
              have e2 : rd l0 (n : Int) = l0[n] := by simp [rd, hlt]
              rw [List.take_succ_eq_append_getElem hlt, e2]
              exact hexl_snoc _ _
            rw [e]
            exact HI2.out
          case measure => simp [intOf]; omega
    · obtain rfl : n = l0.length := by omega
      go_wp2_with fail
      refine (Lay.Builder_String_any w.heap.size w.heap.size _ _ HI.out HB.out.size).mono ?_
      rintro e w3 ⟨rfl, h2⟩
      have HB3 := Aside0.mk (HB.out.trans h2)
      clear h2
      go_wp2
      go_ret
      exact ⟨rfl, HB3.out⟩
def show_Hex.f (l : List Int) : Option ByteArray := if l.length ≤ 1000 ∧ ∀ x ∈ l, 0 ≤ x ∧ x ≤ 18446744073709551615 then some ⟨(hexl l).toArray⟩ else none
theorem show_Hex.calls (A0 : Option Addr) (c0 : Nat) (l0 : List Int) (r : ByteArray) (w : World) (hr0 : Kd.C (Kd.int .u64) w A0 l0.length l0) (hc0 : l0.length ≤ c0) (h : show_Hex.f l0 = some r) :
    Calls Try.prog 16 #[.slice A0 l0.length c0] w fun e w' => e = .returned (.string r) ∧ Below w.heap.size w w' := by
  unfold show_Hex.f at h
  split at h
  · rename_i hb
    obtain rfl := Option.some.inj h
    exact hex_ A0 c0 l0 w hr0 hc0 hb.1 hb.2
  · cases h
def strings_IndexByte.f (s : ByteArray) (c : Int) : Option Int := some (Lib.indexByte s.data.toList c.toNat.toUInt8)
theorem strings_IndexByte.calls (s : ByteArray) (c : Int) (r : Int) (w : World) (h : strings_IndexByte.f s c = some r) :
    Calls Try.prog 41 #[.string s, .int .u8 c] w fun e w' => e = .returned (.int .i64 r) ∧ Drawn0 w w' := by
  obtain rfl := Option.some.inj (show some (Lib.indexByte s.data.toList c.toNat.toUInt8) = some r from h)
  exact (Lay.strings_IndexByte s c w).mono fun _ _ ⟨he, hw⟩ => ⟨he, hw ▸ Drawn0.refl _⟩
end Go.Proofs.Ytmmgiolhfekplaa.Ext
