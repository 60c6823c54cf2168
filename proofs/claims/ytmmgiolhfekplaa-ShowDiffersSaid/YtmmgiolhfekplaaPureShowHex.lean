/- The printed part of: the digits of any row, and the row of any digits, or what is wrong, and where, are as the document says. -/
import Derived.Laws.BitsAllLaws
import Derived.OpenShut
import Derived.Test.YtmmgiolhfekplaaPShowx1
import Derived.Test.YtmmgiolhfekplaaPShowx2
import Derived.Test.YtmmgiolhfekplaaPShowx3
import Derived.Test.YtmmgiolhfekplaaWNEv
--NEEDS abacistlaw39_ShowHex abacistlaw39_hex show_ReadHex abacistlaw39_awake abacistref04_Same
import Derived.Test.YtmmgiolhfekplaaNums
import Derived.Test.YtmmgiolhfekplaaSameA
import Derived.Lib.SmallJoins
import Derived.Laws.Strings
set_option linter.unusedVariables false
set_option linter.unusedSimpArgs false
namespace Go.Proofs.Ytmmgiolhfekplaa.Pure
open Go.RowKit Go.Proofs.Ytmmgiolhfekplaa Go.Proofs.Ytmmgiolhfekplaa.PShow Go.Proofs.Ytmmgiolhfekplaa.Ext Go.Proofs.YtmmgiolhfekplaaW.PrintWords Go.Proofs.YtmmgiolhfekplaaW.PrintLast Go.Proofs.YtmmgiolhfekplaaW.PrintMore

/-! ### bytes -/
def Bs (l : List UInt8) : ByteArray := ⟨l.toArray⟩
theorem Bs_app (a b : List UInt8) : Bs a ++ Bs b = Bs (a ++ b) := by
  apply ByteArray.ext
  simp [Bs, ByteArray.data_append]
theorem Bs_toList (l : List UInt8) : (Bs l).toList = l := by rw [ByteArray.toList_eq]; rfl
theorem Bs_size (l : List UInt8) : (Bs l).size = l.length := by simp [Bs, ByteArray.size]
theorem Bs_of (s : ByteArray) : s = Bs s.data.toList := by apply ByteArray.ext; simp [Bs]
theorem bt_Bs (l : List UInt8) (i : Nat) (h : i < l.length) : bt (Bs l) (i : Int) = ((l[i].toNat : Nat) : Int) := by
  unfold bt
  rw [dif_pos (by rw [Bs_size]; omega)]
  simp [Bs]
  rfl
theorem evEq {α β : Type} {o : Option α} {x : α} {f : Nat → α → Option β} {r : β} (h : o = some x) (e : Ev (fun n => f n x) r) : Ev (fun n => o.bind (f n)) r := Ev.congr (fun n => by show o.bind (f n) = f n x; rw [h]; rfl) e
def tbl : List UInt8 := [48, 49, 50, 51, 52, 53, 54, 55, 56, 57, 97, 98, 99, 100, 101, 102]
def goodc (n : Nat) : Bool := (48 ≤ n && n ≤ 57) || (97 ≤ n && n ≤ 102)
/-- A digit's number. -/
def hv (c : UInt8) : Nat := (Lib.indexByte tbl c).toNat
theorem hv_dg : ∀ v, v < 16 → hv (Ext.dg v) = v := by decide +kernel
theorem good_all : ∀ n, n < 256 → goodc n = true → Lib.indexByte tbl (UInt8.ofNat n) = ((hv (UInt8.ofNat n) : Nat) : Int) ∧ hv (UInt8.ofNat n) < 16 ∧ UInt8.ofNat n = Ext.dg (hv (UInt8.ofNat n)) := by decide +kernel
theorem bad_all : ∀ n, n < 256 → goodc n = false → Lib.indexByte tbl (UInt8.ofNat n) = -1 := by decide +kernel
theorem good_dg : ∀ v, v < 16 → goodc (Ext.dg v).toNat = true := by decide +kernel
theorem c_of (c : UInt8) : UInt8.ofNat c.toNat = c := by simp
theorem good_at (c : UInt8) (h : goodc c.toNat = true) : Lib.indexByte tbl c = ((hv c : Nat) : Int) ∧ hv c < 16 ∧ c = Ext.dg (hv c) := by
  have := good_all c.toNat (c.toNat_lt) h
  rwa [c_of] at this
theorem bad_at (c : UInt8) (h : goodc c.toNat = false) : Lib.indexByte tbl c = -1 := by
  have := bad_all c.toNat (c.toNat_lt) h
  rwa [c_of] at this

/-! ### digits -/
def hexs (w : Nat) : Nat → List UInt8
  | 0 => []
  | i + 1 => Ext.dg (w / 16 ^ i % 16) :: hexs w i
theorem hexs_len (w : Nat) : ∀ n, (hexs w n).length = n
  | 0 => rfl
  | n + 1 => by simp [hexs, hexs_len w n]
theorem hexw_hexs (w : Nat) : ∀ j, j ≤ 16 → Ext.hexw w j ++ hexs w (16 - j) = hexs w 16
  | 0, _ => rfl
  | j + 1, h => by
    have ih := hexw_hexs w j (by omega)
    rw [show 16 - j = (15 - j) + 1 by omega] at ih
    rw [show 16 - (j + 1) = 15 - j by omega, ← ih]
    simp [Ext.hexw, hexs]
theorem hexw_eq (w : Nat) : Ext.hexw w 16 = hexs w 16 := by
  have := hexw_hexs w 16 (Nat.le_refl _)
  rwa [show 16 - 16 = 0 from rfl, show hexs w 0 = [] from rfl, List.append_nil] at this
theorem hexs_low (w : Nat) : ∀ n, hexs w (n + 1) = hexs (w / 16) n ++ [Ext.dg (w % 16)]
  | 0 => by simp [hexs]
  | n + 1 => by
    have ih := hexs_low w n
    have e : w / 16 ^ (n + 1) = w / 16 / 16 ^ n := by rw [Nat.div_div_eq_div_mul, Nat.pow_succ, Nat.mul_comm]
    show Ext.dg (w / 16 ^ (n + 1) % 16) :: hexs w (n + 1) = Ext.dg (w / 16 / 16 ^ n % 16) :: hexs (w / 16) n ++ [Ext.dg (w % 16)]
    rw [ih, e]
    rfl
theorem hexs_mod (w : Nat) (m : Nat) : ∀ n, n ≤ m → hexs (w % 16 ^ m) n = hexs w n
  | 0, _ => rfl
  | n + 1, h => by
    show Ext.dg (w % 16 ^ m / 16 ^ n % 16) :: hexs (w % 16 ^ m) n = Ext.dg (w / 16 ^ n % 16) :: hexs w n
    rw [hexs_mod w m n (by omega)]
    congr 2
    have e : 16 ^ m = 16 ^ n * 16 ^ (m - n) := by rw [← Nat.pow_add]; congr 1; omega
    rw [e, Nat.mod_mul_right_div_self]
    exact Nat.mod_mod_of_dvd _ ⟨16 ^ (m - n - 1), by rw [← Nat.pow_succ']; congr 1; omega⟩
theorem dg_inj {a b : Nat} (ha : a < 16) (hb : b < 16) (h : Ext.dg a = Ext.dg b) : a = b := by rw [← hv_dg a ha, ← hv_dg b hb, h]
theorem hexs_inj : ∀ n a b, a < 16 ^ n → b < 16 ^ n → hexs a n = hexs b n → a = b
  | 0, a, b, ha, hb, _ => by simp at ha hb; omega
  | n + 1, a, b, ha, hb, h => by
    rw [hexs_low, hexs_low] at h
    obtain ⟨h1, h2⟩ := List.append_inj' h rfl
    have h3 := hexs_inj n (a / 16) (b / 16) (Nat.div_lt_of_lt_mul (by rw [Nat.pow_succ, Nat.mul_comm] at ha; exact ha)) (Nat.div_lt_of_lt_mul (by rw [Nat.pow_succ, Nat.mul_comm] at hb; exact hb)) h1
    have h4 := dg_inj (Nat.mod_lt _ (by omega)) (Nat.mod_lt _ (by omega)) (List.cons.inj h2).1
    omega
theorem e16 : (16 : Nat) ^ 16 = 18446744073709551616 := by decide
def Wd (l : List Int) : Prop := ∀ x ∈ l, 0 ≤ x ∧ x ≤ 18446744073709551615
theorem hexl_cons (z : Int) (c : List Int) : Ext.hexl (z :: c) = Ext.hexw z.toNat 16 ++ Ext.hexl c := by simp [Ext.hexl]
theorem hexl_inj (a : List Int) : ∀ b : List Int, Wd a → Wd b → Ext.hexl a = Ext.hexl b → a = b := by
  induction a with
  | nil =>
    intro b _ _ h
    have h1 := congrArg List.length h
    rw [Ext.hexl_len, Ext.hexl_len] at h1
    cases b with
    | nil => rfl
    | cons y b => simp at h1
  | cons x a ih =>
    intro b ha hb h
    cases b with
    | nil =>
      have h1 := congrArg List.length h
      rw [Ext.hexl_len, Ext.hexl_len] at h1
      simp at h1
    | cons y b =>
      rw [hexl_cons, hexl_cons] at h
      obtain ⟨h1, h2⟩ := List.append_inj h (by rw [Ext.hexw_len, Ext.hexw_len])
      rw [hexw_eq, hexw_eq] at h1
      have hx := ha x (List.mem_cons_self ..)
      have hy := hb y (List.mem_cons_self ..)
      have h3 := hexs_inj 16 _ _ (by rw [e16]; omega) (by rw [e16]; omega) h1
      rw [ih b (fun z hz => ha z (List.mem_cons_of_mem _ hz)) (fun z hz => hb z (List.mem_cons_of_mem _ hz)) h2, show x = y by omega]
/-- The value of digits. -/
def valL (l : List UInt8) : Nat := l.foldl (fun a c => a * 16 + hv c) 0
theorem valL_snoc (l : List UInt8) (c : UInt8) : valL (l ++ [c]) = valL l * 16 + hv c := by simp [valL]
def Good (l : List UInt8) : Prop := ∀ c ∈ l, goodc c.toNat = true
theorem take_snoc (l : List UInt8) (i : Nat) (h : i < l.length) : l.take (i + 1) = l.take i ++ [l[i]] := List.take_succ_eq_append_getElem h
theorem hexs_val (l : List UInt8) (hg : Good l) : ∀ i, i ≤ l.length → ∀ n, n ≤ i → hexs (valL (l.take i)) n = (l.take i).drop (i - n)
  | 0, _, n, hn => by
    obtain rfl : n = 0 := by omega
    simp [hexs]
  | i + 1, hi, 0, hn => by simp [hexs]
  | i + 1, hi, n + 1, hn => by
    have hlt : i < l.length := by omega
    have g := good_at _ (hg l[i] (List.getElem_mem hlt))
    rw [hexs_low, take_snoc l i hlt, valL_snoc, show (valL (l.take i) * 16 + hv l[i]) / 16 = valL (l.take i) by omega, show (valL (l.take i) * 16 + hv l[i]) % 16 = hv l[i] by omega, ← g.2.2,
      hexs_val l hg i (by omega) n (by omega), List.drop_append_of_le_length (by rw [List.length_take]; omega), show i + 1 - (n + 1) = i - n by omega]

/-! ### the law's own digits -/
theorem hex_loop (w : Nat) (hw : w < 18446744073709551616) (d : Nat) : ∀ i : Nat, i + d = 16 → Ev (fun k => abacistlaw39_hex.l0 k ((w / 16 ^ i : Nat) : Int) (Bs (hexs w i)) (i : Int)) (Bs (hexs w 16)) := by
  induction d with
  | zero =>
    intro i hi
    obtain rfl : i = 16 := hi
    refine Ev.step (f := fun _ => some (Bs (hexs w 16))) (fun k => ?_) (Ev.now _)
    simp only [abacistlaw39_hex.l0]
    rw [if_neg (by omega)]
  | succ d ih =>
    intro i hi
    have hle : w / 16 ^ i ≤ w := Nat.div_le_self _ _
    have hlen := hexs_len w i
    have e1 : Int.tmod ((w / 16 ^ i : Nat) : Int) 16 = ((w / 16 ^ i % 16 : Nat) : Int) := (Int.ofNat_tmod _ 16).symm
    have e2 : IntKind.u64.wrap (Int.tdiv ((w / 16 ^ i : Nat) : Int) 16) = ((w / 16 ^ (i + 1) : Nat) : Int) := by
      have e3 : Int.tdiv ((w / 16 ^ i : Nat) : Int) 16 = ((w / 16 ^ i / 16 : Nat) : Int) := (Int.ofNat_tdiv _ 16).symm
      have h16 : w / 16 ^ i / 16 ≤ w / 16 ^ i := Nat.div_le_self _ _
      rw [e3, wrap_u _ (Int.natCast_nonneg _) (by omega), Nat.div_div_eq_div_mul, Nat.pow_succ]
    have e4 : wrap64 ((i : Int) + 1) = ((i + 1 : Nat) : Int) := by unfold wrap64; omega
    have hd : w / 16 ^ i % 16 < 16 := Nat.mod_lt _ (by omega)
    have e5 : hexs w (i + 1) = Ext.dg (w / 16 ^ i % 16) :: hexs w i := rfl
    have e6 : ∀ v, v < 16 → (v < 10 → strOfNums [((v : Nat) : Int) % 256 + 48] = strOfNums [((v : Nat) : Int) % 256 + 48]) := fun _ _ _ => rfl
    refine Ev.step (fun k => ?_) (ih (i + 1) (by omega))
    simp only [abacistlaw39_hex.l0]
    rw [if_pos (by omega), e1, e2, e4, e5]
    generalize w / 16 ^ i % 16 = v at *
    by_cases c : v < 10
    · have e7 : strOfNums ([(((v : Nat) : Int) % 256 + 48) % 256] : List Int) = Bs [Ext.dg v] := by
        have : ∀ v, v < 10 → strOfNums ([(((v : Nat) : Int) % 256 + 48) % 256] : List Int) = Bs [Ext.dg v] := by
          intro v hv
          have h2 : ∀ v, v < 10 → ((((v : Nat) : Int) % 256 + 48) % 256).toNat.toUInt8 = Ext.dg v := by decide
          simp [strOfNums, Bs, ← h2 v hv]
        exact this v c
      rw [if_pos (by omega), Option.bind_some, e7, if_pos (by rw [Bs_size, Bs_size, hlen]; simp; omega), Bs_app]
      rfl
    · have e7 : strOfNums ([(((v : Nat) : Int) % 256 + 87) % 256] : List Int) = Bs [Ext.dg v] := by
        have h2 : ∀ v, v < 16 → ¬ v < 10 → ((((v : Nat) : Int) % 256 + 87) % 256).toNat.toUInt8 = Ext.dg v := by decide
        simp [strOfNums, Bs, ← h2 v hd c]
      rw [if_neg (by omega), Option.bind_some, e7, if_pos (by rw [Bs_size, Bs_size, hlen]; simp; omega), Bs_app]
      rfl
theorem lhex_ (x : Int) (h0 : 0 ≤ x) (h1 : x ≤ 18446744073709551615) : Ev (fun k => abacistlaw39_hex.f k x) (Bs (Ext.hexw x.toNat 16)) := by
  obtain ⟨w, rfl⟩ := Int.eq_ofNat_of_zero_le h0
  have h := hex_loop w (by omega) 16 0 rfl
  rw [Nat.pow_zero, Nat.div_one] at h
  rw [hexw_eq, Int.toNat_natCast]
  exact Ev.congr (fun k => rfl) h

/-! ### what is read -/
/-- One step of reading. -/
theorem read_step (x v : Nat) (hx : x < 18446744073709551616) (hv' : v < 16) : Go.bits .or .u64 (IntKind.u64.wrap ((x : Int) * 16)) (IntKind.u64.wrap (v : Int)) = (((x * 16 + v) % 18446744073709551616 : Nat) : Int) := by
  rw [wrap_u (v : Int) (by omega) (by omega), IntKind.wrap_u64, show ((x : Int) * 16 % 18446744073709551616) = ((x * 16 % 18446744073709551616 : Nat) : Int) by omega, u64_or_nat _ _ (Nat.mod_lt _ (by omega)) (by omega)]
  rw [nat_join 4 _ _ (by omega) (by omega)]
  omega
def tblB : ByteArray := ⟨#[48, 49, 50, 51, 52, 53, 54, 55, 56, 57, 97, 98, 99, 100, 101, 102]⟩
theorem idx_ (c : UInt8) : strings_IndexByte.f tblB ((c.toNat : Nat) : Int) = some (Lib.indexByte tbl c) := by
  show some (Lib.indexByte tblB.data.toList ((c.toNat : Nat) : Int).toNat.toUInt8) = _
  rw [Int.toNat_natCast]
  have : c.toNat.toUInt8 = c := by simp
  rw [this]
  rfl
/-- The state behind i digits that are right. -/
def RInv (l : List UInt8) (i : Nat) (ws : List Int) (x : Nat) : Prop := Wd ws ∧ Ext.hexl ws = l.take (16 * (i / 16)) ∧ ws.length = i / 16 ∧ x = valL (l.take i) % 18446744073709551616
theorem read_go (l : List UInt8) (hl : l.length ≤ 640) (i : Nat) (hlt : i < l.length) (ws : List Int) (x : Nat) (hg : Good (l.take (i + 1))) (hI : RInv l i ws x) :
    ∃ ws' x', RInv l (i + 1) ws' x' ∧ ∀ k, show_ReadHex.l0 (k + 1) (Bs l) ws (x : Int) (l.length : Int) (i : Int) = show_ReadHex.l0 k (Bs l) ws' (x' : Int) (l.length : Int) ((i + 1 : Nat) : Int) := by
  obtain ⟨h1, h2, h3, h4⟩ := hI
  have hin : l[i] ∈ l.take (i + 1) := take_snoc l i hlt ▸ List.mem_append_right _ (List.mem_singleton.2 rfl)
  obtain ⟨g1, g2, g3⟩ := good_at _ (hg _ hin)
  have hx : x < 18446744073709551616 := by rw [h4]; exact Nat.mod_lt _ (by omega)
  have e1 := read_step x (hv l[i]) hx g2
  have e2 : wrap64 ((i : Int) + 1) = ((i + 1 : Nat) : Int) := by unfold wrap64; omega
  have e3 : (x * 16 + hv l[i]) % 18446744073709551616 = valL (l.take (i + 1)) % 18446744073709551616 := by
    rw [take_snoc l i hlt, valL_snoc, h4]; omega
  have e4 := idx_ l[i]
  generalize hvv : hv l[i] = v at *
  have go : ∀ k, show_ReadHex.l0 (k + 1) (Bs l) ws (x : Int) (l.length : Int) (i : Int) = if Int.tmod (i : Int) 16 = 15 then (if ws.length < 17592186044416 then show_ReadHex.l0 k (Bs l) (ws ++ [(((x * 16 + v) % 18446744073709551616 : Nat) : Int)]) (((x * 16 + v) % 18446744073709551616 : Nat) : Int) (l.length : Int) ((i + 1 : Nat) : Int) else none) else show_ReadHex.l0 k (Bs l) ws (((x * 16 + v) % 18446744073709551616 : Nat) : Int) (l.length : Int) ((i + 1 : Nat) : Int) := by
    intro k
    rw [← e1, ← e2, show_ReadHex.l0]
    refine (if_pos (by omega)).trans ((if_pos (by omega)).trans ((if_pos (by rw [Bs_size]; omega)).trans ?_))
    rw [bt_Bs l i hlt]
    refine (congrArg (fun o => Option.bind o _) (e4.trans (congrArg some g1))).trans ?_
    simp only [Option.bind_some]
    rw [if_neg (show ¬ (v : Int) < 0 by omega)]
  have etm : Int.tmod (i : Int) 16 = ((i % 16 : Nat) : Int) := (Int.ofNat_tmod i 16).symm
  by_cases c : i % 16 = 15
  · refine ⟨ws ++ [(((x * 16 + v) % 18446744073709551616 : Nat) : Int)], (x * 16 + v) % 18446744073709551616, ⟨?_, ?_, ?_, e3⟩, fun k => by rw [go k, if_pos (by omega), if_pos (by omega)]⟩
    · intro y hy
      rcases List.mem_append.1 hy with hy | hy
      · exact h1 y hy
      · have hy2 : y = (((x * 16 + v) % 18446744073709551616 : Nat) : Int) := by simpa using hy
        rw [hy2]; omega
    · rw [Ext.hexl_snoc, h2, Int.toNat_natCast, hexw_eq, e3, ← e16, hexs_mod _ 16 16 (Nat.le_refl _)]
      have h5 := hexs_val (l.take (i + 1)) hg (i + 1) (by rw [List.length_take]; omega) 16 (by omega)
      rw [List.take_take, Nat.min_self] at h5
      rw [h5, show i + 1 - 16 = 16 * (i / 16) by omega, show 16 * ((i + 1) / 16) = i + 1 by omega]
      have h6 : (l.take (i + 1)).take (16 * (i / 16)) = l.take (16 * (i / 16)) := by rw [List.take_take]; congr 1; omega
      rw [← h6, List.take_append_drop]
    · simp; omega
  · refine ⟨ws, (x * 16 + v) % 18446744073709551616, ⟨h1, ?_, by omega, e3⟩, fun k => by rw [go k, if_neg (by omega)]⟩
    rw [h2, show (i + 1) / 16 = i / 16 by omega]
theorem read_to (l : List UInt8) (hl : l.length ≤ 640) (i : Nat) (hi : i ≤ l.length) (hg : Good (l.take i)) : ∃ ws x, RInv l i ws x ∧ ∀ r, Ev (fun k => show_ReadHex.l0 k (Bs l) ws (x : Int) (l.length : Int) (i : Int)) r → Ev (fun k => show_ReadHex.f k (Bs l)) r := by
  induction i with
  | zero =>
    refine ⟨[], 0, ⟨fun y hy => by simp at hy, rfl, rfl, rfl⟩, fun r h => ?_⟩
    refine Ev.congr (fun k => ?_) h
    show show_ReadHex.l0 k (Bs l) [] 0 ((Bs l).size : Int) 0 = _
    rw [Bs_size]
    rfl
  | succ i ih =>
    obtain ⟨ws, x, hI, h⟩ := ih (by omega) (fun c hc => hg c (take_snoc l i (by omega) ▸ List.mem_append_left _ hc))
    obtain ⟨ws', x', hI', go⟩ := read_go l hl i (by omega) ws x hg hI
    exact ⟨ws', x', hI', fun r hr => h r (Ev.step go hr)⟩
theorem read_bad (l : List UInt8) (hl : l.length ≤ 640) (i : Nat) (hi : i < l.length) (hg : Good (l.take i)) (hb : goodc l[i].toNat = false) : Ev (fun k => show_ReadHex.f k (Bs l)) (([] : List Int), (i : Int), 17) := by
  obtain ⟨ws, x, hI, h⟩ := read_to l hl i (by omega) hg
  refine h _ (Ev.step (f := fun _ => some (([] : List Int), (i : Int), 17)) (fun k => ?_) (Ev.now _))
  simp only [show_ReadHex.l0]
  rw [if_pos (by omega), if_pos (by omega), if_pos (by rw [Bs_size]; omega), bt_Bs l i hi]
  rw [show (⟨#[48, 49, 50, 51, 52, 53, 54, 55, 56, 57, 97, 98, 99, 100, 101, 102]⟩ : ByteArray) = tblB from rfl, idx_, Option.bind_some, bad_at _ hb, if_pos (by decide)]
theorem read_good (l : List UInt8) (hl : l.length ≤ 640) (hg : Good l) (h16 : l.length % 16 = 0) : ∃ ws, Wd ws ∧ Ext.hexl ws = l ∧ ws.length = l.length / 16 ∧ Ev (fun k => show_ReadHex.f k (Bs l)) (ws, (0 : Int), (0 : Int)) := by
  obtain ⟨ws, x, hI, h⟩ := read_to l hl l.length (Nat.le_refl _) (by rw [List.take_length]; exact hg)
  refine ⟨ws, hI.1, ?_, hI.2.2.1, h _ (Ev.step (f := fun _ => some (ws, (0 : Int), (0 : Int))) (fun k => ?_) (Ev.now _))⟩
  · rw [hI.2.1, show 16 * (l.length / 16) = l.length by omega, List.take_length]
  · simp only [show_ReadHex.l0]
    rw [if_neg (by omega), if_pos (by rw [Bs_size]; omega)]
theorem read_short (l : List UInt8) (hl : l.length ≤ 640) (hg : Good l) (h16 : l.length % 16 ≠ 0) : Ev (fun k => show_ReadHex.f k (Bs l)) (([] : List Int), ((l.length - l.length % 16 : Nat) : Int), (15 : Int)) := by
  obtain ⟨ws, x, hI, h⟩ := read_to l hl l.length (Nat.le_refl _) (by rw [List.take_length]; exact hg)
  refine h _ (Ev.step (f := fun _ => some (([] : List Int), ((l.length - l.length % 16 : Nat) : Int), (15 : Int))) (fun k => ?_) (Ev.now _))
  simp only [show_ReadHex.l0]
  rw [if_neg (by omega), if_neg (by rw [Bs_size]; omega), Bs_size, wrap_i _ (by omega) (by omega), show ((l.length : Nat) : Int) - ((l.length : Nat) : Int) % 16 = ((l.length - l.length % 16 : Nat) : Int) by omega]

/-! ### the law -/
theorem hexf_ (l : List Int) (hl : l.length ≤ 1000) (hw : Wd l) : show_Hex.f l = some (Bs (Ext.hexl l)) := if_pos ⟨hl, hw⟩
theorem shawake_ : Ev (fun k => abacistlaw39_awake.f k) true := by
  unfold abacistlaw39_awake.f
  have e : (Bs (Ext.hexl [255])).toList = ([48, 48, 48, 48, 48, 48, 48, 48, 48, 48, 48, 48, 48, 48, 102, 102] : List UInt8) := by rw [Bs_toList]; decide +kernel
  refine evEq (hexf_ [255] (by decide) (fun x hx => by rw [List.mem_singleton.1 hx]; omega)) (Ev_if e ?_)
  have h : Ev (fun k => show_Same.f k ([] : List (List Int))) true := by
    refine Ev.step (f := fun _ => some true) (fun k => ?_) (Ev.now _)
    unfold show_Same.f
    simp only [show_Same.l0]
    rw [if_neg (by simp)]
  exact Ev.bind h (Ev.now _)
def Hl1 (l : List UInt8) (n : List Int) (a e : Int) (i : Nat) : Prop := Ev (fun k => abacistlaw39_ShowHex.l1 k (Bs l) n a e (i : Int)) true
theorem l1_bad (l : List UInt8) (hl : l.length ≤ 400) (i : Nat) (hi : i < l.length) (hb : goodc l[i].toNat = false) : Hl1 l [] (i : Int) 17 i := by
  refine Ev.step (f := fun _ => some true) (fun k => ?_) (Ev.now _)
  simp only [abacistlaw39_ShowHex.l1]
  rw [if_pos (by rw [Bs_size]; omega), if_pos (by omega), bt_Bs l i hi]
  unfold goodc at hb
  simp only [Bool.or_eq_false_iff, Bool.and_eq_false_iff, decide_eq_false_iff_not] at hb
  generalize l[i].toNat = c at *
  simp only [if_true]
  have e : (([] : List Int).length : Int) == 0 := rfl
  split
  · split
    · rfl
    · split
      · rfl
      · omega
  · split
    · split
      · rfl
      · split
        · rfl
        · omega
    · omega
theorem l1_good (l : List UInt8) (hl : l.length ≤ 400) (n : List Int) (a e : Int) (i : Nat) (hi : i < l.length) (hb : goodc l[i].toNat = true) (h : Hl1 l n a e (i + 1)) : Hl1 l n a e i := by
  refine Ev.step (fun k => ?_) h
  simp only [abacistlaw39_ShowHex.l1]
  rw [if_pos (by rw [Bs_size]; omega), if_pos (by omega), bt_Bs l i hi, show wrap64 ((i : Int) + 1) = ((i + 1 : Nat) : Int) by unfold wrap64; omega]
  unfold goodc at hb
  simp only [Bool.or_eq_true, Bool.and_eq_true, decide_eq_true_eq] at hb
  generalize l[i].toNat = c at *
  by_cases c1 : (c : Int) < 48
  · omega
  · by_cases c2 : (c : Int) > 57
    · rw [if_neg c1, if_pos c2, if_neg (by omega), if_neg (by omega)]
    · rw [if_neg c1, if_neg c2]
theorem l1_to (l : List UInt8) (hl : l.length ≤ 400) (n : List Int) (a e : Int) (j : Nat) (hj : j ≤ l.length) (hg : Good (l.take j)) (h : Hl1 l n a e j) : Hl1 l n a e 0 := by
  induction j with
  | zero => exact h
  | succ j ih =>
    have hin : l[j] ∈ l.take (j + 1) := take_snoc l j hj ▸ List.mem_append_right _ (List.mem_singleton.2 rfl)
    exact ih (by omega) (fun c hc => hg c (take_snoc l j hj ▸ List.mem_append_left _ hc)) (l1_good l hl n a e j hj (hg _ hin) h)
/-- The first byte that is no digit, or there is none. -/
theorem first_bad (l : List UInt8) : ∀ d i, i + d = l.length → Good (l.take i) → (∃ j, ∃ h : j < l.length, Good (l.take j) ∧ goodc l[j].toNat = false) ∨ Good l := by
  intro d
  induction d with
  | zero => intro i hi hg; obtain rfl : i = l.length := hi; rw [List.take_length] at hg; exact .inr hg
  | succ d ih =>
    intro i hi hg
    have hlt : i < l.length := by omega
    cases c : goodc l[i].toNat with
    | false => exact .inl ⟨i, hlt, hg, c⟩
    | true =>
      refine ih (i + 1) (by omega) (fun x hx => ?_)
      rw [take_snoc l i hlt] at hx
      rcases List.mem_append.1 hx with hx | hx
      · exact hg x hx
      · rw [List.mem_singleton.1 hx]; exact c
theorem second_ (l : List UInt8) (hl : l.length ≤ 400) : Ev (fun k => abacistlaw39_ShowHex.j2 k (Bs l) false) true := by
  refine Ev.step (f := fun k => (show_ReadHex.f k (Bs l)).bind fun bt144 => (abacistlaw39_ShowHex.l1 k (Bs l) bt144.1 bt144.2.1 bt144.2.2 0)) (fun k => ?_) ?_
  · simp only [abacistlaw39_ShowHex.j2]
    rw [if_neg (by decide)]
  · rcases first_bad l l.length 0 (by omega) (fun c hc => by simp at hc) with ⟨j, hj, hg, hb⟩ | hg
    · exact Ev.bind (read_bad l (by omega) j hj hg hb) (l1_to l hl _ _ _ j (by omega) hg (l1_bad l hl j hj hb))
    · by_cases h16 : l.length % 16 = 0
      · obtain ⟨ws, h1, h2, h3, h4⟩ := read_good l (by omega) hg h16
        refine Ev.bind h4 (l1_to l hl _ _ _ l.length (Nat.le_refl _) (by rw [List.take_length]; exact hg) ?_)
        refine Ev.step (f := fun _ => (show_Hex.f ws).bind fun t149 => (some (t149.toList == (Bs l).toList))) (fun k => ?_) ?_
        · simp only [abacistlaw39_ShowHex.l1]
          rw [if_neg (by rw [Bs_size]; omega), if_pos (by rw [Bs_size]; omega), if_pos trivial, if_pos trivial]
        · refine evEq (hexf_ ws (by omega) h1) ?_
          rw [h2]
          simp only [beq_self_eq_true]
          exact Ev.now _
      · refine Ev.bind (read_short l (by omega) hg h16) (l1_to l hl _ _ _ l.length (Nat.le_refl _) (by rw [List.take_length]; exact hg) ?_)
        refine Ev.step (f := fun _ => some true) (fun k => ?_) (Ev.now _)
        simp only [abacistlaw39_ShowHex.l1]
        rw [if_neg (by rw [Bs_size]; omega), if_neg (by rw [Bs_size]; omega), if_pos trivial, Bs_size, wrap_i ((l.length : Int) / 16) (by omega) (by omega), wrap_i _ (by omega) (by omega), if_pos (by omega)]
        rfl
theorem l0_loop (l : List Int) (s : List UInt8) (hl : l.length ≤ 40) (hs : s.length ≤ 400) (hw : Wd l) (d : Nat) : ∀ i : Nat, i + d = l.length → Ev (fun k => abacistlaw39_ShowHex.l0 k l (Bs s) (Bs (Ext.hexl (l.take i))) (i : Int)) true := by
  induction d with
  | zero =>
    intro i hi
    obtain rfl : i = l.length := hi
    rw [List.take_length]
    have hgood : Good (Ext.hexl l) := by
      intro c hc
      obtain ⟨x, _, hx⟩ := List.mem_flatMap.1 hc
      have : ∀ j, c ∈ Ext.hexw x.toNat j → goodc c.toNat = true := by
        intro j
        induction j with
        | zero => intro h; simp [Ext.hexw] at h
        | succ j ih =>
          intro h
          rcases List.mem_append.1 (show c ∈ Ext.hexw x.toNat j ++ [Ext.dg (x.toNat / 16 ^ (15 - j) % 16)] from h) with h | h
          · exact ih h
          · rw [List.mem_singleton.1 h]; exact good_dg _ (Nat.mod_lt _ (by omega))
      exact this 16 hx
    have hlen := Ext.hexl_len l
    obtain ⟨ws, h1, h2, h3, h4⟩ := read_good (Ext.hexl l) (by omega) hgood (by omega)
    obtain rfl := hexl_inj ws l h1 hw h2
    refine Ev.step (f := fun k => (show_Hex.f ws).bind fun t137 => ((show_ReadHex.f k t137).bind fun bt138 => (if t137.toList = (Bs (Ext.hexl ws)).toList then (if bt138.2.2 = 0 then (if bt138.2.1 = 0 then ((abacistref04_Same.f k bt138.1 ws).bind fun t143 => (abacistlaw39_ShowHex.j2 k (Bs s) (!t143))) else (abacistlaw39_ShowHex.j2 k (Bs s) true)) else (abacistlaw39_ShowHex.j2 k (Bs s) true)) else (abacistlaw39_ShowHex.j2 k (Bs s) true)))) (fun k => ?_) ?_
    · simp only [abacistlaw39_ShowHex.l0]
      rw [if_neg (by omega)]
    · refine evEq (hexf_ ws (by omega) h1) (Ev.bind h4 (Ev_if rfl (Ev_if rfl (Ev_if rfl (Ev.bind (same_yes ws ws (by omega) rfl) (second_ s hs))))))
  | succ d ih =>
    intro i hi
    have hlt : i < l.length := by omega
    have hx := hw l[i] (List.getElem_mem hlt)
    have e1 : rd l (i : Int) = l[i] := by rw [rd_nat, getD_lt _ _ hlt]
    have e2 : wrap64 ((i : Int) + 1) = ((i + 1 : Nat) : Int) := by unfold wrap64; omega
    have e3 : Ext.hexl (l.take (i + 1)) = Ext.hexl (l.take i) ++ Ext.hexw l[i].toNat 16 := by rw [List.take_succ_eq_append_getElem hlt, Ext.hexl_snoc]
    have h4 := Ext.hexl_len (l.take i)
    have h5 := Ext.hexw_len l[i].toNat 16
    have h6 := List.length_take_le i l
    refine Ev.step (f := fun k => (abacistlaw39_hex.f k (rd l (i : Int))).bind fun t136 => (if (Bs (Ext.hexl (l.take i))).size + t136.size ≤ 9223372036854775807 then (abacistlaw39_ShowHex.l0 k l (Bs s) (Bs (Ext.hexl (l.take i)) ++ t136) (wrap64 ((i : Int) + 1))) else (none))) (fun k => ?_) ?_
    · simp only [abacistlaw39_ShowHex.l0]
      rw [if_pos (by omega), if_pos (by omega)]
    · rw [e1, e2]
      refine Ev.bind (lhex_ l[i] hx.1 hx.2) (Ev_if (by rw [Bs_size, Bs_size]; omega) ?_)
      rw [Bs_app, ← e3]
      exact ih (i + 1) (by omega)
theorem ShowHex_ (l : List Int) (s : ByteArray) (hw : Wd l) : Ev (fun k => abacistlaw39_ShowHex.f k l s) true := by
  unfold abacistlaw39_ShowHex.f
  refine Ev.bind shawake_ (Ev_if rfl ?_)
  have hj0 : Ev (fun k => abacistlaw39_ShowHex.j0 k l s true) true := by
    refine Ev.step (f := fun _ => some true) (fun k => ?_) (Ev.now _)
    simp only [abacistlaw39_ShowHex.j0]
    rw [if_pos trivial]
  by_cases hl : l.length ≤ 40
  · refine Ev_ifn (by omega) ?_
    by_cases hs : s.size ≤ 400
    · rw [decide_eq_false (by omega)]
      have h := l0_loop l s.data.toList hl (by rw [data_length]; exact hs) hw l.length 0 (by omega)
      rw [← Bs_of] at h
      refine Ev.step (fun k => ?_) h
      simp only [abacistlaw39_ShowHex.j0]
      rw [if_neg (by decide)]
      rfl
    · rw [decide_eq_true (by omega)]
      exact hj0
  · exact Ev_if (by omega) hj0
theorem ShowHex : abacistlaw39_ShowHex.Pure := fun l0 a1 _ _ hw _ => (ShowHex_ l0 a1 (fun x hx => bounds_u64 (hw x hx))).rounds
end Go.Proofs.Ytmmgiolhfekplaa.Pure
