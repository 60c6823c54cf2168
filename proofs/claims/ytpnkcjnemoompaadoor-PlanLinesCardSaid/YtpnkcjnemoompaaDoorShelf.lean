import Derived.Shelf.Strings.Builder1
import Derived.Shelf.Strings.Builder2
import Derived.Shelf.Strings.OnBuilder
import Derived.Shelf.Strings.BuilderF
import Derived.Shelf.Strings.BuilderK
import Derived.Shelf.Strings.Builder2Cap
import Derived.Shelf.Strconv.Itoa0
import Derived.Shelf.Strconv.Itoa1
import Derived.Shelf.LaysM
import Derived.Shelf.Strconv.Itoa2
import Derived.Shelf.Strconv.Itoa3
import Derived.Shelf.Bits.Mul64
import Derived.Shelf.Strings.BuilderCap
import Derived.Ground.SlgnProg
import Derived.Shelf.SlicesE.Clone
import Derived.Ground.SlgfProg
import Derived.Shelf.SlicesE.IndexFunc
import Derived.Test.YtpnkcjnemoompaaDoorProg
namespace Go.Proofs.YtpnkcjnemoompaaDoor
open Go.Shelf
def Lay.lays156_ren : Go.Shelf.Ren := ⟨fun | 156 => 82 | 165 => 115 | 166 => 116 | 169 => 117 | 240 => 140 | 241 => 141 | 276 => 158 | 277 => 159 | n => n, fun | 31 => 106 | 9 => 9 | 3 => 3 | 4 => 4 | 0 => 0 | 20 => 20 | 72 => 136 | 76 => 140 | 70 => 134 | 37 => 109 | 75 => 139 | 127 => 166 | 164 => 185 | 5 => 5 | 80 => 142 | n => n, fun | n => n⟩
theorem Lay.lays156 : Go.Proofs.Lays.n156 Tryd.prog Lay.lays156_ren := {
  mixed := by kernel_rfl
  f156 := Tryd.func82.trans (congrArg some (by kernel_rfl))
  f165 := Tryd.func115.trans (congrArg some (by kernel_rfl))
  f166 := Tryd.func116.trans (congrArg some (by kernel_rfl))
  f169 := Tryd.func117.trans (congrArg some (by kernel_rfl))
  f240 := Tryd.func140.trans (congrArg some (by kernel_rfl))
  f241 := Tryd.func141.trans (congrArg some (by kernel_rfl))
  f276 := Tryd.func158.trans (congrArg some (by kernel_rfl))
  f277 := Tryd.func159.trans (congrArg some (by kernel_rfl))
  t0 := Tryd.underlying0
  a0 := Tryd.isAgg0
  z0 := Tryd.sizeOf0
  v0 := Tryd.zeroValue0
  t3 := Tryd.underlying3
  a3 := Tryd.isAgg3
  z3 := Tryd.sizeOf3
  v3 := Tryd.zeroValue3
  t4 := Tryd.underlying4
  a4 := Tryd.isAgg4
  z4 := Tryd.sizeOf4
  v4 := Tryd.zeroValue4
  t9 := Tryd.underlying9
  a9 := Tryd.isAgg9
  z9 := Tryd.sizeOf9
  v9 := Tryd.zeroValue9
  t20 := Tryd.underlying20
  a20 := Tryd.isAgg20
  z20 := Tryd.sizeOf20
  v20 := Tryd.zeroValue20
  t31 := Tryd.underlying106
  a31 := Tryd.isAgg106
  z31 := Tryd.sizeOf106
  v31 := Tryd.zeroValue106
  t37 := Tryd.underlying109
  a37 := Tryd.isAgg109
  z37 := Tryd.sizeOf109
  v37 := Tryd.zeroValue109
  t70 := Tryd.underlying134
  a70 := Tryd.isAgg134
  z70 := Tryd.sizeOf134
  v70 := Tryd.zeroValue134
  t72 := Tryd.underlying136
  a72 := Tryd.isAgg136
  z72 := Tryd.sizeOf136
  v72 := Tryd.zeroValue136
  t75 := Tryd.underlying139
  a75 := Tryd.isAgg139
  z75 := Tryd.sizeOf139
  v75 := Tryd.zeroValue139
  t76 := Tryd.underlying140
  a76 := Tryd.isAgg140
  z76 := Tryd.sizeOf140
  v76 := Tryd.zeroValue140
  t127 := Tryd.underlying166
  a127 := Tryd.isAgg166
  z127 := Tryd.sizeOf166
  v127 := Tryd.zeroValue166
  t164 := Tryd.underlying185
  a164 := Tryd.isAgg185
  z164 := Tryd.sizeOf185
  v164 := Tryd.zeroValue185 }
theorem Lay.Builder_Extra_156 : Builder.Extra Tryd.prog Lay.lays156_ren := {
  sizeBuilder := by kernel_rfl
  liesBuilder := by kernel_rfl
  t5 := Tryd.underlying5
  a5 := Tryd.isAgg5
  z5 := Tryd.sizeOf5
  v5 := Tryd.zeroValue5
  infoByte := by kernel_rfl
  cellsByte := by kernel_rfl
  sizeByte := by kernel_rfl
  neB5 := by decide }
open Go.RowKit in

theorem Lay.strings_Join_none (a : Option Addr) (c : Nat) (sep : ByteArray) (w : World) :
    Calls Tryd.prog 82 #[.slice a 0 c, .string sep] w fun e w' => e = .returned (.string ⟨#[]⟩) ∧ w' = w := Any.strings_Join_none Lay.lays156 Lay.Builder_Extra_156 a c sep w
open Go.RowKit in

theorem Lay.strings_Join (bk o c : Nat) (xs : List ByteArray) (sep : ByteArray) (w : World) (hcells : ∀ (j : Nat) x, xs[j]? = some x → w.cell? ⟨bk, o + j, none⟩ = some (.string x)) (hbk : bk < w.heap.size) (hN : xs.length ≤ 140737488355328) (hcap : xs.length ≤ c) (hlen : (Lib.join (xs.map (·.data.toList)) sep.data.toList).length ≤ 140737488355328) :
    Calls Tryd.prog 82 #[.slice (some ⟨bk, o, none⟩) xs.length c, .string sep] w fun e w' => e = .returned (.string ⟨(Lib.join (xs.map (·.data.toList)) sep.data.toList).toArray⟩) ∧ Below w.heap.size w w' := Any.strings_Join Lay.lays156 Lay.Builder_Extra_156 bk o c xs sep w hcells hbk hN hcap hlen
def Lay.lays285_ren : Go.Shelf.Ren := ⟨fun | 285 => 138 | n => n, fun | 37 => 109 | 53 => 45 | 3 => 3 | 4 => 4 | 51 => 182 | 9 => 9 | 5 => 5 | 0 => 0 | n => n, fun | n => n⟩
theorem Lay.lays285 : Go.Proofs.Lays.n285 Tryd.prog Lay.lays285_ren := {
  mixed := by kernel_rfl
  f285 := Tryd.func138.trans (congrArg some (by kernel_rfl))
  t0 := Tryd.underlying0
  a0 := Tryd.isAgg0
  z0 := Tryd.sizeOf0
  v0 := Tryd.zeroValue0
  t3 := Tryd.underlying3
  a3 := Tryd.isAgg3
  z3 := Tryd.sizeOf3
  v3 := Tryd.zeroValue3
  t4 := Tryd.underlying4
  a4 := Tryd.isAgg4
  z4 := Tryd.sizeOf4
  v4 := Tryd.zeroValue4
  t5 := Tryd.underlying5
  a5 := Tryd.isAgg5
  z5 := Tryd.sizeOf5
  v5 := Tryd.zeroValue5
  t9 := Tryd.underlying9
  a9 := Tryd.isAgg9
  z9 := Tryd.sizeOf9
  v9 := Tryd.zeroValue9
  t37 := Tryd.underlying109
  a37 := Tryd.isAgg109
  z37 := Tryd.sizeOf109
  v37 := Tryd.zeroValue109
  t51 := Tryd.underlying182
  a51 := Tryd.isAgg182
  z51 := Tryd.sizeOf182
  v51 := Tryd.zeroValue182
  t53 := Tryd.underlying45
  a53 := Tryd.isAgg45
  z53 := Tryd.sizeOf45
  v53 := Tryd.zeroValue45 }
open Go.RowKit Go.Sort Go.Lib in

theorem Lay.internal_strconv_formatBase10 (blk off cap : Nat) (u : Nat) (d : Array UInt8) (w : World) (hH : Holds (fun (b : UInt8) => Value.int .u8 (b.toNat : Int)) w blk off d) (hu : u < 10 ^ d.size) (hu64 : u < 18446744073709551616) (hsz : d.size < 4611686018427387904) :
    Calls Tryd.prog 138 #[.slice (some ⟨blk, off, none⟩) d.size cap, .int .u64 u] w fun e w' =>
      e = .returned (.tuple #[]) ∧ ∃ (n v' : Nat) (dk : Array UInt8), w' = (putRow (fun (b : UInt8) => Value.int .u8 (b.toNat : Int)) w blk off dk).drewN n ∧ FmtInv d.size u 0 v' dk := Any.internal_strconv_formatBase10 Lay.lays285 blk off cap u d w hH hu hu64 hsz
def Lay.laysM171_ren : Go.Shelf.Ren := ⟨fun | 171 => 80 | 243 => 113 | 246 => 135 | 283 => 136 | 284 => 137 | 285 => 138 | 286 => 139 | 129 => 154 | 317 => 153 | 318 => 155 | 319 => 156 | 320 => 157 | 337 => 167 | 338 => 118 | n => n, fun | 3 => 3 | 9 => 9 | 2 => 2 | 4 => 4 | 171 => 162 | 0 => 0 | 53 => 45 | 37 => 109 | 5 => 5 | 173 => 164 | 212 => 181 | 51 => 182 | 20 => 20 | 213 => 183 | 46 => 83 | 232 => 201 | 233 => 167 | n => n, fun | 17 => 2 | 18 => 4 | 19 => 1 | n => n⟩
theorem Lay.laysM171 : Go.Proofs.LaysM.n171 Tryd.prog Lay.laysM171_ren := {
  mixed := by kernel_rfl
  f129 := Tryd.func154.trans (congrArg some (by kernel_rfl))
  f171 := Tryd.func80.trans (congrArg some (by kernel_rfl))
  f243 := Tryd.func113.trans (congrArg some (by kernel_rfl))
  f246 := Tryd.func135.trans (congrArg some (by kernel_rfl))
  f283 := Tryd.func136.trans (congrArg some (by kernel_rfl))
  f284 := Tryd.func137.trans (congrArg some (by kernel_rfl))
  f285 := Tryd.func138.trans (congrArg some (by kernel_rfl))
  f286 := Tryd.func139.trans (congrArg some (by kernel_rfl))
  f317 := Tryd.func153.trans (congrArg some (by kernel_rfl))
  f318 := Tryd.func155.trans (congrArg some (by kernel_rfl))
  f319 := Tryd.func156.trans (congrArg some (by kernel_rfl))
  f320 := Tryd.func157.trans (congrArg some (by kernel_rfl))
  f337 := Tryd.func167.trans (congrArg some (by kernel_rfl))
  f338 := Tryd.func118.trans (congrArg some (by kernel_rfl))
  t0 := Tryd.underlying0
  a0 := Tryd.isAgg0
  z0 := Tryd.sizeOf0
  v0 := Tryd.zeroValue0
  t2 := Tryd.underlying2
  a2 := Tryd.isAgg2
  z2 := Tryd.sizeOf2
  v2 := Tryd.zeroValue2
  t3 := Tryd.underlying3
  a3 := Tryd.isAgg3
  z3 := Tryd.sizeOf3
  v3 := Tryd.zeroValue3
  t4 := Tryd.underlying4
  a4 := Tryd.isAgg4
  z4 := Tryd.sizeOf4
  v4 := Tryd.zeroValue4
  t5 := Tryd.underlying5
  a5 := Tryd.isAgg5
  z5 := Tryd.sizeOf5
  v5 := Tryd.zeroValue5
  t9 := Tryd.underlying9
  a9 := Tryd.isAgg9
  z9 := Tryd.sizeOf9
  v9 := Tryd.zeroValue9
  t20 := Tryd.underlying20
  a20 := Tryd.isAgg20
  z20 := Tryd.sizeOf20
  v20 := Tryd.zeroValue20
  t37 := Tryd.underlying109
  a37 := Tryd.isAgg109
  z37 := Tryd.sizeOf109
  v37 := Tryd.zeroValue109
  t46 := Tryd.underlying83
  a46 := Tryd.isAgg83
  z46 := Tryd.sizeOf83
  v46 := Tryd.zeroValue83
  t51 := Tryd.underlying182
  a51 := Tryd.isAgg182
  z51 := Tryd.sizeOf182
  v51 := Tryd.zeroValue182
  t53 := Tryd.underlying45
  a53 := Tryd.isAgg45
  z53 := Tryd.sizeOf45
  v53 := Tryd.zeroValue45
  t171 := Tryd.underlying162
  a171 := Tryd.isAgg162
  z171 := Tryd.sizeOf162
  v171 := Tryd.zeroValue162
  t173 := Tryd.underlying164
  a173 := Tryd.isAgg164
  z173 := Tryd.sizeOf164
  v173 := Tryd.zeroValue164
  t212 := Tryd.underlying181
  a212 := Tryd.isAgg181
  z212 := Tryd.sizeOf181
  v212 := Tryd.zeroValue181
  t213 := Tryd.underlying183
  a213 := Tryd.isAgg183
  z213 := Tryd.sizeOf183
  t232 := Tryd.underlying201
  a232 := Tryd.isAgg201
  z232 := Tryd.sizeOf201
  v232 := Tryd.zeroValue201
  t233 := Tryd.underlying167
  a233 := Tryd.isAgg167
  z233 := Tryd.sizeOf167
  v233 := Tryd.zeroValue167
  g17 := by kernel_rfl
  g18 := by kernel_rfl
  g19 := by kernel_rfl
  i0 := by kernel_rfl
  i2 := by kernel_rfl
  i3 := by kernel_rfl
  i4 := by kernel_rfl
  i5 := by kernel_rfl
  i9 := by kernel_rfl
  i20 := by kernel_rfl
  i37 := by kernel_rfl
  i46 := by kernel_rfl
  i51 := by kernel_rfl
  i53 := by kernel_rfl
  i171 := by kernel_rfl
  i173 := by kernel_rfl
  i212 := by kernel_rfl
  i232 := by kernel_rfl
  i233 := by kernel_rfl
  m17 := by kernel_rfl
  m18 := by kernel_rfl
  m19 := by kernel_rfl }
open Go.RowKit Go.Sort Go.Lib in

theorem Lay.strconv_Itoa (n : Int) (h0 : -9223372036854775808 ≤ n) (h1 : n ≤ 9223372036854775807) (w : World) (htab : Lib.TabIs Tryd.prog w "internal/strconv.uint64pow10" .u64 Lib.pow10Tab) :
    Calls Tryd.prog 80 #[.int .i64 n] w fun e w' => e = .returned (.string ⟨(Lib.itoa n).toArray⟩) ∧ ∃ k os, w' = grow (w.drewN k) os := Any.strconv_Itoa Lay.laysM171 n h0 h1 w htab
def Lay.lays171_ren : Go.Shelf.Ren := ⟨fun | 171 => 80 | 243 => 113 | 246 => 135 | 283 => 136 | 284 => 137 | 285 => 138 | 286 => 139 | 129 => 154 | 317 => 153 | 318 => 155 | 319 => 156 | 320 => 157 | 337 => 167 | 338 => 118 | n => n, fun | 3 => 3 | 9 => 9 | 2 => 2 | 4 => 4 | 171 => 162 | 0 => 0 | 53 => 45 | 37 => 109 | 5 => 5 | 173 => 164 | 212 => 181 | 51 => 182 | 20 => 20 | 213 => 183 | 46 => 83 | 232 => 201 | 233 => 167 | n => n, fun | 17 => 2 | 18 => 4 | 19 => 1 | n => n⟩
theorem Lay.lays171 : Go.Proofs.Lays.n171 Tryd.prog Lay.lays171_ren := {
  mixed := by kernel_rfl
  f129 := Tryd.func154.trans (congrArg some (by kernel_rfl))
  f171 := Tryd.func80.trans (congrArg some (by kernel_rfl))
  f243 := Tryd.func113.trans (congrArg some (by kernel_rfl))
  f246 := Tryd.func135.trans (congrArg some (by kernel_rfl))
  f283 := Tryd.func136.trans (congrArg some (by kernel_rfl))
  f284 := Tryd.func137.trans (congrArg some (by kernel_rfl))
  f285 := Tryd.func138.trans (congrArg some (by kernel_rfl))
  f286 := Tryd.func139.trans (congrArg some (by kernel_rfl))
  f317 := Tryd.func153.trans (congrArg some (by kernel_rfl))
  f318 := Tryd.func155.trans (congrArg some (by kernel_rfl))
  f319 := Tryd.func156.trans (congrArg some (by kernel_rfl))
  f320 := Tryd.func157.trans (congrArg some (by kernel_rfl))
  f337 := Tryd.func167.trans (congrArg some (by kernel_rfl))
  f338 := Tryd.func118.trans (congrArg some (by kernel_rfl))
  t0 := Tryd.underlying0
  a0 := Tryd.isAgg0
  z0 := Tryd.sizeOf0
  v0 := Tryd.zeroValue0
  t2 := Tryd.underlying2
  a2 := Tryd.isAgg2
  z2 := Tryd.sizeOf2
  v2 := Tryd.zeroValue2
  t3 := Tryd.underlying3
  a3 := Tryd.isAgg3
  z3 := Tryd.sizeOf3
  v3 := Tryd.zeroValue3
  t4 := Tryd.underlying4
  a4 := Tryd.isAgg4
  z4 := Tryd.sizeOf4
  v4 := Tryd.zeroValue4
  t5 := Tryd.underlying5
  a5 := Tryd.isAgg5
  z5 := Tryd.sizeOf5
  v5 := Tryd.zeroValue5
  t9 := Tryd.underlying9
  a9 := Tryd.isAgg9
  z9 := Tryd.sizeOf9
  v9 := Tryd.zeroValue9
  t20 := Tryd.underlying20
  a20 := Tryd.isAgg20
  z20 := Tryd.sizeOf20
  v20 := Tryd.zeroValue20
  t37 := Tryd.underlying109
  a37 := Tryd.isAgg109
  z37 := Tryd.sizeOf109
  v37 := Tryd.zeroValue109
  t46 := Tryd.underlying83
  a46 := Tryd.isAgg83
  z46 := Tryd.sizeOf83
  v46 := Tryd.zeroValue83
  t51 := Tryd.underlying182
  a51 := Tryd.isAgg182
  z51 := Tryd.sizeOf182
  v51 := Tryd.zeroValue182
  t53 := Tryd.underlying45
  a53 := Tryd.isAgg45
  z53 := Tryd.sizeOf45
  v53 := Tryd.zeroValue45
  t171 := Tryd.underlying162
  a171 := Tryd.isAgg162
  z171 := Tryd.sizeOf162
  v171 := Tryd.zeroValue162
  t173 := Tryd.underlying164
  a173 := Tryd.isAgg164
  z173 := Tryd.sizeOf164
  v173 := Tryd.zeroValue164
  t212 := Tryd.underlying181
  a212 := Tryd.isAgg181
  z212 := Tryd.sizeOf181
  v212 := Tryd.zeroValue181
  t213 := Tryd.underlying183
  a213 := Tryd.isAgg183
  z213 := Tryd.sizeOf183
  t232 := Tryd.underlying201
  a232 := Tryd.isAgg201
  z232 := Tryd.sizeOf201
  v232 := Tryd.zeroValue201
  t233 := Tryd.underlying167
  a233 := Tryd.isAgg167
  z233 := Tryd.sizeOf167
  v233 := Tryd.zeroValue167
  g17 := by kernel_rfl
  g18 := by kernel_rfl
  g19 := by kernel_rfl }
open Go.RowKit Go.Sort Go.Lib in

theorem Lay.strconv_Itoa_small (i : Nat) (hi : i < 100) (w : World) :
    Calls Tryd.prog 80 #[.int .i64 i] w fun e w' => e = .returned (.string ⟨(Lib.decDigits i).toArray⟩) ∧ w' = w := Any.strconv_Itoa_small Lay.lays171 i hi w
def Lay.lays264_ren : Go.Shelf.Ren := ⟨fun | 264 => 134 | n => n, fun | 53 => 45 | 46 => 83 | n => n, fun | n => n⟩
theorem Lay.lays264 : Go.Proofs.Lays.n264 Tryd.prog Lay.lays264_ren := {
  mixed := by kernel_rfl
  f264 := Tryd.func134.trans (congrArg some (by kernel_rfl))
  t46 := Tryd.underlying83
  a46 := Tryd.isAgg83
  z46 := Tryd.sizeOf83
  v46 := Tryd.zeroValue83
  t53 := Tryd.underlying45
  a53 := Tryd.isAgg45
  z53 := Tryd.sizeOf45
  v53 := Tryd.zeroValue45 }
open Go.RowKit Go.Lib in
theorem Lay.bits_Mul64 (x y : Nat) (hx : x < 18446744073709551616) (hy : y < 18446744073709551616) (w : World) :
    Calls Tryd.prog 134 #[.int .u64 x, .int .u64 y] w fun e w' => e = .returned (.tuple #[.int .u64 ((x * y / 18446744073709551616 : Nat) : Int), .int .u64 ((x * y % 18446744073709551616 : Nat) : Int)]) ∧ w' = w := Any.bits_Mul64 Lay.lays264 x y hx hy w
def Lay.laysSlE041_f71_ren : Go.Shelf.Ren := ⟨fun | 41 => 71 | n => n, fun | 22 => 24 | 23 => 45 | 4 => 4 | n => n, fun | n => n⟩
theorem Lay.laysSlE041_f71 : Go.Proofs.SlLaysE0.n41 Tryd.prog Lay.laysSlE041_f71_ren := {
  mixed := by kernel_rfl
  f41 := ⟨Tryd.f71.name, by decide, Tryd.func71.trans (congrArg some (by kernel_rfl))⟩
  t4 := Tryd.underlying4
  a4 := Tryd.isAgg4
  z4 := Tryd.sizeOf4
  v4 := Tryd.zeroValue4
  t22 := Tryd.underlying24
  a22 := Tryd.isAgg24
  z22 := Tryd.sizeOf24
  v22 := Tryd.zeroValue24 }
open Go.RowKit Go.Lib in

theorem Lay.slices_Clone (i0 : TypeInfo) (z : Value) (size bytes : Nat) (hi : Tryd.prog.info? 45 = some i0) (hz0 : i0.zero = some z) (hz1 : i0.size = size) (hz2 : i0.bytes = bytes) (hzs : z.cells.size = size) (hsz : 0 < size) (z23 : ∀ w, (Go.sizeOf 45).run Tryd.prog w = .ok size w) (b off n c : Nat) (news : List Value) (w : World) (hl : news.length = n * size) (hn : n ≤ maxLen) (hbig : n * bytes ≤ 140737488355328) (hc : ∀ j u, news[j]? = some u → w.cell? ⟨b, off + j, none⟩ = some u) (h1 : ∀ u ∈ news, u.oneCell' = true) :
    Calls Tryd.prog 71 #[.slice (some ⟨b, off, none⟩) n c] w fun e w' => ∃ v', e = .returned v' ∧ w'.ownsRow w.heap.size 45 size v' n news ∧ v' ≠ .slice none 0 0 ∧ Below w.heap.size w w' := AnyE.slices_Clone Lay.laysSlE041_f71 i0 z size bytes hi hz0 hz1 hz2 hzs hsz z23 b off n c news w hl hn hbig hc h1
open Go.RowKit Go.Lib in

theorem Lay.slices_Clone_nil (n c : Nat) (w : World) :
    Calls Tryd.prog 71 #[.slice none n c] w fun e w' => e = .returned (.slice none 0 0) ∧ w' = w := AnyE.slices_Clone_nil Lay.laysSlE041_f71 n c w
end Go.Proofs.YtpnkcjnemoompaaDoor
