/-
  DERIVED: THE SHELF's CONTRACTS AT THIS DUMP, IN PLAIN WORDS (tools/lay-plain.mjs out of 'TryzShelf.lean', which tools/lay-shelf.mjs wrote): THE SAME DECLARATIONS UNDER THE SAME NAMES: 'import', 'namespace', 'open', 'def', 'theorem' AND NOTHING ELSE: no command of the shelf's: FOR A HAND-IN. Each laying: the table of numbers ('.._ren') and one theorem, a field a fact of the dump's own or the kernel's comparison; each contract: ONE APPLICATION.
-/
import Derived.Shelf.Strings.Builder1
import Derived.Shelf.Small.Strs
import Derived.Shelf.Small.Wraps
import Derived.Shelf.Strings.BuilderF
import Derived.Shelf.Strings.BuilderK
import Derived.Shelf.Strconv.Atoi
import Derived.Shelf.Strconv.Itoa0
import Derived.Shelf.Strconv.Itoa1
import Derived.Shelf.LaysM
import Derived.Shelf.Strconv.Itoa2
import Derived.Shelf.Strconv.Itoa3
import Derived.Shelf.Strconv.AtoiErrFast
import Derived.Shelf.Strconv.ParseIntEmpty
import Derived.Shelf.Strconv.AtoiFail
import Derived.Shelf.Strconv.Clone
import Derived.Shelf.Strconv.SyntaxError
import Derived.Shelf.LaysC
import Derived.Shelf.Strconv.ToError
import Derived.Shelf.Strconv.AtoiErr
import Derived.Shelf.Strconv.ErrVar
import Derived.Shelf.Strconv.Lower
import Derived.Shelf.Strconv.ParseUint10
import Derived.Shelf.Strconv.ParseUint10Empty
import Derived.Shelf.Strconv.ParseUint10Any
import Derived.Shelf.Strconv.ParseInt10
import Derived.Shelf.Strconv.AtoiLong
import Derived.Shelf.Strconv.AtoiInnerAll
import Derived.Shelf.Strconv.RangeError
import Derived.Shelf.Strconv.ToErrorRange
import Derived.Shelf.Strconv.AtoiAll
import Derived.Shelf.Strconv.ErrVarAll
import Derived.Shelf.Strconv.ParseUintEmpty
import Derived.Shelf.Strconv.ParseUint10b64
import Derived.Shelf.Strconv.ParseUint10b32
import Derived.Shelf.Strconv.ParseUint10b16
import Derived.Shelf.Strconv.ParseUint10b8
import Derived.Shelf.Strconv.ParseUint10At
import Derived.Shelf.Strconv.ParseInt10At64
import Derived.Shelf.Strconv.ParseInt10At32
import Derived.Shelf.Strconv.ParseInt10At16
import Derived.Shelf.Strconv.ParseInt10At8
import Derived.Shelf.Strconv.ParseInt10All
import Derived.Shelf.Strconv.ParseIntPublic10
import Derived.Shelf.Strconv.ErrVarParseInt
import Derived.Ground.MpProg
import Derived.Shelf.Pu.ParseUintPublic10
import Derived.Shelf.Pu.ErrVarParseUint
import Derived.Shelf.Strings.Search1
import Derived.Shelf.Strings.Search2
import Derived.Shelf.Strings.Cut
import Derived.Shelf.Strings.Shaped
import Derived.Shelf.Strings.Prefix
import Derived.Shelf.Bits.Mul64
import Derived.Shelf.Strings.BuilderCap
import Derived.Test.YtfgainadfobcfaaGreatDoorProg
namespace Go.Proofs
open Go.Shelf
def Tryz.lays169_ren : Go.Shelf.Ren := ⟨fun | 169 => 140 | n => n, fun | 70 => 157 | 9 => 9 | 0 => 0 | 72 => 160 | 37 => 158 | 127 => 181 | 3 => 3 | 5 => 5 | n => n, fun | n => n⟩
theorem Tryz.lays169 : Go.Proofs.Lays.n169 Tryz.prog Tryz.lays169_ren := {
  mixed := by kernel_rfl
  f169 := Tryz.func140.trans (congrArg some (by kernel_rfl))
  t0 := Tryz.underlying0
  a0 := Tryz.isAgg0
  z0 := Tryz.sizeOf0
  v0 := Tryz.zeroValue0
  t3 := Tryz.underlying3
  a3 := Tryz.isAgg3
  z3 := Tryz.sizeOf3
  v3 := Tryz.zeroValue3
  t9 := Tryz.underlying9
  a9 := Tryz.isAgg9
  z9 := Tryz.sizeOf9
  v9 := Tryz.zeroValue9
  t37 := Tryz.underlying158
  a37 := Tryz.isAgg158
  z37 := Tryz.sizeOf158
  v37 := Tryz.zeroValue158
  t70 := Tryz.underlying157
  a70 := Tryz.isAgg157
  z70 := Tryz.sizeOf157
  v70 := Tryz.zeroValue157
  t72 := Tryz.underlying160
  a72 := Tryz.isAgg160
  z72 := Tryz.sizeOf160
  v72 := Tryz.zeroValue160
  t127 := Tryz.underlying181
  a127 := Tryz.isAgg181
  z127 := Tryz.sizeOf181
  v127 := Tryz.zeroValue181 }
theorem Tryz.Builder_Extra_169 : Builder.Extra Tryz.prog Tryz.lays169_ren := {
  sizeBuilder := by kernel_rfl
  liesBuilder := by kernel_rfl
  t5 := Tryz.underlying5
  a5 := Tryz.isAgg5
  z5 := Tryz.sizeOf5
  v5 := Tryz.zeroValue5
  infoByte := by kernel_rfl
  cellsByte := by kernel_rfl
  sizeByte := by kernel_rfl
  neB5 := by decide }
def Tryz.lays106_ren : Go.Shelf.Ren := ⟨fun | 106 => 101 | 213 => 143 | 265 => 166 | n => n, fun | 9 => 9 | 3 => 3 | n => n, fun | n => n⟩
theorem Tryz.lays106 : Go.Proofs.Lays.n106 Tryz.prog Tryz.lays106_ren := {
  mixed := by kernel_rfl
  f106 := Tryz.func101.trans (congrArg some (by kernel_rfl))
  f213 := Tryz.func143.trans (congrArg some (by kernel_rfl))
  f265 := Tryz.func166.trans (congrArg some (by kernel_rfl))
  t3 := Tryz.underlying3
  a3 := Tryz.isAgg3
  z3 := Tryz.sizeOf3
  v3 := Tryz.zeroValue3
  t9 := Tryz.underlying9
  a9 := Tryz.isAgg9
  z9 := Tryz.sizeOf9
  v9 := Tryz.zeroValue9 }
open Go.RowKit in
theorem Tryz.strings_Compare (a b : ByteArray) (w : World) :
    Calls Tryz.prog 101 #[.string a, .string b] w fun e w' => e = .returned (.int .i64 (Lib.compareBytes a.data.toList b.data.toList)) ∧ w' = w := Any.strings_Compare Tryz.lays106 a b w
def Tryz.lays137_ren : Go.Shelf.Ren := ⟨fun | 137 => 106 | 217 => 146 | 266 => 168 | n => n, fun | 9 => 9 | 5 => 5 | 3 => 3 | n => n, fun | n => n⟩
theorem Tryz.lays137 : Go.Proofs.Lays.n137 Tryz.prog Tryz.lays137_ren := {
  mixed := by kernel_rfl
  f137 := Tryz.func106.trans (congrArg some (by kernel_rfl))
  f217 := Tryz.func146.trans (congrArg some (by kernel_rfl))
  f266 := Tryz.func168.trans (congrArg some (by kernel_rfl))
  t3 := Tryz.underlying3
  a3 := Tryz.isAgg3
  z3 := Tryz.sizeOf3
  v3 := Tryz.zeroValue3
  t5 := Tryz.underlying5
  a5 := Tryz.isAgg5
  z5 := Tryz.sizeOf5
  v5 := Tryz.zeroValue5
  t9 := Tryz.underlying9
  a9 := Tryz.isAgg9
  z9 := Tryz.sizeOf9
  v9 := Tryz.zeroValue9 }
open Go.RowKit in
theorem Tryz.strings_IndexByte (s : ByteArray) (c : Int) (w : World) :
    Calls Tryz.prog 106 #[.string s, .int .u8 c] w fun e w' => e = .returned (.int .i64 (Lib.indexByte s.data.toList c.toNat.toUInt8)) ∧ w' = w := Any.strings_IndexByte Tryz.lays137 s c w
def Tryz.lays103_ren : Go.Shelf.Ren := ⟨fun | 103 => 131 | 210 => 159 | 206 => 165 | n => n, fun | 9 => 9 | 4 => 4 | 24 => 150 | 3 => 3 | n => n, fun | n => n⟩
theorem Tryz.lays103 : Go.Proofs.Lays.n103 Tryz.prog Tryz.lays103_ren := {
  mixed := by kernel_rfl
  f103 := Tryz.func131.trans (congrArg some (by kernel_rfl))
  f206 := Tryz.func165.trans (congrArg some (by kernel_rfl))
  f210 := Tryz.func159.trans (congrArg some (by kernel_rfl))
  t3 := Tryz.underlying3
  a3 := Tryz.isAgg3
  z3 := Tryz.sizeOf3
  v3 := Tryz.zeroValue3
  t4 := Tryz.underlying4
  a4 := Tryz.isAgg4
  z4 := Tryz.sizeOf4
  v4 := Tryz.zeroValue4
  t9 := Tryz.underlying9
  a9 := Tryz.isAgg9
  z9 := Tryz.sizeOf9
  v9 := Tryz.zeroValue9
  t24 := Tryz.underlying150
  a24 := Tryz.isAgg150
  z24 := Tryz.sizeOf150
  v24 := Tryz.zeroValue150 }
open Go.RowKit in
theorem Tryz.strings_CutPrefix (s p : ByteArray) (w : World) :
    Calls Tryz.prog 131 #[.string s, .string p] w fun e w' => e = .returned (.tuple #[.string ⟨(Lib.trimPrefix s.data.toList p.data.toList).toArray⟩, .bool (Lib.hasPrefix s.data.toList p.data.toList)]) ∧ w' = w := Any.strings_CutPrefix Tryz.lays103 s p w
open Go.RowKit in
theorem Tryz.Builder_String_any_k (B b : Nat) (l : List UInt8) (w : World) (h : Lib.IsBuilderF 160 5 B b (Lib.byteCells l) w) (hBw : B ≤ w.heap.size) :
    Calls Tryz.prog 140 #[.pointer (some ⟨b, 0, none⟩)] w fun e w' => e = .returned (.string ⟨l.toArray⟩) ∧ (Lib.IsBuilderF 160 5 B b (Lib.byteCells l) w' ∧ Below B w w' ∧ Lib.OthersKept 5 (some b) w w') := Any.Builder_String_any_k Tryz.lays169 Tryz.Builder_Extra_169 B b l w h hBw
def Tryz.lays283_ren : Go.Shelf.Ren := ⟨fun | 283 => 177 | n => n, fun | 3 => 3 | 9 => 9 | 4 => 4 | n => n, fun | n => n⟩
theorem Tryz.lays283 : Go.Proofs.Lays.n283 Tryz.prog Tryz.lays283_ren := {
  mixed := by kernel_rfl
  f283 := Tryz.func177.trans (congrArg some (by kernel_rfl))
  t3 := Tryz.underlying3
  a3 := Tryz.isAgg3
  z3 := Tryz.sizeOf3
  v3 := Tryz.zeroValue3
  t4 := Tryz.underlying4
  a4 := Tryz.isAgg4
  z4 := Tryz.sizeOf4
  v4 := Tryz.zeroValue4
  t9 := Tryz.underlying9
  a9 := Tryz.isAgg9
  z9 := Tryz.sizeOf9
  v9 := Tryz.zeroValue9 }
open Go.Lib in
theorem Tryz.internal_strconv_small (i : Nat) (h : i < 100) (w : World) :
    Calls Tryz.prog 177 #[.int .i64 i] w fun e w' => e = .returned (.string ⟨(Lib.decDigits i).toArray⟩) ∧ w' = w := Any.internal_strconv_small Tryz.lays283 i h w
def Tryz.laysM284_ren : Go.Shelf.Ren := ⟨fun | 284 => 178 | 129 => 183 | 317 => 182 | 318 => 184 | n => n, fun | 53 => 112 | 3 => 3 | 212 => 202 | 0 => 0 | 4 => 4 | 46 => 76 | 5 => 5 | 9 => 9 | n => n, fun | 17 => 3 | n => n⟩
theorem Tryz.laysM284 : Go.Proofs.LaysM.n284 Tryz.prog Tryz.laysM284_ren := {
  mixed := by kernel_rfl
  f129 := Tryz.func183.trans (congrArg some (by kernel_rfl))
  f284 := Tryz.func178.trans (congrArg some (by kernel_rfl))
  f317 := Tryz.func182.trans (congrArg some (by kernel_rfl))
  f318 := Tryz.func184.trans (congrArg some (by kernel_rfl))
  t0 := Tryz.underlying0
  a0 := Tryz.isAgg0
  z0 := Tryz.sizeOf0
  v0 := Tryz.zeroValue0
  t3 := Tryz.underlying3
  a3 := Tryz.isAgg3
  z3 := Tryz.sizeOf3
  v3 := Tryz.zeroValue3
  t4 := Tryz.underlying4
  a4 := Tryz.isAgg4
  z4 := Tryz.sizeOf4
  v4 := Tryz.zeroValue4
  t5 := Tryz.underlying5
  a5 := Tryz.isAgg5
  z5 := Tryz.sizeOf5
  v5 := Tryz.zeroValue5
  t9 := Tryz.underlying9
  a9 := Tryz.isAgg9
  z9 := Tryz.sizeOf9
  v9 := Tryz.zeroValue9
  t46 := Tryz.underlying76
  a46 := Tryz.isAgg76
  z46 := Tryz.sizeOf76
  v46 := Tryz.zeroValue76
  t53 := Tryz.underlying112
  a53 := Tryz.isAgg112
  z53 := Tryz.sizeOf112
  v53 := Tryz.zeroValue112
  t212 := Tryz.underlying202
  a212 := Tryz.isAgg202
  z212 := Tryz.sizeOf202
  v212 := Tryz.zeroValue202
  g17 := by kernel_rfl
  i0 := by kernel_rfl
  i3 := by kernel_rfl
  i4 := by kernel_rfl
  i5 := by kernel_rfl
  i9 := by kernel_rfl
  i46 := by kernel_rfl
  i53 := by kernel_rfl
  i212 := by kernel_rfl
  m17 := by kernel_rfl }
open Go.Lib in
theorem Tryz.internal_strconv_numDigits (u : Nat) (h1 : 1 ≤ u) (h2 : u < 18446744073709551616) (w : World) (htab : Lib.TabIs Tryz.prog w "internal/strconv.uint64pow10" .u64 Lib.pow10Tab) :
    Calls Tryz.prog 178 #[.int .u64 u] w fun e w' => e = .returned (.int .i64 (Lib.nDigits u)) ∧ w' = w := Any.internal_strconv_numDigits Tryz.laysM284 u h1 h2 w htab
def Tryz.lays285_ren : Go.Shelf.Ren := ⟨fun | 285 => 179 | n => n, fun | 37 => 158 | 53 => 112 | 3 => 3 | 4 => 4 | 51 => 109 | 9 => 9 | 5 => 5 | 0 => 0 | n => n, fun | n => n⟩
theorem Tryz.lays285 : Go.Proofs.Lays.n285 Tryz.prog Tryz.lays285_ren := {
  mixed := by kernel_rfl
  f285 := Tryz.func179.trans (congrArg some (by kernel_rfl))
  t0 := Tryz.underlying0
  a0 := Tryz.isAgg0
  z0 := Tryz.sizeOf0
  v0 := Tryz.zeroValue0
  t3 := Tryz.underlying3
  a3 := Tryz.isAgg3
  z3 := Tryz.sizeOf3
  v3 := Tryz.zeroValue3
  t4 := Tryz.underlying4
  a4 := Tryz.isAgg4
  z4 := Tryz.sizeOf4
  v4 := Tryz.zeroValue4
  t5 := Tryz.underlying5
  a5 := Tryz.isAgg5
  z5 := Tryz.sizeOf5
  v5 := Tryz.zeroValue5
  t9 := Tryz.underlying9
  a9 := Tryz.isAgg9
  z9 := Tryz.sizeOf9
  v9 := Tryz.zeroValue9
  t37 := Tryz.underlying158
  a37 := Tryz.isAgg158
  z37 := Tryz.sizeOf158
  v37 := Tryz.zeroValue158
  t51 := Tryz.underlying109
  a51 := Tryz.isAgg109
  z51 := Tryz.sizeOf109
  v51 := Tryz.zeroValue109
  t53 := Tryz.underlying112
  a53 := Tryz.isAgg112
  z53 := Tryz.sizeOf112
  v53 := Tryz.zeroValue112 }
open Go.RowKit Go.Sort Go.Lib in
theorem Tryz.internal_strconv_formatBase10 (blk off cap : Nat) (u : Nat) (d : Array UInt8) (w : World) (hH : Holds (fun (b : UInt8) => Value.int .u8 (b.toNat : Int)) w blk off d) (hu : u < 10 ^ d.size) (hu64 : u < 18446744073709551616) (hsz : d.size < 4611686018427387904) :
    Calls Tryz.prog 179 #[.slice (some ⟨blk, off, none⟩) d.size cap, .int .u64 u] w fun e w' =>
      e = .returned (.tuple #[]) ∧ ∃ (n v' : Nat) (dk : Array UInt8), w' = (putRow (fun (b : UInt8) => Value.int .u8 (b.toNat : Int)) w blk off dk).drewN n ∧ FmtInv d.size u 0 v' dk := Any.internal_strconv_formatBase10 Tryz.lays285 blk off cap u d w hH hu hu64 hsz
def Tryz.laysM171_ren : Go.Shelf.Ren := ⟨fun | 171 => 102 | 243 => 144 | 246 => 167 | 283 => 177 | 284 => 178 | 285 => 179 | 286 => 180 | 129 => 183 | 317 => 182 | 318 => 184 | 319 => 185 | 320 => 186 | 337 => 187 | 338 => 188 | n => n, fun | 3 => 3 | 9 => 9 | 2 => 2 | 4 => 4 | 171 => 192 | 0 => 0 | 53 => 112 | 37 => 158 | 5 => 5 | 173 => 195 | 212 => 202 | 51 => 109 | 20 => 20 | 213 => 203 | 46 => 76 | 232 => 207 | 233 => 208 | n => n, fun | 17 => 3 | 18 => 4 | 19 => 5 | n => n⟩
theorem Tryz.laysM171 : Go.Proofs.LaysM.n171 Tryz.prog Tryz.laysM171_ren := {
  mixed := by kernel_rfl
  f129 := Tryz.func183.trans (congrArg some (by kernel_rfl))
  f171 := Tryz.func102.trans (congrArg some (by kernel_rfl))
  f243 := Tryz.func144.trans (congrArg some (by kernel_rfl))
  f246 := Tryz.func167.trans (congrArg some (by kernel_rfl))
  f283 := Tryz.func177.trans (congrArg some (by kernel_rfl))
  f284 := Tryz.func178.trans (congrArg some (by kernel_rfl))
  f285 := Tryz.func179.trans (congrArg some (by kernel_rfl))
  f286 := Tryz.func180.trans (congrArg some (by kernel_rfl))
  f317 := Tryz.func182.trans (congrArg some (by kernel_rfl))
  f318 := Tryz.func184.trans (congrArg some (by kernel_rfl))
  f319 := Tryz.func185.trans (congrArg some (by kernel_rfl))
  f320 := Tryz.func186.trans (congrArg some (by kernel_rfl))
  f337 := Tryz.func187.trans (congrArg some (by kernel_rfl))
  f338 := Tryz.func188.trans (congrArg some (by kernel_rfl))
  t0 := Tryz.underlying0
  a0 := Tryz.isAgg0
  z0 := Tryz.sizeOf0
  v0 := Tryz.zeroValue0
  t2 := Tryz.underlying2
  a2 := Tryz.isAgg2
  z2 := Tryz.sizeOf2
  v2 := Tryz.zeroValue2
  t3 := Tryz.underlying3
  a3 := Tryz.isAgg3
  z3 := Tryz.sizeOf3
  v3 := Tryz.zeroValue3
  t4 := Tryz.underlying4
  a4 := Tryz.isAgg4
  z4 := Tryz.sizeOf4
  v4 := Tryz.zeroValue4
  t5 := Tryz.underlying5
  a5 := Tryz.isAgg5
  z5 := Tryz.sizeOf5
  v5 := Tryz.zeroValue5
  t9 := Tryz.underlying9
  a9 := Tryz.isAgg9
  z9 := Tryz.sizeOf9
  v9 := Tryz.zeroValue9
  t20 := Tryz.underlying20
  a20 := Tryz.isAgg20
  z20 := Tryz.sizeOf20
  v20 := Tryz.zeroValue20
  t37 := Tryz.underlying158
  a37 := Tryz.isAgg158
  z37 := Tryz.sizeOf158
  v37 := Tryz.zeroValue158
  t46 := Tryz.underlying76
  a46 := Tryz.isAgg76
  z46 := Tryz.sizeOf76
  v46 := Tryz.zeroValue76
  t51 := Tryz.underlying109
  a51 := Tryz.isAgg109
  z51 := Tryz.sizeOf109
  v51 := Tryz.zeroValue109
  t53 := Tryz.underlying112
  a53 := Tryz.isAgg112
  z53 := Tryz.sizeOf112
  v53 := Tryz.zeroValue112
  t171 := Tryz.underlying192
  a171 := Tryz.isAgg192
  z171 := Tryz.sizeOf192
  v171 := Tryz.zeroValue192
  t173 := Tryz.underlying195
  a173 := Tryz.isAgg195
  z173 := Tryz.sizeOf195
  v173 := Tryz.zeroValue195
  t212 := Tryz.underlying202
  a212 := Tryz.isAgg202
  z212 := Tryz.sizeOf202
  v212 := Tryz.zeroValue202
  t213 := Tryz.underlying203
  a213 := Tryz.isAgg203
  z213 := Tryz.sizeOf203
  t232 := Tryz.underlying207
  a232 := Tryz.isAgg207
  z232 := Tryz.sizeOf207
  v232 := Tryz.zeroValue207
  t233 := Tryz.underlying208
  a233 := Tryz.isAgg208
  z233 := Tryz.sizeOf208
  v233 := Tryz.zeroValue208
  g17 := by kernel_rfl
  g18 := by kernel_rfl
  g19 := by kernel_rfl
  i0 := by kernel_rfl
  i2 := by kernel_rfl
  i3 := by kernel_rfl
  i4 := by kernel_rfl
  i5 := by kernel_rfl
  i9 := by kernel_rfl
  i20 := by kernel_rfl
  i37 := by kernel_rfl
  i46 := by kernel_rfl
  i51 := by kernel_rfl
  i53 := by kernel_rfl
  i171 := by kernel_rfl
  i173 := by kernel_rfl
  i212 := by kernel_rfl
  i232 := by kernel_rfl
  i233 := by kernel_rfl
  m17 := by kernel_rfl
  m18 := by kernel_rfl
  m19 := by kernel_rfl }
open Go.RowKit Go.Sort Go.Lib in
theorem Tryz.strconv_Itoa (n : Int) (h0 : -9223372036854775808 ≤ n) (h1 : n ≤ 9223372036854775807) (w : World) (htab : Lib.TabIs Tryz.prog w "internal/strconv.uint64pow10" .u64 Lib.pow10Tab) :
    Calls Tryz.prog 102 #[.int .i64 n] w fun e w' => e = .returned (.string ⟨(Lib.itoa n).toArray⟩) ∧ ∃ k os, w' = grow (w.drewN k) os := Any.strconv_Itoa Tryz.laysM171 n h0 h1 w htab
def Tryz.laysC172_ren : Go.Shelf.Ren := ⟨fun | 172 => 77 | 244 => 126 | 245 => 127 | 247 => 153 | 279 => 154 | 280 => 155 | 281 => 156 | 282 => 157 | 287 => 161 | 316 => 169 | 171 => 102 | 205 => 170 | 321 => 174 | 322 => 175 | 243 => 144 | 246 => 167 | 283 => 177 | 284 => 178 | 285 => 179 | 286 => 180 | 129 => 183 | 317 => 182 | 318 => 184 | 319 => 185 | 320 => 186 | 337 => 187 | 338 => 188 | n => n, fun | 9 => 9 | 3 => 3 | 75 => 106 | 76 => 107 | 4 => 4 | 5 => 5 | 167 => 175 | 37 => 158 | 0 => 0 | 85 => 173 | 2 => 2 | 168 => 176 | 53 => 112 | 175 => 154 | 46 => 76 | 210 => 185 | 127 => 181 | 145 => 199 | 143 => 197 | 21 => 21 | 171 => 192 | 173 => 195 | 212 => 202 | 51 => 109 | 20 => 20 | 213 => 203 | 232 => 207 | 233 => 208 | 80 => 166 | n => n, fun | 15 => 1 | 16 => 2 | 17 => 3 | 18 => 4 | 19 => 5 | n => n⟩
theorem Tryz.laysC172 : Go.Proofs.LaysC.n172 Tryz.prog Tryz.laysC172_ren := {
  mixed := by kernel_rfl
  f129 := Tryz.func183.trans (congrArg some (by kernel_rfl))
  f171 := Tryz.func102.trans (congrArg some (by kernel_rfl))
  f172 := Tryz.func77.trans (congrArg some (by kernel_rfl))
  f205 := Tryz.func170.trans (congrArg some (by kernel_rfl))
  f243 := Tryz.func144.trans (congrArg some (by kernel_rfl))
  f244 := Tryz.func126.trans (congrArg some (by kernel_rfl))
  f245 := Tryz.func127.trans (congrArg some (by kernel_rfl))
  f246 := Tryz.func167.trans (congrArg some (by kernel_rfl))
  f247 := Tryz.func153.trans (congrArg some (by kernel_rfl))
  f279 := Tryz.func154.trans (congrArg some (by kernel_rfl))
  f280 := Tryz.func155.trans (congrArg some (by kernel_rfl))
  f281 := Tryz.func156.trans (congrArg some (by kernel_rfl))
  f282 := Tryz.func157.trans (congrArg some (by kernel_rfl))
  f283 := Tryz.func177.trans (congrArg some (by kernel_rfl))
  f284 := Tryz.func178.trans (congrArg some (by kernel_rfl))
  f285 := Tryz.func179.trans (congrArg some (by kernel_rfl))
  f286 := Tryz.func180.trans (congrArg some (by kernel_rfl))
  f287 := Tryz.func161.trans (congrArg some (by kernel_rfl))
  f316 := Tryz.func169.trans (congrArg some (by kernel_rfl))
  f317 := Tryz.func182.trans (congrArg some (by kernel_rfl))
  f318 := Tryz.func184.trans (congrArg some (by kernel_rfl))
  f319 := Tryz.func185.trans (congrArg some (by kernel_rfl))
  f320 := Tryz.func186.trans (congrArg some (by kernel_rfl))
  f321 := Tryz.func174.trans (congrArg some (by kernel_rfl))
  f322 := Tryz.func175.trans (congrArg some (by kernel_rfl))
  f337 := Tryz.func187.trans (congrArg some (by kernel_rfl))
  f338 := Tryz.func188.trans (congrArg some (by kernel_rfl))
  t0 := Tryz.underlying0
  a0 := Tryz.isAgg0
  z0 := Tryz.sizeOf0
  v0 := Tryz.zeroValue0
  t2 := Tryz.underlying2
  a2 := Tryz.isAgg2
  z2 := Tryz.sizeOf2
  v2 := Tryz.zeroValue2
  t3 := Tryz.underlying3
  a3 := Tryz.isAgg3
  z3 := Tryz.sizeOf3
  v3 := Tryz.zeroValue3
  t4 := Tryz.underlying4
  a4 := Tryz.isAgg4
  z4 := Tryz.sizeOf4
  v4 := Tryz.zeroValue4
  t5 := Tryz.underlying5
  a5 := Tryz.isAgg5
  z5 := Tryz.sizeOf5
  v5 := Tryz.zeroValue5
  t9 := Tryz.underlying9
  a9 := Tryz.isAgg9
  z9 := Tryz.sizeOf9
  v9 := Tryz.zeroValue9
  t20 := Tryz.underlying20
  a20 := Tryz.isAgg20
  z20 := Tryz.sizeOf20
  v20 := Tryz.zeroValue20
  t21 := Tryz.underlying21
  a21 := Tryz.isAgg21
  z21 := Tryz.sizeOf21
  v21 := Tryz.zeroValue21
  t37 := Tryz.underlying158
  a37 := Tryz.isAgg158
  z37 := Tryz.sizeOf158
  v37 := Tryz.zeroValue158
  t46 := Tryz.underlying76
  a46 := Tryz.isAgg76
  z46 := Tryz.sizeOf76
  v46 := Tryz.zeroValue76
  t51 := Tryz.underlying109
  a51 := Tryz.isAgg109
  z51 := Tryz.sizeOf109
  v51 := Tryz.zeroValue109
  t53 := Tryz.underlying112
  a53 := Tryz.isAgg112
  z53 := Tryz.sizeOf112
  v53 := Tryz.zeroValue112
  t75 := Tryz.underlying106
  a75 := Tryz.isAgg106
  z75 := Tryz.sizeOf106
  v75 := Tryz.zeroValue106
  t76 := Tryz.underlying107
  a76 := Tryz.isAgg107
  z76 := Tryz.sizeOf107
  v76 := Tryz.zeroValue107
  t85 := Tryz.underlying173
  a85 := Tryz.isAgg173
  z85 := Tryz.sizeOf173
  v85 := Tryz.zeroValue173
  t127 := Tryz.underlying181
  a127 := Tryz.isAgg181
  z127 := Tryz.sizeOf181
  v127 := Tryz.zeroValue181
  t143 := Tryz.underlying197
  a143 := Tryz.isAgg197
  z143 := Tryz.sizeOf197
  v143 := Tryz.zeroValue197
  t145 := Tryz.underlying199
  a145 := Tryz.isAgg199
  z145 := Tryz.sizeOf199
  v145 := Tryz.zeroValue199
  t167 := Tryz.underlying175
  a167 := Tryz.isAgg175
  z167 := Tryz.sizeOf175
  v167 := Tryz.zeroValue175
  t168 := Tryz.underlying176
  a168 := Tryz.isAgg176
  z168 := Tryz.sizeOf176
  v168 := Tryz.zeroValue176
  t171 := Tryz.underlying192
  a171 := Tryz.isAgg192
  z171 := Tryz.sizeOf192
  v171 := Tryz.zeroValue192
  t173 := Tryz.underlying195
  a173 := Tryz.isAgg195
  z173 := Tryz.sizeOf195
  v173 := Tryz.zeroValue195
  t175 := Tryz.underlying154
  a175 := Tryz.isAgg154
  z175 := Tryz.sizeOf154
  v175 := Tryz.zeroValue154
  t210 := Tryz.underlying185
  a210 := Tryz.isAgg185
  z210 := Tryz.sizeOf185
  v210 := Tryz.zeroValue185
  t212 := Tryz.underlying202
  a212 := Tryz.isAgg202
  z212 := Tryz.sizeOf202
  v212 := Tryz.zeroValue202
  t213 := Tryz.underlying203
  a213 := Tryz.isAgg203
  z213 := Tryz.sizeOf203
  t232 := Tryz.underlying207
  a232 := Tryz.isAgg207
  z232 := Tryz.sizeOf207
  v232 := Tryz.zeroValue207
  t233 := Tryz.underlying208
  a233 := Tryz.isAgg208
  z233 := Tryz.sizeOf208
  v233 := Tryz.zeroValue208
  g15 := by kernel_rfl
  g16 := by kernel_rfl
  g17 := by kernel_rfl
  g18 := by kernel_rfl
  g19 := by kernel_rfl
  t80 := Tryz.underlying166
  a80 := Tryz.isAgg166
  z80 := Tryz.sizeOf166
  v80 := Tryz.zeroValue166
  i0 := by kernel_rfl
  i2 := by kernel_rfl
  i3 := by kernel_rfl
  i4 := by kernel_rfl
  i5 := by kernel_rfl
  i9 := by kernel_rfl
  i20 := by kernel_rfl
  i21 := by kernel_rfl
  i37 := by kernel_rfl
  i46 := by kernel_rfl
  i51 := by kernel_rfl
  i53 := by kernel_rfl
  i75 := by kernel_rfl
  i76 := by kernel_rfl
  i80 := by kernel_rfl
  i85 := by kernel_rfl
  i127 := by kernel_rfl
  i143 := by kernel_rfl
  i145 := by kernel_rfl
  i167 := by kernel_rfl
  i168 := by kernel_rfl
  i171 := by kernel_rfl
  i173 := by kernel_rfl
  i175 := by kernel_rfl
  i210 := by kernel_rfl
  i212 := by kernel_rfl
  i232 := by kernel_rfl
  i233 := by kernel_rfl
  m15 := by kernel_rfl
  m16 := by kernel_rfl
  m17 := by kernel_rfl
  m18 := by kernel_rfl
  m19 := by kernel_rfl
  c0 := by kernel_rfl
  c2 := by kernel_rfl
  c3 := by kernel_rfl
  c4 := by kernel_rfl
  c5 := by kernel_rfl
  c9 := by kernel_rfl
  c20 := by kernel_rfl
  c21 := by kernel_rfl
  c37 := by kernel_rfl
  c46 := by kernel_rfl
  c51 := by kernel_rfl
  c53 := by kernel_rfl
  c75 := by kernel_rfl
  c76 := by kernel_rfl
  c80 := by kernel_rfl
  c85 := by kernel_rfl
  c127 := by kernel_rfl
  c143 := by kernel_rfl
  c145 := by kernel_rfl
  c167 := by kernel_rfl
  c168 := by kernel_rfl
  c171 := by kernel_rfl
  c173 := by kernel_rfl
  c175 := by kernel_rfl
  c210 := by kernel_rfl
  c212 := by kernel_rfl
  c213 := by kernel_rfl
  c232 := by kernel_rfl
  c233 := by kernel_rfl }
open Go.RowKit in
theorem Tryz.strconv_Atoi_ok (s : ByteArray) (hmax : s.size ≤ 9223372036854775806) (v : Int) (h : Lib.atoiAll s.data.toList = .ok v) (w : World) :
    Calls Tryz.prog 77 #[.string s] w fun e w' => e = .returned (.tuple #[.int .i64 v, .nilIface]) ∧ (w' = w ∨ ∃ t, w' = Lib.bytesWorld w 5 t) := Any.strconv_Atoi_ok Tryz.laysC172 s hmax v h w
open Go.RowKit in
theorem Tryz.strconv_Atoi_range_var (s : ByteArray) (hlim : s.size ≤ 281474976710656) (h : Lib.atoiAll s.data.toList = .range) (tp : TypeId) (p : Value) (w : World) (hvar : w.var? Tryz.prog "strconv.ErrRange" = some #[.iface tp p]) :
    Calls Tryz.prog 77 #[.string s] w fun e w' => ∃ N, e = .returned (.tuple #[.int .i64 (Lib.atoiSat s.data.toList), .iface 176 (.pointer (some ⟨N, 0, none⟩))]) ∧ w.heap.size ≤ N ∧ w'.heap[N]? = some (.cells #[.string ⟨#[65, 116, 111, 105]⟩, .string s, .iface tp p] 185 (0, 0)) ∧ Below w.heap.size w w' := Any.strconv_Atoi_range_var Tryz.laysC172 s hlim h tp p w hvar
def Tryz.laysC174_ren : Go.Shelf.Ren := ⟨fun | 174 => 152 | 247 => 153 | 245 => 127 | 287 => 161 | 279 => 154 | 280 => 155 | 281 => 156 | 282 => 157 | 321 => 174 | 322 => 175 | 316 => 169 | 171 => 102 | 205 => 170 | 243 => 144 | 246 => 167 | 283 => 177 | 284 => 178 | 285 => 179 | 286 => 180 | 129 => 183 | 317 => 182 | 318 => 184 | 319 => 185 | 320 => 186 | 337 => 187 | 338 => 188 | n => n, fun | 9 => 9 | 3 => 3 | 2 => 2 | 75 => 106 | 85 => 173 | 4 => 4 | 167 => 175 | 5 => 5 | 53 => 112 | 175 => 154 | 46 => 76 | 168 => 176 | 37 => 158 | 0 => 0 | 210 => 185 | 21 => 21 | 127 => 181 | 145 => 199 | 143 => 197 | 171 => 192 | 173 => 195 | 212 => 202 | 51 => 109 | 20 => 20 | 213 => 203 | 232 => 207 | 233 => 208 | 80 => 166 | n => n, fun | 15 => 1 | 16 => 2 | 17 => 3 | 18 => 4 | 19 => 5 | n => n⟩
theorem Tryz.laysC174 : Go.Proofs.LaysC.n174 Tryz.prog Tryz.laysC174_ren := {
  mixed := by kernel_rfl
  f129 := Tryz.func183.trans (congrArg some (by kernel_rfl))
  f171 := Tryz.func102.trans (congrArg some (by kernel_rfl))
  f174 := Tryz.func152.trans (congrArg some (by kernel_rfl))
  f205 := Tryz.func170.trans (congrArg some (by kernel_rfl))
  f243 := Tryz.func144.trans (congrArg some (by kernel_rfl))
  f245 := Tryz.func127.trans (congrArg some (by kernel_rfl))
  f246 := Tryz.func167.trans (congrArg some (by kernel_rfl))
  f247 := Tryz.func153.trans (congrArg some (by kernel_rfl))
  f279 := Tryz.func154.trans (congrArg some (by kernel_rfl))
  f280 := Tryz.func155.trans (congrArg some (by kernel_rfl))
  f281 := Tryz.func156.trans (congrArg some (by kernel_rfl))
  f282 := Tryz.func157.trans (congrArg some (by kernel_rfl))
  f283 := Tryz.func177.trans (congrArg some (by kernel_rfl))
  f284 := Tryz.func178.trans (congrArg some (by kernel_rfl))
  f285 := Tryz.func179.trans (congrArg some (by kernel_rfl))
  f286 := Tryz.func180.trans (congrArg some (by kernel_rfl))
  f287 := Tryz.func161.trans (congrArg some (by kernel_rfl))
  f316 := Tryz.func169.trans (congrArg some (by kernel_rfl))
  f317 := Tryz.func182.trans (congrArg some (by kernel_rfl))
  f318 := Tryz.func184.trans (congrArg some (by kernel_rfl))
  f319 := Tryz.func185.trans (congrArg some (by kernel_rfl))
  f320 := Tryz.func186.trans (congrArg some (by kernel_rfl))
  f321 := Tryz.func174.trans (congrArg some (by kernel_rfl))
  f322 := Tryz.func175.trans (congrArg some (by kernel_rfl))
  f337 := Tryz.func187.trans (congrArg some (by kernel_rfl))
  f338 := Tryz.func188.trans (congrArg some (by kernel_rfl))
  t0 := Tryz.underlying0
  a0 := Tryz.isAgg0
  z0 := Tryz.sizeOf0
  v0 := Tryz.zeroValue0
  t2 := Tryz.underlying2
  a2 := Tryz.isAgg2
  z2 := Tryz.sizeOf2
  v2 := Tryz.zeroValue2
  t3 := Tryz.underlying3
  a3 := Tryz.isAgg3
  z3 := Tryz.sizeOf3
  v3 := Tryz.zeroValue3
  t4 := Tryz.underlying4
  a4 := Tryz.isAgg4
  z4 := Tryz.sizeOf4
  v4 := Tryz.zeroValue4
  t5 := Tryz.underlying5
  a5 := Tryz.isAgg5
  z5 := Tryz.sizeOf5
  v5 := Tryz.zeroValue5
  t9 := Tryz.underlying9
  a9 := Tryz.isAgg9
  z9 := Tryz.sizeOf9
  v9 := Tryz.zeroValue9
  t20 := Tryz.underlying20
  a20 := Tryz.isAgg20
  z20 := Tryz.sizeOf20
  v20 := Tryz.zeroValue20
  t21 := Tryz.underlying21
  a21 := Tryz.isAgg21
  z21 := Tryz.sizeOf21
  v21 := Tryz.zeroValue21
  t37 := Tryz.underlying158
  a37 := Tryz.isAgg158
  z37 := Tryz.sizeOf158
  v37 := Tryz.zeroValue158
  t46 := Tryz.underlying76
  a46 := Tryz.isAgg76
  z46 := Tryz.sizeOf76
  v46 := Tryz.zeroValue76
  t51 := Tryz.underlying109
  a51 := Tryz.isAgg109
  z51 := Tryz.sizeOf109
  v51 := Tryz.zeroValue109
  t53 := Tryz.underlying112
  a53 := Tryz.isAgg112
  z53 := Tryz.sizeOf112
  v53 := Tryz.zeroValue112
  t75 := Tryz.underlying106
  a75 := Tryz.isAgg106
  z75 := Tryz.sizeOf106
  v75 := Tryz.zeroValue106
  t85 := Tryz.underlying173
  a85 := Tryz.isAgg173
  z85 := Tryz.sizeOf173
  v85 := Tryz.zeroValue173
  t127 := Tryz.underlying181
  a127 := Tryz.isAgg181
  z127 := Tryz.sizeOf181
  v127 := Tryz.zeroValue181
  t143 := Tryz.underlying197
  a143 := Tryz.isAgg197
  z143 := Tryz.sizeOf197
  v143 := Tryz.zeroValue197
  t145 := Tryz.underlying199
  a145 := Tryz.isAgg199
  z145 := Tryz.sizeOf199
  v145 := Tryz.zeroValue199
  t167 := Tryz.underlying175
  a167 := Tryz.isAgg175
  z167 := Tryz.sizeOf175
  v167 := Tryz.zeroValue175
  t168 := Tryz.underlying176
  a168 := Tryz.isAgg176
  z168 := Tryz.sizeOf176
  v168 := Tryz.zeroValue176
  t171 := Tryz.underlying192
  a171 := Tryz.isAgg192
  z171 := Tryz.sizeOf192
  v171 := Tryz.zeroValue192
  t173 := Tryz.underlying195
  a173 := Tryz.isAgg195
  z173 := Tryz.sizeOf195
  v173 := Tryz.zeroValue195
  t175 := Tryz.underlying154
  a175 := Tryz.isAgg154
  z175 := Tryz.sizeOf154
  v175 := Tryz.zeroValue154
  t210 := Tryz.underlying185
  a210 := Tryz.isAgg185
  z210 := Tryz.sizeOf185
  v210 := Tryz.zeroValue185
  t212 := Tryz.underlying202
  a212 := Tryz.isAgg202
  z212 := Tryz.sizeOf202
  v212 := Tryz.zeroValue202
  t213 := Tryz.underlying203
  a213 := Tryz.isAgg203
  z213 := Tryz.sizeOf203
  t232 := Tryz.underlying207
  a232 := Tryz.isAgg207
  z232 := Tryz.sizeOf207
  v232 := Tryz.zeroValue207
  t233 := Tryz.underlying208
  a233 := Tryz.isAgg208
  z233 := Tryz.sizeOf208
  v233 := Tryz.zeroValue208
  g15 := by kernel_rfl
  g16 := by kernel_rfl
  g17 := by kernel_rfl
  g18 := by kernel_rfl
  g19 := by kernel_rfl
  t80 := Tryz.underlying166
  a80 := Tryz.isAgg166
  z80 := Tryz.sizeOf166
  v80 := Tryz.zeroValue166
  i0 := by kernel_rfl
  i2 := by kernel_rfl
  i3 := by kernel_rfl
  i4 := by kernel_rfl
  i5 := by kernel_rfl
  i9 := by kernel_rfl
  i20 := by kernel_rfl
  i21 := by kernel_rfl
  i37 := by kernel_rfl
  i46 := by kernel_rfl
  i51 := by kernel_rfl
  i53 := by kernel_rfl
  i75 := by kernel_rfl
  i80 := by kernel_rfl
  i85 := by kernel_rfl
  i127 := by kernel_rfl
  i143 := by kernel_rfl
  i145 := by kernel_rfl
  i167 := by kernel_rfl
  i168 := by kernel_rfl
  i171 := by kernel_rfl
  i173 := by kernel_rfl
  i175 := by kernel_rfl
  i210 := by kernel_rfl
  i212 := by kernel_rfl
  i232 := by kernel_rfl
  i233 := by kernel_rfl
  m15 := by kernel_rfl
  m16 := by kernel_rfl
  m17 := by kernel_rfl
  m18 := by kernel_rfl
  m19 := by kernel_rfl
  c0 := by kernel_rfl
  c2 := by kernel_rfl
  c3 := by kernel_rfl
  c4 := by kernel_rfl
  c5 := by kernel_rfl
  c9 := by kernel_rfl
  c20 := by kernel_rfl
  c21 := by kernel_rfl
  c37 := by kernel_rfl
  c46 := by kernel_rfl
  c51 := by kernel_rfl
  c53 := by kernel_rfl
  c75 := by kernel_rfl
  c80 := by kernel_rfl
  c85 := by kernel_rfl
  c127 := by kernel_rfl
  c143 := by kernel_rfl
  c145 := by kernel_rfl
  c167 := by kernel_rfl
  c168 := by kernel_rfl
  c171 := by kernel_rfl
  c173 := by kernel_rfl
  c175 := by kernel_rfl
  c210 := by kernel_rfl
  c212 := by kernel_rfl
  c213 := by kernel_rfl
  c232 := by kernel_rfl
  c233 := by kernel_rfl }
open Go.RowKit in
theorem Tryz.strconv_ParseInt_10_at64_ok (s : ByteArray) (hmax : s.size ≤ 9223372036854775806) (v : Int) (h : Lib.parseIntB 64 s.data.toList = .ok v) (w : World) :
    Calls Tryz.prog 152 #[.string s, .int .i64 10, .int .i64 64] w fun e w' => e = .returned (.tuple #[.int .i64 v, .nilIface]) ∧ (w' = w ∨ ∃ t, w' = Lib.bytesWorld w 5 t) := Any.strconv_ParseInt_10_at64_ok Tryz.laysC174 s hmax v h w
open Go.RowKit in
theorem Tryz.strconv_ParseInt_10_at64_range_var (s : ByteArray) (hlim : s.size ≤ 281474976710656) (h : Lib.parseIntB 64 s.data.toList = .range) (tp : TypeId) (p : Value) (w : World) (hvar : w.var? Tryz.prog "strconv.ErrRange" = some #[.iface tp p]) :
    Calls Tryz.prog 152 #[.string s, .int .i64 10, .int .i64 64] w fun e w' => ∃ N, e = .returned (.tuple #[.int .i64 (Lib.intSat 64 s.data.toList), .iface 176 (.pointer (some ⟨N, 0, none⟩))]) ∧ w.heap.size ≤ N ∧ w'.heap[N]? = some (.cells #[.string ⟨#[80, 97, 114, 115, 101, 73, 110, 116]⟩, .string s, .iface tp p] 185 (0, 0)) ∧ Below w.heap.size w w' := Any.strconv_ParseInt_10_at64_range_var Tryz.laysC174 s hlim h tp p w hvar
def Tryz.laysPu14_ren : Go.Shelf.Ren := ⟨fun | 14 => 134 | 16 => 161 | 17 => 127 | 19 => 174 | 20 => 175 | 21 => 154 | 22 => 155 | 23 => 156 | 24 => 157 | 25 => 169 | 27 => 102 | 26 => 170 | 28 => 144 | 29 => 167 | 30 => 177 | 31 => 178 | 32 => 179 | 33 => 180 | 35 => 183 | 34 => 182 | 36 => 184 | 37 => 185 | 38 => 186 | 39 => 187 | 40 => 188 | n => n, fun | 9 => 9 | 3 => 3 | 22 => 112 | 24 => 106 | 25 => 154 | 4 => 4 | 34 => 175 | 5 => 5 | 36 => 76 | 37 => 158 | 0 => 0 | 39 => 176 | 21 => 21 | 44 => 185 | 47 => 181 | 50 => 199 | 48 => 197 | 2 => 2 | 52 => 192 | 55 => 195 | 59 => 202 | 60 => 109 | 20 => 20 | 61 => 203 | 65 => 207 | 66 => 208 | 67 => 166 | n => n, fun | 0 => 1 | 1 => 2 | 2 => 3 | 3 => 4 | 4 => 5 | n => n⟩
theorem Tryz.laysPu14 : Go.Proofs.LaysPu.n14 Tryz.prog Tryz.laysPu14_ren := {
  mixed := by kernel_rfl
  f14 := Tryz.func134.trans (congrArg some (by kernel_rfl))
  f16 := Tryz.func161.trans (congrArg some (by kernel_rfl))
  f17 := Tryz.func127.trans (congrArg some (by kernel_rfl))
  f19 := Tryz.func174.trans (congrArg some (by kernel_rfl))
  f20 := Tryz.func175.trans (congrArg some (by kernel_rfl))
  f21 := Tryz.func154.trans (congrArg some (by kernel_rfl))
  f22 := Tryz.func155.trans (congrArg some (by kernel_rfl))
  f23 := Tryz.func156.trans (congrArg some (by kernel_rfl))
  f24 := Tryz.func157.trans (congrArg some (by kernel_rfl))
  f25 := Tryz.func169.trans (congrArg some (by kernel_rfl))
  f26 := Tryz.func170.trans (congrArg some (by kernel_rfl))
  f27 := Tryz.func102.trans (congrArg some (by kernel_rfl))
  f28 := Tryz.func144.trans (congrArg some (by kernel_rfl))
  f29 := Tryz.func167.trans (congrArg some (by kernel_rfl))
  f30 := Tryz.func177.trans (congrArg some (by kernel_rfl))
  f31 := Tryz.func178.trans (congrArg some (by kernel_rfl))
  f32 := Tryz.func179.trans (congrArg some (by kernel_rfl))
  f33 := Tryz.func180.trans (congrArg some (by kernel_rfl))
  f34 := Tryz.func182.trans (congrArg some (by kernel_rfl))
  f35 := Tryz.func183.trans (congrArg some (by kernel_rfl))
  f36 := Tryz.func184.trans (congrArg some (by kernel_rfl))
  f37 := Tryz.func185.trans (congrArg some (by kernel_rfl))
  f38 := Tryz.func186.trans (congrArg some (by kernel_rfl))
  f39 := Tryz.func187.trans (congrArg some (by kernel_rfl))
  f40 := Tryz.func188.trans (congrArg some (by kernel_rfl))
  t0 := Tryz.underlying0
  a0 := Tryz.isAgg0
  z0 := Tryz.sizeOf0
  v0 := Tryz.zeroValue0
  i0 := by kernel_rfl
  t2 := Tryz.underlying2
  a2 := Tryz.isAgg2
  z2 := Tryz.sizeOf2
  v2 := Tryz.zeroValue2
  i2 := by kernel_rfl
  t3 := Tryz.underlying3
  a3 := Tryz.isAgg3
  z3 := Tryz.sizeOf3
  v3 := Tryz.zeroValue3
  i3 := by kernel_rfl
  t4 := Tryz.underlying4
  a4 := Tryz.isAgg4
  z4 := Tryz.sizeOf4
  v4 := Tryz.zeroValue4
  i4 := by kernel_rfl
  t5 := Tryz.underlying5
  a5 := Tryz.isAgg5
  z5 := Tryz.sizeOf5
  v5 := Tryz.zeroValue5
  i5 := by kernel_rfl
  t9 := Tryz.underlying9
  a9 := Tryz.isAgg9
  z9 := Tryz.sizeOf9
  v9 := Tryz.zeroValue9
  i9 := by kernel_rfl
  t20 := Tryz.underlying20
  a20 := Tryz.isAgg20
  z20 := Tryz.sizeOf20
  v20 := Tryz.zeroValue20
  i20 := by kernel_rfl
  t21 := Tryz.underlying21
  a21 := Tryz.isAgg21
  z21 := Tryz.sizeOf21
  v21 := Tryz.zeroValue21
  i21 := by kernel_rfl
  t22 := Tryz.underlying112
  a22 := Tryz.isAgg112
  z22 := Tryz.sizeOf112
  v22 := Tryz.zeroValue112
  i22 := by kernel_rfl
  t24 := Tryz.underlying106
  a24 := Tryz.isAgg106
  z24 := Tryz.sizeOf106
  v24 := Tryz.zeroValue106
  i24 := by kernel_rfl
  t25 := Tryz.underlying154
  a25 := Tryz.isAgg154
  z25 := Tryz.sizeOf154
  v25 := Tryz.zeroValue154
  i25 := by kernel_rfl
  t34 := Tryz.underlying175
  a34 := Tryz.isAgg175
  z34 := Tryz.sizeOf175
  v34 := Tryz.zeroValue175
  i34 := by kernel_rfl
  c34 := by kernel_rfl
  t36 := Tryz.underlying76
  a36 := Tryz.isAgg76
  z36 := Tryz.sizeOf76
  v36 := Tryz.zeroValue76
  i36 := by kernel_rfl
  t37 := Tryz.underlying158
  a37 := Tryz.isAgg158
  z37 := Tryz.sizeOf158
  v37 := Tryz.zeroValue158
  i37 := by kernel_rfl
  t39 := Tryz.underlying176
  a39 := Tryz.isAgg176
  z39 := Tryz.sizeOf176
  v39 := Tryz.zeroValue176
  i39 := by kernel_rfl
  t44 := Tryz.underlying185
  a44 := Tryz.isAgg185
  z44 := Tryz.sizeOf185
  v44 := Tryz.zeroValue185
  i44 := by kernel_rfl
  t47 := Tryz.underlying181
  a47 := Tryz.isAgg181
  z47 := Tryz.sizeOf181
  v47 := Tryz.zeroValue181
  i47 := by kernel_rfl
  t48 := Tryz.underlying197
  a48 := Tryz.isAgg197
  z48 := Tryz.sizeOf197
  v48 := Tryz.zeroValue197
  i48 := by kernel_rfl
  t50 := Tryz.underlying199
  a50 := Tryz.isAgg199
  z50 := Tryz.sizeOf199
  v50 := Tryz.zeroValue199
  i50 := by kernel_rfl
  t52 := Tryz.underlying192
  a52 := Tryz.isAgg192
  z52 := Tryz.sizeOf192
  v52 := Tryz.zeroValue192
  i52 := by kernel_rfl
  t55 := Tryz.underlying195
  a55 := Tryz.isAgg195
  z55 := Tryz.sizeOf195
  v55 := Tryz.zeroValue195
  i55 := by kernel_rfl
  t59 := Tryz.underlying202
  a59 := Tryz.isAgg202
  z59 := Tryz.sizeOf202
  v59 := Tryz.zeroValue202
  i59 := by kernel_rfl
  t60 := Tryz.underlying109
  a60 := Tryz.isAgg109
  z60 := Tryz.sizeOf109
  v60 := Tryz.zeroValue109
  i60 := by kernel_rfl
  t61 := Tryz.underlying203
  a61 := Tryz.isAgg203
  z61 := Tryz.sizeOf203
  t65 := Tryz.underlying207
  a65 := Tryz.isAgg207
  z65 := Tryz.sizeOf207
  v65 := Tryz.zeroValue207
  i65 := by kernel_rfl
  t66 := Tryz.underlying208
  a66 := Tryz.isAgg208
  z66 := Tryz.sizeOf208
  v66 := Tryz.zeroValue208
  i66 := by kernel_rfl
  t67 := Tryz.underlying166
  a67 := Tryz.isAgg166
  z67 := Tryz.sizeOf166
  v67 := Tryz.zeroValue166
  i67 := by kernel_rfl
  g0 := by kernel_rfl
  m0 := by kernel_rfl
  g1 := by kernel_rfl
  m1 := by kernel_rfl
  g2 := by kernel_rfl
  m2 := by kernel_rfl
  g3 := by kernel_rfl
  m3 := by kernel_rfl
  g4 := by kernel_rfl
  m4 := by kernel_rfl }
open Go.RowKit in
theorem Tryz.strconv_ParseUint_10_at64_ok (s : ByteArray) (hmax : s.size ≤ 9223372036854775806) (u : Nat) (h : Lib.parseUintB 64 s.data.toList = .ok u) (w : World) :
    Calls Tryz.prog 134 #[.string s, .int .i64 10, .int .i64 64] w fun e w' => e = .returned (.tuple #[.int .u64 u, .nilIface]) ∧ (w' = w ∨ w' = Lib.bytesWorld w 5 s) := Any.strconv_ParseUint_10_at64_ok Tryz.laysPu14 s hmax u h w
def Tryz.laysM145_ren : Go.Shelf.Ren := ⟨fun | 145 => 83 | 220 => 130 | 219 => 158 | 217 => 146 | 225 => 171 | 224 => 172 | 267 => 173 | 266 => 168 | 314 => 181 | n => n, fun | 9 => 9 | 4 => 4 | 59 => 117 | 3 => 3 | 5 => 5 | 46 => 76 | 146 => 110 | 51 => 109 | n => n, fun | 1 => 0 | n => n⟩
theorem Tryz.laysM145 : Go.Proofs.LaysM.n145 Tryz.prog Tryz.laysM145_ren := {
  mixed := by kernel_rfl
  f145 := Tryz.func83.trans (congrArg some (by kernel_rfl))
  f217 := Tryz.func146.trans (congrArg some (by kernel_rfl))
  f219 := Tryz.func158.trans (congrArg some (by kernel_rfl))
  f220 := Tryz.func130.trans (congrArg some (by kernel_rfl))
  f224 := Tryz.func172.trans (congrArg some (by kernel_rfl))
  f225 := Tryz.func171.trans (congrArg some (by kernel_rfl))
  f266 := Tryz.func168.trans (congrArg some (by kernel_rfl))
  f267 := Tryz.func173.trans (congrArg some (by kernel_rfl))
  f314 := Tryz.func181.trans (congrArg some (by kernel_rfl))
  t3 := Tryz.underlying3
  a3 := Tryz.isAgg3
  z3 := Tryz.sizeOf3
  v3 := Tryz.zeroValue3
  t4 := Tryz.underlying4
  a4 := Tryz.isAgg4
  z4 := Tryz.sizeOf4
  v4 := Tryz.zeroValue4
  t5 := Tryz.underlying5
  a5 := Tryz.isAgg5
  z5 := Tryz.sizeOf5
  v5 := Tryz.zeroValue5
  t9 := Tryz.underlying9
  a9 := Tryz.isAgg9
  z9 := Tryz.sizeOf9
  v9 := Tryz.zeroValue9
  t46 := Tryz.underlying76
  a46 := Tryz.isAgg76
  z46 := Tryz.sizeOf76
  v46 := Tryz.zeroValue76
  t51 := Tryz.underlying109
  a51 := Tryz.isAgg109
  z51 := Tryz.sizeOf109
  v51 := Tryz.zeroValue109
  t59 := Tryz.underlying117
  a59 := Tryz.isAgg117
  z59 := Tryz.sizeOf117
  v59 := Tryz.zeroValue117
  t146 := Tryz.underlying110
  a146 := Tryz.isAgg110
  z146 := Tryz.sizeOf110
  v146 := Tryz.zeroValue110
  g1 := by kernel_rfl
  i3 := by kernel_rfl
  i4 := by kernel_rfl
  i5 := by kernel_rfl
  i9 := by kernel_rfl
  i46 := by kernel_rfl
  i51 := by kernel_rfl
  i59 := by kernel_rfl
  i146 := by kernel_rfl
  m1 := by kernel_rfl
  s1_3 := fun w h => Go.Proofs.cell_of_shapedOpen_int (zero := #[.int .i64 0]) (t := 3) h (of_decide_eq_true (by kernel_rfl)) (by kernel_rfl) rfl (by kernel_rfl) (by kernel_rfl) Tryz.underlying3 }
open Go.RowKit Go.Lib in
theorem Tryz.strings_Cut_shaped (s sep : ByteArray) (w : World) (h : w.ShapedOpen Tryz.prog) (hs : s.size < 4294967281) :
    Calls Tryz.prog 83 #[.string s, .string sep] w fun e w' => e = .returned (.tuple #[.string ⟨(Lib.cut s.data.toList sep.data.toList).1.toArray⟩, .string ⟨(Lib.cut s.data.toList sep.data.toList).2.1.toArray⟩, .bool (Lib.cut s.data.toList sep.data.toList).2.2]) ∧ ∃ n, w' = w.drewN n := Any.strings_Cut_shaped Tryz.laysM145 s sep w h hs
def Tryz.lays99_ren : Go.Shelf.Ren := ⟨fun | 99 => 141 | 206 => 165 | n => n, fun | 9 => 9 | 4 => 4 | 3 => 3 | n => n, fun | n => n⟩
theorem Tryz.lays99 : Go.Proofs.Lays.n99 Tryz.prog Tryz.lays99_ren := {
  mixed := by kernel_rfl
  f99 := Tryz.func141.trans (congrArg some (by kernel_rfl))
  f206 := Tryz.func165.trans (congrArg some (by kernel_rfl))
  t3 := Tryz.underlying3
  a3 := Tryz.isAgg3
  z3 := Tryz.sizeOf3
  v3 := Tryz.zeroValue3
  t4 := Tryz.underlying4
  a4 := Tryz.isAgg4
  z4 := Tryz.sizeOf4
  v4 := Tryz.zeroValue4
  t9 := Tryz.underlying9
  a9 := Tryz.isAgg9
  z9 := Tryz.sizeOf9
  v9 := Tryz.zeroValue9 }
open Go.RowKit Go.Lib in
theorem Tryz.strings_HasPrefix (s p : ByteArray) (w : World) :
    Calls Tryz.prog 141 #[.string s, .string p] w fun e w' => e = .returned (.bool (Lib.hasPrefix s.data.toList p.data.toList)) ∧ w' = w := Any.strings_HasPrefix Tryz.lays99 s p w
def Tryz.lays101_ren : Go.Shelf.Ren := ⟨fun | 101 => 100 | 208 => 142 | 206 => 165 | n => n, fun | 9 => 9 | 4 => 4 | 3 => 3 | n => n, fun | n => n⟩
theorem Tryz.lays101 : Go.Proofs.Lays.n101 Tryz.prog Tryz.lays101_ren := {
  mixed := by kernel_rfl
  f101 := Tryz.func100.trans (congrArg some (by kernel_rfl))
  f206 := Tryz.func165.trans (congrArg some (by kernel_rfl))
  f208 := Tryz.func142.trans (congrArg some (by kernel_rfl))
  t3 := Tryz.underlying3
  a3 := Tryz.isAgg3
  z3 := Tryz.sizeOf3
  v3 := Tryz.zeroValue3
  t4 := Tryz.underlying4
  a4 := Tryz.isAgg4
  z4 := Tryz.sizeOf4
  v4 := Tryz.zeroValue4
  t9 := Tryz.underlying9
  a9 := Tryz.isAgg9
  z9 := Tryz.sizeOf9
  v9 := Tryz.zeroValue9 }
open Go.RowKit Go.Lib in
theorem Tryz.strings_TrimPrefix (s p : ByteArray) (w : World) :
    Calls Tryz.prog 100 #[.string s, .string p] w fun e w' => e = .returned (.string ⟨(Lib.trimPrefix s.data.toList p.data.toList).toArray⟩) ∧ w' = w := Any.strings_TrimPrefix Tryz.lays101 s p w
end Go.Proofs
