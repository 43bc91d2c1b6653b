/- Part 5 of the proofs that: What the statements SensorChecks, SensorTakes and SensorVotes rest on. -/
import Derived.Test.YtdoailkigecmkaaGreatDoorV4
import Derived.Shelf.Strings.Builder1
import Derived.Shelf.Strings.Builder2
import Derived.Shelf.Small.Wraps
import Derived.Shelf.Strings.BuilderF
import Derived.Shelf.Strings.BuilderK
import Derived.Shelf.Strconv.Itoa0
import Derived.Shelf.Strconv.Itoa1
import Derived.Shelf.LaysM
import Derived.Shelf.Strconv.Itoa2
import Derived.Shelf.Strconv.Itoa3
import Derived.Shelf.Strconv.Itoa4
import Derived.Shelf.Strconv.ParseIntEmpty
import Derived.Shelf.Strconv.Clone
import Derived.Shelf.Strconv.SyntaxError
import Derived.Shelf.LaysC
import Derived.Shelf.Strconv.ToError
import Derived.Shelf.Strconv.Lower
import Derived.Shelf.Strconv.ParseUint10
import Derived.Shelf.Strconv.ParseUint10Empty
import Derived.Shelf.Strconv.ParseUint10Any
import Derived.Shelf.Strconv.ParseInt10
import Derived.Shelf.Strconv.RangeError
import Derived.Shelf.Strconv.ToErrorRange
import Derived.Shelf.Strconv.ParseUintEmpty
import Derived.Shelf.Strconv.ParseUint10b64
import Derived.Shelf.Strconv.ParseUint10b32
import Derived.Shelf.Strconv.ParseUint10b16
import Derived.Shelf.Strconv.ParseUint10b8
import Derived.Shelf.Strconv.ParseUint10At
import Derived.Shelf.Strconv.ParseInt10At64
import Derived.Shelf.Strconv.ParseInt10At32
import Derived.Shelf.Strconv.ParseInt10At16
import Derived.Shelf.Strconv.ParseInt10At8
import Derived.Shelf.Strconv.ParseInt10All
import Derived.Shelf.Strconv.ParseIntPublic10
import Derived.Ground.MpProg
import Derived.Shelf.Pu.ParseUintPublic10
import Derived.Shelf.Strings.Search1
import Derived.Shelf.Strings.Search2
import Derived.Shelf.Strings.Cut
import Derived.Shelf.Strings.Shaped
import Derived.Shelf.Strings.Prefix
import Derived.Shelf.Bits.Mul64
import Derived.Shelf.Strings.Repeat
import Derived.Test.YtdoailkigecmkaaGreatDoorProg
import Derived.Lib.ItoaNum
import Derived.RangeFuncNested
import Derived.RangeFuncBound
import Derived.RangeFuncCalls
import Derived.RangeFuncLeaves
import Derived.Shelf.Abstract
import Derived.Shelf.RegionOpen
import Derived.WalkKit
import Derived.OwnWalkIn
import Derived.TacticsInMore
import Derived.LoopNIn
import Derived.LoopIn
import Derived.Lib.LaidTab
set_option linter.unusedVariables false
set_option linter.unusedSimpArgs false
namespace Go.Proofs
open Go.Shelf
open Go.RowKit in
def Tryz.lays169_ren : Go.Shelf.Ren := ⟨fun | 169 => 192 | n => n, fun | 70 => 210 | 9 => 9 | 0 => 0 | 72 => 212 | 37 => 142 | 127 => 234 | 3 => 3 | 5 => 5 | n => n, fun | n => n⟩
theorem Tryz.lays169 : Go.Proofs.Lays.n169 Tryz.prog Tryz.lays169_ren := {
  mixed := by kernel_rfl
  f169 := Tryz.func192.trans (congrArg some (by kernel_rfl))
  t0 := Tryz.underlying0
  a0 := Tryz.isAgg0
  z0 := Tryz.sizeOf0
  v0 := Tryz.zeroValue0
  t3 := Tryz.underlying3
  a3 := Tryz.isAgg3
  z3 := Tryz.sizeOf3
  v3 := Tryz.zeroValue3
  t9 := Tryz.underlying9
  a9 := Tryz.isAgg9
  z9 := Tryz.sizeOf9
  v9 := Tryz.zeroValue9
  t37 := Tryz.underlying142
  a37 := Tryz.isAgg142
  z37 := Tryz.sizeOf142
  v37 := Tryz.zeroValue142
  t70 := Tryz.underlying210
  a70 := Tryz.isAgg210
  z70 := Tryz.sizeOf210
  v70 := Tryz.zeroValue210
  t72 := Tryz.underlying212
  a72 := Tryz.isAgg212
  z72 := Tryz.sizeOf212
  v72 := Tryz.zeroValue212
  t127 := Tryz.underlying234
  a127 := Tryz.isAgg234
  z127 := Tryz.sizeOf234
  v127 := Tryz.zeroValue234 }
theorem Tryz.Builder_Extra_169 : Builder.Extra Tryz.prog Tryz.lays169_ren := {
  sizeBuilder := by kernel_rfl
  liesBuilder := by kernel_rfl
  t5 := Tryz.underlying5
  a5 := Tryz.isAgg5
  z5 := Tryz.sizeOf5
  v5 := Tryz.zeroValue5
  infoByte := by kernel_rfl
  cellsByte := by kernel_rfl
  sizeByte := by kernel_rfl
  neB5 := by decide }
open Go.RowKit in
open Go.RowKit in
open Go.RowKit in
open Go.RowKit in
open Go.RowKit in
open Go.RowKit in
def Tryz.lays103_ren : Go.Shelf.Ren := ⟨fun | 103 => 145 | 210 => 163 | 206 => 185 | n => n, fun | 9 => 9 | 4 => 4 | 24 => 172 | 3 => 3 | n => n, fun | n => n⟩
theorem Tryz.lays103 : Go.Proofs.Lays.n103 Tryz.prog Tryz.lays103_ren := {
  mixed := by kernel_rfl
  f103 := Tryz.func145.trans (congrArg some (by kernel_rfl))
  f206 := Tryz.func185.trans (congrArg some (by kernel_rfl))
  f210 := Tryz.func163.trans (congrArg some (by kernel_rfl))
  t3 := Tryz.underlying3
  a3 := Tryz.isAgg3
  z3 := Tryz.sizeOf3
  v3 := Tryz.zeroValue3
  t4 := Tryz.underlying4
  a4 := Tryz.isAgg4
  z4 := Tryz.sizeOf4
  v4 := Tryz.zeroValue4
  t9 := Tryz.underlying9
  a9 := Tryz.isAgg9
  z9 := Tryz.sizeOf9
  v9 := Tryz.zeroValue9
  t24 := Tryz.underlying172
  a24 := Tryz.isAgg172
  z24 := Tryz.sizeOf172
  v24 := Tryz.zeroValue172 }
open Go.RowKit in
theorem Tryz.strings_CutPrefix (s p : ByteArray) (w : World) :
    Calls Tryz.prog 145 #[.string s, .string p] w fun e w' => e = .returned (.tuple #[.string ⟨(Lib.trimPrefix s.data.toList p.data.toList).toArray⟩, .bool (Lib.hasPrefix s.data.toList p.data.toList)]) ∧ w' = w := Any.strings_CutPrefix Tryz.lays103 s p w
def Tryz.lays215_ren : Go.Shelf.Ren := ⟨fun | 215 => 235 | n => n, fun | 3 => 3 | 4 => 4 | n => n, fun | n => n⟩
theorem Tryz.lays215 : Go.Proofs.Lays.n215 Tryz.prog Tryz.lays215_ren := {
  mixed := by kernel_rfl
  f215 := Tryz.func235.trans (congrArg some (by kernel_rfl))
  t3 := Tryz.underlying3
  a3 := Tryz.isAgg3
  z3 := Tryz.sizeOf3
  v3 := Tryz.zeroValue3
  t4 := Tryz.underlying4
  a4 := Tryz.isAgg4
  z4 := Tryz.sizeOf4
  v4 := Tryz.zeroValue4 }
open Go.RowKit in
theorem Tryz.cmp_isNaN_int (x : Int) (w : World) :
    Calls Tryz.prog 235 #[.int .i64 x] w fun e w' => e = .returned (.bool false) ∧ w' = w := Any.cmp_isNaN_int Tryz.lays215 x w
def Tryz.lays122_ren : Go.Shelf.Ren := ⟨fun | 122 => 216 | 215 => 235 | n => n, fun | 3 => 3 | 4 => 4 | n => n, fun | n => n⟩
theorem Tryz.lays122 : Go.Proofs.Lays.n122 Tryz.prog Tryz.lays122_ren := {
  mixed := by kernel_rfl
  f122 := Tryz.func216.trans (congrArg some (by kernel_rfl))
  f215 := Tryz.func235.trans (congrArg some (by kernel_rfl))
  t3 := Tryz.underlying3
  a3 := Tryz.isAgg3
  z3 := Tryz.sizeOf3
  v3 := Tryz.zeroValue3
  t4 := Tryz.underlying4
  a4 := Tryz.isAgg4
  z4 := Tryz.sizeOf4
  v4 := Tryz.zeroValue4 }
open Go.RowKit in
theorem Tryz.cmp_Compare_int (x y : Int) (w : World) :
    Calls Tryz.prog 216 #[.int .i64 x, .int .i64 y] w fun e w' => e = .returned (.int .i64 (Lib.compareInt x y)) ∧ w' = w := Any.cmp_Compare_int Tryz.lays122 x y w
open Go.RowKit in
open Go.RowKit in
open Go.RowKit in
open Go.RowKit in
open Go.RowKit in
open Go.RowKit in
open Go.RowKit in
theorem Tryz.Builder_String_any_k (B b : Nat) (l : List UInt8) (w : World) (h : Lib.IsBuilderF 212 5 B b (Lib.byteCells l) w) (hBw : B ≤ w.heap.size) :
    Calls Tryz.prog 192 #[.pointer (some ⟨b, 0, none⟩)] w fun e w' => e = .returned (.string ⟨l.toArray⟩) ∧ (Lib.IsBuilderF 212 5 B b (Lib.byteCells l) w' ∧ Below B w w' ∧ Lib.OthersKept 5 (some b) w w') := Any.Builder_String_any_k Tryz.lays169 Tryz.Builder_Extra_169 B b l w h hBw
open Go.Lib in
open Go.Lib in
def Tryz.lays283_ren : Go.Shelf.Ren := ⟨fun | 283 => 175 | n => n, fun | 3 => 3 | 9 => 9 | 4 => 4 | n => n, fun | n => n⟩
theorem Tryz.lays283 : Go.Proofs.Lays.n283 Tryz.prog Tryz.lays283_ren := {
  mixed := by kernel_rfl
  f283 := Tryz.func175.trans (congrArg some (by kernel_rfl))
  t3 := Tryz.underlying3
  a3 := Tryz.isAgg3
  z3 := Tryz.sizeOf3
  v3 := Tryz.zeroValue3
  t4 := Tryz.underlying4
  a4 := Tryz.isAgg4
  z4 := Tryz.sizeOf4
  v4 := Tryz.zeroValue4
  t9 := Tryz.underlying9
  a9 := Tryz.isAgg9
  z9 := Tryz.sizeOf9
  v9 := Tryz.zeroValue9 }
open Go.Lib in
theorem Tryz.internal_strconv_small (i : Nat) (h : i < 100) (w : World) :
    Calls Tryz.prog 175 #[.int .i64 i] w fun e w' => e = .returned (.string ⟨(Lib.decDigits i).toArray⟩) ∧ w' = w := Any.internal_strconv_small Tryz.lays283 i h w
def Tryz.laysM284_ren : Go.Shelf.Ren := ⟨fun | 284 => 176 | 129 => 201 | 317 => 200 | 318 => 202 | n => n, fun | 53 => 132 | 3 => 3 | 212 => 226 | 0 => 0 | 4 => 4 | 46 => 144 | 5 => 5 | 9 => 9 | n => n, fun | 17 => 1 | n => n⟩
theorem Tryz.laysM284 : Go.Proofs.LaysM.n284 Tryz.prog Tryz.laysM284_ren := {
  mixed := by kernel_rfl
  f129 := Tryz.func201.trans (congrArg some (by kernel_rfl))
  f284 := Tryz.func176.trans (congrArg some (by kernel_rfl))
  f317 := Tryz.func200.trans (congrArg some (by kernel_rfl))
  f318 := Tryz.func202.trans (congrArg some (by kernel_rfl))
  t0 := Tryz.underlying0
  a0 := Tryz.isAgg0
  z0 := Tryz.sizeOf0
  v0 := Tryz.zeroValue0
  t3 := Tryz.underlying3
  a3 := Tryz.isAgg3
  z3 := Tryz.sizeOf3
  v3 := Tryz.zeroValue3
  t4 := Tryz.underlying4
  a4 := Tryz.isAgg4
  z4 := Tryz.sizeOf4
  v4 := Tryz.zeroValue4
  t5 := Tryz.underlying5
  a5 := Tryz.isAgg5
  z5 := Tryz.sizeOf5
  v5 := Tryz.zeroValue5
  t9 := Tryz.underlying9
  a9 := Tryz.isAgg9
  z9 := Tryz.sizeOf9
  v9 := Tryz.zeroValue9
  t46 := Tryz.underlying144
  a46 := Tryz.isAgg144
  z46 := Tryz.sizeOf144
  v46 := Tryz.zeroValue144
  t53 := Tryz.underlying132
  a53 := Tryz.isAgg132
  z53 := Tryz.sizeOf132
  v53 := Tryz.zeroValue132
  t212 := Tryz.underlying226
  a212 := Tryz.isAgg226
  z212 := Tryz.sizeOf226
  v212 := Tryz.zeroValue226
  g17 := by kernel_rfl
  i0 := by kernel_rfl
  i3 := by kernel_rfl
  i4 := by kernel_rfl
  i5 := by kernel_rfl
  i9 := by kernel_rfl
  i46 := by kernel_rfl
  i53 := by kernel_rfl
  i212 := by kernel_rfl
  m17 := by kernel_rfl }
open Go.Lib in
theorem Tryz.internal_strconv_numDigits (u : Nat) (h1 : 1 ≤ u) (h2 : u < 18446744073709551616) (w : World) (htab : Lib.TabIs Tryz.prog w "internal/strconv.uint64pow10" .u64 Lib.pow10Tab) :
    Calls Tryz.prog 176 #[.int .u64 u] w fun e w' => e = .returned (.int .i64 (Lib.nDigits u)) ∧ w' = w := Any.internal_strconv_numDigits Tryz.laysM284 u h1 h2 w htab
def Tryz.lays285_ren : Go.Shelf.Ren := ⟨fun | 285 => 177 | n => n, fun | 37 => 142 | 53 => 132 | 3 => 3 | 4 => 4 | 51 => 106 | 9 => 9 | 5 => 5 | 0 => 0 | n => n, fun | n => n⟩
theorem Tryz.lays285 : Go.Proofs.Lays.n285 Tryz.prog Tryz.lays285_ren := {
  mixed := by kernel_rfl
  f285 := Tryz.func177.trans (congrArg some (by kernel_rfl))
  t0 := Tryz.underlying0
  a0 := Tryz.isAgg0
  z0 := Tryz.sizeOf0
  v0 := Tryz.zeroValue0
  t3 := Tryz.underlying3
  a3 := Tryz.isAgg3
  z3 := Tryz.sizeOf3
  v3 := Tryz.zeroValue3
  t4 := Tryz.underlying4
  a4 := Tryz.isAgg4
  z4 := Tryz.sizeOf4
  v4 := Tryz.zeroValue4
  t5 := Tryz.underlying5
  a5 := Tryz.isAgg5
  z5 := Tryz.sizeOf5
  v5 := Tryz.zeroValue5
  t9 := Tryz.underlying9
  a9 := Tryz.isAgg9
  z9 := Tryz.sizeOf9
  v9 := Tryz.zeroValue9
  t37 := Tryz.underlying142
  a37 := Tryz.isAgg142
  z37 := Tryz.sizeOf142
  v37 := Tryz.zeroValue142
  t51 := Tryz.underlying106
  a51 := Tryz.isAgg106
  z51 := Tryz.sizeOf106
  v51 := Tryz.zeroValue106
  t53 := Tryz.underlying132
  a53 := Tryz.isAgg132
  z53 := Tryz.sizeOf132
  v53 := Tryz.zeroValue132 }
open Go.RowKit Go.Sort Go.Lib in
theorem Tryz.internal_strconv_formatBase10 (blk off cap : Nat) (u : Nat) (d : Array UInt8) (w : World) (hH : Holds (fun (b : UInt8) => Value.int .u8 (b.toNat : Int)) w blk off d) (hu : u < 10 ^ d.size) (hu64 : u < 18446744073709551616) (hsz : d.size < 4611686018427387904) :
    Calls Tryz.prog 177 #[.slice (some ⟨blk, off, none⟩) d.size cap, .int .u64 u] w fun e w' =>
      e = .returned (.tuple #[]) ∧ ∃ (n v' : Nat) (dk : Array UInt8), w' = (putRow (fun (b : UInt8) => Value.int .u8 (b.toNat : Int)) w blk off dk).drewN n ∧ FmtInv d.size u 0 v' dk := Any.internal_strconv_formatBase10 Tryz.lays285 blk off cap u d w hH hu hu64 hsz
open Go.RowKit Go.Sort Go.Lib in
open Go.RowKit Go.Sort Go.Lib in
open Go.RowKit Go.Sort Go.Lib in
open Go.RowKit Go.Sort Go.Lib in
def Tryz.laysM171_ren : Go.Shelf.Ren := ⟨fun | 171 => 117 | 243 => 135 | 246 => 151 | 283 => 175 | 284 => 176 | 285 => 177 | 286 => 178 | 129 => 201 | 317 => 200 | 318 => 202 | 319 => 203 | 320 => 204 | 337 => 222 | 338 => 223 | n => n, fun | 3 => 3 | 9 => 9 | 2 => 2 | 4 => 4 | 171 => 197 | 0 => 0 | 53 => 132 | 37 => 142 | 5 => 5 | 173 => 200 | 212 => 226 | 51 => 106 | 20 => 20 | 213 => 227 | 46 => 144 | 232 => 256 | 233 => 257 | n => n, fun | 17 => 1 | 18 => 2 | 19 => 3 | n => n⟩
theorem Tryz.laysM171 : Go.Proofs.LaysM.n171 Tryz.prog Tryz.laysM171_ren := {
  mixed := by kernel_rfl
  f129 := Tryz.func201.trans (congrArg some (by kernel_rfl))
  f171 := Tryz.func117.trans (congrArg some (by kernel_rfl))
  f243 := Tryz.func135.trans (congrArg some (by kernel_rfl))
  f246 := Tryz.func151.trans (congrArg some (by kernel_rfl))
  f283 := Tryz.func175.trans (congrArg some (by kernel_rfl))
  f284 := Tryz.func176.trans (congrArg some (by kernel_rfl))
  f285 := Tryz.func177.trans (congrArg some (by kernel_rfl))
  f286 := Tryz.func178.trans (congrArg some (by kernel_rfl))
  f317 := Tryz.func200.trans (congrArg some (by kernel_rfl))
  f318 := Tryz.func202.trans (congrArg some (by kernel_rfl))
  f319 := Tryz.func203.trans (congrArg some (by kernel_rfl))
  f320 := Tryz.func204.trans (congrArg some (by kernel_rfl))
  f337 := Tryz.func222.trans (congrArg some (by kernel_rfl))
  f338 := Tryz.func223.trans (congrArg some (by kernel_rfl))
  t0 := Tryz.underlying0
  a0 := Tryz.isAgg0
  z0 := Tryz.sizeOf0
  v0 := Tryz.zeroValue0
  t2 := Tryz.underlying2
  a2 := Tryz.isAgg2
  z2 := Tryz.sizeOf2
  v2 := Tryz.zeroValue2
  t3 := Tryz.underlying3
  a3 := Tryz.isAgg3
  z3 := Tryz.sizeOf3
  v3 := Tryz.zeroValue3
  t4 := Tryz.underlying4
  a4 := Tryz.isAgg4
  z4 := Tryz.sizeOf4
  v4 := Tryz.zeroValue4
  t5 := Tryz.underlying5
  a5 := Tryz.isAgg5
  z5 := Tryz.sizeOf5
  v5 := Tryz.zeroValue5
  t9 := Tryz.underlying9
  a9 := Tryz.isAgg9
  z9 := Tryz.sizeOf9
  v9 := Tryz.zeroValue9
  t20 := Tryz.underlying20
  a20 := Tryz.isAgg20
  z20 := Tryz.sizeOf20
  v20 := Tryz.zeroValue20
  t37 := Tryz.underlying142
  a37 := Tryz.isAgg142
  z37 := Tryz.sizeOf142
  v37 := Tryz.zeroValue142
  t46 := Tryz.underlying144
  a46 := Tryz.isAgg144
  z46 := Tryz.sizeOf144
  v46 := Tryz.zeroValue144
  t51 := Tryz.underlying106
  a51 := Tryz.isAgg106
  z51 := Tryz.sizeOf106
  v51 := Tryz.zeroValue106
  t53 := Tryz.underlying132
  a53 := Tryz.isAgg132
  z53 := Tryz.sizeOf132
  v53 := Tryz.zeroValue132
  t171 := Tryz.underlying197
  a171 := Tryz.isAgg197
  z171 := Tryz.sizeOf197
  v171 := Tryz.zeroValue197
  t173 := Tryz.underlying200
  a173 := Tryz.isAgg200
  z173 := Tryz.sizeOf200
  v173 := Tryz.zeroValue200
  t212 := Tryz.underlying226
  a212 := Tryz.isAgg226
  z212 := Tryz.sizeOf226
  v212 := Tryz.zeroValue226
  t213 := Tryz.underlying227
  a213 := Tryz.isAgg227
  z213 := Tryz.sizeOf227
  t232 := Tryz.underlying256
  a232 := Tryz.isAgg256
  z232 := Tryz.sizeOf256
  v232 := Tryz.zeroValue256
  t233 := Tryz.underlying257
  a233 := Tryz.isAgg257
  z233 := Tryz.sizeOf257
  v233 := Tryz.zeroValue257
  g17 := by kernel_rfl
  g18 := by kernel_rfl
  g19 := by kernel_rfl
  i0 := by kernel_rfl
  i2 := by kernel_rfl
  i3 := by kernel_rfl
  i4 := by kernel_rfl
  i5 := by kernel_rfl
  i9 := by kernel_rfl
  i20 := by kernel_rfl
  i37 := by kernel_rfl
  i46 := by kernel_rfl
  i51 := by kernel_rfl
  i53 := by kernel_rfl
  i171 := by kernel_rfl
  i173 := by kernel_rfl
  i212 := by kernel_rfl
  i232 := by kernel_rfl
  i233 := by kernel_rfl
  m17 := by kernel_rfl
  m18 := by kernel_rfl
  m19 := by kernel_rfl }
open Go.RowKit Go.Sort Go.Lib in
theorem Tryz.strconv_Itoa (n : Int) (h0 : -9223372036854775808 ≤ n) (h1 : n ≤ 9223372036854775807) (w : World) (htab : Lib.TabIs Tryz.prog w "internal/strconv.uint64pow10" .u64 Lib.pow10Tab) :
    Calls Tryz.prog 117 #[.int .i64 n] w fun e w' => e = .returned (.string ⟨(Lib.itoa n).toArray⟩) ∧ ∃ k os, w' = grow (w.drewN k) os := Any.strconv_Itoa Tryz.laysM171 n h0 h1 w htab
open Go.RowKit Go.Sort Go.Lib in
def Tryz.laysM173_ren : Go.Shelf.Ren := ⟨fun | 173 => 219 | 246 => 151 | 283 => 175 | 284 => 176 | 285 => 177 | 286 => 178 | 129 => 201 | 317 => 200 | 318 => 202 | 319 => 203 | 320 => 204 | 337 => 222 | 338 => 223 | n => n, fun | 2 => 2 | 3 => 3 | 9 => 9 | 4 => 4 | 171 => 197 | 0 => 0 | 53 => 132 | 37 => 142 | 5 => 5 | 173 => 200 | 212 => 226 | 51 => 106 | 20 => 20 | 213 => 227 | 46 => 144 | 232 => 256 | 233 => 257 | n => n, fun | 17 => 1 | 18 => 2 | 19 => 3 | n => n⟩
theorem Tryz.laysM173 : Go.Proofs.LaysM.n173 Tryz.prog Tryz.laysM173_ren := {
  mixed := by kernel_rfl
  f129 := Tryz.func201.trans (congrArg some (by kernel_rfl))
  f173 := Tryz.func219.trans (congrArg some (by kernel_rfl))
  f246 := Tryz.func151.trans (congrArg some (by kernel_rfl))
  f283 := Tryz.func175.trans (congrArg some (by kernel_rfl))
  f284 := Tryz.func176.trans (congrArg some (by kernel_rfl))
  f285 := Tryz.func177.trans (congrArg some (by kernel_rfl))
  f286 := Tryz.func178.trans (congrArg some (by kernel_rfl))
  f317 := Tryz.func200.trans (congrArg some (by kernel_rfl))
  f318 := Tryz.func202.trans (congrArg some (by kernel_rfl))
  f319 := Tryz.func203.trans (congrArg some (by kernel_rfl))
  f320 := Tryz.func204.trans (congrArg some (by kernel_rfl))
  f337 := Tryz.func222.trans (congrArg some (by kernel_rfl))
  f338 := Tryz.func223.trans (congrArg some (by kernel_rfl))
  t0 := Tryz.underlying0
  a0 := Tryz.isAgg0
  z0 := Tryz.sizeOf0
  v0 := Tryz.zeroValue0
  t2 := Tryz.underlying2
  a2 := Tryz.isAgg2
  z2 := Tryz.sizeOf2
  v2 := Tryz.zeroValue2
  t3 := Tryz.underlying3
  a3 := Tryz.isAgg3
  z3 := Tryz.sizeOf3
  v3 := Tryz.zeroValue3
  t4 := Tryz.underlying4
  a4 := Tryz.isAgg4
  z4 := Tryz.sizeOf4
  v4 := Tryz.zeroValue4
  t5 := Tryz.underlying5
  a5 := Tryz.isAgg5
  z5 := Tryz.sizeOf5
  v5 := Tryz.zeroValue5
  t9 := Tryz.underlying9
  a9 := Tryz.isAgg9
  z9 := Tryz.sizeOf9
  v9 := Tryz.zeroValue9
  t20 := Tryz.underlying20
  a20 := Tryz.isAgg20
  z20 := Tryz.sizeOf20
  v20 := Tryz.zeroValue20
  t37 := Tryz.underlying142
  a37 := Tryz.isAgg142
  z37 := Tryz.sizeOf142
  v37 := Tryz.zeroValue142
  t46 := Tryz.underlying144
  a46 := Tryz.isAgg144
  z46 := Tryz.sizeOf144
  v46 := Tryz.zeroValue144
  t51 := Tryz.underlying106
  a51 := Tryz.isAgg106
  z51 := Tryz.sizeOf106
  v51 := Tryz.zeroValue106
  t53 := Tryz.underlying132
  a53 := Tryz.isAgg132
  z53 := Tryz.sizeOf132
  v53 := Tryz.zeroValue132
  t171 := Tryz.underlying197
  a171 := Tryz.isAgg197
  z171 := Tryz.sizeOf197
  v171 := Tryz.zeroValue197
  t173 := Tryz.underlying200
  a173 := Tryz.isAgg200
  z173 := Tryz.sizeOf200
  v173 := Tryz.zeroValue200
  t212 := Tryz.underlying226
  a212 := Tryz.isAgg226
  z212 := Tryz.sizeOf226
  v212 := Tryz.zeroValue226
  t213 := Tryz.underlying227
  a213 := Tryz.isAgg227
  z213 := Tryz.sizeOf227
  t232 := Tryz.underlying256
  a232 := Tryz.isAgg256
  z232 := Tryz.sizeOf256
  v232 := Tryz.zeroValue256
  t233 := Tryz.underlying257
  a233 := Tryz.isAgg257
  z233 := Tryz.sizeOf257
  v233 := Tryz.zeroValue257
  g17 := by kernel_rfl
  g18 := by kernel_rfl
  g19 := by kernel_rfl
  i0 := by kernel_rfl
  i2 := by kernel_rfl
  i3 := by kernel_rfl
  i4 := by kernel_rfl
  i5 := by kernel_rfl
  i9 := by kernel_rfl
  i20 := by kernel_rfl
  i37 := by kernel_rfl
  i46 := by kernel_rfl
  i51 := by kernel_rfl
  i53 := by kernel_rfl
  i171 := by kernel_rfl
  i173 := by kernel_rfl
  i212 := by kernel_rfl
  i232 := by kernel_rfl
  i233 := by kernel_rfl
  m17 := by kernel_rfl
  m18 := by kernel_rfl
  m19 := by kernel_rfl }
open Go.RowKit Go.Sort Go.Lib in
theorem Tryz.strconv_FormatInt_10 (n : Int) (h0 : -9223372036854775808 ≤ n) (h1 : n ≤ 9223372036854775807) (w : World) (htab : Lib.TabIs Tryz.prog w "internal/strconv.uint64pow10" .u64 Lib.pow10Tab) :
    Calls Tryz.prog 219 #[.int .i64 n, .int .i64 10] w fun e w' => e = .returned (.string ⟨(Lib.itoa n).toArray⟩) ∧ ∃ k os, w' = grow (w.drewN k) os := Any.strconv_FormatInt_10 Tryz.laysM173 n h0 h1 w htab
open Go.RowKit Go.Sort Go.Lib in
open Go.RowKit in
open Go.RowKit in
open Go.RowKit in
open Go.RowKit in
open Go.RowKit in
open Go.RowKit in
open Go.RowKit in
open Go.RowKit in
open Go.RowKit in
open Go.RowKit in
open Go.RowKit in
open Go.RowKit in
open Go.RowKit in
open Go.RowKit in
open Go.RowKit in
open Go.RowKit in
open Go.RowKit in
open Go.RowKit in
open Go.RowKit in
open Go.RowKit in
open Go.RowKit in
open Go.RowKit in
open Go.RowKit in
open Go.RowKit in
open Go.RowKit in
open Go.RowKit in
open Go.RowKit in
open Go.RowKit in
open Go.RowKit in
open Go.RowKit in
def Tryz.laysC174_ren : Go.Shelf.Ren := ⟨fun | 174 => 218 | 247 => 237 | 245 => 208 | 287 => 207 | 279 => 227 | 280 => 228 | 281 => 229 | 282 => 230 | 321 => 225 | 322 => 226 | 316 => 239 | 171 => 117 | 205 => 240 | 243 => 135 | 246 => 151 | 283 => 175 | 284 => 176 | 285 => 177 | 286 => 178 | 129 => 201 | 317 => 200 | 318 => 202 | 319 => 203 | 320 => 204 | 337 => 222 | 338 => 223 | n => n, fun | 9 => 9 | 3 => 3 | 2 => 2 | 75 => 206 | 85 => 237 | 4 => 4 | 167 => 243 | 5 => 5 | 53 => 132 | 175 => 207 | 46 => 144 | 168 => 245 | 37 => 142 | 0 => 0 | 210 => 260 | 21 => 21 | 127 => 234 | 145 => 265 | 143 => 263 | 171 => 197 | 173 => 200 | 212 => 226 | 51 => 106 | 20 => 20 | 213 => 227 | 232 => 256 | 233 => 257 | 80 => 169 | n => n, fun | 15 => 4 | 16 => 5 | 17 => 1 | 18 => 2 | 19 => 3 | n => n⟩
theorem Tryz.laysC174 : Go.Proofs.LaysC.n174 Tryz.prog Tryz.laysC174_ren := {
  mixed := by kernel_rfl
  f129 := Tryz.func201.trans (congrArg some (by kernel_rfl))
  f171 := Tryz.func117.trans (congrArg some (by kernel_rfl))
  f174 := Tryz.func218.trans (congrArg some (by kernel_rfl))
  f205 := Tryz.func240.trans (congrArg some (by kernel_rfl))
  f243 := Tryz.func135.trans (congrArg some (by kernel_rfl))
  f245 := Tryz.func208.trans (congrArg some (by kernel_rfl))
  f246 := Tryz.func151.trans (congrArg some (by kernel_rfl))
  f247 := Tryz.func237.trans (congrArg some (by kernel_rfl))
  f279 := Tryz.func227.trans (congrArg some (by kernel_rfl))
  f280 := Tryz.func228.trans (congrArg some (by kernel_rfl))
  f281 := Tryz.func229.trans (congrArg some (by kernel_rfl))
  f282 := Tryz.func230.trans (congrArg some (by kernel_rfl))
  f283 := Tryz.func175.trans (congrArg some (by kernel_rfl))
  f284 := Tryz.func176.trans (congrArg some (by kernel_rfl))
  f285 := Tryz.func177.trans (congrArg some (by kernel_rfl))
  f286 := Tryz.func178.trans (congrArg some (by kernel_rfl))
  f287 := Tryz.func207.trans (congrArg some (by kernel_rfl))
  f316 := Tryz.func239.trans (congrArg some (by kernel_rfl))
  f317 := Tryz.func200.trans (congrArg some (by kernel_rfl))
  f318 := Tryz.func202.trans (congrArg some (by kernel_rfl))
  f319 := Tryz.func203.trans (congrArg some (by kernel_rfl))
  f320 := Tryz.func204.trans (congrArg some (by kernel_rfl))
  f321 := Tryz.func225.trans (congrArg some (by kernel_rfl))
  f322 := Tryz.func226.trans (congrArg some (by kernel_rfl))
  f337 := Tryz.func222.trans (congrArg some (by kernel_rfl))
  f338 := Tryz.func223.trans (congrArg some (by kernel_rfl))
  t0 := Tryz.underlying0
  a0 := Tryz.isAgg0
  z0 := Tryz.sizeOf0
  v0 := Tryz.zeroValue0
  t2 := Tryz.underlying2
  a2 := Tryz.isAgg2
  z2 := Tryz.sizeOf2
  v2 := Tryz.zeroValue2
  t3 := Tryz.underlying3
  a3 := Tryz.isAgg3
  z3 := Tryz.sizeOf3
  v3 := Tryz.zeroValue3
  t4 := Tryz.underlying4
  a4 := Tryz.isAgg4
  z4 := Tryz.sizeOf4
  v4 := Tryz.zeroValue4
  t5 := Tryz.underlying5
  a5 := Tryz.isAgg5
  z5 := Tryz.sizeOf5
  v5 := Tryz.zeroValue5
  t9 := Tryz.underlying9
  a9 := Tryz.isAgg9
  z9 := Tryz.sizeOf9
  v9 := Tryz.zeroValue9
  t20 := Tryz.underlying20
  a20 := Tryz.isAgg20
  z20 := Tryz.sizeOf20
  v20 := Tryz.zeroValue20
  t21 := Tryz.underlying21
  a21 := Tryz.isAgg21
  z21 := Tryz.sizeOf21
  v21 := Tryz.zeroValue21
  t37 := Tryz.underlying142
  a37 := Tryz.isAgg142
  z37 := Tryz.sizeOf142
  v37 := Tryz.zeroValue142
  t46 := Tryz.underlying144
  a46 := Tryz.isAgg144
  z46 := Tryz.sizeOf144
  v46 := Tryz.zeroValue144
  t51 := Tryz.underlying106
  a51 := Tryz.isAgg106
  z51 := Tryz.sizeOf106
  v51 := Tryz.zeroValue106
  t53 := Tryz.underlying132
  a53 := Tryz.isAgg132
  z53 := Tryz.sizeOf132
  v53 := Tryz.zeroValue132
  t75 := Tryz.underlying206
  a75 := Tryz.isAgg206
  z75 := Tryz.sizeOf206
  v75 := Tryz.zeroValue206
  t85 := Tryz.underlying237
  a85 := Tryz.isAgg237
  z85 := Tryz.sizeOf237
  v85 := Tryz.zeroValue237
  t127 := Tryz.underlying234
  a127 := Tryz.isAgg234
  z127 := Tryz.sizeOf234
  v127 := Tryz.zeroValue234
  t143 := Tryz.underlying263
  a143 := Tryz.isAgg263
  z143 := Tryz.sizeOf263
  v143 := Tryz.zeroValue263
  t145 := Tryz.underlying265
  a145 := Tryz.isAgg265
  z145 := Tryz.sizeOf265
  v145 := Tryz.zeroValue265
  t167 := Tryz.underlying243
  a167 := Tryz.isAgg243
  z167 := Tryz.sizeOf243
  v167 := Tryz.zeroValue243
  t168 := Tryz.underlying245
  a168 := Tryz.isAgg245
  z168 := Tryz.sizeOf245
  v168 := Tryz.zeroValue245
  t171 := Tryz.underlying197
  a171 := Tryz.isAgg197
  z171 := Tryz.sizeOf197
  v171 := Tryz.zeroValue197
  t173 := Tryz.underlying200
  a173 := Tryz.isAgg200
  z173 := Tryz.sizeOf200
  v173 := Tryz.zeroValue200
  t175 := Tryz.underlying207
  a175 := Tryz.isAgg207
  z175 := Tryz.sizeOf207
  v175 := Tryz.zeroValue207
  t210 := Tryz.underlying260
  a210 := Tryz.isAgg260
  z210 := Tryz.sizeOf260
  v210 := Tryz.zeroValue260
  t212 := Tryz.underlying226
  a212 := Tryz.isAgg226
  z212 := Tryz.sizeOf226
  v212 := Tryz.zeroValue226
  t213 := Tryz.underlying227
  a213 := Tryz.isAgg227
  z213 := Tryz.sizeOf227
  t232 := Tryz.underlying256
  a232 := Tryz.isAgg256
  z232 := Tryz.sizeOf256
  v232 := Tryz.zeroValue256
  t233 := Tryz.underlying257
  a233 := Tryz.isAgg257
  z233 := Tryz.sizeOf257
  v233 := Tryz.zeroValue257
  g15 := by kernel_rfl
  g16 := by kernel_rfl
  g17 := by kernel_rfl
  g18 := by kernel_rfl
  g19 := by kernel_rfl
  t80 := Tryz.underlying169
  a80 := Tryz.isAgg169
  z80 := Tryz.sizeOf169
  v80 := Tryz.zeroValue169
  i0 := by kernel_rfl
  i2 := by kernel_rfl
  i3 := by kernel_rfl
  i4 := by kernel_rfl
  i5 := by kernel_rfl
  i9 := by kernel_rfl
  i20 := by kernel_rfl
  i21 := by kernel_rfl
  i37 := by kernel_rfl
  i46 := by kernel_rfl
  i51 := by kernel_rfl
  i53 := by kernel_rfl
  i75 := by kernel_rfl
  i80 := by kernel_rfl
  i85 := by kernel_rfl
  i127 := by kernel_rfl
  i143 := by kernel_rfl
  i145 := by kernel_rfl
  i167 := by kernel_rfl
  i168 := by kernel_rfl
  i171 := by kernel_rfl
  i173 := by kernel_rfl
  i175 := by kernel_rfl
  i210 := by kernel_rfl
  i212 := by kernel_rfl
  i232 := by kernel_rfl
  i233 := by kernel_rfl
  m15 := by kernel_rfl
  m16 := by kernel_rfl
  m17 := by kernel_rfl
  m18 := by kernel_rfl
  m19 := by kernel_rfl
  c0 := by kernel_rfl
  c2 := by kernel_rfl
  c3 := by kernel_rfl
  c4 := by kernel_rfl
  c5 := by kernel_rfl
  c9 := by kernel_rfl
  c20 := by kernel_rfl
  c21 := by kernel_rfl
  c37 := by kernel_rfl
  c46 := by kernel_rfl
  c51 := by kernel_rfl
  c53 := by kernel_rfl
  c75 := by kernel_rfl
  c80 := by kernel_rfl
  c85 := by kernel_rfl
  c127 := by kernel_rfl
  c143 := by kernel_rfl
  c145 := by kernel_rfl
  c167 := by kernel_rfl
  c168 := by kernel_rfl
  c171 := by kernel_rfl
  c173 := by kernel_rfl
  c175 := by kernel_rfl
  c210 := by kernel_rfl
  c212 := by kernel_rfl
  c213 := by kernel_rfl
  c232 := by kernel_rfl
  c233 := by kernel_rfl }
open Go.RowKit in
open Go.RowKit in
open Go.RowKit in
open Go.RowKit in
theorem Tryz.strconv_ParseInt_10_at64_ok (s : ByteArray) (hmax : s.size ≤ 9223372036854775806) (v : Int) (h : Lib.parseIntB 64 s.data.toList = .ok v) (w : World) :
    Calls Tryz.prog 218 #[.string s, .int .i64 10, .int .i64 64] w fun e w' => e = .returned (.tuple #[.int .i64 v, .nilIface]) ∧ (w' = w ∨ ∃ t, w' = Lib.bytesWorld w 5 t) := Any.strconv_ParseInt_10_at64_ok Tryz.laysC174 s hmax v h w
open Go.RowKit in
open Go.RowKit in
open Go.RowKit in
open Go.RowKit in
open Go.RowKit in
open Go.RowKit in
open Go.RowKit in
open Go.RowKit in
open Go.RowKit in
open Go.RowKit in
open Go.RowKit in
def Tryz.laysPu14_ren : Go.Shelf.Ren := ⟨fun | 14 => 186 | 16 => 207 | 17 => 208 | 19 => 225 | 20 => 226 | 21 => 227 | 22 => 228 | 23 => 229 | 24 => 230 | 25 => 239 | 27 => 117 | 26 => 240 | 28 => 135 | 29 => 151 | 30 => 175 | 31 => 176 | 32 => 177 | 33 => 178 | 35 => 201 | 34 => 200 | 36 => 202 | 37 => 203 | 38 => 204 | 39 => 222 | 40 => 223 | n => n, fun | 9 => 9 | 3 => 3 | 22 => 132 | 24 => 206 | 25 => 207 | 4 => 4 | 34 => 243 | 5 => 5 | 36 => 144 | 37 => 142 | 0 => 0 | 39 => 245 | 21 => 21 | 44 => 260 | 47 => 234 | 50 => 265 | 48 => 263 | 2 => 2 | 52 => 197 | 55 => 200 | 59 => 226 | 60 => 106 | 20 => 20 | 61 => 227 | 65 => 256 | 66 => 257 | 67 => 169 | n => n, fun | 0 => 4 | 1 => 5 | 2 => 1 | 3 => 2 | 4 => 3 | n => n⟩
theorem Tryz.laysPu14 : Go.Proofs.LaysPu.n14 Tryz.prog Tryz.laysPu14_ren := {
  mixed := by kernel_rfl
  f14 := Tryz.func186.trans (congrArg some (by kernel_rfl))
  f16 := Tryz.func207.trans (congrArg some (by kernel_rfl))
  f17 := Tryz.func208.trans (congrArg some (by kernel_rfl))
  f19 := Tryz.func225.trans (congrArg some (by kernel_rfl))
  f20 := Tryz.func226.trans (congrArg some (by kernel_rfl))
  f21 := Tryz.func227.trans (congrArg some (by kernel_rfl))
  f22 := Tryz.func228.trans (congrArg some (by kernel_rfl))
  f23 := Tryz.func229.trans (congrArg some (by kernel_rfl))
  f24 := Tryz.func230.trans (congrArg some (by kernel_rfl))
  f25 := Tryz.func239.trans (congrArg some (by kernel_rfl))
  f26 := Tryz.func240.trans (congrArg some (by kernel_rfl))
  f27 := Tryz.func117.trans (congrArg some (by kernel_rfl))
  f28 := Tryz.func135.trans (congrArg some (by kernel_rfl))
  f29 := Tryz.func151.trans (congrArg some (by kernel_rfl))
  f30 := Tryz.func175.trans (congrArg some (by kernel_rfl))
  f31 := Tryz.func176.trans (congrArg some (by kernel_rfl))
  f32 := Tryz.func177.trans (congrArg some (by kernel_rfl))
  f33 := Tryz.func178.trans (congrArg some (by kernel_rfl))
  f34 := Tryz.func200.trans (congrArg some (by kernel_rfl))
  f35 := Tryz.func201.trans (congrArg some (by kernel_rfl))
  f36 := Tryz.func202.trans (congrArg some (by kernel_rfl))
  f37 := Tryz.func203.trans (congrArg some (by kernel_rfl))
  f38 := Tryz.func204.trans (congrArg some (by kernel_rfl))
  f39 := Tryz.func222.trans (congrArg some (by kernel_rfl))
  f40 := Tryz.func223.trans (congrArg some (by kernel_rfl))
  t0 := Tryz.underlying0
  a0 := Tryz.isAgg0
  z0 := Tryz.sizeOf0
  v0 := Tryz.zeroValue0
  i0 := by kernel_rfl
  t2 := Tryz.underlying2
  a2 := Tryz.isAgg2
  z2 := Tryz.sizeOf2
  v2 := Tryz.zeroValue2
  i2 := by kernel_rfl
  t3 := Tryz.underlying3
  a3 := Tryz.isAgg3
  z3 := Tryz.sizeOf3
  v3 := Tryz.zeroValue3
  i3 := by kernel_rfl
  t4 := Tryz.underlying4
  a4 := Tryz.isAgg4
  z4 := Tryz.sizeOf4
  v4 := Tryz.zeroValue4
  i4 := by kernel_rfl
  t5 := Tryz.underlying5
  a5 := Tryz.isAgg5
  z5 := Tryz.sizeOf5
  v5 := Tryz.zeroValue5
  i5 := by kernel_rfl
  t9 := Tryz.underlying9
  a9 := Tryz.isAgg9
  z9 := Tryz.sizeOf9
  v9 := Tryz.zeroValue9
  i9 := by kernel_rfl
  t20 := Tryz.underlying20
  a20 := Tryz.isAgg20
  z20 := Tryz.sizeOf20
  v20 := Tryz.zeroValue20
  i20 := by kernel_rfl
  t21 := Tryz.underlying21
  a21 := Tryz.isAgg21
  z21 := Tryz.sizeOf21
  v21 := Tryz.zeroValue21
  i21 := by kernel_rfl
  t22 := Tryz.underlying132
  a22 := Tryz.isAgg132
  z22 := Tryz.sizeOf132
  v22 := Tryz.zeroValue132
  i22 := by kernel_rfl
  t24 := Tryz.underlying206
  a24 := Tryz.isAgg206
  z24 := Tryz.sizeOf206
  v24 := Tryz.zeroValue206
  i24 := by kernel_rfl
  t25 := Tryz.underlying207
  a25 := Tryz.isAgg207
  z25 := Tryz.sizeOf207
  v25 := Tryz.zeroValue207
  i25 := by kernel_rfl
  t34 := Tryz.underlying243
  a34 := Tryz.isAgg243
  z34 := Tryz.sizeOf243
  v34 := Tryz.zeroValue243
  i34 := by kernel_rfl
  c34 := by kernel_rfl
  t36 := Tryz.underlying144
  a36 := Tryz.isAgg144
  z36 := Tryz.sizeOf144
  v36 := Tryz.zeroValue144
  i36 := by kernel_rfl
  t37 := Tryz.underlying142
  a37 := Tryz.isAgg142
  z37 := Tryz.sizeOf142
  v37 := Tryz.zeroValue142
  i37 := by kernel_rfl
  t39 := Tryz.underlying245
  a39 := Tryz.isAgg245
  z39 := Tryz.sizeOf245
  v39 := Tryz.zeroValue245
  i39 := by kernel_rfl
  t44 := Tryz.underlying260
  a44 := Tryz.isAgg260
  z44 := Tryz.sizeOf260
  v44 := Tryz.zeroValue260
  i44 := by kernel_rfl
  t47 := Tryz.underlying234
  a47 := Tryz.isAgg234
  z47 := Tryz.sizeOf234
  v47 := Tryz.zeroValue234
  i47 := by kernel_rfl
  t48 := Tryz.underlying263
  a48 := Tryz.isAgg263
  z48 := Tryz.sizeOf263
  v48 := Tryz.zeroValue263
  i48 := by kernel_rfl
  t50 := Tryz.underlying265
  a50 := Tryz.isAgg265
  z50 := Tryz.sizeOf265
  v50 := Tryz.zeroValue265
  i50 := by kernel_rfl
  t52 := Tryz.underlying197
  a52 := Tryz.isAgg197
  z52 := Tryz.sizeOf197
  v52 := Tryz.zeroValue197
  i52 := by kernel_rfl
  t55 := Tryz.underlying200
  a55 := Tryz.isAgg200
  z55 := Tryz.sizeOf200
  v55 := Tryz.zeroValue200
  i55 := by kernel_rfl
  t59 := Tryz.underlying226
  a59 := Tryz.isAgg226
  z59 := Tryz.sizeOf226
  v59 := Tryz.zeroValue226
  i59 := by kernel_rfl
  t60 := Tryz.underlying106
  a60 := Tryz.isAgg106
  z60 := Tryz.sizeOf106
  v60 := Tryz.zeroValue106
  i60 := by kernel_rfl
  t61 := Tryz.underlying227
  a61 := Tryz.isAgg227
  z61 := Tryz.sizeOf227
  t65 := Tryz.underlying256
  a65 := Tryz.isAgg256
  z65 := Tryz.sizeOf256
  v65 := Tryz.zeroValue256
  i65 := by kernel_rfl
  t66 := Tryz.underlying257
  a66 := Tryz.isAgg257
  z66 := Tryz.sizeOf257
  v66 := Tryz.zeroValue257
  i66 := by kernel_rfl
  t67 := Tryz.underlying169
  a67 := Tryz.isAgg169
  z67 := Tryz.sizeOf169
  v67 := Tryz.zeroValue169
  i67 := by kernel_rfl
  g0 := by kernel_rfl
  m0 := by kernel_rfl
  g1 := by kernel_rfl
  m1 := by kernel_rfl
  g2 := by kernel_rfl
  m2 := by kernel_rfl
  g3 := by kernel_rfl
  m3 := by kernel_rfl
  g4 := by kernel_rfl
  m4 := by kernel_rfl }
open Go.RowKit in
open Go.RowKit in
open Go.RowKit in
open Go.RowKit in
open Go.RowKit in
open Go.RowKit in
open Go.RowKit in
theorem Tryz.strconv_ParseUint_10_at32_ok (s : ByteArray) (hmax : s.size ≤ 9223372036854775806) (u : Nat) (h : Lib.parseUintB 32 s.data.toList = .ok u) (w : World) :
    Calls Tryz.prog 186 #[.string s, .int .i64 10, .int .i64 32] w fun e w' => e = .returned (.tuple #[.int .u64 u, .nilIface]) ∧ (w' = w ∨ w' = Lib.bytesWorld w 5 s) := Any.strconv_ParseUint_10_at32_ok Tryz.laysPu14 s hmax u h w
open Go.RowKit in
open Go.RowKit in
open Go.RowKit in
open Go.RowKit in
open Go.RowKit in
open Go.RowKit in
open Go.RowKit in
open Go.RowKit in
open Go.RowKit Go.Lib in
open Go.RowKit Go.Lib in
open Go.RowKit Go.Lib in
open Go.RowKit Go.Lib in
open Go.RowKit Go.Lib in
open Go.RowKit Go.Lib in
open Go.RowKit Go.Lib in
def Tryz.lays145_ren : Go.Shelf.Ren := ⟨fun | 145 => 112 | 220 => 129 | 219 => 144 | 217 => 159 | 225 => 160 | 224 => 161 | 267 => 162 | 266 => 183 | 314 => 184 | n => n, fun | 9 => 9 | 4 => 4 | 59 => 100 | 3 => 3 | 5 => 5 | 46 => 144 | 146 => 202 | 51 => 106 | n => n, fun | 1 => 0 | n => n⟩
theorem Tryz.lays145 : Go.Proofs.Lays.n145 Tryz.prog Tryz.lays145_ren := {
  mixed := by kernel_rfl
  f145 := Tryz.func112.trans (congrArg some (by kernel_rfl))
  f217 := Tryz.func159.trans (congrArg some (by kernel_rfl))
  f219 := Tryz.func144.trans (congrArg some (by kernel_rfl))
  f220 := Tryz.func129.trans (congrArg some (by kernel_rfl))
  f224 := Tryz.func161.trans (congrArg some (by kernel_rfl))
  f225 := Tryz.func160.trans (congrArg some (by kernel_rfl))
  f266 := Tryz.func183.trans (congrArg some (by kernel_rfl))
  f267 := Tryz.func162.trans (congrArg some (by kernel_rfl))
  f314 := Tryz.func184.trans (congrArg some (by kernel_rfl))
  t3 := Tryz.underlying3
  a3 := Tryz.isAgg3
  z3 := Tryz.sizeOf3
  v3 := Tryz.zeroValue3
  t4 := Tryz.underlying4
  a4 := Tryz.isAgg4
  z4 := Tryz.sizeOf4
  v4 := Tryz.zeroValue4
  t5 := Tryz.underlying5
  a5 := Tryz.isAgg5
  z5 := Tryz.sizeOf5
  v5 := Tryz.zeroValue5
  t9 := Tryz.underlying9
  a9 := Tryz.isAgg9
  z9 := Tryz.sizeOf9
  v9 := Tryz.zeroValue9
  t46 := Tryz.underlying144
  a46 := Tryz.isAgg144
  z46 := Tryz.sizeOf144
  v46 := Tryz.zeroValue144
  t51 := Tryz.underlying106
  a51 := Tryz.isAgg106
  z51 := Tryz.sizeOf106
  v51 := Tryz.zeroValue106
  t59 := Tryz.underlying100
  a59 := Tryz.isAgg100
  z59 := Tryz.sizeOf100
  v59 := Tryz.zeroValue100
  t146 := Tryz.underlying202
  a146 := Tryz.isAgg202
  z146 := Tryz.sizeOf202
  v146 := Tryz.zeroValue202
  g1 := by kernel_rfl }
open Go.RowKit Go.Lib in
theorem Tryz.strings_Cut (s sep : ByteArray) (m : Int) (w : World) (hs : s.size < 4294967281) (hm : w.cell? ⟨0, 0, none⟩ = some (.int .i64 m)) :
    Calls Tryz.prog 112 #[.string s, .string sep] w fun e w' => e = .returned (.tuple #[.string ⟨(Lib.cut s.data.toList sep.data.toList).1.toArray⟩, .string ⟨(Lib.cut s.data.toList sep.data.toList).2.1.toArray⟩, .bool (Lib.cut s.data.toList sep.data.toList).2.2]) ∧ ∃ n, w' = w.drewN n := Any.strings_Cut Tryz.lays145 s sep m w hs hm
open Go.RowKit Go.Lib in
open Go.RowKit Go.Lib in
open Go.RowKit Go.Lib in
open Go.RowKit Go.Lib in
open Go.RowKit Go.Lib in
open Go.RowKit Go.Lib in
open Go.RowKit Go.Lib in
def Tryz.lays105_ren : Go.Shelf.Ren := ⟨fun | 105 => 191 | 212 => 212 | 99 => 213 | 165 => 214 | 166 => 190 | 170 => 215 | 169 => 192 | 263 => 232 | 264 => 233 | 206 => 185 | 240 => 211 | 241 => 234 | 276 => 231 | 277 => 241 | n => n, fun | 9 => 9 | 3 => 3 | 4 => 4 | 20 => 20 | 0 => 0 | 46 => 144 | 109 => 231 | 5 => 5 | 72 => 212 | 76 => 217 | 51 => 106 | 146 => 202 | 53 => 132 | 148 => 251 | 70 => 210 | 37 => 142 | 75 => 206 | 127 => 234 | 164 => 248 | 80 => 169 | n => n, fun | n => n⟩
theorem Tryz.lays105 : Go.Proofs.Lays.n105 Tryz.prog Tryz.lays105_ren := {
  mixed := by kernel_rfl
  f99 := Tryz.func213.trans (congrArg some (by kernel_rfl))
  f105 := Tryz.func191.trans (congrArg some (by kernel_rfl))
  f165 := Tryz.func214.trans (congrArg some (by kernel_rfl))
  f166 := Tryz.func190.trans (congrArg some (by kernel_rfl))
  f169 := Tryz.func192.trans (congrArg some (by kernel_rfl))
  f170 := Tryz.func215.trans (congrArg some (by kernel_rfl))
  f206 := Tryz.func185.trans (congrArg some (by kernel_rfl))
  f212 := Tryz.func212.trans (congrArg some (by kernel_rfl))
  f240 := Tryz.func211.trans (congrArg some (by kernel_rfl))
  f241 := Tryz.func234.trans (congrArg some (by kernel_rfl))
  f263 := Tryz.func232.trans (congrArg some (by kernel_rfl))
  f264 := Tryz.func233.trans (congrArg some (by kernel_rfl))
  f276 := Tryz.func231.trans (congrArg some (by kernel_rfl))
  f277 := Tryz.func241.trans (congrArg some (by kernel_rfl))
  t0 := Tryz.underlying0
  a0 := Tryz.isAgg0
  z0 := Tryz.sizeOf0
  v0 := Tryz.zeroValue0
  t3 := Tryz.underlying3
  a3 := Tryz.isAgg3
  z3 := Tryz.sizeOf3
  v3 := Tryz.zeroValue3
  t4 := Tryz.underlying4
  a4 := Tryz.isAgg4
  z4 := Tryz.sizeOf4
  v4 := Tryz.zeroValue4
  t5 := Tryz.underlying5
  a5 := Tryz.isAgg5
  z5 := Tryz.sizeOf5
  v5 := Tryz.zeroValue5
  t9 := Tryz.underlying9
  a9 := Tryz.isAgg9
  z9 := Tryz.sizeOf9
  v9 := Tryz.zeroValue9
  t20 := Tryz.underlying20
  a20 := Tryz.isAgg20
  z20 := Tryz.sizeOf20
  v20 := Tryz.zeroValue20
  t37 := Tryz.underlying142
  a37 := Tryz.isAgg142
  z37 := Tryz.sizeOf142
  v37 := Tryz.zeroValue142
  t46 := Tryz.underlying144
  a46 := Tryz.isAgg144
  z46 := Tryz.sizeOf144
  v46 := Tryz.zeroValue144
  t51 := Tryz.underlying106
  a51 := Tryz.isAgg106
  z51 := Tryz.sizeOf106
  v51 := Tryz.zeroValue106
  t53 := Tryz.underlying132
  a53 := Tryz.isAgg132
  z53 := Tryz.sizeOf132
  v53 := Tryz.zeroValue132
  t70 := Tryz.underlying210
  a70 := Tryz.isAgg210
  z70 := Tryz.sizeOf210
  v70 := Tryz.zeroValue210
  t72 := Tryz.underlying212
  a72 := Tryz.isAgg212
  z72 := Tryz.sizeOf212
  v72 := Tryz.zeroValue212
  t75 := Tryz.underlying206
  a75 := Tryz.isAgg206
  z75 := Tryz.sizeOf206
  v75 := Tryz.zeroValue206
  t76 := Tryz.underlying217
  a76 := Tryz.isAgg217
  z76 := Tryz.sizeOf217
  v76 := Tryz.zeroValue217
  t109 := Tryz.underlying231
  a109 := Tryz.isAgg231
  z109 := Tryz.sizeOf231
  v109 := Tryz.zeroValue231
  t127 := Tryz.underlying234
  a127 := Tryz.isAgg234
  z127 := Tryz.sizeOf234
  v127 := Tryz.zeroValue234
  t146 := Tryz.underlying202
  a146 := Tryz.isAgg202
  z146 := Tryz.sizeOf202
  v146 := Tryz.zeroValue202
  t148 := Tryz.underlying251
  a148 := Tryz.isAgg251
  z148 := Tryz.sizeOf251
  v148 := Tryz.zeroValue251
  t164 := Tryz.underlying248
  a164 := Tryz.isAgg248
  z164 := Tryz.sizeOf248
  v164 := Tryz.zeroValue248 }
theorem Tryz.Builder_Extra_105 : Builder.Extra Tryz.prog Tryz.lays105_ren := {
  sizeBuilder := by kernel_rfl
  liesBuilder := by kernel_rfl
  t5 := Tryz.underlying5
  a5 := Tryz.isAgg5
  z5 := Tryz.sizeOf5
  v5 := Tryz.zeroValue5
  infoByte := by kernel_rfl
  cellsByte := by kernel_rfl
  sizeByte := by kernel_rfl
  neB5 := by decide }
open Go.RowKit Go.Lib in
open Go.RowKit Go.Lib in
open Go.RowKit Go.Lib in
open Go.RowKit Go.Lib in
open Go.RowKit Go.Lib in
open Go.RowKit Go.Lib in
open Go.RowKit Go.Lib in
theorem Tryz.strings_Repeat (s : ByteArray) (c : Nat) (w : World) (hc : c ≤ 9223372036854775807) (hlen : s.size * c ≤ 140737488355328) :
    Calls Tryz.prog 191 #[.string s, .int .i64 c] w fun e w' => e = .returned (.string ⟨(Lib.repeatL s.data.toList c).toArray⟩) ∧ Below w.heap.size w w' := Any.strings_Repeat Tryz.lays105 Tryz.Builder_Extra_105 s c w hc hlen
end Go.Proofs

namespace Go.Proofs.YtdoailkigecmkaaGreatDoor.B
open Go Go.RowKit Go.Proofs Go.Proofs.YtdoailkigecmkaaGreatDoor.Vc

theorem foldD (l : Tx) : ∀ a : Nat, l.foldl (fun a c => 10 * a + dv c) a = a * 10 ^ l.length + valD l := by
  induction l with
  | nil => intro a; simp [valD]
  | cons c r ih =>
    intro a
    have h1 := ih (10 * a + dv c)
    have h2 := ih (10 * 0 + dv c)
    simp only [valD, List.foldl_cons, List.length_cons, Nat.pow_succ] at *
    rw [h1, h2]
    grind
theorem valD_append (a b : Tx) : valD (a ++ b) = valD a * 10 ^ b.length + valD b := by
  have := foldD b (valD a)
  rw [← this]
  simp [valD, List.foldl_append]
theorem valD_cons (c : UInt8) (r : Tx) : valD (c :: r) = dv c * 10 ^ r.length + valD r := by
  have h1 := foldD r (10 * 0 + dv c)
  have h2 : valD (c :: r) = r.foldl (fun a c => 10 * a + dv c) (10 * 0 + dv c) := rfl
  rw [h2, h1]
  simp
theorem valD_lt {l : Tx} (h : l.all dig = true) : valD l < 10 ^ l.length := by
  induction l with
  | nil => simp [valD]
  | cons c r ih =>
    simp only [List.all_cons, Bool.and_eq_true] at h
    have h1 := ih h.2
    have h2 : dv c ≤ 9 := by have := h.1; simp [dig] at this; simp only [dv]; omega
    have h3 : dv c * 10 ^ r.length ≤ 9 * 10 ^ r.length := Nat.mul_le_mul_right _ h2
    rw [valD_cons, List.length_cons, Nat.pow_succ]
    omega

theorem parseUintM_ok (M : Nat) (hM : M < 18446744073709551616) : ∀ (l : Tx) (acc : Nat), l.all dig = true → acc * 10 ^ l.length + valD l ≤ M → Lib.parseUintM M acc l = .ok (acc * 10 ^ l.length + valD l) := by
  intro l
  induction l with
  | nil => intro acc _ _; simp [Lib.parseUintM, valD]
  | cons c r ih =>
    intro acc hd hle
    simp only [List.all_cons, Bool.and_eq_true] at hd
    have hc : 48 ≤ c.toNat ∧ c.toNat ≤ 57 := by have := hd.1; simpa [dig] using this
    have e : acc * 10 ^ (c :: r).length + valD (c :: r) = (acc * 10 + (c.toNat - 48)) * 10 ^ r.length + valD r := by
      have h1 := foldD r (10 * 0 + dv c)
      have h2 : valD (c :: r) = r.foldl (fun a c => 10 * a + dv c) (10 * 0 + dv c) := rfl
      rw [h2, h1, List.length_cons, Nat.pow_succ]
      simp only [dv]
      grind
    have hp : 0 < 10 ^ r.length := Nat.pow_pos (by omega)
    have h3 : acc * 10 + (c.toNat - 48) ≤ (acc * 10 + (c.toNat - 48)) * 10 ^ r.length := Nat.le_mul_of_pos_right _ hp
    rw [e] at hle ⊢
    rw [Lib.parseUintM, if_pos hc, if_neg (by omega), if_neg (by omega)]
    exact ih _ hd.2 hle
theorem parseUintB_ok {B : Nat} {l : Tx} (hB : 2 ^ B - 1 < 18446744073709551616) (h0 : l ≠ []) (hd : l.all dig = true) (hle : valD l ≤ 2 ^ B - 1) : Lib.parseUintB B l = .ok (valD l) := by
  rw [Lib.parseUintB, if_neg h0, parseUintM_ok _ hB l 0 hd (by simpa using hle)]
  simp

theorem by_extract (s : ByteArray) (i j : Nat) : by_ (s.extract i j) = ((by_ s).take j).drop i := by
  unfold by_
  rw [ByteArray.data_extract, Array.toList_extract, List.extract_eq_take_drop, List.drop_take]

theorem below_of_uint {w w' : World} {e : Nat} {s : ByteArray} (h : w' = w ∨ w' = Lib.bytesWorld w e s) : Below w.heap.size w w' := by
  rcases h with rfl | rfl
  · exact Below.refl _ _
  · exact ⟨rfl, rfl, rfl, by rw [Lib.bytesWorld_size]; omega, fun k hk => Lib.bytesWorld_at_old w e s k hk⟩

theorem ParseUint32 (s : ByteArray) (h0 : by_ s ≠ []) (hd : (by_ s).all dig = true) (hl : s.size ≤ 9) (w : World) :
    Pure Tryz.prog 186 #[.string s, .int .i64 10, .int .i64 32] w fun v _ => v = .tuple #[.int .u64 (valD (by_ s) : Nat), .nilIface] := by
  have hv := valD_lt hd
  have hp : 10 ^ (by_ s).length ≤ 10 ^ 9 := Nat.pow_le_pow_right (by omega) (by rw [← size_by]; exact hl)
  have hok := parseUintB_ok (B := 32) (by omega) h0 hd (by omega)
  exact Calls.mono (Tryz.strconv_ParseUint_10_at32_ok s (by omega) _ hok w) fun e w' ⟨he, hw⟩ => ⟨_, he, below_of_uint hw, rfl⟩

theorem read_loop {w0 : World} {R : Value → World → Prop} {x : Nat} (hR : ∀ A n c w, IsN w A n c x → R (.slice A n c) w) :
    ∀ (d : Nat) (s : ByteArray) (w : World) (A : Option Addr) (n c : Nat) (ws : List Nat), s.size ≤ d → n + s.size ≤ 900000 → (by_ s).all dig = true → OwnU w w0.heap.size A n c ws → Small ws → w0.heap.size ≤ w.heap.size →
      wv ws + 1000000000 ^ n * valD (by_ s) = x → F.natural_read.L2 s A n c w0.heap.size w R := by
  intro d
  induction d with
  | zero =>
    intro s w A n c ws hs hn hd ho hsm hw he
    have h0 : by_ s = [] := List.eq_nil_of_length_eq_zero (by rw [← size_by]; omega)
    rw [h0] at he
    refine F.natural_read.L2.step _ _ _ _ _ _ _ ⟨fun h => by omega, fun _ => ?_⟩
    refine Pure.mono (natural_trim ho.sl ho.len ho.cap (by omega) hsm) ?_
    rintro v w2 _ ⟨rfl, m, rfl, h, _⟩
    have e : wv ws = x := by rw [← he]; simp [valD]
    rw [e] at h
    exact ⟨_, _, _, rfl, hR _ _ _ _ h⟩
  | succ d ih =>
    intro s w A n c ws hs hn hd ho hsm hw he
    have hsz := size_by s
    by_cases h0 : s.size = 0
    · exact ih s w A n c ws (by omega) hn hd ho hsm hw he
    obtain ⟨at_, hat⟩ : ∃ at_ : Nat, at_ = s.size - 9 := ⟨_, rfl⟩
    have eat : (if (0 : Int) > ((s.size : Int) - 9) then (0 : Int) else ((s.size : Int) - 9)) = (at_ : Int) := by split <;> omega
    refine F.natural_read.L2.step _ _ _ _ _ _ _ ⟨fun _ => ?_, fun h => by omega⟩
    rw [eat, Int.toNat_natCast]
    refine ⟨by simp only [inR]; omega, ⟨by omega, by omega⟩, ?_⟩
    have et : by_ (s.extract at_ s.size) = (by_ s).drop at_ := by rw [by_extract, List.take_of_length_le (by omega)]
    have eh : by_ (s.extract 0 at_) = (by_ s).take at_ := by rw [by_extract]; rfl
    have hdt : ((by_ s).drop at_).all dig = true := by
      rw [List.all_eq_true] at hd ⊢
      exact fun y hy => hd y (List.mem_of_mem_drop hy)
    have hdh : ((by_ s).take at_).all dig = true := by
      rw [List.all_eq_true] at hd ⊢
      exact fun y hy => hd y (List.mem_of_mem_take hy)
    have hlt : ((by_ s).drop at_).length = s.size - at_ := by rw [List.length_drop, ← hsz]
    have hlh : ((by_ s).take at_).length = at_ := by rw [List.length_take, ← hsz]; omega
    have hu := valD_lt hdt
    have hp : 10 ^ ((by_ s).drop at_).length ≤ 10 ^ 9 := Nat.pow_le_pow_right (by omega) (by omega)
    refine Pure.mono (ParseUint32 _ (by rw [et]; exact fun k => by rw [k] at hlt; simp at hlt; omega) (by rw [et]; exact hdt) (by rw [size_by, et]; omega) w) ?_
    rintro v w4 hb4 rfl
    rw [et]
    refine ⟨_, _, rfl, by simp only [inR]; omega, ?_⟩
    have ho4 : OwnU w4 w0.heap.size A n c ws := ho.other fun b hb => hb4.block b (ho.blk b hb).2
    have s4 := hb4.size
    refine app_u32 (B0 := w0.heap.size) el_num (Nat.le_refl _) ho4 (by omega) (by omega) (by simp) (by omega) fun A' c' w5 o5 _ b5 => ⟨⟨by omega, by omega⟩, ?_⟩
    have s5 := b5.size
    rw [Int.toNat_natCast] at o5
    refine ih _ w5 A' (n + 1) c' _ (by rw [size_by, eh, hlh]; omega) (by rw [size_by, eh, hlh]; omega) (by rw [eh]; exact hdh) o5 (hsm.append (Small.cons (by omega) Small.nil)) (by omega) ?_
    rw [eh, wv_append, ho.len, Nat.pow_succ]
    have ev : valD (by_ s) = valD ((by_ s).take at_) * 1000000000 + valD ((by_ s).drop at_) := by
      have h1 := valD_append ((by_ s).take at_) ((by_ s).drop at_)
      rw [List.take_append_drop] at h1
      by_cases h9 : at_ = 0
      · rw [h1, h9]; simp [valD]
      · rw [h1, show ((by_ s).drop at_).length = 9 by omega]
    rw [ev] at he
    rw [← he]
    simp only [wv]
    grind

theorem natural_read {w : World} {s : ByteArray} (hs : s.size ≤ 900000) (h : isNat (by_ s) = true) :
    Pure Tryz.prog 164 #[.string s] w fun v w' => ∃ A n c, v = .slice A n c ∧ IsN w' A n c (valD (by_ s)) := by
  have hd : (by_ s).all dig = true := by simp [isNat] at h; simpa using h.2
  exact F.natural_read.vc _ _ _ (read_loop (w0 := w) (x := valD (by_ s)) (fun A n c w k => ⟨A, n, c, rfl, k⟩) s.size s w none 0 0 [] (Nat.le_refl _) (by omega) hd (World.ownsRow_nil w _ _ _) Small.nil (Nat.le_refl _) (by simp [wv]))
end Go.Proofs.YtdoailkigecmkaaGreatDoor.B

namespace Go.Proofs.YtdoailkigecmkaaGreatDoor.B
open Go Go.RowKit Go.Proofs Go.Proofs.YtdoailkigecmkaaGreatDoor.Vc

abbrev natT (n : Nat) : Tx := Lib.decDigits n

theorem valD_snoc (l : Tx) (c : UInt8) : valD (l ++ [c]) = 10 * valD l + dv c := by simp [valD]
theorem natT_small {n : Nat} (h : n < 10) : natT n = [UInt8.ofNat (48 + n)] := Lib.decDigits_one h
theorem natT_big {n : Nat} (h : ¬ n < 10) : natT n = natT (n / 10) ++ [UInt8.ofNat (48 + n % 10)] := by rw [natT, Lib.decDigits, dif_neg h]
theorem dv_of {n : Nat} (h : n < 10) : dv (UInt8.ofNat (48 + n)) = n := by
  simp only [dv, UInt8.toNat_ofNat']
  omega
theorem dig_of {n : Nat} (h : n < 10) : dig (UInt8.ofNat (48 + n)) = true := by
  simp only [dig, UInt8.toNat_ofNat']
  simp
  omega
theorem of_dv {c : UInt8} (h : dig c = true) : UInt8.ofNat (48 + dv c) = c := by
  apply UInt8.toNat_inj.1
  simp only [dig, Bool.and_eq_true, decide_eq_true_eq] at h
  simp only [dv, UInt8.toNat_ofNat']
  have := c.toNat_lt
  omega
theorem dv_lt {c : UInt8} (h : dig c = true) : dv c < 10 := by
  simp only [dig, Bool.and_eq_true, decide_eq_true_eq] at h
  simp only [dv]
  omega

theorem natT_val (n : Nat) : valD (natT n) = n := by
  induction n using Nat.strongRecOn with
  | _ n ih =>
    by_cases h : n < 10
    · have e : ∀ c, valD [c] = dv c := fun c => by simp [valD]
      rw [natT_small h, e, dv_of h]
    · rw [natT_big h, valD_snoc, ih (n / 10) (by omega), dv_of (by omega)]
      omega
theorem natT_all (n : Nat) : (natT n).all dig = true := by
  induction n using Nat.strongRecOn with
  | _ n ih =>
    by_cases h : n < 10
    · rw [natT_small h, List.all_cons, dig_of h]; rfl
    · rw [natT_big h, List.all_append, ih (n / 10) (by omega), List.all_cons, dig_of (show n % 10 < 10 by omega)]; rfl
theorem natT_ne (n : Nat) : natT n ≠ [] := by
  by_cases h : n < 10
  · rw [natT_small h]; simp
  · rw [natT_big h]; simp
theorem head_app {a b : Tx} (h : a ≠ []) : (a ++ b).head? = a.head? := by
  cases a with
  | nil => exact absurd rfl h
  | cons c r => rfl
theorem natT_head (n : Nat) (h0 : 0 < n) : (natT n).head? ≠ some 48 := by
  induction n using Nat.strongRecOn with
  | _ n ih =>
    by_cases h : n < 10
    · rw [natT_small h]
      intro k
      have k1 : UInt8.ofNat (48 + n) = 48 := by simpa using k
      have := congrArg dv k1
      rw [dv_of h] at this
      simp [dv] at this
      omega
    · rw [natT_big h, head_app (natT_ne _)]
      exact ih (n / 10) (by omega) (by omega)
theorem natT_isNat (n : Nat) : isNat (natT n) = true := by
  have h1 := natT_all n
  have h2 := natT_ne n
  unfold isNat
  rw [h1]
  by_cases h : n = 0
  · subst h; rw [natT_small (by omega)]; simp
  · have h3 := natT_head n (by omega)
    have h4 : ((natT n).head? != some 48) = true := by simpa using h3
    have h5 : (natT n).isEmpty = false := by simpa using h2
    rw [h4, h5]
    simp
theorem natT_inj {a b : Nat} (h : natT a = natT b) : a = b := by
  have := congrArg valD h
  rwa [natT_val, natT_val] at this

theorem valD_pos {l : Tx} (hd : l.all dig = true) (h : l ≠ []) (hh : l.head? ≠ some 48) : 0 < valD l := by
  cases l with
  | nil => exact absurd rfl h
  | cons c r =>
    rw [valD_cons]
    simp only [List.all_cons, Bool.and_eq_true] at hd
    have h1 : c ≠ 48 := fun k => by subst k; simp at hh
    have h2 : dv c ≠ 0 := fun k => by
      have := of_dv hd.1
      rw [k] at this
      exact h1 this.symm
    have h3 : 0 < dv c * 10 ^ r.length := Nat.mul_pos (by omega) (Nat.pow_pos (by omega))
    omega
theorem isNat_parts {t : Tx} (h : isNat t = true) : t ≠ [] ∧ (t.length = 1 ∨ t.head? ≠ some 48) ∧ t.all dig = true := by
  unfold isNat at h
  simp only [Bool.and_eq_true, Bool.or_eq_true, Bool.not_eq_true', beq_iff_eq, bne_iff_ne, ne_eq] at h
  refine ⟨fun k => ?_, h.1.2, h.2⟩
  subst k
  simp at h
theorem natT_snoc : ∀ (k : Nat) (t : Tx), t.length = k → isNat t = true → natT (valD t) = t := by
  intro k
  induction k with
  | zero => intro t hl h; exact absurd (List.eq_nil_of_length_eq_zero hl) (isNat_parts h).1
  | succ k ih =>
    intro t hl h
    obtain ⟨h1, h2, h3⟩ := isNat_parts h
    obtain ⟨l, c, rfl⟩ : ∃ l c, t = l ++ [c] := ⟨t.dropLast, t.getLast h1, (List.dropLast_concat_getLast h1).symm⟩
    rw [List.all_append] at h3
    simp only [Bool.and_eq_true, List.all_cons, List.all_nil, and_true] at h3
    rw [valD_snoc]
    by_cases hn : l = []
    · subst hn
      have : 10 * valD [] + dv c = dv c := by simp [valD]
      rw [this, natT_small (dv_lt h3.2), of_dv h3.2]
      rfl
    · have hh : l.head? ≠ some 48 := by
        rcases h2 with h2 | h2
        · have := List.length_pos_iff.2 hn
          rw [List.length_append, List.length_singleton] at h2
          omega
        · rwa [head_app hn] at h2
      have hp := valD_pos h3.1 hn hh
      have hl1 : isNat l = true := by
        unfold isNat
        have h4 : (l.head? != some 48) = true := by simpa using hh
        have h5 : l.isEmpty = false := by simpa using hn
        rw [h3.1, h4, h5]
        simp
      have hd := dv_lt h3.2
      rw [natT_big (by omega), show (10 * valD l + dv c) / 10 = valD l by omega, show (10 * valD l + dv c) % 10 = dv c by omega, ih l (by simp at hl; omega) hl1, of_dv h3.2]
theorem natT_of {t : Tx} (h : isNat t = true) : natT (valD t) = t := natT_snoc _ t rfl h

theorem natT_0 : natT 0 = [48] := by rw [natT_small (by omega)]; rfl
theorem natT_1 : natT 1 = [49] := by rw [natT_small (by omega)]; rfl
theorem natT_zero_iff {n : Nat} : natT n = [48] ↔ n = 0 := by
  constructor
  · intro h; exact natT_inj (h.trans natT_0.symm)
  · intro h; subst h; exact natT_0
theorem natT_one_iff {n : Nat} : natT n = [49] ↔ n = 1 := by
  constructor
  · intro h; exact natT_inj (h.trans natT_1.symm)
  · intro h; subst h; exact natT_1
theorem lt_natT (n : Nat) : n < 10 ^ (natT n).length := by
  have := valD_lt (natT_all n)
  rwa [natT_val] at this
theorem natT_length_le {n k : Nat} (h : n < 10 ^ k) (hk : 1 ≤ k) : (natT n).length ≤ k := by
  induction k generalizing n with
  | zero => omega
  | succ k ih =>
    by_cases hn : n < 10
    · rw [natT_small hn]; simp
    · rw [natT_big hn, List.length_append]
      have hk1 : 1 ≤ k := by
        apply Decidable.byContradiction
        intro k0
        have : k = 0 := by omega
        subst this
        omega
      have := ih (n := n / 10) (by rw [Nat.pow_succ] at h; omega) hk1
      simp
      omega
theorem natT_mem {n : Nat} {c : UInt8} (h : c ∈ natT n) : dig c = true := by
  have := natT_all n
  rw [List.all_eq_true] at this
  exact this c h

abbrev intT (z : Int) : Tx := Lib.itoa z
def isInt (t : Tx) : Bool := if t.head? = some 45 then isNat t.tail && t.tail != [48] else isNat t
def valI (t : Tx) : Int := if t.head? = some 45 then -(valD t.tail : Int) else valD t

theorem intT_nat (n : Nat) : intT (n : Int) = natT n := by
  rw [intT, Lib.itoa, if_neg (by omega)]; rfl
theorem intT_neg {n : Nat} (h : 0 < n) : intT (-(n : Int)) = 45 :: natT n := by
  rw [intT, Lib.itoa, if_pos (by omega)]
  simp
theorem intT_eq (z : Int) : intT z = if z < 0 then 45 :: natT z.natAbs else natT z.natAbs := by
  rw [intT, Lib.itoa]
  split
  · rfl
  · congr 1; omega
theorem natT_head45 (n : Nat) : (natT n).head? ≠ some 45 := by
  intro h
  have := natT_mem (List.mem_of_head? h)
  simp [dig] at this
theorem intT_isInt (z : Int) : isInt (intT z) = true := by
  rw [intT_eq, isInt]
  split
  · have h1 := natT_isNat z.natAbs
    have h2 : natT z.natAbs ≠ [48] := fun k => by have := natT_zero_iff.1 k; omega
    simp [h1, h2]
  · rw [if_neg (natT_head45 _)]
    exact natT_isNat _
theorem intT_val (z : Int) : valI (intT z) = z := by
  rw [intT_eq, valI]
  split
  · simp [natT_val]; omega
  · rw [if_neg (natT_head45 _), natT_val]; omega
theorem intT_of {t : Tx} (h : isInt t = true) : intT (valI t) = t := by
  unfold isInt at h
  unfold valI
  split at h
  · rename_i k
    simp only [Bool.and_eq_true, bne_iff_ne, ne_eq] at h
    rw [if_pos k]
    have h0 : 0 < valD t.tail := by
      apply Nat.pos_of_ne_zero
      intro k0
      have := natT_of h.1
      rw [k0] at this
      exact h.2 (this ▸ natT_zero_iff.2 rfl)
    rw [intT_neg h0, natT_of h.1]
    cases t with
    | nil => simp at k
    | cons c r => simp at k; subst k; rfl
  · rename_i k
    rw [if_neg k, intT_nat, natT_of h]
theorem intT_inj {a b : Int} (h : intT a = intT b) : a = b := by
  have := congrArg valI h
  rwa [intT_val, intT_val] at this
theorem intT_zero_iff {z : Int} : intT z = [48] ↔ z = 0 := by
  constructor
  · intro h; exact intT_inj (h.trans ((intT_nat 0).trans natT_0).symm)
  · intro h; subst h; exact (intT_nat 0).trans natT_0
theorem intT_mem {z : Int} {c : UInt8} (h : c ∈ intT z) : dig c = true ∨ c = 45 := by
  rw [intT_eq] at h
  split at h
  · rcases List.mem_cons.1 h with h | h
    · exact .inr h
    · exact .inl (natT_mem h)
  · exact .inl (natT_mem h)
theorem intT_ne (z : Int) : intT z ≠ [] := by
  rw [intT_eq]
  split
  · simp
  · exact natT_ne _
theorem intT_length_le {z : Int} {k : Nat} (h : z.natAbs < 10 ^ k) (hk : 1 ≤ k) : (intT z).length ≤ k + 1 := by
  rw [intT_eq]
  have := natT_length_le h hk
  split
  · simp; omega
  · omega
theorem lt_intT (z : Int) : z.natAbs < 10 ^ (intT z).length := by
  rw [intT_eq]
  have h1 := lt_natT z.natAbs
  split
  · rw [List.length_cons, Nat.pow_succ]; omega
  · exact h1

def ratT (r : Rat) : Tx := if r.den = 1 then intT r.num else intT r.num ++ 47 :: natT r.den
def bef (t : Tx) : Tx := t.takeWhile (· != 47)
def aft (t : Tx) : Tx := (t.dropWhile (· != 47)).tail
def isRat (t : Tx) : Bool := if 47 ∈ t then isInt (bef t) && bef t != [48] && isNat (aft t) && aft t != [48] && aft t != [49] && Nat.gcd (valI (bef t)).natAbs (valD (aft t)) == 1 else isInt t
def valR (t : Tx) : Rat := if 47 ∈ t then mkRat (valI (bef t)) (valD (aft t)) else (valI t : Rat)

theorem not47_int (z : Int) : 47 ∉ intT z := by
  intro h
  rcases intT_mem h with h | h
  · simp [dig] at h
  · simp at h
theorem bef_app {a b : Tx} (h : 47 ∉ a) : bef (a ++ 47 :: b) = a := by
  unfold bef
  rw [List.takeWhile_append_of_pos (fun x hx => by simp; intro k; subst k; exact h hx)]
  simp
theorem aft_app {a b : Tx} (h : 47 ∉ a) : aft (a ++ 47 :: b) = b := by
  unfold aft
  rw [List.dropWhile_append_of_pos (fun x hx => by simp; intro k; subst k; exact h hx)]
  simp
theorem cut_eq {t : Tx} (h : 47 ∈ t) : t = bef t ++ 47 :: aft t ∧ 47 ∉ bef t := by
  induction t with
  | nil => simp at h
  | cons c r ih =>
    by_cases hc : c = 47
    · subst hc; simp [bef, aft]
    · have hr : 47 ∈ r := by
        rcases List.mem_cons.1 h with k | k
        · exact absurd k.symm hc
        · exact k
      obtain ⟨e, hn⟩ := ih hr
      have e1 : bef (c :: r) = c :: bef r := by simp [bef, hc]
      have e2 : aft (c :: r) = aft r := by simp [aft, hc]
      rw [e1, e2]
      constructor
      · rw [List.cons_append, ← e]
      · intro k
        rcases List.mem_cons.1 k with k | k
        · exact hc k.symm
        · exact hn k

theorem ratT_val (r : Rat) : valR (ratT r) = r := by
  unfold ratT valR
  split
  · rename_i h
    rw [if_neg (not47_int _), intT_val]
    apply Rat.ext
    · rfl
    · rw [h]; rfl
  · rw [if_pos (by simp), bef_app (not47_int _), aft_app (not47_int _), intT_val, natT_val, Rat.mkRat_self]
theorem ratT_isRat (r : Rat) : isRat (ratT r) = true := by
  unfold ratT isRat
  split
  · rw [if_neg (not47_int _)]; exact intT_isInt _
  · rename_i h
    rw [if_pos (by simp), bef_app (not47_int _), aft_app (not47_int _), intT_isInt, natT_isNat, intT_val, natT_val]
    have h1 : intT r.num ≠ [48] := by
      intro k
      have k1 := intT_zero_iff.1 k
      have := r.reduced
      rw [k1] at this
      have h2 : Nat.gcd 0 r.den = 1 := this
      simp at h2
      exact h h2
    have h2 : natT r.den ≠ [48] := fun k => r.den_nz (natT_zero_iff.1 k)
    have h3 : natT r.den ≠ [49] := fun k => h (natT_one_iff.1 k)
    have h4 : Nat.gcd r.num.natAbs r.den = 1 := r.reduced
    simp [h1, h2, h3, h4]
theorem isRat_slash {t : Tx} (h : isRat t = true) (k : 47 ∈ t) : isInt (bef t) = true ∧ bef t ≠ [48] ∧ isNat (aft t) = true ∧ aft t ≠ [48] ∧ aft t ≠ [49] ∧ Nat.gcd (valI (bef t)).natAbs (valD (aft t)) = 1 := by
  unfold isRat at h
  rw [if_pos k] at h
  simp only [Bool.and_eq_true, bne_iff_ne, ne_eq, beq_iff_eq] at h
  obtain ⟨⟨⟨⟨⟨h1, h2⟩, h3⟩, h4⟩, h5⟩, h6⟩ := h
  exact ⟨h1, h2, h3, h4, h5, h6⟩
theorem mkRat_red {p : Int} {d : Nat} (hd : d ≠ 0) : (mkRat p d).num = p / (p.natAbs.gcd d : Nat) ∧ (mkRat p d).den = d / p.natAbs.gcd d := by
  rw [← Rat.normalize_eq_mkRat hd]
  exact ⟨Rat.num_normalize hd, Rat.den_normalize hd⟩
theorem ratT_of {t : Tx} (h : isRat t = true) : ratT (valR t) = t := by
  by_cases k : 47 ∈ t
  · obtain ⟨h1, h2, h3, h4, h5, h6⟩ := isRat_slash h k
    have e := (cut_eq k).1
    have hd : valD (aft t) ≠ 0 := fun k0 => by
      have := natT_of h3
      rw [k0] at this
      exact h4 (this ▸ natT_zero_iff.2 rfl)
    have hd1 : valD (aft t) ≠ 1 := fun k0 => by
      have := natT_of h3
      rw [k0] at this
      exact h5 (this ▸ natT_one_iff.2 rfl)
    obtain ⟨r1, r2⟩ := mkRat_red (p := valI (bef t)) hd
    rw [h6] at r1 r2
    unfold valR ratT
    rw [if_pos k, r1, r2]
    simp only [Nat.div_one, Int.natCast_one, Int.ediv_one]
    rw [if_neg hd1, intT_of h1, natT_of h3, ← e]
  · unfold isRat at h
    rw [if_neg k] at h
    unfold valR ratT
    rw [if_neg k]
    have e1 : ((valI t : Rat)).den = 1 := rfl
    have e2 : ((valI t : Rat)).num = valI t := rfl
    rw [if_pos e1, e2, intT_of h]
theorem ratT_inj {a b : Rat} (h : ratT a = ratT b) : a = b := by
  have := congrArg valR h
  rwa [ratT_val, ratT_val] at this

def Sm (k : Nat) (r : Rat) : Prop := r.num.natAbs < 10 ^ k ∧ r.den < 10 ^ k
theorem Sm.mono {j k : Nat} {r : Rat} (h : Sm j r) (hjk : j ≤ k) : Sm k r :=
  have hp : 10 ^ j ≤ 10 ^ k := Nat.pow_le_pow_right (by omega) hjk
  ⟨Nat.lt_of_lt_of_le h.1 hp, Nat.lt_of_lt_of_le h.2 hp⟩
theorem Sm.neg {k : Nat} {r : Rat} (h : Sm k r) : Sm k (-r) := by
  refine ⟨?_, h.2⟩
  rw [Rat.neg_num, Int.natAbs_neg]
  exact h.1
theorem Sm.mkRat {k : Nat} {p : Int} {d : Nat} (h1 : p.natAbs < 10 ^ k) (h2 : d < 10 ^ k) (hd : d ≠ 0) : Sm k (mkRat p d) := by
  obtain ⟨e1, e2⟩ := mkRat_red (p := p) hd
  constructor
  · rw [e1, Int.natAbs_ediv_of_dvd (Int.ofNat_dvd_left.2 (Nat.gcd_dvd_left _ _)), Int.natAbs_natCast]
    exact Nat.lt_of_le_of_lt (Nat.div_le_self _ _) h1
  · rw [e2]
    exact Nat.lt_of_le_of_lt (Nat.div_le_self _ _) h2
theorem mul_lt_pow {a b j k : Nat} (ha : a < 10 ^ j) (hb : b < 10 ^ k) : a * b < 10 ^ (j + k) := by
  rw [Nat.pow_add]
  exact Nat.mul_lt_mul'' ha hb
theorem add_num_lt {j k : Nat} {a b : Rat} (ha : Sm j a) (hb : Sm k b) : (a.num * b.den + b.num * a.den).natAbs < 10 ^ (j + k + 1) := by
  have h1 := mul_lt_pow ha.1 hb.2
  have h2 := mul_lt_pow hb.1 ha.2
  rw [Nat.add_comm k j] at h2
  have e1 : (a.num * b.den).natAbs = a.num.natAbs * b.den := by rw [Int.natAbs_mul, Int.natAbs_natCast]
  have e2 : (b.num * a.den).natAbs = b.num.natAbs * a.den := by rw [Int.natAbs_mul, Int.natAbs_natCast]
  have h3 := Int.natAbs_add_le (a.num * b.den) (b.num * a.den)
  rw [Nat.pow_succ]
  omega
theorem den_mul_lt {j k : Nat} {a b : Rat} (ha : Sm j a) (hb : Sm k b) : a.den * b.den < 10 ^ (j + k) := mul_lt_pow ha.2 hb.2
theorem den_mul_ne (a b : Rat) : a.den * b.den ≠ 0 := Nat.mul_ne_zero a.den_nz b.den_nz
theorem Sm.add {j k : Nat} {a b : Rat} (ha : Sm j a) (hb : Sm k b) : Sm (j + k + 1) (a + b) := by
  rw [Rat.add_def']
  refine Sm.mkRat (add_num_lt ha hb) ?_ (den_mul_ne a b)
  have := den_mul_lt ha hb
  rw [Nat.pow_succ]
  omega
theorem Sm.sub {j k : Nat} {a b : Rat} (ha : Sm j a) (hb : Sm k b) : Sm (j + k + 1) (a - b) := by
  rw [Rat.sub_eq_add_neg]
  exact ha.add hb.neg
theorem Sm.mul {j k : Nat} {a b : Rat} (ha : Sm j a) (hb : Sm k b) : Sm (j + k) (a * b) := by
  rw [Rat.mul_def']
  refine Sm.mkRat ?_ (den_mul_lt ha hb) (den_mul_ne a b)
  rw [Int.natAbs_mul]
  exact mul_lt_pow ha.1 hb.1
theorem Sm.ofInt {k : Nat} {z : Int} (h : z.natAbs < 10 ^ k) (hk : 1 ≤ k) : Sm k (z : Rat) := by
  have hp : 10 ^ 1 ≤ 10 ^ k := Nat.pow_le_pow_right (by omega) hk
  refine ⟨h, ?_⟩
  have : (z : Rat).den = 1 := rfl
  omega
theorem Sm.text {k : Nat} {r : Rat} (h : (ratT r).length ≤ k) : Sm k r := by
  have h1 := lt_intT r.num
  have h2 := lt_natT r.den
  have h3 := List.length_pos_iff.2 (intT_ne r.num)
  unfold ratT at h
  split at h
  · rename_i e
    have hp : 10 ^ (intT r.num).length ≤ 10 ^ k := Nat.pow_le_pow_right (by omega) h
    have hp1 : 10 ^ 1 ≤ 10 ^ k := Nat.pow_le_pow_right (by omega) (by omega)
    exact ⟨by omega, by omega⟩
  · simp only [List.length_append, List.length_cons] at h
    have hp : 10 ^ (intT r.num).length ≤ 10 ^ k := Nat.pow_le_pow_right (by omega) (by omega)
    have hp1 : 10 ^ (natT r.den).length ≤ 10 ^ k := Nat.pow_le_pow_right (by omega) (by omega)
    exact ⟨by omega, by omega⟩
theorem Sm.length {k : Nat} {r : Rat} (h : Sm k r) (hk : 1 ≤ k) : (ratT r).length ≤ 2 * k + 2 := by
  have h1 := intT_length_le h.1 hk
  have h2 := natT_length_le h.2 hk
  unfold ratT
  split
  · omega
  · simp only [List.length_append, List.length_cons]; omega
theorem Sm.int {k : Nat} {r : Rat} (h : Sm k r) (hk : 1 ≤ k) : (intT r.num).length ≤ k + 1 := intT_length_le h.1 hk
theorem Sm.nat {k : Nat} {r : Rat} (h : Sm k r) (hk : 1 ≤ k) : (natT r.den).length ≤ k := natT_length_le h.2 hk

theorem add_same {a b : Rat} (h : a.den = b.den) : a + b = mkRat (a.num + b.num) a.den := by
  rw [Rat.add_def', ← h, ← Int.add_mul, Rat.mkRat_mul_right a.den_nz]
theorem lt_cross (a b : Rat) : a < b ↔ a.num * b.den - b.num * a.den < 0 := by
  rw [Rat.lt_iff]
  omega
theorem eq_cross (a b : Rat) : a = b ↔ a.num * b.den - b.num * a.den = 0 := by
  rw [Rat.eq_iff_mul_eq_mul]
  omega
def cmpR (a b : Rat) : Int := if a < b then -1 else if b < a then 1 else 0
theorem cmpR_lt {a b : Rat} : cmpR a b < 0 ↔ a < b := by
  unfold cmpR
  split
  · simp [*]
  · split <;> simp [*]
theorem cmpR_gt {a b : Rat} : cmpR a b > 0 ↔ b < a := by
  unfold cmpR
  split
  · rename_i h
    have : ¬ b < a := Rat.not_lt.2 (Rat.le_of_lt h)
    simp [this]
  · split <;> simp [*]
theorem cmpR_eq {a b : Rat} : cmpR a b = 0 ↔ a = b := by
  unfold cmpR
  split
  · rename_i h
    have := Rat.ne_of_lt h
    simp [this]
  · rename_i h
    split
    · rename_i h2
      have := Rat.ne_of_gt h2
      simp [this]
    · rename_i h2
      simp
      exact Rat.le_antisymm (Rat.not_lt.1 h2) (Rat.not_lt.1 h)
theorem num_sign (r : Rat) : r.num.sign = cmpR r 0 := by
  have h1 : r < 0 ↔ r.num < 0 := by rw [Rat.lt_iff]; simp
  have h2 : 0 < r ↔ 0 < r.num := by rw [Rat.lt_iff]; simp
  unfold cmpR
  rcases Int.lt_trichotomy r.num 0 with h | h | h
  · rw [if_pos (h1.2 h), Int.sign_eq_neg_one_of_neg h]
  · rw [if_neg (fun k => by have := h1.1 k; omega), if_neg (fun k => by have := h2.1 k; omega), h]; rfl
  · rw [if_neg (fun k => by have := h1.1 k; omega), if_pos (h2.2 h), Int.sign_eq_one_of_pos h]
end Go.Proofs.YtdoailkigecmkaaGreatDoor.B

set_option maxRecDepth 100000
namespace Go.Proofs.YtdoailkigecmkaaGreatDoor.F
open Go Go.RowKit Go.Proofs Go.Proofs.YtdoailkigecmkaaGreatDoor.Vc
noncomputable def garboardref02_Valid.cx (w : World) (B : Nat) (R : Value → World → Prop) : Cx := ⟨Tryz.prog, 74, 20, Tryz.f74.results.toList, [], [], w, B, R⟩
theorem garboardref02_Valid.vc (sp0 : ByteArray) (w : World) (R : Value → World → Prop)
    (h : (((((ByteArray.size sp0 : Int) : Int) > (1 : Int)) → ((0 ≤ (0 : Int) ∧ (0 : Int) < (ByteArray.size sp0 : Int)) ∧ (((((bt sp0 (0 : Int)) : Int) = (45 : Int)) → (((sp0 ≠ (⟨#[45, 48]⟩ : ByteArray)) → ((0 ≤ (1 : Int) ∧ (1 : Int) ≤ (ByteArray.size sp0 : Int)) ∧ (Pure Tryz.prog 75 #[(.string (ByteArray.extract sp0 ((1 : Int)).toNat (ByteArray.size sp0)))] w fun r2 w3 => ∃ (b1 : Bool), r2 = (.bool b1) ∧ (R (.bool b1) w3)))) ∧ (¬ (sp0 ≠ (⟨#[45, 48]⟩ : ByteArray)) → (R (.bool false) w)))) ∧ (¬ (((bt sp0 (0 : Int)) : Int) = (45 : Int)) → (Pure Tryz.prog 75 #[(.string sp0)] w fun r5 w6 => ∃ (b4 : Bool), r5 = (.bool b4) ∧ (R (.bool b4) w6)))))) ∧ (¬ (((ByteArray.size sp0 : Int) : Int) > (1 : Int)) → (Pure Tryz.prog 75 #[(.string sp0)] w fun r8 w9 => ∃ (b7 : Bool), r8 = (.bool b7) ∧ (R (.bool b7) w9))))) :
    Pure Tryz.prog 74 #[(.string sp0)] w R :=
  pure_of_run (garboardref02_Valid.cx w w.heap.size R) 100000 follows Tryz.func74 rfl rfl rfl rfl rfl rfl rfl (Eq.mp (by kernel_rfl) h)

noncomputable def garboardref02_Read.cx (w : World) (B : Nat) (R : Value → World → Prop) : Cx := ⟨Tryz.prog, 76, 13, Tryz.f76.results.toList, [], [], w, B, R⟩
theorem garboardref02_Read.vc (sp0 : ByteArray) (w : World) (R : Value → World → Prop)
    (h : ((0 ≤ (0 : Int) ∧ (0 : Int) < (ByteArray.size sp0 : Int)) ∧ (((((bt sp0 (0 : Int)) : Int) = (45 : Int)) → ((0 ≤ (1 : Int) ∧ (1 : Int) ≤ (ByteArray.size sp0 : Int)) ∧ (∀ w1, Ext w.heap.size [] w w1 → (Pure Tryz.prog 77 #[(.string (ByteArray.extract sp0 ((1 : Int)).toNat (ByteArray.size sp0)))] w1 fun r3 w4 => ∃ (A2 : Option Addr) (n2 c2 : Nat), r3 = (.slice A2 n2 c2) ∧ (∀ w5, Ext w.heap.size [60] w4 w5 → (R (.agg #[(.bool true), (.slice A2 n2 c2)]) w5)))))) ∧ (¬ (((bt sp0 (0 : Int)) : Int) = (45 : Int)) → (∀ w6, Ext w.heap.size [] w w6 → (Pure Tryz.prog 77 #[(.string sp0)] w6 fun r8 w9 => ∃ (A7 : Option Addr) (n7 c7 : Nat), r8 = (.slice A7 n7 c7) ∧ (∀ w10, Ext w.heap.size [60] w9 w10 → (R (.agg #[(.bool false), (.slice A7 n7 c7)]) w10)))))))) :
    Pure Tryz.prog 76 #[(.string sp0)] w R :=
  pure_of_run (garboardref02_Read.cx w w.heap.size R) 100000 follows Tryz.func76 rfl rfl rfl rfl rfl rfl rfl (Eq.mp (by kernel_rfl) h)

noncomputable def garboardref02_Signum.cx (w : World) (B : Nat) (R : Value → World → Prop) : Cx := ⟨Tryz.prog, 80, 9, Tryz.f80.results.toList, [], [], w, B, R⟩
theorem garboardref02_Signum.vc (bp0_0 : Bool) (Ap0_1 : Option Addr) (np0_1 cp0_1 : Nat) (w : World) (R : Value → World → Prop)
    (h : ((bp0_0 = true → (∀ w1, Ext w.heap.size [] w w1 → (R (.int .i64 (-1 : Int)) w1))) ∧ (bp0_0 = false → (((((np0_1 : Int) : Int) > (0 : Int)) → (∀ w2, Ext w.heap.size [] w w2 → (R (.int .i64 (1 : Int)) w2))) ∧ (¬ (((np0_1 : Int) : Int) > (0 : Int)) → (∀ w3, Ext w.heap.size [] w w3 → (R (.int .i64 (0 : Int)) w3))))))) :
    Pure Tryz.prog 80 #[(.agg #[(.bool bp0_0), (.slice Ap0_1 np0_1 cp0_1)])] w R :=
  pure_of_run (garboardref02_Signum.cx w w.heap.size R) 100000 follows Tryz.func80 rfl rfl rfl rfl rfl rfl rfl (Eq.mp (by kernel_rfl) h)

noncomputable def garboardref02_Times.cx (w : World) (B : Nat) (R : Value → World → Prop) : Cx := ⟨Tryz.prog, 83, 16, Tryz.f83.results.toList, [], [], w, B, R⟩
theorem garboardref02_Times.vc (bp0_0 : Bool) (Ap0_1 : Option Addr) (np0_1 cp0_1 : Nat) (bp1_0 : Bool) (Ap1_1 : Option Addr) (np1_1 cp1_1 : Nat) (w : World) (R : Value → World → Prop)
    (h : (∀ w1, Ext w.heap.size [] w w1 → (Pure Tryz.prog 84 #[(.slice Ap0_1 np0_1 cp0_1), (.slice Ap1_1 np1_1 cp1_1)] w1 fun r3 w4 => ∃ (A2 : Option Addr) (n2 c2 : Nat), r3 = (.slice A2 n2 c2) ∧ (Pure Tryz.prog 109 #[(.bool (decide (¬ ((bp0_0 : Bool) = bp1_0)))), (.slice A2 n2 c2)] w4 fun r7 w8 => ∃ (b5 : Bool) (A6 : Option Addr) (n6 c6 : Nat), r7 = (.agg #[(.bool b5), (.slice A6 n6 c6)]) ∧ (∀ w9, Ext w.heap.size [60] w8 w9 → (R (.agg #[(.bool b5), (.slice A6 n6 c6)]) w9)))))) :
    Pure Tryz.prog 83 #[(.agg #[(.bool bp0_0), (.slice Ap0_1 np0_1 cp0_1)]), (.agg #[(.bool bp1_0), (.slice Ap1_1 np1_1 cp1_1)])] w R :=
  pure_of_run (garboardref02_Times.cx w w.heap.size R) 100000 follows Tryz.func83 rfl rfl rfl rfl rfl rfl rfl (Eq.mp (by kernel_rfl) h)

noncomputable def garboardref02_Small.cx (w : World) (B : Nat) (R : Value → World → Prop) : Cx := ⟨Tryz.prog, 85, 14, Tryz.f85.results.toList, [], [], w, B, R⟩
theorem garboardref02_Small.vc (ip0 : Int) (w : World) (R : Value → World → Prop)
    (h : ((((ip0 : Int) < (0 : Int)) → (inR .i64 (-ip0) ∧ (inR .u32 ((-ip0)) ∧ (∀ w1, Ext w.heap.size [] w w1 → (Pure Tryz.prog 78 #[(.int .u32 ((-ip0)))] w1 fun r3 w4 => ∃ (A2 : Option Addr) (n2 c2 : Nat), r3 = (.slice A2 n2 c2) ∧ (Pure Tryz.prog 109 #[(.bool true), (.slice A2 n2 c2)] w4 fun r7 w8 => ∃ (b5 : Bool) (A6 : Option Addr) (n6 c6 : Nat), r7 = (.agg #[(.bool b5), (.slice A6 n6 c6)]) ∧ (∀ w9, Ext w.heap.size [60] w8 w9 → (R (.agg #[(.bool b5), (.slice A6 n6 c6)]) w9)))))))) ∧ (¬ ((ip0 : Int) < (0 : Int)) → (inR .u32 (ip0) ∧ (∀ w10, Ext w.heap.size [] w w10 → (Pure Tryz.prog 78 #[(.int .u32 (ip0))] w10 fun r12 w13 => ∃ (A11 : Option Addr) (n11 c11 : Nat), r12 = (.slice A11 n11 c11) ∧ (Pure Tryz.prog 109 #[(.bool false), (.slice A11 n11 c11)] w13 fun r16 w17 => ∃ (b14 : Bool) (A15 : Option Addr) (n15 c15 : Nat), r16 = (.agg #[(.bool b14), (.slice A15 n15 c15)]) ∧ (∀ w18, Ext w.heap.size [60] w17 w18 → (R (.agg #[(.bool b14), (.slice A15 n15 c15)]) w18))))))))) :
    Pure Tryz.prog 85 #[(.int .i64 ip0)] w R :=
  pure_of_run (garboardref02_Small.cx w w.heap.size R) 100000 follows Tryz.func85 rfl rfl rfl rfl rfl rfl rfl (Eq.mp (by kernel_rfl) h)

noncomputable def garboardref02_Opposite.cx (w : World) (B : Nat) (R : Value → World → Prop) : Cx := ⟨Tryz.prog, 88, 9, Tryz.f88.results.toList, [], [], w, B, R⟩
theorem garboardref02_Opposite.vc (bp0_0 : Bool) (Ap0_1 : Option Addr) (np0_1 cp0_1 : Nat) (w : World) (R : Value → World → Prop)
    (h : (∀ w1, Ext w.heap.size [] w w1 → (Pure Tryz.prog 109 #[(.bool (decide (bp0_0 = false))), (.slice Ap0_1 np0_1 cp0_1)] w1 fun r4 w5 => ∃ (b2 : Bool) (A3 : Option Addr) (n3 c3 : Nat), r4 = (.agg #[(.bool b2), (.slice A3 n3 c3)]) ∧ (∀ w6, Ext w.heap.size [60] w5 w6 → (R (.agg #[(.bool b2), (.slice A3 n3 c3)]) w6))))) :
    Pure Tryz.prog 88 #[(.agg #[(.bool bp0_0), (.slice Ap0_1 np0_1 cp0_1)])] w R :=
  pure_of_run (garboardref02_Opposite.cx w w.heap.size R) 100000 follows Tryz.func88 rfl rfl rfl rfl rfl rfl rfl (Eq.mp (by kernel_rfl) h)

noncomputable def garboardref02_To.cx (w : World) (B : Nat) (R : Value → World → Prop) : Cx := ⟨Tryz.prog, 92, 12, Tryz.f92.results.toList, [], [], w, B, R⟩
theorem garboardref02_To.vc (bp0_0 : Bool) (Ap0_1 : Option Addr) (np0_1 cp0_1 : Nat) (w : World) (R : Value → World → Prop)
    (h : ((bp0_0 = true → (∀ w1, Ext w.heap.size [] w w1 → (Pure Tryz.prog 93 #[(.slice Ap0_1 np0_1 cp0_1)] w1 fun r3 w4 => ∃ (s2 : ByteArray), r3 = (.string s2) ∧ (ByteArray.size (⟨#[45]⟩ : ByteArray) + ByteArray.size s2 ≤ 9223372036854775807 ∧ (R (.string ((⟨#[45]⟩ : ByteArray) ++ s2)) w4))))) ∧ (bp0_0 = false → (∀ w5, Ext w.heap.size [] w w5 → (Pure Tryz.prog 93 #[(.slice Ap0_1 np0_1 cp0_1)] w5 fun r7 w8 => ∃ (s6 : ByteArray), r7 = (.string s6) ∧ (R (.string s6) w8)))))) :
    Pure Tryz.prog 92 #[(.agg #[(.bool bp0_0), (.slice Ap0_1 np0_1 cp0_1)])] w R :=
  pure_of_run (garboardref02_To.cx w w.heap.size R) 100000 follows Tryz.func92 rfl rfl rfl rfl rfl rfl rfl (Eq.mp (by kernel_rfl) h)

noncomputable def garboardref02_Make.cx (w : World) (B : Nat) (R : Value → World → Prop) : Cx := ⟨Tryz.prog, 109, 13, Tryz.f109.results.toList, [], [], w, B, R⟩
theorem garboardref02_Make.vc (bp0 : Bool) (Ap1 : Option Addr) (np1 cp1 : Nat) (w : World) (R : Value → World → Prop)
    (h : ((bp0 = true → (∀ w1, Ext w.heap.size [] w w1 → (R (.agg #[(.bool (decide (((np1 : Int) : Int) > (0 : Int)))), (.slice Ap1 np1 cp1)]) w1))) ∧ (bp0 = false → (∀ w2, Ext w.heap.size [] w w2 → (R (.agg #[(.bool false), (.slice Ap1 np1 cp1)]) w2))))) :
    Pure Tryz.prog 109 #[(.bool bp0), (.slice Ap1 np1 cp1)] w R :=
  pure_of_run (garboardref02_Make.cx w w.heap.size R) 100000 follows Tryz.func109 rfl rfl rfl rfl rfl rfl rfl (Eq.mp (by kernel_rfl) h)

noncomputable def garboardref02_Plus.cx (w : World) (B : Nat) (R : Value → World → Prop) : Cx := ⟨Tryz.prog, 110, 40, Tryz.f110.results.toList, [], [], w, B, R⟩
theorem garboardref02_Plus.vc (bp0_0 : Bool) (Ap0_1 : Option Addr) (np0_1 cp0_1 : Nat) (bp1_0 : Bool) (Ap1_1 : Option Addr) (np1_1 cp1_1 : Nat) (w : World) (R : Value → World → Prop)
    (h : ((((bp0_0 : Bool) = bp1_0) → (∀ w1, Ext w.heap.size [] w w1 → (Pure Tryz.prog 126 #[(.slice Ap0_1 np0_1 cp0_1), (.slice Ap1_1 np1_1 cp1_1)] w1 fun r3 w4 => ∃ (A2 : Option Addr) (n2 c2 : Nat), r3 = (.slice A2 n2 c2) ∧ (Pure Tryz.prog 109 #[(.bool bp0_0), (.slice A2 n2 c2)] w4 fun r7 w8 => ∃ (b5 : Bool) (A6 : Option Addr) (n6 c6 : Nat), r7 = (.agg #[(.bool b5), (.slice A6 n6 c6)]) ∧ (∀ w9, Ext w.heap.size [60] w8 w9 → (R (.agg #[(.bool b5), (.slice A6 n6 c6)]) w9)))))) ∧ (¬ ((bp0_0 : Bool) = bp1_0) → (∀ w10, Ext w.heap.size [] w w10 → (Pure Tryz.prog 79 #[(.slice Ap0_1 np0_1 cp0_1), (.slice Ap1_1 np1_1 cp1_1)] w10 fun r12 w13 => ∃ (i11 : Int), r12 = (.int .i64 i11) ∧ ((((i11 : Int) ≥ (0 : Int)) → (∀ w14, Ext w.heap.size [] w13 w14 → (Pure Tryz.prog 127 #[(.slice Ap0_1 np0_1 cp0_1), (.slice Ap1_1 np1_1 cp1_1)] w14 fun r16 w17 => ∃ (A15 : Option Addr) (n15 c15 : Nat), r16 = (.slice A15 n15 c15) ∧ (Pure Tryz.prog 109 #[(.bool bp0_0), (.slice A15 n15 c15)] w17 fun r20 w21 => ∃ (b18 : Bool) (A19 : Option Addr) (n19 c19 : Nat), r20 = (.agg #[(.bool b18), (.slice A19 n19 c19)]) ∧ (∀ w22, Ext w.heap.size [60] w21 w22 → (R (.agg #[(.bool b18), (.slice A19 n19 c19)]) w22)))))) ∧ (¬ ((i11 : Int) ≥ (0 : Int)) → (∀ w23, Ext w.heap.size [] w13 w23 → (Pure Tryz.prog 127 #[(.slice Ap1_1 np1_1 cp1_1), (.slice Ap0_1 np0_1 cp0_1)] w23 fun r25 w26 => ∃ (A24 : Option Addr) (n24 c24 : Nat), r25 = (.slice A24 n24 c24) ∧ (Pure Tryz.prog 109 #[(.bool bp1_0), (.slice A24 n24 c24)] w26 fun r29 w30 => ∃ (b27 : Bool) (A28 : Option Addr) (n28 c28 : Nat), r29 = (.agg #[(.bool b27), (.slice A28 n28 c28)]) ∧ (∀ w31, Ext w.heap.size [60] w30 w31 → (R (.agg #[(.bool b27), (.slice A28 n28 c28)]) w31)))))))))))) :
    Pure Tryz.prog 110 #[(.agg #[(.bool bp0_0), (.slice Ap0_1 np0_1 cp0_1)]), (.agg #[(.bool bp1_0), (.slice Ap1_1 np1_1 cp1_1)])] w R :=
  pure_of_run (garboardref02_Plus.cx w w.heap.size R) 100000 follows Tryz.func110 rfl rfl rfl rfl rfl rfl rfl (Eq.mp (by kernel_rfl) h)

noncomputable def garboardref02_Cmp.cx (w : World) (B : Nat) (R : Value → World → Prop) : Cx := ⟨Tryz.prog, 111, 9, Tryz.f111.results.toList, [], [], w, B, R⟩
theorem garboardref02_Cmp.vc (bp0_0 : Bool) (Ap0_1 : Option Addr) (np0_1 cp0_1 : Nat) (bp1_0 : Bool) (Ap1_1 : Option Addr) (np1_1 cp1_1 : Nat) (w : World) (R : Value → World → Prop)
    (h : (∀ w1, Ext w.heap.size [] w w1 → (Pure Tryz.prog 128 #[(.agg #[(.bool bp0_0), (.slice Ap0_1 np0_1 cp0_1)]), (.agg #[(.bool bp1_0), (.slice Ap1_1 np1_1 cp1_1)])] w1 fun r4 w5 => ∃ (b2 : Bool) (A3 : Option Addr) (n3 c3 : Nat), r4 = (.agg #[(.bool b2), (.slice A3 n3 c3)]) ∧ (Pure Tryz.prog 80 #[(.agg #[(.bool b2), (.slice A3 n3 c3)])] w5 fun r7 w8 => ∃ (i6 : Int), r7 = (.int .i64 i6) ∧ (R (.int .i64 i6) w8))))) :
    Pure Tryz.prog 111 #[(.agg #[(.bool bp0_0), (.slice Ap0_1 np0_1 cp0_1)]), (.agg #[(.bool bp1_0), (.slice Ap1_1 np1_1 cp1_1)])] w R :=
  pure_of_run (garboardref02_Cmp.cx w w.heap.size R) 100000 follows Tryz.func111 rfl rfl rfl rfl rfl rfl rfl (Eq.mp (by kernel_rfl) h)

noncomputable def garboardref02_Minus.cx (w : World) (B : Nat) (R : Value → World → Prop) : Cx := ⟨Tryz.prog, 128, 9, Tryz.f128.results.toList, [], [], w, B, R⟩
theorem garboardref02_Minus.vc (bp0_0 : Bool) (Ap0_1 : Option Addr) (np0_1 cp0_1 : Nat) (bp1_0 : Bool) (Ap1_1 : Option Addr) (np1_1 cp1_1 : Nat) (w : World) (R : Value → World → Prop)
    (h : (∀ w1, Ext w.heap.size [] w w1 → (Pure Tryz.prog 88 #[(.agg #[(.bool bp1_0), (.slice Ap1_1 np1_1 cp1_1)])] w1 fun r4 w5 => ∃ (b2 : Bool) (A3 : Option Addr) (n3 c3 : Nat), r4 = (.agg #[(.bool b2), (.slice A3 n3 c3)]) ∧ (Pure Tryz.prog 110 #[(.agg #[(.bool bp0_0), (.slice Ap0_1 np0_1 cp0_1)]), (.agg #[(.bool b2), (.slice A3 n3 c3)])] w5 fun r8 w9 => ∃ (b6 : Bool) (A7 : Option Addr) (n7 c7 : Nat), r8 = (.agg #[(.bool b6), (.slice A7 n7 c7)]) ∧ (∀ w10, Ext w.heap.size [60] w9 w10 → (R (.agg #[(.bool b6), (.slice A7 n7 c7)]) w10)))))) :
    Pure Tryz.prog 128 #[(.agg #[(.bool bp0_0), (.slice Ap0_1 np0_1 cp0_1)]), (.agg #[(.bool bp1_0), (.slice Ap1_1 np1_1 cp1_1)])] w R :=
  pure_of_run (garboardref02_Minus.cx w w.heap.size R) 100000 follows Tryz.func128 rfl rfl rfl rfl rfl rfl rfl (Eq.mp (by kernel_rfl) h)

end Go.Proofs.YtdoailkigecmkaaGreatDoor.F

namespace Go.Proofs.YtdoailkigecmkaaGreatDoor.B
open Go Go.RowKit Go.Proofs Go.Proofs.YtdoailkigecmkaaGreatDoor.Vc

theorem IsN.lt2 {w : World} {A : Option Addr} {n c x : Nat} (h : IsN w A n c x) (hn : n ≤ 2) : x < 1000000000000000000 := by
  obtain ⟨ws, _, hl, _, _, hs, _, rfl⟩ := h
  have h1 := wv_lt hs
  have h2 : 1000000000 ^ ws.length ≤ 1000000000 ^ 2 := Nat.pow_le_pow_right (by omega) (by omega)
  omega
theorem common_L4 {B g : Nat} {R : Value → World → Prop} (hR : ∀ A n c w, IsN w A n c g → R (.slice A n c) w) :
    ∀ (y x : Nat) (w : World), x < 1000000000000000000 → y < 1000000000000000000 → Nat.gcd x y = g → F.garboardref01_Common.L4 x y B w R := by
  intro y
  induction y using Nat.strongRecOn with
  | _ y ih =>
    intro x w hx hy hg
    refine F.garboardref01_Common.L4.step _ _ _ _ _ ⟨fun h => ⟨⟨by omega, by omega⟩, fun w2 _ => ?_⟩, fun h => ?_⟩
    · have hy0 : 0 < y := by omega
      have hm := Nat.mod_lt x hy0
      have e : (x : Int) % (y : Int) = ((x % y : Nat) : Int) := by simp
      rw [e]
      refine ih (x % y) hm y w2 hy (by omega) ?_
      rw [← hg, Nat.gcd_comm x y, Nat.gcd_rec y x, Nat.gcd_comm]
    · have hy0 : y = 0 := by omega
      subst hy0
      rw [Nat.gcd_zero_right] at hg
      subst hg
      refine Pure.mono (ref_wide hx) ?_
      rintro v w3 _ ⟨A, n, c, rfl, k⟩
      exact ⟨_, _, _, rfl, hR _ _ _ _ k⟩
theorem common_L1 {B g : Nat} {R : Value → World → Prop} (hR : ∀ A n c w, IsN w A n c g → R (.slice A n c) w) :
    ∀ (y x : Nat) (w : World) (A0 A1 : Option Addr) (n0 c0 n1 c1 : Nat), IsN w A0 n0 c0 x → IsN w A1 n1 c1 y → x < Lim → y < Lim → Nat.gcd x y = g → F.garboardref01_Common.L1 A0 n0 c0 A1 n1 c1 B w R := by
  intro y
  induction y using Nat.strongRecOn with
  | _ y ih =>
    intro x w A0 A1 n0 c0 n1 c1 ha hb hx hy hg
    have hp := hb.pos_len
    have over : 0 < n1 → Pure Tryz.prog 108 #[.slice A0 n0 c0, .slice A1 n1 c1] w fun r9 w10 => ∃ (A7 : Option Addr) (n7 c7 : Nat) (A8 : Option Addr) (n8 c8 : Nat), r9 = (.tuple #[(.slice A7 n7 c7), (.slice A8 n8 c8)]) ∧ (F.garboardref01_Common.L1 A1 n1 c1 A8 n8 c8 B w10 R) := fun h => by
      have hy0 : y ≠ 0 := hp.1 h
      have hm := Nat.mod_lt x (show 0 < y by omega)
      refine Pure.mono (ref_Over ha hb hx hy hy0) ?_
      rintro v w2 b2 ⟨A, n, c, A', n', c', rfl, _, k⟩
      refine ⟨_, _, _, _, _, _, rfl, ih (x % y) hm y w2 _ _ _ _ _ _ (hb.below b2) k hy (by omega) ?_⟩
      rw [← hg, Nat.gcd_comm x y, Nat.gcd_rec y x, Nat.gcd_comm]
    refine F.garboardref01_Common.L1.step _ _ _ _ _ _ _ _ _ ⟨fun h => ⟨fun h0 => ⟨fun h1 => ?_, fun _ => over (by omega)⟩, fun _ => over (by omega)⟩, fun h => ?_⟩
    · refine Pure.mono (ref_word ha (by omega)) ?_
      rintro v w2 b2 rfl
      refine ⟨_, rfl, Pure.mono (ref_word (hb.below b2) (by omega)) ?_⟩
      rintro v w3 b3 rfl
      exact ⟨_, rfl, common_L4 hR y x w3 (ha.lt2 (by omega)) (hb.lt2 (by omega)) hg⟩
    · have hy0 : y = 0 := by
        apply Decidable.byContradiction
        intro k
        have := hp.2 k
        omega
      subst hy0
      rw [Nat.gcd_zero_right] at hg
      subst hg
      exact hR _ _ _ _ ha
theorem ref_Common {w : World} {A0 A1 : Option Addr} {n0 c0 n1 c1 x y : Nat} (ha : IsN w A0 n0 c0 x) (hb : IsN w A1 n1 c1 y) (hx : x < Lim) (hy : y < Lim) :
    Pure Tryz.prog 81 #[.slice A0 n0 c0, .slice A1 n1 c1] w fun v w' => ∃ A n c, v = .slice A n c ∧ IsN w' A n c (Nat.gcd x y) :=
  F.garboardref01_Common.vc _ _ _ _ _ _ _ _ (common_L1 (fun A n c w k => ⟨A, n, c, rfl, k⟩) y x w _ _ _ _ _ _ ha hb hx hy rfl)

def IsZ (w : World) (b : Bool) (A : Option Addr) (n c : Nat) (z : Int) : Prop := b = decide (z < 0) ∧ IsN w A n c z.natAbs
theorem IsZ.below {w w' : World} {b : Bool} {A : Option Addr} {n c : Nat} {z : Int} (h : IsZ w b A n c z) (hb : Below w.heap.size w w') : IsZ w' b A n c z := ⟨h.1, h.2.below hb⟩
theorem IsZ.ext {w w' : World} {B : Nat} {ts : List Nat} {b : Bool} {A : Option Addr} {n c : Nat} {z : Int} (h : IsZ w b A n c z) (e : Ext B ts w w') (ht : 106 ∉ ts) : IsZ w' b A n c z := ⟨h.1, h.2.ext e ht⟩
abbrev ZR (z : Int) (v : Value) (w : World) : Prop := ∃ b A n c, v = .agg #[.bool b, .slice A n c] ∧ IsZ w b A n c z

theorem ref2_Make {w : World} (b : Bool) {A : Option Addr} {n c x : Nat} (h : IsN w A n c x) : Pure Tryz.prog 109 #[.bool b, .slice A n c] w (ZR (if b then -(x : Int) else x)) := by
  have hp := h.pos_len
  refine F.garboardref02_Make.vc _ _ _ _ _ _ ⟨fun hb w2 x2 => ⟨_, _, _, _, rfl, ?_, ?_⟩, fun hb w2 x2 => ⟨_, _, _, _, rfl, ?_, ?_⟩⟩
  · rw [hb, if_pos rfl, decide_eq_decide]
    omega
  · rw [hb, if_pos rfl, Int.natAbs_neg, Int.natAbs_natCast]
    exact h.ext x2 (by decide)
  · rw [hb, if_neg (by decide)]
    symm
    exact decide_eq_false (by omega)
  · rw [hb, if_neg (by decide), Int.natAbs_natCast]
    exact h.ext x2 (by decide)
theorem ref2_Opposite {w : World} {b : Bool} {A : Option Addr} {n c : Nat} {z : Int} (h : IsZ w b A n c z) : Pure Tryz.prog 88 #[.agg #[.bool b, .slice A n c]] w (ZR (-z)) := by
  obtain ⟨rfl, k⟩ := h
  refine F.garboardref02_Opposite.vc _ _ _ _ _ _ fun w1 x1 => Pure.mono (ref2_Make _ (k.ext x1 (by decide))) ?_
  rintro v w2 b2 ⟨b, A, n, c, rfl, q⟩
  refine ⟨_, _, _, _, rfl, fun w3 x3 => ⟨_, _, _, _, rfl, ?_⟩⟩
  have e : (if decide (decide (z < 0) = false) = true then -(z.natAbs : Int) else (z.natAbs : Int)) = -z := by
    by_cases hz : z < 0
    · rw [if_neg (by simp [hz])]; omega
    · rw [if_pos (by simp [hz])]; omega
  rw [e] at q
  exact q.ext x3 (by decide)
def sgn (z : Int) : Int := if z < 0 then -1 else if 0 < z then 1 else 0
theorem ref2_Signum {w : World} {b : Bool} {A : Option Addr} {n c : Nat} {z : Int} (h : IsZ w b A n c z) : Pure Tryz.prog 80 #[.agg #[.bool b, .slice A n c]] w fun v _ => v = .int .i64 (sgn z) := by
  obtain ⟨rfl, k⟩ := h
  have hp := k.pos_len
  unfold sgn
  refine F.garboardref02_Signum.vc _ _ _ _ _ _ ⟨fun hb w2 _ => ?_, fun hb => ⟨fun h w2 _ => ?_, fun h w2 _ => ?_⟩⟩
  · rw [if_pos (of_decide_eq_true hb)]
  · have hz : ¬ z < 0 := of_decide_eq_false hb
    rw [if_neg hz, if_pos (by omega)]
  · have hz : ¬ z < 0 := of_decide_eq_false hb
    rw [if_neg hz, if_neg (by omega)]
theorem ref2_Plus {w : World} {b0 b1 : Bool} {A0 A1 : Option Addr} {n0 c0 n1 c1 : Nat} {x y : Int} (hx : IsZ w b0 A0 n0 c0 x) (hy : IsZ w b1 A1 n1 c1 y) (lx : x.natAbs < Lim) (ly : y.natAbs < Lim) :
    Pure Tryz.prog 110 #[.agg #[.bool b0, .slice A0 n0 c0], .agg #[.bool b1, .slice A1 n1 c1]] w (ZR (x + y)) := by
  obtain ⟨rfl, kx⟩ := hx
  obtain ⟨rfl, ky⟩ := hy
  have made : ∀ (b : Bool) (t : Nat) (w1 : World) (A : Option Addr) (n c : Nat), IsN w1 A n c t → (if b then -(t : Int) else (t : Int)) = x + y → Pure Tryz.prog 109 #[.bool b, .slice A n c] w1 fun r7 w8 => ∃ (b5 : Bool) (A6 : Option Addr) (n6 c6 : Nat), r7 = (.agg #[(.bool b5), (.slice A6 n6 c6)]) ∧ (∀ w9, Ext w.heap.size [60] w8 w9 → ZR (x + y) (.agg #[(.bool b5), (.slice A6 n6 c6)]) w9) := by
    intro b t w1 A n c k e
    refine Pure.mono (ref2_Make b k) ?_
    rintro v w2 b2 ⟨b', A', n', c', rfl, q⟩
    rw [e] at q
    exact ⟨_, _, _, _, rfl, fun w3 x3 => ⟨_, _, _, _, rfl, q.ext x3 (by decide)⟩⟩
  refine F.garboardref02_Plus.vc _ _ _ _ _ _ _ _ _ _ ⟨fun h w1 x1 => ?_, fun h w1 x1 => ?_⟩
  · refine Pure.mono (ref_Plus (kx.ext x1 (by decide)) (ky.ext x1 (by decide)) lx ly) ?_
    rintro v w2 b2 ⟨A, n, c, rfl, k⟩
    refine ⟨_, _, _, rfl, made _ _ _ _ _ _ k ?_⟩
    have h' : (x < 0 ↔ y < 0) := by simpa using h
    by_cases hz : x < 0
    · rw [if_pos (decide_eq_true hz)]; omega
    · rw [if_neg (by simp [hz])]; omega
  have h' : ¬ (x < 0 ↔ y < 0) := by simpa using h
  refine Pure.mono (ref_Cmp (kx.ext x1 (by decide)) (ky.ext x1 (by decide)) lx ly) ?_
  rintro v w2 b2 rfl
  have kx2 := (kx.ext x1 (by decide)).below b2
  have ky2 := (ky.ext x1 (by decide)).below b2
  refine ⟨_, rfl, fun hc w3 x3 => ?_, fun hc w3 x3 => ?_⟩
  · have hle : y.natAbs ≤ x.natAbs := by
      simp only [cmpI] at hc
      split at hc <;> omega
    refine Pure.mono (ref_Minus (kx2.ext x3 (by decide)) (ky2.ext x3 (by decide)) lx hle) ?_
    rintro v w4 b4 ⟨A, n, c, rfl, k⟩
    refine ⟨_, _, _, rfl, made _ _ _ _ _ _ k ?_⟩
    by_cases hz : x < 0
    · rw [if_pos (decide_eq_true hz)]; omega
    · rw [if_neg (by simp [hz])]; omega
  · have hle : x.natAbs ≤ y.natAbs := by
      simp only [cmpI] at hc
      split at hc
      · omega
      · split at hc <;> omega
    refine Pure.mono (ref_Minus (ky2.ext x3 (by decide)) (kx2.ext x3 (by decide)) ly hle) ?_
    rintro v w4 b4 ⟨A, n, c, rfl, k⟩
    refine ⟨_, _, _, rfl, made _ _ _ _ _ _ k ?_⟩
    by_cases hz : y < 0
    · rw [if_pos (decide_eq_true hz)]; omega
    · rw [if_neg (by simp [hz])]; omega
theorem ref2_Minus {w : World} {b0 b1 : Bool} {A0 A1 : Option Addr} {n0 c0 n1 c1 : Nat} {x y : Int} (hx : IsZ w b0 A0 n0 c0 x) (hy : IsZ w b1 A1 n1 c1 y) (lx : x.natAbs < Lim) (ly : y.natAbs < Lim) :
    Pure Tryz.prog 128 #[.agg #[.bool b0, .slice A0 n0 c0], .agg #[.bool b1, .slice A1 n1 c1]] w (ZR (x - y)) := by
  refine F.garboardref02_Minus.vc _ _ _ _ _ _ _ _ _ _ fun w1 x1 => Pure.mono (ref2_Opposite (hy.ext x1 (by decide))) ?_
  rintro v w2 b2 ⟨b, A, n, c, rfl, k⟩
  refine ⟨_, _, _, _, rfl, Pure.mono (ref2_Plus ((hx.ext x1 (by decide)).below b2) k lx (by rw [Int.natAbs_neg]; exact ly)) ?_⟩
  rintro v w3 b3 ⟨b, A, n, c, rfl, k⟩
  refine ⟨_, _, _, _, rfl, fun w4 x4 => ⟨_, _, _, _, rfl, ?_⟩⟩
  have e : x + -y = x - y := by omega
  rw [e] at k
  exact k.ext x4 (by decide)
theorem ref2_Times {w : World} {b0 b1 : Bool} {A0 A1 : Option Addr} {n0 c0 n1 c1 : Nat} {x y : Int} (hx : IsZ w b0 A0 n0 c0 x) (hy : IsZ w b1 A1 n1 c1 y) (lx : x.natAbs < Lim) (ly : y.natAbs < Lim) :
    Pure Tryz.prog 83 #[.agg #[.bool b0, .slice A0 n0 c0], .agg #[.bool b1, .slice A1 n1 c1]] w (ZR (x * y)) := by
  obtain ⟨rfl, kx⟩ := hx
  obtain ⟨rfl, ky⟩ := hy
  refine F.garboardref02_Times.vc _ _ _ _ _ _ _ _ _ _ fun w1 x1 => Pure.mono (ref_Times (kx.ext x1 (by decide)) (ky.ext x1 (by decide)) lx ly) ?_
  rintro v w2 b2 ⟨A, n, c, rfl, k, _⟩
  refine ⟨_, _, _, rfl, Pure.mono (ref2_Make _ k) ?_⟩
  rintro v w3 b3 ⟨b, A, n, c, rfl, k⟩
  refine ⟨_, _, _, _, rfl, fun w4 x4 => ⟨_, _, _, _, rfl, ?_⟩⟩
  have e : (if decide (¬ (decide (x < 0) = decide (y < 0))) = true then -((x.natAbs * y.natAbs : Nat) : Int) else ((x.natAbs * y.natAbs : Nat) : Int)) = x * y := by
    rw [← Int.natAbs_mul]
    by_cases h1 : x < 0 <;> by_cases h2 : y < 0
    · rw [if_neg (by simp [h1, h2])]
      have := Int.mul_nonneg (show 0 ≤ -x by omega) (show 0 ≤ -y by omega)
      rw [Int.neg_mul_neg] at this
      omega
    · rw [if_pos (by simp [h1, h2])]
      have : x * y ≤ 0 := Int.mul_nonpos_of_nonpos_of_nonneg (by omega) (by omega)
      omega
    · rw [if_pos (by simp [h1, h2])]
      have : x * y ≤ 0 := Int.mul_nonpos_of_nonneg_of_nonpos (by omega) (by omega)
      omega
    · rw [if_neg (by simp [h1, h2])]
      have : 0 ≤ x * y := Int.mul_nonneg (by omega) (by omega)
      omega
  rw [e] at k
  exact k.ext x4 (by decide)
theorem ref2_Cmp {w : World} {b0 b1 : Bool} {A0 A1 : Option Addr} {n0 c0 n1 c1 : Nat} {x y : Int} (hx : IsZ w b0 A0 n0 c0 x) (hy : IsZ w b1 A1 n1 c1 y) (lx : x.natAbs < Lim) (ly : y.natAbs < Lim) :
    Pure Tryz.prog 111 #[.agg #[.bool b0, .slice A0 n0 c0], .agg #[.bool b1, .slice A1 n1 c1]] w fun v _ => v = .int .i64 (sgn (x - y)) := by
  refine F.garboardref02_Cmp.vc _ _ _ _ _ _ _ _ _ _ fun w1 x1 => Pure.mono (ref2_Minus (hx.ext x1 (by decide)) (hy.ext x1 (by decide)) lx ly) ?_
  rintro v w2 b2 ⟨b, A, n, c, rfl, k⟩
  refine ⟨_, _, _, _, rfl, Pure.mono (ref2_Signum k) ?_⟩
  rintro v w3 _ rfl
  exact ⟨_, rfl, rfl⟩
theorem ref2_Small {w : World} {z : Int} (h : z.natAbs < 4294967296) : Pure Tryz.prog 85 #[.int .i64 z] w (ZR z) := by
  have fin : ∀ (b : Bool) (t : Nat) (w1 : World) (A : Option Addr) (n c : Nat), IsN w1 A n c t → (if b then -(t : Int) else (t : Int)) = z → Pure Tryz.prog 109 #[.bool b, .slice A n c] w1 fun r7 w8 => ∃ (b5 : Bool) (A6 : Option Addr) (n6 c6 : Nat), r7 = (.agg #[(.bool b5), (.slice A6 n6 c6)]) ∧ (∀ w9, Ext w.heap.size [60] w8 w9 → ZR z (.agg #[(.bool b5), (.slice A6 n6 c6)]) w9) := by
    intro b t w1 A n c k e
    refine Pure.mono (ref2_Make b k) ?_
    rintro v w2 b2 ⟨b', A', n', c', rfl, q⟩
    rw [e] at q
    exact ⟨_, _, _, _, rfl, fun w3 x3 => ⟨_, _, _, _, rfl, q.ext x3 (by decide)⟩⟩
  refine F.garboardref02_Small.vc _ _ _ ⟨fun h0 => ⟨by simp only [inR]; omega, by simp only [inR]; omega, fun w1 x1 => ?_⟩, fun h0 => ⟨by simp only [inR]; omega, fun w1 x1 => ?_⟩⟩
  · have e : -z = (z.natAbs : Int) := by omega
    rw [e]
    refine Pure.mono (ref_Small (x := z.natAbs) h) ?_
    rintro v w2 b2 ⟨A, n, c, rfl, k⟩
    exact ⟨_, _, _, rfl, fin true _ _ _ _ _ k (by rw [if_pos rfl]; omega)⟩
  · have e : z = (z.natAbs : Int) := by omega
    rw [e]
    refine Pure.mono (ref_Small (x := z.natAbs) h) ?_
    rintro v w2 b2 ⟨A, n, c, rfl, k⟩
    rw [← e]
    exact ⟨_, _, _, rfl, fin false _ _ _ _ _ k (by rw [if_neg (by decide)]; omega)⟩
end Go.Proofs.YtdoailkigecmkaaGreatDoor.B

namespace Go.Proofs.YtdoailkigecmkaaGreatDoor.B
open Go Go.RowKit Go.Shelf Go.Proofs Go.Proofs.YtdoailkigecmkaaGreatDoor.Vc
attribute [local go_sem] Oper.semAt_some

def CK (b : Nat) (W W' : World) : Prop := ∀ (k : Nat) (cs : Array Value) (ty : Nat) (fz : Nat × Nat), W.heap[k]? = some (.cells cs ty fz) → k ≠ b → ty ≠ 5 → W'.heap[k]? = some (.cells cs ty fz)
theorem CK.refl (b : Nat) (W : World) : CK b W W := fun _ _ _ _ h _ _ => h
theorem CK.trans {b : Nat} {W1 W2 W3 : World} (h : CK b W1 W2) (k : CK b W2 W3) : CK b W1 W3 := fun i cs ty fz h0 h1 h2 => k i cs ty fz (h i cs ty fz h0 h1 h2) h1 h2
theorem CK.putObj {b : Nat} (W : World) (l : Nat) (o o' : Obj) (h : W.heap[l]? = some o) (hc : o.isCells = false) : CK b W (W.putObj l o') := by
  intro k cs ty fz h0 _ _
  rw [World.putObj_heap_other]
  · exact h0
  · intro e
    subst e
    rw [h] at h0
    cases h0
    simp [Obj.isCells] at hc

abbrev PW := Nat × { x : Nat // x < 1000000000 }
abbrev encPW (p : PW) : Array Value := #[.int .i64 (p.1 : Int), .int .u32 (p.2.1 : Int)]
def gPW (ws : List Nat) (hs : Small ws) (j : Nat) : PW := (j, ⟨ws.getD j 0, hs.getD j⟩)
def cameP (ws : List Nat) (hs : Small ws) (m : Nat) : List PW := (List.range (ws.length - m)).map fun t => gPW ws hs (ws.length - 1 - t)
theorem cameP_step (ws : List Nat) (hs : Small ws) {j : Nat} (h : j < ws.length) : cameP ws hs j = cameP ws hs (j + 1) ++ [gPW ws hs j] := by
  unfold cameP
  rw [show ws.length - j = (ws.length - (j + 1)) + 1 by omega, List.range_succ, List.map_append]
  simp
  congr 1
  omega
theorem cameP_all (ws : List Nat) (hs : Small ws) : cameP ws hs ws.length = [] := by simp [cameP]
theorem cameP_length (ws : List Nat) (hs : Small ws) (m : Nat) : (cameP ws hs m).length = ws.length - m := by simp [cameP]

set_option maxRecDepth 100000 in
set_option maxHeartbeats 2000000 in
theorem back_in (F : Fence) (n : Nat) (h9 : F.fn 209) (hro : F.round = none) (hn : 1 ≤ n) (l Bs b wb off cap : Nat) (hBs : Bs ≠ b) (hwb : wb ≠ b) (ws : List Nat) (hs : Small ws) (hlen : ws.length ≤ 1000000) (J Jx : List PW → World → Prop)
    (hY : ∀ pre x W, J pre W → pre.length < ws.length → YieldAt F (n - 1) Tryz.prog l (encPW x) W fun e W' =>
      (e = .returned (.bool true) ∧ J (pre ++ [x]) W' ∧ CK b W W') ∨ (e = .returned (.bool false) ∧ Jx (pre ++ [x]) W'))
    (W : World) (A : Option Addr) (hA : A = some ⟨wb, off, none⟩) (hBc : W.heap[Bs]? = some (.cells #[.slice A ws.length cap] 176 (0, 0))) (all : Array Value) (fr : Nat × Nat) (hw : W.heap[wb]? = some (.cells all 106 fr))
    (hc : ∀ j, j < ws.length → all[off + j]? = some (.int .u32 (ws.getD j 0 : Nat))) (h0 : J [] W) :
    CallsIn F n Tryz.prog 209 #[.func (.yield l) #[] #[], .pointer (some ⟨Bs, 0, none⟩)] W fun e W' => (∃ v, e = .returned v) ∧
      ((∃ ys, ys = cameP ws hs 0 ∧ J ys W') ∨ (∃ pre, True ∧ Jx pre W')) := by
  refine callsIn_of_wp Tryz.func209 rfl h9 ?_ hro
  simp only [Tryz.ntmps209, List.size_toArray, List.length_cons, List.length_nil, Nat.reduceAdd, Nat.reduceSub, Array.replicate_succ, Array.replicate_zero, List.push_toArray, List.append_toArray, List.nil_append, List.cons_append]
  subst hA
  have cellBs : ∀ wr, CK b W wr → wr.cell? ⟨Bs, 0, none⟩ = some (.slice (some ⟨wb, off, none⟩) ws.length cap) := fun wr hk => by
    have := hk _ _ _ _ hBc hBs (by decide)
    simp [World.cell?, this]
  have hcx0 := cellBs W (CK.refl _ _)
  gi_wp2
  gi_loopw [3] (fun i wr => ∃ m : Nat, m ≤ ws.length ∧ i = .int .i64 ((m : Int) - 1) ∧ J (cameP ws hs m) wr ∧ CK b W wr)
    (fun i _ => (intOf i + 1).toNat)
  case atStart => exact ⟨ws.length, Nat.le_refl _, rfl, by rw [cameP_all]; exact h0, CK.refl _ _⟩
  case round =>
    obtain ⟨m, hm, rfl, hJs, hnx⟩ := hrel
    have hcx := cellBs wr hnx
    cases m with
    | zero =>
      gi_wp2
      go_end0
      exact ⟨⟨_, rfl⟩, .inl ⟨_, rfl, hJs⟩⟩
    | succ j =>
      have e1 : ((j + 1 : Nat) : Int) - 1 = (j : Int) := by omega
      have hcw : wr.cell? ⟨wb, off + j, none⟩ = some (.int .u32 (ws.getD j 0 : Nat)) := by
        have := hnx _ _ _ _ hw hwb (by decide)
        simp only [World.cell?, this]
        exact hc j (by omega)
      obtain ⟨fn, tmps, assign, body, hy, hR⟩ := hY _ (gPW ws hs j) wr hJs (by rw [cameP_length]; omega)
      dsimp only [gPW, encPW] at hy
      simp only [List.getD_eq_getElem?_getD] at hy
      rw [e1]
      gi_wp2
      refine hR.mono ?_
      rintro e W3 (⟨rfl, hJ3, hk3⟩ | ⟨rfl, hJx3⟩)
      · gi_wp2
        go_roundw
        case rel => exact ⟨j, by omega, rfl, by rw [cameP_step ws hs (by omega)]; exact hJ3, hnx.trans hk3⟩
        case measure => simp [intOf]
      · gi_wp2
        refine bodyPost_ret (results_none rfl _ _ _) rfl ?_
        exact ⟨⟨_, rfl⟩, .inr ⟨_, trivial, hJx3⟩⟩
end Go.Proofs.YtdoailkigecmkaaGreatDoor.B

namespace Go.Proofs
open Go.Shelf Go.RowKit

theorem Tryz.bX : (Tryz.prog.info? 212).map (·.size) = some 2 := by kernel_rfl
theorem Tryz.bLies : liesAt Tryz.prog Tryz.prog.depth 212 (2 / Tryz.prog.cellsOf 212) 0 212 1 = true := by kernel_rfl
theorem Tryz.bInfo : (Tryz.prog.info? 5).map (fun i => (i.zero, i.size, i.bytes)) = some (some (.int .u8 0), 1, 1) := by kernel_rfl
theorem Tryz.bMixed : Tryz.prog.follows .mixedOrders = true := by kernel_rfl

set_option maxHeartbeats 1000000 in
set_option maxRecDepth 100000 in
theorem Tryz.bCheckUsed (b : Nat) (w : World) (h0 : w.cell? ⟨b, 0, none⟩ = some (.pointer (some ⟨b, 0, none⟩))) :
    Calls Tryz.prog 211 #[.pointer (some ⟨b, 0, none⟩)] w fun e w' => e = .returned (.tuple #[]) ∧ w' = w := by
  obtain ⟨j, hj, _⟩ := Option.map_eq_some_iff.1 Tryz.bX
  have mixed := Tryz.bMixed
  have t72 := Tryz.underlying212; have a72 := Tryz.isAgg212; have z72 := Tryz.sizeOf212; have v72 := Tryz.zeroValue212; have u72 := run_underlying t72
  have t70 := Tryz.underlying210; have a70 := Tryz.isAgg210; have z70 := Tryz.sizeOf210; have v70 := Tryz.zeroValue210; have u70 := run_underlying t70
  have t4 := Tryz.underlying4; have a4 := Tryz.isAgg4; have z4 := Tryz.sizeOf4; have v4 := Tryz.zeroValue4; have u4 := run_underlying t4
  have t164 := Tryz.underlying248; have a164 := Tryz.isAgg248; have z164 := Tryz.sizeOf248; have v164 := Tryz.zeroValue248; have u164 := run_underlying t164
  go_enter Tryz.func211, Tryz.ntmps211
  go_wp2
  rw [Lib.run_neq_ptr_same w _ t70 hj]
  go_wp2
  go_end0
  exact ⟨rfl, rfl⟩

set_option maxHeartbeats 1000000 in
set_option maxRecDepth 100000 in
theorem Tryz.bCheckFresh (b : Nat) (w : World) (h0 : w.cell? ⟨b, 0, none⟩ = some (.pointer none)) (hsh : w.shape? b = some (212, 2)) (hfz : w.frozen? ⟨b, 0, none⟩ = false) :
    Calls Tryz.prog 211 #[.pointer (some ⟨b, 0, none⟩)] w fun e w' => e = .returned (.tuple #[]) ∧ w' = w.setCell ⟨b, 0, none⟩ (.pointer (some ⟨b, 0, none⟩)) := by
  obtain ⟨j, hj, hjs⟩ := Option.map_eq_some_iff.1 Tryz.bX
  have mixed := Tryz.bMixed
  have t72 := Tryz.underlying212; have a72 := Tryz.isAgg212; have z72 := Tryz.sizeOf212; have v72 := Tryz.zeroValue212; have u72 := run_underlying t72
  have t70 := Tryz.underlying210; have a70 := Tryz.isAgg210; have z70 := Tryz.sizeOf210; have v70 := Tryz.zeroValue210; have u70 := run_underlying t70
  have t4 := Tryz.underlying4; have a4 := Tryz.isAgg4; have z4 := Tryz.sizeOf4; have v4 := Tryz.zeroValue4; have u4 := run_underlying t4
  have t164 := Tryz.underlying248; have a164 := Tryz.isAgg248; have z164 := Tryz.sizeOf248; have v164 := Tryz.zeroValue248; have u164 := run_underlying t164
  go_enter Tryz.func211, Tryz.ntmps211
  go_wp2
  rw [Lib.run_to_unsafe w ⟨b, 0, none⟩ t70 t164 hj (by rw [hjs]; decide) hsh (Nat.zero_lt_succ 1)]
  simp only [Result.andThen]
  rw [Oper.upon_value]
  go_wp2
  rw [run_callFunc_extern Tryz.func231 (by kernel_rfl) (by kernel_rfl) (by kernel_rfl) (e := Extern.AbiNoEscape.same) (by kernel_rfl)]
  rw [Lib.run_noEscape]
  simp only [Result.andThen]
  rw [Oper.upon_value]
  go_wp2
  rw [Lib.run_from_unsafe w ⟨b, 0, none⟩ t164 t70 hj hsh Tryz.bLies]
  simp only [Result.andThen]
  rw [Oper.upon_value]
  go_wp2
  go_end0
  exact ⟨rfl, rfl⟩

theorem Tryz.bCheck (B b : Nat) (bs : List Value) (w : World) (h : Lib.IsBuilderF 212 5 B b bs w) :
    Calls Tryz.prog 211 #[.pointer (some ⟨b, 0, none⟩)] w fun e w' => e = .returned (.tuple #[]) ∧ (Lib.BuilderAtF 212 5 B b (.pointer (some ⟨b, 0, none⟩)) bs w' ∧ Below B w w' ∧ Lib.OthersKept 5 (some b) w w') := by
  rcases h with h | h
  · refine (Tryz.bCheckFresh b w h.cell0 h.shape h.frozen0).mono ?_
    rintro e w' ⟨rfl, rfl⟩
    exact ⟨rfl, h.used _, (Below.refl B w).setCell (p := ⟨b, 0, none⟩) h.1 _, (Lib.OthersKept.refl _ _ w).setCell ⟨b, 0, none⟩ rfl _⟩
  · refine (Tryz.bCheckUsed b w h.cell0).mono ?_
    rintro e w' ⟨rfl, rfl⟩
    exact ⟨rfl, h, Below.refl B _, Lib.OthersKept.refl _ _ _⟩

set_option maxHeartbeats 2000000 in
set_option maxRecDepth 100000 in
theorem Tryz.bWrite (B b : Nat) (bs : List Value) (s : ByteArray) (w : World) (h : Lib.IsBuilderF 212 5 B b bs w) (hlen : bs.length + s.size ≤ 140737488355328) (hBw : B ≤ w.heap.size) :
    Calls Tryz.prog 190 #[.pointer (some ⟨b, 0, none⟩), .string s] w fun e w' => e = .returned (.tuple #[.int .i64 s.size, .nilIface]) ∧ (Lib.BuilderAtF 212 5 B b (.pointer (some ⟨b, 0, none⟩)) (bs ++ Lib.strCells s) w' ∧ Below B w w' ∧ Lib.OthersKept 5 (some b) w w') := by
  obtain ⟨i0, hi, hz0, hz1, hz2⟩ := info_parts Tryz.bInfo
  have mixed := Tryz.bMixed
  have t72 := Tryz.underlying212; have a72 := Tryz.isAgg212; have z72 := Tryz.sizeOf212; have v72 := Tryz.zeroValue212; have u72 := run_underlying t72
  have t70 := Tryz.underlying210; have a70 := Tryz.isAgg210; have z70 := Tryz.sizeOf210; have v70 := Tryz.zeroValue210; have u70 := run_underlying t70
  have t37 := Tryz.underlying142; have a37 := Tryz.isAgg142; have z37 := Tryz.sizeOf142; have v37 := Tryz.zeroValue142; have u37 := run_underlying t37
  have t3 := Tryz.underlying3; have a3 := Tryz.isAgg3; have z3 := Tryz.sizeOf3; have v3 := Tryz.zeroValue3; have u3 := run_underlying t3
  have t9 := Tryz.underlying9; have a9 := Tryz.isAgg9; have z9 := Tryz.sizeOf9; have v9 := Tryz.zeroValue9; have u9 := run_underlying t9
  have t4 := Tryz.underlying4; have a4 := Tryz.isAgg4; have z4 := Tryz.sizeOf4; have v4 := Tryz.zeroValue4; have u4 := run_underlying t4
  have t5 := Tryz.underlying5; have a5 := Tryz.isAgg5; have z5 := Tryz.sizeOf5; have v5 := Tryz.zeroValue5; have u5 := run_underlying t5
  have e240 : ∀ args w, (callFunc 211 args).run Tryz.prog w = .ok (.enter 211 args) w := enters_of Tryz.func211 (by kernel_rfl) rfl
  go_enter Tryz.func190, Tryz.ntmps190
  go_wp2_with (go_at_fn 211; refine (Tryz.bCheck B b bs _ h).mono ?_)
  rintro e w1 ⟨rfl, h1, hb1, hk1⟩
  obtain ⟨hB, v, hbk, hown, hne⟩ := h1
  have c0 : w1.cell? ⟨b, 0, none⟩ = some (.pointer (some ⟨b, 0, none⟩)) := by rw [Lib.cell_of_heap hbk]; rfl
  have c1 : w1.cell? ⟨b, 1, none⟩ = some v := by rw [Lib.cell_of_heap hbk]; rfl
  go_wp2_with (at_builtin; refine Lib.wpList_append_own_stringF _ rfl _ _ 142 9 rfl B 5 i0 t37 t9 hi hz0 hz1 hz2 _ _ _ rfl hown s rfl ?c3 ?c4 ?c5 ?_)
  case c3 => unfold maxLen; omega
  case c4 => omega
  case c5 => have := hb1.size; omega
  intro v' w2 hown' hgrow _
  have hlt : b < w1.heap.size := by
    rcases Nat.lt_or_ge b w1.heap.size with h' | h'
    · exact h'
    · simp [Array.getElem?_eq_none h'] at hbk
  have hb2 : w2.heap[b]? = some (.cells #[.pointer (some ⟨b, 0, none⟩), v] 212 (0, 0)) := by
    rw [hgrow.block b hlt (fun e => hne e.symm)]
    exact hbk
  have d0 : w2.cell? ⟨b, 0, none⟩ = some (.pointer (some ⟨b, 0, none⟩)) := by rw [Lib.cell_of_heap hb2]; rfl
  have d1 : w2.cell? ⟨b, 1, none⟩ = some v := by rw [Lib.cell_of_heap hb2]; rfl
  have f1 : w2.frozen? ⟨b, 1, none⟩ = false := Lib.frozen_of_heap hb2 1
  obtain ⟨ao, n', cap, rfl⟩ : ∃ ao n' cap, v' = .slice ao n' cap := by
    rcases hown'.2 with ⟨hv, _⟩ | ⟨g, cap, cur, fz, hv, _⟩
    · exact ⟨_, _, _, hv⟩
    · exact ⟨_, _, _, hv⟩
  go_wp2
  go_ret2
  refine ⟨rfl, ?_, ?_, (hk1.grown hgrow (Lib.ownsRowF_kind hown)).setCell ⟨b, 1, none⟩ rfl _⟩
  · exact Lib.BuilderAtF.put (T := 212) (e := 5) hB hb2 (bs' := bs ++ Lib.strCells s) (by simpa [Lib.strCells_length] using hown') (by decide)
  · exact (hb1.grown hgrow (by have := hb1.size; omega) (fun k hk => (hown.lt k hk).1)).setCell (p := ⟨b, 1, none⟩) hB _
end Go.Proofs

namespace Go.Proofs
open Go.Shelf Go.RowKit Go.Sort Go.Lib

theorem Tryz.holds0 (w : World) (T : TypeId) (nd : Nat) (hs : nd ≤ 24) : Holds (fun (b : UInt8) => Value.int .u8 (b.toNat : Int)) (w.alloc (.cells zeros24 T)) w.heap.size 0 (Array.replicate nd (0 : UInt8)) := fun j hj => by
  have hj' : j < nd := by simpa using hj
  refine ⟨?_, World.frozen?_alloc_new _ _ _ _⟩
  rw [World.cell?_alloc_new, zeros24_at _ (by omega), getElem!_pos _ j hj]
  simp
theorem Tryz.fin0 (w : World) (o : Obj) (dk : Array UInt8) (k : Nat) : ∃ os, (putRow (fun (b : UInt8) => Value.int .u8 (b.toNat : Int)) (w.alloc o) w.heap.size 0 dk).drewN k = grow (w.drewN k) os := by
  rw [alloc_eq_grow]
  obtain ⟨os', _, e⟩ := putRow_grow_new (fun (b : UInt8) => Value.int .u8 (b.toNat : Int)) w #[o] w.heap.size 0 dk (Nat.le_refl _)
  exact ⟨os', by rw [e]; rfl⟩

set_option maxHeartbeats 6400000 in
set_option maxRecDepth 100000 in
theorem Tryz.fmtU (u : Nat) (hu64 : u < 18446744073709551616) (w : World)
    (htab : Lib.TabIs Tryz.prog w "internal/strconv.uint64pow10" .u64 Lib.pow10Tab) :
    Calls Tryz.prog 210 #[.int .u64 u, .int .i64 10] w fun e w' => e = .returned (.string ⟨(Lib.decDigits u).toArray⟩) ∧ ∃ k os, w' = grow (w.drewN k) os := by
  have mixed : Tryz.prog.follows .mixedOrders = true := by kernel_rfl
  have t3 := Tryz.underlying3; have a3 := Tryz.isAgg3; have z3 := Tryz.sizeOf3; have v3 := Tryz.zeroValue3
  have t9 := Tryz.underlying9; have a9 := Tryz.isAgg9; have z9 := Tryz.sizeOf9; have v9 := Tryz.zeroValue9
  have t4 := Tryz.underlying4; have a4 := Tryz.isAgg4; have z4 := Tryz.sizeOf4; have v4 := Tryz.zeroValue4
  have t171 := Tryz.underlying197; have a171 := Tryz.isAgg197; have z171 := Tryz.sizeOf197; have v171 := Tryz.zeroValue197
  have t53 := Tryz.underlying132; have a53 := Tryz.isAgg132; have z53 := Tryz.sizeOf132; have v53 := Tryz.zeroValue132
  have t37 := Tryz.underlying142; have a37 := Tryz.isAgg142; have z37 := Tryz.sizeOf142; have v37 := Tryz.zeroValue142
  have t5 := Tryz.underlying5; have a5 := Tryz.isAgg5; have z5 := Tryz.sizeOf5; have v5 := Tryz.zeroValue5
  have e1 : ∀ args w, (callFunc 175 args).run Tryz.prog w = .ok (.enter 175 args) w := enters_of Tryz.func175 (by kernel_rfl) rfl
  have e2 : ∀ args w, (callFunc 176 args).run Tryz.prog w = .ok (.enter 176 args) w := enters_of Tryz.func176 (by kernel_rfl) rfl
  have e3 : ∀ args w, (callFunc 177 args).run Tryz.prog w = .ok (.enter 177 args) w := enters_of Tryz.func177 (by kernel_rfl) rfl
  by_cases hs : u < 100
  · go_enter Tryz.func210, Tryz.ntmps210
    go_wp2_with (go_at_fn 175; refine (Tryz.internal_strconv_small u hs _).mono ?_; rintro e w' ⟨rfl, rfl⟩)
    go_ret
    exact ⟨rfl, 0, #[], by simp [World.drewN_zero]⟩
  · have hu1 : 1 ≤ u := by omega
    have hnd20 : Lib.nDigits u ≤ 20 := by have := Lib.numDigits_eq u hu1 hu64; split at this <;> omega
    have hal : Tryz.prog.arrayLen 197 = 24 := by kernel_rfl
    have hsl1 : ∀ W, (Instr.sliceAt 197 (.pointer (some ⟨w.heap.size, 0, none⟩)) none (some (.int .i64 (Lib.nDigits u : Int))) none).run Tryz.prog W = .ok (.slice (some ⟨w.heap.size, 0, none⟩) (Lib.nDigits u) 24) W := fun W => by
      rw [run_sliceAt_array_h W 197 ⟨w.heap.size, 0, none⟩ (by rw [hal]; exact t171) .i64 (Lib.nDigits u : Int) (by omega) (by rw [hal]; omega)]
      rw [hal]
      go_simp
    have hH0 := Tryz.holds0 w 197 (Lib.nDigits u) (by omega)
    have hfmt := Tryz.internal_strconv_formatBase10 w.heap.size 0 24 u (Array.replicate (Lib.nDigits u) 0) (w.alloc (.cells Lib.zeros24 197)) hH0 (by rw [Array.size_replicate]; exact Lib.lt_pow_nDigits u) hu64 (by rw [Array.size_replicate]; omega)
    rw [Array.size_replicate] at hfmt
    have HH0 := Lib.hid hH0
    clear hH0 hal
    go_enter Tryz.func210, Tryz.ntmps210
    go_wp2_with (first
      | (go_at_fn 176; refine (Tryz.internal_strconv_numDigits u hu1 hu64 _ (Lib.tabIs_alloc htab _)).mono ?_; rintro e w' ⟨rfl, rfl⟩))
    go_at_fn 177
    refine hfmt.mono ?_
    rintro e w' ⟨rfl, k, v', dk, rfl, hF⟩
    have hcv : (convert 142 9 (.slice (some ⟨w.heap.size, 0, none⟩) (Lib.nDigits u) 24)).run Tryz.prog ((putRow (fun (b : UInt8) => Value.int .u8 (b.toNat : Int)) (w.alloc (.cells Lib.zeros24 197)) w.heap.size 0 dk).drewN k) = .ok (.string ⟨(Lib.decDigits u).toArray⟩) ((putRow (fun (b : UInt8) => Value.int .u8 (b.toNat : Int)) (w.alloc (.cells Lib.zeros24 197)) w.heap.size 0 dk).drewN k) := by
      have h := run_convert_bytes_back (P := Tryz.prog) ((putRow (fun (b : UInt8) => Value.int .u8 (b.toNat : Int)) (w.alloc (.cells Lib.zeros24 197)) w.heap.size 0 dk).drewN k) 142 9 5 ⟨w.heap.size, 0, none⟩ 24 (Lib.decDigits u) t37 t5 t9 (fun j hj => by
        rw [Lib.row_is_numeral hF j hj, Lib.add_plain, World.cell?_drewN]
        exact cell?_putRow (fun (b : UInt8) => Value.int .u8 (b.toNat : Int)) _ w.heap.size 0 _ dk HH0.out (by rw [hF.size, Array.size_replicate]) j (by rw [hF.size]; rw [Lib.decDigits_length] at hj; exact hj))
      rw [Lib.decDigits_length] at h
      exact h
    go_wp2
    go_ret
    obtain ⟨os, eo⟩ := Tryz.fin0 w (.cells Lib.zeros24 197) dk k
    exact ⟨rfl, k, os, eo⟩

set_option maxRecDepth 100000 in
theorem Tryz.FormatUint (u : Nat) (hu64 : u < 18446744073709551616) (w : World)
    (htab : Lib.TabIs Tryz.prog w "internal/strconv.uint64pow10" .u64 Lib.pow10Tab) :
    Calls Tryz.prog 189 #[.int .u64 u, .int .i64 10] w fun e w' => e = .returned (.string ⟨(Lib.decDigits u).toArray⟩) ∧ ∃ k os, w' = grow (w.drewN k) os := by
  have mixed : Tryz.prog.follows .mixedOrders = true := by kernel_rfl
  have t3 := Tryz.underlying3; have a3 := Tryz.isAgg3; have z3 := Tryz.sizeOf3; have v3 := Tryz.zeroValue3
  have t9 := Tryz.underlying9; have a9 := Tryz.isAgg9; have z9 := Tryz.sizeOf9; have v9 := Tryz.zeroValue9
  have t53 := Tryz.underlying132; have a53 := Tryz.isAgg132; have z53 := Tryz.sizeOf132; have v53 := Tryz.zeroValue132
  have e246 : ∀ args w, (callFunc 210 args).run Tryz.prog w = .ok (.enter 210 args) w := enters_of Tryz.func210 (by kernel_rfl) rfl
  go_enter Tryz.func189, Tryz.ntmps189
  go_wp2_with (go_at_fn 210; refine (Tryz.fmtU u hu64 _ htab).mono ?_; rintro e w' ⟨rfl, k, os, rfl⟩)
  go_ret
  exact ⟨rfl, k, os, rfl⟩
end Go.Proofs

namespace Go.Proofs.YtdoailkigecmkaaGreatDoor.B
open Go Go.RowKit Go.Proofs Go.Proofs.YtdoailkigecmkaaGreatDoor.Vc

theorem g_pow10 : Tryz.prog.globalNamed "internal/strconv.uint64pow10" = some 1 := by kernel_rfl

structure Glob (w : World) : Prop where
  tab : Lib.TabIs Tryz.prog w "internal/strconv.uint64pow10" .u64 Lib.pow10Tab
  mx : ∃ m : Int, w.cell? ⟨0, 0, none⟩ = some (.int .i64 m)

theorem cell_lt {w : World} {a : Addr} {v : Value} (h : w.cell? a = some v) : a.block < w.heap.size := by
  apply Decidable.byContradiction
  intro k
  have : w.heap[a.block]? = none := Array.getElem?_eq_none (by omega)
  simp [World.cell?, this] at h
theorem tab_kept {w w' : World} {B : Nat} (h : Lib.TabIs Tryz.prog w "internal/strconv.uint64pow10" .u64 Lib.pow10Tab) (hb : Below B w w') (hB : w.heap.size ≤ B) : Lib.TabIs Tryz.prog w' "internal/strconv.uint64pow10" .u64 Lib.pow10Tab := by
  unfold Lib.TabIs World.var? at *
  rw [g_pow10] at *
  simp only [Option.bind_some] at *
  have hlt : 1 < w.heap.size := by
    apply Decidable.byContradiction
    intro k
    have : w.heap[1]? = none := Array.getElem?_eq_none (by omega)
    rw [this] at h
    cases h
  rw [hb.block _ (by omega)]
  exact h
theorem Glob.below {w w' : World} {B : Nat} (h : Glob w) (hb : Below B w w') (hB : w.heap.size ≤ B) : Glob w' := by
  refine ⟨tab_kept h.tab hb hB, ?_⟩
  obtain ⟨m, hm⟩ := h.mx
  refine ⟨m, ?_⟩
  have := cell_lt hm
  simp only at this
  simp only [World.cell?] at hm ⊢
  rw [hb.block _ (by omega)]
  exact hm
theorem Glob.next {w w' : World} (h : Glob w) (hb : Below w.heap.size w w') : Glob w' := h.below hb (Nat.le_refl _)
end Go.Proofs.YtdoailkigecmkaaGreatDoor.B

namespace Go.Proofs.YtdoailkigecmkaaGreatDoor.B
open Go Go.RowKit Go.Shelf Go.Proofs Go.Proofs.YtdoailkigecmkaaGreatDoor.Vc
attribute [local go_sem] Oper.semAt_some

def digs : Nat → Nat → Tx
  | 0, _ => []
  | k + 1, r => digs k (r / 10) ++ [UInt8.ofNat (48 + r % 10)]
theorem natT_shift (q : Nat) (hq : 0 < q) : ∀ (k r : Nat), r < 10 ^ k → natT (q * 10 ^ k + r) = natT q ++ digs k r := by
  intro k
  induction k with
  | zero => intro r hr; simp at hr; simp [hr, digs]
  | succ k ih =>
    intro r hr
    rw [Nat.pow_succ] at hr ⊢
    have hp : 0 < 10 ^ k := Nat.pow_pos (by omega)
    have h1 : 1 ≤ q * 10 ^ k := Nat.mul_pos hq hp
    have e : q * (10 ^ k * 10) + r = 10 * (q * 10 ^ k) + r := by grind
    rw [e, natT_big (by omega), show (10 * (q * 10 ^ k) + r) / 10 = q * 10 ^ k + r / 10 by omega, show (10 * (q * 10 ^ k) + r) % 10 = r % 10 by omega, ih (r / 10) (by omega), digs, List.append_assoc]
theorem digs_zero (k : Nat) : digs k 0 = List.replicate k 48 := by
  induction k with
  | zero => rfl
  | succ k ih => rw [digs, Nat.zero_div, ih, List.replicate_succ']; rfl
theorem digs_pad : ∀ (k r : Nat), r < 10 ^ k → 1 ≤ k → digs k r = List.replicate (k - (natT r).length) 48 ++ natT r := by
  intro k
  induction k with
  | zero => intro r _ h; omega
  | succ k ih =>
    intro r hr _
    rw [Nat.pow_succ] at hr
    by_cases h : r < 10
    · rw [digs, show r / 10 = 0 by omega, digs_zero, natT_small h, show r % 10 = r by omega]
      simp
    · have hk : 1 ≤ k := by
        apply Decidable.byContradiction
        intro k0
        have : k = 0 := by omega
        subst this
        omega
      rw [digs, ih (r / 10) (by omega) hk, natT_big h, List.length_append, List.append_assoc]
      congr 2
      simp

def onePW (n : Nat) (p : PW) : Tx := if (p.1 : Int) < (n : Int) - 1 then List.replicate (9 - (natT p.2.1).length) 48 ++ natT p.2.1 else natT p.2.1
def txP (n : Nat) (l : List PW) : Tx := l.flatMap (onePW n)
theorem txP_snoc (n : Nat) (l : List PW) (p : PW) : txP n (l ++ [p]) = txP n l ++ onePW n p := by simp [txP]
theorem txP_came (ws : List Nat) (hs : Small ws) (hn : Norm ws) : ∀ d m, ws.length - 1 - m = d → m < ws.length → txP ws.length (cameP ws hs m) = natT (wv (ws.drop m)) := by
  intro d
  induction d with
  | zero =>
    intro m hd hm
    have hm' : m = ws.length - 1 := by omega
    have e : cameP ws hs m = [gPW ws hs m] := by
      rw [cameP_step ws hs hm, show m + 1 = ws.length by omega, cameP_all]; rfl
    rw [e, wv_drop, List.drop_eq_nil_of_le (by omega)]
    have h1 : ¬ ((m : Int) < (ws.length : Int) - 1) := by omega
    simp [txP, onePW, gPW, h1, wv]
  | succ d ih =>
    intro m hd hm
    rw [cameP_step ws hs hm, txP_snoc, ih (m + 1) (by omega) (by omega), wv_drop ws m]
    have h1 : ((m : Int) < (ws.length : Int) - 1) := by omega
    have hx := hs.getD m
    have hpos : 0 < wv (ws.drop (m + 1)) := by
      have hne : ws.drop (m + 1) ≠ [] := by
        intro k
        have := congrArg List.length k
        simp at this
        omega
      have hnn : Norm (ws.drop (m + 1)) := by
        unfold Norm at *
        rw [List.getLast?_drop, if_neg (by omega)]
        exact hn
      have := wv_pos hnn hne
      have hp : 0 < 1000000000 ^ ((ws.drop (m + 1)).length - 1) := Nat.pow_pos (by omega)
      omega
    have e : ws.getD m 0 + 1000000000 * wv (ws.drop (m + 1)) = wv (ws.drop (m + 1)) * 10 ^ 9 + ws.getD m 0 := by omega
    rw [e, natT_shift _ hpos 9 _ (by omega), digs_pad 9 _ (by omega) (by omega)]
    have e2 : onePW ws.length (gPW ws hs m) = List.replicate (9 - (natT (ws.getD m 0)).length) 48 ++ natT (ws.getD m 0) := by
      simp [onePW, gPW, h1]
    rw [e2]
theorem txP_all (ws : List Nat) (hs : Small ws) (hn : Norm ws) (h : ws ≠ []) : txP ws.length (cameP ws hs 0) = natT (wv ws) := by
  have := txP_came ws hs hn _ 0 rfl (List.length_pos_iff.2 h)
  simpa using this
theorem onePW_length (n : Nat) (p : PW) : (onePW n p).length ≤ 9 := by
  have h := natT_length_le (n := p.2.1) (k := 9) p.2.2 (by omega)
  unfold onePW
  split
  · simp; omega
  · exact h
theorem txP_length (n : Nat) (l : List PW) : (txP n l).length ≤ 9 * l.length := by
  induction l with
  | nil => simp [txP]
  | cons p r ih =>
    have := onePW_length n p
    simp only [txP, List.flatMap_cons, List.length_append, List.length_cons] at *
    omega

theorem grown_below {w w' : World} (h : Below w.heap.size w w') : w.grownBy w' none := ⟨h.os, h.tape, h.output, h.size, fun k hk _ => h.block k hk⟩
theorem builder_kept {T e B b : Nat} {bs : List Value} {w w' : World} {row : Option Nat} (h : Lib.IsBuilderF T e B b bs w) (hg : w.grownBy w' row) (hr : ∀ r, row = some r → ∃ o : Obj, w.heap[r]? = some o ∧ o.isCells = false) : Lib.IsBuilderF T e B b bs w' := by
  have one : ∀ p, Lib.BuilderAtF T e B b p bs w → Lib.BuilderAtF T e B b p bs w' := by
    rintro p ⟨hB, v, hb, hown, hne⟩
    refine ⟨hB, v, ?_, hown.kept hg ?_, hne⟩
    · rw [hg.block b (Array.getElem?_eq_some_iff.1 hb).1]
      · exact hb
      · intro k
        obtain ⟨o, ho, hc⟩ := hr b k.symm
        rw [hb] at ho
        cases ho
        simp [Obj.isCells] at hc
    · rcases hown.2 with ⟨hv, _⟩ | ⟨g, cap, cur, fz, hv, _, hgg, _⟩
      · left; rw [hv]; rfl
      · right
        rw [hv]
        intro k
        simp only [Value.ownBlock] at k
        obtain ⟨o, ho, hc⟩ := hr g k.symm
        rw [hgg] at ho
        cases ho
        simp [Obj.isCells] at hc
  exact h.imp (one _) (one _)
theorem CK.of_others {b : Nat} {W W' : World} (h : Lib.OthersKept 5 (some b) W W') : CK b W W' := fun k cs ty fz hk hne hty => h k _ hk (fun e => hne (by cases e; rfl)) fun c f e => by cases e; exact hty rfl
theorem others_below {b : Nat} {W W' : World} (h : Below W.heap.size W W') : Lib.OthersKept 5 (some b) W W' := fun k o hk _ _ => by
  rw [h.block k (Array.getElem?_eq_some_iff.1 hk).1]; exact hk
theorem keepsFrom_others {b B : Nat} {W W' : World} (h : Lib.OthersKept 5 (some b) W W') (hs : W.heap.size ≤ W'.heap.size) (hb : ∀ o, W.heap[b]? = some o → o.isCells = true) : KeepsFrom B W W' :=
  ⟨hs, fun k o _ hk hc => h k o hk (fun e => by cases e; rw [hb o hk] at hc; cases hc) fun c f e => by subst e; simp [Obj.isCells] at hc⟩
theorem builder_lt {T e B b : Nat} {bs : List Value} {w : World} (h : Lib.IsBuilderF T e B b bs w) : ∀ o, w.heap[b]? = some o → o.isCells = true := by
  intro o ho
  rcases h with h | h <;> (obtain ⟨_, v, hb, _⟩ := h; rw [hb] at ho; cases ho; rfl)
theorem below_growN (w : World) (k : Nat) (os : Array Obj) : Below w.heap.size w (Sort.grow (w.drewN k) os) :=
  ⟨rfl, rfl, rfl, by simp [Sort.grow, World.drewN], fun i hi => by simp [Sort.grow, World.drewN, Array.getElem?_append_left hi]⟩
theorem fmt_calls (u : Nat) (hu : u < 18446744073709551616) (w : World) (htab : Lib.TabIs Tryz.prog w "internal/strconv.uint64pow10" .u64 Lib.pow10Tab) :
    Calls Tryz.prog 189 #[.int .u64 u, .int .i64 10] w fun e w' => e = .returned (.string ⟨(natT u).toArray⟩) ∧ Below w.heap.size w w' :=
  (Tryz.FormatUint u hu w htab).mono (by
    rintro e w' ⟨rfl, k, os, rfl⟩
    exact ⟨rfl, below_growN _ _ _⟩)
theorem cell_below {w w' : World} {a : Addr} {v : Value} (h : w.cell? a = some v) (hb : Below w.heap.size w w') : w'.cell? a = some v := (hb.cell (cell_lt h)).trans h

theorem back_calls (F : Fence) (n : Nat) (h5 : F.fn 188) (hro : F.round = none) (A : Option Addr) (len cap : Nat) (w : World) :
    CallsIn F n Tryz.prog 188 #[.slice A len cap] w fun e w' => e = .returned (.func (.func 209) #[] #[.pointer (some ⟨w.heap.size, 0, none⟩)]) ∧ w' = w.alloc (.cells #[.slice A len cap] 176) := by
  refine callsIn_of_wp Tryz.func188 rfl h5 ?_ hro
  simp only [Tryz.ntmps188, List.size_toArray, List.length_cons, List.length_nil, Nat.reduceAdd, Nat.reduceSub, Array.replicate_succ, Array.replicate_zero, List.push_toArray, List.append_toArray, List.nil_append, List.cons_append]
  gi_wp2
  go_ret
  exact ⟨rfl, rfl⟩

theorem back_stops (b Bs : Nat) (A : Option Addr) (cap : Nat) (ws : List Nat) (hs : Small ws) (hlen : ws.length ≤ 1000000) (w : World) (ha : SlU w A ws) (h0 : ws ≠ []) (hb : ∀ o, w.heap[b]? = some o → ∀ c fz, o ≠ .cells c 106 fz ∧ o ≠ .cells c 176 fz) (hBs : w.heap[Bs]? = some (.cells #[.slice A ws.length cap] 176 (0, 0))) (n : Nat) (hn : 1 ≤ n) :
    SeqStopsK Fence.wide n Tryz.prog 209 #[.pointer (some ⟨Bs, 0, none⟩)] encPW (CK b) (fun ys => ys = cameP ws hs 0) (fun _ => True) ws.length w := fun l J Jx W hW _ _ hY h1 => by
  rcases ha with ha | ⟨wb, off, all, fr, rfl, hw, hc⟩
  · exact absurd ha h0
  · have hwl := (Array.getElem?_eq_some_iff.1 hw).1
    have hBl := (Array.getElem?_eq_some_iff.1 hBs).1
    refine back_in Fence.wide n trivial rfl hn l Bs b wb off cap (fun e => ?_) (fun e => ?_) ws hs hlen J Jx hY W _ rfl ((hW.block Bs hBl).trans hBs) all fr ((hW.block wb hwl).trans hw) (fun j hj => ?_) h1
    · subst e
      exact (hb _ hBs _ _).2 rfl
    · subst e
      exact (hb _ hw _ _).1 rfl
    · have := hc j hj
      rw [List.getD_eq_getElem?_getD, List.getElem?_eq_getElem hj]
      exact this

set_option maxRecDepth 100000 in
set_option maxHeartbeats 4000000 in
theorem text_calls {w : World} {A : Option Addr} {cap : Nat} {ws : List Nat} (hg : Glob w) (ha : SlU w A ws) (hs : Small ws) (hnn : Norm ws) (hle : ws.length ≤ 1000000) (h0 : ws ≠ []) :
    Calls Tryz.prog 165 #[.slice A ws.length cap] w fun e w' => e = .returned (.string ⟨(natT (wv ws)).toArray⟩) ∧ Below w.heap.size w w' := by
  have hne : ¬ ((ws.length : Int) = 0) := by
    have := List.length_pos_iff.2 h0
    omega
  refine (callsIn_wide (n := 5)).1 ?_
  refine callsIn_of_wp_marks Tryz.func165 rfl trivial ?_ rfl
  simp only [Tryz.ntmps165, List.size_toArray, List.length_cons, List.length_nil, Nat.reduceAdd, Nat.reduceSub, Array.replicate_succ, Array.replicate_zero, List.push_toArray, List.append_toArray, List.nil_append, List.cons_append]
  gi_wp2_with (refine ⟨trivial, ?_⟩; gi_at_call 188; refine (back_calls Fence.wide _ trivial rfl _ _ _ _).mono ?_; rintro e w' ⟨rfl, rfl⟩)
  obtain ⟨W0, hW0⟩ : ∃ W0, ((w.alloc (.cells #[.slice A ws.length cap] 176)).alloc (.cells #[.pointer none, .slice none 0 0] 212)).alloc (.cells #[.slice A ws.length cap] 176) = W0 := ⟨_, rfl⟩
  have hs0 : W0.heap.size = w.heap.size + 3 := by rw [← hW0]; simp
  have hB0 : W0.heap[w.heap.size]? = some (.cells #[.slice A ws.length cap] 176 (0, 0)) := by
    rw [← hW0]; exact ((Below.heap_alloc _ _ _ (by simp; omega)).trans (Below.heap_alloc _ _ _ (by simp))).trans (World.alloc_heap_new w _)
  have hB1 : W0.heap[w.heap.size + 1]? = some (.cells #[.pointer none, .slice none 0 0] 212 (0, 0)) := by
    rw [← hW0]; refine (Below.heap_alloc _ _ _ (by simp)).trans ?_
    have := World.alloc_heap_new (w.alloc (.cells #[.slice A ws.length cap] 176)) (.cells #[.pointer none, .slice none 0 0] 212); rwa [World.size_alloc] at this
  have hB2 : W0.heap[w.heap.size + 1 + 1]? = some (.cells #[.slice A ws.length cap] 176 (0, 0)) := by
    rw [← hW0]; have := World.alloc_heap_new ((w.alloc (.cells #[.slice A ws.length cap] 176)).alloc (.cells #[.pointer none, .slice none 0 0] 212)) (.cells #[.slice A ws.length cap] 176); rwa [World.size_alloc, World.size_alloc] at this
  have hbel : Below w.heap.size w W0 := by
    rw [← hW0]; exact (((Below.refl _ w).alloc (Nat.le_refl _) _).alloc (by simp) _).alloc (by simp; omega) _
  rw [hW0]
  refine wpIn_rangeFunc_ownG rfl (by omega) (gf := 209) (lb := #[.pointer (some ⟨w.heap.size + 1 + 1, 0, none⟩)]) rfl trivial (enters_of Tryz.func209 (by kernel_rfl) rfl)
    (back_stops (w.heap.size + 1) (w.heap.size + 1 + 1) A cap ws hs hle W0 (ha.keep hbel (Nat.le_refl _)) h0 (fun o ho c fz => by rw [hB1] at ho; cases ho; exact ⟨by simp, by simp⟩) hB2 _ (by omega))
    (fun h k => CK.trans h k) (fun W l o o' _ h hc _ => CK.putObj W l o o' h hc) (Below.refl _ _) (fun _ => rfl)
    (fun pre W => Lib.IsBuilderF 212 5 w.heap.size (w.heap.size + 1) (Lib.byteCells (txP ws.length pre)) W ∧ Below w.heap.size w W ∧ W.heap[w.heap.size]? = some (.cells #[.slice A ws.length cap] 176 (0, 0)))
    (fun _ _ _ => False)
    (fun s W1 W2 row hI hgr hr => ⟨builder_kept hI.1 hgr (fun r e => (hr r e).2), hI.2.1.grown hgr hI.2.1.size (fun r e => by have := (hr r e).1; omega), ?_⟩)
    (fun _ _ _ _ _ hs _ _ => hs)
    ⟨?_, hbel, hB0⟩ (fun x => { tmps := #[.slice A ws.length cap, .pointer (some ⟨w.heap.size, 0, none⟩), .string ⟨#[]⟩, .pointer (some ⟨w.heap.size + 1, 0, none⟩), .int .i64 (x.1 : Int), .int .u32 (x.2.1 : Int), undef, .slice A ws.length cap, .int .i64 ws.length, .bool false, .slice A ws.length cap, .func (.func 209) #[] #[.pointer (some ⟨w.heap.size + 1 + 1, 0, none⟩)], .int .i64 (x.1 : Int), .int .u32 (x.2.1 : Int), undef, undef, undef, undef, undef, undef, undef, undef, undef, undef, undef, undef, undef, undef, undef, undef], defers := [] }) ?assign ?body ?done ?stop
  case assign =>
    intro l x W K hK
    gi_wp2
    exact hK
  case body =>
    rintro l pre x W ⟨hI, hbw, hc0⟩ hlen
    have hx := x.2.2
    have hcell : W.cell? ⟨w.heap.size, 0, none⟩ = some (.slice A ws.length cap) := by simp [World.cell?, hc0]
    have htab := tab_kept hg.tab hbw (Nat.le_refl _)
    have hwr : IntKind.wrap .u64 (x.2.1 : Int) = (x.2.1 : Int) := by rw [IntKind.wrap_u64]; omega
    obtain ⟨t, ht⟩ : ∃ t, t = natT x.2.1 := ⟨_, rfl⟩
    have hl9 : t.length ≤ 9 := by rw [ht]; exact natT_length_le (n := x.2.1) (k := 9) hx (by omega)
    obtain ⟨c, hc⟩ : ∃ c, c = 9 - t.length := ⟨_, rfl⟩
    have hfmt : ∀ w', Lib.TabIs Tryz.prog w' "internal/strconv.uint64pow10" .u64 Lib.pow10Tab → Calls Tryz.prog 189 #[.int .u64 (x.2.1 : Int), .int .i64 10] w' fun e w'' => e = .returned (.string ⟨t.toArray⟩) ∧ Below w'.heap.size w' w'' := fun w' h => by rw [ht]; exact fmt_calls x.2.1 (by omega) _ h
    have hrep : ∀ w', Calls Tryz.prog 191 #[.string ⟨#[48]⟩, .int .i64 (9 - (t.length : Int))] w' fun e w'' => e = .returned (.string ⟨(List.replicate c (48 : UInt8)).toArray⟩) ∧ Below w'.heap.size w' w'' := fun w' => by
      rw [show 9 - (t.length : Int) = (c : Int) by omega]
      refine (Tryz.strings_Repeat ⟨#[48]⟩ c w' (by omega) (by simp [ByteArray.size]; omega)).mono ?_
      rintro e w'' ⟨rfl, h⟩
      refine ⟨?_, h⟩
      have e1 : Lib.repeatL [48] c = List.replicate c (48 : UInt8) := by
        clear hc
        induction c with
        | zero => rfl
        | succ c ih => simp [Lib.repeatL, ih, List.replicate_succ]
      show Ending.returned (.string ⟨(Lib.repeatL [48] c).toArray⟩) = _
      rw [e1]
    have hc9 : c ≤ 9 := by omega
    have hlx := txP_length ws.length pre
    have hWs := hbw.size
    by_cases hlt : (x.1 : Int) < (ws.length : Int) - 1
    · have ho : onePW ws.length x = List.replicate c 48 ++ t := by simp [onePW, hlt, hc, ht]
      clear hc ht
      gi_wp2_with (refine ⟨trivial, ?_⟩; gi_at_call 189; refine (CallsIn.inRound l (callsIn_wide.2 (hfmt _ htab))).mono ?_; clear hfmt; rintro e W1 ⟨rfl, hb1⟩; have hcell1 := cell_below hcell hb1)
      refine ⟨trivial, ?_⟩
      gi_at_call 191
      refine (CallsIn.inRound l (callsIn_wide.2 (hrep _))).mono ?_
      rintro e W2 ⟨rfl, hb2⟩
      have hI2 := builder_kept (builder_kept hI (grown_below hb1) (fun _ e => by cases e)) (grown_below hb2) (fun _ e => by cases e)
      have s1 := hb1.size
      have s2 := hb2.size
      gi_wp2
      refine ⟨trivial, ?_⟩
      gi_at_call 190
      refine (CallsIn.inRound l (callsIn_wide.2 (Tryz.bWrite w.heap.size (w.heap.size + 1) _ ⟨(List.replicate c (48 : UInt8)).toArray⟩ W2 hI2 (by rw [Lib.byteCells_length]; simp [ByteArray.size]; omega) (by omega)))).mono ?_
      rintro e W3 ⟨rfl, hI3, hb3, ho3⟩
      have s3 := hb3.size
      gi_wp2
      refine ⟨trivial, ?_⟩
      gi_at_call 190
      refine (CallsIn.inRound l (callsIn_wide.2 (Tryz.bWrite w.heap.size (w.heap.size + 1) _ ⟨t.toArray⟩ W3 (.inr hI3) (by rw [List.length_append, Lib.byteCells_length, Lib.strCells_length]; simp [ByteArray.size]; omega) (by omega)))).mono ?_
      rintro e W4 ⟨rfl, hI4, hb4, ho4⟩
      have s4 := hb4.size
      gi_wp2
      have ho4' := ((others_below (b := w.heap.size + 1) hb1).trans (others_below hb2)).trans (ho3.trans ho4)
      refine ⟨keepsFrom_others ho4' (by omega) (builder_lt hI), CK.of_others ho4', .inr ?_, hbw.trans ((hb1.mono hWs).trans ((hb2.mono (by omega)).trans (hb3.trans hb4))), CK.of_others ho4' _ _ _ _ hc0 (by omega) (by decide)⟩
      rw [txP_snoc, ho, Lib.byteCells_append, Lib.byteCells_append, ← List.append_assoc]
      exact hI4
    · have ho : onePW ws.length x = t := by simp [onePW, hlt, ht]
      clear hc ht
      gi_wp2_with (refine ⟨trivial, ?_⟩; gi_at_call 189; refine (CallsIn.inRound l (callsIn_wide.2 (hfmt _ htab))).mono ?_; clear hfmt; rintro e W1 ⟨rfl, hb1⟩; have hcell1 := cell_below hcell hb1)
      have hI1 := builder_kept hI (grown_below hb1) (fun _ e => by cases e)
      have s1 := hb1.size
      refine ⟨trivial, ?_⟩
      gi_at_call 190
      refine (CallsIn.inRound l (callsIn_wide.2 (Tryz.bWrite w.heap.size (w.heap.size + 1) _ ⟨t.toArray⟩ W1 hI1 (by rw [Lib.byteCells_length]; simp [ByteArray.size]; omega) (by omega)))).mono ?_
      rintro e W4 ⟨rfl, hI4, hb4, ho4⟩
      have s4 := hb4.size
      gi_wp2
      have ho4' := (others_below (b := w.heap.size + 1) hb1).trans ho4
      refine ⟨keepsFrom_others ho4' (by omega) (builder_lt hI), CK.of_others ho4', .inr ?_, hbw.trans ((hb1.mono hWs).trans hb4), CK.of_others ho4' _ _ _ _ hc0 (by omega) (by decide)⟩
      rw [txP_snoc, ho, Lib.byteCells_append]
      exact hI4
  case done =>
    rintro D ys W hD rfl ⟨hI, hbw, hc0⟩ hK
    rw [txP_all ws hs hnn h0] at hI
    have hWs := hbw.size
    gi_wp2
    refine ⟨trivial, ?_⟩
    gi_at_call 192
    refine (callsIn_wide.2 (Tryz.Builder_String_any_k w.heap.size (w.heap.size + 1) _ W hI (by omega))).mono ?_
    rintro e W1 ⟨rfl, hI1, hb1, ho1⟩
    have s1 := hb1.size
    have hK1 := ho1 D _ hK (fun e => by cases e; omega) (fun c f e => by cases e)
    gi_wp2
    refine ⟨by simp, .inl ⟨_, _, rfl, run_takeDeferred hK1, ?_⟩⟩
    refine ⟨_, results_tmp rfl _ _ _, rfl, ?_⟩
    exact hbw.trans (hb1.trans (belowK_b (w := w) (Nat.le_refl _) W1 D _ _ (by omega) hK1 rfl rfl))
  case stop =>
    rintro D c pre W _ _ h _
    exact h.elim
  · have hb := hI.2.2
    rw [hgr.block _ (Array.getElem?_eq_some_iff.1 hb).1 (fun e => ?_)]
    · exact hb
    · obtain ⟨_, o, ho, hc⟩ := hr _ e.symm
      rw [hb] at ho
      cases ho
      simp [Obj.isCells] at hc
  · exact .inl ⟨by omega, .slice none 0 0, hB1, World.ownsRowF_nil _ _ _ _, by simp [Value.ownBlock]⟩

theorem natural_text {w : World} {A : Option Addr} {n c x : Nat} (hg : Glob w) (ha : IsN w A n c x) (hn : n ≤ 1000000) :
    Pure Tryz.prog 165 #[.slice A n c] w fun v _ => v = .string (st (natT x)) := by
  obtain ⟨ws, a1, a2, a3, a4, a5, a6, rfl⟩ := ha
  by_cases h0 : ws = []
  · subst h0
    simp at a2
    subst a2
    refine (?_ : Calls Tryz.prog 165 #[.slice A 0 c] w fun e w' => e = .returned (.string ⟨#[48]⟩) ∧ Below w.heap.size w w').mono ?_
    · go_enter Tryz.func165, Tryz.ntmps165
      go_wp2
      go_ret
      exact ⟨rfl, (Below.refl _ w).alloc (Nat.le_refl _) _⟩
    · rintro e w' ⟨rfl, hb⟩
      refine ⟨_, rfl, hb, ?_⟩
      have : natT (wv []) = [48] := by simp only [wv]; exact natT_0
      rw [this]; rfl
  · subst a2
    refine (text_calls hg a1 a5 a6 hn h0).mono ?_
    rintro e w' ⟨rfl, hb⟩
    exact ⟨_, rfl, hb, rfl⟩
end Go.Proofs.YtdoailkigecmkaaGreatDoor.B

namespace Go.Proofs.YtdoailkigecmkaaGreatDoor.B
open Go Go.RowKit Go.Proofs Go.Proofs.YtdoailkigecmkaaGreatDoor.Vc

theorem natural_both {w : World} {s t : ByteArray} (hs : s.size ≤ 900000) (ht : t.size ≤ 900000) :
    Pure Tryz.prog 147 #[.string s, .string t] w fun v w' =>
      (¬ (isNat (by_ s) = true ∧ isNat (by_ t) = true) ∧ v = .tuple #[.slice none 0 0, .slice none 0 0, .int .i64 1]) ∨
      ((isNat (by_ s) = true ∧ isNat (by_ t) = true) ∧ ∃ A n c A' n' c', v = .tuple #[.slice A n c, .slice A' n' c', .int .i64 0] ∧ IsN w' A n c (valD (by_ s)) ∧ IsN w' A' n' c' (valD (by_ t))) := by
  refine F.natural_both.vc _ _ _ _ (Pure.mono (natural_Valid s (by omega) w) ?_)
  rintro v w2 _ rfl
  refine ⟨_, rfl, fun h => .inl ⟨by simp [h], rfl⟩, fun h => ?_⟩
  refine Pure.mono (natural_Valid t (by omega) w2) ?_
  rintro v w3 _ rfl
  refine ⟨_, rfl, fun h2 => .inl ⟨by simp [h2], rfl⟩, fun h2 => ?_⟩
  have h1' : isNat (by_ s) = true := by simpa using h
  have h2' : isNat (by_ t) = true := by simpa using h2
  refine Pure.mono (natural_read hs h1') ?_
  rintro v w4 _ ⟨A, n, c, rfl, k1⟩
  refine ⟨_, _, _, rfl, Pure.mono (natural_read ht h2') ?_⟩
  rintro v w5 hb5 ⟨A', n', c', rfl, k2⟩
  exact ⟨_, _, _, rfl, .inr ⟨⟨h1', h2'⟩, _, _, _, _, _, _, rfl, k1.below hb5, k2⟩⟩
end Go.Proofs.YtdoailkigecmkaaGreatDoor.B

namespace Go.Proofs.YtdoailkigecmkaaGreatDoor.B
open Go Go.RowKit Go.Proofs Go.Proofs.YtdoailkigecmkaaGreatDoor.Vc

def nS (n : Nat) : ByteArray := st (natT n)
def iS (z : Int) : ByteArray := st (intT z)
def rS (r : Rat) : ByteArray := st (ratT r)
theorem by_nS (n : Nat) : by_ (nS n) = natT n := rfl
theorem by_iS (z : Int) : by_ (iS z) = intT z := rfl
theorem by_rS (r : Rat) : by_ (rS r) = ratT r := rfl
theorem size_nS (n : Nat) : (nS n).size = (natT n).length := rfl
theorem nS_inj {a b : Nat} (h : nS a = nS b) : a = b := natT_inj (st_inj h)
theorem iS_nat (n : Nat) : iS (n : Int) = nS n := by unfold iS nS; rw [intT_nat]
theorem nS_iff {a b : Nat} : nS a = nS b ↔ a = b := ⟨nS_inj, fun h => by rw [h]⟩
theorem nS_0 : (⟨#[48]⟩ : ByteArray) = nS 0 := by unfold nS; rw [natT_0]; rfl
theorem nS_1 : (⟨#[49]⟩ : ByteArray) = nS 1 := by unfold nS; rw [natT_1]; rfl
theorem iS_0 : (⟨#[48]⟩ : ByteArray) = iS 0 := by rw [nS_0, ← iS_nat]; rfl

theorem lim_eq : Lim = 10 ^ (9 * KLim) := by
  unfold Lim
  have e : (1000000000 : Nat) = 10 ^ 9 := rfl
  rw [e, ← Nat.pow_mul]
theorem lt_lim {x k : Nat} (h : x < 10 ^ k) (hk : k ≤ 900000) : x < Lim := by
  rw [lim_eq]
  exact Nat.lt_of_lt_of_le h (Nat.pow_le_pow_right (by omega) (by have := klim; omega))
theorem size_nS_le {x : Nat} (h : x < Lim) : (nS x).size ≤ 900000 := by
  rw [lim_eq] at h
  have k := klim
  have := natT_length_le h (by omega)
  show (natT x).length ≤ _
  omega
theorem IsN.len2 {w : World} {A : Option Addr} {n c x : Nat} (h : IsN w A n c x) (hx : x < Lim * Lim + Lim) : n ≤ 1000000 := by
  obtain ⟨ws, _, hl, _, _, _, hn, rfl⟩ := h
  unfold Lim at hx
  by_cases h0 : ws = []
  · subst h0; simp at hl; omega
  · have h1 := wv_pos hn h0
    rw [← Nat.pow_add] at hx
    have k := klim
    have h3 : 1000000000 ^ KLim ≤ 1000000000 ^ (KLim + KLim) := Nat.pow_le_pow_right (by omega) (by omega)
    have h4 : 1000000000 ^ (KLim + KLim) + 1000000000 ^ KLim ≤ 1000000000 ^ (KLim + KLim + 1) := by
      rw [Nat.pow_succ (n := 1000000000) (m := KLim + KLim)]
      generalize 1000000000 ^ (KLim + KLim) = a at *
      generalize 1000000000 ^ KLim = b at *
      omega
    have h2 := (Nat.pow_lt_pow_iff_right (a := 1000000000) (by omega)).1 (Nat.lt_of_le_of_lt h1 (Nat.lt_of_lt_of_le hx h4))
    omega
theorem lim_add {x y : Nat} (hx : x < Lim) (hy : y < Lim) : x + y < Lim * Lim + Lim := by
  have h2 : 2 ≤ Lim := by rw [lim_eq]; exact Nat.le_trans (by omega) (Nat.pow_le_pow_right (n := 10) (by omega) (show 1 ≤ 9 * KLim by have := klim; omega))
  have : Lim ≤ Lim * Lim := Nat.le_mul_of_pos_left _ (by omega)
  omega
theorem lim_mul {x y : Nat} (hx : x < Lim) (hy : y < Lim) : x * y < Lim * Lim + Lim := by
  have := Nat.mul_lt_mul'' hx hy
  omega
theorem lim_le {x y : Nat} (hx : x < Lim) (h : y ≤ x) : y < Lim * Lim + Lim := by omega

theorem natural_apply {w : World} {f : Nat} {a k : Array Value} {A : Option Addr} {n c x : Nat} (hg : Glob w) (hc : callable Tryz.prog f = true) (hx : x < Lim * Lim + Lim)
    (h : Pure Tryz.prog f (a.toList ++ ([.slice A n c] : List Value) ++ k.toList).toArray w fun v w' => ∃ A n c, v = .slice A n c ∧ IsN w' A n c x) :
    Pure Tryz.prog 148 #[.func (.func f) a k, .slice A n c] w fun v _ => v = .tuple #[.string (nS x), .int .i64 0] := by
  refine F.natural_apply.vc _ _ _ _ _ _ _ _ ⟨hc, Pure.mono h ?_⟩
  rintro v w2 hb ⟨A, n, c, rfl, k1⟩
  refine ⟨_, _, _, rfl, Pure.mono (natural_text (hg.next hb) k1 (k1.len2 hx)) ?_⟩
  rintro v w3 _ rfl
  exact ⟨_, rfl, rfl⟩

theorem both_ok {w : World} {x y : Nat} (hx : x < Lim) (hy : y < Lim) :
    Pure Tryz.prog 147 #[.string (nS x), .string (nS y)] w fun v w' =>
      ∃ A n c A' n' c', v = .tuple #[.slice A n c, .slice A' n' c', .int .i64 0] ∧ IsN w' A n c x ∧ IsN w' A' n' c' y := by
  refine Pure.mono (natural_both (size_nS_le hx) (size_nS_le hy)) ?_
  rintro v w' _ (⟨h, _⟩ | ⟨_, A, n, c, A', n', c', rfl, h1, h2⟩)
  · exact absurd ⟨natT_isNat _, natT_isNat _⟩ h
  · rw [by_nS, natT_val] at h1 h2
    exact ⟨_, _, _, _, _, _, rfl, h1, h2⟩

theorem natural_Add {w : World} {x y : Nat} (hg : Glob w) (hx : x < Lim) (hy : y < Lim) :
    Pure Tryz.prog 180 #[.string (nS x), .string (nS y)] w fun v _ => v = .tuple #[.string (nS (x + y)), .int .i64 0] := by
  refine F.natural_Add.vc _ _ _ _ (Pure.mono (both_ok hx hy) ?_)
  rintro v w2 hb ⟨A, n, c, A', n', c', rfl, h1, h2⟩
  refine ⟨_, _, _, _, _, _, _, rfl, fun h => absurd rfl h, fun _ => ?_⟩
  refine Pure.mono (natural_apply (hg.next hb) (by kernel_rfl) (lim_add hx hy) (natural_plus h1 h2 hx hy)) ?_
  rintro v w3 _ rfl
  exact ⟨_, _, rfl, rfl⟩

theorem natural_Mul {w : World} {x y : Nat} (hg : Glob w) (hx : x < Lim) (hy : y < Lim) :
    Pure Tryz.prog 154 #[.string (nS x), .string (nS y)] w fun v _ => v = .tuple #[.string (nS (x * y)), .int .i64 0] := by
  refine F.natural_Mul.vc _ _ _ _ (Pure.mono (both_ok hx hy) ?_)
  rintro v w2 hb ⟨A, n, c, A', n', c', rfl, h1, h2⟩
  refine ⟨_, _, _, _, _, _, _, rfl, fun h => absurd rfl h, fun _ => ?_⟩
  refine Pure.mono (natural_apply (hg.next hb) (by kernel_rfl) (lim_mul hx hy) (Pure.mono (natural_times h1 h2 hx hy) ?_)) ?_
  · rintro v w3 _ ⟨A, n, c, rfl, k, _⟩
    exact ⟨_, _, _, rfl, k⟩
  · rintro v w3 _ rfl
    exact ⟨_, _, rfl, rfl⟩

theorem natural_GCD {w : World} {x y : Nat} (hg : Glob w) (hx : x < Lim) (hy : y < Lim) :
    Pure Tryz.prog 132 #[.string (nS x), .string (nS y)] w fun v _ => v = .tuple #[.string (nS (Nat.gcd x y)), .int .i64 0] := by
  refine F.natural_GCD.vc _ _ _ _ (Pure.mono (both_ok hx hy) ?_)
  rintro v w2 hb ⟨A, n, c, A', n', c', rfl, h1, h2⟩
  refine ⟨_, _, _, _, _, _, _, rfl, fun h => absurd rfl h, fun _ => ?_⟩
  have hle : Nat.gcd x y ≤ x + y := by
    rcases Nat.eq_zero_or_pos x with h0 | h0
    · subst h0; simp
    · have := Nat.le_of_dvd h0 (Nat.gcd_dvd_left x y); omega
  refine Pure.mono (natural_apply (hg.next hb) (by kernel_rfl) (Nat.lt_of_le_of_lt hle (lim_add hx hy)) (natural_gcd h1 h2 hx hy)) ?_
  rintro v w3 _ rfl
  exact ⟨_, _, rfl, rfl⟩

theorem natural_Compare {w : World} {x y : Nat} (hx : x < Lim) (hy : y < Lim) :
    Pure Tryz.prog 181 #[.string (nS x), .string (nS y)] w fun v _ => v = .tuple #[.int .i64 (cmpI x y), .int .i64 0] := by
  refine F.natural_Compare.vc _ _ _ _ (Pure.mono (both_ok hx hy) ?_)
  rintro v w2 hb ⟨A, n, c, A', n', c', rfl, h1, h2⟩
  refine ⟨_, _, _, _, _, _, _, rfl, fun h => absurd rfl h, fun _ => ?_⟩
  refine Pure.mono (natural_compare h1 h2 hx hy) ?_
  rintro v w3 _ rfl
  exact ⟨_, rfl, rfl⟩

theorem natural_Sub {w : World} {x y : Nat} (hg : Glob w) (hx : x < Lim) (hyx : y ≤ x) :
    Pure Tryz.prog 182 #[.string (nS x), .string (nS y)] w fun v _ => v = .tuple #[.string (nS (x - y)), .int .i64 0] := by
  have hy : y < Lim := Nat.lt_of_le_of_lt hyx hx
  refine F.natural_Sub.vc _ _ _ _ (Pure.mono (both_ok hx hy) ?_)
  rintro v w2 hb ⟨A, n, c, A', n', c', rfl, h1, h2⟩
  refine ⟨_, _, _, _, _, _, _, rfl, fun h => absurd rfl h, fun _ => ?_⟩
  refine Pure.mono (natural_compare h1 h2 hx hy) ?_
  rintro v w3 hb3 rfl
  refine ⟨_, rfl, fun h => ?_, fun _ => ?_⟩
  · simp only [cmpI] at h
    split at h
    · omega
    · split at h <;> omega
  · refine Pure.mono (natural_apply ((hg.next hb).next hb3) (by kernel_rfl) (lim_le hx (Nat.sub_le x y)) (natural_minus (h1.below hb3) (h2.below hb3) hx hyx)) ?_
    rintro v w4 _ rfl
    exact ⟨_, _, rfl, rfl⟩

theorem natural_DivMod {w : World} {x y : Nat} (hg : Glob w) (hx : x < Lim) (hy : y < Lim) (hy0 : y ≠ 0) :
    Pure Tryz.prog 221 #[.string (nS x), .string (nS y)] w fun v _ => v = .tuple #[.string (nS (x / y)), .string (nS (x % y)), .int .i64 0] := by
  refine F.natural_DivMod.vc _ _ _ _ (Pure.mono (both_ok hx hy) ?_)
  rintro v w2 hb ⟨A, n, c, A', n', c', rfl, h1, h2⟩
  refine ⟨_, _, _, _, _, _, _, rfl, fun h => absurd rfl h, fun _ => ⟨fun h => ?_, fun _ => ?_⟩⟩
  · obtain ⟨ws, _, a2, _, _, _, _, rfl⟩ := h2
    have : ws = [] := List.eq_nil_of_length_eq_zero (by omega)
    subst this
    exact absurd rfl hy0
  · refine Pure.mono (natural_divide h1 h2 hx hy hy0) ?_
    rintro v w3 hb3 ⟨B, m, d, B', m', d', rfl, k1, k2⟩
    have hg3 := (hg.next hb).next hb3
    refine ⟨_, _, _, _, _, _, rfl, Pure.mono (natural_text hg3 k1 (k1.len2 (lim_le hx (Nat.div_le_self x y)))) ?_⟩
    rintro v w4 hb4 rfl
    refine ⟨_, rfl, Pure.mono (natural_text (hg3.next hb4) (k2.below hb4) (k2.len2 (lim_le hx (Nat.mod_le x y)))) ?_⟩
    rintro v w5 _ rfl
    exact ⟨_, rfl, rfl⟩
end Go.Proofs.YtdoailkigecmkaaGreatDoor.B
