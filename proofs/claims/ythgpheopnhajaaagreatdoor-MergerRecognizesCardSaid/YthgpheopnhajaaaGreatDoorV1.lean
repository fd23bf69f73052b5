/- The seat's texts, part 1 of 5. -/
import Derived.Test.YthgpheopnhajaaaGreatDoorV0
import Derived.Shelf.Strings.Builder1
import Derived.Shelf.Strings.Builder2
import Derived.Shelf.Strings.Trim
import Derived.Shelf.Small.Utf8
import Derived.Shelf.Small.Bits
import Derived.Shelf.Small.Strs
import Derived.Shelf.Small.Wraps
import Derived.Shelf.Strings.BuilderF
import Derived.Shelf.Strings.BuilderK
import Derived.Shelf.Strings.Builder2Cap
import Derived.Shelf.Strconv.Atoi
import Derived.Shelf.Strconv.Itoa0
import Derived.Shelf.Strconv.Itoa1
import Derived.Shelf.LaysM
import Derived.Shelf.Strconv.Itoa2
import Derived.Shelf.Strconv.Itoa3
import Derived.Shelf.Strconv.AtoiErrFast
import Derived.Shelf.Strconv.ParseIntEmpty
import Derived.Shelf.Strconv.AtoiFail
import Derived.Shelf.Strconv.Clone
import Derived.Shelf.Strconv.SyntaxError
import Derived.Shelf.LaysC
import Derived.Shelf.Strconv.ToError
import Derived.Shelf.Strconv.AtoiErr
import Derived.Shelf.Strconv.ErrVar
import Derived.Shelf.Strconv.Lower
import Derived.Shelf.Strconv.ParseUint10
import Derived.Shelf.Strconv.ParseUint10Empty
import Derived.Shelf.Strconv.ParseUint10Any
import Derived.Shelf.Strconv.ParseInt10
import Derived.Shelf.Strconv.AtoiLong
import Derived.Shelf.Strconv.AtoiInnerAll
import Derived.Shelf.Strconv.RangeError
import Derived.Shelf.Strconv.ToErrorRange
import Derived.Shelf.Strconv.AtoiAll
import Derived.Shelf.Strconv.ErrVarAll
import Derived.Shelf.Strconv.ParseUintEmpty
import Derived.Shelf.Strconv.ParseUint10b64
import Derived.Shelf.Strconv.ParseUint10b32
import Derived.Shelf.Strconv.ParseUint10b16
import Derived.Shelf.Strconv.ParseUint10b8
import Derived.Shelf.Strconv.ParseUint10At
import Derived.Shelf.Strconv.ParseInt10At64
import Derived.Shelf.Strconv.ParseInt10At32
import Derived.Shelf.Strconv.ParseInt10At16
import Derived.Shelf.Strconv.ParseInt10At8
import Derived.Shelf.Strconv.ParseInt10All
import Derived.Shelf.Strconv.ParseIntPublic10
import Derived.Shelf.Strconv.ErrVarParseInt
import Derived.Ground.MpProg
import Derived.Shelf.Pu.ParseUintPublic10
import Derived.Shelf.Pu.ErrVarParseUint
import Derived.Shelf.Strings.Search1
import Derived.Shelf.Strings.Search2
import Derived.Shelf.Strings.Cut
import Derived.Shelf.Strings.Shaped
import Derived.Shelf.Strings.Prefix
import Derived.Shelf.Unicode.Decode
import Derived.Shelf.Strings.Runes
import Derived.Shelf.Strings.AsciiSet
import Derived.Shelf.Bits.Mul64
import Derived.Shelf.Strings.Repeat
import Derived.Shelf.Unicode.DecodeSlow
import Derived.Shelf.Strings.BuilderCap
import Derived.Ground.SlsfProg
import Derived.Shelf.SlSortCmp.Insertion
import Derived.Shelf.SlSortCmp.SiftDown1
import Derived.Shelf.SlSortCmp.HeapSort1
import Derived.Shelf.SlSortCmp.Insertion1
import Derived.Shelf.SlSortCmp.Median1
import Derived.Shelf.SlSortCmp.Pivot1
import Derived.Shelf.SlSortCmp.ReverseRange1
import Derived.Shelf.SlSortCmp.PartialInsertion1
import Derived.Shelf.SlSortCmp.PartitionEqual1
import Derived.Shelf.SlSortCmp.Partition1
import Derived.Test.YthgpheopnhajaaaGreatDoorProg
import Derived.Shelf.Strings.SlTrimAscii
import Derived.Laws.Rows
import Derived.Shelf.Spec.SlicesInsertGrow
import Derived.Deep.AppendLies
import Derived.Deep.RegionLaw
import Derived.Laws.OwnMore

/-
  DERIVED: THE SHELF's CONTRACTS AT THIS DUMP, IN PLAIN WORDS (tools/lay-plain.mjs out of 'TryzShelf.lean', which tools/lay-shelf.mjs wrote): THE SAME DECLARATIONS UNDER THE SAME NAMES: 'import', 'namespace', 'open', 'def', 'theorem' AND NOTHING ELSE: no command of the shelf's: FOR A HAND-IN. Each laying: the table of numbers ('.._ren') and one theorem, a field a fact of the dump's own or the kernel's comparison; each contract: ONE APPLICATION.
-/
namespace Go.Proofs
open Go.Shelf
def Tryz.lays169_ren : Go.Shelf.Ren := ⟨fun | 169 => 140 | n => n, fun | 70 => 190 | 9 => 9 | 0 => 0 | 72 => 193 | 37 => 191 | 127 => 244 | 3 => 3 | 5 => 5 | n => n, fun | n => n⟩
theorem Tryz.lays169 : Go.Proofs.Lays.n169 Tryz.prog Tryz.lays169_ren := {
  mixed := by kernel_rfl
  f169 := Tryz.func140.trans (congrArg some (by kernel_rfl))
  t0 := Tryz.underlying0
  a0 := Tryz.isAgg0
  z0 := Tryz.sizeOf0
  v0 := Tryz.zeroValue0
  t3 := Tryz.underlying3
  a3 := Tryz.isAgg3
  z3 := Tryz.sizeOf3
  v3 := Tryz.zeroValue3
  t9 := Tryz.underlying9
  a9 := Tryz.isAgg9
  z9 := Tryz.sizeOf9
  v9 := Tryz.zeroValue9
  t37 := Tryz.underlying191
  a37 := Tryz.isAgg191
  z37 := Tryz.sizeOf191
  v37 := Tryz.zeroValue191
  t70 := Tryz.underlying190
  a70 := Tryz.isAgg190
  z70 := Tryz.sizeOf190
  v70 := Tryz.zeroValue190
  t72 := Tryz.underlying193
  a72 := Tryz.isAgg193
  z72 := Tryz.sizeOf193
  v72 := Tryz.zeroValue193
  t127 := Tryz.underlying244
  a127 := Tryz.isAgg244
  z127 := Tryz.sizeOf244
  v127 := Tryz.zeroValue244 }
theorem Tryz.Builder_Extra_169 : Builder.Extra Tryz.prog Tryz.lays169_ren := {
  sizeBuilder := by kernel_rfl
  liesBuilder := by kernel_rfl
  t5 := Tryz.underlying5
  a5 := Tryz.isAgg5
  z5 := Tryz.sizeOf5
  v5 := Tryz.zeroValue5
  infoByte := by kernel_rfl
  cellsByte := by kernel_rfl
  sizeByte := by kernel_rfl
  neB5 := by decide }
def Tryz.lays161_ren : Go.Shelf.Ren := ⟨fun | 161 => 203 | 231 => 256 | 227 => 258 | 233 => 259 | 235 => 261 | 228 => 299 | 197 => 300 | 151 => 301 | 260 => 318 | 152 => 319 | 137 => 330 | 119 => 331 | 224 => 323 | 225 => 322 | 217 => 321 | 266 => 332 | n => n, fun | 9 => 9 | 4 => 4 | 3 => 3 | 5 => 5 | 117 => 269 | 116 => 268 | 0 => 0 | 124 => 272 | 105 => 300 | 21 => 21 | 119 => 326 | 46 => 238 | 139 => 329 | 138 => 328 | n => n, fun | 3 => 6 | 4 => 7 | n => n⟩
theorem Tryz.lays161 : Go.Proofs.Lays.n161 Tryz.prog Tryz.lays161_ren := {
  mixed := by kernel_rfl
  f119 := Tryz.func331.trans (congrArg some (by kernel_rfl))
  f137 := Tryz.func330.trans (congrArg some (by kernel_rfl))
  f151 := Tryz.func301.trans (congrArg some (by kernel_rfl))
  f152 := Tryz.func319.trans (congrArg some (by kernel_rfl))
  f161 := Tryz.func203.trans (congrArg some (by kernel_rfl))
  f197 := Tryz.func300.trans (congrArg some (by kernel_rfl))
  f217 := Tryz.func321.trans (congrArg some (by kernel_rfl))
  f224 := Tryz.func323.trans (congrArg some (by kernel_rfl))
  f225 := Tryz.func322.trans (congrArg some (by kernel_rfl))
  f227 := Tryz.func258.trans (congrArg some (by kernel_rfl))
  f228 := Tryz.func299.trans (congrArg some (by kernel_rfl))
  f231 := Tryz.func256.trans (congrArg some (by kernel_rfl))
  f233 := Tryz.func259.trans (congrArg some (by kernel_rfl))
  f235 := Tryz.func261.trans (congrArg some (by kernel_rfl))
  f260 := Tryz.func318.trans (congrArg some (by kernel_rfl))
  f266 := Tryz.func332.trans (congrArg some (by kernel_rfl))
  t0 := Tryz.underlying0
  a0 := Tryz.isAgg0
  z0 := Tryz.sizeOf0
  v0 := Tryz.zeroValue0
  t3 := Tryz.underlying3
  a3 := Tryz.isAgg3
  z3 := Tryz.sizeOf3
  v3 := Tryz.zeroValue3
  t4 := Tryz.underlying4
  a4 := Tryz.isAgg4
  z4 := Tryz.sizeOf4
  v4 := Tryz.zeroValue4
  t5 := Tryz.underlying5
  a5 := Tryz.isAgg5
  z5 := Tryz.sizeOf5
  v5 := Tryz.zeroValue5
  t9 := Tryz.underlying9
  a9 := Tryz.isAgg9
  z9 := Tryz.sizeOf9
  v9 := Tryz.zeroValue9
  t21 := Tryz.underlying21
  a21 := Tryz.isAgg21
  z21 := Tryz.sizeOf21
  v21 := Tryz.zeroValue21
  t46 := Tryz.underlying238
  a46 := Tryz.isAgg238
  z46 := Tryz.sizeOf238
  v46 := Tryz.zeroValue238
  t105 := Tryz.underlying300
  a105 := Tryz.isAgg300
  z105 := Tryz.sizeOf300
  v105 := Tryz.zeroValue300
  t116 := Tryz.underlying268
  a116 := Tryz.isAgg268
  z116 := Tryz.sizeOf268
  t117 := Tryz.underlying269
  a117 := Tryz.isAgg269
  z117 := Tryz.sizeOf269
  v117 := Tryz.zeroValue269
  t119 := Tryz.underlying326
  a119 := Tryz.isAgg326
  z119 := Tryz.sizeOf326
  t124 := Tryz.underlying272
  a124 := Tryz.isAgg272
  z124 := Tryz.sizeOf272
  v124 := Tryz.zeroValue272
  t138 := Tryz.underlying328
  a138 := Tryz.isAgg328
  z138 := Tryz.sizeOf328
  v138 := Tryz.zeroValue328
  t139 := Tryz.underlying329
  a139 := Tryz.isAgg329
  z139 := Tryz.sizeOf329
  v139 := Tryz.zeroValue329
  g3 := by kernel_rfl
  g4 := by kernel_rfl }
open Go.RowKit in
theorem Tryz.strings_TrimLeft_one (s : ByteArray) (c : UInt8) (hc : c.toNat < 128) (w : World) :
    Calls Tryz.prog 203 #[.string s, .string ⟨#[c]⟩] w fun e w' => e = .returned (.string ⟨(Lib.trimLeftB s.data.toList c).toArray⟩) ∧ w' = w := Any.strings_TrimLeft_one Tryz.lays161 s c hc w
def Tryz.lays160_ren : Go.Shelf.Ren := ⟨fun | 160 => 202 | 232 => 257 | 231 => 256 | 227 => 258 | 234 => 260 | 233 => 259 | 236 => 262 | 235 => 261 | 228 => 299 | 271 => 302 | 151 => 301 | 197 => 300 | 120 => 320 | 152 => 319 | 260 => 318 | 137 => 330 | 119 => 331 | 224 => 323 | 225 => 322 | 217 => 321 | 266 => 332 | n => n, fun | 9 => 9 | 4 => 4 | 3 => 3 | 5 => 5 | 117 => 269 | 116 => 268 | 0 => 0 | 124 => 272 | 21 => 21 | 105 => 300 | 46 => 238 | 119 => 326 | 139 => 329 | 138 => 328 | n => n, fun | 3 => 6 | 4 => 7 | n => n⟩
theorem Tryz.lays160 : Go.Proofs.Lays.n160 Tryz.prog Tryz.lays160_ren := {
  mixed := by kernel_rfl
  f119 := Tryz.func331.trans (congrArg some (by kernel_rfl))
  f120 := Tryz.func320.trans (congrArg some (by kernel_rfl))
  f137 := Tryz.func330.trans (congrArg some (by kernel_rfl))
  f151 := Tryz.func301.trans (congrArg some (by kernel_rfl))
  f152 := Tryz.func319.trans (congrArg some (by kernel_rfl))
  f160 := Tryz.func202.trans (congrArg some (by kernel_rfl))
  f197 := Tryz.func300.trans (congrArg some (by kernel_rfl))
  f217 := Tryz.func321.trans (congrArg some (by kernel_rfl))
  f224 := Tryz.func323.trans (congrArg some (by kernel_rfl))
  f225 := Tryz.func322.trans (congrArg some (by kernel_rfl))
  f227 := Tryz.func258.trans (congrArg some (by kernel_rfl))
  f228 := Tryz.func299.trans (congrArg some (by kernel_rfl))
  f231 := Tryz.func256.trans (congrArg some (by kernel_rfl))
  f232 := Tryz.func257.trans (congrArg some (by kernel_rfl))
  f233 := Tryz.func259.trans (congrArg some (by kernel_rfl))
  f234 := Tryz.func260.trans (congrArg some (by kernel_rfl))
  f235 := Tryz.func261.trans (congrArg some (by kernel_rfl))
  f236 := Tryz.func262.trans (congrArg some (by kernel_rfl))
  f260 := Tryz.func318.trans (congrArg some (by kernel_rfl))
  f266 := Tryz.func332.trans (congrArg some (by kernel_rfl))
  f271 := Tryz.func302.trans (congrArg some (by kernel_rfl))
  t0 := Tryz.underlying0
  a0 := Tryz.isAgg0
  z0 := Tryz.sizeOf0
  v0 := Tryz.zeroValue0
  t3 := Tryz.underlying3
  a3 := Tryz.isAgg3
  z3 := Tryz.sizeOf3
  v3 := Tryz.zeroValue3
  t4 := Tryz.underlying4
  a4 := Tryz.isAgg4
  z4 := Tryz.sizeOf4
  v4 := Tryz.zeroValue4
  t5 := Tryz.underlying5
  a5 := Tryz.isAgg5
  z5 := Tryz.sizeOf5
  v5 := Tryz.zeroValue5
  t9 := Tryz.underlying9
  a9 := Tryz.isAgg9
  z9 := Tryz.sizeOf9
  v9 := Tryz.zeroValue9
  t21 := Tryz.underlying21
  a21 := Tryz.isAgg21
  z21 := Tryz.sizeOf21
  v21 := Tryz.zeroValue21
  t46 := Tryz.underlying238
  a46 := Tryz.isAgg238
  z46 := Tryz.sizeOf238
  v46 := Tryz.zeroValue238
  t105 := Tryz.underlying300
  a105 := Tryz.isAgg300
  z105 := Tryz.sizeOf300
  v105 := Tryz.zeroValue300
  t116 := Tryz.underlying268
  a116 := Tryz.isAgg268
  z116 := Tryz.sizeOf268
  t117 := Tryz.underlying269
  a117 := Tryz.isAgg269
  z117 := Tryz.sizeOf269
  v117 := Tryz.zeroValue269
  t119 := Tryz.underlying326
  a119 := Tryz.isAgg326
  z119 := Tryz.sizeOf326
  t124 := Tryz.underlying272
  a124 := Tryz.isAgg272
  z124 := Tryz.sizeOf272
  v124 := Tryz.zeroValue272
  t138 := Tryz.underlying328
  a138 := Tryz.isAgg328
  z138 := Tryz.sizeOf328
  v138 := Tryz.zeroValue328
  t139 := Tryz.underlying329
  a139 := Tryz.isAgg329
  z139 := Tryz.sizeOf329
  v139 := Tryz.zeroValue329
  g3 := by kernel_rfl
  g4 := by kernel_rfl }
def Tryz.lays103_ren : Go.Shelf.Ren := ⟨fun | 103 => 201 | 210 => 255 | 206 => 272 | n => n, fun | 9 => 9 | 4 => 4 | 24 => 181 | 3 => 3 | n => n, fun | n => n⟩
theorem Tryz.lays103 : Go.Proofs.Lays.n103 Tryz.prog Tryz.lays103_ren := {
  mixed := by kernel_rfl
  f103 := Tryz.func201.trans (congrArg some (by kernel_rfl))
  f206 := Tryz.func272.trans (congrArg some (by kernel_rfl))
  f210 := Tryz.func255.trans (congrArg some (by kernel_rfl))
  t3 := Tryz.underlying3
  a3 := Tryz.isAgg3
  z3 := Tryz.sizeOf3
  v3 := Tryz.zeroValue3
  t4 := Tryz.underlying4
  a4 := Tryz.isAgg4
  z4 := Tryz.sizeOf4
  v4 := Tryz.zeroValue4
  t9 := Tryz.underlying9
  a9 := Tryz.isAgg9
  z9 := Tryz.sizeOf9
  v9 := Tryz.zeroValue9
  t24 := Tryz.underlying181
  a24 := Tryz.isAgg181
  z24 := Tryz.sizeOf181
  v24 := Tryz.zeroValue181 }
open Go.RowKit in
theorem Tryz.strings_CutPrefix (s p : ByteArray) (w : World) :
    Calls Tryz.prog 201 #[.string s, .string p] w fun e w' => e = .returned (.tuple #[.string ⟨(Lib.trimPrefix s.data.toList p.data.toList).toArray⟩, .bool (Lib.hasPrefix s.data.toList p.data.toList)]) ∧ w' = w := Any.strings_CutPrefix Tryz.lays103 s p w
def Tryz.lays122_ren : Go.Shelf.Ren := ⟨fun | 122 => 314 | 215 => 327 | n => n, fun | 3 => 3 | 4 => 4 | n => n, fun | n => n⟩
theorem Tryz.lays122 : Go.Proofs.Lays.n122 Tryz.prog Tryz.lays122_ren := {
  mixed := by kernel_rfl
  f122 := Tryz.func314.trans (congrArg some (by kernel_rfl))
  f215 := Tryz.func327.trans (congrArg some (by kernel_rfl))
  t3 := Tryz.underlying3
  a3 := Tryz.isAgg3
  z3 := Tryz.sizeOf3
  v3 := Tryz.zeroValue3
  t4 := Tryz.underlying4
  a4 := Tryz.isAgg4
  z4 := Tryz.sizeOf4
  v4 := Tryz.zeroValue4 }
open Go.RowKit in
theorem Tryz.cmp_Compare_int (x y : Int) (w : World) :
    Calls Tryz.prog 314 #[.int .i64 x, .int .i64 y] w fun e w' => e = .returned (.int .i64 (Lib.compareInt x y)) ∧ w' = w := Any.cmp_Compare_int Tryz.lays122 x y w
open Go.RowKit in
theorem Tryz.Builder_String_any_f (B b : Nat) (l : List UInt8) (w : World) (h : Lib.IsBuilderF 193 5 B b (Lib.byteCells l) w) (hBw : B ≤ w.heap.size) :
    Calls Tryz.prog 140 #[.pointer (some ⟨b, 0, none⟩)] w fun e w' => e = .returned (.string ⟨l.toArray⟩) ∧ (Lib.IsBuilderF 193 5 B b (Lib.byteCells l) w' ∧ Below B w w') := Any.Builder_String_any_f Tryz.lays169 Tryz.Builder_Extra_169 B b l w h hBw
def Tryz.lays283_ren : Go.Shelf.Ren := ⟨fun | 283 => 237 | n => n, fun | 3 => 3 | 9 => 9 | 4 => 4 | n => n, fun | n => n⟩
theorem Tryz.lays283 : Go.Proofs.Lays.n283 Tryz.prog Tryz.lays283_ren := {
  mixed := by kernel_rfl
  f283 := Tryz.func237.trans (congrArg some (by kernel_rfl))
  t3 := Tryz.underlying3
  a3 := Tryz.isAgg3
  z3 := Tryz.sizeOf3
  v3 := Tryz.zeroValue3
  t4 := Tryz.underlying4
  a4 := Tryz.isAgg4
  z4 := Tryz.sizeOf4
  v4 := Tryz.zeroValue4
  t9 := Tryz.underlying9
  a9 := Tryz.isAgg9
  z9 := Tryz.sizeOf9
  v9 := Tryz.zeroValue9 }
open Go.Lib in
theorem Tryz.internal_strconv_small (i : Nat) (h : i < 100) (w : World) :
    Calls Tryz.prog 237 #[.int .i64 i] w fun e w' => e = .returned (.string ⟨(Lib.decDigits i).toArray⟩) ∧ w' = w := Any.internal_strconv_small Tryz.lays283 i h w
def Tryz.laysM284_ren : Go.Shelf.Ren := ⟨fun | 284 => 238 | 129 => 293 | 317 => 292 | 318 => 294 | n => n, fun | 53 => 183 | 3 => 3 | 212 => 295 | 0 => 0 | 4 => 4 | 46 => 238 | 5 => 5 | 9 => 9 | n => n, fun | 17 => 0 | n => n⟩
theorem Tryz.laysM284 : Go.Proofs.LaysM.n284 Tryz.prog Tryz.laysM284_ren := {
  mixed := by kernel_rfl
  f129 := Tryz.func293.trans (congrArg some (by kernel_rfl))
  f284 := Tryz.func238.trans (congrArg some (by kernel_rfl))
  f317 := Tryz.func292.trans (congrArg some (by kernel_rfl))
  f318 := Tryz.func294.trans (congrArg some (by kernel_rfl))
  t0 := Tryz.underlying0
  a0 := Tryz.isAgg0
  z0 := Tryz.sizeOf0
  v0 := Tryz.zeroValue0
  t3 := Tryz.underlying3
  a3 := Tryz.isAgg3
  z3 := Tryz.sizeOf3
  v3 := Tryz.zeroValue3
  t4 := Tryz.underlying4
  a4 := Tryz.isAgg4
  z4 := Tryz.sizeOf4
  v4 := Tryz.zeroValue4
  t5 := Tryz.underlying5
  a5 := Tryz.isAgg5
  z5 := Tryz.sizeOf5
  v5 := Tryz.zeroValue5
  t9 := Tryz.underlying9
  a9 := Tryz.isAgg9
  z9 := Tryz.sizeOf9
  v9 := Tryz.zeroValue9
  t46 := Tryz.underlying238
  a46 := Tryz.isAgg238
  z46 := Tryz.sizeOf238
  v46 := Tryz.zeroValue238
  t53 := Tryz.underlying183
  a53 := Tryz.isAgg183
  z53 := Tryz.sizeOf183
  v53 := Tryz.zeroValue183
  t212 := Tryz.underlying295
  a212 := Tryz.isAgg295
  z212 := Tryz.sizeOf295
  v212 := Tryz.zeroValue295
  g17 := by kernel_rfl
  i0 := by kernel_rfl
  i3 := by kernel_rfl
  i4 := by kernel_rfl
  i5 := by kernel_rfl
  i9 := by kernel_rfl
  i46 := by kernel_rfl
  i53 := by kernel_rfl
  i212 := by kernel_rfl
  m17 := by kernel_rfl }
open Go.Lib in
theorem Tryz.internal_strconv_numDigits (u : Nat) (h1 : 1 ≤ u) (h2 : u < 18446744073709551616) (w : World) (htab : Lib.TabIs Tryz.prog w "internal/strconv.uint64pow10" .u64 Lib.pow10Tab) :
    Calls Tryz.prog 238 #[.int .u64 u] w fun e w' => e = .returned (.int .i64 (Lib.nDigits u)) ∧ w' = w := Any.internal_strconv_numDigits Tryz.laysM284 u h1 h2 w htab
def Tryz.lays285_ren : Go.Shelf.Ren := ⟨fun | 285 => 239 | n => n, fun | 37 => 191 | 53 => 183 | 3 => 3 | 4 => 4 | 51 => 280 | 9 => 9 | 5 => 5 | 0 => 0 | n => n, fun | n => n⟩
theorem Tryz.lays285 : Go.Proofs.Lays.n285 Tryz.prog Tryz.lays285_ren := {
  mixed := by kernel_rfl
  f285 := Tryz.func239.trans (congrArg some (by kernel_rfl))
  t0 := Tryz.underlying0
  a0 := Tryz.isAgg0
  z0 := Tryz.sizeOf0
  v0 := Tryz.zeroValue0
  t3 := Tryz.underlying3
  a3 := Tryz.isAgg3
  z3 := Tryz.sizeOf3
  v3 := Tryz.zeroValue3
  t4 := Tryz.underlying4
  a4 := Tryz.isAgg4
  z4 := Tryz.sizeOf4
  v4 := Tryz.zeroValue4
  t5 := Tryz.underlying5
  a5 := Tryz.isAgg5
  z5 := Tryz.sizeOf5
  v5 := Tryz.zeroValue5
  t9 := Tryz.underlying9
  a9 := Tryz.isAgg9
  z9 := Tryz.sizeOf9
  v9 := Tryz.zeroValue9
  t37 := Tryz.underlying191
  a37 := Tryz.isAgg191
  z37 := Tryz.sizeOf191
  v37 := Tryz.zeroValue191
  t51 := Tryz.underlying280
  a51 := Tryz.isAgg280
  z51 := Tryz.sizeOf280
  v51 := Tryz.zeroValue280
  t53 := Tryz.underlying183
  a53 := Tryz.isAgg183
  z53 := Tryz.sizeOf183
  v53 := Tryz.zeroValue183 }
open Go.RowKit Go.Sort Go.Lib in
theorem Tryz.internal_strconv_formatBase10 (blk off cap : Nat) (u : Nat) (d : Array UInt8) (w : World) (hH : Holds (fun (b : UInt8) => Value.int .u8 (b.toNat : Int)) w blk off d) (hu : u < 10 ^ d.size) (hu64 : u < 18446744073709551616) (hsz : d.size < 4611686018427387904) :
    Calls Tryz.prog 239 #[.slice (some ⟨blk, off, none⟩) d.size cap, .int .u64 u] w fun e w' =>
      e = .returned (.tuple #[]) ∧ ∃ (n v' : Nat) (dk : Array UInt8), w' = (putRow (fun (b : UInt8) => Value.int .u8 (b.toNat : Int)) w blk off dk).drewN n ∧ FmtInv d.size u 0 v' dk := Any.internal_strconv_formatBase10 Tryz.lays285 blk off cap u d w hH hu hu64 hsz
def Tryz.laysM171_ren : Go.Shelf.Ren := ⟨fun | 171 => 56 | 243 => 112 | 246 => 176 | 283 => 237 | 284 => 238 | 285 => 239 | 286 => 240 | 129 => 293 | 317 => 292 | 318 => 294 | 319 => 295 | 320 => 296 | 337 => 316 | 338 => 317 | n => n, fun | 3 => 3 | 9 => 9 | 2 => 2 | 4 => 4 | 171 => 254 | 0 => 0 | 53 => 183 | 37 => 191 | 5 => 5 | 173 => 257 | 212 => 295 | 51 => 280 | 20 => 20 | 213 => 296 | 46 => 238 | 232 => 324 | 233 => 325 | n => n, fun | 17 => 0 | 18 => 4 | 19 => 5 | n => n⟩
theorem Tryz.laysM171 : Go.Proofs.LaysM.n171 Tryz.prog Tryz.laysM171_ren := {
  mixed := by kernel_rfl
  f129 := Tryz.func293.trans (congrArg some (by kernel_rfl))
  f171 := Tryz.func56.trans (congrArg some (by kernel_rfl))
  f243 := Tryz.func112.trans (congrArg some (by kernel_rfl))
  f246 := Tryz.func176.trans (congrArg some (by kernel_rfl))
  f283 := Tryz.func237.trans (congrArg some (by kernel_rfl))
  f284 := Tryz.func238.trans (congrArg some (by kernel_rfl))
  f285 := Tryz.func239.trans (congrArg some (by kernel_rfl))
  f286 := Tryz.func240.trans (congrArg some (by kernel_rfl))
  f317 := Tryz.func292.trans (congrArg some (by kernel_rfl))
  f318 := Tryz.func294.trans (congrArg some (by kernel_rfl))
  f319 := Tryz.func295.trans (congrArg some (by kernel_rfl))
  f320 := Tryz.func296.trans (congrArg some (by kernel_rfl))
  f337 := Tryz.func316.trans (congrArg some (by kernel_rfl))
  f338 := Tryz.func317.trans (congrArg some (by kernel_rfl))
  t0 := Tryz.underlying0
  a0 := Tryz.isAgg0
  z0 := Tryz.sizeOf0
  v0 := Tryz.zeroValue0
  t2 := Tryz.underlying2
  a2 := Tryz.isAgg2
  z2 := Tryz.sizeOf2
  v2 := Tryz.zeroValue2
  t3 := Tryz.underlying3
  a3 := Tryz.isAgg3
  z3 := Tryz.sizeOf3
  v3 := Tryz.zeroValue3
  t4 := Tryz.underlying4
  a4 := Tryz.isAgg4
  z4 := Tryz.sizeOf4
  v4 := Tryz.zeroValue4
  t5 := Tryz.underlying5
  a5 := Tryz.isAgg5
  z5 := Tryz.sizeOf5
  v5 := Tryz.zeroValue5
  t9 := Tryz.underlying9
  a9 := Tryz.isAgg9
  z9 := Tryz.sizeOf9
  v9 := Tryz.zeroValue9
  t20 := Tryz.underlying20
  a20 := Tryz.isAgg20
  z20 := Tryz.sizeOf20
  v20 := Tryz.zeroValue20
  t37 := Tryz.underlying191
  a37 := Tryz.isAgg191
  z37 := Tryz.sizeOf191
  v37 := Tryz.zeroValue191
  t46 := Tryz.underlying238
  a46 := Tryz.isAgg238
  z46 := Tryz.sizeOf238
  v46 := Tryz.zeroValue238
  t51 := Tryz.underlying280
  a51 := Tryz.isAgg280
  z51 := Tryz.sizeOf280
  v51 := Tryz.zeroValue280
  t53 := Tryz.underlying183
  a53 := Tryz.isAgg183
  z53 := Tryz.sizeOf183
  v53 := Tryz.zeroValue183
  t171 := Tryz.underlying254
  a171 := Tryz.isAgg254
  z171 := Tryz.sizeOf254
  v171 := Tryz.zeroValue254
  t173 := Tryz.underlying257
  a173 := Tryz.isAgg257
  z173 := Tryz.sizeOf257
  v173 := Tryz.zeroValue257
  t212 := Tryz.underlying295
  a212 := Tryz.isAgg295
  z212 := Tryz.sizeOf295
  v212 := Tryz.zeroValue295
  t213 := Tryz.underlying296
  a213 := Tryz.isAgg296
  z213 := Tryz.sizeOf296
  t232 := Tryz.underlying324
  a232 := Tryz.isAgg324
  z232 := Tryz.sizeOf324
  v232 := Tryz.zeroValue324
  t233 := Tryz.underlying325
  a233 := Tryz.isAgg325
  z233 := Tryz.sizeOf325
  v233 := Tryz.zeroValue325
  g17 := by kernel_rfl
  g18 := by kernel_rfl
  g19 := by kernel_rfl
  i0 := by kernel_rfl
  i2 := by kernel_rfl
  i3 := by kernel_rfl
  i4 := by kernel_rfl
  i5 := by kernel_rfl
  i9 := by kernel_rfl
  i20 := by kernel_rfl
  i37 := by kernel_rfl
  i46 := by kernel_rfl
  i51 := by kernel_rfl
  i53 := by kernel_rfl
  i171 := by kernel_rfl
  i173 := by kernel_rfl
  i212 := by kernel_rfl
  i232 := by kernel_rfl
  i233 := by kernel_rfl
  m17 := by kernel_rfl
  m18 := by kernel_rfl
  m19 := by kernel_rfl }
open Go.RowKit Go.Sort Go.Lib in
theorem Tryz.strconv_Itoa (n : Int) (h0 : -9223372036854775808 ≤ n) (h1 : n ≤ 9223372036854775807) (w : World) (htab : Lib.TabIs Tryz.prog w "internal/strconv.uint64pow10" .u64 Lib.pow10Tab) :
    Calls Tryz.prog 56 #[.int .i64 n] w fun e w' => e = .returned (.string ⟨(Lib.itoa n).toArray⟩) ∧ ∃ k os, w' = grow (w.drewN k) os := Any.strconv_Itoa Tryz.laysM171 n h0 h1 w htab
def Tryz.laysC172_ren : Go.Shelf.Ren := ⟨fun | 172 => 215 | 244 => 276 | 245 => 205 | 247 => 307 | 279 => 265 | 280 => 266 | 281 => 267 | 282 => 268 | 287 => 204 | 316 => 303 | 171 => 56 | 205 => 304 | 321 => 263 | 322 => 264 | 243 => 112 | 246 => 176 | 283 => 237 | 284 => 238 | 285 => 239 | 286 => 240 | 129 => 293 | 317 => 292 | 318 => 294 | 319 => 295 | 320 => 296 | 337 => 316 | 338 => 317 | n => n, fun | 9 => 9 | 3 => 3 | 75 => 185 | 76 => 195 | 4 => 4 | 5 => 5 | 167 => 273 | 37 => 191 | 0 => 0 | 85 => 309 | 2 => 2 | 168 => 275 | 53 => 183 | 175 => 186 | 46 => 238 | 210 => 305 | 127 => 244 | 145 => 321 | 143 => 319 | 21 => 21 | 171 => 254 | 173 => 257 | 212 => 295 | 51 => 280 | 20 => 20 | 213 => 296 | 232 => 324 | 233 => 325 | 80 => 198 | n => n, fun | 15 => 1 | 16 => 2 | 17 => 0 | 18 => 4 | 19 => 5 | n => n⟩
theorem Tryz.laysC172 : Go.Proofs.LaysC.n172 Tryz.prog Tryz.laysC172_ren := {
  mixed := by kernel_rfl
  f129 := Tryz.func293.trans (congrArg some (by kernel_rfl))
  f171 := Tryz.func56.trans (congrArg some (by kernel_rfl))
  f172 := Tryz.func215.trans (congrArg some (by kernel_rfl))
  f205 := Tryz.func304.trans (congrArg some (by kernel_rfl))
  f243 := Tryz.func112.trans (congrArg some (by kernel_rfl))
  f244 := Tryz.func276.trans (congrArg some (by kernel_rfl))
  f245 := Tryz.func205.trans (congrArg some (by kernel_rfl))
  f246 := Tryz.func176.trans (congrArg some (by kernel_rfl))
  f247 := Tryz.func307.trans (congrArg some (by kernel_rfl))
  f279 := Tryz.func265.trans (congrArg some (by kernel_rfl))
  f280 := Tryz.func266.trans (congrArg some (by kernel_rfl))
  f281 := Tryz.func267.trans (congrArg some (by kernel_rfl))
  f282 := Tryz.func268.trans (congrArg some (by kernel_rfl))
  f283 := Tryz.func237.trans (congrArg some (by kernel_rfl))
  f284 := Tryz.func238.trans (congrArg some (by kernel_rfl))
  f285 := Tryz.func239.trans (congrArg some (by kernel_rfl))
  f286 := Tryz.func240.trans (congrArg some (by kernel_rfl))
  f287 := Tryz.func204.trans (congrArg some (by kernel_rfl))
  f316 := Tryz.func303.trans (congrArg some (by kernel_rfl))
  f317 := Tryz.func292.trans (congrArg some (by kernel_rfl))
  f318 := Tryz.func294.trans (congrArg some (by kernel_rfl))
  f319 := Tryz.func295.trans (congrArg some (by kernel_rfl))
  f320 := Tryz.func296.trans (congrArg some (by kernel_rfl))
  f321 := Tryz.func263.trans (congrArg some (by kernel_rfl))
  f322 := Tryz.func264.trans (congrArg some (by kernel_rfl))
  f337 := Tryz.func316.trans (congrArg some (by kernel_rfl))
  f338 := Tryz.func317.trans (congrArg some (by kernel_rfl))
  t0 := Tryz.underlying0
  a0 := Tryz.isAgg0
  z0 := Tryz.sizeOf0
  v0 := Tryz.zeroValue0
  t2 := Tryz.underlying2
  a2 := Tryz.isAgg2
  z2 := Tryz.sizeOf2
  v2 := Tryz.zeroValue2
  t3 := Tryz.underlying3
  a3 := Tryz.isAgg3
  z3 := Tryz.sizeOf3
  v3 := Tryz.zeroValue3
  t4 := Tryz.underlying4
  a4 := Tryz.isAgg4
  z4 := Tryz.sizeOf4
  v4 := Tryz.zeroValue4
  t5 := Tryz.underlying5
  a5 := Tryz.isAgg5
  z5 := Tryz.sizeOf5
  v5 := Tryz.zeroValue5
  t9 := Tryz.underlying9
  a9 := Tryz.isAgg9
  z9 := Tryz.sizeOf9
  v9 := Tryz.zeroValue9
  t20 := Tryz.underlying20
  a20 := Tryz.isAgg20
  z20 := Tryz.sizeOf20
  v20 := Tryz.zeroValue20
  t21 := Tryz.underlying21
  a21 := Tryz.isAgg21
  z21 := Tryz.sizeOf21
  v21 := Tryz.zeroValue21
  t37 := Tryz.underlying191
  a37 := Tryz.isAgg191
  z37 := Tryz.sizeOf191
  v37 := Tryz.zeroValue191
  t46 := Tryz.underlying238
  a46 := Tryz.isAgg238
  z46 := Tryz.sizeOf238
  v46 := Tryz.zeroValue238
  t51 := Tryz.underlying280
  a51 := Tryz.isAgg280
  z51 := Tryz.sizeOf280
  v51 := Tryz.zeroValue280
  t53 := Tryz.underlying183
  a53 := Tryz.isAgg183
  z53 := Tryz.sizeOf183
  v53 := Tryz.zeroValue183
  t75 := Tryz.underlying185
  a75 := Tryz.isAgg185
  z75 := Tryz.sizeOf185
  v75 := Tryz.zeroValue185
  t76 := Tryz.underlying195
  a76 := Tryz.isAgg195
  z76 := Tryz.sizeOf195
  v76 := Tryz.zeroValue195
  t85 := Tryz.underlying309
  a85 := Tryz.isAgg309
  z85 := Tryz.sizeOf309
  v85 := Tryz.zeroValue309
  t127 := Tryz.underlying244
  a127 := Tryz.isAgg244
  z127 := Tryz.sizeOf244
  v127 := Tryz.zeroValue244
  t143 := Tryz.underlying319
  a143 := Tryz.isAgg319
  z143 := Tryz.sizeOf319
  v143 := Tryz.zeroValue319
  t145 := Tryz.underlying321
  a145 := Tryz.isAgg321
  z145 := Tryz.sizeOf321
  v145 := Tryz.zeroValue321
  t167 := Tryz.underlying273
  a167 := Tryz.isAgg273
  z167 := Tryz.sizeOf273
  v167 := Tryz.zeroValue273
  t168 := Tryz.underlying275
  a168 := Tryz.isAgg275
  z168 := Tryz.sizeOf275
  v168 := Tryz.zeroValue275
  t171 := Tryz.underlying254
  a171 := Tryz.isAgg254
  z171 := Tryz.sizeOf254
  v171 := Tryz.zeroValue254
  t173 := Tryz.underlying257
  a173 := Tryz.isAgg257
  z173 := Tryz.sizeOf257
  v173 := Tryz.zeroValue257
  t175 := Tryz.underlying186
  a175 := Tryz.isAgg186
  z175 := Tryz.sizeOf186
  v175 := Tryz.zeroValue186
  t210 := Tryz.underlying305
  a210 := Tryz.isAgg305
  z210 := Tryz.sizeOf305
  v210 := Tryz.zeroValue305
  t212 := Tryz.underlying295
  a212 := Tryz.isAgg295
  z212 := Tryz.sizeOf295
  v212 := Tryz.zeroValue295
  t213 := Tryz.underlying296
  a213 := Tryz.isAgg296
  z213 := Tryz.sizeOf296
  t232 := Tryz.underlying324
  a232 := Tryz.isAgg324
  z232 := Tryz.sizeOf324
  v232 := Tryz.zeroValue324
  t233 := Tryz.underlying325
  a233 := Tryz.isAgg325
  z233 := Tryz.sizeOf325
  v233 := Tryz.zeroValue325
  g15 := by kernel_rfl
  g16 := by kernel_rfl
  g17 := by kernel_rfl
  g18 := by kernel_rfl
  g19 := by kernel_rfl
  t80 := Tryz.underlying198
  a80 := Tryz.isAgg198
  z80 := Tryz.sizeOf198
  v80 := Tryz.zeroValue198
  i0 := by kernel_rfl
  i2 := by kernel_rfl
  i3 := by kernel_rfl
  i4 := by kernel_rfl
  i5 := by kernel_rfl
  i9 := by kernel_rfl
  i20 := by kernel_rfl
  i21 := by kernel_rfl
  i37 := by kernel_rfl
  i46 := by kernel_rfl
  i51 := by kernel_rfl
  i53 := by kernel_rfl
  i75 := by kernel_rfl
  i76 := by kernel_rfl
  i80 := by kernel_rfl
  i85 := by kernel_rfl
  i127 := by kernel_rfl
  i143 := by kernel_rfl
  i145 := by kernel_rfl
  i167 := by kernel_rfl
  i168 := by kernel_rfl
  i171 := by kernel_rfl
  i173 := by kernel_rfl
  i175 := by kernel_rfl
  i210 := by kernel_rfl
  i212 := by kernel_rfl
  i232 := by kernel_rfl
  i233 := by kernel_rfl
  m15 := by kernel_rfl
  m16 := by kernel_rfl
  m17 := by kernel_rfl
  m18 := by kernel_rfl
  m19 := by kernel_rfl
  c0 := by kernel_rfl
  c2 := by kernel_rfl
  c3 := by kernel_rfl
  c4 := by kernel_rfl
  c5 := by kernel_rfl
  c9 := by kernel_rfl
  c20 := by kernel_rfl
  c21 := by kernel_rfl
  c37 := by kernel_rfl
  c46 := by kernel_rfl
  c51 := by kernel_rfl
  c53 := by kernel_rfl
  c75 := by kernel_rfl
  c76 := by kernel_rfl
  c80 := by kernel_rfl
  c85 := by kernel_rfl
  c127 := by kernel_rfl
  c143 := by kernel_rfl
  c145 := by kernel_rfl
  c167 := by kernel_rfl
  c168 := by kernel_rfl
  c171 := by kernel_rfl
  c173 := by kernel_rfl
  c175 := by kernel_rfl
  c210 := by kernel_rfl
  c212 := by kernel_rfl
  c213 := by kernel_rfl
  c232 := by kernel_rfl
  c233 := by kernel_rfl }
open Go.RowKit in
theorem Tryz.strconv_Atoi_ok (s : ByteArray) (hmax : s.size ≤ 9223372036854775806) (v : Int) (h : Lib.atoiAll s.data.toList = .ok v) (w : World) :
    Calls Tryz.prog 215 #[.string s] w fun e w' => e = .returned (.tuple #[.int .i64 v, .nilIface]) ∧ (w' = w ∨ ∃ t, w' = Lib.bytesWorld w 5 t) := Any.strconv_Atoi_ok Tryz.laysC172 s hmax v h w
open Go.RowKit in
theorem Tryz.strconv_Atoi_range (s : ByteArray) (hlim : s.size ≤ 281474976710656) (h : Lib.atoiAll s.data.toList = .range) (ev : Value) (w : World) (hv : w.cell? ⟨2, 0, none⟩ = some ev) (hev : ev = .nilIface ∨ ∃ te pe, ev = .iface te pe) :
    Calls Tryz.prog 215 #[.string s] w fun e w' => ∃ N, e = .returned (.tuple #[.int .i64 (Lib.atoiSat s.data.toList), .iface 275 (.pointer (some ⟨N, 0, none⟩))]) ∧ w.heap.size ≤ N ∧ w'.heap[N]? = some (.cells #[.string ⟨#[65, 116, 111, 105]⟩, .string s, ev] 305 (0, 0)) ∧ Below w.heap.size w w' := Any.strconv_Atoi_range Tryz.laysC172 s hlim h ev w hv hev
def Tryz.laysC174_ren : Go.Shelf.Ren := ⟨fun | 174 => 328 | 247 => 307 | 245 => 205 | 287 => 204 | 279 => 265 | 280 => 266 | 281 => 267 | 282 => 268 | 321 => 263 | 322 => 264 | 316 => 303 | 171 => 56 | 205 => 304 | 243 => 112 | 246 => 176 | 283 => 237 | 284 => 238 | 285 => 239 | 286 => 240 | 129 => 293 | 317 => 292 | 318 => 294 | 319 => 295 | 320 => 296 | 337 => 316 | 338 => 317 | n => n, fun | 9 => 9 | 3 => 3 | 2 => 2 | 75 => 185 | 85 => 309 | 4 => 4 | 167 => 273 | 5 => 5 | 53 => 183 | 175 => 186 | 46 => 238 | 168 => 275 | 37 => 191 | 0 => 0 | 210 => 305 | 21 => 21 | 127 => 244 | 145 => 321 | 143 => 319 | 171 => 254 | 173 => 257 | 212 => 295 | 51 => 280 | 20 => 20 | 213 => 296 | 232 => 324 | 233 => 325 | 80 => 198 | n => n, fun | 15 => 1 | 16 => 2 | 17 => 0 | 18 => 4 | 19 => 5 | n => n⟩
theorem Tryz.laysC174 : Go.Proofs.LaysC.n174 Tryz.prog Tryz.laysC174_ren := {
  mixed := by kernel_rfl
  f129 := Tryz.func293.trans (congrArg some (by kernel_rfl))
  f171 := Tryz.func56.trans (congrArg some (by kernel_rfl))
  f174 := Tryz.func328.trans (congrArg some (by kernel_rfl))
  f205 := Tryz.func304.trans (congrArg some (by kernel_rfl))
  f243 := Tryz.func112.trans (congrArg some (by kernel_rfl))
  f245 := Tryz.func205.trans (congrArg some (by kernel_rfl))
  f246 := Tryz.func176.trans (congrArg some (by kernel_rfl))
  f247 := Tryz.func307.trans (congrArg some (by kernel_rfl))
  f279 := Tryz.func265.trans (congrArg some (by kernel_rfl))
  f280 := Tryz.func266.trans (congrArg some (by kernel_rfl))
  f281 := Tryz.func267.trans (congrArg some (by kernel_rfl))
  f282 := Tryz.func268.trans (congrArg some (by kernel_rfl))
  f283 := Tryz.func237.trans (congrArg some (by kernel_rfl))
  f284 := Tryz.func238.trans (congrArg some (by kernel_rfl))
  f285 := Tryz.func239.trans (congrArg some (by kernel_rfl))
  f286 := Tryz.func240.trans (congrArg some (by kernel_rfl))
  f287 := Tryz.func204.trans (congrArg some (by kernel_rfl))
  f316 := Tryz.func303.trans (congrArg some (by kernel_rfl))
  f317 := Tryz.func292.trans (congrArg some (by kernel_rfl))
  f318 := Tryz.func294.trans (congrArg some (by kernel_rfl))
  f319 := Tryz.func295.trans (congrArg some (by kernel_rfl))
  f320 := Tryz.func296.trans (congrArg some (by kernel_rfl))
  f321 := Tryz.func263.trans (congrArg some (by kernel_rfl))
  f322 := Tryz.func264.trans (congrArg some (by kernel_rfl))
  f337 := Tryz.func316.trans (congrArg some (by kernel_rfl))
  f338 := Tryz.func317.trans (congrArg some (by kernel_rfl))
  t0 := Tryz.underlying0
  a0 := Tryz.isAgg0
  z0 := Tryz.sizeOf0
  v0 := Tryz.zeroValue0
  t2 := Tryz.underlying2
  a2 := Tryz.isAgg2
  z2 := Tryz.sizeOf2
  v2 := Tryz.zeroValue2
  t3 := Tryz.underlying3
  a3 := Tryz.isAgg3
  z3 := Tryz.sizeOf3
  v3 := Tryz.zeroValue3
  t4 := Tryz.underlying4
  a4 := Tryz.isAgg4
  z4 := Tryz.sizeOf4
  v4 := Tryz.zeroValue4
  t5 := Tryz.underlying5
  a5 := Tryz.isAgg5
  z5 := Tryz.sizeOf5
  v5 := Tryz.zeroValue5
  t9 := Tryz.underlying9
  a9 := Tryz.isAgg9
  z9 := Tryz.sizeOf9
  v9 := Tryz.zeroValue9
  t20 := Tryz.underlying20
  a20 := Tryz.isAgg20
  z20 := Tryz.sizeOf20
  v20 := Tryz.zeroValue20
  t21 := Tryz.underlying21
  a21 := Tryz.isAgg21
  z21 := Tryz.sizeOf21
  v21 := Tryz.zeroValue21
  t37 := Tryz.underlying191
  a37 := Tryz.isAgg191
  z37 := Tryz.sizeOf191
  v37 := Tryz.zeroValue191
  t46 := Tryz.underlying238
  a46 := Tryz.isAgg238
  z46 := Tryz.sizeOf238
  v46 := Tryz.zeroValue238
  t51 := Tryz.underlying280
  a51 := Tryz.isAgg280
  z51 := Tryz.sizeOf280
  v51 := Tryz.zeroValue280
  t53 := Tryz.underlying183
  a53 := Tryz.isAgg183
  z53 := Tryz.sizeOf183
  v53 := Tryz.zeroValue183
  t75 := Tryz.underlying185
  a75 := Tryz.isAgg185
  z75 := Tryz.sizeOf185
  v75 := Tryz.zeroValue185
  t85 := Tryz.underlying309
  a85 := Tryz.isAgg309
  z85 := Tryz.sizeOf309
  v85 := Tryz.zeroValue309
  t127 := Tryz.underlying244
  a127 := Tryz.isAgg244
  z127 := Tryz.sizeOf244
  v127 := Tryz.zeroValue244
  t143 := Tryz.underlying319
  a143 := Tryz.isAgg319
  z143 := Tryz.sizeOf319
  v143 := Tryz.zeroValue319
  t145 := Tryz.underlying321
  a145 := Tryz.isAgg321
  z145 := Tryz.sizeOf321
  v145 := Tryz.zeroValue321
  t167 := Tryz.underlying273
  a167 := Tryz.isAgg273
  z167 := Tryz.sizeOf273
  v167 := Tryz.zeroValue273
  t168 := Tryz.underlying275
  a168 := Tryz.isAgg275
  z168 := Tryz.sizeOf275
  v168 := Tryz.zeroValue275
  t171 := Tryz.underlying254
  a171 := Tryz.isAgg254
  z171 := Tryz.sizeOf254
  v171 := Tryz.zeroValue254
  t173 := Tryz.underlying257
  a173 := Tryz.isAgg257
  z173 := Tryz.sizeOf257
  v173 := Tryz.zeroValue257
  t175 := Tryz.underlying186
  a175 := Tryz.isAgg186
  z175 := Tryz.sizeOf186
  v175 := Tryz.zeroValue186
  t210 := Tryz.underlying305
  a210 := Tryz.isAgg305
  z210 := Tryz.sizeOf305
  v210 := Tryz.zeroValue305
  t212 := Tryz.underlying295
  a212 := Tryz.isAgg295
  z212 := Tryz.sizeOf295
  v212 := Tryz.zeroValue295
  t213 := Tryz.underlying296
  a213 := Tryz.isAgg296
  z213 := Tryz.sizeOf296
  t232 := Tryz.underlying324
  a232 := Tryz.isAgg324
  z232 := Tryz.sizeOf324
  v232 := Tryz.zeroValue324
  t233 := Tryz.underlying325
  a233 := Tryz.isAgg325
  z233 := Tryz.sizeOf325
  v233 := Tryz.zeroValue325
  g15 := by kernel_rfl
  g16 := by kernel_rfl
  g17 := by kernel_rfl
  g18 := by kernel_rfl
  g19 := by kernel_rfl
  t80 := Tryz.underlying198
  a80 := Tryz.isAgg198
  z80 := Tryz.sizeOf198
  v80 := Tryz.zeroValue198
  i0 := by kernel_rfl
  i2 := by kernel_rfl
  i3 := by kernel_rfl
  i4 := by kernel_rfl
  i5 := by kernel_rfl
  i9 := by kernel_rfl
  i20 := by kernel_rfl
  i21 := by kernel_rfl
  i37 := by kernel_rfl
  i46 := by kernel_rfl
  i51 := by kernel_rfl
  i53 := by kernel_rfl
  i75 := by kernel_rfl
  i80 := by kernel_rfl
  i85 := by kernel_rfl
  i127 := by kernel_rfl
  i143 := by kernel_rfl
  i145 := by kernel_rfl
  i167 := by kernel_rfl
  i168 := by kernel_rfl
  i171 := by kernel_rfl
  i173 := by kernel_rfl
  i175 := by kernel_rfl
  i210 := by kernel_rfl
  i212 := by kernel_rfl
  i232 := by kernel_rfl
  i233 := by kernel_rfl
  m15 := by kernel_rfl
  m16 := by kernel_rfl
  m17 := by kernel_rfl
  m18 := by kernel_rfl
  m19 := by kernel_rfl
  c0 := by kernel_rfl
  c2 := by kernel_rfl
  c3 := by kernel_rfl
  c4 := by kernel_rfl
  c5 := by kernel_rfl
  c9 := by kernel_rfl
  c20 := by kernel_rfl
  c21 := by kernel_rfl
  c37 := by kernel_rfl
  c46 := by kernel_rfl
  c51 := by kernel_rfl
  c53 := by kernel_rfl
  c75 := by kernel_rfl
  c80 := by kernel_rfl
  c85 := by kernel_rfl
  c127 := by kernel_rfl
  c143 := by kernel_rfl
  c145 := by kernel_rfl
  c167 := by kernel_rfl
  c168 := by kernel_rfl
  c171 := by kernel_rfl
  c173 := by kernel_rfl
  c175 := by kernel_rfl
  c210 := by kernel_rfl
  c212 := by kernel_rfl
  c213 := by kernel_rfl
  c232 := by kernel_rfl
  c233 := by kernel_rfl }
open Go.RowKit in
theorem Tryz.strconv_ParseInt_10_at64_ok (s : ByteArray) (hmax : s.size ≤ 9223372036854775806) (v : Int) (h : Lib.parseIntB 64 s.data.toList = .ok v) (w : World) :
    Calls Tryz.prog 328 #[.string s, .int .i64 10, .int .i64 64] w fun e w' => e = .returned (.tuple #[.int .i64 v, .nilIface]) ∧ (w' = w ∨ ∃ t, w' = Lib.bytesWorld w 5 t) := Any.strconv_ParseInt_10_at64_ok Tryz.laysC174 s hmax v h w
def Tryz.laysPu14_ren : Go.Shelf.Ren := ⟨fun | 14 => 132 | 16 => 204 | 17 => 205 | 19 => 263 | 20 => 264 | 21 => 265 | 22 => 266 | 23 => 267 | 24 => 268 | 25 => 303 | 27 => 56 | 26 => 304 | 28 => 112 | 29 => 176 | 30 => 237 | 31 => 238 | 32 => 239 | 33 => 240 | 35 => 293 | 34 => 292 | 36 => 294 | 37 => 295 | 38 => 296 | 39 => 316 | 40 => 317 | n => n, fun | 9 => 9 | 3 => 3 | 22 => 183 | 24 => 185 | 25 => 186 | 4 => 4 | 34 => 273 | 5 => 5 | 36 => 238 | 37 => 191 | 0 => 0 | 39 => 275 | 21 => 21 | 44 => 305 | 47 => 244 | 50 => 321 | 48 => 319 | 2 => 2 | 52 => 254 | 55 => 257 | 59 => 295 | 60 => 280 | 20 => 20 | 61 => 296 | 65 => 324 | 66 => 325 | 67 => 198 | n => n, fun | 0 => 1 | 1 => 2 | 2 => 0 | 3 => 4 | 4 => 5 | n => n⟩
theorem Tryz.laysPu14 : Go.Proofs.LaysPu.n14 Tryz.prog Tryz.laysPu14_ren := {
  mixed := by kernel_rfl
  f14 := Tryz.func132.trans (congrArg some (by kernel_rfl))
  f16 := Tryz.func204.trans (congrArg some (by kernel_rfl))
  f17 := Tryz.func205.trans (congrArg some (by kernel_rfl))
  f19 := Tryz.func263.trans (congrArg some (by kernel_rfl))
  f20 := Tryz.func264.trans (congrArg some (by kernel_rfl))
  f21 := Tryz.func265.trans (congrArg some (by kernel_rfl))
  f22 := Tryz.func266.trans (congrArg some (by kernel_rfl))
  f23 := Tryz.func267.trans (congrArg some (by kernel_rfl))
  f24 := Tryz.func268.trans (congrArg some (by kernel_rfl))
  f25 := Tryz.func303.trans (congrArg some (by kernel_rfl))
  f26 := Tryz.func304.trans (congrArg some (by kernel_rfl))
  f27 := Tryz.func56.trans (congrArg some (by kernel_rfl))
  f28 := Tryz.func112.trans (congrArg some (by kernel_rfl))
  f29 := Tryz.func176.trans (congrArg some (by kernel_rfl))
  f30 := Tryz.func237.trans (congrArg some (by kernel_rfl))
  f31 := Tryz.func238.trans (congrArg some (by kernel_rfl))
  f32 := Tryz.func239.trans (congrArg some (by kernel_rfl))
  f33 := Tryz.func240.trans (congrArg some (by kernel_rfl))
  f34 := Tryz.func292.trans (congrArg some (by kernel_rfl))
  f35 := Tryz.func293.trans (congrArg some (by kernel_rfl))
  f36 := Tryz.func294.trans (congrArg some (by kernel_rfl))
  f37 := Tryz.func295.trans (congrArg some (by kernel_rfl))
  f38 := Tryz.func296.trans (congrArg some (by kernel_rfl))
  f39 := Tryz.func316.trans (congrArg some (by kernel_rfl))
  f40 := Tryz.func317.trans (congrArg some (by kernel_rfl))
  t0 := Tryz.underlying0
  a0 := Tryz.isAgg0
  z0 := Tryz.sizeOf0
  v0 := Tryz.zeroValue0
  i0 := by kernel_rfl
  t2 := Tryz.underlying2
  a2 := Tryz.isAgg2
  z2 := Tryz.sizeOf2
  v2 := Tryz.zeroValue2
  i2 := by kernel_rfl
  t3 := Tryz.underlying3
  a3 := Tryz.isAgg3
  z3 := Tryz.sizeOf3
  v3 := Tryz.zeroValue3
  i3 := by kernel_rfl
  t4 := Tryz.underlying4
  a4 := Tryz.isAgg4
  z4 := Tryz.sizeOf4
  v4 := Tryz.zeroValue4
  i4 := by kernel_rfl
  t5 := Tryz.underlying5
  a5 := Tryz.isAgg5
  z5 := Tryz.sizeOf5
  v5 := Tryz.zeroValue5
  i5 := by kernel_rfl
  t9 := Tryz.underlying9
  a9 := Tryz.isAgg9
  z9 := Tryz.sizeOf9
  v9 := Tryz.zeroValue9
  i9 := by kernel_rfl
  t20 := Tryz.underlying20
  a20 := Tryz.isAgg20
  z20 := Tryz.sizeOf20
  v20 := Tryz.zeroValue20
  i20 := by kernel_rfl
  t21 := Tryz.underlying21
  a21 := Tryz.isAgg21
  z21 := Tryz.sizeOf21
  v21 := Tryz.zeroValue21
  i21 := by kernel_rfl
  t22 := Tryz.underlying183
  a22 := Tryz.isAgg183
  z22 := Tryz.sizeOf183
  v22 := Tryz.zeroValue183
  i22 := by kernel_rfl
  t24 := Tryz.underlying185
  a24 := Tryz.isAgg185
  z24 := Tryz.sizeOf185
  v24 := Tryz.zeroValue185
  i24 := by kernel_rfl
  t25 := Tryz.underlying186
  a25 := Tryz.isAgg186
  z25 := Tryz.sizeOf186
  v25 := Tryz.zeroValue186
  i25 := by kernel_rfl
  t34 := Tryz.underlying273
  a34 := Tryz.isAgg273
  z34 := Tryz.sizeOf273
  v34 := Tryz.zeroValue273
  i34 := by kernel_rfl
  c34 := by kernel_rfl
  t36 := Tryz.underlying238
  a36 := Tryz.isAgg238
  z36 := Tryz.sizeOf238
  v36 := Tryz.zeroValue238
  i36 := by kernel_rfl
  t37 := Tryz.underlying191
  a37 := Tryz.isAgg191
  z37 := Tryz.sizeOf191
  v37 := Tryz.zeroValue191
  i37 := by kernel_rfl
  t39 := Tryz.underlying275
  a39 := Tryz.isAgg275
  z39 := Tryz.sizeOf275
  v39 := Tryz.zeroValue275
  i39 := by kernel_rfl
  t44 := Tryz.underlying305
  a44 := Tryz.isAgg305
  z44 := Tryz.sizeOf305
  v44 := Tryz.zeroValue305
  i44 := by kernel_rfl
  t47 := Tryz.underlying244
  a47 := Tryz.isAgg244
  z47 := Tryz.sizeOf244
  v47 := Tryz.zeroValue244
  i47 := by kernel_rfl
  t48 := Tryz.underlying319
  a48 := Tryz.isAgg319
  z48 := Tryz.sizeOf319
  v48 := Tryz.zeroValue319
  i48 := by kernel_rfl
  t50 := Tryz.underlying321
  a50 := Tryz.isAgg321
  z50 := Tryz.sizeOf321
  v50 := Tryz.zeroValue321
  i50 := by kernel_rfl
  t52 := Tryz.underlying254
  a52 := Tryz.isAgg254
  z52 := Tryz.sizeOf254
  v52 := Tryz.zeroValue254
  i52 := by kernel_rfl
  t55 := Tryz.underlying257
  a55 := Tryz.isAgg257
  z55 := Tryz.sizeOf257
  v55 := Tryz.zeroValue257
  i55 := by kernel_rfl
  t59 := Tryz.underlying295
  a59 := Tryz.isAgg295
  z59 := Tryz.sizeOf295
  v59 := Tryz.zeroValue295
  i59 := by kernel_rfl
  t60 := Tryz.underlying280
  a60 := Tryz.isAgg280
  z60 := Tryz.sizeOf280
  v60 := Tryz.zeroValue280
  i60 := by kernel_rfl
  t61 := Tryz.underlying296
  a61 := Tryz.isAgg296
  z61 := Tryz.sizeOf296
  t65 := Tryz.underlying324
  a65 := Tryz.isAgg324
  z65 := Tryz.sizeOf324
  v65 := Tryz.zeroValue324
  i65 := by kernel_rfl
  t66 := Tryz.underlying325
  a66 := Tryz.isAgg325
  z66 := Tryz.sizeOf325
  v66 := Tryz.zeroValue325
  i66 := by kernel_rfl
  t67 := Tryz.underlying198
  a67 := Tryz.isAgg198
  z67 := Tryz.sizeOf198
  v67 := Tryz.zeroValue198
  i67 := by kernel_rfl
  g0 := by kernel_rfl
  m0 := by kernel_rfl
  g1 := by kernel_rfl
  m1 := by kernel_rfl
  g2 := by kernel_rfl
  m2 := by kernel_rfl
  g3 := by kernel_rfl
  m3 := by kernel_rfl
  g4 := by kernel_rfl
  m4 := by kernel_rfl }
open Go.RowKit in
theorem Tryz.strconv_ParseUint_10_at64_ok (s : ByteArray) (hmax : s.size ≤ 9223372036854775806) (u : Nat) (h : Lib.parseUintB 64 s.data.toList = .ok u) (w : World) :
    Calls Tryz.prog 132 #[.string s, .int .i64 10, .int .i64 64] w fun e w' => e = .returned (.tuple #[.int .u64 u, .nilIface]) ∧ (w' = w ∨ w' = Lib.bytesWorld w 5 s) := Any.strconv_ParseUint_10_at64_ok Tryz.laysPu14 s hmax u h w
def Tryz.lays145_ren : Go.Shelf.Ren := ⟨fun | 145 => 214 | 220 => 275 | 219 => 306 | 217 => 321 | 225 => 322 | 224 => 323 | 267 => 324 | 266 => 332 | 314 => 333 | n => n, fun | 9 => 9 | 4 => 4 | 59 => 247 | 3 => 3 | 5 => 5 | 46 => 238 | 146 => 281 | 51 => 280 | n => n, fun | 1 => 3 | n => n⟩
theorem Tryz.lays145 : Go.Proofs.Lays.n145 Tryz.prog Tryz.lays145_ren := {
  mixed := by kernel_rfl
  f145 := Tryz.func214.trans (congrArg some (by kernel_rfl))
  f217 := Tryz.func321.trans (congrArg some (by kernel_rfl))
  f219 := Tryz.func306.trans (congrArg some (by kernel_rfl))
  f220 := Tryz.func275.trans (congrArg some (by kernel_rfl))
  f224 := Tryz.func323.trans (congrArg some (by kernel_rfl))
  f225 := Tryz.func322.trans (congrArg some (by kernel_rfl))
  f266 := Tryz.func332.trans (congrArg some (by kernel_rfl))
  f267 := Tryz.func324.trans (congrArg some (by kernel_rfl))
  f314 := Tryz.func333.trans (congrArg some (by kernel_rfl))
  t3 := Tryz.underlying3
  a3 := Tryz.isAgg3
  z3 := Tryz.sizeOf3
  v3 := Tryz.zeroValue3
  t4 := Tryz.underlying4
  a4 := Tryz.isAgg4
  z4 := Tryz.sizeOf4
  v4 := Tryz.zeroValue4
  t5 := Tryz.underlying5
  a5 := Tryz.isAgg5
  z5 := Tryz.sizeOf5
  v5 := Tryz.zeroValue5
  t9 := Tryz.underlying9
  a9 := Tryz.isAgg9
  z9 := Tryz.sizeOf9
  v9 := Tryz.zeroValue9
  t46 := Tryz.underlying238
  a46 := Tryz.isAgg238
  z46 := Tryz.sizeOf238
  v46 := Tryz.zeroValue238
  t51 := Tryz.underlying280
  a51 := Tryz.isAgg280
  z51 := Tryz.sizeOf280
  v51 := Tryz.zeroValue280
  t59 := Tryz.underlying247
  a59 := Tryz.isAgg247
  z59 := Tryz.sizeOf247
  v59 := Tryz.zeroValue247
  t146 := Tryz.underlying281
  a146 := Tryz.isAgg281
  z146 := Tryz.sizeOf281
  v146 := Tryz.zeroValue281
  g1 := by kernel_rfl }
open Go.RowKit Go.Lib in
theorem Tryz.strings_Cut (s sep : ByteArray) (m : Int) (w : World) (hs : s.size < 4294967281) (hm : w.cell? ⟨3, 0, none⟩ = some (.int .i64 m)) :
    Calls Tryz.prog 214 #[.string s, .string sep] w fun e w' => e = .returned (.tuple #[.string ⟨(Lib.cut s.data.toList sep.data.toList).1.toArray⟩, .string ⟨(Lib.cut s.data.toList sep.data.toList).2.1.toArray⟩, .bool (Lib.cut s.data.toList sep.data.toList).2.2]) ∧ ∃ n, w' = w.drewN n := Any.strings_Cut Tryz.lays145 s sep m w hs hm
def Tryz.lays101_ren : Go.Shelf.Ren := ⟨fun | 101 => 277 | 208 => 308 | 206 => 272 | n => n, fun | 9 => 9 | 4 => 4 | 3 => 3 | n => n, fun | n => n⟩
theorem Tryz.lays101 : Go.Proofs.Lays.n101 Tryz.prog Tryz.lays101_ren := {
  mixed := by kernel_rfl
  f101 := Tryz.func277.trans (congrArg some (by kernel_rfl))
  f206 := Tryz.func272.trans (congrArg some (by kernel_rfl))
  f208 := Tryz.func308.trans (congrArg some (by kernel_rfl))
  t3 := Tryz.underlying3
  a3 := Tryz.isAgg3
  z3 := Tryz.sizeOf3
  v3 := Tryz.zeroValue3
  t4 := Tryz.underlying4
  a4 := Tryz.isAgg4
  z4 := Tryz.sizeOf4
  v4 := Tryz.zeroValue4
  t9 := Tryz.underlying9
  a9 := Tryz.isAgg9
  z9 := Tryz.sizeOf9
  v9 := Tryz.zeroValue9 }
open Go.RowKit Go.Lib in
theorem Tryz.strings_TrimPrefix (s p : ByteArray) (w : World) :
    Calls Tryz.prog 277 #[.string s, .string p] w fun e w' => e = .returned (.string ⟨(Lib.trimPrefix s.data.toList p.data.toList).toArray⟩) ∧ w' = w := Any.strings_TrimPrefix Tryz.lays101 s p w
def Tryz.lays105_ren : Go.Shelf.Ren := ⟨fun | 105 => 139 | 212 => 209 | 99 => 210 | 165 => 211 | 166 => 137 | 170 => 212 | 169 => 140 | 263 => 270 | 264 => 271 | 206 => 272 | 240 => 207 | 241 => 273 | 276 => 269 | 277 => 305 | n => n, fun | 9 => 9 | 3 => 3 | 4 => 4 | 20 => 20 | 0 => 0 | 46 => 238 | 109 => 239 | 5 => 5 | 72 => 193 | 76 => 195 | 51 => 280 | 146 => 281 | 53 => 183 | 148 => 283 | 70 => 190 | 37 => 191 | 75 => 185 | 127 => 244 | 164 => 278 | 80 => 198 | n => n, fun | n => n⟩
theorem Tryz.lays105 : Go.Proofs.Lays.n105 Tryz.prog Tryz.lays105_ren := {
  mixed := by kernel_rfl
  f99 := Tryz.func210.trans (congrArg some (by kernel_rfl))
  f105 := Tryz.func139.trans (congrArg some (by kernel_rfl))
  f165 := Tryz.func211.trans (congrArg some (by kernel_rfl))
  f166 := Tryz.func137.trans (congrArg some (by kernel_rfl))
  f169 := Tryz.func140.trans (congrArg some (by kernel_rfl))
  f170 := Tryz.func212.trans (congrArg some (by kernel_rfl))
  f206 := Tryz.func272.trans (congrArg some (by kernel_rfl))
  f212 := Tryz.func209.trans (congrArg some (by kernel_rfl))
  f240 := Tryz.func207.trans (congrArg some (by kernel_rfl))
  f241 := Tryz.func273.trans (congrArg some (by kernel_rfl))
  f263 := Tryz.func270.trans (congrArg some (by kernel_rfl))
  f264 := Tryz.func271.trans (congrArg some (by kernel_rfl))
  f276 := Tryz.func269.trans (congrArg some (by kernel_rfl))
  f277 := Tryz.func305.trans (congrArg some (by kernel_rfl))
  t0 := Tryz.underlying0
  a0 := Tryz.isAgg0
  z0 := Tryz.sizeOf0
  v0 := Tryz.zeroValue0
  t3 := Tryz.underlying3
  a3 := Tryz.isAgg3
  z3 := Tryz.sizeOf3
  v3 := Tryz.zeroValue3
  t4 := Tryz.underlying4
  a4 := Tryz.isAgg4
  z4 := Tryz.sizeOf4
  v4 := Tryz.zeroValue4
  t5 := Tryz.underlying5
  a5 := Tryz.isAgg5
  z5 := Tryz.sizeOf5
  v5 := Tryz.zeroValue5
  t9 := Tryz.underlying9
  a9 := Tryz.isAgg9
  z9 := Tryz.sizeOf9
  v9 := Tryz.zeroValue9
  t20 := Tryz.underlying20
  a20 := Tryz.isAgg20
  z20 := Tryz.sizeOf20
  v20 := Tryz.zeroValue20
  t37 := Tryz.underlying191
  a37 := Tryz.isAgg191
  z37 := Tryz.sizeOf191
  v37 := Tryz.zeroValue191
  t46 := Tryz.underlying238
  a46 := Tryz.isAgg238
  z46 := Tryz.sizeOf238
  v46 := Tryz.zeroValue238
  t51 := Tryz.underlying280
  a51 := Tryz.isAgg280
  z51 := Tryz.sizeOf280
  v51 := Tryz.zeroValue280
  t53 := Tryz.underlying183
  a53 := Tryz.isAgg183
  z53 := Tryz.sizeOf183
  v53 := Tryz.zeroValue183
  t70 := Tryz.underlying190
  a70 := Tryz.isAgg190
  z70 := Tryz.sizeOf190
  v70 := Tryz.zeroValue190
  t72 := Tryz.underlying193
  a72 := Tryz.isAgg193
  z72 := Tryz.sizeOf193
  v72 := Tryz.zeroValue193
  t75 := Tryz.underlying185
  a75 := Tryz.isAgg185
  z75 := Tryz.sizeOf185
  v75 := Tryz.zeroValue185
  t76 := Tryz.underlying195
  a76 := Tryz.isAgg195
  z76 := Tryz.sizeOf195
  v76 := Tryz.zeroValue195
  t109 := Tryz.underlying239
  a109 := Tryz.isAgg239
  z109 := Tryz.sizeOf239
  v109 := Tryz.zeroValue239
  t127 := Tryz.underlying244
  a127 := Tryz.isAgg244
  z127 := Tryz.sizeOf244
  v127 := Tryz.zeroValue244
  t146 := Tryz.underlying281
  a146 := Tryz.isAgg281
  z146 := Tryz.sizeOf281
  v146 := Tryz.zeroValue281
  t148 := Tryz.underlying283
  a148 := Tryz.isAgg283
  z148 := Tryz.sizeOf283
  v148 := Tryz.zeroValue283
  t164 := Tryz.underlying278
  a164 := Tryz.isAgg278
  z164 := Tryz.sizeOf278
  v164 := Tryz.zeroValue278 }
theorem Tryz.Builder_Extra_105 : Builder.Extra Tryz.prog Tryz.lays105_ren := {
  sizeBuilder := by kernel_rfl
  liesBuilder := by kernel_rfl
  t5 := Tryz.underlying5
  a5 := Tryz.isAgg5
  z5 := Tryz.sizeOf5
  v5 := Tryz.zeroValue5
  infoByte := by kernel_rfl
  cellsByte := by kernel_rfl
  sizeByte := by kernel_rfl
  neB5 := by decide }
open Go.RowKit Go.Lib in
theorem Tryz.strings_Repeat (s : ByteArray) (c : Nat) (w : World) (hc : c ≤ 9223372036854775807) (hlen : s.size * c ≤ 140737488355328) :
    Calls Tryz.prog 139 #[.string s, .int .i64 c] w fun e w' => e = .returned (.string ⟨(Lib.repeatL s.data.toList c).toArray⟩) ∧ Below w.heap.size w w' := Any.strings_Repeat Tryz.lays105 Tryz.Builder_Extra_105 s c w hc hlen
end Go.Proofs

/- The walks over the program's integer functions on texts: digits, Canonical, Check, Print, Parse. -/
namespace Go.Proofs.YthgpheopnhajaaaGreatDoor
open Go.RowKit Go.Shelf
attribute [local go_sem] size_bs toList_bs extract_bs get_bs append_bs lit_append append_lit
theorem noZeros_drop (l : Bs) : l.dropWhile (· == 48) = noZeros l := by
  induction l with
  | nil => rfl
  | cons c r ih =>
    unfold noZeros; rw [List.dropWhile_cons]
    by_cases h : c = 48
    · simp [h]; exact ih
    · simp [h]

def trimD (l : Bs) : Bs := Lib.trimS l [48, 49, 50, 51, 52, 53, 54, 55, 56, 57]
theorem isD_mem (c : UInt8) : ([48, 49, 50, 51, 52, 53, 54, 55, 56, 57] : Bs).contains c = isD c := by
  have h : ∀ n : Fin 256, ([48, 49, 50, 51, 52, 53, 54, 55, 56, 57] : Bs).contains (UInt8.ofNat n.val) = isD (UInt8.ofNat n.val) := by decide +kernel
  have hc := h ⟨c.toNat, c.toNat_lt⟩
  simpa using hc
theorem dropWhile_nil_iff (p : UInt8 → Bool) (l : Bs) : l.dropWhile p = [] ↔ l.all p = true := by
  induction l with
  | nil => simp
  | cons c r ih =>
    rw [List.dropWhile_cons]
    by_cases h : p c = true
    · simp only [h, if_true, List.all_cons, Bool.true_and]; exact ih
    · simp [h]
theorem trimD_nil (l : Bs) : trimD l = [] ↔ l.all isD = true := by
  unfold trimD Lib.trimS Lib.trimLeftS Lib.trimRightS
  have he : (fun x => ([48, 49, 50, 51, 52, 53, 54, 55, 56, 57] : Bs).contains x) = isD := funext isD_mem
  rw [he, dropWhile_nil_iff, List.all_reverse]
  constructor
  · intro h
    by_cases hn : l.reverse.dropWhile isD = []
    · rw [dropWhile_nil_iff, List.all_reverse] at hn; exact hn
    · exfalso
      obtain ⟨c, r, hcr⟩ := List.exists_cons_of_ne_nil hn
      have hd := List.head_dropWhile_not isD hn
      rw [hcr] at h
      simp only [List.all_cons, Bool.and_eq_true] at h
      simp only [hcr, List.head_cons] at hd
      rw [h.1] at hd; simp at hd
  · intro h
    have hn : l.reverse.dropWhile isD = [] := by rw [dropWhile_nil_iff, List.all_reverse]; exact h
    rw [hn]; rfl

theorem cutMinus (l : Bs) (w : World) :
    Calls Tryz.prog 201 #[.string (bs l), .string ⟨#[45]⟩] w fun e w' => e = .returned (.tuple #[.string (bs (strip l)), .bool (isMin l)]) ∧ w = w' := by
  refine (Tryz.strings_CutPrefix (bs l) ⟨#[45]⟩ w).mono ?_
  rintro e w' ⟨rfl, rfl⟩
  refine ⟨?_, rfl⟩
  rw [data_bs]
  have h1 : Lib.hasPrefix l [45] = isMin l := by
    unfold Lib.hasPrefix isMin
    cases l with
    | nil => rfl
    | cons c r => show (45 == c && true) = (c == 45); rw [Bool.and_true]; exact BEq.comm
  have h2 : Lib.trimPrefix l [45] = strip l := by
    unfold Lib.trimPrefix strip; rw [h1]
    by_cases h : isMin l = true
    · simp [h]
    · simp [h]
  show Ending.returned (.tuple #[.string ⟨(Lib.trimPrefix l [45]).toArray⟩, .bool (Lib.hasPrefix l [45])]) = _
  rw [h1, h2]; rfl

theorem trimDigits (l : Bs) (w : World) (hs : l.length ≤ 1000000000) :
    Calls Tryz.prog 202 #[.string (bs l), .string ⟨#[48, 49, 50, 51, 52, 53, 54, 55, 56, 57]⟩] w fun e w' => e = .returned (.string (bs (trimD l))) ∧ Ext w w' := by
  refine (Any.strings_Trim_laid Tryz.lays160 (by kernel_rfl) (bs l) ⟨#[48, 49, 50, 51, 52, 53, 54, 55, 56, 57]⟩ w (by rw [size_bs]; omega) (by decide) (ascii_of_all (by decide))).mono ?_
  rintro e w' ⟨rfl, hb⟩
  exact ⟨by rw [data_bs]; rfl, hb⟩

theorem trimZeros (l : Bs) (w : World) :
    Calls Tryz.prog 203 #[.string (bs l), .string ⟨#[48]⟩] w fun e w' => e = .returned (.string (bs (noZeros l))) ∧ w = w' := by
  refine (Tryz.strings_TrimLeft_one (bs l) 48 (by decide) w).mono ?_
  rintro e w' ⟨rfl, rfl⟩
  exact ⟨by rw [data_bs, Lib.trimLeftB, noZeros_drop]; rfl, rfl⟩

theorem mag_of_good {l : Bs} (h : trimD (strip l) = []) : mag l = noZeros (strip l) := magT_good _ ((trimD_nil _).1 h)
theorem mag_of_bad {l : Bs} (h : trimD (strip l) ≠ []) : mag l = [] := by
  unfold mag magT; rw [if_neg (fun hh => h ((trimD_nil _).2 hh))]
theorem neg_of_bad {l : Bs} (h : trimD (strip l) ≠ []) : neg l = false := by
  have := mag_of_bad h; unfold mag at this; unfold neg negT; rw [this]; simp
theorem neg_of_mag (l : Bs) : neg l = (isMin l && !(mag l).isEmpty) := rfl

set_option maxHeartbeats 400000 in
theorem intDigits (l : Bs) (w : World) (hs : l.length ≤ 1000000000) :
    Calls Tryz.prog 131 #[.string (bs l)] w fun e w' => e = .returned (.tuple #[.string (bs (mag l)), .bool (neg l)]) ∧ Ext w w' := by
  have hl := strip_le l
  have HS := Lib.hid (Nat.le_trans hl hs)
  clear hs hl
  go_enter Tryz.func131, Tryz.ntmps131
  go_wp2_with fail
  refine (cutMinus l _).mono ?_
  rintro e w1 ⟨rfl, rfl⟩
  go_wp2_with fail
  refine (trimDigits _ _ HS.out).mono ?_
  rintro e w1 ⟨rfl, hx⟩
  by_cases ht : trimD (strip l) = []
  · have hb : (!(trimD (strip l)).isEmpty) = false := by rw [ht]; rfl
    have HT := Lib.hid ht
    clear ht
    go_wp2_with fail
    refine (trimZeros _ _).mono ?_
    rintro e w2 ⟨rfl, rfl⟩
    go_wp2_with fail
    all_goals
      go_ret2
      refine ⟨?_, hx⟩
      rw [neg_of_mag, mag_of_good HT.out]
      simp [*]
  · have hb : (!(trimD (strip l)).isEmpty) = true := by simp [ht]
    have HT := Lib.hid ht
    clear ht
    go_wp2_with fail
    go_ret2
    exact ⟨by rw [mag_of_bad HT.out, neg_of_bad HT.out]; rfl, hx⟩

set_option maxHeartbeats 400000 in
theorem intCanonical (l : Bs) (w : World) (hs : l.length ≤ 1000000000) :
    Calls Tryz.prog 128 #[.string (bs l)] w fun e w' => e = .returned (.string (bs (canon l))) ∧ Ext w w' := by
  have hm := mag_le l
  go_enter Tryz.func128, Tryz.ntmps128
  go_wp2_with fail
  refine (intDigits l _ hs).mono ?_
  rintro e w1 ⟨rfl, hx⟩
  by_cases hn : neg l = true
  · go_wp2_with fail
    go_ret
    exact ⟨by unfold canon; rw [if_pos hn]; rfl, hx⟩
  · have hnb : neg l = false := by simpa using hn
    go_wp2_with fail
    go_ret
    exact ⟨by unfold canon; rw [if_neg hn]; rfl, hx⟩

set_option maxHeartbeats 400000 in
theorem intCheck (l : Bs) (w : World) (hs : l.length ≤ 1000000000) :
    Calls Tryz.prog 72 #[.string (bs l)] w fun e w' => e = .returned (.int .i64 (checkI l)) ∧ Ext w w' := by
  have HS := Lib.hid hs
  clear hs
  go_enter Tryz.func72, Tryz.ntmps72
  go_wp2_with fail
  refine (intCanonical l _ HS.out).mono ?_
  rintro e w1 ⟨rfl, hx⟩
  by_cases hn : canon l = l
  · have hb : (l == canon l) = true := beq_iff_eq.2 hn.symm
    have HN := Lib.hid hn
    clear hn
    go_wp2_with fail
    go_ret
    exact ⟨by unfold checkI; rw [if_pos HN.out]; rfl, hx⟩
  · have hb : (l == canon l) = false := beq_eq_false_iff_ne.2 (fun h => hn h.symm)
    have HN := Lib.hid hn
    clear hn
    go_wp2_with fail
    go_ret
    exact ⟨by unfold checkI; rw [if_neg HN.out]; rfl, hx⟩

set_option maxHeartbeats 400000 in
theorem intPrint (l : Bs) (w : World) (hs : l.length ≤ 1000000000) :
    Calls Tryz.prog 329 #[.string (bs l)] w fun e w' => e = .returned (.string (bs (printI l))) ∧ Ext w w' := by
  have HS := Lib.hid hs
  clear hs
  go_enter Tryz.func329, Tryz.ntmps329
  go_wp2_with fail
  refine (intCanonical l _ HS.out).mono ?_
  rintro e w1 ⟨rfl, hx⟩
  by_cases hn : canon l = []
  · have hb : (!(canon l).isEmpty) = false := by simp [hn]
    have HN := Lib.hid hn
    clear hn
    go_wp2_with fail
    go_ret
    exact ⟨by unfold printI; rw [if_pos HN.out]; rfl, hx⟩
  · have hb : (!(canon l).isEmpty) = true := by simpa using hn
    have HN := Lib.hid hn
    clear hn
    go_wp2_with fail
    go_ret
    exact ⟨by unfold printI; rw [if_neg HN.out]; rfl, hx⟩
end Go.Proofs.YthgpheopnhajaaaGreatDoor

/- More words for memory: a block that is known whole ('Blk'); 'Only g w w2': w2 is w with new blocks and writes into block g alone. -/
namespace Go.Proofs.YthgpheopnhajaaaGreatDoor
open Go.RowKit
def Blk (w : World) (g : Nat) (t : TypeId) (cs : Array Value) : Prop := w.heap[g]? = some (.cells cs t (0, 0))
section
variable {w w' : World} {g : Nat} {t : TypeId} {cs : Array Value}
theorem Blk.lt (h : Blk w g t cs) : g < w.heap.size := by
  rcases Nat.lt_or_ge g w.heap.size with hlt | hge
  · exact hlt
  · unfold Blk at h; rw [Array.getElem?_eq_none hge] at h; cases h
theorem Blk.cell (h : Blk w g t cs) (i : Nat) : w.cell? ⟨g, i, none⟩ = cs[i]? := cell_of_row w g i cs t (0, 0) h
theorem Blk.frozen (h : Blk w g t cs) (i : Nat) : w.frozen? ⟨g, i, none⟩ = false := by
  unfold Blk at h
  simp [World.frozen?, h]
theorem Blk.new (w : World) (t : TypeId) (cs : Array Value) : Blk (w.alloc (.cells cs t)) w.heap.size t cs := heap_alloc_new w _
theorem Blk.drew (h : Blk w g t cs) : Blk w.drew g t cs := h
theorem Blk.drewN (h : Blk w g t cs) (n : Nat) : Blk (w.drewN n) g t cs := h
theorem Blk.alloc (h : Blk w g t cs) (o : Obj) : Blk (w.alloc o) g t cs := (Below.heap_alloc w o g h.lt).trans h
theorem Blk.set_ (h : Blk w g t cs) (i : Nat) (u : Value) : Blk (w.setCell ⟨g, i, none⟩ u) g t (cs.setIfInBounds i u) := by
  unfold Blk at h ⊢
  simp [World.setCell, Array.getElem?_modify, h]
theorem Blk.far (h : Blk w g t cs) {p : Addr} (hp : g ≠ p.block) (u : Value) : Blk (w.setCell p u) g t cs := (Below.heap_setCell w p u g hp).trans h
theorem Blk.ext (h : Blk w g t cs) (he : Ext w w') : Blk w' g t cs := (he.block g h.lt).trans h
end
/-- w' is w with new blocks and writes into block g alone -/
def Only (g : Nat) (w w' : World) : Prop := w.grownBy w' (some g)
section
variable {a w w' : World} {g : Nat}
theorem Only.refl (g : Nat) (w : World) : Only g w w := World.grownBy.refl w _
theorem Only.size (h : Only g w w') : w.heap.size ≤ w'.heap.size := World.grownBy.size h
theorem Only.trans {b c : World} (h : Only g a b) (k : Only g b c) : Only g a c :=
  ⟨k.os.trans h.os, k.tape.trans h.tape, k.output.trans h.output, Nat.le_trans h.size k.size, fun i hi hne => (World.grownBy.block k i (Nat.lt_of_lt_of_le hi h.size) hne).trans (World.grownBy.block h i hi hne)⟩
theorem Only.of_ext (h : Ext w w') : Only g w w' := ⟨h.os, h.tape, h.output, h.size, fun i hi _ => h.block i hi⟩
theorem Only.ext {b : World} (h : Only g a w) (k : Ext w b) : Only g a b := h.trans (Only.of_ext k)
theorem Only.setCell (h : Only g a w) (i : Nat) (u : Value) : Only g a (w.setCell ⟨g, i, none⟩ u) :=
  ⟨h.os, h.tape, h.output, by simpa [World.setCell] using h.size, fun i hi hne => (Below.heap_setCell w _ u i (by
    rintro rfl; exact hne rfl)).trans (World.grownBy.block h i hi hne)⟩
theorem Only.alloc (h : Only g a w) (o : Obj) : Only g a (w.alloc o) := h.ext (Ext.new w o)
theorem Only.drew (h : Only g a w) : Only g a w.drew := ⟨h.os, h.tape, h.output, h.size, h.block⟩
theorem Only.drewN (h : Only g a w) (n : Nat) : Only g a (w.drewN n) := ⟨h.os, h.tape, h.output, h.size, h.block⟩
theorem Only.cell (h : Only g w w') {p : Addr} (hp : p.block < w.heap.size) (hne : p.block ≠ g) : w'.cell? p = w.cell? p :=
  World.cell?_of_block (w := w) (World.grownBy.block h p.block hp (fun e => hne (by injection e)))
/-- the block g is new since a: then all of a lies unturned -/
theorem Only.toExt {b : World} (h : Only g w w') (k : Ext b w) (hg : b.heap.size ≤ g) : Ext b w' :=
  Below.trans k ⟨h.os, h.tape, h.output, h.size, fun i hi => World.grownBy.block h i (Nat.lt_of_lt_of_le hi k.size) (fun e => by injection e with e; omega)⟩
end
end Go.Proofs.YthgpheopnhajaaaGreatDoor

/- Slices of elements of several cells: copy, clear, and blocks written in part. No program in sight. -/
namespace Go.Proofs.YthgpheopnhajaaaGreatDoor
open Go.RowKit Go.Lib
/-- 'vs' written over l from o on -/
def lsplice (l : List Value) (o : Nat) (vs : List Value) : List Value := l.take o ++ vs ++ l.drop (o + vs.length)
theorem lsplice_len (l : List Value) (o : Nat) (vs : List Value) (h : o + vs.length ≤ l.length) : (lsplice l o vs).length = l.length := by
  simp [lsplice]; omega
theorem lsplice_nil (l : List Value) (o : Nat) : lsplice l o [] = l := by simp [lsplice]
theorem lsplice_cons (l : List Value) (o : Nat) (v : Value) (vs : List Value) (h : o < l.length) : lsplice (l.set o v) (o + 1) vs = lsplice l o (v :: vs) := by
  unfold lsplice
  rw [List.length_cons, show o + 1 + vs.length = o + (vs.length + 1) by omega]
  have h1 : (l.set o v).take (o + 1) = l.take o ++ [v] := by
    rw [List.take_succ_eq_append_getElem (by simpa using h), List.getElem_set_self, List.take_set_of_le (Nat.le_refl _)]
  have h2 : (l.set o v).drop (o + (vs.length + 1)) = l.drop (o + (vs.length + 1)) := List.drop_set_of_lt (by omega)
  rw [h1, h2]; simp
theorem Blk.sets {g : Nat} {t : TypeId} : ∀ (vs : List Value) (o : Nat) (w : World) (cs : List Value), Blk w g t cs.toArray → o + vs.length ≤ cs.length → Blk (w.setCells g o vs) g t (lsplice cs o vs).toArray
  | [], o, w, cs, h, _ => by rw [lsplice_nil]; exact h
  | v :: r, o, w, cs, h, hl => by
    rw [List.length_cons] at hl
    have h1 := h.set_ o v
    rw [List.setIfInBounds_toArray] at h1
    have := Blk.sets r (o + 1) (w.setCell ⟨g, o, none⟩ v) (cs.set o v) h1 (by simp; omega)
    rw [lsplice_cons cs o v r (by omega)] at this
    exact this
theorem Only.sets {g : Nat} : ∀ (vs : List Value) (o : Nat) (a w : World), Only g a w → Only g a (w.setCells g o vs)
  | [], _, _, _, h => h
  | v :: r, o, a, w, h => Only.sets r (o + 1) a (w.setCell ⟨g, o, none⟩ v) (h.setCell o v)
theorem Blk.shape {w : World} {g : Nat} {t : TypeId} {cs : Array Value} (h : Blk w g t cs) : w.shape? g = some (t, cs.size) := by
  unfold Blk at h; simp [World.shape?, h]
theorem Blk.sets_far {w : World} {g g' : Nat} {t : TypeId} {cs : Array Value} (h : Blk w g t cs) (hne : g ≠ g') : ∀ (vs : List Value) (o : Nat), Blk (w.setCells g' o vs) g t cs
  | [], _ => h
  | v :: r, o => Blk.sets_far (h.far (p := ⟨g', o, none⟩) hne v) hne r (o + 1)
section
variable {P : Program}
/-- copy, elements of 'size' cells -/
theorem run_copy_k (w : World) (dT sT ty elem : TypeId) (size b o dLen dCap : Nat) (a : Addr) (sLen sCap : Nat) (cs : List Value)
    (hu : P.underlying dT = some (.slice elem)) (hs : (P.info? elem).map (·.size) = some size) (n : Nat) (hmin : Nat.min sLen dLen = n) (hn : cs.length = n * size)
    (hsrc : ∀ j v, cs[j]? = some v → w.cell? (a.add j) = some v) (hc : ∀ j, j < cs.length → (w.cell? ⟨b, o + j, none⟩).isSome = true) (hf : ∀ j, j < cs.length → w.frozen? ⟨b, o + j, none⟩ = false) (h1 : ∀ v ∈ cs, v.oneCell' = true) :
    (Builtin.copy_ #[dT, sT] ty #[.slice (some ⟨b, o, none⟩) dLen dCap, .slice (some a) sLen sCap]).run P w = .ok (goInt n) (w.setCells b o cs) := by
  have hl := run_loadCells_list (P := P) w a cs hsrc
  have hst := run_storeCells_cells (P := P) b o cs 0 w (by simpa using hc) (by simpa using hf) h1
  cases hq : P.info? elem with
  | none => simp [hq] at hs
  | some i =>
    have hi : i.size = size := by simpa [hq] using hs
    rw [hn] at hl
    simp [Builtin.copy_, run_underlying hu, Builtin.lenOf, Builtin.firstCells, sizeOf, typeInfo, hq, hi, hmin, hl, hst]
end
/-- a slice of n elements at the head of a block of its own that is known whole: 'cur' are all its cells -/
structure Row (w : World) (g : Nat) (e : TypeId) (size n cap : Nat) (xs cur : List Value) : Prop where
  blk : Blk w g e cur.toArray
  len : xs.length = n * size
  le : n ≤ cap
  big : cap ≤ maxLen
  full : cur.length = cap * size
  take : cur.take (n * size) = xs
theorem Row.own {w : World} {g : Nat} {e : TypeId} {size n cap : Nat} {xs cur : List Value} (h : Row w g e size n cap xs cur) {base : Nat} (hb : base ≤ g) : w.ownsRow base e size (.slice (some ⟨g, 0, none⟩) n cap) n xs :=
  ⟨h.len, .inr ⟨g, cap, cur.toArray, rfl, hb, h.blk, h.le, h.big, by simpa using h.full, by simpa using h.take⟩⟩
theorem Row.of_own {w : World} {g : Nat} {e : TypeId} {size n cap base : Nat} {xs : List Value} (h : w.ownsRow base e size (.slice (some ⟨g, 0, none⟩) n cap) n xs) : base ≤ g ∧ ∃ cur, Row w g e size n cap xs cur := by
  obtain ⟨hl, ⟨h, _⟩ | ⟨g', cap', cur, hv, hb, hh, hle, hbig, hsz, ht⟩⟩ := h
  · cases h
  · injection hv with h1 h2 h3
    injection h1 with h1
    injection h1 with h1
    subst h1; subst h3
    exact ⟨hb, cur.toList, hh, hl, hle, hbig, by simpa using hsz, ht⟩
section
variable {w : World} {g : Nat} {e : TypeId} {size n cap : Nat} {xs cur : List Value}
theorem Row.cell (h : Row w g e size n cap xs cur) {j : Nat} {u : Value} (hu : xs[j]? = some u) : w.cell? ⟨g, j, none⟩ = some u := by
  have hj := (List.getElem?_eq_some_iff.1 hu).1
  rw [h.blk.cell j, List.getElem?_toArray, ← hu, ← h.take, List.getElem?_take, if_pos (by rw [← h.len]; exact hj)]
theorem Row.isSome_ (h : Row w g e size n cap xs cur) {j : Nat} (hj : j < cap * size) : (w.cell? ⟨g, j, none⟩).isSome = true := by
  rw [h.blk.cell j, List.getElem?_toArray, List.getElem?_eq_getElem (by rw [h.full]; exact hj)]; rfl
theorem Row.frozen (h : Row w g e size n cap xs cur) (j : Nat) : w.frozen? ⟨g, j, none⟩ = false := h.blk.frozen j
theorem Row.drew (h : Row w g e size n cap xs cur) : Row w.drew g e size n cap xs cur := { h with blk := h.blk.drew }
theorem Row.ext {w' : World} (h : Row w g e size n cap xs cur) (hx : Ext w w') : Row w' g e size n cap xs cur := { h with blk := h.blk.ext hx }
/-- cells written into the block: it is a row of as many elements as fit -/
theorem Row.put (h : Row w g e size n cap xs cur) (vs : List Value) (o : Nat) (ho : o + vs.length ≤ cap * size) {n' : Nat} {xs' : List Value} (hn' : n' ≤ cap) (hl' : xs'.length = n' * size) (hx : (lsplice cur o vs).take (n' * size) = xs') : Row (w.setCells g o vs) g e size n' cap xs' (lsplice cur o vs) :=
  ⟨Blk.sets vs o w cur h.blk (by rw [h.full]; exact ho), hl', hn', h.big, by rw [lsplice_len _ _ _ (by rw [h.full]; exact ho)]; exact h.full, hx⟩
theorem Row.reads (h : Row w g e size n cap xs cur) : Reads w size (some ⟨g, 0, none⟩) n xs :=
  ⟨h.len, fun _ => ⟨g, 0, rfl, h.blk.lt, fun j u hu => by rw [Nat.zero_add]; exact h.cell hu⟩⟩
end
theorem Ext.only {a w w' : World} {g : Nat} (h : Ext a w) (ho : Only g w w') (hg : a.heap.size ≤ g) : Ext a w' :=
  ⟨ho.os.trans h.os, ho.tape.trans h.tape, ho.output.trans h.output, Nat.le_trans h.size ho.size, fun i hi => (ho.block i (Nat.lt_of_lt_of_le hi h.size) (by intro e; injection e with e; omega)).trans (h.block i hi)⟩
theorem take_le {l : List Value} {m j : Nat} {xs : List Value} (h : l.take m = xs) (hj : j ≤ m) : l.take j = xs.take j := by
  rw [← h, List.take_take, Nat.min_eq_left hj]
theorem splice_tail (cur : List Value) (o : Nat) (zs : List Value) (n : Nat) (h : n ≤ o) (ho : o ≤ cur.length) : (lsplice cur o zs).take n = cur.take n := by
  unfold lsplice
  rw [List.append_assoc, List.take_append_of_le_length (by rw [List.length_take]; omega), List.take_take, Nat.min_eq_left h]
/-- an element put before another one -/
theorem splice_ins (cur xs vs : List Value) (k i n : Nat) (hx : cur.take (n * k) = xs) (hl : xs.length = n * k) (hi : i ≤ n) (hv : vs.length = k) (hc : (n + 1) * k ≤ cur.length) :
    (lsplice (lsplice cur ((i + 1) * k) (xs.drop (i * k))) (i * k) vs).take ((n + 1) * k) = xs.take (i * k) ++ vs ++ xs.drop (i * k) := by
  have h1 : i * k ≤ n * k := Nat.mul_le_mul_right _ hi
  have h2 : (xs.drop (i * k)).length = n * k - i * k := by rw [List.length_drop, hl]
  have h3 : (xs.take (i * k)).length = i * k := by rw [List.length_take, hl]; omega
  have e1 : (i + 1) * k = i * k + k := by rw [Nat.succ_mul]
  have e2 : (n + 1) * k = n * k + k := by rw [Nat.succ_mul]
  have hc' : n * k + k ≤ cur.length := by rw [← e2]; exact hc
  rw [e1, e2]
  clear e1 e2 hc
  generalize i * k = a at *
  generalize n * k = m at *
  have h4 : (cur.take (a + k)).length = a + k := by rw [List.length_take]; omega
  have t1 : (lsplice cur (a + k) (xs.drop a)).take a = xs.take a := by
    rw [splice_tail _ _ _ _ (by omega) (by omega), take_le hx h1]
  have t2 : (lsplice cur (a + k) (xs.drop a)).drop (a + vs.length) = xs.drop a ++ cur.drop (a + k + (xs.drop a).length) := by
    unfold lsplice
    rw [hv, List.append_assoc, List.drop_left' h4]
  rw [show lsplice (lsplice cur (a + k) (xs.drop a)) a vs = (lsplice cur (a + k) (xs.drop a)).take a ++ vs ++ (lsplice cur (a + k) (xs.drop a)).drop (a + vs.length) from rfl, t1, t2, ← List.append_assoc,
    List.take_left' (by simp only [List.length_append, h3, hv, h2]; omega)]
/-- the same into a new block -/
theorem splice_new (R xs vs : List Value) (k i n : Nat) (hx : R.take (i * k) = xs.take (i * k)) (hl : xs.length = n * k) (hi : i ≤ n) (hv : vs.length = k) (hc : (n + 1) * k ≤ R.length) :
    (lsplice (lsplice R (i * k) vs) ((i + 1) * k) (xs.drop (i * k))).take ((n + 1) * k) = xs.take (i * k) ++ vs ++ xs.drop (i * k) := by
  have h1 : i * k ≤ n * k := Nat.mul_le_mul_right _ hi
  have h2 : (xs.drop (i * k)).length = n * k - i * k := by rw [List.length_drop, hl]
  have h3 : (xs.take (i * k)).length = i * k := by rw [List.length_take, hl]; omega
  have e1 : (i + 1) * k = i * k + k := by rw [Nat.succ_mul]
  have e2 : (n + 1) * k = n * k + k := by rw [Nat.succ_mul]
  have hc' : n * k + k ≤ R.length := by rw [← e2]; exact hc
  rw [e1, e2]
  clear e1 e2 hc
  generalize i * k = a at *
  generalize n * k = m at *
  have t1 : (lsplice R a vs).take (a + k) = xs.take a ++ vs := by
    unfold lsplice
    rw [hx, List.take_left' (by rw [List.length_append, h3, hv])]
  unfold lsplice at t1 ⊢
  rw [t1, List.take_left' (by simp only [List.length_append, h3, hv, h2]; omega)]
theorem ext_sets {a : World} {g : Nat} : ∀ (vs : List Value) (o : Nat) (w : World) (_ : Unit) (_ : Ext a w), a.heap.size ≤ g → Ext a (w.setCells g o vs)
  | [], _, _, _, h, _ => h
  | v :: r, o, w, _, h, hg => ext_sets r (o + 1) (w.setCell ⟨g, o, none⟩ v) () (h.setCell hg v) hg
end Go.Proofs.YthgpheopnhajaaaGreatDoor

/- Rows of the call's own: words for memory. -/
namespace Go.Proofs.YthgpheopnhajaaaGreatDoor
open Go.RowKit
theorem own_ne {w : World} {base : Nat} {e : TypeId} {size n : Nat} {v : Value} {xs : List Value} {g : Nat} {t : TypeId} {cs : Array Value} (h : w.ownsRow base e size v n xs) (hg : Blk w g t cs) (hne : e ≠ t) : v.ownBlock ≠ some g := by
  rcases h.2 with ⟨rfl, _⟩ | ⟨g', cap, cur, rfl, _, hh, _⟩
  · simp [Value.ownBlock]
  · intro he
    have : g' = g := by simpa [Value.ownBlock] using he
    subst this
    unfold Blk at hg; rw [hg] at hh; injection hh with hh; injection hh with _ ht; exact hne ht.symm
theorem own_own_ne {w : World} {base base' : Nat} {e e' : TypeId} {size size' n n' : Nat} {v v' : Value} {xs xs' : List Value} (h : w.ownsRow base e size v n xs) (h' : w.ownsRow base' e' size' v' n' xs') (hne : e ≠ e') : v.ownBlock = none ∨ v.ownBlock ≠ v'.ownBlock := by
  rcases h.2 with ⟨rfl, _⟩ | ⟨g, cap, cur, rfl, _, hh, _⟩
  · left; rfl
  · right
    rcases h'.2 with ⟨rfl, _⟩ | ⟨g', cap', cur', rfl, _, hh', _⟩
    · simp [Value.ownBlock]
    · intro he
      have : g = g' := by simpa [Value.ownBlock] using he
      subst this
      rw [hh] at hh'; injection hh' with hh'; injection hh' with _ ht; exact hne ht
theorem own_set {w : World} {base : Nat} {e : TypeId} {size n : Nat} {v : Value} {xs : List Value} {g i : Nat} (h : w.ownsRow base e size v n xs) (hne : v.ownBlock ≠ some g) (u : Value) : (w.setCell ⟨g, i, none⟩ u).ownsRow base e size v n xs :=
  h.kept (row := some g) (Only.setCell (Only.refl g w) i u) (.inr hne)
end Go.Proofs.YthgpheopnhajaaaGreatDoor
