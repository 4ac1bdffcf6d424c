/- DERIVED: THE SHELF's CONTRACTS AT THIS DUMP, IN PLAIN WORDS (tools/lay-plain.mjs out of 'TryzShelf.lean', which tools/lay-shelf.mjs wrote): THE SAME DECLARATION -/
import Derived.Shelf.Strings.Builder1
import Derived.Shelf.Small.Bits
import Derived.Shelf.Small.Wraps
import Derived.Shelf.Strings.BuilderF
import Derived.Shelf.Strings.BuilderK
import Derived.Shelf.Utf8.RuneCount
import Derived.Shelf.Strconv.Atoi
import Derived.Shelf.Strconv.Itoa0
import Derived.Shelf.Strconv.Itoa1
import Derived.Shelf.LaysM
import Derived.Shelf.Strconv.Itoa2
import Derived.Shelf.Strconv.Itoa3
import Derived.Shelf.Strconv.AtoiErrFast
import Derived.Shelf.Strconv.ParseIntEmpty
import Derived.Shelf.Strconv.AtoiFail
import Derived.Shelf.Strconv.Clone
import Derived.Shelf.Strconv.SyntaxError
import Derived.Shelf.LaysC
import Derived.Shelf.Strconv.ToError
import Derived.Shelf.Strconv.AtoiErr
import Derived.Shelf.Strconv.ErrVar
import Derived.Shelf.Strconv.Lower
import Derived.Shelf.Strconv.ParseUint10
import Derived.Shelf.Strconv.ParseUint10Empty
import Derived.Shelf.Strconv.ParseUint10Any
import Derived.Shelf.Strconv.ParseInt10
import Derived.Shelf.Strconv.AtoiLong
import Derived.Shelf.Strconv.AtoiInnerAll
import Derived.Shelf.Strconv.RangeError
import Derived.Shelf.Strconv.ToErrorRange
import Derived.Shelf.Strconv.AtoiAll
import Derived.Shelf.Strconv.ErrVarAll
import Derived.Shelf.Strconv.ParseUintEmpty
import Derived.Shelf.Strconv.ParseUint10b64
import Derived.Shelf.Strconv.ParseUint10b32
import Derived.Shelf.Strconv.ParseUint10b16
import Derived.Shelf.Strconv.ParseUint10b8
import Derived.Shelf.Strconv.ParseUint10At
import Derived.Shelf.Strconv.ParseInt10At64
import Derived.Shelf.Strconv.ParseInt10At32
import Derived.Shelf.Strconv.ParseInt10At16
import Derived.Shelf.Strconv.ParseInt10At8
import Derived.Shelf.Strconv.ParseInt10All
import Derived.Shelf.Strings.Search1
import Derived.Shelf.Strings.Search2
import Derived.Shelf.Strings.Search3
import Derived.Shelf.Strings.Cut
import Derived.Shelf.Strings.Count
import Derived.Shelf.Strings.Shaped
import Derived.Shelf.Strings.Split
import Derived.Shelf.Strings.SplitShaped
import Derived.Shelf.Unicode.Decode
import Derived.Shelf.Strings.RuneCount
import Derived.Shelf.Strings.Explode
import Derived.Shelf.Unicode.DecodeSlow
import Derived.Shelf.Unicode.DecodeAny
import Derived.Shelf.Strings.BuilderCap
import Derived.Shelf.Slices.Turned
import Derived.Shelf.Slices.Equal
import Derived.Ground.Names2Prog
import Derived.Shelf.Slices.Clone
import Derived.Shelf.Slices.CompactI
import Derived.Shelf.Slices.SearchI
import Derived.Shelf.Slices.Cells
import Derived.Shelf.Slices.Empties2
import Derived.Ground.SlgnProg
import Derived.Shelf.SlicesE.Clone
import Derived.Ground.SlsfProg
import Derived.Shelf.SlSortCmp.Insertion
import Derived.Shelf.SlSortCmp.SiftDown1
import Derived.Shelf.SlSortCmp.HeapSort1
import Derived.Shelf.SlSortCmp.Insertion1
import Derived.Shelf.SlSortCmp.Median1
import Derived.Shelf.SlSortCmp.Pivot1
import Derived.Shelf.SlSortCmp.ReverseRange1
import Derived.Shelf.SlSortCmp.PartialInsertion1
import Derived.Shelf.SlSortCmp.PartitionEqual1
import Derived.Shelf.SlSortCmp.Partition1
import Derived.Shelf.SlSortCmp.Pdq1
import Derived.Shelf.SlSortCmp.Whole1
import Derived.Shelf.SlSortCmp.NoneTotal
import Derived.Test.YtelioaepnpnojaaGreatDoorProg
import Derived.Test.YtelioaepnpnojaaGreatDoorKTr3
import Derived.Test.YtelioaepnpnojaaGreatDoorKTr4
import Derived.Shelf.Abstract
namespace Go.Proofs
open Go.Shelf
def Tryz.lays169_ren : Go.Shelf.Ren := ⟨fun | 169 => 68 | n => n, fun | 70 => 89 | 9 => 9 | 0 => 0 | 72 => 92 | 37 => 90 | 127 => 108 | 3 => 3 | 5 => 5 | n => n, fun | n => n⟩
theorem Tryz.lays169 : Go.Proofs.Lays.n169 Tryz.prog Tryz.lays169_ren := {
  mixed := by kernel_rfl
  f169 := Tryz.func68.trans (congrArg some (by kernel_rfl))
  t0 := Tryz.underlying0
  a0 := Tryz.isAgg0
  z0 := Tryz.sizeOf0
  v0 := Tryz.zeroValue0
  t3 := Tryz.underlying3
  a3 := Tryz.isAgg3
  z3 := Tryz.sizeOf3
  v3 := Tryz.zeroValue3
  t9 := Tryz.underlying9
  a9 := Tryz.isAgg9
  z9 := Tryz.sizeOf9
  v9 := Tryz.zeroValue9
  t37 := Tryz.underlying90
  a37 := Tryz.isAgg90
  z37 := Tryz.sizeOf90
  v37 := Tryz.zeroValue90
  t70 := Tryz.underlying89
  a70 := Tryz.isAgg89
  z70 := Tryz.sizeOf89
  v70 := Tryz.zeroValue89
  t72 := Tryz.underlying92
  a72 := Tryz.isAgg92
  z72 := Tryz.sizeOf92
  v72 := Tryz.zeroValue92
  t127 := Tryz.underlying108
  a127 := Tryz.isAgg108
  z127 := Tryz.sizeOf108
  v127 := Tryz.zeroValue108 }
theorem Tryz.Builder_Extra_169 : Builder.Extra Tryz.prog Tryz.lays169_ren := {
  sizeBuilder := by kernel_rfl
  liesBuilder := by kernel_rfl
  t5 := Tryz.underlying5
  a5 := Tryz.isAgg5
  z5 := Tryz.sizeOf5
  v5 := Tryz.zeroValue5
  infoByte := by kernel_rfl
  cellsByte := by kernel_rfl
  sizeByte := by kernel_rfl
  neB5 := by decide }
def Tryz.lays122_ren : Go.Shelf.Ren := ⟨fun | 122 => 45 | 215 => 78 | n => n, fun | 3 => 3 | 4 => 4 | n => n, fun | n => n⟩
theorem Tryz.lays122 : Go.Proofs.Lays.n122 Tryz.prog Tryz.lays122_ren := {
  mixed := by kernel_rfl
  f122 := Tryz.func45.trans (congrArg some (by kernel_rfl))
  f215 := Tryz.func78.trans (congrArg some (by kernel_rfl))
  t3 := Tryz.underlying3
  a3 := Tryz.isAgg3
  z3 := Tryz.sizeOf3
  v3 := Tryz.zeroValue3
  t4 := Tryz.underlying4
  a4 := Tryz.isAgg4
  z4 := Tryz.sizeOf4
  v4 := Tryz.zeroValue4 }
open Go.RowKit in
theorem Tryz.cmp_Compare_int (x y : Int) (w : World) :
    Calls Tryz.prog 45 #[.int .i64 x, .int .i64 y] w fun e w' => e = .returned (.int .i64 (Lib.compareInt x y)) ∧ w' = w := Any.cmp_Compare_int Tryz.lays122 x y w
def Tryz.laysM171_ren : Go.Shelf.Ren := ⟨fun | 171 => 67 | 243 => 88 | 246 => 110 | 283 => 123 | 284 => 124 | 285 => 125 | 286 => 126 | 129 => 99 | 317 => 135 | 318 => 136 | 319 => 137 | 320 => 138 | 337 => 141 | 338 => 142 | n => n, fun | 3 => 3 | 9 => 9 | 2 => 2 | 4 => 4 | 171 => 153 | 0 => 0 | 53 => 125 | 37 => 90 | 5 => 5 | 173 => 155 | 212 => 164 | 51 => 123 | 20 => 20 | 213 => 165 | 46 => 101 | 232 => 172 | 233 => 173 | n => n, fun | 17 => 3 | 18 => 6 | 19 => 7 | n => n⟩
theorem Tryz.laysM171 : Go.Proofs.LaysM.n171 Tryz.prog Tryz.laysM171_ren := {
  mixed := by kernel_rfl
  f129 := Tryz.func99.trans (congrArg some (by kernel_rfl))
  f171 := Tryz.func67.trans (congrArg some (by kernel_rfl))
  f243 := Tryz.func88.trans (congrArg some (by kernel_rfl))
  f246 := Tryz.func110.trans (congrArg some (by kernel_rfl))
  f283 := Tryz.func123.trans (congrArg some (by kernel_rfl))
  f284 := Tryz.func124.trans (congrArg some (by kernel_rfl))
  f285 := Tryz.func125.trans (congrArg some (by kernel_rfl))
  f286 := Tryz.func126.trans (congrArg some (by kernel_rfl))
  f317 := Tryz.func135.trans (congrArg some (by kernel_rfl))
  f318 := Tryz.func136.trans (congrArg some (by kernel_rfl))
  f319 := Tryz.func137.trans (congrArg some (by kernel_rfl))
  f320 := Tryz.func138.trans (congrArg some (by kernel_rfl))
  f337 := Tryz.func141.trans (congrArg some (by kernel_rfl))
  f338 := Tryz.func142.trans (congrArg some (by kernel_rfl))
  t0 := Tryz.underlying0
  a0 := Tryz.isAgg0
  z0 := Tryz.sizeOf0
  v0 := Tryz.zeroValue0
  t2 := Tryz.underlying2
  a2 := Tryz.isAgg2
  z2 := Tryz.sizeOf2
  v2 := Tryz.zeroValue2
  t3 := Tryz.underlying3
  a3 := Tryz.isAgg3
  z3 := Tryz.sizeOf3
  v3 := Tryz.zeroValue3
  t4 := Tryz.underlying4
  a4 := Tryz.isAgg4
  z4 := Tryz.sizeOf4
  v4 := Tryz.zeroValue4
  t5 := Tryz.underlying5
  a5 := Tryz.isAgg5
  z5 := Tryz.sizeOf5
  v5 := Tryz.zeroValue5
  t9 := Tryz.underlying9
  a9 := Tryz.isAgg9
  z9 := Tryz.sizeOf9
  v9 := Tryz.zeroValue9
  t20 := Tryz.underlying20
  a20 := Tryz.isAgg20
  z20 := Tryz.sizeOf20
  v20 := Tryz.zeroValue20
  t37 := Tryz.underlying90
  a37 := Tryz.isAgg90
  z37 := Tryz.sizeOf90
  v37 := Tryz.zeroValue90
  t46 := Tryz.underlying101
  a46 := Tryz.isAgg101
  z46 := Tryz.sizeOf101
  v46 := Tryz.zeroValue101
  t51 := Tryz.underlying123
  a51 := Tryz.isAgg123
  z51 := Tryz.sizeOf123
  v51 := Tryz.zeroValue123
  t53 := Tryz.underlying125
  a53 := Tryz.isAgg125
  z53 := Tryz.sizeOf125
  v53 := Tryz.zeroValue125
  t171 := Tryz.underlying153
  a171 := Tryz.isAgg153
  z171 := Tryz.sizeOf153
  v171 := Tryz.zeroValue153
  t173 := Tryz.underlying155
  a173 := Tryz.isAgg155
  z173 := Tryz.sizeOf155
  v173 := Tryz.zeroValue155
  t212 := Tryz.underlying164
  a212 := Tryz.isAgg164
  z212 := Tryz.sizeOf164
  v212 := Tryz.zeroValue164
  t213 := Tryz.underlying165
  a213 := Tryz.isAgg165
  z213 := Tryz.sizeOf165
  t232 := Tryz.underlying172
  a232 := Tryz.isAgg172
  z232 := Tryz.sizeOf172
  v232 := Tryz.zeroValue172
  t233 := Tryz.underlying173
  a233 := Tryz.isAgg173
  z233 := Tryz.sizeOf173
  v233 := Tryz.zeroValue173
  g17 := by kernel_rfl
  g18 := by kernel_rfl
  g19 := by kernel_rfl
  i0 := by kernel_rfl
  i2 := by kernel_rfl
  i3 := by kernel_rfl
  i4 := by kernel_rfl
  i5 := by kernel_rfl
  i9 := by kernel_rfl
  i20 := by kernel_rfl
  i37 := by kernel_rfl
  i46 := by kernel_rfl
  i51 := by kernel_rfl
  i53 := by kernel_rfl
  i171 := by kernel_rfl
  i173 := by kernel_rfl
  i212 := by kernel_rfl
  i232 := by kernel_rfl
  i233 := by kernel_rfl
  m17 := by kernel_rfl
  m18 := by kernel_rfl
  m19 := by kernel_rfl }
open Go.RowKit Go.Sort Go.Lib in
theorem Tryz.strconv_Itoa (n : Int) (h0 : -9223372036854775808 ≤ n) (h1 : n ≤ 9223372036854775807) (w : World) (htab : Lib.TabIs Tryz.prog w "internal/strconv.uint64pow10" .u64 Lib.pow10Tab) :
    Calls Tryz.prog 67 #[.int .i64 n] w fun e w' => e = .returned (.string ⟨(Lib.itoa n).toArray⟩) ∧ ∃ k os, w' = grow (w.drewN k) os := Any.strconv_Itoa Tryz.laysM171 n h0 h1 w htab
def Tryz.laysC172_ren : Go.Shelf.Ren := ⟨fun | 172 => 63 | 244 => 85 | 245 => 86 | 247 => 104 | 279 => 105 | 280 => 106 | 281 => 107 | 282 => 108 | 287 => 120 | 316 => 121 | 171 => 67 | 205 => 122 | 321 => 133 | 322 => 134 | 243 => 88 | 246 => 110 | 283 => 123 | 284 => 124 | 285 => 125 | 286 => 126 | 129 => 99 | 317 => 135 | 318 => 136 | 319 => 137 | 320 => 138 | 337 => 141 | 338 => 142 | n => n, fun | 9 => 9 | 3 => 3 | 75 => 82 | 76 => 83 | 4 => 4 | 5 => 5 | 167 => 128 | 37 => 90 | 0 => 0 | 85 => 129 | 2 => 2 | 168 => 131 | 53 => 125 | 175 => 147 | 46 => 101 | 210 => 151 | 127 => 108 | 145 => 162 | 143 => 160 | 21 => 21 | 171 => 153 | 173 => 155 | 212 => 164 | 51 => 123 | 20 => 20 | 213 => 165 | 232 => 172 | 233 => 173 | 80 => 94 | n => n, fun | 15 => 0 | 16 => 1 | 17 => 3 | 18 => 6 | 19 => 7 | n => n⟩
theorem Tryz.laysC172 : Go.Proofs.LaysC.n172 Tryz.prog Tryz.laysC172_ren := {
  mixed := by kernel_rfl
  f129 := Tryz.func99.trans (congrArg some (by kernel_rfl))
  f171 := Tryz.func67.trans (congrArg some (by kernel_rfl))
  f172 := Tryz.func63.trans (congrArg some (by kernel_rfl))
  f205 := Tryz.func122.trans (congrArg some (by kernel_rfl))
  f243 := Tryz.func88.trans (congrArg some (by kernel_rfl))
  f244 := Tryz.func85.trans (congrArg some (by kernel_rfl))
  f245 := Tryz.func86.trans (congrArg some (by kernel_rfl))
  f246 := Tryz.func110.trans (congrArg some (by kernel_rfl))
  f247 := Tryz.func104.trans (congrArg some (by kernel_rfl))
  f279 := Tryz.func105.trans (congrArg some (by kernel_rfl))
  f280 := Tryz.func106.trans (congrArg some (by kernel_rfl))
  f281 := Tryz.func107.trans (congrArg some (by kernel_rfl))
  f282 := Tryz.func108.trans (congrArg some (by kernel_rfl))
  f283 := Tryz.func123.trans (congrArg some (by kernel_rfl))
  f284 := Tryz.func124.trans (congrArg some (by kernel_rfl))
  f285 := Tryz.func125.trans (congrArg some (by kernel_rfl))
  f286 := Tryz.func126.trans (congrArg some (by kernel_rfl))
  f287 := Tryz.func120.trans (congrArg some (by kernel_rfl))
  f316 := Tryz.func121.trans (congrArg some (by kernel_rfl))
  f317 := Tryz.func135.trans (congrArg some (by kernel_rfl))
  f318 := Tryz.func136.trans (congrArg some (by kernel_rfl))
  f319 := Tryz.func137.trans (congrArg some (by kernel_rfl))
  f320 := Tryz.func138.trans (congrArg some (by kernel_rfl))
  f321 := Tryz.func133.trans (congrArg some (by kernel_rfl))
  f322 := Tryz.func134.trans (congrArg some (by kernel_rfl))
  f337 := Tryz.func141.trans (congrArg some (by kernel_rfl))
  f338 := Tryz.func142.trans (congrArg some (by kernel_rfl))
  t0 := Tryz.underlying0
  a0 := Tryz.isAgg0
  z0 := Tryz.sizeOf0
  v0 := Tryz.zeroValue0
  t2 := Tryz.underlying2
  a2 := Tryz.isAgg2
  z2 := Tryz.sizeOf2
  v2 := Tryz.zeroValue2
  t3 := Tryz.underlying3
  a3 := Tryz.isAgg3
  z3 := Tryz.sizeOf3
  v3 := Tryz.zeroValue3
  t4 := Tryz.underlying4
  a4 := Tryz.isAgg4
  z4 := Tryz.sizeOf4
  v4 := Tryz.zeroValue4
  t5 := Tryz.underlying5
  a5 := Tryz.isAgg5
  z5 := Tryz.sizeOf5
  v5 := Tryz.zeroValue5
  t9 := Tryz.underlying9
  a9 := Tryz.isAgg9
  z9 := Tryz.sizeOf9
  v9 := Tryz.zeroValue9
  t20 := Tryz.underlying20
  a20 := Tryz.isAgg20
  z20 := Tryz.sizeOf20
  v20 := Tryz.zeroValue20
  t21 := Tryz.underlying21
  a21 := Tryz.isAgg21
  z21 := Tryz.sizeOf21
  v21 := Tryz.zeroValue21
  t37 := Tryz.underlying90
  a37 := Tryz.isAgg90
  z37 := Tryz.sizeOf90
  v37 := Tryz.zeroValue90
  t46 := Tryz.underlying101
  a46 := Tryz.isAgg101
  z46 := Tryz.sizeOf101
  v46 := Tryz.zeroValue101
  t51 := Tryz.underlying123
  a51 := Tryz.isAgg123
  z51 := Tryz.sizeOf123
  v51 := Tryz.zeroValue123
  t53 := Tryz.underlying125
  a53 := Tryz.isAgg125
  z53 := Tryz.sizeOf125
  v53 := Tryz.zeroValue125
  t75 := Tryz.underlying82
  a75 := Tryz.isAgg82
  z75 := Tryz.sizeOf82
  v75 := Tryz.zeroValue82
  t76 := Tryz.underlying83
  a76 := Tryz.isAgg83
  z76 := Tryz.sizeOf83
  v76 := Tryz.zeroValue83
  t85 := Tryz.underlying129
  a85 := Tryz.isAgg129
  z85 := Tryz.sizeOf129
  v85 := Tryz.zeroValue129
  t127 := Tryz.underlying108
  a127 := Tryz.isAgg108
  z127 := Tryz.sizeOf108
  v127 := Tryz.zeroValue108
  t143 := Tryz.underlying160
  a143 := Tryz.isAgg160
  z143 := Tryz.sizeOf160
  v143 := Tryz.zeroValue160
  t145 := Tryz.underlying162
  a145 := Tryz.isAgg162
  z145 := Tryz.sizeOf162
  v145 := Tryz.zeroValue162
  t167 := Tryz.underlying128
  a167 := Tryz.isAgg128
  z167 := Tryz.sizeOf128
  v167 := Tryz.zeroValue128
  t168 := Tryz.underlying131
  a168 := Tryz.isAgg131
  z168 := Tryz.sizeOf131
  v168 := Tryz.zeroValue131
  t171 := Tryz.underlying153
  a171 := Tryz.isAgg153
  z171 := Tryz.sizeOf153
  v171 := Tryz.zeroValue153
  t173 := Tryz.underlying155
  a173 := Tryz.isAgg155
  z173 := Tryz.sizeOf155
  v173 := Tryz.zeroValue155
  t175 := Tryz.underlying147
  a175 := Tryz.isAgg147
  z175 := Tryz.sizeOf147
  v175 := Tryz.zeroValue147
  t210 := Tryz.underlying151
  a210 := Tryz.isAgg151
  z210 := Tryz.sizeOf151
  v210 := Tryz.zeroValue151
  t212 := Tryz.underlying164
  a212 := Tryz.isAgg164
  z212 := Tryz.sizeOf164
  v212 := Tryz.zeroValue164
  t213 := Tryz.underlying165
  a213 := Tryz.isAgg165
  z213 := Tryz.sizeOf165
  t232 := Tryz.underlying172
  a232 := Tryz.isAgg172
  z232 := Tryz.sizeOf172
  v232 := Tryz.zeroValue172
  t233 := Tryz.underlying173
  a233 := Tryz.isAgg173
  z233 := Tryz.sizeOf173
  v233 := Tryz.zeroValue173
  g15 := by kernel_rfl
  g16 := by kernel_rfl
  g17 := by kernel_rfl
  g18 := by kernel_rfl
  g19 := by kernel_rfl
  t80 := Tryz.underlying94
  a80 := Tryz.isAgg94
  z80 := Tryz.sizeOf94
  v80 := Tryz.zeroValue94
  i0 := by kernel_rfl
  i2 := by kernel_rfl
  i3 := by kernel_rfl
  i4 := by kernel_rfl
  i5 := by kernel_rfl
  i9 := by kernel_rfl
  i20 := by kernel_rfl
  i21 := by kernel_rfl
  i37 := by kernel_rfl
  i46 := by kernel_rfl
  i51 := by kernel_rfl
  i53 := by kernel_rfl
  i75 := by kernel_rfl
  i76 := by kernel_rfl
  i80 := by kernel_rfl
  i85 := by kernel_rfl
  i127 := by kernel_rfl
  i143 := by kernel_rfl
  i145 := by kernel_rfl
  i167 := by kernel_rfl
  i168 := by kernel_rfl
  i171 := by kernel_rfl
  i173 := by kernel_rfl
  i175 := by kernel_rfl
  i210 := by kernel_rfl
  i212 := by kernel_rfl
  i232 := by kernel_rfl
  i233 := by kernel_rfl
  m15 := by kernel_rfl
  m16 := by kernel_rfl
  m17 := by kernel_rfl
  m18 := by kernel_rfl
  m19 := by kernel_rfl
  c0 := by kernel_rfl
  c2 := by kernel_rfl
  c3 := by kernel_rfl
  c4 := by kernel_rfl
  c5 := by kernel_rfl
  c9 := by kernel_rfl
  c20 := by kernel_rfl
  c21 := by kernel_rfl
  c37 := by kernel_rfl
  c46 := by kernel_rfl
  c51 := by kernel_rfl
  c53 := by kernel_rfl
  c75 := by kernel_rfl
  c76 := by kernel_rfl
  c80 := by kernel_rfl
  c85 := by kernel_rfl
  c127 := by kernel_rfl
  c143 := by kernel_rfl
  c145 := by kernel_rfl
  c167 := by kernel_rfl
  c168 := by kernel_rfl
  c171 := by kernel_rfl
  c173 := by kernel_rfl
  c175 := by kernel_rfl
  c210 := by kernel_rfl
  c212 := by kernel_rfl
  c213 := by kernel_rfl
  c232 := by kernel_rfl
  c233 := by kernel_rfl }
open Go.RowKit in
theorem Tryz.strconv_Atoi_ok (s : ByteArray) (hmax : s.size ≤ 9223372036854775806) (v : Int) (h : Lib.atoiAll s.data.toList = .ok v) (w : World) :
    Calls Tryz.prog 63 #[.string s] w fun e w' => e = .returned (.tuple #[.int .i64 v, .nilIface]) ∧ (w' = w ∨ ∃ t, w' = Lib.bytesWorld w 5 t) := Any.strconv_Atoi_ok Tryz.laysC172 s hmax v h w
open Go.RowKit in
theorem Tryz.strconv_Atoi_range (s : ByteArray) (hlim : s.size ≤ 281474976710656) (h : Lib.atoiAll s.data.toList = .range) (ev : Value) (w : World) (hv : w.cell? ⟨1, 0, none⟩ = some ev) (hev : ev = .nilIface ∨ ∃ te pe, ev = .iface te pe) :
    Calls Tryz.prog 63 #[.string s] w fun e w' => ∃ N, e = .returned (.tuple #[.int .i64 (Lib.atoiSat s.data.toList), .iface 131 (.pointer (some ⟨N, 0, none⟩))]) ∧ w.heap.size ≤ N ∧ w'.heap[N]? = some (.cells #[.string ⟨#[65, 116, 111, 105]⟩, .string s, ev] 151 (0, 0)) ∧ Below w.heap.size w w' := Any.strconv_Atoi_range Tryz.laysC172 s hlim h ev w hv hev
def Tryz.lays145_ren : Go.Shelf.Ren := ⟨fun | 145 => 83 | 220 => 100 | 219 => 116 | 217 => 128 | 225 => 129 | 224 => 130 | 267 => 131 | 266 => 139 | 314 => 140 | n => n, fun | 9 => 9 | 4 => 4 | 59 => 104 | 3 => 3 | 5 => 5 | 46 => 101 | 146 => 166 | 51 => 123 | n => n, fun | 1 => 2 | n => n⟩
theorem Tryz.lays145 : Go.Proofs.Lays.n145 Tryz.prog Tryz.lays145_ren := {
  mixed := by kernel_rfl
  f145 := Tryz.func83.trans (congrArg some (by kernel_rfl))
  f217 := Tryz.func128.trans (congrArg some (by kernel_rfl))
  f219 := Tryz.func116.trans (congrArg some (by kernel_rfl))
  f220 := Tryz.func100.trans (congrArg some (by kernel_rfl))
  f224 := Tryz.func130.trans (congrArg some (by kernel_rfl))
  f225 := Tryz.func129.trans (congrArg some (by kernel_rfl))
  f266 := Tryz.func139.trans (congrArg some (by kernel_rfl))
  f267 := Tryz.func131.trans (congrArg some (by kernel_rfl))
  f314 := Tryz.func140.trans (congrArg some (by kernel_rfl))
  t3 := Tryz.underlying3
  a3 := Tryz.isAgg3
  z3 := Tryz.sizeOf3
  v3 := Tryz.zeroValue3
  t4 := Tryz.underlying4
  a4 := Tryz.isAgg4
  z4 := Tryz.sizeOf4
  v4 := Tryz.zeroValue4
  t5 := Tryz.underlying5
  a5 := Tryz.isAgg5
  z5 := Tryz.sizeOf5
  v5 := Tryz.zeroValue5
  t9 := Tryz.underlying9
  a9 := Tryz.isAgg9
  z9 := Tryz.sizeOf9
  v9 := Tryz.zeroValue9
  t46 := Tryz.underlying101
  a46 := Tryz.isAgg101
  z46 := Tryz.sizeOf101
  v46 := Tryz.zeroValue101
  t51 := Tryz.underlying123
  a51 := Tryz.isAgg123
  z51 := Tryz.sizeOf123
  v51 := Tryz.zeroValue123
  t59 := Tryz.underlying104
  a59 := Tryz.isAgg104
  z59 := Tryz.sizeOf104
  v59 := Tryz.zeroValue104
  t146 := Tryz.underlying166
  a146 := Tryz.isAgg166
  z146 := Tryz.sizeOf166
  v146 := Tryz.zeroValue166
  g1 := by kernel_rfl }
open Go.RowKit Go.Lib in
theorem Tryz.strings_Cut (s sep : ByteArray) (m : Int) (w : World) (hs : s.size < 4294967281) (hm : w.cell? ⟨2, 0, none⟩ = some (.int .i64 m)) :
    Calls Tryz.prog 83 #[.string s, .string sep] w fun e w' => e = .returned (.tuple #[.string ⟨(Lib.cut s.data.toList sep.data.toList).1.toArray⟩, .string ⟨(Lib.cut s.data.toList sep.data.toList).2.1.toArray⟩, .bool (Lib.cut s.data.toList sep.data.toList).2.2]) ∧ ∃ n, w' = w.drewN n := Any.strings_Cut Tryz.lays145 s sep m w hs hm
def Tryz.lays146_ren : Go.Shelf.Ren := ⟨fun | 146 => 62 | 221 => 84 | 268 => 101 | 138 => 102 | 143 => 103 | 195 => 117 | 197 => 118 | 218 => 119 | 219 => 116 | 260 => 132 | 217 => 128 | 225 => 129 | 224 => 130 | 267 => 131 | 266 => 139 | 314 => 140 | n => n, fun | 9 => 9 | 31 => 79 | 3 => 3 | 4 => 4 | 0 => 0 | 105 => 144 | 21 => 21 | 5 => 5 | 46 => 101 | 119 => 168 | 139 => 171 | 138 => 170 | 146 => 166 | 51 => 123 | n => n, fun | 1 => 2 | 3 => 4 | 4 => 5 | n => n⟩
theorem Tryz.lays146 : Go.Proofs.Lays.n146 Tryz.prog Tryz.lays146_ren := {
  mixed := by kernel_rfl
  f138 := Tryz.func102.trans (congrArg some (by kernel_rfl))
  f143 := Tryz.func103.trans (congrArg some (by kernel_rfl))
  f146 := Tryz.func62.trans (congrArg some (by kernel_rfl))
  f195 := Tryz.func117.trans (congrArg some (by kernel_rfl))
  f197 := Tryz.func118.trans (congrArg some (by kernel_rfl))
  f217 := Tryz.func128.trans (congrArg some (by kernel_rfl))
  f218 := Tryz.func119.trans (congrArg some (by kernel_rfl))
  f219 := Tryz.func116.trans (congrArg some (by kernel_rfl))
  f221 := Tryz.func84.trans (congrArg some (by kernel_rfl))
  f224 := Tryz.func130.trans (congrArg some (by kernel_rfl))
  f225 := Tryz.func129.trans (congrArg some (by kernel_rfl))
  f260 := Tryz.func132.trans (congrArg some (by kernel_rfl))
  f266 := Tryz.func139.trans (congrArg some (by kernel_rfl))
  f267 := Tryz.func131.trans (congrArg some (by kernel_rfl))
  f268 := Tryz.func101.trans (congrArg some (by kernel_rfl))
  f314 := Tryz.func140.trans (congrArg some (by kernel_rfl))
  t0 := Tryz.underlying0
  a0 := Tryz.isAgg0
  z0 := Tryz.sizeOf0
  v0 := Tryz.zeroValue0
  t3 := Tryz.underlying3
  a3 := Tryz.isAgg3
  z3 := Tryz.sizeOf3
  v3 := Tryz.zeroValue3
  t4 := Tryz.underlying4
  a4 := Tryz.isAgg4
  z4 := Tryz.sizeOf4
  v4 := Tryz.zeroValue4
  t5 := Tryz.underlying5
  a5 := Tryz.isAgg5
  z5 := Tryz.sizeOf5
  v5 := Tryz.zeroValue5
  t9 := Tryz.underlying9
  a9 := Tryz.isAgg9
  z9 := Tryz.sizeOf9
  v9 := Tryz.zeroValue9
  t21 := Tryz.underlying21
  a21 := Tryz.isAgg21
  z21 := Tryz.sizeOf21
  v21 := Tryz.zeroValue21
  t31 := Tryz.underlying79
  a31 := Tryz.isAgg79
  z31 := Tryz.sizeOf79
  v31 := Tryz.zeroValue79
  t46 := Tryz.underlying101
  a46 := Tryz.isAgg101
  z46 := Tryz.sizeOf101
  v46 := Tryz.zeroValue101
  t51 := Tryz.underlying123
  a51 := Tryz.isAgg123
  z51 := Tryz.sizeOf123
  v51 := Tryz.zeroValue123
  t105 := Tryz.underlying144
  a105 := Tryz.isAgg144
  z105 := Tryz.sizeOf144
  v105 := Tryz.zeroValue144
  t119 := Tryz.underlying168
  a119 := Tryz.isAgg168
  z119 := Tryz.sizeOf168
  t138 := Tryz.underlying170
  a138 := Tryz.isAgg170
  z138 := Tryz.sizeOf170
  v138 := Tryz.zeroValue170
  t139 := Tryz.underlying171
  a139 := Tryz.isAgg171
  z139 := Tryz.sizeOf171
  v139 := Tryz.zeroValue171
  t146 := Tryz.underlying166
  a146 := Tryz.isAgg166
  z146 := Tryz.sizeOf166
  v146 := Tryz.zeroValue166
  g1 := by kernel_rfl
  g3 := by kernel_rfl
  g4 := by kernel_rfl }
open Go.RowKit Go.Lib in
theorem Tryz.strings_Split (s sep : ByteArray) (m : Int) (w : World) (hs : s.size < 4294967281) (hm : w.cell? ⟨2, 0, none⟩ = some (.int .i64 m)) (h1 : 1 ≤ sep.size) :
    Calls Tryz.prog 62 #[.string s, .string sep] w fun e w' =>
      e = .returned (.slice (some ⟨w.heap.size, 0, none⟩) (Lib.countB s sep + 1) (Lib.countB s sep + 1)) ∧ w' = w.alloc (.cells ((Lib.splitB sep 0 (Lib.countB s sep) s).map Value.string).toArray 9) := Any.strings_Split Tryz.lays146 (by kernel_rfl) s sep m w hs hm h1
def Tryz.laysNm220_ren : Go.Shelf.Ren := ⟨fun | 20 => 47 | n => n, fun | 22 => 25 | 3 => 3 | 4 => 4 | 0 => 0 | n => n, fun | n => n⟩
theorem Tryz.laysNm220 : Go.Proofs.Lays2.n20 Tryz.prog Tryz.laysNm220_ren := {
  mixed := by kernel_rfl
  f20 := Tryz.func47.trans (congrArg some (by kernel_rfl))
  t0 := Tryz.underlying0
  a0 := Tryz.isAgg0
  z0 := Tryz.sizeOf0
  v0 := Tryz.zeroValue0
  t3 := Tryz.underlying3
  a3 := Tryz.isAgg3
  z3 := Tryz.sizeOf3
  v3 := Tryz.zeroValue3
  t4 := Tryz.underlying4
  a4 := Tryz.isAgg4
  z4 := Tryz.sizeOf4
  v4 := Tryz.zeroValue4
  t22 := Tryz.underlying25
  a22 := Tryz.isAgg25
  z22 := Tryz.sizeOf25
  v22 := Tryz.zeroValue25
  i3 := by kernel_rfl }
open Go.RowKit Go.Lib Go.Sort in
theorem Tryz.slices_Compact_int (blk off cap : Nat) (zs : List Int) (w : World) (hH : Holds (Value.int .i64) w blk off zs.toArray) (hsz : zs.length ≤ 9223372036854775807) (hcap : zs.length ≤ cap) :
    Calls Tryz.prog 47 #[.slice (some ⟨blk, off, none⟩) zs.length cap] w fun e w' => e = .returned (.slice (some ⟨blk, off, none⟩) (Lib.compact zs).length cap) ∧ ∃ q, w' = putRow (Value.int .i64) (Sort.ahead w q) blk off (Lib.compact zs ++ List.replicate (zs.length - (Lib.compact zs).length) 0).toArray := Any.slices_Compact_int Tryz.laysNm220 blk off cap zs w hH hsz hcap
open Go.RowKit Go.Lib Go.Sort in
theorem Tryz.slices_Compact_int_empty (a : Option Addr) (cap : Nat) (w : World) :
    Calls Tryz.prog 47 #[.slice a 0 cap] w fun e w' => e = .returned (.slice a 0 cap) ∧ w' = w := Any.slices_Compact_int_empty Tryz.laysNm220 a cap w
def Tryz.laysSlF6_f42_ren : Go.Shelf.Ren := ⟨fun | 6 => 42 | 15 => 77 | 14 => 76 | 28 => 98 | 29 => 99 | 20 => 90 | 21 => 91 | 22 => 92 | 23 => 93 | 24 => 94 | 25 => 95 | 26 => 96 | 27 => 97 | 46 => 111 | 47 => 112 | 48 => 113 | 49 => 114 | 50 => 115 | 57 => 127 | n => n, fun | 22 => 25 | 24 => 3 | 25 => 67 | 3 => 3 | 39 => 101 | 0 => 0 | 53 => 123 | 55 => 125 | 4 => 4 | 46 => 116 | 45 => 115 | 50 => 120 | 5 => 5 | 9 => 9 | 66 => 137 | 70 => 141 | 76 => 157 | 77 => 85 | n => n, fun | n => n⟩
theorem Tryz.laysSlF6_f42 : Go.Proofs.SlLaysF.n6 Tryz.prog Tryz.laysSlF6_f42_ren := {
  mixed := by kernel_rfl
  f6 := ⟨Tryz.f42.name, by decide, Tryz.func42.trans (congrArg some (by kernel_rfl))⟩
  f14 := ⟨Tryz.f76.name, by decide, Tryz.func76.trans (congrArg some (by kernel_rfl))⟩
  f15 := Tryz.func77.trans (congrArg some (by kernel_rfl))
  f20 := ⟨Tryz.f90.name, by decide, Tryz.func90.trans (congrArg some (by kernel_rfl))⟩
  f21 := ⟨Tryz.f91.name, by decide, Tryz.func91.trans (congrArg some (by kernel_rfl))⟩
  f22 := ⟨Tryz.f92.name, by decide, Tryz.func92.trans (congrArg some (by kernel_rfl))⟩
  f23 := ⟨Tryz.f93.name, by decide, Tryz.func93.trans (congrArg some (by kernel_rfl))⟩
  f24 := ⟨Tryz.f94.name, by decide, Tryz.func94.trans (congrArg some (by kernel_rfl))⟩
  f25 := ⟨Tryz.f95.name, by decide, Tryz.func95.trans (congrArg some (by kernel_rfl))⟩
  f26 := ⟨Tryz.f96.name, by decide, Tryz.func96.trans (congrArg some (by kernel_rfl))⟩
  f27 := ⟨Tryz.f97.name, by decide, Tryz.func97.trans (congrArg some (by kernel_rfl))⟩
  f28 := Tryz.func98.trans (congrArg some (by kernel_rfl))
  f29 := Tryz.func99.trans (congrArg some (by kernel_rfl))
  f46 := ⟨Tryz.f111.name, by decide, Tryz.func111.trans (congrArg some (by kernel_rfl))⟩
  f47 := Tryz.func112.trans (congrArg some (by kernel_rfl))
  f48 := Tryz.func113.trans (congrArg some (by kernel_rfl))
  f49 := ⟨Tryz.f114.name, by decide, Tryz.func114.trans (congrArg some (by kernel_rfl))⟩
  f50 := ⟨Tryz.f115.name, by decide, Tryz.func115.trans (congrArg some (by kernel_rfl))⟩
  f57 := ⟨Tryz.f127.name, by decide, Tryz.func127.trans (congrArg some (by kernel_rfl))⟩
  t0 := Tryz.underlying0
  a0 := Tryz.isAgg0
  z0 := Tryz.sizeOf0
  v0 := Tryz.zeroValue0
  t3 := Tryz.underlying3
  a3 := Tryz.isAgg3
  z3 := Tryz.sizeOf3
  v3 := Tryz.zeroValue3
  t4 := Tryz.underlying4
  a4 := Tryz.isAgg4
  z4 := Tryz.sizeOf4
  v4 := Tryz.zeroValue4
  t5 := Tryz.underlying5
  a5 := Tryz.isAgg5
  z5 := Tryz.sizeOf5
  v5 := Tryz.zeroValue5
  t9 := Tryz.underlying9
  a9 := Tryz.isAgg9
  z9 := Tryz.sizeOf9
  v9 := Tryz.zeroValue9
  t22 := Tryz.underlying25
  a22 := Tryz.isAgg25
  z22 := Tryz.sizeOf25
  v22 := Tryz.zeroValue25
  a24 := Tryz.isAgg3
  z24 := Tryz.sizeOf3
  t25 := Tryz.underlying67
  a25 := Tryz.isAgg67
  z25 := Tryz.sizeOf67
  v25 := Tryz.zeroValue67
  t39 := Tryz.underlying101
  a39 := Tryz.isAgg101
  z39 := Tryz.sizeOf101
  v39 := Tryz.zeroValue101
  t45 := Tryz.underlying115
  a45 := Tryz.isAgg115
  z45 := Tryz.sizeOf115
  v45 := Tryz.zeroValue115
  t46 := Tryz.underlying116
  a46 := Tryz.isAgg116
  z46 := Tryz.sizeOf116
  v46 := Tryz.zeroValue116
  t50 := Tryz.underlying120
  a50 := Tryz.isAgg120
  z50 := Tryz.sizeOf120
  v50 := Tryz.zeroValue120
  t53 := Tryz.underlying123
  a53 := Tryz.isAgg123
  z53 := Tryz.sizeOf123
  v53 := Tryz.zeroValue123
  t55 := Tryz.underlying125
  a55 := Tryz.isAgg125
  z55 := Tryz.sizeOf125
  v55 := Tryz.zeroValue125
  t66 := Tryz.underlying137
  a66 := Tryz.isAgg137
  z66 := Tryz.sizeOf137
  v66 := Tryz.zeroValue137
  t70 := Tryz.underlying141
  a70 := Tryz.isAgg141
  z70 := Tryz.sizeOf141
  v70 := Tryz.zeroValue141
  t76 := Tryz.underlying157
  a76 := Tryz.isAgg157
  z76 := Tryz.sizeOf157
  v76 := Tryz.zeroValue157
  t77 := Tryz.underlying85
  a77 := Tryz.isAgg85
  z77 := Tryz.sizeOf85
  v77 := Tryz.zeroValue85 }
open Go.RowKit Go.Lib Go.Sort in
theorem Tryz.slices_SortFunc {α : Type} [Inhabited α] (enc : α → Value) (h1 : OneCell enc) (cf : α → α → Int) (hO : SWO (ltOf cf)) (g : Nat) (cb : Array Value) (blk off cap : Nat) (d : Array α) (w : World) (eg : ∀ args w, (callFunc g args).run Tryz.prog w = .ok (.enter g args) w) (hcmp : CmpLays1 Tryz.prog g cb enc cf blk off d.size w) (hH : Holds enc w blk off d) (hblk : blk < w.heap.size) (hsz : d.size < 4611686018427387904) :
    Calls Tryz.prog 42 #[.slice (some ⟨blk, off, none⟩) d.size cap, .func (.func g) #[] cb] w fun e w' =>
      e = .returned (.tuple #[]) ∧ ∃ d' n os, PermIn 0 d.size d d' ∧ SortedIn (ltOf cf) 0 d.size d' ∧ w' = sortWorld enc w blk off n d' os := Any.slices_SortFunc Tryz.laysSlF6_f42 enc h1 cf hO g cb blk off cap d w eg hcmp hH hblk hsz
def Tryz.laysSlF06_f42_ren : Go.Shelf.Ren := ⟨fun | 6 => 42 | 15 => 77 | 14 => 76 | 28 => 98 | 29 => 99 | 20 => 90 | 21 => 91 | 22 => 92 | 23 => 93 | 24 => 94 | 25 => 95 | 26 => 96 | 27 => 97 | 46 => 111 | 47 => 112 | 48 => 113 | 49 => 114 | 50 => 115 | 57 => 127 | n => n, fun | 22 => 25 | 24 => 3 | 25 => 67 | 3 => 3 | 39 => 101 | 0 => 0 | 53 => 123 | 55 => 125 | 4 => 4 | 46 => 116 | 45 => 115 | 50 => 120 | 5 => 5 | 9 => 9 | 66 => 137 | 70 => 141 | 76 => 157 | 77 => 85 | n => n, fun | n => n⟩
theorem Tryz.laysSlF06_f42 : Go.Proofs.SlLaysF0.n6 Tryz.prog Tryz.laysSlF06_f42_ren := {
  mixed := by kernel_rfl
  f6 := ⟨Tryz.f42.name, by decide, Tryz.func42.trans (congrArg some (by kernel_rfl))⟩
  f14 := ⟨Tryz.f76.name, by decide, Tryz.func76.trans (congrArg some (by kernel_rfl))⟩
  f15 := Tryz.func77.trans (congrArg some (by kernel_rfl))
  f20 := ⟨Tryz.f90.name, by decide, Tryz.func90.trans (congrArg some (by kernel_rfl))⟩
  f21 := ⟨Tryz.f91.name, by decide, Tryz.func91.trans (congrArg some (by kernel_rfl))⟩
  f22 := ⟨Tryz.f92.name, by decide, Tryz.func92.trans (congrArg some (by kernel_rfl))⟩
  f23 := ⟨Tryz.f93.name, by decide, Tryz.func93.trans (congrArg some (by kernel_rfl))⟩
  f24 := ⟨Tryz.f94.name, by decide, Tryz.func94.trans (congrArg some (by kernel_rfl))⟩
  f25 := ⟨Tryz.f95.name, by decide, Tryz.func95.trans (congrArg some (by kernel_rfl))⟩
  f26 := ⟨Tryz.f96.name, by decide, Tryz.func96.trans (congrArg some (by kernel_rfl))⟩
  f27 := ⟨Tryz.f97.name, by decide, Tryz.func97.trans (congrArg some (by kernel_rfl))⟩
  f28 := Tryz.func98.trans (congrArg some (by kernel_rfl))
  f29 := Tryz.func99.trans (congrArg some (by kernel_rfl))
  f46 := ⟨Tryz.f111.name, by decide, Tryz.func111.trans (congrArg some (by kernel_rfl))⟩
  f47 := Tryz.func112.trans (congrArg some (by kernel_rfl))
  f48 := Tryz.func113.trans (congrArg some (by kernel_rfl))
  f49 := ⟨Tryz.f114.name, by decide, Tryz.func114.trans (congrArg some (by kernel_rfl))⟩
  f50 := ⟨Tryz.f115.name, by decide, Tryz.func115.trans (congrArg some (by kernel_rfl))⟩
  f57 := ⟨Tryz.f127.name, by decide, Tryz.func127.trans (congrArg some (by kernel_rfl))⟩
  t0 := Tryz.underlying0
  a0 := Tryz.isAgg0
  z0 := Tryz.sizeOf0
  v0 := Tryz.zeroValue0
  t3 := Tryz.underlying3
  a3 := Tryz.isAgg3
  z3 := Tryz.sizeOf3
  v3 := Tryz.zeroValue3
  t4 := Tryz.underlying4
  a4 := Tryz.isAgg4
  z4 := Tryz.sizeOf4
  v4 := Tryz.zeroValue4
  t5 := Tryz.underlying5
  a5 := Tryz.isAgg5
  z5 := Tryz.sizeOf5
  v5 := Tryz.zeroValue5
  t9 := Tryz.underlying9
  a9 := Tryz.isAgg9
  z9 := Tryz.sizeOf9
  v9 := Tryz.zeroValue9
  t22 := Tryz.underlying25
  a22 := Tryz.isAgg25
  z22 := Tryz.sizeOf25
  v22 := Tryz.zeroValue25
  t25 := Tryz.underlying67
  a25 := Tryz.isAgg67
  z25 := Tryz.sizeOf67
  v25 := Tryz.zeroValue67
  t39 := Tryz.underlying101
  a39 := Tryz.isAgg101
  z39 := Tryz.sizeOf101
  v39 := Tryz.zeroValue101
  t45 := Tryz.underlying115
  a45 := Tryz.isAgg115
  z45 := Tryz.sizeOf115
  v45 := Tryz.zeroValue115
  t46 := Tryz.underlying116
  a46 := Tryz.isAgg116
  z46 := Tryz.sizeOf116
  v46 := Tryz.zeroValue116
  t50 := Tryz.underlying120
  a50 := Tryz.isAgg120
  z50 := Tryz.sizeOf120
  v50 := Tryz.zeroValue120
  t53 := Tryz.underlying123
  a53 := Tryz.isAgg123
  z53 := Tryz.sizeOf123
  v53 := Tryz.zeroValue123
  t55 := Tryz.underlying125
  a55 := Tryz.isAgg125
  z55 := Tryz.sizeOf125
  v55 := Tryz.zeroValue125
  t66 := Tryz.underlying137
  a66 := Tryz.isAgg137
  z66 := Tryz.sizeOf137
  v66 := Tryz.zeroValue137
  t70 := Tryz.underlying141
  a70 := Tryz.isAgg141
  z70 := Tryz.sizeOf141
  v70 := Tryz.zeroValue141
  t76 := Tryz.underlying157
  a76 := Tryz.isAgg157
  z76 := Tryz.sizeOf157
  v76 := Tryz.zeroValue157
  t77 := Tryz.underlying85
  a77 := Tryz.isAgg85
  z77 := Tryz.sizeOf85
  v77 := Tryz.zeroValue85 }
open Go.RowKit Go.Lib Go.Sort in
theorem Tryz.slices_SortFunc_none {α : Type} [Inhabited α] (p : Option Addr) (cap : Nat) (fv : Value) (w : World) :
    Calls Tryz.prog 42 #[.slice p 0 cap, fv] w fun e w' => e = .returned (.tuple #[]) ∧ w' = w := AnyF.slices_SortFunc_none Tryz.laysSlF06_f42 p cap fv w
open Go.RowKit Go.Lib Go.Sort in
theorem Tryz.slices_SortFunc_total {α : Type} [Inhabited α] (enc : α → Value) (h1 : OneCell enc) (cf : α → α → Int) (hO : SWO (ltOf cf)) (g : Nat) (cb : Array Value) (blk off cap : Nat) (d : Array α) (w : World) (eg : ∀ args w, (callFunc g args).run Tryz.prog w = .ok (.enter g args) w) (hcmp : CmpLays1 Tryz.prog g cb enc cf blk off d.size w) (hH : Holds enc w blk off d) (hblk : blk < w.heap.size) (hsz : d.size < 4611686018427387904) (hT : ∀ x y, (ltOf cf) x y = false → (ltOf cf) y x = false → x = y) :
    Calls Tryz.prog 42 #[.slice (some ⟨blk, off, none⟩) d.size cap, .func (.func g) #[] cb] w fun e w' =>
      e = .returned (.tuple #[]) ∧ ∃ n os, w' = sortWorld enc w blk off n (d.toList.mergeSort fun x y => !(ltOf cf) y x).toArray os := Any.slices_SortFunc_total Tryz.laysSlF6_f42 enc h1 cf hO g cb blk off cap d w eg hcmp hH hblk hsz hT
end Go.Proofs

/- The library's contracts over owned parts: slices.SortFunc of literals, slices.Compact. -/
set_option linter.unusedVariables false
set_option linter.unusedSimpArgs false
namespace Go.Proofs.YtelioaepnpnojaaGreatDoor
open Go.RowKit Go.Sort
def or2 (a b : Int) : Int := if a ≠ 0 then a else b
set_option maxHeartbeats 2000000 in
theorem or_any (c1 c2 : Int) (g : Nat) (W : World) (h1 : W.cell? ⟨g, 0, none⟩ = some (.int .i64 c1)) (h2 : W.cell? ⟨g, 1, none⟩ = some (.int .i64 c2)) :
    Calls Tryz.prog 44 #[.slice (some ⟨g, 0, none⟩) 2 2] W fun e w' => e = .returned (.int .i64 (or2 c1 c2)) ∧ w' = W := by
  unfold or2
  go_enter Tryz.func44, Tryz.ntmps44
  go_wp2_with fail
  refine wp_loop_rounds 3 ?_
  rw [rounds_succ]
  go_wp2_with fail
  all_goals try (rw [rounds_succ]; go_wp2_with fail)
  all_goals try (rw [rounds_succ]; go_wp2_with fail)
  all_goals try (go_ret; simp_all)
set_option maxHeartbeats 2000000 in
theorem var_any (n : Int) (h : -4611686018427387904 ≤ n ∧ n ≤ 4611686018427387904) (W : World) :
    Calls Tryz.prog 46 #[.int .i64 n] W fun e w' => e = .returned (.int .i64 (vr n)) ∧ w' = W := by
  unfold vr
  have hw : IntKind.wrap .i64 (-n) = 0 - n := by rw [IntKind.wrap_i64]; omega
  go_enter Tryz.func46, Tryz.ntmps46
  go_wp2_with fail
  all_goals try (go_ret; simp_all)
def Tr (W w : World) : Prop := ∃ q os, w = grow (W.drewN q) os
theorem Tr.refl (W : World) : Tr W W := ⟨0, #[], by simp [grow, World.drewN]⟩
theorem Tr.drew {W w : World} (h : Tr W w) : Tr W w.drew := by
  obtain ⟨q, os, rfl⟩ := h
  exact ⟨q + 1, os, rfl⟩
theorem Tr.alloc {W w : World} (h : Tr W w) (o : Obj) : Tr W (w.alloc o) := by
  obtain ⟨q, os, rfl⟩ := h
  exact ⟨q, os ++ #[o], by rw [alloc_eq_grow, grow_grow]⟩
section
variable {Z : World} {ρ : PH} {L : List Atom} {w W : World}
theorem c_cmpIT (a b : Int) (hp : Hp Z ρ L w) (hT : Tr W w) : Calls Tryz.prog 45 #[.int .i64 a, .int .i64 b] w (Ret fun v w' => v = .int .i64 (Lib.compareInt a b) ∧ Hp Z ρ L w' ∧ Tr W w') := by
  refine (Tryz.cmp_Compare_int a b w).mono ?_
  rintro e w' ⟨rfl, rfl⟩
  exact ⟨_, rfl, rfl, hp, hT⟩
theorem c_varT (a : Int) (h : -4611686018427387904 ≤ a ∧ a ≤ 4611686018427387904) (hp : Hp Z ρ L w) (hT : Tr W w) : Calls Tryz.prog 46 #[.int .i64 a] w (Ret fun v w' => v = .int .i64 (vr a) ∧ Hp Z ρ L w' ∧ Tr W w') := by
  refine (var_any a h w).mono ?_
  rintro e w' ⟨rfl, rfl⟩
  exact ⟨_, rfl, rfl, hp, hT⟩
theorem c_orT (c1 c2 : Int) (b : Nat) (hp : Hp Z ρ (Pt b (.cells #[.int .i64 c1, .int .i64 c2] 3 (0, 0)) :: L) w) (hT : Tr W w) : Calls Tryz.prog 44 #[.slice (some ⟨b, 0, none⟩) 2 2] w (Ret fun v w' => v = .int .i64 (or2 c1 c2) ∧ Hp Z ρ (Pt b (.cells #[.int .i64 c1, .int .i64 c2] 3 (0, 0)) :: L) w' ∧ Tr W w') := by
  have h := hp.look 0 rfl
  refine (or_any c1 c2 b w (by simp [World.cell?, h]) (by simp [World.cell?, h])).mono ?_
  rintro e w' ⟨rfl, rfl⟩
  exact ⟨_, rfl, rfl, hp, hT⟩
end
section
variable {Rn : Option Nat} {P : Program} {ops : Array Oper} {Q : Exit → Act → World → Prop} {rest : List Oper} {o : Oper} {a : Act} {w W : World} {N : Nat} {E : Ent} {d : Nat} {Z : World} {ρ : PH} {L : List Atom}
theorem s_litT (hT : Tr W w) (wk : Region.wanted o (yielded ops a.tmps) = true) (hd : o.dst = some d) (hN : Nat.blt d N = true) (hE : Env N E a) (hp : Hp Z ρ L w) {T : TypeId} {n : Nat} {ps : List (Nat × Operand)} (ho : o.op = .buildSlice T n ps.toArray) (vs : List (Nat × Value)) (hx : evP E ps vs)
    (cs : List Value) (El : TypeId) (hr : ∀ w, (Instr.buildSlice T n vs.toArray).run P w = .ok (.slice (some ⟨w.heap.size, 0, none⟩) n n) (w.alloc (.cells cs.toArray El)))
    (K : ∀ a w b, Env N ((d, .slice (some ⟨b, 0, none⟩) n n) :: E) a → Hp Z ρ (Pt b (.cells cs.toArray El (0, 0)) :: L) w → Tr W w → wpL Rn P ops Q rest a w) : wpL Rn P ops Q (o :: rest) a w := by
  have hps : ps.toArray.map (fun p => (p.1, a.eval p.2)) = vs.toArray := by rw [List.map_toArray, evP_map hE hx]
  refine s_run wk hd hN hE (v := .slice (some ⟨w.heap.size, 0, none⟩) n n) (w' := w.alloc (.cells cs.toArray El)) ?_ fun a' hE' => K a' _ _ hE' (hp.alloc _) (hT.alloc _)
  simp only [execOp, ho, hps, Sem.run_bind, hr w]
  rfl
end
theorem ent44 : ∀ args w, (callFunc 44 args).run Tryz.prog w = .ok (.enter 44 args) w := enters Tryz.func44 (by kernel_rfl) rfl
theorem ent45 : ∀ args w, (callFunc 45 args).run Tryz.prog w = .ok (.enter 45 args) w := enters Tryz.func45 (by kernel_rfl) rfl
def liOk (x : Int) : Prop := -4611686018427387904 ≤ x ∧ x ≤ 4611686018427387904
instance (x : Int) : Decidable (liOk x) := by unfold liOk; infer_instance
set_option maxRecDepth 100000 in
set_option maxHeartbeats 4000000 in
theorem closureN_ {Z : World} {ρ : PH} {L : List Atom} {w W : World} (p0 p1 : Int) (h0 : liOk p0) (h1 : liOk p1) (hp : Hp Z ρ (L) w) (hT : Tr W w) :
    Calls Tryz.prog 43 #[(.int .i64 p0), (.int .i64 p1)] w (Ret fun v w' => v = (.int .i64 (or2 (Lib.compareInt (vr p0) (vr p1)) (Lib.compareInt p0 p1))) ∧ Tr W w') := by
  refine enter (N := 15) Tryz.func43 rfl rfl [(0, (.int .i64 p0)), (1, (.int .i64 p1))] rfl (argsIn_mem ⟨rfl, rfl, trivial⟩) fun a hE => ?_
  refine k_seq ?_
  refine k_region ?_
  refine s_val (wk0 rfl) rfl rfl hE hp (v := (.int .i64 0)) (ex_asn rfl hE rfl) ?_
  intro a hE
  refine s_nil ?_
  refine k_seq ?_
  refine k_region ?_
  refine s_val (wk0 rfl) rfl rfl hE hp (v := (.int .i64 p0)) (ex_move rfl hE rfl) ?_
  intro a hE
  refine s_call (wk0 rfl) rfl rfl hE rfl [(.int .i64 p0)] ⟨rfl, trivial⟩ ent46 (c_varT p0 h0 hp hT) Ret.ret ?_
  intro v a w hR hE
  obtain ⟨rfl, hp, hT⟩ := Ret.of hR
  refine s_val (wk0 rfl) rfl rfl hE hp (v := (.int .i64 p1)) (ex_move rfl hE rfl) ?_
  intro a hE
  refine s_call (wk0 rfl) rfl rfl hE rfl [(.int .i64 p1)] ⟨rfl, trivial⟩ ent46 (c_varT p1 h1 hp hT) Ret.ret ?_
  intro v a w hR hE
  obtain ⟨rfl, hp, hT⟩ := Ret.of hR
  refine s_call (wk0 rfl) rfl rfl hE rfl [(.int .i64 (vr p0)), (.int .i64 (vr p1))] ⟨rfl, rfl, trivial⟩ ent45 (c_cmpIT (vr p0) (vr p1) hp hT) Ret.ret ?_
  intro v a w hR hE
  obtain ⟨rfl, hp, hT⟩ := Ret.of hR
  refine s_val (wk0 rfl) rfl rfl hE hp (v := (.int .i64 p0)) (ex_move rfl hE rfl) ?_
  intro a hE
  refine s_val (wk0 rfl) rfl rfl hE hp (v := (.int .i64 p1)) (ex_move rfl hE rfl) ?_
  intro a hE
  refine s_call (wk0 rfl) rfl rfl hE rfl [(.int .i64 p0), (.int .i64 p1)] ⟨rfl, rfl, trivial⟩ ent45 (c_cmpIT p0 p1 hp hT) Ret.ret ?_
  intro v a w hR hE
  obtain ⟨rfl, hp, hT⟩ := Ret.of hR
  refine s_litT hT (wk0 rfl) rfl rfl hE hp rfl [(0, (.int .i64 (Lib.compareInt (vr p0) (vr p1)))), (1, (.int .i64 (Lib.compareInt p0 p1)))] ⟨⟨rfl, rfl⟩, ⟨rfl, rfl⟩, trivial⟩ [(.int .i64 (Lib.compareInt (vr p0) (vr p1))), (.int .i64 (Lib.compareInt p0 p1))] 3 (fun w => by simp [Instr.buildSlice, Instr.fill, Value.cells, go_sem]) ?_
  intro a w b1 hE hp hT
  refine s_call (wk0 rfl) rfl rfl hE rfl [(.slice (some ⟨b1, 0, none⟩) 2 2)] ⟨rfl, trivial⟩ ent44 (c_orT (Lib.compareInt (vr p0) (vr p1)) (Lib.compareInt p0 p1) b1 hp hT) Ret.ret ?_
  intro v a w hR hE
  obtain ⟨rfl, hp, hT⟩ := Ret.of hR
  refine s_val (wk0 rfl) rfl rfl hE hp (v := (.int .i64 (or2 (Lib.compareInt (vr p0) (vr p1)) (Lib.compareInt p0 p1)))) (ex_asn rfl hE rfl) ?_
  intro a hE
  refine s_nil ?_
  refine k_ret ?_
  exact ret1 hE rfl rfl ⟨_, rfl, rfl, hT⟩
set_option maxRecDepth 100000 in
set_option maxHeartbeats 4000000 in
theorem closureV_ {Z : World} {ρ : PH} {L : List Atom} {w W : World} (p0 p1 : Int) (h0 : liOk p0) (h1 : liOk p1) (hp : Hp Z ρ (L) w) (hT : Tr W w) :
    Calls Tryz.prog 59 #[(.int .i64 p0), (.int .i64 p1)] w (Ret fun v w' => v = (.int .i64 (Lib.compareInt (vr p0) (vr p1))) ∧ Tr W w') := by
  refine enter (N := 10) Tryz.func59 rfl rfl [(0, (.int .i64 p0)), (1, (.int .i64 p1))] rfl (argsIn_mem ⟨rfl, rfl, trivial⟩) fun a hE => ?_
  refine k_seq ?_
  refine k_region ?_
  refine s_val (wk0 rfl) rfl rfl hE hp (v := (.int .i64 0)) (ex_asn rfl hE rfl) ?_
  intro a hE
  refine s_nil ?_
  refine k_seq ?_
  refine k_region ?_
  refine s_val (wk0 rfl) rfl rfl hE hp (v := (.int .i64 p0)) (ex_move rfl hE rfl) ?_
  intro a hE
  refine s_call (wk0 rfl) rfl rfl hE rfl [(.int .i64 p0)] ⟨rfl, trivial⟩ ent46 (c_varT p0 h0 hp hT) Ret.ret ?_
  intro v a w hR hE
  obtain ⟨rfl, hp, hT⟩ := Ret.of hR
  refine s_val (wk0 rfl) rfl rfl hE hp (v := (.int .i64 p1)) (ex_move rfl hE rfl) ?_
  intro a hE
  refine s_call (wk0 rfl) rfl rfl hE rfl [(.int .i64 p1)] ⟨rfl, trivial⟩ ent46 (c_varT p1 h1 hp hT) Ret.ret ?_
  intro v a w hR hE
  obtain ⟨rfl, hp, hT⟩ := Ret.of hR
  refine s_call (wk0 rfl) rfl rfl hE rfl [(.int .i64 (vr p0)), (.int .i64 (vr p1))] ⟨rfl, rfl, trivial⟩ ent45 (c_cmpIT (vr p0) (vr p1) hp hT) Ret.ret ?_
  intro v a w hR hE
  obtain ⟨rfl, hp, hT⟩ := Ret.of hR
  refine s_val (wk0 rfl) rfl rfl hE hp (v := (.int .i64 (Lib.compareInt (vr p0) (vr p1)))) (ex_asn rfl hE rfl) ?_
  intro a hE
  refine s_nil ?_
  refine k_ret ?_
  exact ret1 hE rfl rfl ⟨_, rfl, rfl, hT⟩
structure LitI where
  val : Int
  ok : liOk val
instance : Inhabited LitI := ⟨⟨0, by decide⟩⟩
def encL (x : LitI) : Value := .int .i64 x.1
theorem encL1 : OneCell encL := fun _ => rfl
def cfN (x y : LitI) : Int := or2 (Lib.compareInt (vr x.1) (vr y.1)) (Lib.compareInt x.1 y.1)
def cfV (x y : LitI) : Int := Lib.compareInt (vr x.1) (vr y.1)
theorem hp_whole0 (W : World) : Hp W (hp W) [] W := ⟨rfl, rfl, rfl, PH.le.rf _⟩
theorem closureN (x y : LitI) (W : World) : Calls Tryz.prog 43 (#[encL x, encL y] ++ #[]) W fun e w' => e = .returned (.int .i64 (cfN x y)) ∧ ∃ q os', w' = grow (W.drewN q) os' := by
  refine (closureN_ (Z := W) (ρ := hp W) (L := []) x.1 y.1 x.2 y.2 (hp_whole0 W) (Tr.refl W)).mono ?_
  rintro e w' ⟨v, rfl, rfl, q, os, rfl⟩
  exact ⟨rfl, q, os, rfl⟩
theorem closureV (x y : LitI) (W : World) : Calls Tryz.prog 59 (#[encL x, encL y] ++ #[]) W fun e w' => e = .returned (.int .i64 (cfV x y)) ∧ ∃ q os', w' = grow (W.drewN q) os' := by
  refine (closureV_ (Z := W) (ρ := hp W) (L := []) x.1 y.1 x.2 y.2 (hp_whole0 W) (Tr.refl W)).mono ?_
  rintro e w' ⟨v, rfl, rfl, q, os, rfl⟩
  exact ⟨rfl, q, os, rfl⟩
theorem cmpI_neg {a b : Int} : Lib.compareInt a b < 0 ↔ a < b := by
  unfold Lib.compareInt
  by_cases h1 : a < b
  · simp [h1]
  · by_cases h2 : b < a <;> simp [h1, h2]
theorem cmpI_zero {a b : Int} : Lib.compareInt a b = 0 ↔ a = b := by
  unfold Lib.compareInt
  by_cases h1 : a < b
  · simp [h1]; omega
  · by_cases h2 : b < a
    · simp [h1, h2]; omega
    · simp [h1, h2]; omega
theorem or2_neg {a b : Int} : or2 a b < 0 ↔ a < 0 ∨ a = 0 ∧ b < 0 := by
  unfold or2
  split <;> omega
theorem cfN_lt (x y : LitI) : ltOf cfN x y = ltN x.1 y.1 := by
  unfold ltOf cfN ltN
  rw [decide_eq_decide, or2_neg, cmpI_neg, cmpI_neg, cmpI_zero]
theorem cfV_lt (x y : LitI) : ltOf cfV x y = decide (vr x.1 < vr y.1) := by
  unfold ltOf cfV
  rw [decide_eq_decide, cmpI_neg]
theorem swoN : SWO (ltOf cfN) where
  irrefl x := by rw [cfN_lt]; unfold ltN; simp
  trans x y z h1 h2 := by rw [cfN_lt] at *; unfold ltN at *; simp only [decide_eq_true_eq] at *; omega
  ntrans x y z h1 h2 := by rw [cfN_lt] at *; unfold ltN at *; simp only [decide_eq_false_iff_not] at *; omega
theorem swoV : SWO (ltOf cfV) where
  irrefl x := by rw [cfV_lt]; simp
  trans x y z h1 h2 := by rw [cfV_lt] at *; simp only [decide_eq_true_eq] at *; omega
  ntrans x y z h1 h2 := by rw [cfV_lt] at *; simp only [decide_eq_false_iff_not] at *; omega
theorem totN (x y : LitI) (h1 : ltOf cfN x y = false) (h2 : ltOf cfN y x = false) : x = y := by
  rw [cfN_lt] at *
  unfold ltN at *
  simp only [decide_eq_false_iff_not] at *
  obtain ⟨a, _⟩ := x
  obtain ⟨b, _⟩ := y
  simp only [LitI.mk.injEq] at *
  omega
theorem lift_li : ∀ (l : List Int), litOk l = true → ∃ ls : List LitI, ls.map LitI.val = l
  | [], _ => ⟨[], rfl⟩
  | p :: l, h => by
    unfold litOk at h
    rw [List.all_cons, Bool.and_eq_true] at h
    obtain ⟨ls, e⟩ := lift_li l h.2
    exact ⟨⟨p, of_decide_eq_true h.1⟩ :: ls, by rw [List.map_cons, e]⟩
theorem flat_li (ls : List LitI) : ls.toArray.toList.map encL = flat (ls.map LitI.val) := by
  rw [flat_int, List.map_map]; rfl
theorem map_sortN (ls : List LitI) : (ls.mergeSort fun x y => !(ltOf cfN) y x).map LitI.val = (ls.map LitI.val).mergeSort fun x y => !ltN y x := by
  have e2 : (fun x y : LitI => !(ltOf cfN) y x) = fun x y => !ltN y.1 x.1 := by funext x y; rw [cfN_lt]
  rw [e2]
  exact (List.map_mergeSort (fun a _ b _ => rfl))
theorem leN_trans (x y z : Int) (h1 : (!ltN y x) = true) (h2 : (!ltN z y) = true) : (!ltN z x) = true := by
  unfold ltN at *; simp only [Bool.not_eq_true', decide_eq_false_iff_not] at *; omega
theorem leN_total (x y : Int) : (!ltN y x || !ltN x y) = true := by
  rw [Bool.or_eq_true]
  unfold ltN; simp only [Bool.not_eq_true', decide_eq_false_iff_not]; omega
theorem sortedN {l m : List Int} (hp : m.Perm l) (hs : m.Pairwise fun x y => (!ltN y x) = true) : m = l.mergeSort fun x y => !ltN y x := by
  have h2 : (l.mergeSort fun x y => !ltN y x).Pairwise fun x y => (!ltN y x) = true := List.pairwise_mergeSort leN_trans leN_total l
  refine List.Perm.eq_of_pairwise (le := fun x y => (!ltN y x) = true) (fun x y _ _ h3 h4 => ?_) hs h2 (hp.trans (List.mergeSort_perm _ _).symm)
  unfold ltN at *; simp only [Bool.not_eq_true', decide_eq_false_iff_not] at *; omega
section
variable {Z : World} {ρ : PH} {L : List Atom} {w : World}
theorem c_sortN (l : List Int) (v : Value) (hp : Hp Z ρ (OwnSl 3 v l :: L) w) (r : List Int) (hm : m_sortN l = some r) :
    Calls Tryz.prog 42 #[v, .func (.func 43) #[] #[]] w (Ret fun u w' => u = .tuple #[] ∧ Hp Z ρ (OwnSl 3 v r :: L) w') := by
  unfold m_sortN at hm
  split at hm
  · rename_i hh
    obtain ⟨hlen, hall⟩ := hh
    simp only [Option.some.injEq] at hm
    subst hm
    obtain ⟨ls, rfl⟩ := lift_li l hall
    have none_ : ∀ A c, v = .slice A 0 c → ls = [] → Calls Tryz.prog 42 #[v, .func (.func 43) #[] #[]] w (Ret fun u w' => u = .tuple #[] ∧ Hp Z ρ (OwnSl 3 v ((ls.map LitI.val).mergeSort fun x y => !ltN y x) :: L) w') := by
      rintro A c rfl rfl
      have h0 : Calls Tryz.prog 42 #[.slice A 0 c, .func (.func 43) #[] #[]] w (fun e w' => e = .returned (.tuple #[]) ∧ w' = w) := Tryz.slices_SortFunc_none (α := Int) A c _ w
      refine h0.mono ?_
      rintro e w' ⟨rfl, rfl⟩
      exact ⟨_, rfl, rfl, by simpa using hp⟩
    rcases hp.row.2 with ⟨A, hv, hn⟩ | ⟨g, off, cap, cur, hv, _⟩
    · exact none_ A 0 hv (by simpa using hn)
    · rcases Nat.eq_zero_or_pos ls.length with h0 | h0
      · exact none_ _ cap (by rw [hv, List.length_map, h0]) (List.eq_nil_of_length_eq_zero h0)
      · subst hv
        rw [List.length_map] at hlen
        obtain ⟨hH, hg⟩ := Hp.holdsO encL hp (by simpa using h0) (d := ls.toArray) (flat_li ls)
        have eg : ∀ args w, (callFunc 43 args).run Tryz.prog w = .ok (.enter 43 args) w := enters Tryz.func43 (by kernel_rfl) rfl
        have hcon : Calls Tryz.prog 42 #[.slice (some ⟨g, off, none⟩) ls.toArray.size cap, .func (.func 43) #[] #[]] w (fun e w' =>
            e = .returned (.tuple #[]) ∧ ∃ n os, w' = sortWorld encL w g off n (ls.toArray.toList.mergeSort fun x y => !(ltOf cfN) y x).toArray os) :=
          Tryz.slices_SortFunc_total encL encL1 cfN swoN 43 #[] g off cap ls.toArray w eg (fun _ _ _ _ x y => closureN x y _) hH hg (by simp; omega) totN
        rw [List.size_toArray] at hcon
        rw [List.length_map]
        refine hcon.mono ?_
        rintro e w' ⟨rfl, m, os, rfl⟩
        have := Hp.putO (m := m) (os := os) (xs' := flat ((ls.map LitI.val).mergeSort fun x y => !ltN y x)) encL hp (by simpa using h0) (d := (ls.mergeSort fun x y => !(ltOf cfN) y x).toArray) (by rw [flat_li, map_sortN]) (by rw [flat_len]; simp)
        refine ⟨_, rfl, rfl, ?_⟩
        unfold OwnSl
        rw [List.length_mergeSort]
        rw [List.length_map] at this ⊢
        exact this
  · cases hm
theorem c_sortV (l : List Int) (v : Value) (hp : Hp Z ρ (OwnSl 3 v l :: L) w) (r : List Int) (hm : m_sortV l = some r) :
    Calls Tryz.prog 42 #[v, .func (.func 59) #[] #[]] w (Ret fun u w' => u = .tuple #[] ∧ Hp Z ρ (OwnSl 3 v r :: L) w') := by
  unfold m_sortV at hm
  split at hm
  · rename_i hh
    obtain ⟨hlen, hall, hnd⟩ := hh
    simp only [Option.some.injEq] at hm
    subst hm
    obtain ⟨ls, rfl⟩ := lift_li l hall
    have none_ : ∀ A c, v = .slice A 0 c → ls = [] → Calls Tryz.prog 42 #[v, .func (.func 59) #[] #[]] w (Ret fun u w' => u = .tuple #[] ∧ Hp Z ρ (OwnSl 3 v ((ls.map LitI.val).mergeSort fun x y => !ltN y x) :: L) w') := by
      rintro A c rfl rfl
      have h0 : Calls Tryz.prog 42 #[.slice A 0 c, .func (.func 59) #[] #[]] w (fun e w' => e = .returned (.tuple #[]) ∧ w' = w) := Tryz.slices_SortFunc_none (α := Int) A c _ w
      refine h0.mono ?_
      rintro e w' ⟨rfl, rfl⟩
      exact ⟨_, rfl, rfl, by simpa using hp⟩
    rcases hp.row.2 with ⟨A, hv, hn⟩ | ⟨g, off, cap, cur, hv, _⟩
    · exact none_ A 0 hv (by simpa using hn)
    · rcases Nat.eq_zero_or_pos ls.length with h0 | h0
      · exact none_ _ cap (by rw [hv, List.length_map, h0]) (List.eq_nil_of_length_eq_zero h0)
      · subst hv
        rw [List.length_map] at hlen
        obtain ⟨hH, hg⟩ := Hp.holdsO encL hp (by simpa using h0) (d := ls.toArray) (flat_li ls)
        have eg : ∀ args w, (callFunc 59 args).run Tryz.prog w = .ok (.enter 59 args) w := enters Tryz.func59 (by kernel_rfl) rfl
        have hcon : Calls Tryz.prog 42 #[.slice (some ⟨g, off, none⟩) ls.toArray.size cap, .func (.func 59) #[] #[]] w (fun e w' =>
            e = .returned (.tuple #[]) ∧ ∃ d' n os, PermIn 0 ls.toArray.size ls.toArray d' ∧ SortedIn (ltOf cfV) 0 ls.toArray.size d' ∧ w' = sortWorld encL w g off n d' os) :=
          Tryz.slices_SortFunc encL encL1 cfV swoV 59 #[] g off cap ls.toArray w eg (fun _ _ _ _ x y => closureV x y _) hH hg (by simp; omega)
        rw [List.size_toArray] at hcon
        rw [List.length_map]
        refine hcon.mono ?_
        rintro e w' ⟨rfl, d', m, os, ⟨hs, _, hpm⟩, hso, rfl⟩
        have hs' : d'.size = ls.length := by simpa using hs
        have hpm' : d'.toList.Perm ls := by
          have e1 : d'.extract 0 ls.length = d' := by rw [← hs']; simp
          have e2 : ls.toArray.extract 0 ls.length = ls.toArray := by simp
          rw [e1, e2] at hpm
          exact hpm
        have hnd' : (d'.toList.map fun x => vr x.1).Nodup := by
          rw [List.map_map] at hnd
          exact ((hpm'.map _).nodup_iff).2 hnd
        have hsort : (d'.toList.map LitI.val).Pairwise fun x y => (!ltN y x) = true := by
          rw [List.pairwise_map, List.pairwise_iff_getElem]
          intro i j hi hj hij
          have h9 := hso i j (Nat.zero_le _) hij (by simpa [hs'] using hj)
          rw [cfV_lt] at h9
          have h8 := List.pairwise_iff_getElem.1 hnd' i j (by simpa using hi) (by simpa using hj) hij
          simp only [Array.length_toList] at hi hj
          rw [getElem!_pos d' j hj, getElem!_pos d' i hi] at h9
          simp only [List.getElem_map, Array.getElem_toList, ne_eq, decide_eq_false_iff_not] at h8 h9 ⊢
          unfold ltN
          simp only [Bool.not_eq_true', decide_eq_false_iff_not]
          omega
        have heq := sortedN (hpm'.map LitI.val) hsort
        have := Hp.putO (m := m) (os := os) (xs' := flat ((ls.map LitI.val).mergeSort fun x y => !ltN y x)) encL hp (by simpa using h0) (d := d') (by rw [← heq, flat_int, List.map_map]; rfl) (by rw [flat_len]; simp)
        refine ⟨_, rfl, rfl, ?_⟩
        unfold OwnSl
        rw [List.length_mergeSort]
        rw [List.length_map] at this ⊢
        exact this
  · cases hm
theorem compact_le (l : List Int) : (Lib.compact l).length ≤ l.length := by
  unfold Lib.compact Lib.compactUpTo
  rw [List.length_map]
  exact Nat.le_trans (List.length_filter_le _ _) (by simp)
theorem c_compactI_own (l : List Int) (v : Value) (hp : Hp Z ρ (OwnSl 3 v l :: L) w) (r : List Int) (hm : m_compactI l = some r) :
    Calls Tryz.prog 47 #[v] w (Ret fun u w' => ∃ v1, u = v1 ∧ Hp Z ρ (OwnSl 3 v1 r :: L) w') := by
  unfold m_compactI at hm
  split at hm
  · rename_i hlen
    simp only [Option.some.injEq] at hm
    subst hm
    have none_ : ∀ A c, v = .slice A 0 c → l = [] → Calls Tryz.prog 47 #[v] w (Ret fun u w' => ∃ v1, u = v1 ∧ Hp Z ρ (OwnSl 3 v1 (Lib.compact l) :: L) w') := by
      rintro A c rfl rfl
      refine (Tryz.slices_Compact_int_empty A c w).mono ?_
      rintro e w' ⟨rfl, rfl⟩
      exact ⟨_, rfl, _, rfl, hp⟩
    rcases hp.row.2 with ⟨A, hv, hn⟩ | ⟨g, off, cap, cur, hv, _, hnc, hcm, _⟩
    · exact none_ A 0 hv (List.eq_nil_of_length_eq_zero hn)
    · rcases Nat.eq_zero_or_pos l.length with h0 | h0
      · exact none_ _ cap (by rw [hv, h0]) (List.eq_nil_of_length_eq_zero h0)
      · subst hv
        obtain ⟨hH, hg⟩ := Hp.holdsO (Value.int .i64) hp h0 (d := l.toArray) (by rw [flat_int])
        refine (Tryz.slices_Compact_int g off cap l w hH (by omega) hnc).mono ?_
        rintro e w' ⟨rfl, q, rfl⟩
        have hle := compact_le l
        have h1 := Hp.putO (m := q) (os := #[]) (xs' := flat (Lib.compact l ++ List.replicate (l.length - (Lib.compact l).length) 0)) (Value.int .i64) hp h0 (d := (Lib.compact l ++ List.replicate (l.length - (Lib.compact l).length) 0).toArray) (by rw [flat_int]) (by rw [flat_len, List.length_append, List.length_replicate, Nat.add_sub_cancel' hle])
        rw [grow_empty] at h1
        refine ⟨_, rfl, _, rfl, ?_⟩
        rcases h1.row.2 with ⟨A, _, hn0⟩ | ⟨g', off', cap', cur', e', hpt, k1, k2, k3, k4⟩
        · omega
        · simp only [Value.slice.injEq, Option.some.injEq, Addr.mk.injEq, and_true, true_and] at e'
          obtain ⟨⟨rfl, rfl⟩, rfl⟩ := e'
          refine Hp.shutO hpt (by omega) k2 k3 ?_
          have k5 := congrArg (List.take ((Lib.compact l).length * Enc.sz Int)) k4
          rw [List.take_take, Nat.min_eq_left (Nat.mul_le_mul_right _ hle)] at k5
          rw [k5, flat_app, List.take_left' (by rw [flat_len])]
  · cases hm
end
end Go.Proofs.YtelioaepnpnojaaGreatDoor
