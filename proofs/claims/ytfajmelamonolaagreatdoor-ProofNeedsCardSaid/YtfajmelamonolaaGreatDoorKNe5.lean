/- DERIVED: THE SHELF's CONTRACTS AT THIS DUMP, IN PLAIN WORDS (tools/lay-plain.mjs out of 'TryzShelf.lean', which tools/lay-shelf.mjs wrote): THE SAME DECLARATION -/
import Derived.Shelf.Strings.Builder1
import Derived.Shelf.Small.Bits
import Derived.Shelf.Small.Wraps
import Derived.Shelf.Strings.BuilderF
import Derived.Shelf.Strings.BuilderK
import Derived.Shelf.Utf8.RuneCount
import Derived.Shelf.Strconv.Atoi
import Derived.Shelf.Strconv.Itoa0
import Derived.Shelf.Strconv.Itoa1
import Derived.Shelf.LaysM
import Derived.Shelf.Strconv.Itoa2
import Derived.Shelf.Strconv.Itoa3
import Derived.Shelf.Strconv.AtoiErrFast
import Derived.Shelf.Strconv.ParseIntEmpty
import Derived.Shelf.Strconv.AtoiFail
import Derived.Shelf.Strconv.Clone
import Derived.Shelf.Strconv.SyntaxError
import Derived.Shelf.LaysC
import Derived.Shelf.Strconv.ToError
import Derived.Shelf.Strconv.AtoiErr
import Derived.Shelf.Strconv.ErrVar
import Derived.Shelf.Strconv.Lower
import Derived.Shelf.Strconv.ParseUint10
import Derived.Shelf.Strconv.ParseUint10Empty
import Derived.Shelf.Strconv.ParseUint10Any
import Derived.Shelf.Strconv.ParseInt10
import Derived.Shelf.Strconv.AtoiLong
import Derived.Shelf.Strconv.AtoiInnerAll
import Derived.Shelf.Strconv.RangeError
import Derived.Shelf.Strconv.ToErrorRange
import Derived.Shelf.Strconv.AtoiAll
import Derived.Shelf.Strconv.ErrVarAll
import Derived.Shelf.Strconv.ParseUintEmpty
import Derived.Shelf.Strconv.ParseUint10b64
import Derived.Shelf.Strconv.ParseUint10b32
import Derived.Shelf.Strconv.ParseUint10b16
import Derived.Shelf.Strconv.ParseUint10b8
import Derived.Shelf.Strconv.ParseUint10At
import Derived.Shelf.Strconv.ParseInt10At64
import Derived.Shelf.Strconv.ParseInt10At32
import Derived.Shelf.Strconv.ParseInt10At16
import Derived.Shelf.Strconv.ParseInt10At8
import Derived.Shelf.Strconv.ParseInt10All
import Derived.Shelf.Strings.Search1
import Derived.Shelf.Strings.Search2
import Derived.Shelf.Strings.Search3
import Derived.Shelf.Strings.Cut
import Derived.Shelf.Strings.Count
import Derived.Shelf.Strings.Shaped
import Derived.Shelf.Strings.Split
import Derived.Shelf.Strings.SplitShaped
import Derived.Shelf.Unicode.Decode
import Derived.Shelf.Strings.RuneCount
import Derived.Shelf.Strings.Explode
import Derived.Shelf.Unicode.DecodeSlow
import Derived.Shelf.Unicode.DecodeAny
import Derived.Shelf.Strings.BuilderCap
import Derived.Shelf.Slices.Turned
import Derived.Shelf.Slices.Reverse
import Derived.Shelf.Slices.Equal
import Derived.Ground.Names2Prog
import Derived.Shelf.Slices.Clone
import Derived.Shelf.Slices.CompactI
import Derived.Shelf.Slices.SearchI
import Derived.Shelf.Slices.Cells
import Derived.Shelf.Slices.Empties2
import Derived.Ground.SlgnProg
import Derived.Shelf.SlicesE.Delete
import Derived.Shelf.SlicesE.Clone
import Derived.Ground.SlsfProg
import Derived.Shelf.SlSortCmp.Insertion
import Derived.Shelf.SlSortCmp.SiftDown1
import Derived.Shelf.SlSortCmp.HeapSort1
import Derived.Shelf.SlSortCmp.Insertion1
import Derived.Shelf.SlSortCmp.Median1
import Derived.Shelf.SlSortCmp.Pivot1
import Derived.Shelf.SlSortCmp.ReverseRange1
import Derived.Shelf.SlSortCmp.PartialInsertion1
import Derived.Shelf.SlSortCmp.PartitionEqual1
import Derived.Shelf.SlSortCmp.Partition1
import Derived.Shelf.SlSortCmp.Pdq1
import Derived.Shelf.SlSortCmp.Whole1
import Derived.Shelf.SlSortCmp.NoneTotal
import Derived.Test.YtfajmelamonolaaGreatDoorProg
import Derived.Test.YtfajmelamonolaaGreatDoorKNe3
import Derived.Test.YtfajmelamonolaaGreatDoorKNe4
import Derived.Shelf.Abstract
namespace Go.Proofs
open Go.Shelf
def Tryz.lays169_ren : Go.Shelf.Ren := ⟨fun | 169 => 51 | n => n, fun | 70 => 74 | 9 => 9 | 0 => 0 | 72 => 77 | 37 => 75 | 127 => 91 | 3 => 3 | 5 => 5 | n => n, fun | n => n⟩
theorem Tryz.lays169 : Go.Proofs.Lays.n169 Tryz.prog Tryz.lays169_ren := {
  mixed := by kernel_rfl
  f169 := Tryz.func51.trans (congrArg some (by kernel_rfl))
  t0 := Tryz.underlying0
  a0 := Tryz.isAgg0
  z0 := Tryz.sizeOf0
  v0 := Tryz.zeroValue0
  t3 := Tryz.underlying3
  a3 := Tryz.isAgg3
  z3 := Tryz.sizeOf3
  v3 := Tryz.zeroValue3
  t9 := Tryz.underlying9
  a9 := Tryz.isAgg9
  z9 := Tryz.sizeOf9
  v9 := Tryz.zeroValue9
  t37 := Tryz.underlying75
  a37 := Tryz.isAgg75
  z37 := Tryz.sizeOf75
  v37 := Tryz.zeroValue75
  t70 := Tryz.underlying74
  a70 := Tryz.isAgg74
  z70 := Tryz.sizeOf74
  v70 := Tryz.zeroValue74
  t72 := Tryz.underlying77
  a72 := Tryz.isAgg77
  z72 := Tryz.sizeOf77
  v72 := Tryz.zeroValue77
  t127 := Tryz.underlying91
  a127 := Tryz.isAgg91
  z127 := Tryz.sizeOf91
  v127 := Tryz.zeroValue91 }
theorem Tryz.Builder_Extra_169 : Builder.Extra Tryz.prog Tryz.lays169_ren := {
  sizeBuilder := by kernel_rfl
  liesBuilder := by kernel_rfl
  t5 := Tryz.underlying5
  a5 := Tryz.isAgg5
  z5 := Tryz.sizeOf5
  v5 := Tryz.zeroValue5
  infoByte := by kernel_rfl
  cellsByte := by kernel_rfl
  sizeByte := by kernel_rfl
  neB5 := by decide }
def Tryz.lays122_ren : Go.Shelf.Ren := ⟨fun | 122 => 35 | 215 => 55 | n => n, fun | 3 => 3 | 4 => 4 | n => n, fun | n => n⟩
theorem Tryz.lays122 : Go.Proofs.Lays.n122 Tryz.prog Tryz.lays122_ren := {
  mixed := by kernel_rfl
  f122 := Tryz.func35.trans (congrArg some (by kernel_rfl))
  f215 := Tryz.func55.trans (congrArg some (by kernel_rfl))
  t3 := Tryz.underlying3
  a3 := Tryz.isAgg3
  z3 := Tryz.sizeOf3
  v3 := Tryz.zeroValue3
  t4 := Tryz.underlying4
  a4 := Tryz.isAgg4
  z4 := Tryz.sizeOf4
  v4 := Tryz.zeroValue4 }
open Go.RowKit in
theorem Tryz.cmp_Compare_int (x y : Int) (w : World) :
    Calls Tryz.prog 35 #[.int .i64 x, .int .i64 y] w fun e w' => e = .returned (.int .i64 (Lib.compareInt x y)) ∧ w' = w := Any.cmp_Compare_int Tryz.lays122 x y w
def Tryz.laysM171_ren : Go.Shelf.Ren := ⟨fun | 171 => 50 | 243 => 65 | 246 => 88 | 283 => 104 | 284 => 105 | 285 => 106 | 286 => 107 | 129 => 76 | 317 => 114 | 318 => 115 | 319 => 116 | 320 => 117 | 337 => 118 | 338 => 119 | n => n, fun | 3 => 3 | 9 => 9 | 2 => 2 | 4 => 4 | 171 => 135 | 0 => 0 | 53 => 104 | 37 => 75 | 5 => 5 | 173 => 137 | 212 => 150 | 51 => 102 | 20 => 20 | 213 => 151 | 46 => 84 | 232 => 156 | 233 => 157 | n => n, fun | 17 => 3 | 18 => 6 | 19 => 7 | n => n⟩
theorem Tryz.laysM171 : Go.Proofs.LaysM.n171 Tryz.prog Tryz.laysM171_ren := {
  mixed := by kernel_rfl
  f129 := Tryz.func76.trans (congrArg some (by kernel_rfl))
  f171 := Tryz.func50.trans (congrArg some (by kernel_rfl))
  f243 := Tryz.func65.trans (congrArg some (by kernel_rfl))
  f246 := Tryz.func88.trans (congrArg some (by kernel_rfl))
  f283 := Tryz.func104.trans (congrArg some (by kernel_rfl))
  f284 := Tryz.func105.trans (congrArg some (by kernel_rfl))
  f285 := Tryz.func106.trans (congrArg some (by kernel_rfl))
  f286 := Tryz.func107.trans (congrArg some (by kernel_rfl))
  f317 := Tryz.func114.trans (congrArg some (by kernel_rfl))
  f318 := Tryz.func115.trans (congrArg some (by kernel_rfl))
  f319 := Tryz.func116.trans (congrArg some (by kernel_rfl))
  f320 := Tryz.func117.trans (congrArg some (by kernel_rfl))
  f337 := Tryz.func118.trans (congrArg some (by kernel_rfl))
  f338 := Tryz.func119.trans (congrArg some (by kernel_rfl))
  t0 := Tryz.underlying0
  a0 := Tryz.isAgg0
  z0 := Tryz.sizeOf0
  v0 := Tryz.zeroValue0
  t2 := Tryz.underlying2
  a2 := Tryz.isAgg2
  z2 := Tryz.sizeOf2
  v2 := Tryz.zeroValue2
  t3 := Tryz.underlying3
  a3 := Tryz.isAgg3
  z3 := Tryz.sizeOf3
  v3 := Tryz.zeroValue3
  t4 := Tryz.underlying4
  a4 := Tryz.isAgg4
  z4 := Tryz.sizeOf4
  v4 := Tryz.zeroValue4
  t5 := Tryz.underlying5
  a5 := Tryz.isAgg5
  z5 := Tryz.sizeOf5
  v5 := Tryz.zeroValue5
  t9 := Tryz.underlying9
  a9 := Tryz.isAgg9
  z9 := Tryz.sizeOf9
  v9 := Tryz.zeroValue9
  t20 := Tryz.underlying20
  a20 := Tryz.isAgg20
  z20 := Tryz.sizeOf20
  v20 := Tryz.zeroValue20
  t37 := Tryz.underlying75
  a37 := Tryz.isAgg75
  z37 := Tryz.sizeOf75
  v37 := Tryz.zeroValue75
  t46 := Tryz.underlying84
  a46 := Tryz.isAgg84
  z46 := Tryz.sizeOf84
  v46 := Tryz.zeroValue84
  t51 := Tryz.underlying102
  a51 := Tryz.isAgg102
  z51 := Tryz.sizeOf102
  v51 := Tryz.zeroValue102
  t53 := Tryz.underlying104
  a53 := Tryz.isAgg104
  z53 := Tryz.sizeOf104
  v53 := Tryz.zeroValue104
  t171 := Tryz.underlying135
  a171 := Tryz.isAgg135
  z171 := Tryz.sizeOf135
  v171 := Tryz.zeroValue135
  t173 := Tryz.underlying137
  a173 := Tryz.isAgg137
  z173 := Tryz.sizeOf137
  v173 := Tryz.zeroValue137
  t212 := Tryz.underlying150
  a212 := Tryz.isAgg150
  z212 := Tryz.sizeOf150
  v212 := Tryz.zeroValue150
  t213 := Tryz.underlying151
  a213 := Tryz.isAgg151
  z213 := Tryz.sizeOf151
  t232 := Tryz.underlying156
  a232 := Tryz.isAgg156
  z232 := Tryz.sizeOf156
  v232 := Tryz.zeroValue156
  t233 := Tryz.underlying157
  a233 := Tryz.isAgg157
  z233 := Tryz.sizeOf157
  v233 := Tryz.zeroValue157
  g17 := by kernel_rfl
  g18 := by kernel_rfl
  g19 := by kernel_rfl
  i0 := by kernel_rfl
  i2 := by kernel_rfl
  i3 := by kernel_rfl
  i4 := by kernel_rfl
  i5 := by kernel_rfl
  i9 := by kernel_rfl
  i20 := by kernel_rfl
  i37 := by kernel_rfl
  i46 := by kernel_rfl
  i51 := by kernel_rfl
  i53 := by kernel_rfl
  i171 := by kernel_rfl
  i173 := by kernel_rfl
  i212 := by kernel_rfl
  i232 := by kernel_rfl
  i233 := by kernel_rfl
  m17 := by kernel_rfl
  m18 := by kernel_rfl
  m19 := by kernel_rfl }
open Go.RowKit Go.Sort Go.Lib in
theorem Tryz.strconv_Itoa (n : Int) (h0 : -9223372036854775808 ≤ n) (h1 : n ≤ 9223372036854775807) (w : World) (htab : Lib.TabIs Tryz.prog w "internal/strconv.uint64pow10" .u64 Lib.pow10Tab) :
    Calls Tryz.prog 50 #[.int .i64 n] w fun e w' => e = .returned (.string ⟨(Lib.itoa n).toArray⟩) ∧ ∃ k os, w' = grow (w.drewN k) os := Any.strconv_Itoa Tryz.laysM171 n h0 h1 w htab
def Tryz.laysC172_ren : Go.Shelf.Ren := ⟨fun | 172 => 48 | 244 => 62 | 245 => 63 | 247 => 82 | 279 => 83 | 280 => 84 | 281 => 85 | 282 => 86 | 287 => 101 | 316 => 102 | 171 => 50 | 205 => 103 | 321 => 112 | 322 => 113 | 243 => 65 | 246 => 88 | 283 => 104 | 284 => 105 | 285 => 106 | 286 => 107 | 129 => 76 | 317 => 114 | 318 => 115 | 319 => 116 | 320 => 117 | 337 => 118 | 338 => 119 | n => n, fun | 9 => 9 | 3 => 3 | 75 => 71 | 76 => 72 | 4 => 4 | 5 => 5 | 167 => 110 | 37 => 75 | 0 => 0 | 85 => 111 | 2 => 2 | 168 => 113 | 53 => 104 | 175 => 129 | 46 => 84 | 210 => 133 | 127 => 91 | 145 => 148 | 143 => 146 | 21 => 21 | 171 => 135 | 173 => 137 | 212 => 150 | 51 => 102 | 20 => 20 | 213 => 151 | 232 => 156 | 233 => 157 | 80 => 79 | n => n, fun | 15 => 1 | 16 => 2 | 17 => 3 | 18 => 6 | 19 => 7 | n => n⟩
theorem Tryz.laysC172 : Go.Proofs.LaysC.n172 Tryz.prog Tryz.laysC172_ren := {
  mixed := by kernel_rfl
  f129 := Tryz.func76.trans (congrArg some (by kernel_rfl))
  f171 := Tryz.func50.trans (congrArg some (by kernel_rfl))
  f172 := Tryz.func48.trans (congrArg some (by kernel_rfl))
  f205 := Tryz.func103.trans (congrArg some (by kernel_rfl))
  f243 := Tryz.func65.trans (congrArg some (by kernel_rfl))
  f244 := Tryz.func62.trans (congrArg some (by kernel_rfl))
  f245 := Tryz.func63.trans (congrArg some (by kernel_rfl))
  f246 := Tryz.func88.trans (congrArg some (by kernel_rfl))
  f247 := Tryz.func82.trans (congrArg some (by kernel_rfl))
  f279 := Tryz.func83.trans (congrArg some (by kernel_rfl))
  f280 := Tryz.func84.trans (congrArg some (by kernel_rfl))
  f281 := Tryz.func85.trans (congrArg some (by kernel_rfl))
  f282 := Tryz.func86.trans (congrArg some (by kernel_rfl))
  f283 := Tryz.func104.trans (congrArg some (by kernel_rfl))
  f284 := Tryz.func105.trans (congrArg some (by kernel_rfl))
  f285 := Tryz.func106.trans (congrArg some (by kernel_rfl))
  f286 := Tryz.func107.trans (congrArg some (by kernel_rfl))
  f287 := Tryz.func101.trans (congrArg some (by kernel_rfl))
  f316 := Tryz.func102.trans (congrArg some (by kernel_rfl))
  f317 := Tryz.func114.trans (congrArg some (by kernel_rfl))
  f318 := Tryz.func115.trans (congrArg some (by kernel_rfl))
  f319 := Tryz.func116.trans (congrArg some (by kernel_rfl))
  f320 := Tryz.func117.trans (congrArg some (by kernel_rfl))
  f321 := Tryz.func112.trans (congrArg some (by kernel_rfl))
  f322 := Tryz.func113.trans (congrArg some (by kernel_rfl))
  f337 := Tryz.func118.trans (congrArg some (by kernel_rfl))
  f338 := Tryz.func119.trans (congrArg some (by kernel_rfl))
  t0 := Tryz.underlying0
  a0 := Tryz.isAgg0
  z0 := Tryz.sizeOf0
  v0 := Tryz.zeroValue0
  t2 := Tryz.underlying2
  a2 := Tryz.isAgg2
  z2 := Tryz.sizeOf2
  v2 := Tryz.zeroValue2
  t3 := Tryz.underlying3
  a3 := Tryz.isAgg3
  z3 := Tryz.sizeOf3
  v3 := Tryz.zeroValue3
  t4 := Tryz.underlying4
  a4 := Tryz.isAgg4
  z4 := Tryz.sizeOf4
  v4 := Tryz.zeroValue4
  t5 := Tryz.underlying5
  a5 := Tryz.isAgg5
  z5 := Tryz.sizeOf5
  v5 := Tryz.zeroValue5
  t9 := Tryz.underlying9
  a9 := Tryz.isAgg9
  z9 := Tryz.sizeOf9
  v9 := Tryz.zeroValue9
  t20 := Tryz.underlying20
  a20 := Tryz.isAgg20
  z20 := Tryz.sizeOf20
  v20 := Tryz.zeroValue20
  t21 := Tryz.underlying21
  a21 := Tryz.isAgg21
  z21 := Tryz.sizeOf21
  v21 := Tryz.zeroValue21
  t37 := Tryz.underlying75
  a37 := Tryz.isAgg75
  z37 := Tryz.sizeOf75
  v37 := Tryz.zeroValue75
  t46 := Tryz.underlying84
  a46 := Tryz.isAgg84
  z46 := Tryz.sizeOf84
  v46 := Tryz.zeroValue84
  t51 := Tryz.underlying102
  a51 := Tryz.isAgg102
  z51 := Tryz.sizeOf102
  v51 := Tryz.zeroValue102
  t53 := Tryz.underlying104
  a53 := Tryz.isAgg104
  z53 := Tryz.sizeOf104
  v53 := Tryz.zeroValue104
  t75 := Tryz.underlying71
  a75 := Tryz.isAgg71
  z75 := Tryz.sizeOf71
  v75 := Tryz.zeroValue71
  t76 := Tryz.underlying72
  a76 := Tryz.isAgg72
  z76 := Tryz.sizeOf72
  v76 := Tryz.zeroValue72
  t85 := Tryz.underlying111
  a85 := Tryz.isAgg111
  z85 := Tryz.sizeOf111
  v85 := Tryz.zeroValue111
  t127 := Tryz.underlying91
  a127 := Tryz.isAgg91
  z127 := Tryz.sizeOf91
  v127 := Tryz.zeroValue91
  t143 := Tryz.underlying146
  a143 := Tryz.isAgg146
  z143 := Tryz.sizeOf146
  v143 := Tryz.zeroValue146
  t145 := Tryz.underlying148
  a145 := Tryz.isAgg148
  z145 := Tryz.sizeOf148
  v145 := Tryz.zeroValue148
  t167 := Tryz.underlying110
  a167 := Tryz.isAgg110
  z167 := Tryz.sizeOf110
  v167 := Tryz.zeroValue110
  t168 := Tryz.underlying113
  a168 := Tryz.isAgg113
  z168 := Tryz.sizeOf113
  v168 := Tryz.zeroValue113
  t171 := Tryz.underlying135
  a171 := Tryz.isAgg135
  z171 := Tryz.sizeOf135
  v171 := Tryz.zeroValue135
  t173 := Tryz.underlying137
  a173 := Tryz.isAgg137
  z173 := Tryz.sizeOf137
  v173 := Tryz.zeroValue137
  t175 := Tryz.underlying129
  a175 := Tryz.isAgg129
  z175 := Tryz.sizeOf129
  v175 := Tryz.zeroValue129
  t210 := Tryz.underlying133
  a210 := Tryz.isAgg133
  z210 := Tryz.sizeOf133
  v210 := Tryz.zeroValue133
  t212 := Tryz.underlying150
  a212 := Tryz.isAgg150
  z212 := Tryz.sizeOf150
  v212 := Tryz.zeroValue150
  t213 := Tryz.underlying151
  a213 := Tryz.isAgg151
  z213 := Tryz.sizeOf151
  t232 := Tryz.underlying156
  a232 := Tryz.isAgg156
  z232 := Tryz.sizeOf156
  v232 := Tryz.zeroValue156
  t233 := Tryz.underlying157
  a233 := Tryz.isAgg157
  z233 := Tryz.sizeOf157
  v233 := Tryz.zeroValue157
  g15 := by kernel_rfl
  g16 := by kernel_rfl
  g17 := by kernel_rfl
  g18 := by kernel_rfl
  g19 := by kernel_rfl
  t80 := Tryz.underlying79
  a80 := Tryz.isAgg79
  z80 := Tryz.sizeOf79
  v80 := Tryz.zeroValue79
  i0 := by kernel_rfl
  i2 := by kernel_rfl
  i3 := by kernel_rfl
  i4 := by kernel_rfl
  i5 := by kernel_rfl
  i9 := by kernel_rfl
  i20 := by kernel_rfl
  i21 := by kernel_rfl
  i37 := by kernel_rfl
  i46 := by kernel_rfl
  i51 := by kernel_rfl
  i53 := by kernel_rfl
  i75 := by kernel_rfl
  i76 := by kernel_rfl
  i80 := by kernel_rfl
  i85 := by kernel_rfl
  i127 := by kernel_rfl
  i143 := by kernel_rfl
  i145 := by kernel_rfl
  i167 := by kernel_rfl
  i168 := by kernel_rfl
  i171 := by kernel_rfl
  i173 := by kernel_rfl
  i175 := by kernel_rfl
  i210 := by kernel_rfl
  i212 := by kernel_rfl
  i232 := by kernel_rfl
  i233 := by kernel_rfl
  m15 := by kernel_rfl
  m16 := by kernel_rfl
  m17 := by kernel_rfl
  m18 := by kernel_rfl
  m19 := by kernel_rfl
  c0 := by kernel_rfl
  c2 := by kernel_rfl
  c3 := by kernel_rfl
  c4 := by kernel_rfl
  c5 := by kernel_rfl
  c9 := by kernel_rfl
  c20 := by kernel_rfl
  c21 := by kernel_rfl
  c37 := by kernel_rfl
  c46 := by kernel_rfl
  c51 := by kernel_rfl
  c53 := by kernel_rfl
  c75 := by kernel_rfl
  c76 := by kernel_rfl
  c80 := by kernel_rfl
  c85 := by kernel_rfl
  c127 := by kernel_rfl
  c143 := by kernel_rfl
  c145 := by kernel_rfl
  c167 := by kernel_rfl
  c168 := by kernel_rfl
  c171 := by kernel_rfl
  c173 := by kernel_rfl
  c175 := by kernel_rfl
  c210 := by kernel_rfl
  c212 := by kernel_rfl
  c213 := by kernel_rfl
  c232 := by kernel_rfl
  c233 := by kernel_rfl }
open Go.RowKit in
theorem Tryz.strconv_Atoi_ok (s : ByteArray) (hmax : s.size ≤ 9223372036854775806) (v : Int) (h : Lib.atoiAll s.data.toList = .ok v) (w : World) :
    Calls Tryz.prog 48 #[.string s] w fun e w' => e = .returned (.tuple #[.int .i64 v, .nilIface]) ∧ (w' = w ∨ ∃ t, w' = Lib.bytesWorld w 5 t) := Any.strconv_Atoi_ok Tryz.laysC172 s hmax v h w
open Go.RowKit in
theorem Tryz.strconv_Atoi_range (s : ByteArray) (hlim : s.size ≤ 281474976710656) (h : Lib.atoiAll s.data.toList = .range) (ev : Value) (w : World) (hv : w.cell? ⟨2, 0, none⟩ = some ev) (hev : ev = .nilIface ∨ ∃ te pe, ev = .iface te pe) :
    Calls Tryz.prog 48 #[.string s] w fun e w' => ∃ N, e = .returned (.tuple #[.int .i64 (Lib.atoiSat s.data.toList), .iface 113 (.pointer (some ⟨N, 0, none⟩))]) ∧ w.heap.size ≤ N ∧ w'.heap[N]? = some (.cells #[.string ⟨#[65, 116, 111, 105]⟩, .string s, ev] 133 (0, 0)) ∧ Below w.heap.size w w' := Any.strconv_Atoi_range Tryz.laysC172 s hlim h ev w hv hev
def Tryz.lays145_ren : Go.Shelf.Ren := ⟨fun | 145 => 46 | 220 => 60 | 219 => 78 | 217 => 94 | 225 => 95 | 224 => 96 | 267 => 97 | 266 => 109 | 314 => 110 | n => n, fun | 9 => 9 | 4 => 4 | 59 => 66 | 3 => 3 | 5 => 5 | 46 => 84 | 146 => 142 | 51 => 102 | n => n, fun | 1 => 0 | n => n⟩
theorem Tryz.lays145 : Go.Proofs.Lays.n145 Tryz.prog Tryz.lays145_ren := {
  mixed := by kernel_rfl
  f145 := Tryz.func46.trans (congrArg some (by kernel_rfl))
  f217 := Tryz.func94.trans (congrArg some (by kernel_rfl))
  f219 := Tryz.func78.trans (congrArg some (by kernel_rfl))
  f220 := Tryz.func60.trans (congrArg some (by kernel_rfl))
  f224 := Tryz.func96.trans (congrArg some (by kernel_rfl))
  f225 := Tryz.func95.trans (congrArg some (by kernel_rfl))
  f266 := Tryz.func109.trans (congrArg some (by kernel_rfl))
  f267 := Tryz.func97.trans (congrArg some (by kernel_rfl))
  f314 := Tryz.func110.trans (congrArg some (by kernel_rfl))
  t3 := Tryz.underlying3
  a3 := Tryz.isAgg3
  z3 := Tryz.sizeOf3
  v3 := Tryz.zeroValue3
  t4 := Tryz.underlying4
  a4 := Tryz.isAgg4
  z4 := Tryz.sizeOf4
  v4 := Tryz.zeroValue4
  t5 := Tryz.underlying5
  a5 := Tryz.isAgg5
  z5 := Tryz.sizeOf5
  v5 := Tryz.zeroValue5
  t9 := Tryz.underlying9
  a9 := Tryz.isAgg9
  z9 := Tryz.sizeOf9
  v9 := Tryz.zeroValue9
  t46 := Tryz.underlying84
  a46 := Tryz.isAgg84
  z46 := Tryz.sizeOf84
  v46 := Tryz.zeroValue84
  t51 := Tryz.underlying102
  a51 := Tryz.isAgg102
  z51 := Tryz.sizeOf102
  v51 := Tryz.zeroValue102
  t59 := Tryz.underlying66
  a59 := Tryz.isAgg66
  z59 := Tryz.sizeOf66
  v59 := Tryz.zeroValue66
  t146 := Tryz.underlying142
  a146 := Tryz.isAgg142
  z146 := Tryz.sizeOf142
  v146 := Tryz.zeroValue142
  g1 := by kernel_rfl }
open Go.RowKit Go.Lib in
theorem Tryz.strings_Cut (s sep : ByteArray) (m : Int) (w : World) (hs : s.size < 4294967281) (hm : w.cell? ⟨0, 0, none⟩ = some (.int .i64 m)) :
    Calls Tryz.prog 46 #[.string s, .string sep] w fun e w' => e = .returned (.tuple #[.string ⟨(Lib.cut s.data.toList sep.data.toList).1.toArray⟩, .string ⟨(Lib.cut s.data.toList sep.data.toList).2.1.toArray⟩, .bool (Lib.cut s.data.toList sep.data.toList).2.2]) ∧ ∃ n, w' = w.drewN n := Any.strings_Cut Tryz.lays145 s sep m w hs hm
def Tryz.lays146_ren : Go.Shelf.Ren := ⟨fun | 146 => 47 | 221 => 61 | 268 => 79 | 138 => 80 | 143 => 81 | 195 => 98 | 197 => 99 | 218 => 100 | 219 => 78 | 260 => 111 | 217 => 94 | 225 => 95 | 224 => 96 | 267 => 97 | 266 => 109 | 314 => 110 | n => n, fun | 9 => 9 | 31 => 68 | 3 => 3 | 4 => 4 | 0 => 0 | 105 => 127 | 21 => 21 | 5 => 5 | 46 => 84 | 119 => 152 | 139 => 155 | 138 => 154 | 146 => 142 | 51 => 102 | n => n, fun | 1 => 0 | 3 => 4 | 4 => 5 | n => n⟩
theorem Tryz.lays146 : Go.Proofs.Lays.n146 Tryz.prog Tryz.lays146_ren := {
  mixed := by kernel_rfl
  f138 := Tryz.func80.trans (congrArg some (by kernel_rfl))
  f143 := Tryz.func81.trans (congrArg some (by kernel_rfl))
  f146 := Tryz.func47.trans (congrArg some (by kernel_rfl))
  f195 := Tryz.func98.trans (congrArg some (by kernel_rfl))
  f197 := Tryz.func99.trans (congrArg some (by kernel_rfl))
  f217 := Tryz.func94.trans (congrArg some (by kernel_rfl))
  f218 := Tryz.func100.trans (congrArg some (by kernel_rfl))
  f219 := Tryz.func78.trans (congrArg some (by kernel_rfl))
  f221 := Tryz.func61.trans (congrArg some (by kernel_rfl))
  f224 := Tryz.func96.trans (congrArg some (by kernel_rfl))
  f225 := Tryz.func95.trans (congrArg some (by kernel_rfl))
  f260 := Tryz.func111.trans (congrArg some (by kernel_rfl))
  f266 := Tryz.func109.trans (congrArg some (by kernel_rfl))
  f267 := Tryz.func97.trans (congrArg some (by kernel_rfl))
  f268 := Tryz.func79.trans (congrArg some (by kernel_rfl))
  f314 := Tryz.func110.trans (congrArg some (by kernel_rfl))
  t0 := Tryz.underlying0
  a0 := Tryz.isAgg0
  z0 := Tryz.sizeOf0
  v0 := Tryz.zeroValue0
  t3 := Tryz.underlying3
  a3 := Tryz.isAgg3
  z3 := Tryz.sizeOf3
  v3 := Tryz.zeroValue3
  t4 := Tryz.underlying4
  a4 := Tryz.isAgg4
  z4 := Tryz.sizeOf4
  v4 := Tryz.zeroValue4
  t5 := Tryz.underlying5
  a5 := Tryz.isAgg5
  z5 := Tryz.sizeOf5
  v5 := Tryz.zeroValue5
  t9 := Tryz.underlying9
  a9 := Tryz.isAgg9
  z9 := Tryz.sizeOf9
  v9 := Tryz.zeroValue9
  t21 := Tryz.underlying21
  a21 := Tryz.isAgg21
  z21 := Tryz.sizeOf21
  v21 := Tryz.zeroValue21
  t31 := Tryz.underlying68
  a31 := Tryz.isAgg68
  z31 := Tryz.sizeOf68
  v31 := Tryz.zeroValue68
  t46 := Tryz.underlying84
  a46 := Tryz.isAgg84
  z46 := Tryz.sizeOf84
  v46 := Tryz.zeroValue84
  t51 := Tryz.underlying102
  a51 := Tryz.isAgg102
  z51 := Tryz.sizeOf102
  v51 := Tryz.zeroValue102
  t105 := Tryz.underlying127
  a105 := Tryz.isAgg127
  z105 := Tryz.sizeOf127
  v105 := Tryz.zeroValue127
  t119 := Tryz.underlying152
  a119 := Tryz.isAgg152
  z119 := Tryz.sizeOf152
  t138 := Tryz.underlying154
  a138 := Tryz.isAgg154
  z138 := Tryz.sizeOf154
  v138 := Tryz.zeroValue154
  t139 := Tryz.underlying155
  a139 := Tryz.isAgg155
  z139 := Tryz.sizeOf155
  v139 := Tryz.zeroValue155
  t146 := Tryz.underlying142
  a146 := Tryz.isAgg142
  z146 := Tryz.sizeOf142
  v146 := Tryz.zeroValue142
  g1 := by kernel_rfl
  g3 := by kernel_rfl
  g4 := by kernel_rfl }
open Go.RowKit Go.Lib in
theorem Tryz.strings_Split (s sep : ByteArray) (m : Int) (w : World) (hs : s.size < 4294967281) (hm : w.cell? ⟨0, 0, none⟩ = some (.int .i64 m)) (h1 : 1 ≤ sep.size) :
    Calls Tryz.prog 47 #[.string s, .string sep] w fun e w' =>
      e = .returned (.slice (some ⟨w.heap.size, 0, none⟩) (Lib.countB s sep + 1) (Lib.countB s sep + 1)) ∧ w' = w.alloc (.cells ((Lib.splitB sep 0 (Lib.countB s sep) s).map Value.string).toArray 9) := Any.strings_Split Tryz.lays146 (by kernel_rfl) s sep m w hs hm h1
def Tryz.lays112_ren : Go.Shelf.Ren := ⟨fun | 112 => 31 | n => n, fun | 28 => 25 | 3 => 3 | 4 => 4 | 0 => 0 | n => n, fun | n => n⟩
theorem Tryz.lays112 : Go.Proofs.Lays.n112 Tryz.prog Tryz.lays112_ren := {
  mixed := by kernel_rfl
  f112 := Tryz.func31.trans (congrArg some (by kernel_rfl))
  t0 := Tryz.underlying0
  a0 := Tryz.isAgg0
  z0 := Tryz.sizeOf0
  v0 := Tryz.zeroValue0
  t3 := Tryz.underlying3
  a3 := Tryz.isAgg3
  z3 := Tryz.sizeOf3
  v3 := Tryz.zeroValue3
  t4 := Tryz.underlying4
  a4 := Tryz.isAgg4
  z4 := Tryz.sizeOf4
  v4 := Tryz.zeroValue4
  t28 := Tryz.underlying25
  a28 := Tryz.isAgg25
  z28 := Tryz.sizeOf25
  v28 := Tryz.zeroValue25 }
open Go.RowKit Go.Lib Go.Sort in
theorem Tryz.slices_Reverse_int (blk off cap : Nat) (zs : List Int) (w : World) (hH : Holds (Value.int .i64) w blk off zs.toArray) (hsz : zs.length ≤ 9223372036854775807) :
    Calls Tryz.prog 31 #[.slice (some ⟨blk, off, none⟩) zs.length cap] w fun e w' => e = .returned (.tuple #[]) ∧ ∃ n, w' = putRow (Value.int .i64) (Sort.ahead w n) blk off zs.reverse.toArray := Any.slices_Reverse_int Tryz.lays112 blk off cap zs w hH hsz
open Go.RowKit Go.Lib Go.Sort in
theorem Tryz.slices_Reverse_int_empty (a : Option Addr) (cap : Nat) (w : World) :
    Calls Tryz.prog 31 #[.slice a 0 cap] w fun e w' => e = .returned (.tuple #[]) ∧ w' = w := Any.slices_Reverse_int_empty Tryz.lays112 a cap w
def Tryz.laysNm220_ren : Go.Shelf.Ren := ⟨fun | 20 => 37 | n => n, fun | 22 => 25 | 3 => 3 | 4 => 4 | 0 => 0 | n => n, fun | n => n⟩
theorem Tryz.laysNm220 : Go.Proofs.Lays2.n20 Tryz.prog Tryz.laysNm220_ren := {
  mixed := by kernel_rfl
  f20 := Tryz.func37.trans (congrArg some (by kernel_rfl))
  t0 := Tryz.underlying0
  a0 := Tryz.isAgg0
  z0 := Tryz.sizeOf0
  v0 := Tryz.zeroValue0
  t3 := Tryz.underlying3
  a3 := Tryz.isAgg3
  z3 := Tryz.sizeOf3
  v3 := Tryz.zeroValue3
  t4 := Tryz.underlying4
  a4 := Tryz.isAgg4
  z4 := Tryz.sizeOf4
  v4 := Tryz.zeroValue4
  t22 := Tryz.underlying25
  a22 := Tryz.isAgg25
  z22 := Tryz.sizeOf25
  v22 := Tryz.zeroValue25
  i3 := by kernel_rfl }
open Go.RowKit Go.Lib Go.Sort in
theorem Tryz.slices_Compact_int (blk off cap : Nat) (zs : List Int) (w : World) (hH : Holds (Value.int .i64) w blk off zs.toArray) (hsz : zs.length ≤ 9223372036854775807) (hcap : zs.length ≤ cap) :
    Calls Tryz.prog 37 #[.slice (some ⟨blk, off, none⟩) zs.length cap] w fun e w' => e = .returned (.slice (some ⟨blk, off, none⟩) (Lib.compact zs).length cap) ∧ ∃ q, w' = putRow (Value.int .i64) (Sort.ahead w q) blk off (Lib.compact zs ++ List.replicate (zs.length - (Lib.compact zs).length) 0).toArray := Any.slices_Compact_int Tryz.laysNm220 blk off cap zs w hH hsz hcap
open Go.RowKit Go.Lib Go.Sort in
theorem Tryz.slices_Compact_int_empty (a : Option Addr) (cap : Nat) (w : World) :
    Calls Tryz.prog 37 #[.slice a 0 cap] w fun e w' => e = .returned (.slice a 0 cap) ∧ w' = w := Any.slices_Compact_int_empty Tryz.laysNm220 a cap w
def Tryz.laysSlE45_f13_ren : Go.Shelf.Ren := ⟨fun | 45 => 13 | n => n, fun | 22 => 22 | 23 => 25 | 3 => 3 | 4 => 4 | 0 => 0 | n => n, fun | n => n⟩
theorem Tryz.laysSlE45_f13 : Go.Proofs.SlLaysE.n45 Tryz.prog Tryz.laysSlE45_f13_ren := {
  mixed := by kernel_rfl
  f45 := ⟨Tryz.f13.name, by decide, Tryz.func13.trans (congrArg some (by kernel_rfl))⟩
  t0 := Tryz.underlying0
  a0 := Tryz.isAgg0
  z0 := Tryz.sizeOf0
  v0 := Tryz.zeroValue0
  t3 := Tryz.underlying3
  a3 := Tryz.isAgg3
  z3 := Tryz.sizeOf3
  v3 := Tryz.zeroValue3
  t4 := Tryz.underlying4
  a4 := Tryz.isAgg4
  z4 := Tryz.sizeOf4
  v4 := Tryz.zeroValue4
  t22 := Tryz.underlying22
  a22 := Tryz.isAgg22
  z22 := Tryz.sizeOf22
  v22 := Tryz.zeroValue22
  a23 := Tryz.isAgg25
  z23 := Tryz.sizeOf25 }
open Go.RowKit Go.Lib Go.Sort in
theorem Tryz.slices_Delete {α : Type} [Inhabited α] (enc : α → Value) (h1 : OneCell enc) (zr : α) (v23 : ∀ w, (zeroValue 25).run Tryz.prog w = .ok (enc zr) w) (i0 : TypeInfo) (hi0 : Tryz.prog.info? 25 = some i0) (hz1 : i0.size = 1) (blk off cap i j : Nat) (d : Array α) (w : World) (hH : Holds enc w blk off d) (hcap : d.size ≤ cap) (hm : cap ≤ 9223372036854775807) (hij : i ≤ j) (hj : j ≤ d.size) :
    Calls Tryz.prog 13 #[.slice (some ⟨blk, off, none⟩) d.size cap, .int .i64 i, .int .i64 j] w fun e w' => e = .returned (.slice (some ⟨blk, off, none⟩) (d.size - (j - i)) cap) ∧ ∃ q, w' = putRow enc (Sort.ahead w q) blk off (d.toList.take i ++ d.toList.drop j ++ List.replicate (j - i) zr).toArray := AnyE.slices_Delete Tryz.laysSlE45_f13 enc h1 zr v23 i0 hi0 hz1 blk off cap i j d w hH hcap hm hij hj
def Tryz.laysSlF6_f32_ren : Go.Shelf.Ren := ⟨fun | 6 => 32 | 15 => 54 | 14 => 53 | 28 => 75 | 29 => 76 | 20 => 67 | 21 => 68 | 22 => 69 | 23 => 70 | 24 => 71 | 25 => 72 | 26 => 73 | 27 => 74 | 46 => 89 | 47 => 90 | 48 => 91 | 49 => 92 | 50 => 93 | 57 => 108 | n => n, fun | 22 => 25 | 24 => 3 | 25 => 59 | 3 => 3 | 39 => 84 | 0 => 0 | 53 => 102 | 55 => 104 | 4 => 4 | 46 => 95 | 45 => 94 | 50 => 99 | 5 => 5 | 9 => 9 | 66 => 119 | 70 => 123 | 76 => 139 | 77 => 140 | n => n, fun | n => n⟩
theorem Tryz.laysSlF6_f32 : Go.Proofs.SlLaysF.n6 Tryz.prog Tryz.laysSlF6_f32_ren := {
  mixed := by kernel_rfl
  f6 := ⟨Tryz.f32.name, by decide, Tryz.func32.trans (congrArg some (by kernel_rfl))⟩
  f14 := ⟨Tryz.f53.name, by decide, Tryz.func53.trans (congrArg some (by kernel_rfl))⟩
  f15 := Tryz.func54.trans (congrArg some (by kernel_rfl))
  f20 := ⟨Tryz.f67.name, by decide, Tryz.func67.trans (congrArg some (by kernel_rfl))⟩
  f21 := ⟨Tryz.f68.name, by decide, Tryz.func68.trans (congrArg some (by kernel_rfl))⟩
  f22 := ⟨Tryz.f69.name, by decide, Tryz.func69.trans (congrArg some (by kernel_rfl))⟩
  f23 := ⟨Tryz.f70.name, by decide, Tryz.func70.trans (congrArg some (by kernel_rfl))⟩
  f24 := ⟨Tryz.f71.name, by decide, Tryz.func71.trans (congrArg some (by kernel_rfl))⟩
  f25 := ⟨Tryz.f72.name, by decide, Tryz.func72.trans (congrArg some (by kernel_rfl))⟩
  f26 := ⟨Tryz.f73.name, by decide, Tryz.func73.trans (congrArg some (by kernel_rfl))⟩
  f27 := ⟨Tryz.f74.name, by decide, Tryz.func74.trans (congrArg some (by kernel_rfl))⟩
  f28 := Tryz.func75.trans (congrArg some (by kernel_rfl))
  f29 := Tryz.func76.trans (congrArg some (by kernel_rfl))
  f46 := ⟨Tryz.f89.name, by decide, Tryz.func89.trans (congrArg some (by kernel_rfl))⟩
  f47 := Tryz.func90.trans (congrArg some (by kernel_rfl))
  f48 := Tryz.func91.trans (congrArg some (by kernel_rfl))
  f49 := ⟨Tryz.f92.name, by decide, Tryz.func92.trans (congrArg some (by kernel_rfl))⟩
  f50 := ⟨Tryz.f93.name, by decide, Tryz.func93.trans (congrArg some (by kernel_rfl))⟩
  f57 := ⟨Tryz.f108.name, by decide, Tryz.func108.trans (congrArg some (by kernel_rfl))⟩
  t0 := Tryz.underlying0
  a0 := Tryz.isAgg0
  z0 := Tryz.sizeOf0
  v0 := Tryz.zeroValue0
  t3 := Tryz.underlying3
  a3 := Tryz.isAgg3
  z3 := Tryz.sizeOf3
  v3 := Tryz.zeroValue3
  t4 := Tryz.underlying4
  a4 := Tryz.isAgg4
  z4 := Tryz.sizeOf4
  v4 := Tryz.zeroValue4
  t5 := Tryz.underlying5
  a5 := Tryz.isAgg5
  z5 := Tryz.sizeOf5
  v5 := Tryz.zeroValue5
  t9 := Tryz.underlying9
  a9 := Tryz.isAgg9
  z9 := Tryz.sizeOf9
  v9 := Tryz.zeroValue9
  t22 := Tryz.underlying25
  a22 := Tryz.isAgg25
  z22 := Tryz.sizeOf25
  v22 := Tryz.zeroValue25
  a24 := Tryz.isAgg3
  z24 := Tryz.sizeOf3
  t25 := Tryz.underlying59
  a25 := Tryz.isAgg59
  z25 := Tryz.sizeOf59
  v25 := Tryz.zeroValue59
  t39 := Tryz.underlying84
  a39 := Tryz.isAgg84
  z39 := Tryz.sizeOf84
  v39 := Tryz.zeroValue84
  t45 := Tryz.underlying94
  a45 := Tryz.isAgg94
  z45 := Tryz.sizeOf94
  v45 := Tryz.zeroValue94
  t46 := Tryz.underlying95
  a46 := Tryz.isAgg95
  z46 := Tryz.sizeOf95
  v46 := Tryz.zeroValue95
  t50 := Tryz.underlying99
  a50 := Tryz.isAgg99
  z50 := Tryz.sizeOf99
  v50 := Tryz.zeroValue99
  t53 := Tryz.underlying102
  a53 := Tryz.isAgg102
  z53 := Tryz.sizeOf102
  v53 := Tryz.zeroValue102
  t55 := Tryz.underlying104
  a55 := Tryz.isAgg104
  z55 := Tryz.sizeOf104
  v55 := Tryz.zeroValue104
  t66 := Tryz.underlying119
  a66 := Tryz.isAgg119
  z66 := Tryz.sizeOf119
  v66 := Tryz.zeroValue119
  t70 := Tryz.underlying123
  a70 := Tryz.isAgg123
  z70 := Tryz.sizeOf123
  v70 := Tryz.zeroValue123
  t76 := Tryz.underlying139
  a76 := Tryz.isAgg139
  z76 := Tryz.sizeOf139
  v76 := Tryz.zeroValue139
  t77 := Tryz.underlying140
  a77 := Tryz.isAgg140
  z77 := Tryz.sizeOf140
  v77 := Tryz.zeroValue140 }
def Tryz.laysSlF06_f32_ren : Go.Shelf.Ren := ⟨fun | 6 => 32 | 15 => 54 | 14 => 53 | 28 => 75 | 29 => 76 | 20 => 67 | 21 => 68 | 22 => 69 | 23 => 70 | 24 => 71 | 25 => 72 | 26 => 73 | 27 => 74 | 46 => 89 | 47 => 90 | 48 => 91 | 49 => 92 | 50 => 93 | 57 => 108 | n => n, fun | 22 => 25 | 24 => 3 | 25 => 59 | 3 => 3 | 39 => 84 | 0 => 0 | 53 => 102 | 55 => 104 | 4 => 4 | 46 => 95 | 45 => 94 | 50 => 99 | 5 => 5 | 9 => 9 | 66 => 119 | 70 => 123 | 76 => 139 | 77 => 140 | n => n, fun | n => n⟩
theorem Tryz.laysSlF06_f32 : Go.Proofs.SlLaysF0.n6 Tryz.prog Tryz.laysSlF06_f32_ren := {
  mixed := by kernel_rfl
  f6 := ⟨Tryz.f32.name, by decide, Tryz.func32.trans (congrArg some (by kernel_rfl))⟩
  f14 := ⟨Tryz.f53.name, by decide, Tryz.func53.trans (congrArg some (by kernel_rfl))⟩
  f15 := Tryz.func54.trans (congrArg some (by kernel_rfl))
  f20 := ⟨Tryz.f67.name, by decide, Tryz.func67.trans (congrArg some (by kernel_rfl))⟩
  f21 := ⟨Tryz.f68.name, by decide, Tryz.func68.trans (congrArg some (by kernel_rfl))⟩
  f22 := ⟨Tryz.f69.name, by decide, Tryz.func69.trans (congrArg some (by kernel_rfl))⟩
  f23 := ⟨Tryz.f70.name, by decide, Tryz.func70.trans (congrArg some (by kernel_rfl))⟩
  f24 := ⟨Tryz.f71.name, by decide, Tryz.func71.trans (congrArg some (by kernel_rfl))⟩
  f25 := ⟨Tryz.f72.name, by decide, Tryz.func72.trans (congrArg some (by kernel_rfl))⟩
  f26 := ⟨Tryz.f73.name, by decide, Tryz.func73.trans (congrArg some (by kernel_rfl))⟩
  f27 := ⟨Tryz.f74.name, by decide, Tryz.func74.trans (congrArg some (by kernel_rfl))⟩
  f28 := Tryz.func75.trans (congrArg some (by kernel_rfl))
  f29 := Tryz.func76.trans (congrArg some (by kernel_rfl))
  f46 := ⟨Tryz.f89.name, by decide, Tryz.func89.trans (congrArg some (by kernel_rfl))⟩
  f47 := Tryz.func90.trans (congrArg some (by kernel_rfl))
  f48 := Tryz.func91.trans (congrArg some (by kernel_rfl))
  f49 := ⟨Tryz.f92.name, by decide, Tryz.func92.trans (congrArg some (by kernel_rfl))⟩
  f50 := ⟨Tryz.f93.name, by decide, Tryz.func93.trans (congrArg some (by kernel_rfl))⟩
  f57 := ⟨Tryz.f108.name, by decide, Tryz.func108.trans (congrArg some (by kernel_rfl))⟩
  t0 := Tryz.underlying0
  a0 := Tryz.isAgg0
  z0 := Tryz.sizeOf0
  v0 := Tryz.zeroValue0
  t3 := Tryz.underlying3
  a3 := Tryz.isAgg3
  z3 := Tryz.sizeOf3
  v3 := Tryz.zeroValue3
  t4 := Tryz.underlying4
  a4 := Tryz.isAgg4
  z4 := Tryz.sizeOf4
  v4 := Tryz.zeroValue4
  t5 := Tryz.underlying5
  a5 := Tryz.isAgg5
  z5 := Tryz.sizeOf5
  v5 := Tryz.zeroValue5
  t9 := Tryz.underlying9
  a9 := Tryz.isAgg9
  z9 := Tryz.sizeOf9
  v9 := Tryz.zeroValue9
  t22 := Tryz.underlying25
  a22 := Tryz.isAgg25
  z22 := Tryz.sizeOf25
  v22 := Tryz.zeroValue25
  t25 := Tryz.underlying59
  a25 := Tryz.isAgg59
  z25 := Tryz.sizeOf59
  v25 := Tryz.zeroValue59
  t39 := Tryz.underlying84
  a39 := Tryz.isAgg84
  z39 := Tryz.sizeOf84
  v39 := Tryz.zeroValue84
  t45 := Tryz.underlying94
  a45 := Tryz.isAgg94
  z45 := Tryz.sizeOf94
  v45 := Tryz.zeroValue94
  t46 := Tryz.underlying95
  a46 := Tryz.isAgg95
  z46 := Tryz.sizeOf95
  v46 := Tryz.zeroValue95
  t50 := Tryz.underlying99
  a50 := Tryz.isAgg99
  z50 := Tryz.sizeOf99
  v50 := Tryz.zeroValue99
  t53 := Tryz.underlying102
  a53 := Tryz.isAgg102
  z53 := Tryz.sizeOf102
  v53 := Tryz.zeroValue102
  t55 := Tryz.underlying104
  a55 := Tryz.isAgg104
  z55 := Tryz.sizeOf104
  v55 := Tryz.zeroValue104
  t66 := Tryz.underlying119
  a66 := Tryz.isAgg119
  z66 := Tryz.sizeOf119
  v66 := Tryz.zeroValue119
  t70 := Tryz.underlying123
  a70 := Tryz.isAgg123
  z70 := Tryz.sizeOf123
  v70 := Tryz.zeroValue123
  t76 := Tryz.underlying139
  a76 := Tryz.isAgg139
  z76 := Tryz.sizeOf139
  v76 := Tryz.zeroValue139
  t77 := Tryz.underlying140
  a77 := Tryz.isAgg140
  z77 := Tryz.sizeOf140
  v77 := Tryz.zeroValue140 }
open Go.RowKit Go.Lib Go.Sort in
theorem Tryz.slices_SortFunc_none {α : Type} [Inhabited α] (p : Option Addr) (cap : Nat) (fv : Value) (w : World) :
    Calls Tryz.prog 32 #[.slice p 0 cap, fv] w fun e w' => e = .returned (.tuple #[]) ∧ w' = w := AnyF.slices_SortFunc_none Tryz.laysSlF06_f32 p cap fv w
open Go.RowKit Go.Lib Go.Sort in
theorem Tryz.slices_SortFunc_total {α : Type} [Inhabited α] (enc : α → Value) (h1 : OneCell enc) (cf : α → α → Int) (hO : SWO (ltOf cf)) (g : Nat) (cb : Array Value) (blk off cap : Nat) (d : Array α) (w : World) (eg : ∀ args w, (callFunc g args).run Tryz.prog w = .ok (.enter g args) w) (hcmp : CmpLays1 Tryz.prog g cb enc cf blk off d.size w) (hH : Holds enc w blk off d) (hblk : blk < w.heap.size) (hsz : d.size < 4611686018427387904) (hT : ∀ x y, (ltOf cf) x y = false → (ltOf cf) y x = false → x = y) :
    Calls Tryz.prog 32 #[.slice (some ⟨blk, off, none⟩) d.size cap, .func (.func g) #[] cb] w fun e w' =>
      e = .returned (.tuple #[]) ∧ ∃ n os, w' = sortWorld enc w blk off n (d.toList.mergeSort fun x y => !(ltOf cf) y x).toArray os := Any.slices_SortFunc_total Tryz.laysSlF6_f32 enc h1 cf hO g cb blk off cap d w eg hcmp hH hblk hsz hT
def Tryz.delG_ren : Go.Shelf.Ren := ⟨fun | 45 => 13 | n => n, fun | 22 => 22 | 23 => 25 | 3 => 3 | 4 => 4 | 0 => 0 | n => n, fun | n => n⟩
theorem Tryz.delG : Go.Proofs.SlLaysE.n45 Tryz.prog Tryz.delG_ren := {
  mixed := by kernel_rfl
  f45 := ⟨Tryz.f13.name, by decide, Tryz.func13.trans (congrArg some (by kernel_rfl))⟩
  t0 := Tryz.underlying0
  a0 := Tryz.isAgg0
  z0 := Tryz.sizeOf0
  v0 := Tryz.zeroValue0
  t3 := Tryz.underlying3
  a3 := Tryz.isAgg3
  z3 := Tryz.sizeOf3
  v3 := Tryz.zeroValue3
  t4 := Tryz.underlying4
  a4 := Tryz.isAgg4
  z4 := Tryz.sizeOf4
  v4 := Tryz.zeroValue4
  t22 := Tryz.underlying22
  a22 := Tryz.isAgg22
  z22 := Tryz.sizeOf22
  v22 := Tryz.zeroValue22
  a23 := Tryz.isAgg25
  z23 := Tryz.sizeOf25 }
end Go.Proofs

/- The library's contracts over owned parts: slices.SortFunc of literals, slices.Compact. -/
set_option linter.unusedVariables false
set_option linter.unusedSimpArgs false
namespace Go.Proofs.YtfajmelamonolaaGreatDoor
open Go.RowKit Go.Sort
def or2 (a b : Int) : Int := if a ≠ 0 then a else b
set_option maxHeartbeats 2000000 in
theorem or_any (c1 c2 : Int) (g : Nat) (W : World) (h1 : W.cell? ⟨g, 0, none⟩ = some (.int .i64 c1)) (h2 : W.cell? ⟨g, 1, none⟩ = some (.int .i64 c2)) :
    Calls Tryz.prog 34 #[.slice (some ⟨g, 0, none⟩) 2 2] W fun e w' => e = .returned (.int .i64 (or2 c1 c2)) ∧ w' = W := by
  unfold or2
  go_enter Tryz.func34, Tryz.ntmps34
  go_wp2_with fail
  refine wp_loop_rounds 3 ?_
  rw [rounds_succ]
  go_wp2_with fail
  all_goals try (rw [rounds_succ]; go_wp2_with fail)
  all_goals try (rw [rounds_succ]; go_wp2_with fail)
  all_goals try (go_ret; simp_all)
set_option maxHeartbeats 2000000 in
theorem var_any (n : Int) (h : -4611686018427387904 ≤ n ∧ n ≤ 4611686018427387904) (W : World) :
    Calls Tryz.prog 36 #[.int .i64 n] W fun e w' => e = .returned (.int .i64 (vr n)) ∧ w' = W := by
  unfold vr
  have hw : IntKind.wrap .i64 (-n) = 0 - n := by rw [IntKind.wrap_i64]; omega
  go_enter Tryz.func36, Tryz.ntmps36
  go_wp2_with fail
  all_goals try (go_ret; simp_all)
def Tr (W w : World) : Prop := ∃ q os, w = grow (W.drewN q) os
theorem Tr.refl (W : World) : Tr W W := ⟨0, #[], by simp [grow, World.drewN]⟩
theorem Tr.drew {W w : World} (h : Tr W w) : Tr W w.drew := by
  obtain ⟨q, os, rfl⟩ := h
  exact ⟨q + 1, os, rfl⟩
theorem Tr.alloc {W w : World} (h : Tr W w) (o : Obj) : Tr W (w.alloc o) := by
  obtain ⟨q, os, rfl⟩ := h
  exact ⟨q, os ++ #[o], by rw [alloc_eq_grow, grow_grow]⟩
section
variable {Z : World} {ρ : PH} {L : List Atom} {w W : World}
theorem c_cmpIT (a b : Int) (hp : Hp Z ρ L w) (hT : Tr W w) : Calls Tryz.prog 35 #[.int .i64 a, .int .i64 b] w (Ret fun v w' => v = .int .i64 (Lib.compareInt a b) ∧ Hp Z ρ L w' ∧ Tr W w') := by
  refine (Tryz.cmp_Compare_int a b w).mono ?_
  rintro e w' ⟨rfl, rfl⟩
  exact ⟨_, rfl, rfl, hp, hT⟩
theorem c_varT (a : Int) (h : -4611686018427387904 ≤ a ∧ a ≤ 4611686018427387904) (hp : Hp Z ρ L w) (hT : Tr W w) : Calls Tryz.prog 36 #[.int .i64 a] w (Ret fun v w' => v = .int .i64 (vr a) ∧ Hp Z ρ L w' ∧ Tr W w') := by
  refine (var_any a h w).mono ?_
  rintro e w' ⟨rfl, rfl⟩
  exact ⟨_, rfl, rfl, hp, hT⟩
theorem c_orT (c1 c2 : Int) (b : Nat) (hp : Hp Z ρ (Pt b (.cells #[.int .i64 c1, .int .i64 c2] 3 (0, 0)) :: L) w) (hT : Tr W w) : Calls Tryz.prog 34 #[.slice (some ⟨b, 0, none⟩) 2 2] w (Ret fun v w' => v = .int .i64 (or2 c1 c2) ∧ Hp Z ρ (Pt b (.cells #[.int .i64 c1, .int .i64 c2] 3 (0, 0)) :: L) w' ∧ Tr W w') := by
  have h := hp.look 0 rfl
  refine (or_any c1 c2 b w (by simp [World.cell?, h]) (by simp [World.cell?, h])).mono ?_
  rintro e w' ⟨rfl, rfl⟩
  exact ⟨_, rfl, rfl, hp, hT⟩
end
section
variable {Rn : Option Nat} {P : Program} {ops : Array Oper} {Q : Exit → Act → World → Prop} {rest : List Oper} {o : Oper} {a : Act} {w W : World} {N : Nat} {E : Ent} {d : Nat} {Z : World} {ρ : PH} {L : List Atom}
theorem s_litT (hT : Tr W w) (wk : Region.wanted o (yielded ops a.tmps) = true) (hd : o.dst = some d) (hN : Nat.blt d N = true) (hE : Env N E a) (hp : Hp Z ρ L w) {T : TypeId} {n : Nat} {ps : List (Nat × Operand)} (ho : o.op = .buildSlice T n ps.toArray) (vs : List (Nat × Value)) (hx : evP E ps vs)
    (cs : List Value) (El : TypeId) (hr : ∀ w, (Instr.buildSlice T n vs.toArray).run P w = .ok (.slice (some ⟨w.heap.size, 0, none⟩) n n) (w.alloc (.cells cs.toArray El)))
    (K : ∀ a w b, Env N ((d, .slice (some ⟨b, 0, none⟩) n n) :: E) a → Hp Z ρ (Pt b (.cells cs.toArray El (0, 0)) :: L) w → Tr W w → wpL Rn P ops Q rest a w) : wpL Rn P ops Q (o :: rest) a w := by
  have hps : ps.toArray.map (fun p => (p.1, a.eval p.2)) = vs.toArray := by rw [List.map_toArray, evP_map hE hx]
  refine s_run wk hd hN hE (v := .slice (some ⟨w.heap.size, 0, none⟩) n n) (w' := w.alloc (.cells cs.toArray El)) ?_ fun a' hE' => K a' _ _ hE' (hp.alloc _) (hT.alloc _)
  simp only [execOp, ho, hps, Sem.run_bind, hr w]
  rfl
end
theorem entOr : ∀ args w, (callFunc 34 args).run Tryz.prog w = .ok (.enter 34 args) w := enters Tryz.func34 (by kernel_rfl) rfl
theorem entCmp : ∀ args w, (callFunc 35 args).run Tryz.prog w = .ok (.enter 35 args) w := enters Tryz.func35 (by kernel_rfl) rfl
def liOk (x : Int) : Prop := -4611686018427387904 ≤ x ∧ x ≤ 4611686018427387904
instance (x : Int) : Decidable (liOk x) := by unfold liOk; infer_instance
set_option maxRecDepth 100000 in
set_option maxHeartbeats 4000000 in
theorem closureN_ {Z : World} {ρ : PH} {L : List Atom} {w W : World} (p0 p1 : Int) (h0 : liOk p0) (h1 : liOk p1) (hp : Hp Z ρ (L) w) (hT : Tr W w) :
    Calls Tryz.prog 33 #[(.int .i64 p0), (.int .i64 p1)] w (Ret fun v w' => v = (.int .i64 (or2 (Lib.compareInt (vr p0) (vr p1)) (Lib.compareInt p0 p1))) ∧ Tr W w') := by
  refine enter (N := 15) Tryz.func33 rfl rfl [(0, (.int .i64 p0)), (1, (.int .i64 p1))] rfl (argsIn_mem ⟨rfl, rfl, trivial⟩) fun a hE => ?_
  refine k_seq ?_
  refine k_region ?_
  refine s_val (wk0 rfl) rfl rfl hE hp (v := (.int .i64 0)) (ex_asn rfl hE rfl) ?_
  intro a hE
  refine s_nil ?_
  refine k_seq ?_
  refine k_region ?_
  refine s_val (wk0 rfl) rfl rfl hE hp (v := (.int .i64 p0)) (ex_move rfl hE rfl) ?_
  intro a hE
  refine s_call (wk0 rfl) rfl rfl hE rfl [(.int .i64 p0)] ⟨rfl, trivial⟩ ent36 (c_varT p0 h0 hp hT) Ret.ret ?_
  intro v a w hR hE
  obtain ⟨rfl, hp, hT⟩ := Ret.of hR
  refine s_val (wk0 rfl) rfl rfl hE hp (v := (.int .i64 p1)) (ex_move rfl hE rfl) ?_
  intro a hE
  refine s_call (wk0 rfl) rfl rfl hE rfl [(.int .i64 p1)] ⟨rfl, trivial⟩ ent36 (c_varT p1 h1 hp hT) Ret.ret ?_
  intro v a w hR hE
  obtain ⟨rfl, hp, hT⟩ := Ret.of hR
  refine s_call (wk0 rfl) rfl rfl hE rfl [(.int .i64 (vr p0)), (.int .i64 (vr p1))] ⟨rfl, rfl, trivial⟩ entCmp (c_cmpIT (vr p0) (vr p1) hp hT) Ret.ret ?_
  intro v a w hR hE
  obtain ⟨rfl, hp, hT⟩ := Ret.of hR
  refine s_val (wk0 rfl) rfl rfl hE hp (v := (.int .i64 p0)) (ex_move rfl hE rfl) ?_
  intro a hE
  refine s_val (wk0 rfl) rfl rfl hE hp (v := (.int .i64 p1)) (ex_move rfl hE rfl) ?_
  intro a hE
  refine s_call (wk0 rfl) rfl rfl hE rfl [(.int .i64 p0), (.int .i64 p1)] ⟨rfl, rfl, trivial⟩ entCmp (c_cmpIT p0 p1 hp hT) Ret.ret ?_
  intro v a w hR hE
  obtain ⟨rfl, hp, hT⟩ := Ret.of hR
  refine s_litT hT (wk0 rfl) rfl rfl hE hp rfl [(0, (.int .i64 (Lib.compareInt (vr p0) (vr p1)))), (1, (.int .i64 (Lib.compareInt p0 p1)))] ⟨⟨rfl, rfl⟩, ⟨rfl, rfl⟩, trivial⟩ [(.int .i64 (Lib.compareInt (vr p0) (vr p1))), (.int .i64 (Lib.compareInt p0 p1))] 3 (fun w => by simp [Instr.buildSlice, Instr.fill, Value.cells, go_sem]) ?_
  intro a w b1 hE hp hT
  refine s_call (wk0 rfl) rfl rfl hE rfl [(.slice (some ⟨b1, 0, none⟩) 2 2)] ⟨rfl, trivial⟩ entOr (c_orT (Lib.compareInt (vr p0) (vr p1)) (Lib.compareInt p0 p1) b1 hp hT) Ret.ret ?_
  intro v a w hR hE
  obtain ⟨rfl, hp, hT⟩ := Ret.of hR
  refine s_val (wk0 rfl) rfl rfl hE hp (v := (.int .i64 (or2 (Lib.compareInt (vr p0) (vr p1)) (Lib.compareInt p0 p1)))) (ex_asn rfl hE rfl) ?_
  intro a hE
  refine s_nil ?_
  refine k_ret ?_
  exact ret1 hE rfl rfl ⟨_, rfl, rfl, hT⟩
structure LitI where
  val : Int
  ok : liOk val
instance : Inhabited LitI := ⟨⟨0, by decide⟩⟩
def encL (x : LitI) : Value := .int .i64 x.1
theorem encL1 : OneCell encL := fun _ => rfl
def cfN (x y : LitI) : Int := or2 (Lib.compareInt (vr x.1) (vr y.1)) (Lib.compareInt x.1 y.1)
theorem hp_whole0 (W : World) : Hp W (hp W) [] W := ⟨rfl, rfl, rfl, PH.le.rf _⟩
theorem closureN (x y : LitI) (W : World) : Calls Tryz.prog 33 (#[encL x, encL y] ++ #[]) W fun e w' => e = .returned (.int .i64 (cfN x y)) ∧ ∃ q os', w' = grow (W.drewN q) os' := by
  refine (closureN_ (Z := W) (ρ := hp W) (L := []) x.1 y.1 x.2 y.2 (hp_whole0 W) (Tr.refl W)).mono ?_
  rintro e w' ⟨v, rfl, rfl, q, os, rfl⟩
  exact ⟨rfl, q, os, rfl⟩
theorem cmpI_neg {a b : Int} : Lib.compareInt a b < 0 ↔ a < b := by
  unfold Lib.compareInt
  by_cases h1 : a < b
  · simp [h1]
  · by_cases h2 : b < a <;> simp [h1, h2]
theorem cmpI_zero {a b : Int} : Lib.compareInt a b = 0 ↔ a = b := by
  unfold Lib.compareInt
  by_cases h1 : a < b
  · simp [h1]; omega
  · by_cases h2 : b < a
    · simp [h1, h2]; omega
    · simp [h1, h2]; omega
theorem or2_neg {a b : Int} : or2 a b < 0 ↔ a < 0 ∨ a = 0 ∧ b < 0 := by
  unfold or2
  split <;> omega
theorem cfN_lt (x y : LitI) : ltOf cfN x y = ltN x.1 y.1 := by
  unfold ltOf cfN ltN
  rw [decide_eq_decide, or2_neg, cmpI_neg, cmpI_neg, cmpI_zero]
theorem swoN : SWO (ltOf cfN) where
  irrefl x := by rw [cfN_lt]; unfold ltN; simp
  trans x y z h1 h2 := by rw [cfN_lt] at *; unfold ltN at *; simp only [decide_eq_true_eq] at *; omega
  ntrans x y z h1 h2 := by rw [cfN_lt] at *; unfold ltN at *; simp only [decide_eq_false_iff_not] at *; omega
theorem totN (x y : LitI) (h1 : ltOf cfN x y = false) (h2 : ltOf cfN y x = false) : x = y := by
  rw [cfN_lt] at *
  unfold ltN at *
  simp only [decide_eq_false_iff_not] at *
  obtain ⟨a, _⟩ := x
  obtain ⟨b, _⟩ := y
  simp only [LitI.mk.injEq] at *
  omega
theorem lift_li : ∀ (l : List Int), litOk l = true → ∃ ls : List LitI, ls.map LitI.val = l
  | [], _ => ⟨[], rfl⟩
  | p :: l, h => by
    unfold litOk at h
    rw [List.all_cons, Bool.and_eq_true] at h
    obtain ⟨ls, e⟩ := lift_li l h.2
    exact ⟨⟨p, of_decide_eq_true h.1⟩ :: ls, by rw [List.map_cons, e]⟩
theorem flat_li (ls : List LitI) : ls.toArray.toList.map encL = flat (ls.map LitI.val) := by
  rw [flat_int, List.map_map]; rfl
theorem map_sortN (ls : List LitI) : (ls.mergeSort fun x y => !(ltOf cfN) y x).map LitI.val = (ls.map LitI.val).mergeSort fun x y => !ltN y x := by
  have e2 : (fun x y : LitI => !(ltOf cfN) y x) = fun x y => !ltN y.1 x.1 := by funext x y; rw [cfN_lt]
  rw [e2]
  exact (List.map_mergeSort (fun a _ b _ => rfl))
section
variable {Z : World} {ρ : PH} {L : List Atom} {w : World}
theorem c_sortN (l : List Int) (v : Value) (hp : Hp Z ρ (OwnSl 3 v l :: L) w) (r : List Int) (hm : m_sortN l = some r) :
    Calls Tryz.prog 32 #[v, .func (.func 33) #[] #[]] w (Ret fun u w' => u = .tuple #[] ∧ Hp Z ρ (OwnSl 3 v r :: L) w') := by
  unfold m_sortN at hm
  split at hm
  · rename_i hh
    obtain ⟨hlen, hall⟩ := hh
    simp only [Option.some.injEq] at hm
    subst hm
    obtain ⟨ls, rfl⟩ := lift_li l hall
    have none_ : ∀ A c, v = .slice A 0 c → ls = [] → Calls Tryz.prog 32 #[v, .func (.func 33) #[] #[]] w (Ret fun u w' => u = .tuple #[] ∧ Hp Z ρ (OwnSl 3 v ((ls.map LitI.val).mergeSort fun x y => !ltN y x) :: L) w') := by
      rintro A c rfl rfl
      have h0 : Calls Tryz.prog 32 #[.slice A 0 c, .func (.func 33) #[] #[]] w (fun e w' => e = .returned (.tuple #[]) ∧ w' = w) := Tryz.slices_SortFunc_none (α := Int) A c _ w
      refine h0.mono ?_
      rintro e w' ⟨rfl, rfl⟩
      exact ⟨_, rfl, rfl, by simpa using hp⟩
    rcases hp.row.2 with ⟨A, hv, hn⟩ | ⟨g, off, cap, cur, hv, _⟩
    · exact none_ A 0 hv (by simpa using hn)
    · rcases Nat.eq_zero_or_pos ls.length with h0 | h0
      · exact none_ _ cap (by rw [hv, List.length_map, h0]) (List.eq_nil_of_length_eq_zero h0)
      · subst hv
        rw [List.length_map] at hlen
        obtain ⟨hH, hg⟩ := Hp.holdsO encL hp (by simpa using h0) (d := ls.toArray) (flat_li ls)
        have eg : ∀ args w, (callFunc 33 args).run Tryz.prog w = .ok (.enter 33 args) w := enters Tryz.func33 (by kernel_rfl) rfl
        have hcon : Calls Tryz.prog 32 #[.slice (some ⟨g, off, none⟩) ls.toArray.size cap, .func (.func 33) #[] #[]] w (fun e w' =>
            e = .returned (.tuple #[]) ∧ ∃ n os, w' = sortWorld encL w g off n (ls.toArray.toList.mergeSort fun x y => !(ltOf cfN) y x).toArray os) :=
          Tryz.slices_SortFunc_total encL encL1 cfN swoN 33 #[] g off cap ls.toArray w eg (fun _ _ _ _ x y => closureN x y _) hH hg (by simp; omega) totN
        rw [List.size_toArray] at hcon
        rw [List.length_map]
        refine hcon.mono ?_
        rintro e w' ⟨rfl, m, os, rfl⟩
        have := Hp.putO (m := m) (os := os) (xs' := flat ((ls.map LitI.val).mergeSort fun x y => !ltN y x)) encL hp (by simpa using h0) (d := (ls.mergeSort fun x y => !(ltOf cfN) y x).toArray) (by rw [flat_li, map_sortN]) (by rw [flat_len]; simp)
        refine ⟨_, rfl, rfl, ?_⟩
        unfold OwnSl
        rw [List.length_mergeSort]
        rw [List.length_map] at this ⊢
        exact this
  · cases hm
theorem compact_le (l : List Int) : (Lib.compact l).length ≤ l.length := by
  unfold Lib.compact Lib.compactUpTo
  rw [List.length_map]
  exact Nat.le_trans (List.length_filter_le _ _) (by simp)
theorem c_compactI_own (l : List Int) (v : Value) (hp : Hp Z ρ (OwnSl 3 v l :: L) w) (r : List Int) (hm : m_compactI l = some r) :
    Calls Tryz.prog 37 #[v] w (Ret fun u w' => ∃ v1, u = v1 ∧ Hp Z ρ (OwnSl 3 v1 r :: L) w') := by
  unfold m_compactI at hm
  split at hm
  · rename_i hlen
    simp only [Option.some.injEq] at hm
    subst hm
    have none_ : ∀ A c, v = .slice A 0 c → l = [] → Calls Tryz.prog 37 #[v] w (Ret fun u w' => ∃ v1, u = v1 ∧ Hp Z ρ (OwnSl 3 v1 (Lib.compact l) :: L) w') := by
      rintro A c rfl rfl
      refine (Tryz.slices_Compact_int_empty A c w).mono ?_
      rintro e w' ⟨rfl, rfl⟩
      exact ⟨_, rfl, _, rfl, hp⟩
    rcases hp.row.2 with ⟨A, hv, hn⟩ | ⟨g, off, cap, cur, hv, _, hnc, hcm, _⟩
    · exact none_ A 0 hv (List.eq_nil_of_length_eq_zero hn)
    · rcases Nat.eq_zero_or_pos l.length with h0 | h0
      · exact none_ _ cap (by rw [hv, h0]) (List.eq_nil_of_length_eq_zero h0)
      · subst hv
        obtain ⟨hH, hg⟩ := Hp.holdsO (Value.int .i64) hp h0 (d := l.toArray) (by rw [flat_int])
        refine (Tryz.slices_Compact_int g off cap l w hH (by omega) hnc).mono ?_
        rintro e w' ⟨rfl, q, rfl⟩
        have hle := compact_le l
        have h1 := Hp.putO (m := q) (os := #[]) (xs' := flat (Lib.compact l ++ List.replicate (l.length - (Lib.compact l).length) 0)) (Value.int .i64) hp h0 (d := (Lib.compact l ++ List.replicate (l.length - (Lib.compact l).length) 0).toArray) (by rw [flat_int]) (by rw [flat_len, List.length_append, List.length_replicate, Nat.add_sub_cancel' hle])
        rw [grow_empty] at h1
        refine ⟨_, rfl, _, rfl, ?_⟩
        rcases h1.row.2 with ⟨A, _, hn0⟩ | ⟨g', off', cap', cur', e', hpt, k1, k2, k3, k4⟩
        · omega
        · simp only [Value.slice.injEq, Option.some.injEq, Addr.mk.injEq, and_true, true_and] at e'
          obtain ⟨⟨rfl, rfl⟩, rfl⟩ := e'
          refine Hp.shutO hpt (by omega) k2 k3 ?_
          have k5 := congrArg (List.take ((Lib.compact l).length * Enc.sz Int)) k4
          rw [List.take_take, Nat.min_eq_left (Nat.mul_le_mul_right _ hle)] at k5
          rw [k5, flat_app, List.take_left' (by rw [flat_len])]
  · cases hm
end
section
variable {P : Program} {Z : World} {ρ : PH} {L : List Atom} {w : World}
theorem s_appsI {Rn : Option Nat} {ops : Array Oper} {Q : Exit → Act → World → Prop} {rest : List Oper} {o : Oper} {a : Act} {Df : List Deferred} {N : Nat} {E : Ent} {d : Nat} (wk : Region.wanted o (yielded ops a.tmps) = true) (hd : o.dst = some d) (hN : Nat.blt d N = true) (hE : EnvD Df N E a) {x y : Operand} {t : TypeId} (ho : o.op = .call { callee := .builtin .append, args := #[x, y], argTypes := #[t, t] }) {El : TypeId} (ht : SlTy P t El (Enc.sz Int) 8)
    {v : Value} (hp : Hp Z ρ (OwnSl El v ([] : List Int) :: L) w) (hx : evo E x = some v) {v2 : Value} (hy : evo E y = some v2) {l2 : List Int} (hs : RoSl ρ v2 l2) (hl : l2.length < 17592186044417)
    (K : ∀ v' a w, EnvD Df N ((d, v') :: E) a → Hp Z ρ (OwnSl El v' l2 :: L) w → wpL Rn P ops Q rest a w) : wpL Rn P ops Q (o :: rest) a w := by
  rcases Nat.eq_zero_or_pos l2.length with h0 | h0
  · exact s_apps wk hd hN hE hp ho ht rfl hx 0 rfl hy hs (show app [] l2 = some l2 by unfold app; rw [if_pos (by simp; omega)]; rfl) K
  · obtain ⟨A, c, rfl, _, hh⟩ := hs
    obtain ⟨b, off, cs, e1, _, _⟩ := hh 0 l2[0] (List.getElem?_eq_getElem h0)
    subst e1
    have hn : ∀ j u, (flat l2)[j]? = some u → w.cell? ⟨b, off + j, none⟩ = some u := fun j u hj => by
      rw [flat_int, List.getElem?_map, Option.map_eq_some_iff] at hj
      obtain ⟨x, hx, rfl⟩ := hj
      obtain ⟨b2, o2, cs2, e2, h4, h5⟩ := hh j x hx
      simp only [Option.some.injEq, Addr.mk.injEq, and_true] at e2
      obtain ⟨rfl, rfl⟩ := e2
      have h4' : cs2 = Enc.enc x := h4
      subst h4'
      have := cell_of hp.le (h5 0 (.int .i64 x) rfl)
      have e3 : off + j * Rep.sz Int + 0 = off + j := by
        show off + j * 1 + 0 = off + j
        omega
      rw [e3] at this
      exact this
    obtain ⟨v', w', hrun, hp'⟩ := run_app (P := P) ht Enc.pos o.type hp ⟨b, off, none⟩ l2.length c (flat l2) (by rw [flat_len]) (fun j u hj => by rw [Addr.add_lit]; exact hn j u hj) (flat_one l2) (by unfold maxLen; simp; omega) (by simp; omega)
    refine s_run wk hd hN hE (v := v') (w' := w') ?_ fun a' hE' => K v' a' w' hE' ?_
    · simp only [execOp, ho, resolve, invoke, builtin, Sem.run_bind, Sem.run_pure, Result.andThen_ok, List.map_toArray, List.map_cons, List.map_nil, hE.eval hx, hE.eval hy, hrun]
    · unfold OwnSl
      have e4 : flat ([] : List Int) ++ flat l2 = flat l2 := rfl
      rw [e4, List.length_nil, Nat.zero_add] at hp'
      exact hp'
set_option maxRecDepth 100000 in
theorem c_cloneI (p0 : List Int) (vp0 : Value) (hp0 : RoSl ρ vp0 p0) (hp : Hp Z ρ L w) (r : List Int) (hm : m_cloneI p0 = some r) :
    Calls Tryz.prog 25 #[vp0] w (Ret fun v w' => ∃ v1, v = v1 ∧ Hp Z ρ (OwnSl 3 v1 r :: L) w') := by
  refine enter (N := 8) Tryz.func25 rfl rfl [(0, vp0)] rfl (argsIn_mem ⟨rfl, trivial⟩) fun a hE => ?_
  unfold m_cloneI at hm
  split at hm
  · rename_i hl
    obtain rfl := Option.some.inj hm
    obtain ⟨b, hb1, hb2⟩ := RoSl.nilq (P := Tryz.prog) hp0 slty25
    refine k_seq ?_
    refine k_region ?_
    refine s_val (wk0 rfl) rfl rfl hE hp (ex_asn rfl hE rfl) ?_
    intro a hE
    refine s_nil ?_
    refine k_seq ?_
    refine k_seq ?_
    refine k_region ?_
    refine s_val (wk0 rfl) rfl rfl hE hp (v := vp0) (ex_move rfl hE rfl) ?_
    intro a hE
    refine s_val (wk0 rfl) rfl rfl hE hp (v := .bool b) (ex_bin rfl hE rfl rfl fun w _ => hb1 w _ _) ?_
    intro a hE
    refine s_nil ?_
    refine k_if hE rfl (fun hb => ?_) (fun hb => ?_)
    · obtain rfl := hb2 hb
      refine k_seq ?_
      refine k_region ?_
      refine s_val (wk0 rfl) rfl rfl hE hp (v := .slice none 0 0) (ex_asn rfl hE rfl) ?_
      intro a hE
      refine s_nil ?_
      refine k_ret ?_
      exact ret1 hE rfl rfl ⟨_, rfl, _, rfl, hp.emp (OwnSl.nil (α := Int) 3)⟩
    · refine k_skip ?_
      refine k_seq ?_
      refine k_region ?_
      refine s_lit (wk0 rfl) rfl rfl hE hp rfl [] trivial [] 3 (fun w => by simp [Instr.buildSlice, Instr.fill, Value.cells, go_sem]) ?_
      intro a w b1 hE hp
      have hp := (hp.get 0 rfl).imp (own_of_pt (l := ([] : List Int)) (n := 0) rfl (by decide) rfl)
      have hp : Hp Z ρ (OwnSl 3 (.slice (some ⟨b1, 0, none⟩) 0 0) ([] : List Int) :: L) w := hp
      refine s_val (wk0 rfl) rfl rfl hE hp (v := vp0) (ex_move rfl hE rfl) ?_
      intro a hE
      refine s_appsI (wk0 rfl) rfl rfl hE rfl slty25 hp rfl rfl hp0 hl ?_
      intro v1 a w hE hp
      refine s_val (wk0 rfl) rfl rfl hE hp (v := v1) (ex_asn rfl hE rfl) ?_
      intro a hE
      refine s_nil ?_
      refine k_ret ?_
      exact ret1 hE rfl rfl ⟨_, rfl, _, rfl, hp⟩
  · cases hm
end
end Go.Proofs.YtfajmelamonolaaGreatDoor
