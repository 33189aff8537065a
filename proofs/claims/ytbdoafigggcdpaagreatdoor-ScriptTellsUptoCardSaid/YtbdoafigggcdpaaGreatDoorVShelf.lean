/- Contracts of Go's library at this program, in plain words. No condition of ours. -/
import Derived.Shelf.Strings.Builder1
import Derived.Shelf.Strings.Builder2
import Derived.Shelf.Strings.OnBuilder
import Derived.Shelf.Strings.Trim
import Derived.Shelf.Small.Utf8
import Derived.Shelf.Small.Strs
import Derived.Shelf.Strings.BuilderF
import Derived.Shelf.Strings.BuilderK
import Derived.Shelf.Strconv.Atoi
import Derived.Shelf.Strconv.Itoa0
import Derived.Shelf.Strconv.Itoa1
import Derived.Shelf.LaysM
import Derived.Shelf.Strconv.Itoa2
import Derived.Shelf.Strconv.Itoa3
import Derived.Shelf.Strconv.AtoiErrFast
import Derived.Shelf.Strconv.ParseIntEmpty
import Derived.Shelf.Strconv.AtoiFail
import Derived.Shelf.Strconv.Clone
import Derived.Shelf.Strconv.SyntaxError
import Derived.Shelf.LaysC
import Derived.Shelf.Strconv.ToError
import Derived.Shelf.Strconv.Lower
import Derived.Shelf.Strconv.ParseUint10
import Derived.Shelf.Strconv.ParseUint10Empty
import Derived.Shelf.Strconv.ParseUint10Any
import Derived.Shelf.Strconv.ParseInt10
import Derived.Shelf.Strconv.AtoiLong
import Derived.Shelf.Strconv.AtoiInnerAll
import Derived.Shelf.Strconv.RangeError
import Derived.Shelf.Strconv.ToErrorRange
import Derived.Shelf.Strconv.AtoiAll
import Derived.Shelf.Strconv.ErrVarAll
import Derived.Shelf.Strings.Search1
import Derived.Shelf.Strings.Search2
import Derived.Shelf.Strings.Search3
import Derived.Shelf.Strings.Cut
import Derived.Shelf.Strings.Count
import Derived.Shelf.Strings.Shaped
import Derived.Shelf.GgClosure.StringsIndexFunc
import Derived.Ground.GgwProg
import Derived.Shelf.GgClosure.StringsIndexFuncTop
import Derived.Shelf.GgClosure.StringsRunes
import Derived.Shelf.Strings.Prefix
import Derived.Shelf.Strings.Split
import Derived.Shelf.Strings.Fields
import Derived.Shelf.Strings.Replace
import Derived.Shelf.Unicode.Latin
import Derived.Shelf.Strings.Runes
import Derived.Shelf.Strings.AsciiSet
import Derived.Shelf.Unicode.DecodeSlow
import Derived.Shelf.Unicode.DecodeAny
import Derived.Shelf.Unicode.Is16White
import Derived.Shelf.Unicode.IsSpaceAny
import Derived.Shelf.Unicode.DecodeLast
import Derived.Shelf.Unicode.Is16WhiteD
import Derived.Shelf.Unicode.IsSpaceAnyD
import Derived.Shelf.Strings.FieldsAny
import Derived.Shelf.Strings.FieldsFuncAny
import Derived.Shelf.Unicode.Is16Any
import Derived.Shelf.Unicode.Is32Any
import Derived.Shelf.Unicode.ExclAny
import Derived.Shelf.Strings.FuncGrows
import Derived.Ground.SlgfProg
import Derived.Shelf.SlicesE.IndexFunc
import Derived.Test.YtbdoafigggcdpaaGreatDoorProg
namespace Go.Proofs
open Go.Shelf
def Tryz.lays169_ren : Go.Shelf.Ren := ⟨fun | 169 => 36 | n => n, fun | 70 => 86 | 9 => 9 | 0 => 0 | 72 => 89 | 37 => 87 | 127 => 123 | 3 => 3 | 5 => 5 | n => n, fun | n => n⟩
theorem Tryz.lays169 : Go.Proofs.Lays.n169 Tryz.prog Tryz.lays169_ren := {
  mixed := by kernel_rfl
  f169 := Tryz.func36.trans (congrArg some (by kernel_rfl))
  t0 := Tryz.underlying0
  a0 := Tryz.isAgg0
  z0 := Tryz.sizeOf0
  v0 := Tryz.zeroValue0
  t3 := Tryz.underlying3
  a3 := Tryz.isAgg3
  z3 := Tryz.sizeOf3
  v3 := Tryz.zeroValue3
  t9 := Tryz.underlying9
  a9 := Tryz.isAgg9
  z9 := Tryz.sizeOf9
  v9 := Tryz.zeroValue9
  t37 := Tryz.underlying87
  a37 := Tryz.isAgg87
  z37 := Tryz.sizeOf87
  v37 := Tryz.zeroValue87
  t70 := Tryz.underlying86
  a70 := Tryz.isAgg86
  z70 := Tryz.sizeOf86
  v70 := Tryz.zeroValue86
  t72 := Tryz.underlying89
  a72 := Tryz.isAgg89
  z72 := Tryz.sizeOf89
  v72 := Tryz.zeroValue89
  t127 := Tryz.underlying123
  a127 := Tryz.isAgg123
  z127 := Tryz.sizeOf123
  v127 := Tryz.zeroValue123 }
theorem Tryz.Builder_Extra_169 : Builder.Extra Tryz.prog Tryz.lays169_ren := {
  sizeBuilder := by kernel_rfl
  liesBuilder := by kernel_rfl
  t5 := Tryz.underlying5
  a5 := Tryz.isAgg5
  z5 := Tryz.sizeOf5
  v5 := Tryz.zeroValue5
  infoByte := by kernel_rfl
  cellsByte := by kernel_rfl
  sizeByte := by kernel_rfl
  neB5 := by decide }
open Go.RowKit in
theorem Tryz.Builder_String_any (B b : Nat) (l : List UInt8) (w : World) (h : Lib.IsBuilder 89 5 B b (Lib.byteCells l) w) (hBw : B ≤ w.heap.size) :
    Calls Tryz.prog 36 #[.pointer (some ⟨b, 0, none⟩)] w fun e w' => e = .returned (.string ⟨l.toArray⟩) ∧ Below B w w' := Any.Builder_String_any Tryz.lays169 Tryz.Builder_Extra_169 B b l w h hBw
def Tryz.lays156_ren : Go.Shelf.Ren := ⟨fun | 156 => 46 | 165 => 84 | 166 => 34 | 169 => 36 | 240 => 71 | 241 => 109 | 276 => 100 | 277 => 132 | n => n, fun | 31 => 40 | 9 => 9 | 3 => 3 | 4 => 4 | 0 => 0 | 20 => 20 | 72 => 89 | 76 => 92 | 70 => 86 | 37 => 87 | 75 => 91 | 127 => 123 | 164 => 146 | 5 => 5 | 80 => 95 | n => n, fun | n => n⟩
theorem Tryz.lays156 : Go.Proofs.Lays.n156 Tryz.prog Tryz.lays156_ren := {
  mixed := by kernel_rfl
  f156 := Tryz.func46.trans (congrArg some (by kernel_rfl))
  f165 := Tryz.func84.trans (congrArg some (by kernel_rfl))
  f166 := Tryz.func34.trans (congrArg some (by kernel_rfl))
  f169 := Tryz.func36.trans (congrArg some (by kernel_rfl))
  f240 := Tryz.func71.trans (congrArg some (by kernel_rfl))
  f241 := Tryz.func109.trans (congrArg some (by kernel_rfl))
  f276 := Tryz.func100.trans (congrArg some (by kernel_rfl))
  f277 := Tryz.func132.trans (congrArg some (by kernel_rfl))
  t0 := Tryz.underlying0
  a0 := Tryz.isAgg0
  z0 := Tryz.sizeOf0
  v0 := Tryz.zeroValue0
  t3 := Tryz.underlying3
  a3 := Tryz.isAgg3
  z3 := Tryz.sizeOf3
  v3 := Tryz.zeroValue3
  t4 := Tryz.underlying4
  a4 := Tryz.isAgg4
  z4 := Tryz.sizeOf4
  v4 := Tryz.zeroValue4
  t9 := Tryz.underlying9
  a9 := Tryz.isAgg9
  z9 := Tryz.sizeOf9
  v9 := Tryz.zeroValue9
  t20 := Tryz.underlying20
  a20 := Tryz.isAgg20
  z20 := Tryz.sizeOf20
  v20 := Tryz.zeroValue20
  t31 := Tryz.underlying40
  a31 := Tryz.isAgg40
  z31 := Tryz.sizeOf40
  v31 := Tryz.zeroValue40
  t37 := Tryz.underlying87
  a37 := Tryz.isAgg87
  z37 := Tryz.sizeOf87
  v37 := Tryz.zeroValue87
  t70 := Tryz.underlying86
  a70 := Tryz.isAgg86
  z70 := Tryz.sizeOf86
  v70 := Tryz.zeroValue86
  t72 := Tryz.underlying89
  a72 := Tryz.isAgg89
  z72 := Tryz.sizeOf89
  v72 := Tryz.zeroValue89
  t75 := Tryz.underlying91
  a75 := Tryz.isAgg91
  z75 := Tryz.sizeOf91
  v75 := Tryz.zeroValue91
  t76 := Tryz.underlying92
  a76 := Tryz.isAgg92
  z76 := Tryz.sizeOf92
  v76 := Tryz.zeroValue92
  t127 := Tryz.underlying123
  a127 := Tryz.isAgg123
  z127 := Tryz.sizeOf123
  v127 := Tryz.zeroValue123
  t164 := Tryz.underlying146
  a164 := Tryz.isAgg146
  z164 := Tryz.sizeOf146
  v164 := Tryz.zeroValue146 }
theorem Tryz.Builder_Extra_156 : Builder.Extra Tryz.prog Tryz.lays156_ren := {
  sizeBuilder := by kernel_rfl
  liesBuilder := by kernel_rfl
  t5 := Tryz.underlying5
  a5 := Tryz.isAgg5
  z5 := Tryz.sizeOf5
  v5 := Tryz.zeroValue5
  infoByte := by kernel_rfl
  cellsByte := by kernel_rfl
  sizeByte := by kernel_rfl
  neB5 := by decide }
open Go.RowKit in
theorem Tryz.strings_Join (bk o c : Nat) (xs : List ByteArray) (sep : ByteArray) (w : World) (hcells : ∀ (j : Nat) x, xs[j]? = some x → w.cell? ⟨bk, o + j, none⟩ = some (.string x)) (hbk : bk < w.heap.size) (hN : xs.length ≤ 140737488355328) (hcap : xs.length ≤ c) (hlen : (Lib.join (xs.map (·.data.toList)) sep.data.toList).length ≤ 140737488355328) :
    Calls Tryz.prog 46 #[.slice (some ⟨bk, o, none⟩) xs.length c, .string sep] w fun e w' => e = .returned (.string ⟨(Lib.join (xs.map (·.data.toList)) sep.data.toList).toArray⟩) ∧ Below w.heap.size w w' := Any.strings_Join Tryz.lays156 Tryz.Builder_Extra_156 bk o c xs sep w hcells hbk hN hcap hlen
def Tryz.lays160_ren : Go.Shelf.Ren := ⟨fun | 160 => 26 | 232 => 59 | 231 => 58 | 227 => 60 | 234 => 62 | 233 => 61 | 236 => 64 | 235 => 63 | 228 => 95 | 271 => 98 | 151 => 97 | 197 => 96 | 120 => 117 | 152 => 116 | 260 => 115 | 137 => 137 | 119 => 138 | 224 => 120 | 225 => 119 | 217 => 118 | 266 => 139 | n => n, fun | 9 => 9 | 4 => 4 | 3 => 3 | 5 => 5 | 117 => 116 | 116 => 115 | 0 => 0 | 124 => 119 | 21 => 21 | 105 => 142 | 46 => 179 | 119 => 150 | 139 => 203 | 138 => 202 | n => n, fun | 3 => 4 | 4 => 5 | n => n⟩
theorem Tryz.lays160 : Go.Proofs.Lays.n160 Tryz.prog Tryz.lays160_ren := {
  mixed := by kernel_rfl
  f119 := Tryz.func138.trans (congrArg some (by kernel_rfl))
  f120 := Tryz.func117.trans (congrArg some (by kernel_rfl))
  f137 := Tryz.func137.trans (congrArg some (by kernel_rfl))
  f151 := Tryz.func97.trans (congrArg some (by kernel_rfl))
  f152 := Tryz.func116.trans (congrArg some (by kernel_rfl))
  f160 := Tryz.func26.trans (congrArg some (by kernel_rfl))
  f197 := Tryz.func96.trans (congrArg some (by kernel_rfl))
  f217 := Tryz.func118.trans (congrArg some (by kernel_rfl))
  f224 := Tryz.func120.trans (congrArg some (by kernel_rfl))
  f225 := Tryz.func119.trans (congrArg some (by kernel_rfl))
  f227 := Tryz.func60.trans (congrArg some (by kernel_rfl))
  f228 := Tryz.func95.trans (congrArg some (by kernel_rfl))
  f231 := Tryz.func58.trans (congrArg some (by kernel_rfl))
  f232 := Tryz.func59.trans (congrArg some (by kernel_rfl))
  f233 := Tryz.func61.trans (congrArg some (by kernel_rfl))
  f234 := Tryz.func62.trans (congrArg some (by kernel_rfl))
  f235 := Tryz.func63.trans (congrArg some (by kernel_rfl))
  f236 := Tryz.func64.trans (congrArg some (by kernel_rfl))
  f260 := Tryz.func115.trans (congrArg some (by kernel_rfl))
  f266 := Tryz.func139.trans (congrArg some (by kernel_rfl))
  f271 := Tryz.func98.trans (congrArg some (by kernel_rfl))
  t0 := Tryz.underlying0
  a0 := Tryz.isAgg0
  z0 := Tryz.sizeOf0
  v0 := Tryz.zeroValue0
  t3 := Tryz.underlying3
  a3 := Tryz.isAgg3
  z3 := Tryz.sizeOf3
  v3 := Tryz.zeroValue3
  t4 := Tryz.underlying4
  a4 := Tryz.isAgg4
  z4 := Tryz.sizeOf4
  v4 := Tryz.zeroValue4
  t5 := Tryz.underlying5
  a5 := Tryz.isAgg5
  z5 := Tryz.sizeOf5
  v5 := Tryz.zeroValue5
  t9 := Tryz.underlying9
  a9 := Tryz.isAgg9
  z9 := Tryz.sizeOf9
  v9 := Tryz.zeroValue9
  t21 := Tryz.underlying21
  a21 := Tryz.isAgg21
  z21 := Tryz.sizeOf21
  v21 := Tryz.zeroValue21
  t46 := Tryz.underlying179
  a46 := Tryz.isAgg179
  z46 := Tryz.sizeOf179
  v46 := Tryz.zeroValue179
  t105 := Tryz.underlying142
  a105 := Tryz.isAgg142
  z105 := Tryz.sizeOf142
  v105 := Tryz.zeroValue142
  t116 := Tryz.underlying115
  a116 := Tryz.isAgg115
  z116 := Tryz.sizeOf115
  t117 := Tryz.underlying116
  a117 := Tryz.isAgg116
  z117 := Tryz.sizeOf116
  v117 := Tryz.zeroValue116
  t119 := Tryz.underlying150
  a119 := Tryz.isAgg150
  z119 := Tryz.sizeOf150
  t124 := Tryz.underlying119
  a124 := Tryz.isAgg119
  z124 := Tryz.sizeOf119
  v124 := Tryz.zeroValue119
  t138 := Tryz.underlying202
  a138 := Tryz.isAgg202
  z138 := Tryz.sizeOf202
  v138 := Tryz.zeroValue202
  t139 := Tryz.underlying203
  a139 := Tryz.isAgg203
  z139 := Tryz.sizeOf203
  v139 := Tryz.zeroValue203
  g3 := by kernel_rfl
  g4 := by kernel_rfl }
def Tryz.laysM171_ren : Go.Shelf.Ren := ⟨fun | 171 => 42 | 243 => 80 | 246 => 107 | 283 => 128 | 284 => 129 | 285 => 130 | 286 => 131 | 129 => 147 | 317 => 146 | 318 => 148 | 319 => 149 | 320 => 150 | 337 => 156 | 338 => 157 | n => n, fun | 3 => 3 | 9 => 9 | 2 => 2 | 4 => 4 | 171 => 191 | 0 => 0 | 53 => 192 | 37 => 87 | 5 => 5 | 173 => 195 | 212 => 224 | 51 => 157 | 20 => 20 | 213 => 225 | 46 => 179 | 232 => 241 | 233 => 242 | n => n, fun | 17 => 8 | 18 => 9 | 19 => 10 | n => n⟩
theorem Tryz.laysM171 : Go.Proofs.LaysM.n171 Tryz.prog Tryz.laysM171_ren := {
  mixed := by kernel_rfl
  f129 := Tryz.func147.trans (congrArg some (by kernel_rfl))
  f171 := Tryz.func42.trans (congrArg some (by kernel_rfl))
  f243 := Tryz.func80.trans (congrArg some (by kernel_rfl))
  f246 := Tryz.func107.trans (congrArg some (by kernel_rfl))
  f283 := Tryz.func128.trans (congrArg some (by kernel_rfl))
  f284 := Tryz.func129.trans (congrArg some (by kernel_rfl))
  f285 := Tryz.func130.trans (congrArg some (by kernel_rfl))
  f286 := Tryz.func131.trans (congrArg some (by kernel_rfl))
  f317 := Tryz.func146.trans (congrArg some (by kernel_rfl))
  f318 := Tryz.func148.trans (congrArg some (by kernel_rfl))
  f319 := Tryz.func149.trans (congrArg some (by kernel_rfl))
  f320 := Tryz.func150.trans (congrArg some (by kernel_rfl))
  f337 := Tryz.func156.trans (congrArg some (by kernel_rfl))
  f338 := Tryz.func157.trans (congrArg some (by kernel_rfl))
  t0 := Tryz.underlying0
  a0 := Tryz.isAgg0
  z0 := Tryz.sizeOf0
  v0 := Tryz.zeroValue0
  t2 := Tryz.underlying2
  a2 := Tryz.isAgg2
  z2 := Tryz.sizeOf2
  v2 := Tryz.zeroValue2
  t3 := Tryz.underlying3
  a3 := Tryz.isAgg3
  z3 := Tryz.sizeOf3
  v3 := Tryz.zeroValue3
  t4 := Tryz.underlying4
  a4 := Tryz.isAgg4
  z4 := Tryz.sizeOf4
  v4 := Tryz.zeroValue4
  t5 := Tryz.underlying5
  a5 := Tryz.isAgg5
  z5 := Tryz.sizeOf5
  v5 := Tryz.zeroValue5
  t9 := Tryz.underlying9
  a9 := Tryz.isAgg9
  z9 := Tryz.sizeOf9
  v9 := Tryz.zeroValue9
  t20 := Tryz.underlying20
  a20 := Tryz.isAgg20
  z20 := Tryz.sizeOf20
  v20 := Tryz.zeroValue20
  t37 := Tryz.underlying87
  a37 := Tryz.isAgg87
  z37 := Tryz.sizeOf87
  v37 := Tryz.zeroValue87
  t46 := Tryz.underlying179
  a46 := Tryz.isAgg179
  z46 := Tryz.sizeOf179
  v46 := Tryz.zeroValue179
  t51 := Tryz.underlying157
  a51 := Tryz.isAgg157
  z51 := Tryz.sizeOf157
  v51 := Tryz.zeroValue157
  t53 := Tryz.underlying192
  a53 := Tryz.isAgg192
  z53 := Tryz.sizeOf192
  v53 := Tryz.zeroValue192
  t171 := Tryz.underlying191
  a171 := Tryz.isAgg191
  z171 := Tryz.sizeOf191
  v171 := Tryz.zeroValue191
  t173 := Tryz.underlying195
  a173 := Tryz.isAgg195
  z173 := Tryz.sizeOf195
  v173 := Tryz.zeroValue195
  t212 := Tryz.underlying224
  a212 := Tryz.isAgg224
  z212 := Tryz.sizeOf224
  v212 := Tryz.zeroValue224
  t213 := Tryz.underlying225
  a213 := Tryz.isAgg225
  z213 := Tryz.sizeOf225
  t232 := Tryz.underlying241
  a232 := Tryz.isAgg241
  z232 := Tryz.sizeOf241
  v232 := Tryz.zeroValue241
  t233 := Tryz.underlying242
  a233 := Tryz.isAgg242
  z233 := Tryz.sizeOf242
  v233 := Tryz.zeroValue242
  g17 := by kernel_rfl
  g18 := by kernel_rfl
  g19 := by kernel_rfl
  i0 := by kernel_rfl
  i2 := by kernel_rfl
  i3 := by kernel_rfl
  i4 := by kernel_rfl
  i5 := by kernel_rfl
  i9 := by kernel_rfl
  i20 := by kernel_rfl
  i37 := by kernel_rfl
  i46 := by kernel_rfl
  i51 := by kernel_rfl
  i53 := by kernel_rfl
  i171 := by kernel_rfl
  i173 := by kernel_rfl
  i212 := by kernel_rfl
  i232 := by kernel_rfl
  i233 := by kernel_rfl
  m17 := by kernel_rfl
  m18 := by kernel_rfl
  m19 := by kernel_rfl }
open Go.RowKit Go.Sort Go.Lib in
theorem Tryz.strconv_Itoa (n : Int) (h0 : -9223372036854775808 ≤ n) (h1 : n ≤ 9223372036854775807) (w : World) (htab : Lib.TabIs Tryz.prog w "internal/strconv.uint64pow10" .u64 Lib.pow10Tab) :
    Calls Tryz.prog 42 #[.int .i64 n] w fun e w' => e = .returned (.string ⟨(Lib.itoa n).toArray⟩) ∧ ∃ k os, w' = grow (w.drewN k) os := Any.strconv_Itoa Tryz.laysM171 n h0 h1 w htab
def Tryz.laysC172_ren : Go.Shelf.Ren := ⟨fun | 172 => 76 | 244 => 102 | 245 => 103 | 247 => 122 | 279 => 123 | 280 => 124 | 281 => 125 | 282 => 126 | 287 => 141 | 316 => 142 | 171 => 42 | 205 => 143 | 321 => 154 | 322 => 155 | 243 => 80 | 246 => 107 | 283 => 128 | 284 => 129 | 285 => 130 | 286 => 131 | 129 => 147 | 317 => 146 | 318 => 148 | 319 => 149 | 320 => 150 | 337 => 156 | 338 => 157 | n => n, fun | 9 => 9 | 3 => 3 | 75 => 91 | 76 => 92 | 4 => 4 | 5 => 5 | 167 => 180 | 37 => 87 | 0 => 0 | 85 => 181 | 2 => 2 | 168 => 183 | 53 => 192 | 175 => 206 | 46 => 179 | 210 => 210 | 127 => 123 | 145 => 233 | 143 => 231 | 21 => 21 | 171 => 191 | 173 => 195 | 212 => 224 | 51 => 157 | 20 => 20 | 213 => 225 | 232 => 241 | 233 => 242 | 80 => 95 | n => n, fun | 15 => 6 | 16 => 7 | 17 => 8 | 18 => 9 | 19 => 10 | n => n⟩
theorem Tryz.laysC172 : Go.Proofs.LaysC.n172 Tryz.prog Tryz.laysC172_ren := {
  mixed := by kernel_rfl
  f129 := Tryz.func147.trans (congrArg some (by kernel_rfl))
  f171 := Tryz.func42.trans (congrArg some (by kernel_rfl))
  f172 := Tryz.func76.trans (congrArg some (by kernel_rfl))
  f205 := Tryz.func143.trans (congrArg some (by kernel_rfl))
  f243 := Tryz.func80.trans (congrArg some (by kernel_rfl))
  f244 := Tryz.func102.trans (congrArg some (by kernel_rfl))
  f245 := Tryz.func103.trans (congrArg some (by kernel_rfl))
  f246 := Tryz.func107.trans (congrArg some (by kernel_rfl))
  f247 := Tryz.func122.trans (congrArg some (by kernel_rfl))
  f279 := Tryz.func123.trans (congrArg some (by kernel_rfl))
  f280 := Tryz.func124.trans (congrArg some (by kernel_rfl))
  f281 := Tryz.func125.trans (congrArg some (by kernel_rfl))
  f282 := Tryz.func126.trans (congrArg some (by kernel_rfl))
  f283 := Tryz.func128.trans (congrArg some (by kernel_rfl))
  f284 := Tryz.func129.trans (congrArg some (by kernel_rfl))
  f285 := Tryz.func130.trans (congrArg some (by kernel_rfl))
  f286 := Tryz.func131.trans (congrArg some (by kernel_rfl))
  f287 := Tryz.func141.trans (congrArg some (by kernel_rfl))
  f316 := Tryz.func142.trans (congrArg some (by kernel_rfl))
  f317 := Tryz.func146.trans (congrArg some (by kernel_rfl))
  f318 := Tryz.func148.trans (congrArg some (by kernel_rfl))
  f319 := Tryz.func149.trans (congrArg some (by kernel_rfl))
  f320 := Tryz.func150.trans (congrArg some (by kernel_rfl))
  f321 := Tryz.func154.trans (congrArg some (by kernel_rfl))
  f322 := Tryz.func155.trans (congrArg some (by kernel_rfl))
  f337 := Tryz.func156.trans (congrArg some (by kernel_rfl))
  f338 := Tryz.func157.trans (congrArg some (by kernel_rfl))
  t0 := Tryz.underlying0
  a0 := Tryz.isAgg0
  z0 := Tryz.sizeOf0
  v0 := Tryz.zeroValue0
  t2 := Tryz.underlying2
  a2 := Tryz.isAgg2
  z2 := Tryz.sizeOf2
  v2 := Tryz.zeroValue2
  t3 := Tryz.underlying3
  a3 := Tryz.isAgg3
  z3 := Tryz.sizeOf3
  v3 := Tryz.zeroValue3
  t4 := Tryz.underlying4
  a4 := Tryz.isAgg4
  z4 := Tryz.sizeOf4
  v4 := Tryz.zeroValue4
  t5 := Tryz.underlying5
  a5 := Tryz.isAgg5
  z5 := Tryz.sizeOf5
  v5 := Tryz.zeroValue5
  t9 := Tryz.underlying9
  a9 := Tryz.isAgg9
  z9 := Tryz.sizeOf9
  v9 := Tryz.zeroValue9
  t20 := Tryz.underlying20
  a20 := Tryz.isAgg20
  z20 := Tryz.sizeOf20
  v20 := Tryz.zeroValue20
  t21 := Tryz.underlying21
  a21 := Tryz.isAgg21
  z21 := Tryz.sizeOf21
  v21 := Tryz.zeroValue21
  t37 := Tryz.underlying87
  a37 := Tryz.isAgg87
  z37 := Tryz.sizeOf87
  v37 := Tryz.zeroValue87
  t46 := Tryz.underlying179
  a46 := Tryz.isAgg179
  z46 := Tryz.sizeOf179
  v46 := Tryz.zeroValue179
  t51 := Tryz.underlying157
  a51 := Tryz.isAgg157
  z51 := Tryz.sizeOf157
  v51 := Tryz.zeroValue157
  t53 := Tryz.underlying192
  a53 := Tryz.isAgg192
  z53 := Tryz.sizeOf192
  v53 := Tryz.zeroValue192
  t75 := Tryz.underlying91
  a75 := Tryz.isAgg91
  z75 := Tryz.sizeOf91
  v75 := Tryz.zeroValue91
  t76 := Tryz.underlying92
  a76 := Tryz.isAgg92
  z76 := Tryz.sizeOf92
  v76 := Tryz.zeroValue92
  t85 := Tryz.underlying181
  a85 := Tryz.isAgg181
  z85 := Tryz.sizeOf181
  v85 := Tryz.zeroValue181
  t127 := Tryz.underlying123
  a127 := Tryz.isAgg123
  z127 := Tryz.sizeOf123
  v127 := Tryz.zeroValue123
  t143 := Tryz.underlying231
  a143 := Tryz.isAgg231
  z143 := Tryz.sizeOf231
  v143 := Tryz.zeroValue231
  t145 := Tryz.underlying233
  a145 := Tryz.isAgg233
  z145 := Tryz.sizeOf233
  v145 := Tryz.zeroValue233
  t167 := Tryz.underlying180
  a167 := Tryz.isAgg180
  z167 := Tryz.sizeOf180
  v167 := Tryz.zeroValue180
  t168 := Tryz.underlying183
  a168 := Tryz.isAgg183
  z168 := Tryz.sizeOf183
  v168 := Tryz.zeroValue183
  t171 := Tryz.underlying191
  a171 := Tryz.isAgg191
  z171 := Tryz.sizeOf191
  v171 := Tryz.zeroValue191
  t173 := Tryz.underlying195
  a173 := Tryz.isAgg195
  z173 := Tryz.sizeOf195
  v173 := Tryz.zeroValue195
  t175 := Tryz.underlying206
  a175 := Tryz.isAgg206
  z175 := Tryz.sizeOf206
  v175 := Tryz.zeroValue206
  t210 := Tryz.underlying210
  a210 := Tryz.isAgg210
  z210 := Tryz.sizeOf210
  v210 := Tryz.zeroValue210
  t212 := Tryz.underlying224
  a212 := Tryz.isAgg224
  z212 := Tryz.sizeOf224
  v212 := Tryz.zeroValue224
  t213 := Tryz.underlying225
  a213 := Tryz.isAgg225
  z213 := Tryz.sizeOf225
  t232 := Tryz.underlying241
  a232 := Tryz.isAgg241
  z232 := Tryz.sizeOf241
  v232 := Tryz.zeroValue241
  t233 := Tryz.underlying242
  a233 := Tryz.isAgg242
  z233 := Tryz.sizeOf242
  v233 := Tryz.zeroValue242
  g15 := by kernel_rfl
  g16 := by kernel_rfl
  g17 := by kernel_rfl
  g18 := by kernel_rfl
  g19 := by kernel_rfl
  t80 := Tryz.underlying95
  a80 := Tryz.isAgg95
  z80 := Tryz.sizeOf95
  v80 := Tryz.zeroValue95
  i0 := by kernel_rfl
  i2 := by kernel_rfl
  i3 := by kernel_rfl
  i4 := by kernel_rfl
  i5 := by kernel_rfl
  i9 := by kernel_rfl
  i20 := by kernel_rfl
  i21 := by kernel_rfl
  i37 := by kernel_rfl
  i46 := by kernel_rfl
  i51 := by kernel_rfl
  i53 := by kernel_rfl
  i75 := by kernel_rfl
  i76 := by kernel_rfl
  i80 := by kernel_rfl
  i85 := by kernel_rfl
  i127 := by kernel_rfl
  i143 := by kernel_rfl
  i145 := by kernel_rfl
  i167 := by kernel_rfl
  i168 := by kernel_rfl
  i171 := by kernel_rfl
  i173 := by kernel_rfl
  i175 := by kernel_rfl
  i210 := by kernel_rfl
  i212 := by kernel_rfl
  i232 := by kernel_rfl
  i233 := by kernel_rfl
  m15 := by kernel_rfl
  m16 := by kernel_rfl
  m17 := by kernel_rfl
  m18 := by kernel_rfl
  m19 := by kernel_rfl
  c0 := by kernel_rfl
  c2 := by kernel_rfl
  c3 := by kernel_rfl
  c4 := by kernel_rfl
  c5 := by kernel_rfl
  c9 := by kernel_rfl
  c20 := by kernel_rfl
  c21 := by kernel_rfl
  c37 := by kernel_rfl
  c46 := by kernel_rfl
  c51 := by kernel_rfl
  c53 := by kernel_rfl
  c75 := by kernel_rfl
  c76 := by kernel_rfl
  c80 := by kernel_rfl
  c85 := by kernel_rfl
  c127 := by kernel_rfl
  c143 := by kernel_rfl
  c145 := by kernel_rfl
  c167 := by kernel_rfl
  c168 := by kernel_rfl
  c171 := by kernel_rfl
  c173 := by kernel_rfl
  c175 := by kernel_rfl
  c210 := by kernel_rfl
  c212 := by kernel_rfl
  c213 := by kernel_rfl
  c232 := by kernel_rfl
  c233 := by kernel_rfl }
open Go.RowKit in
theorem Tryz.strconv_Atoi_ok (s : ByteArray) (hmax : s.size ≤ 9223372036854775806) (v : Int) (h : Lib.atoiAll s.data.toList = .ok v) (w : World) :
    Calls Tryz.prog 76 #[.string s] w fun e w' => e = .returned (.tuple #[.int .i64 v, .nilIface]) ∧ (w' = w ∨ ∃ t, w' = Lib.bytesWorld w 5 t) := Any.strconv_Atoi_ok Tryz.laysC172 s hmax v h w
open Go.RowKit in
theorem Tryz.strconv_Atoi_syntax_var (s : ByteArray) (hlim : s.size ≤ 281474976710656) (h : Lib.atoiAll s.data.toList = Lib.atoiAll []) (tp : TypeId) (p : Value) (w : World) (hvar : w.var? Tryz.prog "strconv.ErrSyntax" = some #[.iface tp p]) :
    Calls Tryz.prog 76 #[.string s] w fun e w' => ∃ N, e = .returned (.tuple #[.int .i64 0, .iface 183 (.pointer (some ⟨N, 0, none⟩))]) ∧ w.heap.size ≤ N ∧ w'.heap[N]? = some (.cells #[.string ⟨#[65, 116, 111, 105]⟩, .string s, .iface tp p] 210 (0, 0)) ∧ Below w.heap.size w w' := Any.strconv_Atoi_syntax_var Tryz.laysC172 s hlim h tp p w hvar
open Go.RowKit in
theorem Tryz.strconv_Atoi_range_var (s : ByteArray) (hlim : s.size ≤ 281474976710656) (h : Lib.atoiAll s.data.toList = .range) (tp : TypeId) (p : Value) (w : World) (hvar : w.var? Tryz.prog "strconv.ErrRange" = some #[.iface tp p]) :
    Calls Tryz.prog 76 #[.string s] w fun e w' => ∃ N, e = .returned (.tuple #[.int .i64 (Lib.atoiSat s.data.toList), .iface 183 (.pointer (some ⟨N, 0, none⟩))]) ∧ w.heap.size ≤ N ∧ w'.heap[N]? = some (.cells #[.string ⟨#[65, 116, 111, 105]⟩, .string s, .iface tp p] 210 (0, 0)) ∧ Below w.heap.size w w' := Any.strconv_Atoi_range_var Tryz.laysC172 s hlim h tp p w hvar
def Tryz.lays145_ren : Go.Shelf.Ren := ⟨fun | 145 => 38 | 220 => 74 | 219 => 101 | 217 => 118 | 225 => 119 | 224 => 120 | 267 => 121 | 266 => 139 | 314 => 140 | n => n, fun | 9 => 9 | 4 => 4 | 59 => 96 | 3 => 3 | 5 => 5 | 46 => 179 | 146 => 204 | 51 => 157 | n => n, fun | 1 => 2 | n => n⟩
theorem Tryz.lays145 : Go.Proofs.Lays.n145 Tryz.prog Tryz.lays145_ren := {
  mixed := by kernel_rfl
  f145 := Tryz.func38.trans (congrArg some (by kernel_rfl))
  f217 := Tryz.func118.trans (congrArg some (by kernel_rfl))
  f219 := Tryz.func101.trans (congrArg some (by kernel_rfl))
  f220 := Tryz.func74.trans (congrArg some (by kernel_rfl))
  f224 := Tryz.func120.trans (congrArg some (by kernel_rfl))
  f225 := Tryz.func119.trans (congrArg some (by kernel_rfl))
  f266 := Tryz.func139.trans (congrArg some (by kernel_rfl))
  f267 := Tryz.func121.trans (congrArg some (by kernel_rfl))
  f314 := Tryz.func140.trans (congrArg some (by kernel_rfl))
  t3 := Tryz.underlying3
  a3 := Tryz.isAgg3
  z3 := Tryz.sizeOf3
  v3 := Tryz.zeroValue3
  t4 := Tryz.underlying4
  a4 := Tryz.isAgg4
  z4 := Tryz.sizeOf4
  v4 := Tryz.zeroValue4
  t5 := Tryz.underlying5
  a5 := Tryz.isAgg5
  z5 := Tryz.sizeOf5
  v5 := Tryz.zeroValue5
  t9 := Tryz.underlying9
  a9 := Tryz.isAgg9
  z9 := Tryz.sizeOf9
  v9 := Tryz.zeroValue9
  t46 := Tryz.underlying179
  a46 := Tryz.isAgg179
  z46 := Tryz.sizeOf179
  v46 := Tryz.zeroValue179
  t51 := Tryz.underlying157
  a51 := Tryz.isAgg157
  z51 := Tryz.sizeOf157
  v51 := Tryz.zeroValue157
  t59 := Tryz.underlying96
  a59 := Tryz.isAgg96
  z59 := Tryz.sizeOf96
  v59 := Tryz.zeroValue96
  t146 := Tryz.underlying204
  a146 := Tryz.isAgg204
  z146 := Tryz.sizeOf204
  v146 := Tryz.zeroValue204
  g1 := by kernel_rfl }
open Go.RowKit Go.Lib in
theorem Tryz.strings_Cut (s sep : ByteArray) (m : Int) (w : World) (hs : s.size < 4294967281) (hm : w.cell? ⟨2, 0, none⟩ = some (.int .i64 m)) :
    Calls Tryz.prog 38 #[.string s, .string sep] w fun e w' => e = .returned (.tuple #[.string ⟨(Lib.cut s.data.toList sep.data.toList).1.toArray⟩, .string ⟨(Lib.cut s.data.toList sep.data.toList).2.1.toArray⟩, .bool (Lib.cut s.data.toList sep.data.toList).2.2]) ∧ ∃ n, w' = w.drewN n := Any.strings_Cut Tryz.lays145 s sep m w hs hm
def Tryz.laysGw17_ren : Go.Shelf.Ren := ⟨fun | 17 => 27 | 15 => 65 | 20 => 99 | n => n, fun | 9 => 9 | 23 => 80 | 4 => 4 | 3 => 3 | 0 => 0 | 21 => 21 | n => n, fun | n => n⟩
theorem Tryz.laysGw17 : Go.Proofs.LaysGw.n17 Tryz.prog Tryz.laysGw17_ren := {
  mixed := by kernel_rfl
  f15 := Tryz.func65.trans (congrArg some (by kernel_rfl))
  f17 := Tryz.func27.trans (congrArg some (by kernel_rfl))
  f20 := Tryz.func99.trans (congrArg some (by kernel_rfl))
  t0 := Tryz.underlying0
  a0 := Tryz.isAgg0
  z0 := Tryz.sizeOf0
  v0 := Tryz.zeroValue0
  i0 := by kernel_rfl
  t3 := Tryz.underlying3
  a3 := Tryz.isAgg3
  z3 := Tryz.sizeOf3
  v3 := Tryz.zeroValue3
  i3 := by kernel_rfl
  t4 := Tryz.underlying4
  a4 := Tryz.isAgg4
  z4 := Tryz.sizeOf4
  v4 := Tryz.zeroValue4
  i4 := by kernel_rfl
  t9 := Tryz.underlying9
  a9 := Tryz.isAgg9
  z9 := Tryz.sizeOf9
  v9 := Tryz.zeroValue9
  i9 := by kernel_rfl
  t21 := Tryz.underlying21
  a21 := Tryz.isAgg21
  z21 := Tryz.sizeOf21
  v21 := Tryz.zeroValue21
  i21 := by kernel_rfl
  t23 := Tryz.underlying80
  a23 := Tryz.isAgg80
  z23 := Tryz.sizeOf80
  v23 := Tryz.zeroValue80
  i23 := by kernel_rfl }
def Tryz.lays99_ren : Go.Shelf.Ren := ⟨fun | 99 => 40 | 206 => 79 | n => n, fun | 9 => 9 | 4 => 4 | 3 => 3 | n => n, fun | n => n⟩
theorem Tryz.lays99 : Go.Proofs.Lays.n99 Tryz.prog Tryz.lays99_ren := {
  mixed := by kernel_rfl
  f99 := Tryz.func40.trans (congrArg some (by kernel_rfl))
  f206 := Tryz.func79.trans (congrArg some (by kernel_rfl))
  t3 := Tryz.underlying3
  a3 := Tryz.isAgg3
  z3 := Tryz.sizeOf3
  v3 := Tryz.zeroValue3
  t4 := Tryz.underlying4
  a4 := Tryz.isAgg4
  z4 := Tryz.sizeOf4
  v4 := Tryz.zeroValue4
  t9 := Tryz.underlying9
  a9 := Tryz.isAgg9
  z9 := Tryz.sizeOf9
  v9 := Tryz.zeroValue9 }
open Go.RowKit Go.Lib in
theorem Tryz.strings_HasPrefix (s p : ByteArray) (w : World) :
    Calls Tryz.prog 40 #[.string s, .string p] w fun e w' => e = .returned (.bool (Lib.hasPrefix s.data.toList p.data.toList)) ∧ w' = w := Any.strings_HasPrefix Tryz.lays99 s p w
def Tryz.lays157_ren : Go.Shelf.Ren := ⟨fun | 157 => 77 | 229 => 104 | 199 => 105 | 261 => 127 | 311 => 144 | 312 => 145 | n => n, fun | 9 => 9 | 31 => 40 | 3 => 3 | 5 => 5 | 4 => 4 | 119 => 150 | 0 => 0 | 40 => 80 | 152 => 186 | 21 => 21 | 154 => 188 | 51 => 157 | 141 => 190 | 196 => 215 | 193 => 212 | 198 => 218 | 49 => 216 | 194 => 213 | 201 => 221 | 226 => 234 | 46 => 179 | 227 => 235 | n => n, fun | 0 => 1 | 6 => 3 | n => n⟩
theorem Tryz.lays157 : Go.Proofs.Lays.n157 Tryz.prog Tryz.lays157_ren := {
  mixed := by kernel_rfl
  f157 := Tryz.func77.trans (congrArg some (by kernel_rfl))
  f199 := Tryz.func105.trans (congrArg some (by kernel_rfl))
  f229 := Tryz.func104.trans (congrArg some (by kernel_rfl))
  f261 := Tryz.func127.trans (congrArg some (by kernel_rfl))
  f311 := Tryz.func144.trans (congrArg some (by kernel_rfl))
  f312 := Tryz.func145.trans (congrArg some (by kernel_rfl))
  t0 := Tryz.underlying0
  a0 := Tryz.isAgg0
  z0 := Tryz.sizeOf0
  v0 := Tryz.zeroValue0
  t3 := Tryz.underlying3
  a3 := Tryz.isAgg3
  z3 := Tryz.sizeOf3
  v3 := Tryz.zeroValue3
  t4 := Tryz.underlying4
  a4 := Tryz.isAgg4
  z4 := Tryz.sizeOf4
  v4 := Tryz.zeroValue4
  t5 := Tryz.underlying5
  a5 := Tryz.isAgg5
  z5 := Tryz.sizeOf5
  v5 := Tryz.zeroValue5
  t9 := Tryz.underlying9
  a9 := Tryz.isAgg9
  z9 := Tryz.sizeOf9
  v9 := Tryz.zeroValue9
  t21 := Tryz.underlying21
  a21 := Tryz.isAgg21
  z21 := Tryz.sizeOf21
  v21 := Tryz.zeroValue21
  t31 := Tryz.underlying40
  a31 := Tryz.isAgg40
  z31 := Tryz.sizeOf40
  v31 := Tryz.zeroValue40
  t40 := Tryz.underlying80
  a40 := Tryz.isAgg80
  z40 := Tryz.sizeOf80
  v40 := Tryz.zeroValue80
  t46 := Tryz.underlying179
  a46 := Tryz.isAgg179
  z46 := Tryz.sizeOf179
  v46 := Tryz.zeroValue179
  t49 := Tryz.underlying216
  a49 := Tryz.isAgg216
  z49 := Tryz.sizeOf216
  v49 := Tryz.zeroValue216
  t51 := Tryz.underlying157
  a51 := Tryz.isAgg157
  z51 := Tryz.sizeOf157
  v51 := Tryz.zeroValue157
  t119 := Tryz.underlying150
  a119 := Tryz.isAgg150
  z119 := Tryz.sizeOf150
  t141 := Tryz.underlying190
  a141 := Tryz.isAgg190
  z141 := Tryz.sizeOf190
  v141 := Tryz.zeroValue190
  t152 := Tryz.underlying186
  a152 := Tryz.isAgg186
  z152 := Tryz.sizeOf186
  v152 := Tryz.zeroValue186
  t154 := Tryz.underlying188
  a154 := Tryz.isAgg188
  z154 := Tryz.sizeOf188
  v154 := Tryz.zeroValue188
  t193 := Tryz.underlying212
  a193 := Tryz.isAgg212
  z193 := Tryz.sizeOf212
  v193 := Tryz.zeroValue212
  t194 := Tryz.underlying213
  a194 := Tryz.isAgg213
  z194 := Tryz.sizeOf213
  v194 := Tryz.zeroValue213
  t196 := Tryz.underlying215
  a196 := Tryz.isAgg215
  z196 := Tryz.sizeOf215
  v196 := Tryz.zeroValue215
  t198 := Tryz.underlying218
  a198 := Tryz.isAgg218
  z198 := Tryz.sizeOf218
  v198 := Tryz.zeroValue218
  t201 := Tryz.underlying221
  a201 := Tryz.isAgg221
  z201 := Tryz.sizeOf221
  v201 := Tryz.zeroValue221
  t226 := Tryz.underlying234
  a226 := Tryz.isAgg234
  z226 := Tryz.sizeOf234
  v226 := Tryz.zeroValue234
  t227 := Tryz.underlying235
  a227 := Tryz.isAgg235
  z227 := Tryz.sizeOf235
  v227 := Tryz.zeroValue235
  g0 := by kernel_rfl
  g6 := by kernel_rfl }
def Tryz.lays155_ren : Go.Shelf.Ren := ⟨fun | 155 => 52 | 154 => 89 | 138 => 113 | 165 => 84 | 143 => 114 | 166 => 34 | 197 => 96 | 169 => 36 | 195 => 135 | 218 => 136 | 240 => 71 | 241 => 109 | 219 => 101 | 260 => 115 | 276 => 100 | 277 => 132 | 217 => 118 | 225 => 119 | 224 => 120 | 267 => 121 | 266 => 139 | 314 => 140 | n => n, fun | 9 => 9 | 3 => 3 | 4 => 4 | 72 => 89 | 0 => 0 | 76 => 92 | 105 => 142 | 21 => 21 | 5 => 5 | 70 => 86 | 20 => 20 | 37 => 87 | 75 => 91 | 127 => 123 | 164 => 146 | 46 => 179 | 119 => 150 | 139 => 203 | 138 => 202 | 146 => 204 | 51 => 157 | 80 => 95 | n => n, fun | 1 => 2 | 3 => 4 | 4 => 5 | n => n⟩
theorem Tryz.lays155 : Go.Proofs.Lays.n155 Tryz.prog Tryz.lays155_ren := {
  mixed := by kernel_rfl
  f138 := Tryz.func113.trans (congrArg some (by kernel_rfl))
  f143 := Tryz.func114.trans (congrArg some (by kernel_rfl))
  f154 := Tryz.func89.trans (congrArg some (by kernel_rfl))
  f155 := Tryz.func52.trans (congrArg some (by kernel_rfl))
  f165 := Tryz.func84.trans (congrArg some (by kernel_rfl))
  f166 := Tryz.func34.trans (congrArg some (by kernel_rfl))
  f169 := Tryz.func36.trans (congrArg some (by kernel_rfl))
  f195 := Tryz.func135.trans (congrArg some (by kernel_rfl))
  f197 := Tryz.func96.trans (congrArg some (by kernel_rfl))
  f217 := Tryz.func118.trans (congrArg some (by kernel_rfl))
  f218 := Tryz.func136.trans (congrArg some (by kernel_rfl))
  f219 := Tryz.func101.trans (congrArg some (by kernel_rfl))
  f224 := Tryz.func120.trans (congrArg some (by kernel_rfl))
  f225 := Tryz.func119.trans (congrArg some (by kernel_rfl))
  f240 := Tryz.func71.trans (congrArg some (by kernel_rfl))
  f241 := Tryz.func109.trans (congrArg some (by kernel_rfl))
  f260 := Tryz.func115.trans (congrArg some (by kernel_rfl))
  f266 := Tryz.func139.trans (congrArg some (by kernel_rfl))
  f267 := Tryz.func121.trans (congrArg some (by kernel_rfl))
  f276 := Tryz.func100.trans (congrArg some (by kernel_rfl))
  f277 := Tryz.func132.trans (congrArg some (by kernel_rfl))
  f314 := Tryz.func140.trans (congrArg some (by kernel_rfl))
  t0 := Tryz.underlying0
  a0 := Tryz.isAgg0
  z0 := Tryz.sizeOf0
  v0 := Tryz.zeroValue0
  t3 := Tryz.underlying3
  a3 := Tryz.isAgg3
  z3 := Tryz.sizeOf3
  v3 := Tryz.zeroValue3
  t4 := Tryz.underlying4
  a4 := Tryz.isAgg4
  z4 := Tryz.sizeOf4
  v4 := Tryz.zeroValue4
  t5 := Tryz.underlying5
  a5 := Tryz.isAgg5
  z5 := Tryz.sizeOf5
  v5 := Tryz.zeroValue5
  t9 := Tryz.underlying9
  a9 := Tryz.isAgg9
  z9 := Tryz.sizeOf9
  v9 := Tryz.zeroValue9
  t20 := Tryz.underlying20
  a20 := Tryz.isAgg20
  z20 := Tryz.sizeOf20
  v20 := Tryz.zeroValue20
  t21 := Tryz.underlying21
  a21 := Tryz.isAgg21
  z21 := Tryz.sizeOf21
  v21 := Tryz.zeroValue21
  t37 := Tryz.underlying87
  a37 := Tryz.isAgg87
  z37 := Tryz.sizeOf87
  v37 := Tryz.zeroValue87
  t46 := Tryz.underlying179
  a46 := Tryz.isAgg179
  z46 := Tryz.sizeOf179
  v46 := Tryz.zeroValue179
  t51 := Tryz.underlying157
  a51 := Tryz.isAgg157
  z51 := Tryz.sizeOf157
  v51 := Tryz.zeroValue157
  t70 := Tryz.underlying86
  a70 := Tryz.isAgg86
  z70 := Tryz.sizeOf86
  v70 := Tryz.zeroValue86
  t72 := Tryz.underlying89
  a72 := Tryz.isAgg89
  z72 := Tryz.sizeOf89
  v72 := Tryz.zeroValue89
  t75 := Tryz.underlying91
  a75 := Tryz.isAgg91
  z75 := Tryz.sizeOf91
  v75 := Tryz.zeroValue91
  t76 := Tryz.underlying92
  a76 := Tryz.isAgg92
  z76 := Tryz.sizeOf92
  v76 := Tryz.zeroValue92
  t105 := Tryz.underlying142
  a105 := Tryz.isAgg142
  z105 := Tryz.sizeOf142
  v105 := Tryz.zeroValue142
  t119 := Tryz.underlying150
  a119 := Tryz.isAgg150
  z119 := Tryz.sizeOf150
  t127 := Tryz.underlying123
  a127 := Tryz.isAgg123
  z127 := Tryz.sizeOf123
  v127 := Tryz.zeroValue123
  t138 := Tryz.underlying202
  a138 := Tryz.isAgg202
  z138 := Tryz.sizeOf202
  v138 := Tryz.zeroValue202
  t139 := Tryz.underlying203
  a139 := Tryz.isAgg203
  z139 := Tryz.sizeOf203
  v139 := Tryz.zeroValue203
  t146 := Tryz.underlying204
  a146 := Tryz.isAgg204
  z146 := Tryz.sizeOf204
  v146 := Tryz.zeroValue204
  t164 := Tryz.underlying146
  a164 := Tryz.isAgg146
  z164 := Tryz.sizeOf146
  v164 := Tryz.zeroValue146
  g1 := by kernel_rfl
  g3 := by kernel_rfl
  g4 := by kernel_rfl }
theorem Tryz.Builder_Extra_155 : Builder.Extra Tryz.prog Tryz.lays155_ren := {
  sizeBuilder := by kernel_rfl
  liesBuilder := by kernel_rfl
  t5 := Tryz.underlying5
  a5 := Tryz.isAgg5
  z5 := Tryz.sizeOf5
  v5 := Tryz.zeroValue5
  infoByte := by kernel_rfl
  cellsByte := by kernel_rfl
  sizeByte := by kernel_rfl
  neB5 := by decide }
open Go.RowKit Go.Lib in
theorem Tryz.strings_ReplaceAll (s old new : ByteArray) (m : Int) (w : World) (hs : s.size < 4294967281) (hm : w.cell? ⟨2, 0, none⟩ = some (.int .i64 m)) (h1 : 1 ≤ old.size) (hlen : s.size + Lib.countB s old * new.size ≤ 140737488355328) :
    Calls Tryz.prog 52 #[.string s, .string old, .string new] w fun e w' =>
      e = .returned (.string ⟨(Lib.replaceAll s.data.toList old.data.toList new.data.toList).toArray⟩) ∧ Below w.heap.size w w' := Any.strings_ReplaceAll Tryz.lays155 Tryz.Builder_Extra_155 s old new m w hs hm h1 hlen
def Tryz.lays199_ren : Go.Shelf.Ren := ⟨fun | 199 => 105 | 261 => 127 | 311 => 144 | 312 => 145 | n => n, fun | 21 => 21 | 4 => 4 | 51 => 157 | 141 => 190 | 0 => 0 | 196 => 215 | 193 => 212 | 3 => 3 | 198 => 218 | 49 => 216 | 194 => 213 | 201 => 221 | 226 => 234 | 46 => 179 | 227 => 235 | n => n, fun | 6 => 3 | n => n⟩
theorem Tryz.lays199 : Go.Proofs.Lays.n199 Tryz.prog Tryz.lays199_ren := {
  mixed := by kernel_rfl
  f199 := Tryz.func105.trans (congrArg some (by kernel_rfl))
  f261 := Tryz.func127.trans (congrArg some (by kernel_rfl))
  f311 := Tryz.func144.trans (congrArg some (by kernel_rfl))
  f312 := Tryz.func145.trans (congrArg some (by kernel_rfl))
  t0 := Tryz.underlying0
  a0 := Tryz.isAgg0
  z0 := Tryz.sizeOf0
  v0 := Tryz.zeroValue0
  t3 := Tryz.underlying3
  a3 := Tryz.isAgg3
  z3 := Tryz.sizeOf3
  v3 := Tryz.zeroValue3
  t4 := Tryz.underlying4
  a4 := Tryz.isAgg4
  z4 := Tryz.sizeOf4
  v4 := Tryz.zeroValue4
  t21 := Tryz.underlying21
  a21 := Tryz.isAgg21
  z21 := Tryz.sizeOf21
  v21 := Tryz.zeroValue21
  t46 := Tryz.underlying179
  a46 := Tryz.isAgg179
  z46 := Tryz.sizeOf179
  v46 := Tryz.zeroValue179
  t49 := Tryz.underlying216
  a49 := Tryz.isAgg216
  z49 := Tryz.sizeOf216
  v49 := Tryz.zeroValue216
  t51 := Tryz.underlying157
  a51 := Tryz.isAgg157
  z51 := Tryz.sizeOf157
  v51 := Tryz.zeroValue157
  t141 := Tryz.underlying190
  a141 := Tryz.isAgg190
  z141 := Tryz.sizeOf190
  v141 := Tryz.zeroValue190
  t193 := Tryz.underlying212
  a193 := Tryz.isAgg212
  z193 := Tryz.sizeOf212
  v193 := Tryz.zeroValue212
  t194 := Tryz.underlying213
  a194 := Tryz.isAgg213
  z194 := Tryz.sizeOf213
  v194 := Tryz.zeroValue213
  t196 := Tryz.underlying215
  a196 := Tryz.isAgg215
  z196 := Tryz.sizeOf215
  v196 := Tryz.zeroValue215
  t198 := Tryz.underlying218
  a198 := Tryz.isAgg218
  z198 := Tryz.sizeOf218
  v198 := Tryz.zeroValue218
  t201 := Tryz.underlying221
  a201 := Tryz.isAgg221
  z201 := Tryz.sizeOf221
  v201 := Tryz.zeroValue221
  t226 := Tryz.underlying234
  a226 := Tryz.isAgg234
  z226 := Tryz.sizeOf234
  v226 := Tryz.zeroValue234
  t227 := Tryz.underlying235
  a227 := Tryz.isAgg235
  z227 := Tryz.sizeOf235
  v227 := Tryz.zeroValue235
  g6 := by kernel_rfl }
open Go.RowKit Go.Lib in
theorem Tryz.strings_Fields_any (s : ByteArray) (w : World) (hs : s.size < 4294967281) (htab : Lib.TabIs Tryz.prog w "strings.asciiSpace" .u8 Lib.asciiSpaceTab) (hW : Lib.WhiteTab 3 w) :
    Calls Tryz.prog 77 #[.string s] w fun e w' => ∃ A, e = .returned (.slice (some ⟨A, 0, none⟩) (Lib.fieldsD s.data.toList).length (Lib.fieldsD s.data.toList).length) ∧ w.heap.size ≤ A ∧
      w'.ownsRow w.heap.size 9 1 (.slice (some ⟨A, 0, none⟩) (Lib.fieldsD s.data.toList).length (Lib.fieldsD s.data.toList).length) (Lib.fieldsD s.data.toList).length ((Lib.fieldsD s.data.toList).map fun x => Value.string ⟨x.toArray⟩) ∧ Below w.heap.size w w' := Any.strings_Fields_any Tryz.lays157 (by kernel_rfl) (by kernel_rfl) (by kernel_rfl) s w hs htab hW
open Go.RowKit Go.Lib in
theorem Tryz.strings_ContainsFunc_grows (g : Nat) (lb : Array Value) (eg : ∀ args w, (callFunc g args).run Tryz.prog w = .ok (.enter g args) w) (p : Nat → Bool) (s : ByteArray) (w : World) (hp : PredGrows Tryz.prog g lb p w) :
    Calls Tryz.prog 27 #[.string s, .func (.func g) #[] lb] w fun e w' => e = .returned (.bool (decide (0 ≤ Lib.idxFunc p true s))) ∧ Below w.heap.size w w' := Any.strings_ContainsFunc_grows Tryz.laysGw17 g lb eg p s w hp
end Go.Proofs
