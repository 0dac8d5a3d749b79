/-
  DERIVED: THE SHELF's CONTRACTS AT THIS DUMP, IN PLAIN WORDS (tools/lay-plain.mjs out of 'TryzShelf.lean', which tools/lay-shelf.mjs wrote): THE SAME DECLARATIONS UNDER THE SAME NAMES: 'import', 'namespace', 'open', 'def', 'theorem' AND NOTHING ELSE: no command of the shelf's: FOR A HAND-IN. Each laying: the table of numbers ('.._ren') and one theorem, a field a fact of the dump's own or the kernel's comparison; each contract: ONE APPLICATION.
-/
import Derived.Test.YtgeignldbgncbaaGreatDoorKA4
import Derived.Shelf.Strings.Builder1
import Derived.Shelf.Strings.Builder2
import Derived.Shelf.Strings.OnBuilder
import Derived.Shelf.Utf8.RuneCount
import Derived.Shelf.Strconv.Atoi
import Derived.Shelf.Strconv.Itoa0
import Derived.Shelf.Strconv.Itoa1
import Derived.Shelf.LaysM
import Derived.Shelf.Strconv.Itoa2
import Derived.Shelf.Strconv.Itoa3
import Derived.Shelf.Strconv.AtoiErrFast
import Derived.Shelf.Strconv.ParseIntEmpty
import Derived.Shelf.Strconv.AtoiFail
import Derived.Shelf.Strconv.Clone
import Derived.Shelf.Strconv.SyntaxError
import Derived.Shelf.LaysC
import Derived.Shelf.Strconv.ToError
import Derived.Shelf.Strconv.Lower
import Derived.Shelf.Strconv.ParseUint10
import Derived.Shelf.Strconv.ParseUint10Empty
import Derived.Shelf.Strconv.ParseUint10Any
import Derived.Shelf.Strconv.ParseInt10
import Derived.Shelf.Strconv.AtoiLong
import Derived.Shelf.Strconv.AtoiInnerAll
import Derived.Shelf.Strconv.RangeError
import Derived.Shelf.Strconv.ToErrorRange
import Derived.Shelf.Strconv.AtoiAll
import Derived.Shelf.Strconv.ErrVarAll
import Derived.Shelf.Strings.Search1
import Derived.Shelf.Strings.Search2
import Derived.Shelf.Strings.Search3
import Derived.Shelf.Strings.Count
import Derived.Shelf.Strings.Shaped
import Derived.Shelf.Strings.Split
import Derived.Shelf.Strings.SplitShaped
import Derived.Shelf.Unicode.Decode
import Derived.Shelf.Strings.RuneCount
import Derived.Shelf.Strings.Explode
import Derived.Shelf.Unicode.DecodeSlow
import Derived.Shelf.Unicode.DecodeAny
import Derived.Shelf.Strings.FieldsFuncAny
import Derived.Test.YtgeignldbgncbaaGreatDoorProg
import Derived.KernelRfl
import Derived.WalkKit
import Derived.Deep.Draws
import Derived.RowKit3
import Derived.BigQuiet
section
namespace Go.Proofs
open Go.Shelf
def Tryz.lays156_ren : Go.Shelf.Ren := ⟨fun | 156 => 39 | 165 => 60 | 166 => 61 | 169 => 62 | 240 => 94 | 241 => 95 | 276 => 112 | 277 => 113 | n => n, fun | 31 => 23 | 9 => 9 | 3 => 3 | 4 => 4 | 0 => 0 | 20 => 20 | 72 => 112 | 76 => 116 | 70 => 110 | 37 => 91 | 75 => 115 | 127 => 140 | 164 => 149 | 5 => 5 | 80 => 77 | n => n, fun | n => n⟩
theorem Tryz.lays156 : Go.Proofs.Lays.n156 Tryz.prog Tryz.lays156_ren := {
  mixed := by kernel_rfl
  f156 := Tryz.func39.trans (congrArg some (by kernel_rfl))
  f165 := Tryz.func60.trans (congrArg some (by kernel_rfl))
  f166 := Tryz.func61.trans (congrArg some (by kernel_rfl))
  f169 := Tryz.func62.trans (congrArg some (by kernel_rfl))
  f240 := Tryz.func94.trans (congrArg some (by kernel_rfl))
  f241 := Tryz.func95.trans (congrArg some (by kernel_rfl))
  f276 := Tryz.func112.trans (congrArg some (by kernel_rfl))
  f277 := Tryz.func113.trans (congrArg some (by kernel_rfl))
  t0 := Tryz.underlying0
  a0 := Tryz.isAgg0
  z0 := Tryz.sizeOf0
  v0 := Tryz.zeroValue0
  t3 := Tryz.underlying3
  a3 := Tryz.isAgg3
  z3 := Tryz.sizeOf3
  v3 := Tryz.zeroValue3
  t4 := Tryz.underlying4
  a4 := Tryz.isAgg4
  z4 := Tryz.sizeOf4
  v4 := Tryz.zeroValue4
  t9 := Tryz.underlying9
  a9 := Tryz.isAgg9
  z9 := Tryz.sizeOf9
  v9 := Tryz.zeroValue9
  t20 := Tryz.underlying20
  a20 := Tryz.isAgg20
  z20 := Tryz.sizeOf20
  v20 := Tryz.zeroValue20
  t31 := Tryz.underlying23
  a31 := Tryz.isAgg23
  z31 := Tryz.sizeOf23
  v31 := Tryz.zeroValue23
  t37 := Tryz.underlying91
  a37 := Tryz.isAgg91
  z37 := Tryz.sizeOf91
  v37 := Tryz.zeroValue91
  t70 := Tryz.underlying110
  a70 := Tryz.isAgg110
  z70 := Tryz.sizeOf110
  v70 := Tryz.zeroValue110
  t72 := Tryz.underlying112
  a72 := Tryz.isAgg112
  z72 := Tryz.sizeOf112
  v72 := Tryz.zeroValue112
  t75 := Tryz.underlying115
  a75 := Tryz.isAgg115
  z75 := Tryz.sizeOf115
  v75 := Tryz.zeroValue115
  t76 := Tryz.underlying116
  a76 := Tryz.isAgg116
  z76 := Tryz.sizeOf116
  v76 := Tryz.zeroValue116
  t127 := Tryz.underlying140
  a127 := Tryz.isAgg140
  z127 := Tryz.sizeOf140
  v127 := Tryz.zeroValue140
  t164 := Tryz.underlying149
  a164 := Tryz.isAgg149
  z164 := Tryz.sizeOf149
  v164 := Tryz.zeroValue149 }
theorem Tryz.Builder_Extra_156 : Builder.Extra Tryz.prog Tryz.lays156_ren := {
  sizeBuilder := by kernel_rfl
  liesBuilder := by kernel_rfl
  t5 := Tryz.underlying5
  a5 := Tryz.isAgg5
  z5 := Tryz.sizeOf5
  v5 := Tryz.zeroValue5
  infoByte := by kernel_rfl
  cellsByte := by kernel_rfl
  sizeByte := by kernel_rfl
  neB5 := by decide }
open Go.RowKit in
theorem Tryz.strings_Join_none (a : Option Addr) (c : Nat) (sep : ByteArray) (w : World) :
    Calls Tryz.prog 39 #[.slice a 0 c, .string sep] w fun e w' => e = .returned (.string ⟨#[]⟩) ∧ w' = w := Any.strings_Join_none Tryz.lays156 Tryz.Builder_Extra_156 a c sep w
open Go.RowKit in
theorem Tryz.strings_Join (bk o c : Nat) (xs : List ByteArray) (sep : ByteArray) (w : World) (hcells : ∀ (j : Nat) x, xs[j]? = some x → w.cell? ⟨bk, o + j, none⟩ = some (.string x)) (hbk : bk < w.heap.size) (hN : xs.length ≤ 140737488355328) (hcap : xs.length ≤ c) (hlen : (Lib.join (xs.map (·.data.toList)) sep.data.toList).length ≤ 140737488355328) :
    Calls Tryz.prog 39 #[.slice (some ⟨bk, o, none⟩) xs.length c, .string sep] w fun e w' => e = .returned (.string ⟨(Lib.join (xs.map (·.data.toList)) sep.data.toList).toArray⟩) ∧ Below w.heap.size w w' := Any.strings_Join Tryz.lays156 Tryz.Builder_Extra_156 bk o c xs sep w hcells hbk hN hcap hlen
def Tryz.laysM171_ren : Go.Shelf.Ren := ⟨fun | 171 => 66 | 243 => 98 | 246 => 119 | 283 => 135 | 284 => 136 | 285 => 137 | 286 => 138 | 129 => 155 | 317 => 154 | 318 => 156 | 319 => 157 | 320 => 158 | 337 => 166 | 338 => 167 | n => n, fun | 3 => 3 | 9 => 9 | 2 => 2 | 4 => 4 | 171 => 176 | 0 => 0 | 53 => 160 | 37 => 91 | 5 => 5 | 173 => 179 | 212 => 200 | 51 => 192 | 20 => 20 | 213 => 201 | 46 => 170 | 232 => 213 | 233 => 214 | n => n, fun | 17 => 5 | 18 => 6 | 19 => 7 | n => n⟩
theorem Tryz.laysM171 : Go.Proofs.LaysM.n171 Tryz.prog Tryz.laysM171_ren := {
  mixed := by kernel_rfl
  f129 := Tryz.func155.trans (congrArg some (by kernel_rfl))
  f171 := Tryz.func66.trans (congrArg some (by kernel_rfl))
  f243 := Tryz.func98.trans (congrArg some (by kernel_rfl))
  f246 := Tryz.func119.trans (congrArg some (by kernel_rfl))
  f283 := Tryz.func135.trans (congrArg some (by kernel_rfl))
  f284 := Tryz.func136.trans (congrArg some (by kernel_rfl))
  f285 := Tryz.func137.trans (congrArg some (by kernel_rfl))
  f286 := Tryz.func138.trans (congrArg some (by kernel_rfl))
  f317 := Tryz.func154.trans (congrArg some (by kernel_rfl))
  f318 := Tryz.func156.trans (congrArg some (by kernel_rfl))
  f319 := Tryz.func157.trans (congrArg some (by kernel_rfl))
  f320 := Tryz.func158.trans (congrArg some (by kernel_rfl))
  f337 := Tryz.func166.trans (congrArg some (by kernel_rfl))
  f338 := Tryz.func167.trans (congrArg some (by kernel_rfl))
  t0 := Tryz.underlying0
  a0 := Tryz.isAgg0
  z0 := Tryz.sizeOf0
  v0 := Tryz.zeroValue0
  t2 := Tryz.underlying2
  a2 := Tryz.isAgg2
  z2 := Tryz.sizeOf2
  v2 := Tryz.zeroValue2
  t3 := Tryz.underlying3
  a3 := Tryz.isAgg3
  z3 := Tryz.sizeOf3
  v3 := Tryz.zeroValue3
  t4 := Tryz.underlying4
  a4 := Tryz.isAgg4
  z4 := Tryz.sizeOf4
  v4 := Tryz.zeroValue4
  t5 := Tryz.underlying5
  a5 := Tryz.isAgg5
  z5 := Tryz.sizeOf5
  v5 := Tryz.zeroValue5
  t9 := Tryz.underlying9
  a9 := Tryz.isAgg9
  z9 := Tryz.sizeOf9
  v9 := Tryz.zeroValue9
  t20 := Tryz.underlying20
  a20 := Tryz.isAgg20
  z20 := Tryz.sizeOf20
  v20 := Tryz.zeroValue20
  t37 := Tryz.underlying91
  a37 := Tryz.isAgg91
  z37 := Tryz.sizeOf91
  v37 := Tryz.zeroValue91
  t46 := Tryz.underlying170
  a46 := Tryz.isAgg170
  z46 := Tryz.sizeOf170
  v46 := Tryz.zeroValue170
  t51 := Tryz.underlying192
  a51 := Tryz.isAgg192
  z51 := Tryz.sizeOf192
  v51 := Tryz.zeroValue192
  t53 := Tryz.underlying160
  a53 := Tryz.isAgg160
  z53 := Tryz.sizeOf160
  v53 := Tryz.zeroValue160
  t171 := Tryz.underlying176
  a171 := Tryz.isAgg176
  z171 := Tryz.sizeOf176
  v171 := Tryz.zeroValue176
  t173 := Tryz.underlying179
  a173 := Tryz.isAgg179
  z173 := Tryz.sizeOf179
  v173 := Tryz.zeroValue179
  t212 := Tryz.underlying200
  a212 := Tryz.isAgg200
  z212 := Tryz.sizeOf200
  v212 := Tryz.zeroValue200
  t213 := Tryz.underlying201
  a213 := Tryz.isAgg201
  z213 := Tryz.sizeOf201
  t232 := Tryz.underlying213
  a232 := Tryz.isAgg213
  z232 := Tryz.sizeOf213
  v232 := Tryz.zeroValue213
  t233 := Tryz.underlying214
  a233 := Tryz.isAgg214
  z233 := Tryz.sizeOf214
  v233 := Tryz.zeroValue214
  g17 := by kernel_rfl
  g18 := by kernel_rfl
  g19 := by kernel_rfl
  i0 := by kernel_rfl
  i2 := by kernel_rfl
  i3 := by kernel_rfl
  i4 := by kernel_rfl
  i5 := by kernel_rfl
  i9 := by kernel_rfl
  i20 := by kernel_rfl
  i37 := by kernel_rfl
  i46 := by kernel_rfl
  i51 := by kernel_rfl
  i53 := by kernel_rfl
  i171 := by kernel_rfl
  i173 := by kernel_rfl
  i212 := by kernel_rfl
  i232 := by kernel_rfl
  i233 := by kernel_rfl
  m17 := by kernel_rfl
  m18 := by kernel_rfl
  m19 := by kernel_rfl }
open Go.RowKit Go.Sort Go.Lib in
theorem Tryz.strconv_Itoa (n : Int) (h0 : -9223372036854775808 ≤ n) (h1 : n ≤ 9223372036854775807) (w : World) (htab : Lib.TabIs Tryz.prog w "internal/strconv.uint64pow10" .u64 Lib.pow10Tab) :
    Calls Tryz.prog 66 #[.int .i64 n] w fun e w' => e = .returned (.string ⟨(Lib.itoa n).toArray⟩) ∧ ∃ k os, w' = grow (w.drewN k) os := Any.strconv_Itoa Tryz.laysM171 n h0 h1 w htab
def Tryz.laysC172_ren : Go.Shelf.Ren := ⟨fun | 172 => 65 | 244 => 96 | 245 => 97 | 247 => 114 | 279 => 115 | 280 => 116 | 281 => 117 | 282 => 118 | 287 => 132 | 316 => 133 | 171 => 66 | 205 => 134 | 321 => 152 | 322 => 153 | 243 => 98 | 246 => 119 | 283 => 135 | 284 => 136 | 285 => 137 | 286 => 138 | 129 => 155 | 317 => 154 | 318 => 156 | 319 => 157 | 320 => 158 | 337 => 166 | 338 => 167 | n => n, fun | 9 => 9 | 3 => 3 | 75 => 115 | 76 => 116 | 4 => 4 | 5 => 5 | 167 => 152 | 37 => 91 | 0 => 0 | 85 => 153 | 2 => 2 | 168 => 155 | 53 => 160 | 175 => 171 | 46 => 170 | 210 => 174 | 127 => 140 | 145 => 198 | 143 => 196 | 21 => 21 | 171 => 176 | 173 => 179 | 212 => 200 | 51 => 192 | 20 => 20 | 213 => 201 | 232 => 213 | 233 => 214 | 80 => 77 | n => n, fun | 15 => 1 | 16 => 2 | 17 => 5 | 18 => 6 | 19 => 7 | n => n⟩
theorem Tryz.laysC172 : Go.Proofs.LaysC.n172 Tryz.prog Tryz.laysC172_ren := {
  mixed := by kernel_rfl
  f129 := Tryz.func155.trans (congrArg some (by kernel_rfl))
  f171 := Tryz.func66.trans (congrArg some (by kernel_rfl))
  f172 := Tryz.func65.trans (congrArg some (by kernel_rfl))
  f205 := Tryz.func134.trans (congrArg some (by kernel_rfl))
  f243 := Tryz.func98.trans (congrArg some (by kernel_rfl))
  f244 := Tryz.func96.trans (congrArg some (by kernel_rfl))
  f245 := Tryz.func97.trans (congrArg some (by kernel_rfl))
  f246 := Tryz.func119.trans (congrArg some (by kernel_rfl))
  f247 := Tryz.func114.trans (congrArg some (by kernel_rfl))
  f279 := Tryz.func115.trans (congrArg some (by kernel_rfl))
  f280 := Tryz.func116.trans (congrArg some (by kernel_rfl))
  f281 := Tryz.func117.trans (congrArg some (by kernel_rfl))
  f282 := Tryz.func118.trans (congrArg some (by kernel_rfl))
  f283 := Tryz.func135.trans (congrArg some (by kernel_rfl))
  f284 := Tryz.func136.trans (congrArg some (by kernel_rfl))
  f285 := Tryz.func137.trans (congrArg some (by kernel_rfl))
  f286 := Tryz.func138.trans (congrArg some (by kernel_rfl))
  f287 := Tryz.func132.trans (congrArg some (by kernel_rfl))
  f316 := Tryz.func133.trans (congrArg some (by kernel_rfl))
  f317 := Tryz.func154.trans (congrArg some (by kernel_rfl))
  f318 := Tryz.func156.trans (congrArg some (by kernel_rfl))
  f319 := Tryz.func157.trans (congrArg some (by kernel_rfl))
  f320 := Tryz.func158.trans (congrArg some (by kernel_rfl))
  f321 := Tryz.func152.trans (congrArg some (by kernel_rfl))
  f322 := Tryz.func153.trans (congrArg some (by kernel_rfl))
  f337 := Tryz.func166.trans (congrArg some (by kernel_rfl))
  f338 := Tryz.func167.trans (congrArg some (by kernel_rfl))
  t0 := Tryz.underlying0
  a0 := Tryz.isAgg0
  z0 := Tryz.sizeOf0
  v0 := Tryz.zeroValue0
  t2 := Tryz.underlying2
  a2 := Tryz.isAgg2
  z2 := Tryz.sizeOf2
  v2 := Tryz.zeroValue2
  t3 := Tryz.underlying3
  a3 := Tryz.isAgg3
  z3 := Tryz.sizeOf3
  v3 := Tryz.zeroValue3
  t4 := Tryz.underlying4
  a4 := Tryz.isAgg4
  z4 := Tryz.sizeOf4
  v4 := Tryz.zeroValue4
  t5 := Tryz.underlying5
  a5 := Tryz.isAgg5
  z5 := Tryz.sizeOf5
  v5 := Tryz.zeroValue5
  t9 := Tryz.underlying9
  a9 := Tryz.isAgg9
  z9 := Tryz.sizeOf9
  v9 := Tryz.zeroValue9
  t20 := Tryz.underlying20
  a20 := Tryz.isAgg20
  z20 := Tryz.sizeOf20
  v20 := Tryz.zeroValue20
  t21 := Tryz.underlying21
  a21 := Tryz.isAgg21
  z21 := Tryz.sizeOf21
  v21 := Tryz.zeroValue21
  t37 := Tryz.underlying91
  a37 := Tryz.isAgg91
  z37 := Tryz.sizeOf91
  v37 := Tryz.zeroValue91
  t46 := Tryz.underlying170
  a46 := Tryz.isAgg170
  z46 := Tryz.sizeOf170
  v46 := Tryz.zeroValue170
  t51 := Tryz.underlying192
  a51 := Tryz.isAgg192
  z51 := Tryz.sizeOf192
  v51 := Tryz.zeroValue192
  t53 := Tryz.underlying160
  a53 := Tryz.isAgg160
  z53 := Tryz.sizeOf160
  v53 := Tryz.zeroValue160
  t75 := Tryz.underlying115
  a75 := Tryz.isAgg115
  z75 := Tryz.sizeOf115
  v75 := Tryz.zeroValue115
  t76 := Tryz.underlying116
  a76 := Tryz.isAgg116
  z76 := Tryz.sizeOf116
  v76 := Tryz.zeroValue116
  t85 := Tryz.underlying153
  a85 := Tryz.isAgg153
  z85 := Tryz.sizeOf153
  v85 := Tryz.zeroValue153
  t127 := Tryz.underlying140
  a127 := Tryz.isAgg140
  z127 := Tryz.sizeOf140
  v127 := Tryz.zeroValue140
  t143 := Tryz.underlying196
  a143 := Tryz.isAgg196
  z143 := Tryz.sizeOf196
  v143 := Tryz.zeroValue196
  t145 := Tryz.underlying198
  a145 := Tryz.isAgg198
  z145 := Tryz.sizeOf198
  v145 := Tryz.zeroValue198
  t167 := Tryz.underlying152
  a167 := Tryz.isAgg152
  z167 := Tryz.sizeOf152
  v167 := Tryz.zeroValue152
  t168 := Tryz.underlying155
  a168 := Tryz.isAgg155
  z168 := Tryz.sizeOf155
  v168 := Tryz.zeroValue155
  t171 := Tryz.underlying176
  a171 := Tryz.isAgg176
  z171 := Tryz.sizeOf176
  v171 := Tryz.zeroValue176
  t173 := Tryz.underlying179
  a173 := Tryz.isAgg179
  z173 := Tryz.sizeOf179
  v173 := Tryz.zeroValue179
  t175 := Tryz.underlying171
  a175 := Tryz.isAgg171
  z175 := Tryz.sizeOf171
  v175 := Tryz.zeroValue171
  t210 := Tryz.underlying174
  a210 := Tryz.isAgg174
  z210 := Tryz.sizeOf174
  v210 := Tryz.zeroValue174
  t212 := Tryz.underlying200
  a212 := Tryz.isAgg200
  z212 := Tryz.sizeOf200
  v212 := Tryz.zeroValue200
  t213 := Tryz.underlying201
  a213 := Tryz.isAgg201
  z213 := Tryz.sizeOf201
  t232 := Tryz.underlying213
  a232 := Tryz.isAgg213
  z232 := Tryz.sizeOf213
  v232 := Tryz.zeroValue213
  t233 := Tryz.underlying214
  a233 := Tryz.isAgg214
  z233 := Tryz.sizeOf214
  v233 := Tryz.zeroValue214
  g15 := by kernel_rfl
  g16 := by kernel_rfl
  g17 := by kernel_rfl
  g18 := by kernel_rfl
  g19 := by kernel_rfl
  t80 := Tryz.underlying77
  a80 := Tryz.isAgg77
  z80 := Tryz.sizeOf77
  v80 := Tryz.zeroValue77
  i0 := by kernel_rfl
  i2 := by kernel_rfl
  i3 := by kernel_rfl
  i4 := by kernel_rfl
  i5 := by kernel_rfl
  i9 := by kernel_rfl
  i20 := by kernel_rfl
  i21 := by kernel_rfl
  i37 := by kernel_rfl
  i46 := by kernel_rfl
  i51 := by kernel_rfl
  i53 := by kernel_rfl
  i75 := by kernel_rfl
  i76 := by kernel_rfl
  i80 := by kernel_rfl
  i85 := by kernel_rfl
  i127 := by kernel_rfl
  i143 := by kernel_rfl
  i145 := by kernel_rfl
  i167 := by kernel_rfl
  i168 := by kernel_rfl
  i171 := by kernel_rfl
  i173 := by kernel_rfl
  i175 := by kernel_rfl
  i210 := by kernel_rfl
  i212 := by kernel_rfl
  i232 := by kernel_rfl
  i233 := by kernel_rfl
  m15 := by kernel_rfl
  m16 := by kernel_rfl
  m17 := by kernel_rfl
  m18 := by kernel_rfl
  m19 := by kernel_rfl
  c0 := by kernel_rfl
  c2 := by kernel_rfl
  c3 := by kernel_rfl
  c4 := by kernel_rfl
  c5 := by kernel_rfl
  c9 := by kernel_rfl
  c20 := by kernel_rfl
  c21 := by kernel_rfl
  c37 := by kernel_rfl
  c46 := by kernel_rfl
  c51 := by kernel_rfl
  c53 := by kernel_rfl
  c75 := by kernel_rfl
  c76 := by kernel_rfl
  c80 := by kernel_rfl
  c85 := by kernel_rfl
  c127 := by kernel_rfl
  c143 := by kernel_rfl
  c145 := by kernel_rfl
  c167 := by kernel_rfl
  c168 := by kernel_rfl
  c171 := by kernel_rfl
  c173 := by kernel_rfl
  c175 := by kernel_rfl
  c210 := by kernel_rfl
  c212 := by kernel_rfl
  c213 := by kernel_rfl
  c232 := by kernel_rfl
  c233 := by kernel_rfl }
open Go.RowKit in
theorem Tryz.strconv_Atoi_ok (s : ByteArray) (hmax : s.size ≤ 9223372036854775806) (v : Int) (h : Lib.atoiAll s.data.toList = .ok v) (w : World) :
    Calls Tryz.prog 65 #[.string s] w fun e w' => e = .returned (.tuple #[.int .i64 v, .nilIface]) ∧ (w' = w ∨ ∃ t, w' = Lib.bytesWorld w 5 t) := Any.strconv_Atoi_ok Tryz.laysC172 s hmax v h w
open Go.RowKit in
theorem Tryz.strconv_Atoi_syntax (s : ByteArray) (hlim : s.size ≤ 281474976710656) (h : Lib.atoiAll s.data.toList = Lib.atoiAll []) (ev : Value) (w : World) (hv : w.cell? ⟨1, 0, none⟩ = some ev) (hev : ev = .nilIface ∨ ∃ te pe, ev = .iface te pe) :
    Calls Tryz.prog 65 #[.string s] w fun e w' => ∃ N, e = .returned (.tuple #[.int .i64 (0), .iface 155 (.pointer (some ⟨N, 0, none⟩))]) ∧ w.heap.size ≤ N ∧ w'.heap[N]? = some (.cells #[.string ⟨#[65, 116, 111, 105]⟩, .string s, ev] 174 (0, 0)) ∧ Below w.heap.size w w' := Any.strconv_Atoi_syntax Tryz.laysC172 s hlim h ev w hv hev
open Go.RowKit in
theorem Tryz.strconv_Atoi_range (s : ByteArray) (hlim : s.size ≤ 281474976710656) (h : Lib.atoiAll s.data.toList = .range) (ev : Value) (w : World) (hv : w.cell? ⟨2, 0, none⟩ = some ev) (hev : ev = .nilIface ∨ ∃ te pe, ev = .iface te pe) :
    Calls Tryz.prog 65 #[.string s] w fun e w' => ∃ N, e = .returned (.tuple #[.int .i64 (Lib.atoiSat s.data.toList), .iface 155 (.pointer (some ⟨N, 0, none⟩))]) ∧ w.heap.size ≤ N ∧ w'.heap[N]? = some (.cells #[.string ⟨#[65, 116, 111, 105]⟩, .string s, ev] 174 (0, 0)) ∧ Below w.heap.size w w' := Any.strconv_Atoi_range Tryz.laysC172 s hlim h ev w hv hev
def Tryz.lays146_ren : Go.Shelf.Ren := ⟨fun | 146 => 36 | 221 => 53 | 268 => 86 | 138 => 87 | 143 => 88 | 195 => 108 | 197 => 109 | 218 => 110 | 219 => 111 | 260 => 127 | 217 => 128 | 225 => 129 | 224 => 130 | 267 => 131 | 266 => 150 | 314 => 151 | n => n, fun | 9 => 9 | 31 => 23 | 3 => 3 | 4 => 4 | 0 => 0 | 105 => 147 | 21 => 21 | 5 => 5 | 46 => 170 | 119 => 188 | 139 => 191 | 138 => 190 | 146 => 193 | 51 => 192 | n => n, fun | 1 => 0 | 3 => 3 | 4 => 4 | n => n⟩
theorem Tryz.lays146 : Go.Proofs.Lays.n146 Tryz.prog Tryz.lays146_ren := {
  mixed := by kernel_rfl
  f138 := Tryz.func87.trans (congrArg some (by kernel_rfl))
  f143 := Tryz.func88.trans (congrArg some (by kernel_rfl))
  f146 := Tryz.func36.trans (congrArg some (by kernel_rfl))
  f195 := Tryz.func108.trans (congrArg some (by kernel_rfl))
  f197 := Tryz.func109.trans (congrArg some (by kernel_rfl))
  f217 := Tryz.func128.trans (congrArg some (by kernel_rfl))
  f218 := Tryz.func110.trans (congrArg some (by kernel_rfl))
  f219 := Tryz.func111.trans (congrArg some (by kernel_rfl))
  f221 := Tryz.func53.trans (congrArg some (by kernel_rfl))
  f224 := Tryz.func130.trans (congrArg some (by kernel_rfl))
  f225 := Tryz.func129.trans (congrArg some (by kernel_rfl))
  f260 := Tryz.func127.trans (congrArg some (by kernel_rfl))
  f266 := Tryz.func150.trans (congrArg some (by kernel_rfl))
  f267 := Tryz.func131.trans (congrArg some (by kernel_rfl))
  f268 := Tryz.func86.trans (congrArg some (by kernel_rfl))
  f314 := Tryz.func151.trans (congrArg some (by kernel_rfl))
  t0 := Tryz.underlying0
  a0 := Tryz.isAgg0
  z0 := Tryz.sizeOf0
  v0 := Tryz.zeroValue0
  t3 := Tryz.underlying3
  a3 := Tryz.isAgg3
  z3 := Tryz.sizeOf3
  v3 := Tryz.zeroValue3
  t4 := Tryz.underlying4
  a4 := Tryz.isAgg4
  z4 := Tryz.sizeOf4
  v4 := Tryz.zeroValue4
  t5 := Tryz.underlying5
  a5 := Tryz.isAgg5
  z5 := Tryz.sizeOf5
  v5 := Tryz.zeroValue5
  t9 := Tryz.underlying9
  a9 := Tryz.isAgg9
  z9 := Tryz.sizeOf9
  v9 := Tryz.zeroValue9
  t21 := Tryz.underlying21
  a21 := Tryz.isAgg21
  z21 := Tryz.sizeOf21
  v21 := Tryz.zeroValue21
  t31 := Tryz.underlying23
  a31 := Tryz.isAgg23
  z31 := Tryz.sizeOf23
  v31 := Tryz.zeroValue23
  t46 := Tryz.underlying170
  a46 := Tryz.isAgg170
  z46 := Tryz.sizeOf170
  v46 := Tryz.zeroValue170
  t51 := Tryz.underlying192
  a51 := Tryz.isAgg192
  z51 := Tryz.sizeOf192
  v51 := Tryz.zeroValue192
  t105 := Tryz.underlying147
  a105 := Tryz.isAgg147
  z105 := Tryz.sizeOf147
  v105 := Tryz.zeroValue147
  t119 := Tryz.underlying188
  a119 := Tryz.isAgg188
  z119 := Tryz.sizeOf188
  t138 := Tryz.underlying190
  a138 := Tryz.isAgg190
  z138 := Tryz.sizeOf190
  v138 := Tryz.zeroValue190
  t139 := Tryz.underlying191
  a139 := Tryz.isAgg191
  z139 := Tryz.sizeOf191
  v139 := Tryz.zeroValue191
  t146 := Tryz.underlying193
  a146 := Tryz.isAgg193
  z146 := Tryz.sizeOf193
  v146 := Tryz.zeroValue193
  g1 := by kernel_rfl
  g3 := by kernel_rfl
  g4 := by kernel_rfl }
open Go.RowKit Go.Lib in
theorem Tryz.strings_Split (s sep : ByteArray) (m : Int) (w : World) (hs : s.size < 4294967281) (hm : w.cell? ⟨0, 0, none⟩ = some (.int .i64 m)) (h1 : 1 ≤ sep.size) :
    Calls Tryz.prog 36 #[.string s, .string sep] w fun e w' =>
      e = .returned (.slice (some ⟨w.heap.size, 0, none⟩) (Lib.countB s sep + 1) (Lib.countB s sep + 1)) ∧ w' = w.alloc (.cells ((Lib.splitB sep 0 (Lib.countB s sep) s).map Value.string).toArray 9) := Any.strings_Split Tryz.lays146 (by kernel_rfl) s sep m w hs hm h1
def Tryz.lays229_ren : Go.Shelf.Ren := ⟨fun | 229 => 43 | n => n, fun | 9 => 9 | 40 => 93 | 31 => 23 | 152 => 118 | 3 => 3 | 0 => 0 | 4 => 4 | 21 => 21 | 154 => 120 | n => n, fun | n => n⟩
theorem Tryz.lays229 : Go.Proofs.Lays.n229 Tryz.prog Tryz.lays229_ren := {
  mixed := by kernel_rfl
  f229 := Tryz.func43.trans (congrArg some (by kernel_rfl))
  t0 := Tryz.underlying0
  a0 := Tryz.isAgg0
  z0 := Tryz.sizeOf0
  v0 := Tryz.zeroValue0
  t3 := Tryz.underlying3
  a3 := Tryz.isAgg3
  z3 := Tryz.sizeOf3
  v3 := Tryz.zeroValue3
  t4 := Tryz.underlying4
  a4 := Tryz.isAgg4
  z4 := Tryz.sizeOf4
  v4 := Tryz.zeroValue4
  t9 := Tryz.underlying9
  a9 := Tryz.isAgg9
  z9 := Tryz.sizeOf9
  v9 := Tryz.zeroValue9
  t21 := Tryz.underlying21
  a21 := Tryz.isAgg21
  z21 := Tryz.sizeOf21
  v21 := Tryz.zeroValue21
  t31 := Tryz.underlying23
  a31 := Tryz.isAgg23
  z31 := Tryz.sizeOf23
  v31 := Tryz.zeroValue23
  t40 := Tryz.underlying93
  a40 := Tryz.isAgg93
  z40 := Tryz.sizeOf93
  v40 := Tryz.zeroValue93
  t152 := Tryz.underlying118
  a152 := Tryz.isAgg118
  z152 := Tryz.sizeOf118
  v152 := Tryz.zeroValue118
  t154 := Tryz.underlying120
  a154 := Tryz.isAgg120
  z154 := Tryz.sizeOf120
  v154 := Tryz.zeroValue120 }
open Go.RowKit Go.Lib in
theorem Tryz.strings_FieldsFunc_runes (g : Nat) (lb : Array Value) (eg : ∀ args w, (callFunc g args).run Tryz.prog w = .ok (.enter g args) w) (p : Nat → Bool) (s : ByteArray) (w : World) (hs : s.size ≤ 4294967296) (hp : PredAtRunes Tryz.prog g lb p w) :
    Calls Tryz.prog 43 #[.string s, .func (.func g) #[] lb] w fun e w' => ∃ A, e = .returned (.slice (some ⟨A, 0, none⟩) (Lib.goFieldsP p s).length (Lib.goFieldsP p s).length) ∧ w.heap.size ≤ A ∧
      w'.ownsRow w.heap.size 9 1 (.slice (some ⟨A, 0, none⟩) (Lib.goFieldsP p s).length (Lib.goFieldsP p s).length) (Lib.goFieldsP p s).length ((Lib.goFieldsP p s).map Value.string) ∧ Below w.heap.size w w' := Any.strings_FieldsFunc_runes Tryz.lays229 g lb eg p s w hs hp (by kernel_rfl) (by kernel_rfl)
end Go.Proofs
end
/- The library's functions. -/
section
set_option maxRecDepth 1000000
set_option linter.unusedVariables false
set_option linter.unusedSimpArgs false
namespace Go.AM.T
open Go Go.AM Go.Proofs Go.RowKit
def tzT : List Int := [0, 1, 56, 2, 57, 49, 28, 3, 61, 58, 42, 50, 38, 29, 17, 4, 62, 47, 59, 36, 45, 43, 51, 22, 53, 39, 33, 30, 24, 18, 12, 5, 63, 55, 48, 27, 60, 41, 37, 16, 46, 35, 44, 21, 52, 32, 23, 11, 54, 26, 40, 15, 34, 20, 31, 10, 25, 14, 19, 9, 13, 8, 7, 6]
/-- What the library's variables hold. -/
structure Gv (w : World) : Prop where
  tab : ∀ i : Nat, i < 64 → w.cell? ⟨7, i, none⟩ = some (.int .u8 (tzT.getD i 0))
  pow : Lib.TabIs Tryz.prog w "internal/strconv.uint64pow10" .u64 Lib.pow10Tab
  len : ∃ m, w.cell? ⟨0, 0, none⟩ = some (.int .i64 m)
  syn : ∃ ev, w.cell? ⟨1, 0, none⟩ = some ev ∧ (ev = .nilIface ∨ ∃ te pe, ev = .iface te pe)
  rng : ∃ ev, w.cell? ⟨2, 0, none⟩ = some ev ∧ (ev = .nilIface ∨ ∃ te pe, ev = .iface te pe)
abbrev K : Nat := 8
abbrev Gl : World → Prop := Gv
theorem cell_eq {w w' : World} {g : Nat} (h : w'.heap[g]? = w.heap[g]?) (o : Nat) : w'.cell? ⟨g, o, none⟩ = w.cell? ⟨g, o, none⟩ := by simp [World.cell?, h]
theorem cx : Cx Tryz.prog K Gl := ⟨by kernel_rfl, fun w w' h g =>
  ⟨fun i hi => (cell_eq (h 7 (by decide)) i).trans (g.tab i hi), by
    have := g.pow
    unfold Lib.TabIs World.var? at this ⊢
    rw [show Tryz.prog.globalNamed "internal/strconv.uint64pow10" = some 5 by kernel_rfl] at this ⊢
    simp only [Option.bind_some] at this ⊢
    rw [h 5 (by decide)]; exact this,
  g.len.imp fun m e => (cell_eq (h 0 (by decide)) 0).trans e, g.syn.imp fun m e => ⟨(cell_eq (h 1 (by decide)) 0).trans e.1, e.2⟩, g.rng.imp fun m e => ⟨(cell_eq (h 2 (by decide)) 0).trans e.1, e.2⟩⟩⟩
theorem enters {f : Nat} {fn : Func} (hf : Tryz.prog.funcs[f]? = some fn) (hk : (fn.body.isSome && !(fn.name == "runtime.NumGoroutine")) = true) (args : Array Value) (w : World) : (callFunc f args).run Tryz.prog w = .ok (.enter f args) w := by
  simp only [Bool.and_eq_true, Bool.not_eq_true'] at hk
  have h1 : fn.name ≠ "runtime.NumGoroutine" := by simpa using hk.2
  cases hb : fn.body with
  | none => rw [hb] at hk; simp at hk
  | some c => simp [callFunc, hf, h1, hb]
theorem drl1 {M : Wd} {d : D} {vs : List Value} (h : DRL M [d] vs) : ∃ v, vs = [v] ∧ DR M d v := by
  match vs, h with
  | [v], h => exact ⟨v, rfl, h.1⟩
theorem drl2 {M : Wd} {d e : D} {vs : List Value} (h : DRL M [d, e] vs) : ∃ v u, vs = [v, u] ∧ DR M d v ∧ DR M e u := by
  match vs, h with
  | [v, u], h => exact ⟨v, u, rfl, h.1, h.2.1⟩
/-! ### math/bits.TrailingZeros64 -/
def tzI (a : Int) : Int := IntKind.u64.wrap (bits BinOp.and IntKind.u64 a (IntKind.u64.wrap (-a)) * 285870213051353865) / 288230376151711744
theorem tzI_rng (a : Int) : 0 ≤ tzI a ∧ tzI a < 64 := by
  unfold tzI
  generalize bits BinOp.and IntKind.u64 a (IntKind.u64.wrap (-a)) * 285870213051353865 = y
  have h : IntKind.u64.wrap y = y % 18446744073709551616 := IntKind.wrap_u64 y
  omega
theorem tzT_rng : ∀ i : Nat, i < 64 → 0 ≤ tzT.getD i 0 ∧ tzT.getD i 0 < 64 := by decide +kernel
structure Drw (w w' : World) : Prop where mk :: (out : ∃ n, w' = w.drewN n)
theorem Drw.refl (w : World) : Drw w w := ⟨⟨0, rfl⟩⟩
theorem Drw.step {w w' : World} (h : Drw w w') (n : Nat) : Drw w (w'.drewN n) := by
  obtain ⟨m, rfl⟩ := h
  exact ⟨⟨m + n, World.drewN_drewN ..⟩⟩
theorem Drw.below {w w' : World} (h : Drw w w') : Below w.heap.size w w' := by
  obtain ⟨n, rfl⟩ := h
  exact ⟨rfl, rfl, rfl, Nat.le_refl _, fun _ _ => rfl⟩
def l_tz (a : Int) : Option (Int × Unit × Unit) := if a = 0 then some (64, (), ()) else some (tzT.getD (tzI a).toNat 0, (), ())
theorem tz_calls (a0 r : Int) (w : World) (hT : Gv w) (h : (if a0 = 0 then some 64 else some (tzT.getD (tzI a0).toNat 0)) = some r) : Calls Tryz.prog 167 #[.int .u64 a0] w fun e w' => e = .returned (.int .i64 r) ∧ Drw w w' := by
  by_cases h0 : a0 = 0
  · subst h0
    rw [if_pos rfl] at h
    obtain rfl := Option.some.inj h; clear h
    go_enter Tryz.func167, Tryz.ntmps167
    go_wp2
    go_ret
    exact ⟨rfl, by repeat (first | exact Drw.refl _ | apply Drw.step)⟩
  · rw [if_neg h0] at h
    have b0 : (a0 == 0) = false := by simpa using h0
    obtain rfl := Option.some.inj h; clear h
    have hr := tzI_rng a0
    have hc := hT.tab (tzI a0).toNat (by omega)
    have hv := tzT_rng (tzI a0).toNat (by omega)
    generalize tzT.getD (tzI a0).toNat 0 = v at *
    have hw : IntKind.i64.wrap v = v := IntWalk.i64_in _ (by omega)
    have hr1 : (0 ≤ tzI a0 ∧ tzI a0 < 64) = True := eq_true hr
    obtain ⟨hr2, hr3⟩ := hr
    replace hr2 := eq_true hr2
    replace hr3 := eq_true hr3
    unfold tzI at hc hr1 hr2 hr3
    clear hv h0 hT
    go_enter Tryz.func167, Tryz.ntmps167
    go_wp2
    go_ret
    exact ⟨rfl, by repeat (first | exact Drw.refl _ | apply Drw.step)⟩
def l_tz_c (n : Nat) : Cf := ⟨.t (.i .u64) [], .e, [⟨.t (.i .i64) [], .e, .e⟩], fun x => l_tz x.1⟩
theorem l_tz_ok (X : Cx Tryz.prog K Gl) (n : Nat) : FOk Tryz.prog K Gl 167 (l_tz_c n) := fun (x : Int × Unit) (y : Int × Unit × Unit) h => by
  refine acts0 (xs := [.v (.i .u64) x.1 []]) (bs := []) (r := .v (.i .i64) y.1 []) fun w ι vs hG hK hv hbl => ?_
  obtain ⟨v, rfl, hd⟩ := drl1 hv
  obtain ⟨rfl, _⟩ := dr_i hd
  refine ⟨enters Tryz.func167 (by kernel_rfl) _ _, (tz_calls x.1 y.1 w hG ?_).mono fun e w' ⟨he, hb⟩ => ⟨_, he, dri _ _, hb.below⟩⟩
  have h : l_tz x.1 = some y := h
  unfold l_tz at h
  by_cases h0 : x.1 = 0
  · rw [if_pos h0] at h ⊢; rw [← Option.some.inj h]
  · rw [if_neg h0] at h ⊢; rw [← Option.some.inj h]
/-! ### strconv -/
def l_itoa (a : Int) : Option (ByteArray × Unit × Unit) := if -9223372036854775808 ≤ a ∧ a ≤ 9223372036854775807 then some (⟨(Lib.itoa a).toArray⟩, (), ()) else none
def l_itoa_c (n : Nat) : Cf := ⟨.t (.i .i64) [], .e, [⟨.t (.s) [], .e, .e⟩], fun x => l_itoa x.1⟩
theorem grow_below {w : World} {k : Nat} {os : Array Obj} : Below w.heap.size w (Go.Sort.grow (w.drewN k) os) :=
  ⟨rfl, rfl, rfl, by show w.heap.size ≤ (w.heap ++ os).size; simp, fun i hi => by show (w.heap ++ os)[i]? = _; rw [Array.getElem?_append_left hi]⟩
theorem l_itoa_ok (X : Cx Tryz.prog K Gl) (n : Nat) : FOk Tryz.prog K Gl 66 (l_itoa_c n) := fun (x : Int × Unit) (y : ByteArray × Unit × Unit) h => by
  refine acts0 (xs := [.v (.i .i64) x.1 []]) (bs := []) (r := .v .s y.1 []) fun w ι vs hG hK hv hbl => ?_
  obtain ⟨v, rfl, hd⟩ := drl1 hv
  obtain ⟨rfl, _⟩ := dr_i hd
  have h : l_itoa x.1 = some y := h
  unfold l_itoa at h
  by_cases h0 : -9223372036854775808 ≤ x.1 ∧ x.1 ≤ 9223372036854775807
  · rw [if_pos h0] at h
    obtain rfl := Option.some.inj h
    exact ⟨enters Tryz.func66 (by kernel_rfl) _ _, (Tryz.strconv_Itoa x.1 h0.1 h0.2 w hG.pow).mono fun e w' ⟨he, k, os, hw⟩ => ⟨_, he, drs_ _, by rw [hw]; exact grow_below⟩⟩
  · rw [if_neg h0] at h; cases h
def l_atoi (s : ByteArray) : Option (((Int × Unit) × Unit × Unit) ⊕ ((Unit × Unit) × Unit × Unit)) := if s.size ≤ 281474976710656 then (match Lib.atoiAll s.data.toList with | .ok v => some (.inl ((v, ()), (), ())) | _ => some (.inr (((), ()), (), ()))) else none
def l_atoi_c (n : Nat) : Cf := ⟨.t (.s) [], .e, [⟨.tu (.c (.t (.i .i64) []) (.nf)), .e, .e⟩, ⟨.tu (.c (.no) (.fc 155 (.no))), .e, .e⟩], fun x => l_atoi x.1⟩
theorem l_atoi_ok (X : Cx Tryz.prog K Gl) (n : Nat) : FOk Tryz.prog K Gl 65 (l_atoi_c n) := fun (x : ByteArray × Unit) (y : ((Int × Unit) × Unit × Unit) ⊕ ((Unit × Unit) × Unit × Unit)) h => by
  have h : l_atoi x.1 = some y := h
  unfold l_atoi at h
  by_cases h0 : x.1.size ≤ 281474976710656
  case neg => rw [if_neg h0] at h; cases h
  rw [if_pos h0] at h
  have bytes : ∀ (w : World) t, Below w.heap.size w (Lib.bytesWorld w 5 t) := fun w t => Lib.bytesWorld_below w _ t
  cases hq : Lib.atoiAll x.1.data.toList with
  | ok v =>
    rw [hq] at h
    obtain rfl := Option.some.inj h
    refine acts0 (xs := [.v .s x.1 []]) (bs := []) (r := .tup [.v (.i .i64) v [], .nf]) fun w ι vs hG hK hv hbl => ?_
    obtain ⟨u, rfl, hd⟩ := drl1 hv
    obtain ⟨rfl, _⟩ := dr_s hd
    refine ⟨enters Tryz.func65 (by kernel_rfl) _ _, (Tryz.strconv_Atoi_ok x.1 (by omega) v hq w).mono fun e w' ⟨he, hw⟩ => ⟨_, he, ⟨_, rfl, dri _ _, rfl, trivial⟩, ?_⟩⟩
    rcases hw with rfl | ⟨t, rfl⟩
    · exact Below.refl _ _
    · exact bytes w t
  | _ =>
    rw [hq] at h
    obtain rfl := Option.some.inj h
    refine acts0 (xs := [.v .s x.1 []]) (bs := []) (r := .tup [.no, .fc 155 .no]) fun w ι vs hG hK hv hbl => ?_
    obtain ⟨u, rfl, hd⟩ := drl1 hv
    obtain ⟨rfl, _⟩ := dr_s hd
    refine ⟨enters Tryz.func65 (by kernel_rfl) _ _, ?_⟩
    first
      | (obtain ⟨ev, h1, h2⟩ := hG.syn
         exact (Tryz.strconv_Atoi_syntax x.1 h0 hq ev w h1 h2).mono fun e w' ⟨N, he, _, _, hb⟩ => ⟨_, he, ⟨_, rfl, trivial, ⟨_, rfl, trivial⟩, trivial⟩, hb⟩)
      | (obtain ⟨ev, h1, h2⟩ := hG.rng
         exact (Tryz.strconv_Atoi_range x.1 h0 hq ev w h1 h2).mono fun e w' ⟨N, he, _, _, hb⟩ => ⟨_, he, ⟨_, rfl, trivial, ⟨_, rfl, trivial⟩, trivial⟩, hb⟩)
/-! ### strings -/
theorem rowv_s (l : List ByteArray) : rowv Ty.s l = l.map Value.string := by
  induction l with
  | nil => rfl
  | cons y l ih => simp only [rowv, List.flatMap_cons, cs, List.map_cons, List.map_nil, val1] at ih ⊢; rw [ih]; rfl
def l_split (s sep : ByteArray) : Option (Unit × Unit × List ByteArray) := if s.size < 4294967281 ∧ 1 ≤ sep.size then some ((), (), Lib.splitB sep 0 (Lib.countB s sep) s) else none
def l_split_c (n : Nat) : Cf := ⟨.c (.t (.s) []) (.t (.s) []), .e, [⟨.t (.r .s) [.w 0], .e, .w 9 (.s) true⟩], fun x => l_split x.1.1 x.1.2⟩
theorem l_split_ok (X : Cx Tryz.prog K Gl) (n : Nat) : FOk Tryz.prog K Gl 36 (l_split_c n) := fun (x : (ByteArray × ByteArray) × Unit) (y : Unit × Unit × List ByteArray) h => by
  have h : l_split x.1.1 x.1.2 = some y := h
  unfold l_split at h
  by_cases h0 : x.1.1.size < 4294967281 ∧ 1 ≤ x.1.2.size
  case neg => rw [if_neg h0] at h; cases h
  rw [if_pos h0] at h
  obtain rfl := Option.some.inj h
  refine acts1 (xs := [.v .s x.1.1 [], .v .s x.1.2 []]) (bs := []) (ee := 9) (t := .s) (l := Lib.splitB x.1.2 0 (Lib.countB x.1.1 x.1.2) x.1.1) rfl (by decide) (fun _ _ => trivial) fun w ι vs hG hK hv hbl => ?_
  obtain ⟨u, v, rfl, hd1, hd2⟩ := drl2 hv
  obtain ⟨rfl, _⟩ := dr_s hd1
  obtain ⟨rfl, _⟩ := dr_s hd2
  obtain ⟨m, hm⟩ := hG.len
  refine ⟨enters Tryz.func36 (by kernel_rfl) _ _, (Tryz.strings_Split x.1.1 x.1.2 m w h0.1 hm h0.2).mono fun e w' ⟨he, hw⟩ => ⟨_, he, ?_, by rw [hw]; exact (Below.refl _ _).alloc (Nat.le_refl _) _⟩⟩
  have hlen : (Lib.splitB x.1.2 0 (Lib.countB x.1.1 x.1.2) x.1.1).length = Lib.countB x.1.1 x.1.2 + 1 := Lib.splitB_all _ h0.2 _ _ _ rfl
  have hle : Lib.countB x.1.1 x.1.2 ≤ x.1.1.size := Lib.countB_le _ h0.2 _ _ (Nat.le_refl _)
  rw [hw, hlen, rowv_s]
  refine ⟨by simp [Ty.sz, hlen], .inr ⟨w.heap.size, Lib.countB x.1.1 x.1.2 + 1, _, rfl, Nat.le_refl _, heap_alloc_new w _, Nat.le_refl _, by unfold maxLen; omega, by simp [Ty.sz, hlen], ?_⟩⟩
  simp only [Ty.sz, ← hlen, Nat.mul_one]
  exact List.take_of_length_le (by simp)
def l_join (sep : ByteArray) (l : List ByteArray) : Option (ByteArray × List ByteArray × Unit) := if l.length ≤ 140737488355328 ∧ (Lib.join (l.map (·.data.toList)) sep.data.toList).length ≤ 140737488355328 then some (⟨(Lib.join (l.map (·.data.toList)) sep.data.toList).toArray⟩, l, ()) else none
def l_join_c (n : Nat) : Cf := ⟨.c (.t (.r .s) [.w 0]) (.t (.s) []), .w 9 (.s) false, [⟨.t (.s) [], .w 9 (.s) false, .e⟩], fun x => l_join x.1.2 x.2⟩
theorem l_join_ok (X : Cx Tryz.prog K Gl) (n : Nat) : FOk Tryz.prog K Gl 39 (l_join_c n) := fun (x : (Unit × ByteArray) × List ByteArray) (y : ByteArray × List ByteArray × Unit) h => by
  have h : l_join x.1.2 x.2 = some y := h
  unfold l_join at h
  split at h
  case isFalse => cases h
  rename_i h0
  obtain rfl := Option.some.inj h
  refine acts0 (xs := [.v (.r .s) () [.w 0], .v .s x.1.2 []]) (bs := [.w 9 .s x.2 false]) (r := .v .s _ []) fun w ι vs hG hK hv hbl => ?_
  obtain ⟨u, v, rfl, hd1, hd2⟩ := drl2 hv
  obtain ⟨rfl, _⟩ := dr_s hd2
  rcases row_strings (hbl 0) (l := x.2) rfl hd1 with ⟨hl, a, c, rfl⟩ | ⟨g, o, c, rfl, hg, hc, hcell⟩
  · refine ⟨enters Tryz.func39 (by kernel_rfl) _ _, (Tryz.strings_Join_none a c x.1.2 w).mono fun e w' ⟨he, hw⟩ => ⟨_, he, ?_, by rw [hw]; exact Below.refl _ _⟩⟩
    rw [hl]
    exact drs_ _
  · exact ⟨enters Tryz.func39 (by kernel_rfl) _ _, (Tryz.strings_Join g o c x.2 x.1.2 w hcell hg h0.1 hc h0.2).mono fun e w' ⟨he, hw⟩ => ⟨_, he, drs_ _, hw⟩⟩
def blk (x : Nat) : Bool := x == 32 || x == 9 || x == 13
theorem blk_calls (x : Nat) (hx : x ≤ 1114111) (w : World) : Calls Tryz.prog 44 #[.int .i32 x] w fun e w' => e = .returned (.bool (blk x)) ∧ ∃ q, w' = w.drewN q := by
  have key : ∀ b : Bool, blk x = b → Calls Tryz.prog 44 #[.int .i32 x] w fun e w' => e = .returned (.bool b) ∧ Drw w w' := by
    intro b hb
    unfold blk at hb
    by_cases h1 : x = 32
    · subst h1
      obtain rfl : true = b := hb
      go_enter Tryz.func44, Tryz.ntmps44
      go_wp2
      go_ret
      exact ⟨rfl, by repeat (first | exact Drw.refl _ | apply Drw.step)⟩
    · by_cases h2 : x = 9
      · subst h2
        obtain rfl : true = b := hb
        go_enter Tryz.func44, Tryz.ntmps44
        go_wp2
        go_ret
        exact ⟨rfl, by repeat (first | exact Drw.refl _ | apply Drw.step)⟩
      · by_cases h3 : x = 13
        · subst h3
          obtain rfl : true = b := hb
          go_enter Tryz.func44, Tryz.ntmps44
          go_wp2
          go_ret
          exact ⟨rfl, by repeat (first | exact Drw.refl _ | apply Drw.step)⟩
        · have b1 : ((x : Int) == 32) = false := by simp; omega
          have b2 : ((x : Int) == 9) = false := by simp; omega
          have b3 : ((x : Int) == 13) = false := by simp; omega
          obtain rfl : false = b := by rw [← hb]; simp [h1, h2, h3]
          clear hb
          go_enter Tryz.func44, Tryz.ntmps44
          go_wp2
          go_ret
          exact ⟨rfl, by repeat (first | exact Drw.refl _ | apply Drw.step)⟩
  exact (key _ rfl).mono fun e w' ⟨h1, h2⟩ => ⟨h1, h2.out⟩
def l_fields (s : ByteArray) : Option (Unit × Unit × List ByteArray) := if s.size ≤ 4294967296 then some ((), (), Lib.goFieldsP blk s) else none
def l_fields_c (n : Nat) : Cf := ⟨.c (.t (.s) []) (.cl 44 (.e)), .e, [⟨.t (.r .s) [.w 0], .e, .w 9 (.s) true⟩], fun x => l_fields x.1.1⟩
theorem l_fields_ok (X : Cx Tryz.prog K Gl) (n : Nat) : FOk Tryz.prog K Gl 43 (l_fields_c n) := fun (x : (ByteArray × Unit) × Unit) (y : Unit × Unit × List ByteArray) h => by
  have h : l_fields x.1.1 = some y := h
  unfold l_fields at h
  split at h
  case isFalse => cases h
  rename_i h0
  obtain rfl := Option.some.inj h
  refine acts1 (xs := [.v .s x.1.1 [], .clo 44 []]) (bs := []) (ee := 9) (t := .s) (l := Lib.goFieldsP blk x.1.1) rfl (by decide) (fun _ _ => trivial) fun w ι vs hG hK hv hbl => ?_
  obtain ⟨u, v, rfl, hd1, hd2⟩ := drl2 hv
  obtain ⟨rfl, _⟩ := dr_s hd1
  obtain ⟨us, rfl, hus⟩ := hd2
  have hus0 : us = #[] := by
    apply Array.toList_inj.1
    cases hq : us.toList with
    | nil => rfl
    | cons a l => rw [hq] at hus; exact hus.elim
  subst hus0
  refine ⟨enters Tryz.func43 (by kernel_rfl) _ _, (Tryz.strings_FieldsFunc_runes 44 #[] (fun args w => enters Tryz.func44 (by kernel_rfl) _ _) blk x.1.1 w h0 fun W c hc _ => blk_calls c hc W).mono fun e w' ⟨A, he, _, ho, hb⟩ => ⟨_, he, ?_, hb⟩⟩
  rw [rowv_s]
  exact ho
end Go.AM.T
end
