/-
  The library contracts that this claim uses, laid at this program.
-/
import Derived.Shelf.Strings.Builder1
import Derived.Shelf.Strings.Builder2
import Derived.Shelf.Small.Wraps
import Derived.Shelf.Strconv.Atoi
import Derived.Shelf.Strconv.Itoa0
import Derived.Shelf.Strconv.Itoa1
import Derived.Shelf.LaysM
import Derived.Shelf.Strconv.Itoa2
import Derived.Shelf.Strconv.Itoa3
import Derived.Shelf.Strconv.AtoiErrFast
import Derived.Shelf.Strconv.ParseIntEmpty
import Derived.Shelf.Strconv.AtoiFail
import Derived.Shelf.Strconv.Clone
import Derived.Shelf.Strconv.SyntaxError
import Derived.Shelf.LaysC
import Derived.Shelf.Strconv.ToError
import Derived.Shelf.Strconv.Lower
import Derived.Shelf.Strconv.ParseUint10
import Derived.Shelf.Strconv.ParseUint10Empty
import Derived.Shelf.Strconv.ParseUint10Any
import Derived.Shelf.Strconv.ParseInt10
import Derived.Shelf.Strconv.AtoiLong
import Derived.Shelf.Strconv.AtoiInnerAll
import Derived.Shelf.Strconv.RangeError
import Derived.Shelf.Strconv.ToErrorRange
import Derived.Shelf.Strconv.AtoiAll
import Derived.Shelf.Strconv.ErrVarAll
import Derived.Shelf.Strings.Search1
import Derived.Shelf.Strings.Search2
import Derived.Shelf.Strings.Search3
import Derived.Shelf.Strings.Cut
import Derived.Shelf.Strings.Count
import Derived.Shelf.Strings.Shaped
import Derived.Shelf.Strings.Prefix
import Derived.Shelf.Strings.Split
import Derived.Shelf.Strings.Replace
import Derived.Shelf.Unicode.DecodeSlow
import Derived.Shelf.Slices.Turned
import Derived.Shelf.Slices.Equal
import Derived.Shelf.Slices.Empties2
import Derived.Test.YtgdohpcnpgjpaaaGreatDoorProg
namespace Go.Proofs
open Go.Shelf
def Tryz.lays103_ren : Go.Shelf.Ren := ⟨fun | 103 => 205 | 210 => 214 | 206 => 192 | n => n, fun | 9 => 9 | 4 => 4 | 24 => 213 | 3 => 3 | n => n, fun | n => n⟩
theorem Tryz.lays103 : Go.Proofs.Lays.n103 Tryz.prog Tryz.lays103_ren := {
  mixed := by kernel_rfl
  f103 := Tryz.func205.trans (congrArg some (by kernel_rfl))
  f206 := Tryz.func192.trans (congrArg some (by kernel_rfl))
  f210 := Tryz.func214.trans (congrArg some (by kernel_rfl))
  t3 := Tryz.underlying3
  a3 := Tryz.isAgg3
  z3 := Tryz.sizeOf3
  v3 := Tryz.zeroValue3
  t4 := Tryz.underlying4
  a4 := Tryz.isAgg4
  z4 := Tryz.sizeOf4
  v4 := Tryz.zeroValue4
  t9 := Tryz.underlying9
  a9 := Tryz.isAgg9
  z9 := Tryz.sizeOf9
  v9 := Tryz.zeroValue9
  t24 := Tryz.underlying213
  a24 := Tryz.isAgg213
  z24 := Tryz.sizeOf213
  v24 := Tryz.zeroValue213 }
open Go.RowKit in
theorem Tryz.strings_CutPrefix (s p : ByteArray) (w : World) :
    Calls Tryz.prog 205 #[.string s, .string p] w fun e w' => e = .returned (.tuple #[.string ⟨(Lib.trimPrefix s.data.toList p.data.toList).toArray⟩, .bool (Lib.hasPrefix s.data.toList p.data.toList)]) ∧ w' = w := Any.strings_CutPrefix Tryz.lays103 s p w
def Tryz.laysM171_ren : Go.Shelf.Ren := ⟨fun | 171 => 71 | 243 => 93 | 246 => 124 | 283 => 162 | 284 => 163 | 285 => 164 | 286 => 165 | 129 => 184 | 317 => 183 | 318 => 185 | 319 => 186 | 320 => 187 | 337 => 202 | 338 => 203 | n => n, fun | 3 => 3 | 9 => 9 | 2 => 2 | 4 => 4 | 171 => 176 | 0 => 0 | 53 => 56 | 37 => 26 | 5 => 5 | 173 => 179 | 212 => 192 | 51 => 58 | 20 => 20 | 213 => 193 | 46 => 57 | 232 => 216 | 233 => 217 | n => n, fun | 17 => 2 | 18 => 3 | 19 => 4 | n => n⟩
theorem Tryz.laysM171 : Go.Proofs.LaysM.n171 Tryz.prog Tryz.laysM171_ren := {
  mixed := by kernel_rfl
  f129 := Tryz.func184.trans (congrArg some (by kernel_rfl))
  f171 := Tryz.func71.trans (congrArg some (by kernel_rfl))
  f243 := Tryz.func93.trans (congrArg some (by kernel_rfl))
  f246 := Tryz.func124.trans (congrArg some (by kernel_rfl))
  f283 := Tryz.func162.trans (congrArg some (by kernel_rfl))
  f284 := Tryz.func163.trans (congrArg some (by kernel_rfl))
  f285 := Tryz.func164.trans (congrArg some (by kernel_rfl))
  f286 := Tryz.func165.trans (congrArg some (by kernel_rfl))
  f317 := Tryz.func183.trans (congrArg some (by kernel_rfl))
  f318 := Tryz.func185.trans (congrArg some (by kernel_rfl))
  f319 := Tryz.func186.trans (congrArg some (by kernel_rfl))
  f320 := Tryz.func187.trans (congrArg some (by kernel_rfl))
  f337 := Tryz.func202.trans (congrArg some (by kernel_rfl))
  f338 := Tryz.func203.trans (congrArg some (by kernel_rfl))
  t0 := Tryz.underlying0
  a0 := Tryz.isAgg0
  z0 := Tryz.sizeOf0
  v0 := Tryz.zeroValue0
  t2 := Tryz.underlying2
  a2 := Tryz.isAgg2
  z2 := Tryz.sizeOf2
  v2 := Tryz.zeroValue2
  t3 := Tryz.underlying3
  a3 := Tryz.isAgg3
  z3 := Tryz.sizeOf3
  v3 := Tryz.zeroValue3
  t4 := Tryz.underlying4
  a4 := Tryz.isAgg4
  z4 := Tryz.sizeOf4
  v4 := Tryz.zeroValue4
  t5 := Tryz.underlying5
  a5 := Tryz.isAgg5
  z5 := Tryz.sizeOf5
  v5 := Tryz.zeroValue5
  t9 := Tryz.underlying9
  a9 := Tryz.isAgg9
  z9 := Tryz.sizeOf9
  v9 := Tryz.zeroValue9
  t20 := Tryz.underlying20
  a20 := Tryz.isAgg20
  z20 := Tryz.sizeOf20
  v20 := Tryz.zeroValue20
  t37 := Tryz.underlying26
  a37 := Tryz.isAgg26
  z37 := Tryz.sizeOf26
  v37 := Tryz.zeroValue26
  t46 := Tryz.underlying57
  a46 := Tryz.isAgg57
  z46 := Tryz.sizeOf57
  v46 := Tryz.zeroValue57
  t51 := Tryz.underlying58
  a51 := Tryz.isAgg58
  z51 := Tryz.sizeOf58
  v51 := Tryz.zeroValue58
  t53 := Tryz.underlying56
  a53 := Tryz.isAgg56
  z53 := Tryz.sizeOf56
  v53 := Tryz.zeroValue56
  t171 := Tryz.underlying176
  a171 := Tryz.isAgg176
  z171 := Tryz.sizeOf176
  v171 := Tryz.zeroValue176
  t173 := Tryz.underlying179
  a173 := Tryz.isAgg179
  z173 := Tryz.sizeOf179
  v173 := Tryz.zeroValue179
  t212 := Tryz.underlying192
  a212 := Tryz.isAgg192
  z212 := Tryz.sizeOf192
  v212 := Tryz.zeroValue192
  t213 := Tryz.underlying193
  a213 := Tryz.isAgg193
  z213 := Tryz.sizeOf193
  t232 := Tryz.underlying216
  a232 := Tryz.isAgg216
  z232 := Tryz.sizeOf216
  v232 := Tryz.zeroValue216
  t233 := Tryz.underlying217
  a233 := Tryz.isAgg217
  z233 := Tryz.sizeOf217
  v233 := Tryz.zeroValue217
  g17 := by kernel_rfl
  g18 := by kernel_rfl
  g19 := by kernel_rfl
  i0 := by kernel_rfl
  i2 := by kernel_rfl
  i3 := by kernel_rfl
  i4 := by kernel_rfl
  i5 := by kernel_rfl
  i9 := by kernel_rfl
  i20 := by kernel_rfl
  i37 := by kernel_rfl
  i46 := by kernel_rfl
  i51 := by kernel_rfl
  i53 := by kernel_rfl
  i171 := by kernel_rfl
  i173 := by kernel_rfl
  i212 := by kernel_rfl
  i232 := by kernel_rfl
  i233 := by kernel_rfl
  m17 := by kernel_rfl
  m18 := by kernel_rfl
  m19 := by kernel_rfl }
open Go.RowKit Go.Sort Go.Lib in
theorem Tryz.strconv_Itoa (n : Int) (h0 : -9223372036854775808 ≤ n) (h1 : n ≤ 9223372036854775807) (w : World) (htab : Lib.TabIs Tryz.prog w "internal/strconv.uint64pow10" .u64 Lib.pow10Tab) :
    Calls Tryz.prog 71 #[.int .i64 n] w fun e w' => e = .returned (.string ⟨(Lib.itoa n).toArray⟩) ∧ ∃ k os, w' = grow (w.drewN k) os := Any.strconv_Itoa Tryz.laysM171 n h0 h1 w htab
def Tryz.laysC172_ren : Go.Shelf.Ren := ⟨fun | 172 => 92 | 244 => 122 | 245 => 123 | 247 => 157 | 279 => 158 | 280 => 159 | 281 => 160 | 282 => 161 | 287 => 180 | 316 => 181 | 171 => 71 | 205 => 182 | 321 => 200 | 322 => 201 | 243 => 93 | 246 => 124 | 283 => 162 | 284 => 163 | 285 => 164 | 286 => 165 | 129 => 184 | 317 => 183 | 318 => 185 | 319 => 186 | 320 => 187 | 337 => 202 | 338 => 203 | n => n, fun | 9 => 9 | 3 => 3 | 75 => 123 | 76 => 124 | 4 => 4 | 5 => 5 | 167 => 170 | 37 => 26 | 0 => 0 | 85 => 171 | 2 => 2 | 168 => 173 | 53 => 56 | 175 => 186 | 46 => 57 | 210 => 189 | 127 => 208 | 145 => 211 | 143 => 209 | 21 => 21 | 171 => 176 | 173 => 179 | 212 => 192 | 51 => 58 | 20 => 20 | 213 => 193 | 232 => 216 | 233 => 217 | 80 => 45 | n => n, fun | 15 => 0 | 16 => 1 | 17 => 2 | 18 => 3 | 19 => 4 | n => n⟩
theorem Tryz.laysAtoi : Go.Proofs.LaysC.n172 Tryz.prog Tryz.laysC172_ren := {
  mixed := by kernel_rfl
  f129 := Tryz.func184.trans (congrArg some (by kernel_rfl))
  f171 := Tryz.func71.trans (congrArg some (by kernel_rfl))
  f172 := Tryz.func92.trans (congrArg some (by kernel_rfl))
  f205 := Tryz.func182.trans (congrArg some (by kernel_rfl))
  f243 := Tryz.func93.trans (congrArg some (by kernel_rfl))
  f244 := Tryz.func122.trans (congrArg some (by kernel_rfl))
  f245 := Tryz.func123.trans (congrArg some (by kernel_rfl))
  f246 := Tryz.func124.trans (congrArg some (by kernel_rfl))
  f247 := Tryz.func157.trans (congrArg some (by kernel_rfl))
  f279 := Tryz.func158.trans (congrArg some (by kernel_rfl))
  f280 := Tryz.func159.trans (congrArg some (by kernel_rfl))
  f281 := Tryz.func160.trans (congrArg some (by kernel_rfl))
  f282 := Tryz.func161.trans (congrArg some (by kernel_rfl))
  f283 := Tryz.func162.trans (congrArg some (by kernel_rfl))
  f284 := Tryz.func163.trans (congrArg some (by kernel_rfl))
  f285 := Tryz.func164.trans (congrArg some (by kernel_rfl))
  f286 := Tryz.func165.trans (congrArg some (by kernel_rfl))
  f287 := Tryz.func180.trans (congrArg some (by kernel_rfl))
  f316 := Tryz.func181.trans (congrArg some (by kernel_rfl))
  f317 := Tryz.func183.trans (congrArg some (by kernel_rfl))
  f318 := Tryz.func185.trans (congrArg some (by kernel_rfl))
  f319 := Tryz.func186.trans (congrArg some (by kernel_rfl))
  f320 := Tryz.func187.trans (congrArg some (by kernel_rfl))
  f321 := Tryz.func200.trans (congrArg some (by kernel_rfl))
  f322 := Tryz.func201.trans (congrArg some (by kernel_rfl))
  f337 := Tryz.func202.trans (congrArg some (by kernel_rfl))
  f338 := Tryz.func203.trans (congrArg some (by kernel_rfl))
  t0 := Tryz.underlying0
  a0 := Tryz.isAgg0
  z0 := Tryz.sizeOf0
  v0 := Tryz.zeroValue0
  t2 := Tryz.underlying2
  a2 := Tryz.isAgg2
  z2 := Tryz.sizeOf2
  v2 := Tryz.zeroValue2
  t3 := Tryz.underlying3
  a3 := Tryz.isAgg3
  z3 := Tryz.sizeOf3
  v3 := Tryz.zeroValue3
  t4 := Tryz.underlying4
  a4 := Tryz.isAgg4
  z4 := Tryz.sizeOf4
  v4 := Tryz.zeroValue4
  t5 := Tryz.underlying5
  a5 := Tryz.isAgg5
  z5 := Tryz.sizeOf5
  v5 := Tryz.zeroValue5
  t9 := Tryz.underlying9
  a9 := Tryz.isAgg9
  z9 := Tryz.sizeOf9
  v9 := Tryz.zeroValue9
  t20 := Tryz.underlying20
  a20 := Tryz.isAgg20
  z20 := Tryz.sizeOf20
  v20 := Tryz.zeroValue20
  t21 := Tryz.underlying21
  a21 := Tryz.isAgg21
  z21 := Tryz.sizeOf21
  v21 := Tryz.zeroValue21
  t37 := Tryz.underlying26
  a37 := Tryz.isAgg26
  z37 := Tryz.sizeOf26
  v37 := Tryz.zeroValue26
  t46 := Tryz.underlying57
  a46 := Tryz.isAgg57
  z46 := Tryz.sizeOf57
  v46 := Tryz.zeroValue57
  t51 := Tryz.underlying58
  a51 := Tryz.isAgg58
  z51 := Tryz.sizeOf58
  v51 := Tryz.zeroValue58
  t53 := Tryz.underlying56
  a53 := Tryz.isAgg56
  z53 := Tryz.sizeOf56
  v53 := Tryz.zeroValue56
  t75 := Tryz.underlying123
  a75 := Tryz.isAgg123
  z75 := Tryz.sizeOf123
  v75 := Tryz.zeroValue123
  t76 := Tryz.underlying124
  a76 := Tryz.isAgg124
  z76 := Tryz.sizeOf124
  v76 := Tryz.zeroValue124
  t85 := Tryz.underlying171
  a85 := Tryz.isAgg171
  z85 := Tryz.sizeOf171
  v85 := Tryz.zeroValue171
  t127 := Tryz.underlying208
  a127 := Tryz.isAgg208
  z127 := Tryz.sizeOf208
  v127 := Tryz.zeroValue208
  t143 := Tryz.underlying209
  a143 := Tryz.isAgg209
  z143 := Tryz.sizeOf209
  v143 := Tryz.zeroValue209
  t145 := Tryz.underlying211
  a145 := Tryz.isAgg211
  z145 := Tryz.sizeOf211
  v145 := Tryz.zeroValue211
  t167 := Tryz.underlying170
  a167 := Tryz.isAgg170
  z167 := Tryz.sizeOf170
  v167 := Tryz.zeroValue170
  t168 := Tryz.underlying173
  a168 := Tryz.isAgg173
  z168 := Tryz.sizeOf173
  v168 := Tryz.zeroValue173
  t171 := Tryz.underlying176
  a171 := Tryz.isAgg176
  z171 := Tryz.sizeOf176
  v171 := Tryz.zeroValue176
  t173 := Tryz.underlying179
  a173 := Tryz.isAgg179
  z173 := Tryz.sizeOf179
  v173 := Tryz.zeroValue179
  t175 := Tryz.underlying186
  a175 := Tryz.isAgg186
  z175 := Tryz.sizeOf186
  v175 := Tryz.zeroValue186
  t210 := Tryz.underlying189
  a210 := Tryz.isAgg189
  z210 := Tryz.sizeOf189
  v210 := Tryz.zeroValue189
  t212 := Tryz.underlying192
  a212 := Tryz.isAgg192
  z212 := Tryz.sizeOf192
  v212 := Tryz.zeroValue192
  t213 := Tryz.underlying193
  a213 := Tryz.isAgg193
  z213 := Tryz.sizeOf193
  t232 := Tryz.underlying216
  a232 := Tryz.isAgg216
  z232 := Tryz.sizeOf216
  v232 := Tryz.zeroValue216
  t233 := Tryz.underlying217
  a233 := Tryz.isAgg217
  z233 := Tryz.sizeOf217
  v233 := Tryz.zeroValue217
  g15 := by kernel_rfl
  g16 := by kernel_rfl
  g17 := by kernel_rfl
  g18 := by kernel_rfl
  g19 := by kernel_rfl
  t80 := Tryz.underlying45
  a80 := Tryz.isAgg45
  z80 := Tryz.sizeOf45
  v80 := Tryz.zeroValue45
  i0 := by kernel_rfl
  i2 := by kernel_rfl
  i3 := by kernel_rfl
  i4 := by kernel_rfl
  i5 := by kernel_rfl
  i9 := by kernel_rfl
  i20 := by kernel_rfl
  i21 := by kernel_rfl
  i37 := by kernel_rfl
  i46 := by kernel_rfl
  i51 := by kernel_rfl
  i53 := by kernel_rfl
  i75 := by kernel_rfl
  i76 := by kernel_rfl
  i80 := by kernel_rfl
  i85 := by kernel_rfl
  i127 := by kernel_rfl
  i143 := by kernel_rfl
  i145 := by kernel_rfl
  i167 := by kernel_rfl
  i168 := by kernel_rfl
  i171 := by kernel_rfl
  i173 := by kernel_rfl
  i175 := by kernel_rfl
  i210 := by kernel_rfl
  i212 := by kernel_rfl
  i232 := by kernel_rfl
  i233 := by kernel_rfl
  m15 := by kernel_rfl
  m16 := by kernel_rfl
  m17 := by kernel_rfl
  m18 := by kernel_rfl
  m19 := by kernel_rfl
  c0 := by kernel_rfl
  c2 := by kernel_rfl
  c3 := by kernel_rfl
  c4 := by kernel_rfl
  c5 := by kernel_rfl
  c9 := by kernel_rfl
  c20 := by kernel_rfl
  c21 := by kernel_rfl
  c37 := by kernel_rfl
  c46 := by kernel_rfl
  c51 := by kernel_rfl
  c53 := by kernel_rfl
  c75 := by kernel_rfl
  c76 := by kernel_rfl
  c80 := by kernel_rfl
  c85 := by kernel_rfl
  c127 := by kernel_rfl
  c143 := by kernel_rfl
  c145 := by kernel_rfl
  c167 := by kernel_rfl
  c168 := by kernel_rfl
  c171 := by kernel_rfl
  c173 := by kernel_rfl
  c175 := by kernel_rfl
  c210 := by kernel_rfl
  c212 := by kernel_rfl
  c213 := by kernel_rfl
  c232 := by kernel_rfl
  c233 := by kernel_rfl }
open Go.RowKit in
theorem Tryz.strconv_Atoi_ok (s : ByteArray) (hmax : s.size ≤ 9223372036854775806) (v : Int) (h : Lib.atoiAll s.data.toList = .ok v) (w : World) :
    Calls Tryz.prog 92 #[.string s] w fun e w' => e = .returned (.tuple #[.int .i64 v, .nilIface]) ∧ (w' = w ∨ ∃ t, w' = Lib.bytesWorld w 5 t) := Any.strconv_Atoi_ok Tryz.laysAtoi s hmax v h w
open Go.RowKit in
theorem Tryz.strconv_Atoi_range (s : ByteArray) (hlim : s.size ≤ 281474976710656) (h : Lib.atoiAll s.data.toList = .range) (ev : Value) (w : World) (hv : w.cell? ⟨1, 0, none⟩ = some ev) (hev : ev = .nilIface ∨ ∃ te pe, ev = .iface te pe) :
    Calls Tryz.prog 92 #[.string s] w fun e w' => ∃ N, e = .returned (.tuple #[.int .i64 (Lib.atoiSat s.data.toList), .iface 173 (.pointer (some ⟨N, 0, none⟩))]) ∧ w.heap.size ≤ N ∧ w'.heap[N]? = some (.cells #[.string ⟨#[65, 116, 111, 105]⟩, .string s, ev] 189 (0, 0)) ∧ Below w.heap.size w w' := Any.strconv_Atoi_range Tryz.laysAtoi s hlim h ev w hv hev
def Tryz.laysM143_ren : Go.Shelf.Ren := ⟨fun | 143 => 196 | 219 => 212 | 217 => 220 | 225 => 221 | 224 => 222 | 267 => 223 | 266 => 225 | 314 => 226 | n => n, fun | 9 => 9 | 3 => 3 | 4 => 4 | 5 => 5 | 46 => 57 | 146 => 224 | 51 => 58 | n => n, fun | 1 => 5 | n => n⟩
theorem Tryz.laysM143 : Go.Proofs.LaysM.n143 Tryz.prog Tryz.laysM143_ren := {
  mixed := by kernel_rfl
  f143 := Tryz.func196.trans (congrArg some (by kernel_rfl))
  f217 := Tryz.func220.trans (congrArg some (by kernel_rfl))
  f219 := Tryz.func212.trans (congrArg some (by kernel_rfl))
  f224 := Tryz.func222.trans (congrArg some (by kernel_rfl))
  f225 := Tryz.func221.trans (congrArg some (by kernel_rfl))
  f266 := Tryz.func225.trans (congrArg some (by kernel_rfl))
  f267 := Tryz.func223.trans (congrArg some (by kernel_rfl))
  f314 := Tryz.func226.trans (congrArg some (by kernel_rfl))
  t3 := Tryz.underlying3
  a3 := Tryz.isAgg3
  z3 := Tryz.sizeOf3
  v3 := Tryz.zeroValue3
  t4 := Tryz.underlying4
  a4 := Tryz.isAgg4
  z4 := Tryz.sizeOf4
  v4 := Tryz.zeroValue4
  t5 := Tryz.underlying5
  a5 := Tryz.isAgg5
  z5 := Tryz.sizeOf5
  v5 := Tryz.zeroValue5
  t9 := Tryz.underlying9
  a9 := Tryz.isAgg9
  z9 := Tryz.sizeOf9
  v9 := Tryz.zeroValue9
  t46 := Tryz.underlying57
  a46 := Tryz.isAgg57
  z46 := Tryz.sizeOf57
  v46 := Tryz.zeroValue57
  t51 := Tryz.underlying58
  a51 := Tryz.isAgg58
  z51 := Tryz.sizeOf58
  v51 := Tryz.zeroValue58
  t146 := Tryz.underlying224
  a146 := Tryz.isAgg224
  z146 := Tryz.sizeOf224
  v146 := Tryz.zeroValue224
  g1 := by kernel_rfl
  i3 := by kernel_rfl
  i4 := by kernel_rfl
  i5 := by kernel_rfl
  i9 := by kernel_rfl
  i46 := by kernel_rfl
  i51 := by kernel_rfl
  i146 := by kernel_rfl
  m1 := by kernel_rfl
  s1_3 := fun w h => Go.Proofs.cell_of_shapedOpen_int (zero := #[.int .i64 0]) (t := 3) h (of_decide_eq_true (by kernel_rfl)) (by kernel_rfl) rfl (by kernel_rfl) (by kernel_rfl) Tryz.underlying3 }
def Tryz.laysM145_ren : Go.Shelf.Ren := ⟨fun | 145 => 188 | 220 => 204 | 219 => 212 | 217 => 220 | 225 => 221 | 224 => 222 | 267 => 223 | 266 => 225 | 314 => 226 | n => n, fun | 9 => 9 | 4 => 4 | 59 => 199 | 3 => 3 | 5 => 5 | 46 => 57 | 146 => 224 | 51 => 58 | n => n, fun | 1 => 5 | n => n⟩
theorem Tryz.laysM145 : Go.Proofs.LaysM.n145 Tryz.prog Tryz.laysM145_ren := {
  mixed := by kernel_rfl
  f145 := Tryz.func188.trans (congrArg some (by kernel_rfl))
  f217 := Tryz.func220.trans (congrArg some (by kernel_rfl))
  f219 := Tryz.func212.trans (congrArg some (by kernel_rfl))
  f220 := Tryz.func204.trans (congrArg some (by kernel_rfl))
  f224 := Tryz.func222.trans (congrArg some (by kernel_rfl))
  f225 := Tryz.func221.trans (congrArg some (by kernel_rfl))
  f266 := Tryz.func225.trans (congrArg some (by kernel_rfl))
  f267 := Tryz.func223.trans (congrArg some (by kernel_rfl))
  f314 := Tryz.func226.trans (congrArg some (by kernel_rfl))
  t3 := Tryz.underlying3
  a3 := Tryz.isAgg3
  z3 := Tryz.sizeOf3
  v3 := Tryz.zeroValue3
  t4 := Tryz.underlying4
  a4 := Tryz.isAgg4
  z4 := Tryz.sizeOf4
  v4 := Tryz.zeroValue4
  t5 := Tryz.underlying5
  a5 := Tryz.isAgg5
  z5 := Tryz.sizeOf5
  v5 := Tryz.zeroValue5
  t9 := Tryz.underlying9
  a9 := Tryz.isAgg9
  z9 := Tryz.sizeOf9
  v9 := Tryz.zeroValue9
  t46 := Tryz.underlying57
  a46 := Tryz.isAgg57
  z46 := Tryz.sizeOf57
  v46 := Tryz.zeroValue57
  t51 := Tryz.underlying58
  a51 := Tryz.isAgg58
  z51 := Tryz.sizeOf58
  v51 := Tryz.zeroValue58
  t59 := Tryz.underlying199
  a59 := Tryz.isAgg199
  z59 := Tryz.sizeOf199
  v59 := Tryz.zeroValue199
  t146 := Tryz.underlying224
  a146 := Tryz.isAgg224
  z146 := Tryz.sizeOf224
  v146 := Tryz.zeroValue224
  g1 := by kernel_rfl
  i3 := by kernel_rfl
  i4 := by kernel_rfl
  i5 := by kernel_rfl
  i9 := by kernel_rfl
  i46 := by kernel_rfl
  i51 := by kernel_rfl
  i59 := by kernel_rfl
  i146 := by kernel_rfl
  m1 := by kernel_rfl
  s1_3 := fun w h => Go.Proofs.cell_of_shapedOpen_int (zero := #[.int .i64 0]) (t := 3) h (of_decide_eq_true (by kernel_rfl)) (by kernel_rfl) rfl (by kernel_rfl) (by kernel_rfl) Tryz.underlying3 }
open Go.RowKit Go.Lib in
theorem Tryz.strings_Cut_shaped (s sep : ByteArray) (w : World) (h : w.ShapedOpen Tryz.prog) (hs : s.size < 4294967281) :
    Calls Tryz.prog 188 #[.string s, .string sep] w fun e w' => e = .returned (.tuple #[.string ⟨(Lib.cut s.data.toList sep.data.toList).1.toArray⟩, .string ⟨(Lib.cut s.data.toList sep.data.toList).2.1.toArray⟩, .bool (Lib.cut s.data.toList sep.data.toList).2.2]) ∧ ∃ n, w' = w.drewN n := Any.strings_Cut_shaped Tryz.laysM145 s sep w h hs
def Tryz.lays99_ren : Go.Shelf.Ren := ⟨fun | 99 => 175 | 206 => 192 | n => n, fun | 9 => 9 | 4 => 4 | 3 => 3 | n => n, fun | n => n⟩
theorem Tryz.lays99 : Go.Proofs.Lays.n99 Tryz.prog Tryz.lays99_ren := {
  mixed := by kernel_rfl
  f99 := Tryz.func175.trans (congrArg some (by kernel_rfl))
  f206 := Tryz.func192.trans (congrArg some (by kernel_rfl))
  t3 := Tryz.underlying3
  a3 := Tryz.isAgg3
  z3 := Tryz.sizeOf3
  v3 := Tryz.zeroValue3
  t4 := Tryz.underlying4
  a4 := Tryz.isAgg4
  z4 := Tryz.sizeOf4
  v4 := Tryz.zeroValue4
  t9 := Tryz.underlying9
  a9 := Tryz.isAgg9
  z9 := Tryz.sizeOf9
  v9 := Tryz.zeroValue9 }
open Go.RowKit Go.Lib in
theorem Tryz.strings_HasPrefix (s p : ByteArray) (w : World) :
    Calls Tryz.prog 175 #[.string s, .string p] w fun e w' => e = .returned (.bool (Lib.hasPrefix s.data.toList p.data.toList)) ∧ w' = w := Any.strings_HasPrefix Tryz.lays99 s p w
def Tryz.lays155_ren : Go.Shelf.Ren := ⟨fun | 155 => 153 | 154 => 177 | 138 => 194 | 165 => 195 | 143 => 196 | 166 => 197 | 197 => 198 | 169 => 199 | 195 => 208 | 218 => 209 | 240 => 210 | 241 => 211 | 219 => 212 | 260 => 213 | 276 => 218 | 277 => 219 | 217 => 220 | 225 => 221 | 224 => 222 | 267 => 223 | 266 => 225 | 314 => 226 | n => n, fun | 9 => 9 | 3 => 3 | 4 => 4 | 72 => 204 | 0 => 0 | 76 => 124 | 105 => 205 | 21 => 21 | 5 => 5 | 70 => 202 | 20 => 20 | 37 => 26 | 75 => 123 | 127 => 208 | 164 => 218 | 46 => 57 | 119 => 220 | 139 => 223 | 138 => 222 | 146 => 224 | 51 => 58 | 80 => 45 | n => n, fun | 1 => 5 | 3 => 6 | 4 => 7 | n => n⟩
theorem Tryz.lays155 : Go.Proofs.Lays.n155 Tryz.prog Tryz.lays155_ren := {
  mixed := by kernel_rfl
  f138 := Tryz.func194.trans (congrArg some (by kernel_rfl))
  f143 := Tryz.func196.trans (congrArg some (by kernel_rfl))
  f154 := Tryz.func177.trans (congrArg some (by kernel_rfl))
  f155 := Tryz.func153.trans (congrArg some (by kernel_rfl))
  f165 := Tryz.func195.trans (congrArg some (by kernel_rfl))
  f166 := Tryz.func197.trans (congrArg some (by kernel_rfl))
  f169 := Tryz.func199.trans (congrArg some (by kernel_rfl))
  f195 := Tryz.func208.trans (congrArg some (by kernel_rfl))
  f197 := Tryz.func198.trans (congrArg some (by kernel_rfl))
  f217 := Tryz.func220.trans (congrArg some (by kernel_rfl))
  f218 := Tryz.func209.trans (congrArg some (by kernel_rfl))
  f219 := Tryz.func212.trans (congrArg some (by kernel_rfl))
  f224 := Tryz.func222.trans (congrArg some (by kernel_rfl))
  f225 := Tryz.func221.trans (congrArg some (by kernel_rfl))
  f240 := Tryz.func210.trans (congrArg some (by kernel_rfl))
  f241 := Tryz.func211.trans (congrArg some (by kernel_rfl))
  f260 := Tryz.func213.trans (congrArg some (by kernel_rfl))
  f266 := Tryz.func225.trans (congrArg some (by kernel_rfl))
  f267 := Tryz.func223.trans (congrArg some (by kernel_rfl))
  f276 := Tryz.func218.trans (congrArg some (by kernel_rfl))
  f277 := Tryz.func219.trans (congrArg some (by kernel_rfl))
  f314 := Tryz.func226.trans (congrArg some (by kernel_rfl))
  t0 := Tryz.underlying0
  a0 := Tryz.isAgg0
  z0 := Tryz.sizeOf0
  v0 := Tryz.zeroValue0
  t3 := Tryz.underlying3
  a3 := Tryz.isAgg3
  z3 := Tryz.sizeOf3
  v3 := Tryz.zeroValue3
  t4 := Tryz.underlying4
  a4 := Tryz.isAgg4
  z4 := Tryz.sizeOf4
  v4 := Tryz.zeroValue4
  t5 := Tryz.underlying5
  a5 := Tryz.isAgg5
  z5 := Tryz.sizeOf5
  v5 := Tryz.zeroValue5
  t9 := Tryz.underlying9
  a9 := Tryz.isAgg9
  z9 := Tryz.sizeOf9
  v9 := Tryz.zeroValue9
  t20 := Tryz.underlying20
  a20 := Tryz.isAgg20
  z20 := Tryz.sizeOf20
  v20 := Tryz.zeroValue20
  t21 := Tryz.underlying21
  a21 := Tryz.isAgg21
  z21 := Tryz.sizeOf21
  v21 := Tryz.zeroValue21
  t37 := Tryz.underlying26
  a37 := Tryz.isAgg26
  z37 := Tryz.sizeOf26
  v37 := Tryz.zeroValue26
  t46 := Tryz.underlying57
  a46 := Tryz.isAgg57
  z46 := Tryz.sizeOf57
  v46 := Tryz.zeroValue57
  t51 := Tryz.underlying58
  a51 := Tryz.isAgg58
  z51 := Tryz.sizeOf58
  v51 := Tryz.zeroValue58
  t70 := Tryz.underlying202
  a70 := Tryz.isAgg202
  z70 := Tryz.sizeOf202
  v70 := Tryz.zeroValue202
  t72 := Tryz.underlying204
  a72 := Tryz.isAgg204
  z72 := Tryz.sizeOf204
  v72 := Tryz.zeroValue204
  t75 := Tryz.underlying123
  a75 := Tryz.isAgg123
  z75 := Tryz.sizeOf123
  v75 := Tryz.zeroValue123
  t76 := Tryz.underlying124
  a76 := Tryz.isAgg124
  z76 := Tryz.sizeOf124
  v76 := Tryz.zeroValue124
  t105 := Tryz.underlying205
  a105 := Tryz.isAgg205
  z105 := Tryz.sizeOf205
  v105 := Tryz.zeroValue205
  t119 := Tryz.underlying220
  a119 := Tryz.isAgg220
  z119 := Tryz.sizeOf220
  t127 := Tryz.underlying208
  a127 := Tryz.isAgg208
  z127 := Tryz.sizeOf208
  v127 := Tryz.zeroValue208
  t138 := Tryz.underlying222
  a138 := Tryz.isAgg222
  z138 := Tryz.sizeOf222
  v138 := Tryz.zeroValue222
  t139 := Tryz.underlying223
  a139 := Tryz.isAgg223
  z139 := Tryz.sizeOf223
  v139 := Tryz.zeroValue223
  t146 := Tryz.underlying224
  a146 := Tryz.isAgg224
  z146 := Tryz.sizeOf224
  v146 := Tryz.zeroValue224
  t164 := Tryz.underlying218
  a164 := Tryz.isAgg218
  z164 := Tryz.sizeOf218
  v164 := Tryz.zeroValue218
  g1 := by kernel_rfl
  g3 := by kernel_rfl
  g4 := by kernel_rfl }
theorem Tryz.Builder_Extra_155 : Builder.Extra Tryz.prog Tryz.lays155_ren := {
  sizeBuilder := by kernel_rfl
  liesBuilder := by kernel_rfl
  t5 := Tryz.underlying5
  a5 := Tryz.isAgg5
  z5 := Tryz.sizeOf5
  v5 := Tryz.zeroValue5
  infoByte := by kernel_rfl
  cellsByte := by kernel_rfl
  sizeByte := by kernel_rfl
  neB5 := by decide }
open Go.RowKit Go.Lib in
theorem Tryz.strings_ReplaceAll (s old new : ByteArray) (m : Int) (w : World) (hs : s.size < 4294967281) (hm : w.cell? ⟨5, 0, none⟩ = some (.int .i64 m)) (h1 : 1 ≤ old.size) (hlen : s.size + Lib.countB s old * new.size ≤ 140737488355328) :
    Calls Tryz.prog 153 #[.string s, .string old, .string new] w fun e w' =>
      e = .returned (.string ⟨(Lib.replaceAll s.data.toList old.data.toList new.data.toList).toArray⟩) ∧ Below w.heap.size w w' := Any.strings_ReplaceAll Tryz.lays155 Tryz.Builder_Extra_155 s old new m w hs hm h1 hlen
end Go.Proofs
