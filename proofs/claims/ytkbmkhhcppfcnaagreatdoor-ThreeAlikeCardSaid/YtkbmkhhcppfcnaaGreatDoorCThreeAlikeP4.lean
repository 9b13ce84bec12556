/- The law ThreeAlike returns true for every input, and its arguments read as before: the tied card. No conditions. This is part 4 of 8 of its proof; the parts are read in order. No conditions. -/
import Derived.Test.YtkbmkhhcppfcnaaGreatDoorCThreeAlikeP3
import Derived.Shelf.LaysM
import Derived.Shelf.Strconv.Itoa3
import Derived.Shelf.LaysC
import Derived.Shelf.Strconv.AtoiAll
import Derived.Shelf.Strings.Repeat
import Derived.Test.YtkbmkhhcppfcnaaGreatDoorProg
import Derived.Lib.ItoaNum
import Derived.Lib.Atoi
import Derived.Lib.Repeat
import Derived.Lib.AppendIntMem
import Derived.Lib.AtoiErrMem
import Derived.Lib.AtoiTie
section
namespace Go.Proofs
open Go.Shelf
open Go.RowKit Go.Sort Go.Lib in
open Go.RowKit Go.Sort Go.Lib in
open Go.RowKit Go.Sort Go.Lib in
open Go.RowKit Go.Sort Go.Lib in
def Tryz.laysM171_ren : Go.Shelf.Ren := ⟨fun | 171 => 98 | 243 => 104 | 246 => 116 | 283 => 125 | 284 => 126 | 285 => 127 | 286 => 128 | 129 => 134 | 317 => 133 | 318 => 135 | 319 => 136 | 320 => 137 | 337 => 138 | 338 => 139 | n => n, fun | 3 => 3 | 9 => 9 | 2 => 2 | 4 => 4 | 171 => 163 | 0 => 0 | 53 => 153 | 37 => 22 | 5 => 5 | 173 => 166 | 212 => 175 | 51 => 150 | 20 => 20 | 213 => 176 | 46 => 129 | 232 => 180 | 233 => 181 | n => n, fun | 17 => 2 | 18 => 4 | 19 => 5 | n => n⟩
theorem Tryz.laysM171 : Go.Proofs.LaysM.n171 Tryz.prog Tryz.laysM171_ren := {
  mixed := by kernel_rfl
  f129 := Tryz.func134.trans (congrArg some (by kernel_rfl))
  f171 := Tryz.func98.trans (congrArg some (by kernel_rfl))
  f243 := Tryz.func104.trans (congrArg some (by kernel_rfl))
  f246 := Tryz.func116.trans (congrArg some (by kernel_rfl))
  f283 := Tryz.func125.trans (congrArg some (by kernel_rfl))
  f284 := Tryz.func126.trans (congrArg some (by kernel_rfl))
  f285 := Tryz.func127.trans (congrArg some (by kernel_rfl))
  f286 := Tryz.func128.trans (congrArg some (by kernel_rfl))
  f317 := Tryz.func133.trans (congrArg some (by kernel_rfl))
  f318 := Tryz.func135.trans (congrArg some (by kernel_rfl))
  f319 := Tryz.func136.trans (congrArg some (by kernel_rfl))
  f320 := Tryz.func137.trans (congrArg some (by kernel_rfl))
  f337 := Tryz.func138.trans (congrArg some (by kernel_rfl))
  f338 := Tryz.func139.trans (congrArg some (by kernel_rfl))
  t0 := Tryz.underlying0
  a0 := Tryz.isAgg0
  z0 := Tryz.sizeOf0
  v0 := Tryz.zeroValue0
  t2 := Tryz.underlying2
  a2 := Tryz.isAgg2
  z2 := Tryz.sizeOf2
  v2 := Tryz.zeroValue2
  t3 := Tryz.underlying3
  a3 := Tryz.isAgg3
  z3 := Tryz.sizeOf3
  v3 := Tryz.zeroValue3
  t4 := Tryz.underlying4
  a4 := Tryz.isAgg4
  z4 := Tryz.sizeOf4
  v4 := Tryz.zeroValue4
  t5 := Tryz.underlying5
  a5 := Tryz.isAgg5
  z5 := Tryz.sizeOf5
  v5 := Tryz.zeroValue5
  t9 := Tryz.underlying9
  a9 := Tryz.isAgg9
  z9 := Tryz.sizeOf9
  v9 := Tryz.zeroValue9
  t20 := Tryz.underlying20
  a20 := Tryz.isAgg20
  z20 := Tryz.sizeOf20
  v20 := Tryz.zeroValue20
  t37 := Tryz.underlying22
  a37 := Tryz.isAgg22
  z37 := Tryz.sizeOf22
  v37 := Tryz.zeroValue22
  t46 := Tryz.underlying129
  a46 := Tryz.isAgg129
  z46 := Tryz.sizeOf129
  v46 := Tryz.zeroValue129
  t51 := Tryz.underlying150
  a51 := Tryz.isAgg150
  z51 := Tryz.sizeOf150
  v51 := Tryz.zeroValue150
  t53 := Tryz.underlying153
  a53 := Tryz.isAgg153
  z53 := Tryz.sizeOf153
  v53 := Tryz.zeroValue153
  t171 := Tryz.underlying163
  a171 := Tryz.isAgg163
  z171 := Tryz.sizeOf163
  v171 := Tryz.zeroValue163
  t173 := Tryz.underlying166
  a173 := Tryz.isAgg166
  z173 := Tryz.sizeOf166
  v173 := Tryz.zeroValue166
  t212 := Tryz.underlying175
  a212 := Tryz.isAgg175
  z212 := Tryz.sizeOf175
  v212 := Tryz.zeroValue175
  t213 := Tryz.underlying176
  a213 := Tryz.isAgg176
  z213 := Tryz.sizeOf176
  t232 := Tryz.underlying180
  a232 := Tryz.isAgg180
  z232 := Tryz.sizeOf180
  v232 := Tryz.zeroValue180
  t233 := Tryz.underlying181
  a233 := Tryz.isAgg181
  z233 := Tryz.sizeOf181
  v233 := Tryz.zeroValue181
  g17 := by kernel_rfl
  g18 := by kernel_rfl
  g19 := by kernel_rfl
  i0 := by kernel_rfl
  i2 := by kernel_rfl
  i3 := by kernel_rfl
  i4 := by kernel_rfl
  i5 := by kernel_rfl
  i9 := by kernel_rfl
  i20 := by kernel_rfl
  i37 := by kernel_rfl
  i46 := by kernel_rfl
  i51 := by kernel_rfl
  i53 := by kernel_rfl
  i171 := by kernel_rfl
  i173 := by kernel_rfl
  i212 := by kernel_rfl
  i232 := by kernel_rfl
  i233 := by kernel_rfl
  m17 := by kernel_rfl
  m18 := by kernel_rfl
  m19 := by kernel_rfl }
open Go.RowKit Go.Sort Go.Lib in
theorem Tryz.strconv_Itoa (n : Int) (h0 : -9223372036854775808 ≤ n) (h1 : n ≤ 9223372036854775807) (w : World) (htab : Lib.TabIs Tryz.prog w "internal/strconv.uint64pow10" .u64 Lib.pow10Tab) :
    Calls Tryz.prog 98 #[.int .i64 n] w fun e w' => e = .returned (.string ⟨(Lib.itoa n).toArray⟩) ∧ ∃ k os, w' = grow (w.drewN k) os := Any.strconv_Itoa Tryz.laysM171 n h0 h1 w htab
open Go.RowKit Go.Sort Go.Lib in
def Tryz.laysC172_ren : Go.Shelf.Ren := ⟨fun | 172 => 73 | 244 => 102 | 245 => 103 | 247 => 111 | 279 => 112 | 280 => 113 | 281 => 114 | 282 => 115 | 287 => 122 | 316 => 123 | 171 => 98 | 205 => 124 | 321 => 131 | 322 => 132 | 243 => 104 | 246 => 116 | 283 => 125 | 284 => 126 | 285 => 127 | 286 => 128 | 129 => 134 | 317 => 133 | 318 => 135 | 319 => 136 | 320 => 137 | 337 => 138 | 338 => 139 | n => n, fun | 9 => 9 | 3 => 3 | 75 => 91 | 76 => 107 | 4 => 4 | 5 => 5 | 167 => 143 | 37 => 22 | 0 => 0 | 85 => 144 | 2 => 2 | 168 => 146 | 53 => 153 | 175 => 157 | 46 => 129 | 210 => 161 | 127 => 156 | 145 => 174 | 143 => 172 | 21 => 21 | 171 => 163 | 173 => 166 | 212 => 175 | 51 => 150 | 20 => 20 | 213 => 176 | 232 => 180 | 233 => 181 | 80 => 142 | n => n, fun | 15 => 0 | 16 => 1 | 17 => 2 | 18 => 4 | 19 => 5 | n => n⟩
theorem Tryz.laysC172 : Go.Proofs.LaysC.n172 Tryz.prog Tryz.laysC172_ren := {
  mixed := by kernel_rfl
  f129 := Tryz.func134.trans (congrArg some (by kernel_rfl))
  f171 := Tryz.func98.trans (congrArg some (by kernel_rfl))
  f172 := Tryz.func73.trans (congrArg some (by kernel_rfl))
  f205 := Tryz.func124.trans (congrArg some (by kernel_rfl))
  f243 := Tryz.func104.trans (congrArg some (by kernel_rfl))
  f244 := Tryz.func102.trans (congrArg some (by kernel_rfl))
  f245 := Tryz.func103.trans (congrArg some (by kernel_rfl))
  f246 := Tryz.func116.trans (congrArg some (by kernel_rfl))
  f247 := Tryz.func111.trans (congrArg some (by kernel_rfl))
  f279 := Tryz.func112.trans (congrArg some (by kernel_rfl))
  f280 := Tryz.func113.trans (congrArg some (by kernel_rfl))
  f281 := Tryz.func114.trans (congrArg some (by kernel_rfl))
  f282 := Tryz.func115.trans (congrArg some (by kernel_rfl))
  f283 := Tryz.func125.trans (congrArg some (by kernel_rfl))
  f284 := Tryz.func126.trans (congrArg some (by kernel_rfl))
  f285 := Tryz.func127.trans (congrArg some (by kernel_rfl))
  f286 := Tryz.func128.trans (congrArg some (by kernel_rfl))
  f287 := Tryz.func122.trans (congrArg some (by kernel_rfl))
  f316 := Tryz.func123.trans (congrArg some (by kernel_rfl))
  f317 := Tryz.func133.trans (congrArg some (by kernel_rfl))
  f318 := Tryz.func135.trans (congrArg some (by kernel_rfl))
  f319 := Tryz.func136.trans (congrArg some (by kernel_rfl))
  f320 := Tryz.func137.trans (congrArg some (by kernel_rfl))
  f321 := Tryz.func131.trans (congrArg some (by kernel_rfl))
  f322 := Tryz.func132.trans (congrArg some (by kernel_rfl))
  f337 := Tryz.func138.trans (congrArg some (by kernel_rfl))
  f338 := Tryz.func139.trans (congrArg some (by kernel_rfl))
  t0 := Tryz.underlying0
  a0 := Tryz.isAgg0
  z0 := Tryz.sizeOf0
  v0 := Tryz.zeroValue0
  t2 := Tryz.underlying2
  a2 := Tryz.isAgg2
  z2 := Tryz.sizeOf2
  v2 := Tryz.zeroValue2
  t3 := Tryz.underlying3
  a3 := Tryz.isAgg3
  z3 := Tryz.sizeOf3
  v3 := Tryz.zeroValue3
  t4 := Tryz.underlying4
  a4 := Tryz.isAgg4
  z4 := Tryz.sizeOf4
  v4 := Tryz.zeroValue4
  t5 := Tryz.underlying5
  a5 := Tryz.isAgg5
  z5 := Tryz.sizeOf5
  v5 := Tryz.zeroValue5
  t9 := Tryz.underlying9
  a9 := Tryz.isAgg9
  z9 := Tryz.sizeOf9
  v9 := Tryz.zeroValue9
  t20 := Tryz.underlying20
  a20 := Tryz.isAgg20
  z20 := Tryz.sizeOf20
  v20 := Tryz.zeroValue20
  t21 := Tryz.underlying21
  a21 := Tryz.isAgg21
  z21 := Tryz.sizeOf21
  v21 := Tryz.zeroValue21
  t37 := Tryz.underlying22
  a37 := Tryz.isAgg22
  z37 := Tryz.sizeOf22
  v37 := Tryz.zeroValue22
  t46 := Tryz.underlying129
  a46 := Tryz.isAgg129
  z46 := Tryz.sizeOf129
  v46 := Tryz.zeroValue129
  t51 := Tryz.underlying150
  a51 := Tryz.isAgg150
  z51 := Tryz.sizeOf150
  v51 := Tryz.zeroValue150
  t53 := Tryz.underlying153
  a53 := Tryz.isAgg153
  z53 := Tryz.sizeOf153
  v53 := Tryz.zeroValue153
  t75 := Tryz.underlying91
  a75 := Tryz.isAgg91
  z75 := Tryz.sizeOf91
  v75 := Tryz.zeroValue91
  t76 := Tryz.underlying107
  a76 := Tryz.isAgg107
  z76 := Tryz.sizeOf107
  v76 := Tryz.zeroValue107
  t85 := Tryz.underlying144
  a85 := Tryz.isAgg144
  z85 := Tryz.sizeOf144
  v85 := Tryz.zeroValue144
  t127 := Tryz.underlying156
  a127 := Tryz.isAgg156
  z127 := Tryz.sizeOf156
  v127 := Tryz.zeroValue156
  t143 := Tryz.underlying172
  a143 := Tryz.isAgg172
  z143 := Tryz.sizeOf172
  v143 := Tryz.zeroValue172
  t145 := Tryz.underlying174
  a145 := Tryz.isAgg174
  z145 := Tryz.sizeOf174
  v145 := Tryz.zeroValue174
  t167 := Tryz.underlying143
  a167 := Tryz.isAgg143
  z167 := Tryz.sizeOf143
  v167 := Tryz.zeroValue143
  t168 := Tryz.underlying146
  a168 := Tryz.isAgg146
  z168 := Tryz.sizeOf146
  v168 := Tryz.zeroValue146
  t171 := Tryz.underlying163
  a171 := Tryz.isAgg163
  z171 := Tryz.sizeOf163
  v171 := Tryz.zeroValue163
  t173 := Tryz.underlying166
  a173 := Tryz.isAgg166
  z173 := Tryz.sizeOf166
  v173 := Tryz.zeroValue166
  t175 := Tryz.underlying157
  a175 := Tryz.isAgg157
  z175 := Tryz.sizeOf157
  v175 := Tryz.zeroValue157
  t210 := Tryz.underlying161
  a210 := Tryz.isAgg161
  z210 := Tryz.sizeOf161
  v210 := Tryz.zeroValue161
  t212 := Tryz.underlying175
  a212 := Tryz.isAgg175
  z212 := Tryz.sizeOf175
  v212 := Tryz.zeroValue175
  t213 := Tryz.underlying176
  a213 := Tryz.isAgg176
  z213 := Tryz.sizeOf176
  t232 := Tryz.underlying180
  a232 := Tryz.isAgg180
  z232 := Tryz.sizeOf180
  v232 := Tryz.zeroValue180
  t233 := Tryz.underlying181
  a233 := Tryz.isAgg181
  z233 := Tryz.sizeOf181
  v233 := Tryz.zeroValue181
  g15 := by kernel_rfl
  g16 := by kernel_rfl
  g17 := by kernel_rfl
  g18 := by kernel_rfl
  g19 := by kernel_rfl
  t80 := Tryz.underlying142
  a80 := Tryz.isAgg142
  z80 := Tryz.sizeOf142
  v80 := Tryz.zeroValue142
  i0 := by kernel_rfl
  i2 := by kernel_rfl
  i3 := by kernel_rfl
  i4 := by kernel_rfl
  i5 := by kernel_rfl
  i9 := by kernel_rfl
  i20 := by kernel_rfl
  i21 := by kernel_rfl
  i37 := by kernel_rfl
  i46 := by kernel_rfl
  i51 := by kernel_rfl
  i53 := by kernel_rfl
  i75 := by kernel_rfl
  i76 := by kernel_rfl
  i80 := by kernel_rfl
  i85 := by kernel_rfl
  i127 := by kernel_rfl
  i143 := by kernel_rfl
  i145 := by kernel_rfl
  i167 := by kernel_rfl
  i168 := by kernel_rfl
  i171 := by kernel_rfl
  i173 := by kernel_rfl
  i175 := by kernel_rfl
  i210 := by kernel_rfl
  i212 := by kernel_rfl
  i232 := by kernel_rfl
  i233 := by kernel_rfl
  m15 := by kernel_rfl
  m16 := by kernel_rfl
  m17 := by kernel_rfl
  m18 := by kernel_rfl
  m19 := by kernel_rfl
  c0 := by kernel_rfl
  c2 := by kernel_rfl
  c3 := by kernel_rfl
  c4 := by kernel_rfl
  c5 := by kernel_rfl
  c9 := by kernel_rfl
  c20 := by kernel_rfl
  c21 := by kernel_rfl
  c37 := by kernel_rfl
  c46 := by kernel_rfl
  c51 := by kernel_rfl
  c53 := by kernel_rfl
  c75 := by kernel_rfl
  c76 := by kernel_rfl
  c80 := by kernel_rfl
  c85 := by kernel_rfl
  c127 := by kernel_rfl
  c143 := by kernel_rfl
  c145 := by kernel_rfl
  c167 := by kernel_rfl
  c168 := by kernel_rfl
  c171 := by kernel_rfl
  c173 := by kernel_rfl
  c175 := by kernel_rfl
  c210 := by kernel_rfl
  c212 := by kernel_rfl
  c213 := by kernel_rfl
  c232 := by kernel_rfl
  c233 := by kernel_rfl }
open Go.RowKit in
theorem Tryz.strconv_Atoi_ok (s : ByteArray) (hmax : s.size ≤ 9223372036854775806) (v : Int) (h : Lib.atoiAll s.data.toList = .ok v) (w : World) :
    Calls Tryz.prog 73 #[.string s] w fun e w' => e = .returned (.tuple #[.int .i64 v, .nilIface]) ∧ (w' = w ∨ ∃ t, w' = Lib.bytesWorld w 5 t) := Any.strconv_Atoi_ok Tryz.laysC172 s hmax v h w
open Go.RowKit in
open Go.RowKit in
theorem Tryz.strconv_Atoi_range (s : ByteArray) (hlim : s.size ≤ 281474976710656) (h : Lib.atoiAll s.data.toList = .range) (ev : Value) (w : World) (hv : w.cell? ⟨1, 0, none⟩ = some ev) (hev : ev = .nilIface ∨ ∃ te pe, ev = .iface te pe) :
    Calls Tryz.prog 73 #[.string s] w fun e w' => ∃ N, e = .returned (.tuple #[.int .i64 (Lib.atoiSat s.data.toList), .iface 146 (.pointer (some ⟨N, 0, none⟩))]) ∧ w.heap.size ≤ N ∧ w'.heap[N]? = some (.cells #[.string ⟨#[65, 116, 111, 105]⟩, .string s, ev] 161 (0, 0)) ∧ Below w.heap.size w w' := Any.strconv_Atoi_range Tryz.laysC172 s hlim h ev w hv hev
def Tryz.lays105_ren : Go.Shelf.Ren := ⟨fun | 105 => 99 | 212 => 105 | 99 => 106 | 165 => 107 | 166 => 108 | 170 => 109 | 169 => 110 | 263 => 117 | 264 => 118 | 206 => 119 | 240 => 120 | 241 => 121 | 276 => 129 | 277 => 130 | n => n, fun | 9 => 9 | 3 => 3 | 4 => 4 | 20 => 20 | 0 => 0 | 46 => 129 | 109 => 135 | 5 => 5 | 72 => 140 | 76 => 107 | 51 => 150 | 146 => 151 | 53 => 153 | 148 => 154 | 70 => 138 | 37 => 22 | 75 => 91 | 127 => 156 | 164 => 168 | 80 => 142 | n => n, fun | n => n⟩
theorem Tryz.lays105 : Go.Proofs.Lays.n105 Tryz.prog Tryz.lays105_ren := {
  mixed := by kernel_rfl
  f99 := Tryz.func106.trans (congrArg some (by kernel_rfl))
  f105 := Tryz.func99.trans (congrArg some (by kernel_rfl))
  f165 := Tryz.func107.trans (congrArg some (by kernel_rfl))
  f166 := Tryz.func108.trans (congrArg some (by kernel_rfl))
  f169 := Tryz.func110.trans (congrArg some (by kernel_rfl))
  f170 := Tryz.func109.trans (congrArg some (by kernel_rfl))
  f206 := Tryz.func119.trans (congrArg some (by kernel_rfl))
  f212 := Tryz.func105.trans (congrArg some (by kernel_rfl))
  f240 := Tryz.func120.trans (congrArg some (by kernel_rfl))
  f241 := Tryz.func121.trans (congrArg some (by kernel_rfl))
  f263 := Tryz.func117.trans (congrArg some (by kernel_rfl))
  f264 := Tryz.func118.trans (congrArg some (by kernel_rfl))
  f276 := Tryz.func129.trans (congrArg some (by kernel_rfl))
  f277 := Tryz.func130.trans (congrArg some (by kernel_rfl))
  t0 := Tryz.underlying0
  a0 := Tryz.isAgg0
  z0 := Tryz.sizeOf0
  v0 := Tryz.zeroValue0
  t3 := Tryz.underlying3
  a3 := Tryz.isAgg3
  z3 := Tryz.sizeOf3
  v3 := Tryz.zeroValue3
  t4 := Tryz.underlying4
  a4 := Tryz.isAgg4
  z4 := Tryz.sizeOf4
  v4 := Tryz.zeroValue4
  t5 := Tryz.underlying5
  a5 := Tryz.isAgg5
  z5 := Tryz.sizeOf5
  v5 := Tryz.zeroValue5
  t9 := Tryz.underlying9
  a9 := Tryz.isAgg9
  z9 := Tryz.sizeOf9
  v9 := Tryz.zeroValue9
  t20 := Tryz.underlying20
  a20 := Tryz.isAgg20
  z20 := Tryz.sizeOf20
  v20 := Tryz.zeroValue20
  t37 := Tryz.underlying22
  a37 := Tryz.isAgg22
  z37 := Tryz.sizeOf22
  v37 := Tryz.zeroValue22
  t46 := Tryz.underlying129
  a46 := Tryz.isAgg129
  z46 := Tryz.sizeOf129
  v46 := Tryz.zeroValue129
  t51 := Tryz.underlying150
  a51 := Tryz.isAgg150
  z51 := Tryz.sizeOf150
  v51 := Tryz.zeroValue150
  t53 := Tryz.underlying153
  a53 := Tryz.isAgg153
  z53 := Tryz.sizeOf153
  v53 := Tryz.zeroValue153
  t70 := Tryz.underlying138
  a70 := Tryz.isAgg138
  z70 := Tryz.sizeOf138
  v70 := Tryz.zeroValue138
  t72 := Tryz.underlying140
  a72 := Tryz.isAgg140
  z72 := Tryz.sizeOf140
  v72 := Tryz.zeroValue140
  t75 := Tryz.underlying91
  a75 := Tryz.isAgg91
  z75 := Tryz.sizeOf91
  v75 := Tryz.zeroValue91
  t76 := Tryz.underlying107
  a76 := Tryz.isAgg107
  z76 := Tryz.sizeOf107
  v76 := Tryz.zeroValue107
  t109 := Tryz.underlying135
  a109 := Tryz.isAgg135
  z109 := Tryz.sizeOf135
  v109 := Tryz.zeroValue135
  t127 := Tryz.underlying156
  a127 := Tryz.isAgg156
  z127 := Tryz.sizeOf156
  v127 := Tryz.zeroValue156
  t146 := Tryz.underlying151
  a146 := Tryz.isAgg151
  z146 := Tryz.sizeOf151
  v146 := Tryz.zeroValue151
  t148 := Tryz.underlying154
  a148 := Tryz.isAgg154
  z148 := Tryz.sizeOf154
  v148 := Tryz.zeroValue154
  t164 := Tryz.underlying168
  a164 := Tryz.isAgg168
  z164 := Tryz.sizeOf168
  v164 := Tryz.zeroValue168 }
theorem Tryz.Builder_Extra_105 : Builder.Extra Tryz.prog Tryz.lays105_ren := {
  sizeBuilder := by kernel_rfl
  liesBuilder := by kernel_rfl
  t5 := Tryz.underlying5
  a5 := Tryz.isAgg5
  z5 := Tryz.sizeOf5
  v5 := Tryz.zeroValue5
  infoByte := by kernel_rfl
  cellsByte := by kernel_rfl
  sizeByte := by kernel_rfl
  neB5 := by decide }
open Go.RowKit Go.Lib in
open Go.RowKit Go.Lib in
open Go.RowKit Go.Lib in
open Go.RowKit Go.Lib in
open Go.RowKit Go.Lib in
open Go.RowKit Go.Lib in
open Go.RowKit Go.Lib in
theorem Tryz.strings_Repeat (s : ByteArray) (c : Nat) (w : World) (hc : c ≤ 9223372036854775807) (hlen : s.size * c ≤ 140737488355328) :
    Calls Tryz.prog 99 #[.string s, .int .i64 c] w fun e w' => e = .returned (.string ⟨(Lib.repeatL s.data.toList c).toArray⟩) ∧ Below w.heap.size w w' := Any.strings_Repeat Tryz.lays105 Tryz.Builder_Extra_105 s c w hc hlen
end Go.Proofs
end
section
set_option linter.unusedVariables false
namespace Go.Al
open Go
def dig (n : Nat) : UInt8 := UInt8.ofNat (48 + n % 10)
def dN : Nat → Nat → List UInt8
  | 0, _ => []
  | k + 1, n => dN k (n / 10) ++ [dig n]
theorem dN_length : ∀ k n, (dN k n).length = k
  | 0, _ => rfl
  | k + 1, n => by simp [dN, dN_length k]
theorem dN_zero : ∀ k, dN k 0 = List.replicate k 48
  | 0 => rfl
  | k + 1 => by
    rw [dN, Nat.zero_div, dN_zero k, List.replicate_succ']; rfl
theorem dec_big {n : Nat} (h : ¬ n < 10) : Lib.decDigits n = Lib.decDigits (n / 10) ++ [dig n] := by
  rw [Lib.decDigits, dif_neg h]; rfl
theorem dec_small {n : Nat} (h : n < 10) : Lib.decDigits n = [dig n] := by
  rw [Lib.decDigits, dif_pos h, dig, Nat.mod_eq_of_lt h]
theorem dec_pad : ∀ (k n : Nat), n < 10 ^ (k + 1) → (Lib.decDigits n).length ≤ k + 1 ∧ List.replicate (k + 1 - (Lib.decDigits n).length) 48 ++ Lib.decDigits n = dN (k + 1) n := by
  intro k
  induction k with
  | zero =>
    intro n h
    have h1 : n < 10 := by simpa using h
    rw [dec_small h1]
    simp [dN]
  | succ k ih =>
    intro n h
    by_cases h1 : n < 10
    · rw [dec_small h1]
      refine ⟨by simp, ?_⟩
      rw [dN, Nat.div_eq_of_lt h1, dN_zero]
      simp
    · rw [dec_big h1]
      obtain ⟨h2, h3⟩ := ih (n / 10) (by rw [Nat.pow_succ] at h; omega)
      refine ⟨by simp; exact h2, ?_⟩
      rw [dN, ← h3, List.length_append, ← List.append_assoc]
      simp
def cl (n : Int) : Nat := (max 0 (min n 9999999999)).toNat
theorem cl_lt (n : Int) : cl n < 10 ^ 10 := by unfold cl; omega
def rkey (v : Nat) (t : UInt8) (id seq : Int) : List UInt8 := [UInt8.ofNat (48 + v), t] ++ dN 10 (cl id) ++ dN 10 (cl seq)
theorem rkey_length (v : Nat) (t : UInt8) (id seq : Int) : (rkey v t id seq).length = 22 := by simp [rkey, dN_length]
theorem digitVal_dig (n : Nat) : Lib.digitVal (dig n) = some (n % 10) := by
  have e : (dig n).toNat = 48 + n % 10 := by simp [dig]; omega
  rw [Lib.digitVal, e, if_pos (by omega)]; simp
theorem decFrom_append : ∀ (a b : List UInt8) (acc m : Nat), Lib.decFrom acc a = some m → Lib.decFrom acc (a ++ b) = Lib.decFrom m b
  | [], b, acc, m, h => by simp only [Lib.decFrom, Option.some.injEq] at h; subst h; rfl
  | x :: a, b, acc, m, h => by
    simp only [List.cons_append, Lib.decFrom] at h ⊢
    cases hx : Lib.digitVal x with
    | none => simp [hx] at h
    | some d => simp only [hx] at h ⊢; exact decFrom_append a b _ m h
theorem decFrom_dN : ∀ (k n acc : Nat), Lib.decFrom acc (dN k n) = some (acc * 10 ^ k + n % 10 ^ k)
  | 0, n, acc => by simp [dN, Lib.decFrom, Nat.mod_one]
  | k + 1, n, acc => by
    rw [dN, decFrom_append _ _ _ _ (decFrom_dN k (n / 10) acc)]
    simp only [Lib.decFrom, digitVal_dig, Option.some.injEq]
    have h1 : n % 10 ^ (k + 1) = n / 10 % 10 ^ k * 10 + n % 10 := by
      rw [Nat.pow_succ, Nat.mul_comm (10 ^ k) 10, Nat.mod_mul, Nat.mul_comm 10, Nat.add_comm]
    rw [h1, Nat.pow_succ, ← Nat.mul_assoc, Nat.add_mul]; omega
theorem dig_ge (n : Nat) : 48 ≤ (dig n).toNat ∧ (dig n).toNat ≤ 57 := by
  have e : (dig n).toNat = 48 + n % 10 := by simp [dig]; omega
  omega
theorem dN_digits : ∀ (k n : Nat), ∀ b ∈ dN k n, 48 ≤ b.toNat ∧ b.toNat ≤ 57
  | 0, n, b, h => by simp [dN] at h
  | k + 1, n, b, h => by
    rw [dN, List.mem_append] at h
    rcases h with h | h
    · exact dN_digits k _ b h
    · obtain rfl : b = dig n := by simpa using h
      exact dig_ge n
theorem atoi_dN (k n : Nat) (h : n < 10 ^ (k + 1)) : Lib.atoi (dN (k + 1) n) = some n := by
  have hd := dN_digits (k + 1) n
  have hf := decFrom_dN (k + 1) n 0
  have hl := dN_length (k + 1) n
  generalize dN (k + 1) n = l at hd hf hl
  cases l with
  | nil => simp at hl
  | cons b r =>
    have h1 := hd b (by simp)
    have n1 : (b == 45) = false := by
      rw [beq_eq_false_iff_ne]; rintro rfl; simp at h1
    have n2 : (b == 43) = false := by
      rw [beq_eq_false_iff_ne]; rintro rfl; simp at h1
    rw [Lib.atoi, n1, n2]
    simp only [Bool.false_eq_true, if_false, Lib.decNat, List.isEmpty_cons, hf, Option.map_some]
    simp [Nat.mod_eq_of_lt h]
end Go.Al
end
section
set_option linter.unusedVariables false
namespace Go.Proofs.YtkbmkhhcppfcnaaGreatDoor.Ty
open Go.Al
theorem mixed : Tryz.prog.follows .mixedOrders = true := by kernel_rfl
theorem size1 : (Tryz.prog.info? 1).map (·.size) = some 1 := by kernel_rfl
theorem size2 : (Tryz.prog.info? 2).map (·.size) = some 1 := by kernel_rfl
theorem size3 : (Tryz.prog.info? 3).map (·.size) = some 1 := by kernel_rfl
theorem zero3 : (Tryz.prog.info? 3).bind (·.zero) = some (.int .i64 0) := by kernel_rfl
theorem size4 : (Tryz.prog.info? 4).map (·.size) = some 1 := by kernel_rfl
theorem size5 : (Tryz.prog.info? 5).map (·.size) = some 1 := by kernel_rfl
theorem zero5 : (Tryz.prog.info? 5).bind (·.zero) = some (.int .u8 0) := by kernel_rfl
theorem size9 : (Tryz.prog.info? 9).map (·.size) = some 1 := by kernel_rfl
theorem zero9 : (Tryz.prog.info? 9).bind (·.zero) = some (.string ⟨#[]⟩) := by kernel_rfl
theorem size20 : (Tryz.prog.info? 20).map (·.size) = some 1 := by kernel_rfl
theorem zero20 : (Tryz.prog.info? 20).bind (·.zero) = some .nilIface := by kernel_rfl
theorem size21 : (Tryz.prog.info? 21).map (·.size) = some 1 := by kernel_rfl
theorem size22 : (Tryz.prog.info? 22).map (·.size) = some 1 := by kernel_rfl
theorem size24 : (Tryz.prog.info? 24).map (·.size) = some 1 := by kernel_rfl
theorem size25 : (Tryz.prog.info? 25).map (·.size) = some 1 := by kernel_rfl
theorem size27 : (Tryz.prog.info? 27).map (·.size) = some 10 := by kernel_rfl
theorem zero27 : (Tryz.prog.info? 27).bind (·.zero) = some (.agg #[(.int .i64 0), (.string ⟨#[]⟩), (.string ⟨#[]⟩), (.string ⟨#[]⟩), (.int .i64 0), (.int .i64 0), (.int .i64 0), (.slice none 0 0), (.slice none 0 0), (.string ⟨#[]⟩)]) := by kernel_rfl
theorem size30 : (Tryz.prog.info? 30).map (·.size) = some 1 := by kernel_rfl
theorem size35 : (Tryz.prog.info? 35).map (·.size) = some 1 := by kernel_rfl
theorem size41 : (Tryz.prog.info? 41).map (·.size) = some 2 := by kernel_rfl
theorem zero41 : (Tryz.prog.info? 41).bind (·.zero) = some (.agg #[(.string ⟨#[]⟩), (.slice none 0 0)]) := by kernel_rfl
theorem size43 : (Tryz.prog.info? 43).map (·.size) = some 1 := by kernel_rfl
theorem size44 : (Tryz.prog.info? 44).map (·.size) = some 1 := by kernel_rfl
theorem size46 : (Tryz.prog.info? 46).map (·.size) = some 8 := by kernel_rfl
theorem zero46 : (Tryz.prog.info? 46).bind (·.zero) = some (.agg #[(.int .i64 0), (.string ⟨#[]⟩), (.string ⟨#[]⟩), (.int .i64 0), (.int .i64 0), (.bool false), (.string ⟨#[]⟩), (.int .i64 0)]) := by kernel_rfl
theorem size58 : (Tryz.prog.info? 58).map (·.size) = some 1 := by kernel_rfl
theorem size60 : (Tryz.prog.info? 60).map (·.size) = some 1 := by kernel_rfl
theorem size62 : (Tryz.prog.info? 62).map (·.size) = some 12 := by kernel_rfl
theorem zero62 : (Tryz.prog.info? 62).bind (·.zero) = some (.agg #[(.int .i64 0), (.string ⟨#[]⟩), (.string ⟨#[]⟩), (.string ⟨#[]⟩), (.int .i64 0), (.int .i64 0), (.int .i64 0), (.slice none 0 0), (.slice none 0 0), (.string ⟨#[]⟩), (.int .i64 0), (.pointer none)]) := by kernel_rfl
theorem size63 : (Tryz.prog.info? 63).map (·.size) = some 1 := by kernel_rfl
theorem size67 : (Tryz.prog.info? 67).map (·.size) = some 3 := by kernel_rfl
theorem zero67 : (Tryz.prog.info? 67).bind (·.zero) = some (.agg #[(.slice none 0 0), (.int .i64 0), (.bool false)]) := by kernel_rfl
theorem size71 : (Tryz.prog.info? 71).map (·.size) = some 1 := by kernel_rfl
theorem size74 : (Tryz.prog.info? 74).map (·.size) = some 1 := by kernel_rfl
theorem size76 : (Tryz.prog.info? 76).map (·.size) = some 1 := by kernel_rfl
theorem size78 : (Tryz.prog.info? 78).map (·.size) = some 2 := by kernel_rfl
theorem zero78 : (Tryz.prog.info? 78).bind (·.zero) = some (.agg #[(.int .u8 0), .nilFunc]) := by kernel_rfl
theorem size79 : (Tryz.prog.info? 79).map (·.size) = some 12 := by kernel_rfl
theorem zero79 : (Tryz.prog.info? 79).bind (·.zero) = some (.agg #[(.int .u8 0), .nilFunc, (.int .u8 0), .nilFunc, (.int .u8 0), .nilFunc, (.int .u8 0), .nilFunc, (.int .u8 0), .nilFunc, (.int .u8 0), .nilFunc]) := by kernel_rfl
theorem size81 : (Tryz.prog.info? 81).map (·.size) = some 1 := by kernel_rfl
theorem size82 : (Tryz.prog.info? 82).map (·.size) = some 1 := by kernel_rfl
theorem size84 : (Tryz.prog.info? 84).map (·.size) = some 1 := by kernel_rfl
theorem size86 : (Tryz.prog.info? 86).map (·.size) = some 3 := by kernel_rfl
theorem zero86 : (Tryz.prog.info? 86).bind (·.zero) = some (.agg #[(.slice none 0 0), (.int .i64 0), (.bool false)]) := by kernel_rfl
theorem size87 : (Tryz.prog.info? 87).map (·.size) = some 1 := by kernel_rfl
theorem size89 : (Tryz.prog.info? 89).map (·.size) = some 2 := by kernel_rfl
theorem zero89 : (Tryz.prog.info? 89).bind (·.zero) = some (.agg #[(.slice none 0 0), (.int .i64 0)]) := by kernel_rfl
theorem size91 : (Tryz.prog.info? 91).map (·.size) = some 1 := by kernel_rfl
theorem size93 : (Tryz.prog.info? 93).map (·.size) = some 3 := by kernel_rfl
theorem zero93 : (Tryz.prog.info? 93).bind (·.zero) = some (.agg #[(.slice none 0 0), (.int .i64 0), .nilIface]) := by kernel_rfl
theorem size97 : (Tryz.prog.info? 97).map (·.size) = some 1 := by kernel_rfl
theorem size103 : (Tryz.prog.info? 103).map (·.size) = some 1 := by kernel_rfl
theorem size111 : (Tryz.prog.info? 111).map (·.size) = some 1 := by kernel_rfl
theorem size114 : (Tryz.prog.info? 114).map (·.size) = some 1 := by kernel_rfl
theorem size117 : (Tryz.prog.info? 117).map (·.size) = some 1 := by kernel_rfl
theorem size118 : (Tryz.prog.info? 118).map (·.size) = some 1 := by kernel_rfl
theorem size120 : (Tryz.prog.info? 120).map (·.size) = some 3 := by kernel_rfl
theorem zero120 : (Tryz.prog.info? 120).bind (·.zero) = some (.agg #[(.string ⟨#[]⟩), (.string ⟨#[]⟩), (.string ⟨#[]⟩)]) := by kernel_rfl
theorem size126 : (Tryz.prog.info? 126).map (·.size) = some 1 := by kernel_rfl
theorem size129 : (Tryz.prog.info? 129).map (·.size) = some 1 := by kernel_rfl
theorem size134 : (Tryz.prog.info? 134).map (·.size) = some 1 := by kernel_rfl
theorem zero134 : (Tryz.prog.info? 134).bind (·.zero) = some (.agg #[(.int .u16 0)]) := by kernel_rfl
theorem size138 : (Tryz.prog.info? 138).map (·.size) = some 1 := by kernel_rfl
theorem size140 : (Tryz.prog.info? 140).map (·.size) = some 2 := by kernel_rfl
theorem zero140 : (Tryz.prog.info? 140).bind (·.zero) = some (.agg #[(.pointer none), (.slice none 0 0)]) := by kernel_rfl
theorem size143 : (Tryz.prog.info? 143).map (·.size) = some 1 := by kernel_rfl
theorem size146 : (Tryz.prog.info? 146).map (·.size) = some 1 := by kernel_rfl
theorem size150 : (Tryz.prog.info? 150).map (·.size) = some 1 := by kernel_rfl
theorem size153 : (Tryz.prog.info? 153).map (·.size) = some 1 := by kernel_rfl
theorem size156 : (Tryz.prog.info? 156).map (·.size) = some 1 := by kernel_rfl
theorem size161 : (Tryz.prog.info? 161).map (·.size) = some 3 := by kernel_rfl
theorem zero161 : (Tryz.prog.info? 161).bind (·.zero) = some (.agg #[(.string ⟨#[]⟩), (.string ⟨#[]⟩), .nilIface]) := by kernel_rfl
theorem size163 : (Tryz.prog.info? 163).map (·.size) = some 24 := by kernel_rfl
theorem zero163 : (Tryz.prog.info? 163).bind (·.zero) = some (.agg #[(.int .u8 0), (.int .u8 0), (.int .u8 0), (.int .u8 0), (.int .u8 0), (.int .u8 0), (.int .u8 0), (.int .u8 0), (.int .u8 0), (.int .u8 0), (.int .u8 0), (.int .u8 0), (.int .u8 0), (.int .u8 0), (.int .u8 0), (.int .u8 0), (.int .u8 0), (.int .u8 0), (.int .u8 0), (.int .u8 0), (.int .u8 0), (.int .u8 0), (.int .u8 0), (.int .u8 0)]) := by kernel_rfl
theorem size168 : (Tryz.prog.info? 168).map (·.size) = some 1 := by kernel_rfl
theorem size172 : (Tryz.prog.info? 172).map (·.size) = some 1 := by kernel_rfl
theorem size174 : (Tryz.prog.info? 174).map (·.size) = some 1 := by kernel_rfl
theorem zero174 : (Tryz.prog.info? 174).bind (·.zero) = some (.agg #[(.string ⟨#[]⟩)]) := by kernel_rfl
theorem size175 : (Tryz.prog.info? 175).map (·.size) = some 20 := by kernel_rfl
theorem zero175 : (Tryz.prog.info? 175).bind (·.zero) = some (.agg #[(.int .u64 0), (.int .u64 0), (.int .u64 0), (.int .u64 0), (.int .u64 0), (.int .u64 0), (.int .u64 0), (.int .u64 0), (.int .u64 0), (.int .u64 0), (.int .u64 0), (.int .u64 0), (.int .u64 0), (.int .u64 0), (.int .u64 0), (.int .u64 0), (.int .u64 0), (.int .u64 0), (.int .u64 0), (.int .u64 0)]) := by kernel_rfl
theorem size176 : (Tryz.prog.info? 176).map (·.size) = some 65 := by kernel_rfl
theorem zero176 : (Tryz.prog.info? 176).bind (·.zero) = some (.agg #[(.int .u8 0), (.int .u8 0), (.int .u8 0), (.int .u8 0), (.int .u8 0), (.int .u8 0), (.int .u8 0), (.int .u8 0), (.int .u8 0), (.int .u8 0), (.int .u8 0), (.int .u8 0), (.int .u8 0), (.int .u8 0), (.int .u8 0), (.int .u8 0), (.int .u8 0), (.int .u8 0), (.int .u8 0), (.int .u8 0), (.int .u8 0), (.int .u8 0), (.int .u8 0), (.int .u8 0), (.int .u8 0), (.int .u8 0), (.int .u8 0), (.int .u8 0), (.int .u8 0), (.int .u8 0), (.int .u8 0), (.int .u8 0), (.int .u8 0), (.int .u8 0), (.int .u8 0), (.int .u8 0), (.int .u8 0), (.int .u8 0), (.int .u8 0), (.int .u8 0), (.int .u8 0), (.int .u8 0), (.int .u8 0), (.int .u8 0), (.int .u8 0), (.int .u8 0), (.int .u8 0), (.int .u8 0), (.int .u8 0), (.int .u8 0), (.int .u8 0), (.int .u8 0), (.int .u8 0), (.int .u8 0), (.int .u8 0), (.int .u8 0), (.int .u8 0), (.int .u8 0), (.int .u8 0), (.int .u8 0), (.int .u8 0), (.int .u8 0), (.int .u8 0), (.int .u8 0), (.int .u8 0)]) := by kernel_rfl
theorem size180 : (Tryz.prog.info? 180).map (·.size) = some 32 := by kernel_rfl
theorem zero180 : (Tryz.prog.info? 180).bind (·.zero) = some (.agg #[(.int .u8 0), (.int .u8 0), (.int .u8 0), (.int .u8 0), (.int .u8 0), (.int .u8 0), (.int .u8 0), (.int .u8 0), (.int .u8 0), (.int .u8 0), (.int .u8 0), (.int .u8 0), (.int .u8 0), (.int .u8 0), (.int .u8 0), (.int .u8 0), (.int .u8 0), (.int .u8 0), (.int .u8 0), (.int .u8 0), (.int .u8 0), (.int .u8 0), (.int .u8 0), (.int .u8 0), (.int .u8 0), (.int .u8 0), (.int .u8 0), (.int .u8 0), (.int .u8 0), (.int .u8 0), (.int .u8 0), (.int .u8 0)]) := by kernel_rfl
theorem size181 : (Tryz.prog.info? 181).map (·.size) = some 64 := by kernel_rfl
theorem zero181 : (Tryz.prog.info? 181).bind (·.zero) = some (.agg #[(.int .u8 0), (.int .u8 0), (.int .u8 0), (.int .u8 0), (.int .u8 0), (.int .u8 0), (.int .u8 0), (.int .u8 0), (.int .u8 0), (.int .u8 0), (.int .u8 0), (.int .u8 0), (.int .u8 0), (.int .u8 0), (.int .u8 0), (.int .u8 0), (.int .u8 0), (.int .u8 0), (.int .u8 0), (.int .u8 0), (.int .u8 0), (.int .u8 0), (.int .u8 0), (.int .u8 0), (.int .u8 0), (.int .u8 0), (.int .u8 0), (.int .u8 0), (.int .u8 0), (.int .u8 0), (.int .u8 0), (.int .u8 0), (.int .u8 0), (.int .u8 0), (.int .u8 0), (.int .u8 0), (.int .u8 0), (.int .u8 0), (.int .u8 0), (.int .u8 0), (.int .u8 0), (.int .u8 0), (.int .u8 0), (.int .u8 0), (.int .u8 0), (.int .u8 0), (.int .u8 0), (.int .u8 0), (.int .u8 0), (.int .u8 0), (.int .u8 0), (.int .u8 0), (.int .u8 0), (.int .u8 0), (.int .u8 0), (.int .u8 0), (.int .u8 0), (.int .u8 0), (.int .u8 0), (.int .u8 0), (.int .u8 0), (.int .u8 0), (.int .u8 0), (.int .u8 0)]) := by kernel_rfl
-- slice 22 of 5: 1 cells, 1 bytes
-- slice 24 of 3: 1 cells, 8 bytes
-- slice 25 of 46: 8 cells, 88 bytes
-- slice 30 of 41: 2 cells, 40 bytes
-- slice 58 of 9: 1 cells, 16 bytes
-- slice 97 of 5: 1 cells, 1 bytes
-- slice 103 of 20: 1 cells, 16 bytes
end Go.Proofs.YtkbmkhhcppfcnaaGreatDoor.Ty
end
section
set_option linter.unusedVariables false
namespace Go.Proofs.YtkbmkhhcppfcnaaGreatDoor.Ty
open Go.Al
instance : TyA Tryz.prog 1 false := ⟨_, Tryz.underlying1, rfl⟩
instance : TyS Tryz.prog 1 1 := ⟨Ty.size1⟩
instance : TyU Tryz.prog 2 (.int .i64) := ⟨Tryz.underlying2⟩
instance : TyA Tryz.prog 2 false := ⟨_, Tryz.underlying2, rfl⟩
instance : TyS Tryz.prog 2 1 := ⟨Ty.size2⟩
instance : TyU Tryz.prog 3 (.int .i64) := ⟨Tryz.underlying3⟩
instance : TyA Tryz.prog 3 false := ⟨_, Tryz.underlying3, rfl⟩
instance : TyS Tryz.prog 3 1 := ⟨Ty.size3⟩
instance : TyU Tryz.prog 4 .bool := ⟨Tryz.underlying4⟩
instance : TyA Tryz.prog 4 false := ⟨_, Tryz.underlying4, rfl⟩
instance : TyS Tryz.prog 4 1 := ⟨Ty.size4⟩
instance : TyU Tryz.prog 5 (.int .u8) := ⟨Tryz.underlying5⟩
instance : TyA Tryz.prog 5 false := ⟨_, Tryz.underlying5, rfl⟩
instance : TyS Tryz.prog 5 1 := ⟨Ty.size5⟩
instance : TyU Tryz.prog 9 .string := ⟨Tryz.underlying9⟩
instance : TyA Tryz.prog 9 false := ⟨_, Tryz.underlying9, rfl⟩
instance : TyS Tryz.prog 9 1 := ⟨Ty.size9⟩
instance : TyA Tryz.prog 20 false := ⟨_, Tryz.underlying20, rfl⟩
instance : TyS Tryz.prog 20 1 := ⟨Ty.size20⟩
instance : TyU Tryz.prog 21 (.int .i32) := ⟨Tryz.underlying21⟩
instance : TyA Tryz.prog 21 false := ⟨_, Tryz.underlying21, rfl⟩
instance : TyS Tryz.prog 21 1 := ⟨Ty.size21⟩
instance : TyU Tryz.prog 22 (.slice 5) := ⟨Tryz.underlying22⟩
instance : TyA Tryz.prog 22 false := ⟨_, Tryz.underlying22, rfl⟩
instance : TyS Tryz.prog 22 1 := ⟨Ty.size22⟩
instance : SlI Tryz.prog 22 1 := .of (z := (.int .u8 0)) Tryz.underlying22 Ty.size5 Ty.zero5 rfl (by decide)
instance : TyU Tryz.prog 24 (.slice 3) := ⟨Tryz.underlying24⟩
instance : TyA Tryz.prog 24 false := ⟨_, Tryz.underlying24, rfl⟩
instance : TyS Tryz.prog 24 1 := ⟨Ty.size24⟩
instance : SlI Tryz.prog 24 1 := .of (z := (.int .i64 0)) Tryz.underlying24 Ty.size3 Ty.zero3 rfl (by decide)
instance : TyU Tryz.prog 25 (.slice 46) := ⟨Tryz.underlying25⟩
instance : TyA Tryz.prog 25 false := ⟨_, Tryz.underlying25, rfl⟩
instance : TyS Tryz.prog 25 1 := ⟨Ty.size25⟩
instance : SlI Tryz.prog 25 8 := .of (z := (.agg #[(.int .i64 0), (.string ⟨#[]⟩), (.string ⟨#[]⟩), (.int .i64 0), (.int .i64 0), (.bool false), (.string ⟨#[]⟩), (.int .i64 0)])) Tryz.underlying25 Ty.size46 Ty.zero46 rfl (by decide)
instance : TyA Tryz.prog 27 true := ⟨_, Tryz.underlying27, rfl⟩
instance : TyS Tryz.prog 27 10 := ⟨Ty.size27⟩
instance : BldI Tryz.prog 27 [(.int .i64 0), .str [], .str [], .str [], (.int .i64 0), (.int .i64 0), (.int .i64 0), .nils, .nils, .str []] [(0, 1), (1, 1), (2, 1), (3, 1), (4, 1), (5, 1), (6, 1), (7, 1), (8, 1), (9, 1)] := .struct (za := #[(.int .i64 0), (.string ⟨#[]⟩), (.string ⟨#[]⟩), (.string ⟨#[]⟩), (.int .i64 0), (.int .i64 0), (.int .i64 0), (.slice none 0 0), (.slice none 0 0), (.string ⟨#[]⟩)]) Tryz.underlying27 Ty.zero27 (by kernel_rfl) (by kernel_rfl) (by kernel_rfl) (by kernel_rfl)
instance : TyF Tryz.prog 27 0 3 0 1 false := ⟨_, _, _, Tryz.underlying27, rfl, rfl, rfl, Ty.size3, Tryz.underlying3, rfl⟩
instance : TyF Tryz.prog 27 1 9 1 1 false := ⟨_, _, _, Tryz.underlying27, rfl, rfl, rfl, Ty.size9, Tryz.underlying9, rfl⟩
instance : TyF Tryz.prog 27 2 9 2 1 false := ⟨_, _, _, Tryz.underlying27, rfl, rfl, rfl, Ty.size9, Tryz.underlying9, rfl⟩
instance : TyF Tryz.prog 27 3 9 3 1 false := ⟨_, _, _, Tryz.underlying27, rfl, rfl, rfl, Ty.size9, Tryz.underlying9, rfl⟩
instance : TyF Tryz.prog 27 4 3 4 1 false := ⟨_, _, _, Tryz.underlying27, rfl, rfl, rfl, Ty.size3, Tryz.underlying3, rfl⟩
instance : TyF Tryz.prog 27 5 3 5 1 false := ⟨_, _, _, Tryz.underlying27, rfl, rfl, rfl, Ty.size3, Tryz.underlying3, rfl⟩
instance : TyF Tryz.prog 27 6 3 6 1 false := ⟨_, _, _, Tryz.underlying27, rfl, rfl, rfl, Ty.size3, Tryz.underlying3, rfl⟩
instance : TyF Tryz.prog 27 7 24 7 1 false := ⟨_, _, _, Tryz.underlying27, rfl, rfl, rfl, Ty.size24, Tryz.underlying24, rfl⟩
instance : TyF Tryz.prog 27 8 25 8 1 false := ⟨_, _, _, Tryz.underlying27, rfl, rfl, rfl, Ty.size25, Tryz.underlying25, rfl⟩
instance : TyF Tryz.prog 27 9 9 9 1 false := ⟨_, _, _, Tryz.underlying27, rfl, rfl, rfl, Ty.size9, Tryz.underlying9, rfl⟩
instance : TyU Tryz.prog 30 (.slice 41) := ⟨Tryz.underlying30⟩
instance : TyA Tryz.prog 30 false := ⟨_, Tryz.underlying30, rfl⟩
instance : TyS Tryz.prog 30 1 := ⟨Ty.size30⟩
instance : SlI Tryz.prog 30 2 := .of (z := (.agg #[(.string ⟨#[]⟩), (.slice none 0 0)])) Tryz.underlying30 Ty.size41 Ty.zero41 rfl (by decide)
instance : TyU Tryz.prog 35 (.int .u16) := ⟨Tryz.underlying35⟩
instance : TyA Tryz.prog 35 false := ⟨_, Tryz.underlying35, rfl⟩
instance : TyS Tryz.prog 35 1 := ⟨Ty.size35⟩
instance : TyA Tryz.prog 41 true := ⟨_, Tryz.underlying41, rfl⟩
instance : TyS Tryz.prog 41 2 := ⟨Ty.size41⟩
instance : BldI Tryz.prog 41 [.str [], .nils] [(0, 1), (1, 1)] := .struct (za := #[(.string ⟨#[]⟩), (.slice none 0 0)]) Tryz.underlying41 Ty.zero41 (by kernel_rfl) (by kernel_rfl) (by kernel_rfl) (by kernel_rfl)
instance : TyF Tryz.prog 41 0 9 0 1 false := ⟨_, _, _, Tryz.underlying41, rfl, rfl, rfl, Ty.size9, Tryz.underlying9, rfl⟩
instance : TyF Tryz.prog 41 1 22 1 1 false := ⟨_, _, _, Tryz.underlying41, rfl, rfl, rfl, Ty.size22, Tryz.underlying22, rfl⟩
instance : TyA Tryz.prog 43 false := ⟨_, Tryz.underlying43, rfl⟩
instance : TyS Tryz.prog 43 1 := ⟨Ty.size43⟩
instance : TyA Tryz.prog 44 false := ⟨_, Tryz.underlying44, rfl⟩
instance : TyS Tryz.prog 44 1 := ⟨Ty.size44⟩
instance : TyA Tryz.prog 46 true := ⟨_, Tryz.underlying46, rfl⟩
instance : TyS Tryz.prog 46 8 := ⟨Ty.size46⟩
instance : BldI Tryz.prog 46 [(.int .i64 0), .str [], .str [], (.int .i64 0), (.int .i64 0), (.bool false), .str [], (.int .i64 0)] [(0, 1), (1, 1), (2, 1), (3, 1), (4, 1), (5, 1), (6, 1), (7, 1)] := .struct (za := #[(.int .i64 0), (.string ⟨#[]⟩), (.string ⟨#[]⟩), (.int .i64 0), (.int .i64 0), (.bool false), (.string ⟨#[]⟩), (.int .i64 0)]) Tryz.underlying46 Ty.zero46 (by kernel_rfl) (by kernel_rfl) (by kernel_rfl) (by kernel_rfl)
instance : TyF Tryz.prog 46 0 3 0 1 false := ⟨_, _, _, Tryz.underlying46, rfl, rfl, rfl, Ty.size3, Tryz.underlying3, rfl⟩
instance : TyF Tryz.prog 46 1 9 1 1 false := ⟨_, _, _, Tryz.underlying46, rfl, rfl, rfl, Ty.size9, Tryz.underlying9, rfl⟩
instance : TyF Tryz.prog 46 2 9 2 1 false := ⟨_, _, _, Tryz.underlying46, rfl, rfl, rfl, Ty.size9, Tryz.underlying9, rfl⟩
instance : TyF Tryz.prog 46 3 3 3 1 false := ⟨_, _, _, Tryz.underlying46, rfl, rfl, rfl, Ty.size3, Tryz.underlying3, rfl⟩
instance : TyF Tryz.prog 46 4 3 4 1 false := ⟨_, _, _, Tryz.underlying46, rfl, rfl, rfl, Ty.size3, Tryz.underlying3, rfl⟩
instance : TyF Tryz.prog 46 5 4 5 1 false := ⟨_, _, _, Tryz.underlying46, rfl, rfl, rfl, Ty.size4, Tryz.underlying4, rfl⟩
instance : TyF Tryz.prog 46 6 9 6 1 false := ⟨_, _, _, Tryz.underlying46, rfl, rfl, rfl, Ty.size9, Tryz.underlying9, rfl⟩
instance : TyF Tryz.prog 46 7 3 7 1 false := ⟨_, _, _, Tryz.underlying46, rfl, rfl, rfl, Ty.size3, Tryz.underlying3, rfl⟩
instance : TyU Tryz.prog 58 (.slice 9) := ⟨Tryz.underlying58⟩
instance : TyA Tryz.prog 58 false := ⟨_, Tryz.underlying58, rfl⟩
instance : TyS Tryz.prog 58 1 := ⟨Ty.size58⟩
instance : SlI Tryz.prog 58 1 := .of (z := (.string ⟨#[]⟩)) Tryz.underlying58 Ty.size9 Ty.zero9 rfl (by decide)
instance : TyU Tryz.prog 60 (.pointer 67) := ⟨Tryz.underlying60⟩
instance : TyA Tryz.prog 60 false := ⟨_, Tryz.underlying60, rfl⟩
instance : TyS Tryz.prog 60 1 := ⟨Ty.size60⟩
instance : TyA Tryz.prog 62 true := ⟨_, Tryz.underlying62, rfl⟩
instance : TyS Tryz.prog 62 12 := ⟨Ty.size62⟩
instance : BldI Tryz.prog 62 [(.int .i64 0), .str [], .str [], .str [], (.int .i64 0), (.int .i64 0), (.int .i64 0), .nils, .nils, .str [], (.int .i64 0), .nilp] [(0, 10), (10, 1), (11, 1)] := .struct (za := #[(.int .i64 0), (.string ⟨#[]⟩), (.string ⟨#[]⟩), (.string ⟨#[]⟩), (.int .i64 0), (.int .i64 0), (.int .i64 0), (.slice none 0 0), (.slice none 0 0), (.string ⟨#[]⟩), (.int .i64 0), (.pointer none)]) Tryz.underlying62 Ty.zero62 (by kernel_rfl) (by kernel_rfl) (by kernel_rfl) (by kernel_rfl)
instance : TyF Tryz.prog 62 0 27 0 10 true := ⟨_, _, _, Tryz.underlying62, rfl, rfl, rfl, Ty.size27, Tryz.underlying27, rfl⟩
instance : TyF Tryz.prog 62 1 3 10 1 false := ⟨_, _, _, Tryz.underlying62, rfl, rfl, rfl, Ty.size3, Tryz.underlying3, rfl⟩
instance : TyF Tryz.prog 62 2 60 11 1 false := ⟨_, _, _, Tryz.underlying62, rfl, rfl, rfl, Ty.size60, Tryz.underlying60, rfl⟩
instance : TyA Tryz.prog 63 false := ⟨_, Tryz.underlying63, rfl⟩
instance : TyS Tryz.prog 63 1 := ⟨Ty.size63⟩
instance : TyA Tryz.prog 67 true := ⟨_, Tryz.underlying67, rfl⟩
instance : TyS Tryz.prog 67 3 := ⟨Ty.size67⟩
instance : BldI Tryz.prog 67 [.nils, (.int .i64 0), (.bool false)] [(0, 1), (1, 1), (2, 1)] := .struct (za := #[(.slice none 0 0), (.int .i64 0), (.bool false)]) Tryz.underlying67 Ty.zero67 (by kernel_rfl) (by kernel_rfl) (by kernel_rfl) (by kernel_rfl)
instance : TyF Tryz.prog 67 0 22 0 1 false := ⟨_, _, _, Tryz.underlying67, rfl, rfl, rfl, Ty.size22, Tryz.underlying22, rfl⟩
instance : TyF Tryz.prog 67 1 3 1 1 false := ⟨_, _, _, Tryz.underlying67, rfl, rfl, rfl, Ty.size3, Tryz.underlying3, rfl⟩
instance : TyF Tryz.prog 67 2 4 2 1 false := ⟨_, _, _, Tryz.underlying67, rfl, rfl, rfl, Ty.size4, Tryz.underlying4, rfl⟩
instance : TyA Tryz.prog 71 false := ⟨_, Tryz.underlying71, rfl⟩
instance : TyS Tryz.prog 71 1 := ⟨Ty.size71⟩
instance : TyA Tryz.prog 74 false := ⟨_, Tryz.underlying74, rfl⟩
instance : TyS Tryz.prog 74 1 := ⟨Ty.size74⟩
instance : TyA Tryz.prog 76 false := ⟨_, Tryz.underlying76, rfl⟩
instance : TyS Tryz.prog 76 1 := ⟨Ty.size76⟩
instance : TyA Tryz.prog 78 true := ⟨_, Tryz.underlying78, rfl⟩
instance : TyS Tryz.prog 78 2 := ⟨Ty.size78⟩
instance : BldI Tryz.prog 78 [(.int .u8 0), .nilfn] [(0, 1), (1, 1)] := .struct (za := #[(.int .u8 0), .nilFunc]) Tryz.underlying78 Ty.zero78 (by kernel_rfl) (by kernel_rfl) (by kernel_rfl) (by kernel_rfl)
instance : TyF Tryz.prog 78 0 5 0 1 false := ⟨_, _, _, Tryz.underlying78, rfl, rfl, rfl, Ty.size5, Tryz.underlying5, rfl⟩
instance : TyF Tryz.prog 78 1 76 1 1 false := ⟨_, _, _, Tryz.underlying78, rfl, rfl, rfl, Ty.size76, Tryz.underlying76, rfl⟩
instance : TyU Tryz.prog 79 (.array 6 78) := ⟨Tryz.underlying79⟩
instance : TyA Tryz.prog 79 true := ⟨_, Tryz.underlying79, rfl⟩
instance : TyS Tryz.prog 79 12 := ⟨Ty.size79⟩
instance : BldI Tryz.prog 79 [(.int .u8 0), .nilfn, (.int .u8 0), .nilfn, (.int .u8 0), .nilfn, (.int .u8 0), .nilfn, (.int .u8 0), .nilfn, (.int .u8 0), .nilfn] ((List.range 6).map fun j => (j * 2, 2)) := .array (za := #[(.int .u8 0), .nilFunc, (.int .u8 0), .nilFunc, (.int .u8 0), .nilFunc, (.int .u8 0), .nilFunc, (.int .u8 0), .nilFunc, (.int .u8 0), .nilFunc]) Tryz.underlying79 Ty.zero79 (by kernel_rfl) Ty.size78 (by kernel_rfl)
instance : TyU Tryz.prog 81 (.pointer 27) := ⟨Tryz.underlying81⟩
instance : TyA Tryz.prog 81 false := ⟨_, Tryz.underlying81, rfl⟩
instance : TyS Tryz.prog 81 1 := ⟨Ty.size81⟩
instance : TyU Tryz.prog 82 (.pointer 46) := ⟨Tryz.underlying82⟩
instance : TyA Tryz.prog 82 false := ⟨_, Tryz.underlying82, rfl⟩
instance : TyS Tryz.prog 82 1 := ⟨Ty.size82⟩
instance : TyU Tryz.prog 84 (.pointer 86) := ⟨Tryz.underlying84⟩
instance : TyA Tryz.prog 84 false := ⟨_, Tryz.underlying84, rfl⟩
instance : TyS Tryz.prog 84 1 := ⟨Ty.size84⟩
instance : TyA Tryz.prog 86 true := ⟨_, Tryz.underlying86, rfl⟩
instance : TyS Tryz.prog 86 3 := ⟨Ty.size86⟩
instance : BldI Tryz.prog 86 [.nils, (.int .i64 0), (.bool false)] [(0, 1), (1, 1), (2, 1)] := .struct (za := #[(.slice none 0 0), (.int .i64 0), (.bool false)]) Tryz.underlying86 Ty.zero86 (by kernel_rfl) (by kernel_rfl) (by kernel_rfl) (by kernel_rfl)
instance : TyF Tryz.prog 86 0 22 0 1 false := ⟨_, _, _, Tryz.underlying86, rfl, rfl, rfl, Ty.size22, Tryz.underlying22, rfl⟩
instance : TyF Tryz.prog 86 1 3 1 1 false := ⟨_, _, _, Tryz.underlying86, rfl, rfl, rfl, Ty.size3, Tryz.underlying3, rfl⟩
instance : TyF Tryz.prog 86 2 4 2 1 false := ⟨_, _, _, Tryz.underlying86, rfl, rfl, rfl, Ty.size4, Tryz.underlying4, rfl⟩
instance : TyU Tryz.prog 87 (.pointer 93) := ⟨Tryz.underlying87⟩
instance : TyA Tryz.prog 87 false := ⟨_, Tryz.underlying87, rfl⟩
instance : TyS Tryz.prog 87 1 := ⟨Ty.size87⟩
instance : TyA Tryz.prog 89 true := ⟨_, Tryz.underlying89, rfl⟩
instance : TyS Tryz.prog 89 2 := ⟨Ty.size89⟩
instance : BldI Tryz.prog 89 [.nils, (.int .i64 0)] [(0, 1), (1, 1)] := .struct (za := #[(.slice none 0 0), (.int .i64 0)]) Tryz.underlying89 Ty.zero89 (by kernel_rfl) (by kernel_rfl) (by kernel_rfl) (by kernel_rfl)
instance : TyF Tryz.prog 89 0 22 0 1 false := ⟨_, _, _, Tryz.underlying89, rfl, rfl, rfl, Ty.size22, Tryz.underlying22, rfl⟩
instance : TyF Tryz.prog 89 1 3 1 1 false := ⟨_, _, _, Tryz.underlying89, rfl, rfl, rfl, Ty.size3, Tryz.underlying3, rfl⟩
instance : TyA Tryz.prog 91 false := ⟨_, Tryz.underlying91, rfl⟩
instance : TyS Tryz.prog 91 1 := ⟨Ty.size91⟩
instance : TyA Tryz.prog 93 true := ⟨_, Tryz.underlying93, rfl⟩
instance : TyS Tryz.prog 93 3 := ⟨Ty.size93⟩
instance : BldI Tryz.prog 93 [.nils, (.int .i64 0), .nilifc] [(0, 2), (2, 1)] := .struct (za := #[(.slice none 0 0), (.int .i64 0), .nilIface]) Tryz.underlying93 Ty.zero93 (by kernel_rfl) (by kernel_rfl) (by kernel_rfl) (by kernel_rfl)
instance : TyF Tryz.prog 93 0 89 0 2 true := ⟨_, _, _, Tryz.underlying93, rfl, rfl, rfl, Ty.size89, Tryz.underlying89, rfl⟩
instance : TyF Tryz.prog 93 1 91 2 1 false := ⟨_, _, _, Tryz.underlying93, rfl, rfl, rfl, Ty.size91, Tryz.underlying91, rfl⟩
instance : TyU Tryz.prog 97 (.slice 5) := ⟨Tryz.underlying97⟩
instance : TyA Tryz.prog 97 false := ⟨_, Tryz.underlying97, rfl⟩
instance : TyS Tryz.prog 97 1 := ⟨Ty.size97⟩
instance : SlI Tryz.prog 97 1 := .of (z := (.int .u8 0)) Tryz.underlying97 Ty.size5 Ty.zero5 rfl (by decide)
instance : TyU Tryz.prog 103 (.slice 20) := ⟨Tryz.underlying103⟩
instance : TyA Tryz.prog 103 false := ⟨_, Tryz.underlying103, rfl⟩
instance : TyS Tryz.prog 103 1 := ⟨Ty.size103⟩
instance : SlI Tryz.prog 103 1 := .of (z := .nilIface) Tryz.underlying103 Ty.size20 Ty.zero20 rfl (by decide)
instance : TyA Tryz.prog 111 false := ⟨_, Tryz.underlying111, rfl⟩
instance : TyS Tryz.prog 111 1 := ⟨Ty.size111⟩
instance : TyA Tryz.prog 114 false := ⟨_, Tryz.underlying114, rfl⟩
instance : TyS Tryz.prog 114 1 := ⟨Ty.size114⟩
instance : TyU Tryz.prog 117 (.pointer 89) := ⟨Tryz.underlying117⟩
instance : TyA Tryz.prog 117 false := ⟨_, Tryz.underlying117, rfl⟩
instance : TyS Tryz.prog 117 1 := ⟨Ty.size117⟩
instance : TyA Tryz.prog 118 false := ⟨_, Tryz.underlying118, rfl⟩
instance : TyS Tryz.prog 118 1 := ⟨Ty.size118⟩
instance : TyU Tryz.prog 120 (.array 3 9) := ⟨Tryz.underlying120⟩
instance : TyA Tryz.prog 120 true := ⟨_, Tryz.underlying120, rfl⟩
instance : TyS Tryz.prog 120 3 := ⟨Ty.size120⟩
instance : BldI Tryz.prog 120 [.str [], .str [], .str []] ((List.range 3).map fun j => (j * 1, 1)) := .array (za := #[(.string ⟨#[]⟩), (.string ⟨#[]⟩), (.string ⟨#[]⟩)]) Tryz.underlying120 Ty.zero120 (by kernel_rfl) Ty.size9 (by kernel_rfl)
instance : TyA Tryz.prog 126 false := ⟨_, Tryz.underlying126, rfl⟩
instance : TyS Tryz.prog 126 1 := ⟨Ty.size126⟩
instance : TyU Tryz.prog 129 (.int .u64) := ⟨Tryz.underlying129⟩
instance : TyA Tryz.prog 129 false := ⟨_, Tryz.underlying129, rfl⟩
instance : TyS Tryz.prog 129 1 := ⟨Ty.size129⟩
instance : TyA Tryz.prog 134 true := ⟨_, Tryz.underlying134, rfl⟩
instance : TyS Tryz.prog 134 1 := ⟨Ty.size134⟩
instance : BldI Tryz.prog 134 [(.int .u16 0)] [(0, 1)] := .struct (za := #[(.int .u16 0)]) Tryz.underlying134 Ty.zero134 (by kernel_rfl) (by kernel_rfl) (by kernel_rfl) (by kernel_rfl)
instance : TyF Tryz.prog 134 0 35 0 1 false := ⟨_, _, _, Tryz.underlying134, rfl, rfl, rfl, Ty.size35, Tryz.underlying35, rfl⟩
instance : TyU Tryz.prog 138 (.pointer 140) := ⟨Tryz.underlying138⟩
instance : TyA Tryz.prog 138 false := ⟨_, Tryz.underlying138, rfl⟩
instance : TyS Tryz.prog 138 1 := ⟨Ty.size138⟩
instance : TyA Tryz.prog 140 true := ⟨_, Tryz.underlying140, rfl⟩
instance : TyS Tryz.prog 140 2 := ⟨Ty.size140⟩
instance : BldI Tryz.prog 140 [.nilp, .nils] [(0, 1), (1, 1)] := .struct (za := #[(.pointer none), (.slice none 0 0)]) Tryz.underlying140 Ty.zero140 (by kernel_rfl) (by kernel_rfl) (by kernel_rfl) (by kernel_rfl)
instance : TyF Tryz.prog 140 0 138 0 1 false := ⟨_, _, _, Tryz.underlying140, rfl, rfl, rfl, Ty.size138, Tryz.underlying138, rfl⟩
instance : TyF Tryz.prog 140 1 22 1 1 false := ⟨_, _, _, Tryz.underlying140, rfl, rfl, rfl, Ty.size22, Tryz.underlying22, rfl⟩
instance : TyU Tryz.prog 143 (.int .i64) := ⟨Tryz.underlying143⟩
instance : TyA Tryz.prog 143 false := ⟨_, Tryz.underlying143, rfl⟩
instance : TyS Tryz.prog 143 1 := ⟨Ty.size143⟩
instance : TyU Tryz.prog 146 (.pointer 161) := ⟨Tryz.underlying146⟩
instance : TyA Tryz.prog 146 false := ⟨_, Tryz.underlying146, rfl⟩
instance : TyS Tryz.prog 146 1 := ⟨Ty.size146⟩
instance : TyU Tryz.prog 150 (.int .u32) := ⟨Tryz.underlying150⟩
instance : TyA Tryz.prog 150 false := ⟨_, Tryz.underlying150, rfl⟩
instance : TyS Tryz.prog 150 1 := ⟨Ty.size150⟩
instance : TyU Tryz.prog 153 (.int .u64) := ⟨Tryz.underlying153⟩
instance : TyA Tryz.prog 153 false := ⟨_, Tryz.underlying153, rfl⟩
instance : TyS Tryz.prog 153 1 := ⟨Ty.size153⟩
instance : TyU Tryz.prog 156 (.pointer 5) := ⟨Tryz.underlying156⟩
instance : TyA Tryz.prog 156 false := ⟨_, Tryz.underlying156, rfl⟩
instance : TyS Tryz.prog 156 1 := ⟨Ty.size156⟩
instance : TyA Tryz.prog 161 true := ⟨_, Tryz.underlying161, rfl⟩
instance : TyS Tryz.prog 161 3 := ⟨Ty.size161⟩
instance : BldI Tryz.prog 161 [.str [], .str [], .nilifc] [(0, 1), (1, 1), (2, 1)] := .struct (za := #[(.string ⟨#[]⟩), (.string ⟨#[]⟩), .nilIface]) Tryz.underlying161 Ty.zero161 (by kernel_rfl) (by kernel_rfl) (by kernel_rfl) (by kernel_rfl)
instance : TyF Tryz.prog 161 0 9 0 1 false := ⟨_, _, _, Tryz.underlying161, rfl, rfl, rfl, Ty.size9, Tryz.underlying9, rfl⟩
instance : TyF Tryz.prog 161 1 9 1 1 false := ⟨_, _, _, Tryz.underlying161, rfl, rfl, rfl, Ty.size9, Tryz.underlying9, rfl⟩
instance : TyF Tryz.prog 161 2 91 2 1 false := ⟨_, _, _, Tryz.underlying161, rfl, rfl, rfl, Ty.size91, Tryz.underlying91, rfl⟩
instance : TyU Tryz.prog 163 (.array 24 5) := ⟨Tryz.underlying163⟩
instance : TyA Tryz.prog 163 true := ⟨_, Tryz.underlying163, rfl⟩
instance : TyS Tryz.prog 163 24 := ⟨Ty.size163⟩
instance : BldI Tryz.prog 163 [(.int .u8 0), (.int .u8 0), (.int .u8 0), (.int .u8 0), (.int .u8 0), (.int .u8 0), (.int .u8 0), (.int .u8 0), (.int .u8 0), (.int .u8 0), (.int .u8 0), (.int .u8 0), (.int .u8 0), (.int .u8 0), (.int .u8 0), (.int .u8 0), (.int .u8 0), (.int .u8 0), (.int .u8 0), (.int .u8 0), (.int .u8 0), (.int .u8 0), (.int .u8 0), (.int .u8 0)] ((List.range 24).map fun j => (j * 1, 1)) := .array (za := #[(.int .u8 0), (.int .u8 0), (.int .u8 0), (.int .u8 0), (.int .u8 0), (.int .u8 0), (.int .u8 0), (.int .u8 0), (.int .u8 0), (.int .u8 0), (.int .u8 0), (.int .u8 0), (.int .u8 0), (.int .u8 0), (.int .u8 0), (.int .u8 0), (.int .u8 0), (.int .u8 0), (.int .u8 0), (.int .u8 0), (.int .u8 0), (.int .u8 0), (.int .u8 0), (.int .u8 0)]) Tryz.underlying163 Ty.zero163 (by kernel_rfl) Ty.size5 (by kernel_rfl)
instance : TyA Tryz.prog 168 false := ⟨_, Tryz.underlying168, rfl⟩
instance : TyS Tryz.prog 168 1 := ⟨Ty.size168⟩
instance : TyU Tryz.prog 172 (.pointer 174) := ⟨Tryz.underlying172⟩
instance : TyA Tryz.prog 172 false := ⟨_, Tryz.underlying172, rfl⟩
instance : TyS Tryz.prog 172 1 := ⟨Ty.size172⟩
instance : TyA Tryz.prog 174 true := ⟨_, Tryz.underlying174, rfl⟩
instance : TyS Tryz.prog 174 1 := ⟨Ty.size174⟩
instance : BldI Tryz.prog 174 [.str []] [(0, 1)] := .struct (za := #[(.string ⟨#[]⟩)]) Tryz.underlying174 Ty.zero174 (by kernel_rfl) (by kernel_rfl) (by kernel_rfl) (by kernel_rfl)
instance : TyF Tryz.prog 174 0 9 0 1 false := ⟨_, _, _, Tryz.underlying174, rfl, rfl, rfl, Ty.size9, Tryz.underlying9, rfl⟩
instance : TyU Tryz.prog 175 (.array 20 153) := ⟨Tryz.underlying175⟩
instance : TyA Tryz.prog 175 true := ⟨_, Tryz.underlying175, rfl⟩
instance : TyS Tryz.prog 175 20 := ⟨Ty.size175⟩
instance : BldI Tryz.prog 175 [(.int .u64 0), (.int .u64 0), (.int .u64 0), (.int .u64 0), (.int .u64 0), (.int .u64 0), (.int .u64 0), (.int .u64 0), (.int .u64 0), (.int .u64 0), (.int .u64 0), (.int .u64 0), (.int .u64 0), (.int .u64 0), (.int .u64 0), (.int .u64 0), (.int .u64 0), (.int .u64 0), (.int .u64 0), (.int .u64 0)] ((List.range 20).map fun j => (j * 1, 1)) := .array (za := #[(.int .u64 0), (.int .u64 0), (.int .u64 0), (.int .u64 0), (.int .u64 0), (.int .u64 0), (.int .u64 0), (.int .u64 0), (.int .u64 0), (.int .u64 0), (.int .u64 0), (.int .u64 0), (.int .u64 0), (.int .u64 0), (.int .u64 0), (.int .u64 0), (.int .u64 0), (.int .u64 0), (.int .u64 0), (.int .u64 0)]) Tryz.underlying175 Ty.zero175 (by kernel_rfl) Ty.size153 (by kernel_rfl)
instance : TyU Tryz.prog 176 (.array 65 5) := ⟨Tryz.underlying176⟩
instance : TyA Tryz.prog 176 true := ⟨_, Tryz.underlying176, rfl⟩
instance : TyS Tryz.prog 176 65 := ⟨Ty.size176⟩
instance : BldI Tryz.prog 176 [(.int .u8 0), (.int .u8 0), (.int .u8 0), (.int .u8 0), (.int .u8 0), (.int .u8 0), (.int .u8 0), (.int .u8 0), (.int .u8 0), (.int .u8 0), (.int .u8 0), (.int .u8 0), (.int .u8 0), (.int .u8 0), (.int .u8 0), (.int .u8 0), (.int .u8 0), (.int .u8 0), (.int .u8 0), (.int .u8 0), (.int .u8 0), (.int .u8 0), (.int .u8 0), (.int .u8 0), (.int .u8 0), (.int .u8 0), (.int .u8 0), (.int .u8 0), (.int .u8 0), (.int .u8 0), (.int .u8 0), (.int .u8 0), (.int .u8 0), (.int .u8 0), (.int .u8 0), (.int .u8 0), (.int .u8 0), (.int .u8 0), (.int .u8 0), (.int .u8 0), (.int .u8 0), (.int .u8 0), (.int .u8 0), (.int .u8 0), (.int .u8 0), (.int .u8 0), (.int .u8 0), (.int .u8 0), (.int .u8 0), (.int .u8 0), (.int .u8 0), (.int .u8 0), (.int .u8 0), (.int .u8 0), (.int .u8 0), (.int .u8 0), (.int .u8 0), (.int .u8 0), (.int .u8 0), (.int .u8 0), (.int .u8 0), (.int .u8 0), (.int .u8 0), (.int .u8 0), (.int .u8 0)] ((List.range 65).map fun j => (j * 1, 1)) := .array (za := #[(.int .u8 0), (.int .u8 0), (.int .u8 0), (.int .u8 0), (.int .u8 0), (.int .u8 0), (.int .u8 0), (.int .u8 0), (.int .u8 0), (.int .u8 0), (.int .u8 0), (.int .u8 0), (.int .u8 0), (.int .u8 0), (.int .u8 0), (.int .u8 0), (.int .u8 0), (.int .u8 0), (.int .u8 0), (.int .u8 0), (.int .u8 0), (.int .u8 0), (.int .u8 0), (.int .u8 0), (.int .u8 0), (.int .u8 0), (.int .u8 0), (.int .u8 0), (.int .u8 0), (.int .u8 0), (.int .u8 0), (.int .u8 0), (.int .u8 0), (.int .u8 0), (.int .u8 0), (.int .u8 0), (.int .u8 0), (.int .u8 0), (.int .u8 0), (.int .u8 0), (.int .u8 0), (.int .u8 0), (.int .u8 0), (.int .u8 0), (.int .u8 0), (.int .u8 0), (.int .u8 0), (.int .u8 0), (.int .u8 0), (.int .u8 0), (.int .u8 0), (.int .u8 0), (.int .u8 0), (.int .u8 0), (.int .u8 0), (.int .u8 0), (.int .u8 0), (.int .u8 0), (.int .u8 0), (.int .u8 0), (.int .u8 0), (.int .u8 0), (.int .u8 0), (.int .u8 0), (.int .u8 0)]) Tryz.underlying176 Ty.zero176 (by kernel_rfl) Ty.size5 (by kernel_rfl)
instance : TyU Tryz.prog 180 (.array 32 5) := ⟨Tryz.underlying180⟩
instance : TyA Tryz.prog 180 true := ⟨_, Tryz.underlying180, rfl⟩
instance : TyS Tryz.prog 180 32 := ⟨Ty.size180⟩
instance : BldI Tryz.prog 180 [(.int .u8 0), (.int .u8 0), (.int .u8 0), (.int .u8 0), (.int .u8 0), (.int .u8 0), (.int .u8 0), (.int .u8 0), (.int .u8 0), (.int .u8 0), (.int .u8 0), (.int .u8 0), (.int .u8 0), (.int .u8 0), (.int .u8 0), (.int .u8 0), (.int .u8 0), (.int .u8 0), (.int .u8 0), (.int .u8 0), (.int .u8 0), (.int .u8 0), (.int .u8 0), (.int .u8 0), (.int .u8 0), (.int .u8 0), (.int .u8 0), (.int .u8 0), (.int .u8 0), (.int .u8 0), (.int .u8 0), (.int .u8 0)] ((List.range 32).map fun j => (j * 1, 1)) := .array (za := #[(.int .u8 0), (.int .u8 0), (.int .u8 0), (.int .u8 0), (.int .u8 0), (.int .u8 0), (.int .u8 0), (.int .u8 0), (.int .u8 0), (.int .u8 0), (.int .u8 0), (.int .u8 0), (.int .u8 0), (.int .u8 0), (.int .u8 0), (.int .u8 0), (.int .u8 0), (.int .u8 0), (.int .u8 0), (.int .u8 0), (.int .u8 0), (.int .u8 0), (.int .u8 0), (.int .u8 0), (.int .u8 0), (.int .u8 0), (.int .u8 0), (.int .u8 0), (.int .u8 0), (.int .u8 0), (.int .u8 0), (.int .u8 0)]) Tryz.underlying180 Ty.zero180 (by kernel_rfl) Ty.size5 (by kernel_rfl)
instance : TyU Tryz.prog 181 (.array 64 5) := ⟨Tryz.underlying181⟩
instance : TyA Tryz.prog 181 true := ⟨_, Tryz.underlying181, rfl⟩
instance : TyS Tryz.prog 181 64 := ⟨Ty.size181⟩
instance : BldI Tryz.prog 181 [(.int .u8 0), (.int .u8 0), (.int .u8 0), (.int .u8 0), (.int .u8 0), (.int .u8 0), (.int .u8 0), (.int .u8 0), (.int .u8 0), (.int .u8 0), (.int .u8 0), (.int .u8 0), (.int .u8 0), (.int .u8 0), (.int .u8 0), (.int .u8 0), (.int .u8 0), (.int .u8 0), (.int .u8 0), (.int .u8 0), (.int .u8 0), (.int .u8 0), (.int .u8 0), (.int .u8 0), (.int .u8 0), (.int .u8 0), (.int .u8 0), (.int .u8 0), (.int .u8 0), (.int .u8 0), (.int .u8 0), (.int .u8 0), (.int .u8 0), (.int .u8 0), (.int .u8 0), (.int .u8 0), (.int .u8 0), (.int .u8 0), (.int .u8 0), (.int .u8 0), (.int .u8 0), (.int .u8 0), (.int .u8 0), (.int .u8 0), (.int .u8 0), (.int .u8 0), (.int .u8 0), (.int .u8 0), (.int .u8 0), (.int .u8 0), (.int .u8 0), (.int .u8 0), (.int .u8 0), (.int .u8 0), (.int .u8 0), (.int .u8 0), (.int .u8 0), (.int .u8 0), (.int .u8 0), (.int .u8 0), (.int .u8 0), (.int .u8 0), (.int .u8 0), (.int .u8 0)] ((List.range 64).map fun j => (j * 1, 1)) := .array (za := #[(.int .u8 0), (.int .u8 0), (.int .u8 0), (.int .u8 0), (.int .u8 0), (.int .u8 0), (.int .u8 0), (.int .u8 0), (.int .u8 0), (.int .u8 0), (.int .u8 0), (.int .u8 0), (.int .u8 0), (.int .u8 0), (.int .u8 0), (.int .u8 0), (.int .u8 0), (.int .u8 0), (.int .u8 0), (.int .u8 0), (.int .u8 0), (.int .u8 0), (.int .u8 0), (.int .u8 0), (.int .u8 0), (.int .u8 0), (.int .u8 0), (.int .u8 0), (.int .u8 0), (.int .u8 0), (.int .u8 0), (.int .u8 0), (.int .u8 0), (.int .u8 0), (.int .u8 0), (.int .u8 0), (.int .u8 0), (.int .u8 0), (.int .u8 0), (.int .u8 0), (.int .u8 0), (.int .u8 0), (.int .u8 0), (.int .u8 0), (.int .u8 0), (.int .u8 0), (.int .u8 0), (.int .u8 0), (.int .u8 0), (.int .u8 0), (.int .u8 0), (.int .u8 0), (.int .u8 0), (.int .u8 0), (.int .u8 0), (.int .u8 0), (.int .u8 0), (.int .u8 0), (.int .u8 0), (.int .u8 0), (.int .u8 0), (.int .u8 0), (.int .u8 0), (.int .u8 0)]) Tryz.underlying181 Ty.zero181 (by kernel_rfl) Ty.size5 (by kernel_rfl)
instance : AppI Tryz.prog 30 30 2 40 := .of (z := (.agg #[(.string ⟨#[]⟩), (.slice none 0 0)])) Tryz.underlying30 (.inr ⟨_, Tryz.underlying30⟩) Ty.size41 (by kernel_rfl) Ty.zero41 rfl (by decide)
instance : AppI Tryz.prog 24 24 1 8 := .of (z := (.int .i64 0)) Tryz.underlying24 (.inr ⟨_, Tryz.underlying24⟩) Ty.size3 (by kernel_rfl) Ty.zero3 rfl (by decide)
instance : AppI Tryz.prog 25 25 8 88 := .of (z := (.agg #[(.int .i64 0), (.string ⟨#[]⟩), (.string ⟨#[]⟩), (.int .i64 0), (.int .i64 0), (.bool false), (.string ⟨#[]⟩), (.int .i64 0)])) Tryz.underlying25 (.inr ⟨_, Tryz.underlying25⟩) Ty.size46 (by kernel_rfl) Ty.zero46 rfl (by decide)
instance : AppI Tryz.prog 22 22 1 1 := .of (z := (.int .u8 0)) Tryz.underlying22 (.inr ⟨_, Tryz.underlying22⟩) Ty.size5 (by kernel_rfl) Ty.zero5 rfl (by decide)
instance : AppI Tryz.prog 97 22 1 1 := .of (z := (.int .u8 0)) Tryz.underlying97 (.inr ⟨_, Tryz.underlying22⟩) Ty.size5 (by kernel_rfl) Ty.zero5 rfl (by decide)
instance : AppI Tryz.prog 22 9 1 1 := .of (z := (.int .u8 0)) Tryz.underlying22 (.inl Tryz.underlying9) Ty.size5 (by kernel_rfl) Ty.zero5 rfl (by decide)
instance : OwnF Tryz.prog 2 := ⟨_, Tryz.func2, by kernel_rfl, by kernel_rfl⟩
instance : OwnF Tryz.prog 3 := ⟨_, Tryz.func3, by kernel_rfl, by kernel_rfl⟩
instance : OwnF Tryz.prog 4 := ⟨_, Tryz.func4, by kernel_rfl, by kernel_rfl⟩
instance : OwnF Tryz.prog 5 := ⟨_, Tryz.func5, by kernel_rfl, by kernel_rfl⟩
instance : OwnF Tryz.prog 6 := ⟨_, Tryz.func6, by kernel_rfl, by kernel_rfl⟩
instance : OwnF Tryz.prog 7 := ⟨_, Tryz.func7, by kernel_rfl, by kernel_rfl⟩
instance : OwnF Tryz.prog 8 := ⟨_, Tryz.func8, by kernel_rfl, by kernel_rfl⟩
instance : OwnF Tryz.prog 9 := ⟨_, Tryz.func9, by kernel_rfl, by kernel_rfl⟩
instance : OwnF Tryz.prog 10 := ⟨_, Tryz.func10, by kernel_rfl, by kernel_rfl⟩
instance : OwnF Tryz.prog 11 := ⟨_, Tryz.func11, by kernel_rfl, by kernel_rfl⟩
instance : OwnF Tryz.prog 12 := ⟨_, Tryz.func12, by kernel_rfl, by kernel_rfl⟩
instance : OwnF Tryz.prog 13 := ⟨_, Tryz.func13, by kernel_rfl, by kernel_rfl⟩
instance : OwnF Tryz.prog 14 := ⟨_, Tryz.func14, by kernel_rfl, by kernel_rfl⟩
instance : OwnF Tryz.prog 15 := ⟨_, Tryz.func15, by kernel_rfl, by kernel_rfl⟩
instance : OwnF Tryz.prog 16 := ⟨_, Tryz.func16, by kernel_rfl, by kernel_rfl⟩
instance : OwnF Tryz.prog 17 := ⟨_, Tryz.func17, by kernel_rfl, by kernel_rfl⟩
instance : OwnF Tryz.prog 18 := ⟨_, Tryz.func18, by kernel_rfl, by kernel_rfl⟩
instance : OwnF Tryz.prog 19 := ⟨_, Tryz.func19, by kernel_rfl, by kernel_rfl⟩
instance : OwnF Tryz.prog 20 := ⟨_, Tryz.func20, by kernel_rfl, by kernel_rfl⟩
instance : OwnF Tryz.prog 21 := ⟨_, Tryz.func21, by kernel_rfl, by kernel_rfl⟩
instance : OwnF Tryz.prog 22 := ⟨_, Tryz.func22, by kernel_rfl, by kernel_rfl⟩
instance : OwnF Tryz.prog 23 := ⟨_, Tryz.func23, by kernel_rfl, by kernel_rfl⟩
instance : OwnF Tryz.prog 24 := ⟨_, Tryz.func24, by kernel_rfl, by kernel_rfl⟩
instance : OwnF Tryz.prog 25 := ⟨_, Tryz.func25, by kernel_rfl, by kernel_rfl⟩
instance : OwnF Tryz.prog 26 := ⟨_, Tryz.func26, by kernel_rfl, by kernel_rfl⟩
instance : OwnF Tryz.prog 27 := ⟨_, Tryz.func27, by kernel_rfl, by kernel_rfl⟩
instance : OwnF Tryz.prog 28 := ⟨_, Tryz.func28, by kernel_rfl, by kernel_rfl⟩
instance : OwnF Tryz.prog 29 := ⟨_, Tryz.func29, by kernel_rfl, by kernel_rfl⟩
instance : OwnF Tryz.prog 30 := ⟨_, Tryz.func30, by kernel_rfl, by kernel_rfl⟩
instance : OwnF Tryz.prog 31 := ⟨_, Tryz.func31, by kernel_rfl, by kernel_rfl⟩
instance : OwnF Tryz.prog 32 := ⟨_, Tryz.func32, by kernel_rfl, by kernel_rfl⟩
instance : OwnF Tryz.prog 33 := ⟨_, Tryz.func33, by kernel_rfl, by kernel_rfl⟩
instance : OwnF Tryz.prog 34 := ⟨_, Tryz.func34, by kernel_rfl, by kernel_rfl⟩
instance : OwnF Tryz.prog 35 := ⟨_, Tryz.func35, by kernel_rfl, by kernel_rfl⟩
instance : OwnF Tryz.prog 36 := ⟨_, Tryz.func36, by kernel_rfl, by kernel_rfl⟩
instance : OwnF Tryz.prog 37 := ⟨_, Tryz.func37, by kernel_rfl, by kernel_rfl⟩
instance : OwnF Tryz.prog 38 := ⟨_, Tryz.func38, by kernel_rfl, by kernel_rfl⟩
instance : OwnF Tryz.prog 39 := ⟨_, Tryz.func39, by kernel_rfl, by kernel_rfl⟩
instance : OwnF Tryz.prog 40 := ⟨_, Tryz.func40, by kernel_rfl, by kernel_rfl⟩
instance : OwnF Tryz.prog 41 := ⟨_, Tryz.func41, by kernel_rfl, by kernel_rfl⟩
instance : OwnF Tryz.prog 42 := ⟨_, Tryz.func42, by kernel_rfl, by kernel_rfl⟩
instance : OwnF Tryz.prog 43 := ⟨_, Tryz.func43, by kernel_rfl, by kernel_rfl⟩
instance : OwnF Tryz.prog 44 := ⟨_, Tryz.func44, by kernel_rfl, by kernel_rfl⟩
instance : OwnF Tryz.prog 45 := ⟨_, Tryz.func45, by kernel_rfl, by kernel_rfl⟩
instance : OwnF Tryz.prog 46 := ⟨_, Tryz.func46, by kernel_rfl, by kernel_rfl⟩
instance : OwnF Tryz.prog 47 := ⟨_, Tryz.func47, by kernel_rfl, by kernel_rfl⟩
instance : OwnF Tryz.prog 48 := ⟨_, Tryz.func48, by kernel_rfl, by kernel_rfl⟩
instance : OwnF Tryz.prog 49 := ⟨_, Tryz.func49, by kernel_rfl, by kernel_rfl⟩
instance : OwnF Tryz.prog 50 := ⟨_, Tryz.func50, by kernel_rfl, by kernel_rfl⟩
instance : OwnF Tryz.prog 51 := ⟨_, Tryz.func51, by kernel_rfl, by kernel_rfl⟩
instance : OwnF Tryz.prog 52 := ⟨_, Tryz.func52, by kernel_rfl, by kernel_rfl⟩
instance : OwnF Tryz.prog 53 := ⟨_, Tryz.func53, by kernel_rfl, by kernel_rfl⟩
instance : OwnF Tryz.prog 54 := ⟨_, Tryz.func54, by kernel_rfl, by kernel_rfl⟩
instance : OwnF Tryz.prog 55 := ⟨_, Tryz.func55, by kernel_rfl, by kernel_rfl⟩
instance : OwnF Tryz.prog 56 := ⟨_, Tryz.func56, by kernel_rfl, by kernel_rfl⟩
instance : OwnF Tryz.prog 57 := ⟨_, Tryz.func57, by kernel_rfl, by kernel_rfl⟩
instance : OwnF Tryz.prog 58 := ⟨_, Tryz.func58, by kernel_rfl, by kernel_rfl⟩
instance : OwnF Tryz.prog 59 := ⟨_, Tryz.func59, by kernel_rfl, by kernel_rfl⟩
instance : OwnF Tryz.prog 60 := ⟨_, Tryz.func60, by kernel_rfl, by kernel_rfl⟩
instance : OwnF Tryz.prog 61 := ⟨_, Tryz.func61, by kernel_rfl, by kernel_rfl⟩
instance : OwnF Tryz.prog 62 := ⟨_, Tryz.func62, by kernel_rfl, by kernel_rfl⟩
instance : OwnF Tryz.prog 63 := ⟨_, Tryz.func63, by kernel_rfl, by kernel_rfl⟩
instance : OwnF Tryz.prog 64 := ⟨_, Tryz.func64, by kernel_rfl, by kernel_rfl⟩
instance : OwnF Tryz.prog 65 := ⟨_, Tryz.func65, by kernel_rfl, by kernel_rfl⟩
instance : OwnF Tryz.prog 66 := ⟨_, Tryz.func66, by kernel_rfl, by kernel_rfl⟩
instance : OwnF Tryz.prog 67 := ⟨_, Tryz.func67, by kernel_rfl, by kernel_rfl⟩
instance : OwnF Tryz.prog 68 := ⟨_, Tryz.func68, by kernel_rfl, by kernel_rfl⟩
instance : OwnF Tryz.prog 69 := ⟨_, Tryz.func69, by kernel_rfl, by kernel_rfl⟩
instance : OwnF Tryz.prog 70 := ⟨_, Tryz.func70, by kernel_rfl, by kernel_rfl⟩
instance : OwnF Tryz.prog 71 := ⟨_, Tryz.func71, by kernel_rfl, by kernel_rfl⟩
instance : OwnF Tryz.prog 72 := ⟨_, Tryz.func72, by kernel_rfl, by kernel_rfl⟩
instance : OwnF Tryz.prog 73 := ⟨_, Tryz.func73, by kernel_rfl, by kernel_rfl⟩
instance : OwnF Tryz.prog 74 := ⟨_, Tryz.func74, by kernel_rfl, by kernel_rfl⟩
instance : OwnF Tryz.prog 75 := ⟨_, Tryz.func75, by kernel_rfl, by kernel_rfl⟩
instance : OwnF Tryz.prog 76 := ⟨_, Tryz.func76, by kernel_rfl, by kernel_rfl⟩
instance : OwnF Tryz.prog 77 := ⟨_, Tryz.func77, by kernel_rfl, by kernel_rfl⟩
instance : OwnF Tryz.prog 78 := ⟨_, Tryz.func78, by kernel_rfl, by kernel_rfl⟩
instance : OwnF Tryz.prog 79 := ⟨_, Tryz.func79, by kernel_rfl, by kernel_rfl⟩
instance : OwnF Tryz.prog 80 := ⟨_, Tryz.func80, by kernel_rfl, by kernel_rfl⟩
instance : OwnF Tryz.prog 81 := ⟨_, Tryz.func81, by kernel_rfl, by kernel_rfl⟩
instance : OwnF Tryz.prog 82 := ⟨_, Tryz.func82, by kernel_rfl, by kernel_rfl⟩
instance : OwnF Tryz.prog 83 := ⟨_, Tryz.func83, by kernel_rfl, by kernel_rfl⟩
instance : OwnF Tryz.prog 84 := ⟨_, Tryz.func84, by kernel_rfl, by kernel_rfl⟩
instance : OwnF Tryz.prog 85 := ⟨_, Tryz.func85, by kernel_rfl, by kernel_rfl⟩
instance : OwnF Tryz.prog 86 := ⟨_, Tryz.func86, by kernel_rfl, by kernel_rfl⟩
instance : OwnF Tryz.prog 87 := ⟨_, Tryz.func87, by kernel_rfl, by kernel_rfl⟩
instance : OwnF Tryz.prog 88 := ⟨_, Tryz.func88, by kernel_rfl, by kernel_rfl⟩
instance : OwnF Tryz.prog 89 := ⟨_, Tryz.func89, by kernel_rfl, by kernel_rfl⟩
instance : OwnF Tryz.prog 90 := ⟨_, Tryz.func90, by kernel_rfl, by kernel_rfl⟩
instance : OwnF Tryz.prog 91 := ⟨_, Tryz.func91, by kernel_rfl, by kernel_rfl⟩
instance : OwnF Tryz.prog 92 := ⟨_, Tryz.func92, by kernel_rfl, by kernel_rfl⟩
instance : OwnF Tryz.prog 93 := ⟨_, Tryz.func93, by kernel_rfl, by kernel_rfl⟩
instance : OwnF Tryz.prog 94 := ⟨_, Tryz.func94, by kernel_rfl, by kernel_rfl⟩
instance : OwnF Tryz.prog 95 := ⟨_, Tryz.func95, by kernel_rfl, by kernel_rfl⟩
instance : OwnF Tryz.prog 96 := ⟨_, Tryz.func96, by kernel_rfl, by kernel_rfl⟩
instance : OwnF Tryz.prog 97 := ⟨_, Tryz.func97, by kernel_rfl, by kernel_rfl⟩
instance : OwnF Tryz.prog 98 := ⟨_, Tryz.func98, by kernel_rfl, by kernel_rfl⟩
instance : OwnF Tryz.prog 99 := ⟨_, Tryz.func99, by kernel_rfl, by kernel_rfl⟩
instance : OwnF Tryz.prog 100 := ⟨_, Tryz.func100, by kernel_rfl, by kernel_rfl⟩
instance : OwnF Tryz.prog 101 := ⟨_, Tryz.func101, by kernel_rfl, by kernel_rfl⟩
instance : OwnF Tryz.prog 102 := ⟨_, Tryz.func102, by kernel_rfl, by kernel_rfl⟩
instance : OwnF Tryz.prog 103 := ⟨_, Tryz.func103, by kernel_rfl, by kernel_rfl⟩
instance : OwnF Tryz.prog 104 := ⟨_, Tryz.func104, by kernel_rfl, by kernel_rfl⟩
instance : OwnF Tryz.prog 105 := ⟨_, Tryz.func105, by kernel_rfl, by kernel_rfl⟩
instance : OwnF Tryz.prog 106 := ⟨_, Tryz.func106, by kernel_rfl, by kernel_rfl⟩
instance : OwnF Tryz.prog 107 := ⟨_, Tryz.func107, by kernel_rfl, by kernel_rfl⟩
instance : OwnF Tryz.prog 108 := ⟨_, Tryz.func108, by kernel_rfl, by kernel_rfl⟩
instance : OwnF Tryz.prog 109 := ⟨_, Tryz.func109, by kernel_rfl, by kernel_rfl⟩
instance : OwnF Tryz.prog 110 := ⟨_, Tryz.func110, by kernel_rfl, by kernel_rfl⟩
instance : OwnF Tryz.prog 111 := ⟨_, Tryz.func111, by kernel_rfl, by kernel_rfl⟩
instance : OwnF Tryz.prog 112 := ⟨_, Tryz.func112, by kernel_rfl, by kernel_rfl⟩
instance : OwnF Tryz.prog 113 := ⟨_, Tryz.func113, by kernel_rfl, by kernel_rfl⟩
instance : OwnF Tryz.prog 114 := ⟨_, Tryz.func114, by kernel_rfl, by kernel_rfl⟩
instance : OwnF Tryz.prog 115 := ⟨_, Tryz.func115, by kernel_rfl, by kernel_rfl⟩
instance : OwnF Tryz.prog 116 := ⟨_, Tryz.func116, by kernel_rfl, by kernel_rfl⟩
instance : OwnF Tryz.prog 117 := ⟨_, Tryz.func117, by kernel_rfl, by kernel_rfl⟩
instance : OwnF Tryz.prog 118 := ⟨_, Tryz.func118, by kernel_rfl, by kernel_rfl⟩
instance : OwnF Tryz.prog 119 := ⟨_, Tryz.func119, by kernel_rfl, by kernel_rfl⟩
instance : OwnF Tryz.prog 120 := ⟨_, Tryz.func120, by kernel_rfl, by kernel_rfl⟩
instance : OwnF Tryz.prog 121 := ⟨_, Tryz.func121, by kernel_rfl, by kernel_rfl⟩
instance : OwnF Tryz.prog 122 := ⟨_, Tryz.func122, by kernel_rfl, by kernel_rfl⟩
instance : OwnF Tryz.prog 123 := ⟨_, Tryz.func123, by kernel_rfl, by kernel_rfl⟩
instance : OwnF Tryz.prog 124 := ⟨_, Tryz.func124, by kernel_rfl, by kernel_rfl⟩
instance : OwnF Tryz.prog 125 := ⟨_, Tryz.func125, by kernel_rfl, by kernel_rfl⟩
instance : OwnF Tryz.prog 126 := ⟨_, Tryz.func126, by kernel_rfl, by kernel_rfl⟩
instance : OwnF Tryz.prog 127 := ⟨_, Tryz.func127, by kernel_rfl, by kernel_rfl⟩
instance : OwnF Tryz.prog 128 := ⟨_, Tryz.func128, by kernel_rfl, by kernel_rfl⟩
instance : OwnF Tryz.prog 131 := ⟨_, Tryz.func131, by kernel_rfl, by kernel_rfl⟩
instance : OwnF Tryz.prog 132 := ⟨_, Tryz.func132, by kernel_rfl, by kernel_rfl⟩
instance : OwnF Tryz.prog 133 := ⟨_, Tryz.func133, by kernel_rfl, by kernel_rfl⟩
instance : OwnF Tryz.prog 134 := ⟨_, Tryz.func134, by kernel_rfl, by kernel_rfl⟩
instance : OwnF Tryz.prog 135 := ⟨_, Tryz.func135, by kernel_rfl, by kernel_rfl⟩
instance : OwnF Tryz.prog 136 := ⟨_, Tryz.func136, by kernel_rfl, by kernel_rfl⟩
instance : OwnF Tryz.prog 137 := ⟨_, Tryz.func137, by kernel_rfl, by kernel_rfl⟩
instance : OwnF Tryz.prog 138 := ⟨_, Tryz.func138, by kernel_rfl, by kernel_rfl⟩
instance : OwnF Tryz.prog 139 := ⟨_, Tryz.func139, by kernel_rfl, by kernel_rfl⟩
instance : OwnF Tryz.prog 169 := ⟨_, Tryz.func169, by kernel_rfl, by kernel_rfl⟩
end Go.Proofs.YtkbmkhhcppfcnaaGreatDoor.Ty
end
section
set_option linter.unusedVariables false
set_option linter.unusedSimpArgs false
set_option maxRecDepth 100000
set_option maxHeartbeats 400000
namespace Go.Proofs.YtkbmkhhcppfcnaaGreatDoor
open Go.Al Go.RowKit
def numB (n : Nat) : List UInt8 := if n < 128 then [UInt8.ofNat n] else UInt8.ofNat (128 + n % 128) :: numB (n / 128)
termination_by n
def clampN (n : Int) : Nat := (max 0 (min n 9007199254740992)).toNat
theorem clampN_le (n : Int) : clampN n ≤ 9007199254740992 := by unfold clampN; omega
theorem numB_small {n : Nat} (h : n < 128) : numB n = [UInt8.ofNat n] := by rw [numB, if_pos h]
theorem numB_big {n : Nat} (h : ¬ n < 128) : numB n = UInt8.ofNat (128 + n % 128) :: numB (n / 128) := by rw [numB, if_neg h]
def num (n : Int) : List UInt8 := numB (clampN n)
theorem numB_len : ∀ (k n : Nat), n < 128 ^ (k + 1) → (numB n).length ≤ k + 1 := by
  intro k
  induction k with
  | zero => intro n h; rw [numB_small (by simpa using h)]; simp
  | succ k ih =>
    intro n h
    by_cases hn : n < 128
    · rw [numB_small hn]; simp
    · rw [numB_big hn]
      have := ih (n / 128) (by rw [Nat.pow_succ] at h; omega)
      simp; omega
theorem byteOf_nat (n : Nat) : Al.byteOf n = UInt8.ofNat n := by
  simp only [Al.byteOf]
  have : ((n : Int) % 256).toNat = n % 256 := by omega
  rw [this]
  apply UInt8.toNat_inj.1
  simp
theorem or128 : ∀ x : Fin 256, UInt8.ofNat x ||| 128 = UInt8.ofNat (128 + x % 128) := by decide +kernel
theorem byte_or (n : Nat) : Al.byteOf n ||| Al.byteOf 128 = UInt8.ofNat (128 + n % 128) := by
  have h := or128 ⟨n % 256, by omega⟩
  have e : UInt8.ofNat n = UInt8.ofNat (n % 256) := by apply UInt8.toNat_inj.1; simp
  rw [byteOf_nat, e]
  have e2 : Al.byteOf 128 = 128 := by decide +kernel
  rw [e2, h]
  congr 1
  simp only
  omega
theorem num_len (n : Int) : (num n).length ≤ 8 := numB_len 7 _ (by have := clampN_le n; omega)
theorem num_room (w0 : Base) (n : Int) (σ : St) : CallW Tryz.prog w0 65 [.int .i64 n] σ (fun r σ' => ∃ tk, r = .slc 1 (aBytes (num n)) tk ∧ Moves σ .full σ' tk) := by
  refine CallW.start Tryz.func65 rfl Tryz.ntmps65 (by simp) fun Q hQ => ?_
  refine W.seq ?_; refine W.regionL (by decide +kernel) rfl ?_; apply r_op; exact rfl; exact rfl; apply a_assign; (conv => (lhs; whnf)); (with_reducible refine runs_done ?_); refine W.seq ?_; refine W.regionL (by decide +kernel) rfl ?_; apply r_op; exact rfl; exact rfl; apply a_assign; (conv => (lhs; whnf)); (with_reducible refine runs_done ?_); refine W.seq ?_; refine W.seq ?_
  refine W.regionL (by decide +kernel) rfl ?_; apply r_op; exact rfl; exact rfl; apply a_move; (conv => (lhs; whnf)); apply r_op; exact rfl; exact rfl; apply g_call; exact a_min rfl rfl; apply r_op; exact rfl; exact rfl; apply g_call; exact a_max rfl rfl; apply r_op; exact rfl; exact rfl; apply a_assign; (conv => (lhs; whnf)); (with_reducible refine runs_done ?_); refine W.block ?_
  refine W.loop (fun k E s => ∃ (m : Nat) (acc : List UInt8) (tk : Tok), k = m ∧ m ≤ 9007199254740992 ∧ acc ++ numB m = num n ∧ Moves σ .full s tk ∧ Has [(0, .int .i64 m), (3, .slc 1 (aBytes acc) tk)] E) (clampN n) ⟨clampN n, [], .full, rfl, clampN_le n, rfl, .full σ, by exact Has.by (by repeat (first | exact trivial | refine ⟨by first | trivial | exact Weak.refl _ | exact Weak.tok _ _ _ | exact Weak.of_eq (congrArg (AV.int _) (by (unfold clampN; omega))) | exact Weak.nils _ _ (.inr rfl), ?_⟩))⟩ ?_
  rintro k E s ⟨m, acc, tk, rfl, hm1, hacc, hm, hE⟩; refine W.has hE ?_; clear hE
  have hl : acc.length ≤ 8 := by have h1 := congrArg List.length hacc; have h2 := num_len n; simp at h1; omega
  refine W.seq ?_; refine W.seq ?_; refine W.regionL (by decide +kernel) rfl ?_; apply r_op; exact rfl; exact rfl; apply a_move; (conv => (lhs; whnf)); apply r_op; exact rfl; exact rfl; apply g_binOp; exact a_binI rfl rfl rfl; (with_reducible refine runs_done ?_); refine W.cond rfl (fun hc => ?_) (fun hc => ?_); refine W.skip ?_; show W _ _ _ _ _ _ _; refine W.seq ?_; refine W.block ?_
  refine W.regionL (by decide +kernel) rfl ?_; apply r_op; exact rfl; exact rfl; apply a_move; (conv => (lhs; whnf)); apply r_op; exact rfl; exact rfl; apply a_move; (conv => (lhs; whnf)); apply r_op; exact rfl; exact rfl; apply g_convert; exact a_convB rfl; apply r_op; exact rfl; exact rfl; apply g_binOp; exact a_u8orC rfl rfl (by omega); apply r_op; exact rfl; exact rfl; apply g_buildSlice
  apply a_build1; (conv => (lhs; whnf)); exact rfl; exact rfl; decide; apply r_append'; exact rfl; exact rfl; decide; infer_instance; exact rfl; exact rfl; exact rfl; exact rfl; exact rfl; assumption
  simp only [length_aBytes, List.length_append, List.length_cons, List.length_nil, List.length_map, List.length_range]
  omega; intro tk1 σ1 hm; apply r_op; exact rfl; exact rfl; apply a_assign; (conv => (lhs; whnf)); (with_reducible refine runs_done ?_); refine W.regionL (by decide +kernel) rfl ?_; apply r_op; exact rfl; exact rfl; apply a_move; (conv => (lhs; whnf)); apply r_op; exact rfl; exact rfl; apply g_binOp; apply a_shr rfl rfl (by omega); (conv => (lhs; whnf)); apply r_op; exact rfl; exact rfl
  apply a_assign; (conv => (lhs; whnf)); (with_reducible refine runs_done ?_); rotate_left; refine W.exit ?_; show W _ _ _ _ _ _ _; refine W.seq ?_; refine W.regionL (by decide +kernel) rfl ?_; apply r_op; exact rfl; exact rfl; apply a_move; (conv => (lhs; whnf)); apply r_op; exact rfl; exact rfl; apply a_move; (conv => (lhs; whnf)); apply r_op; exact rfl; exact rfl; apply g_convert
  exact a_convB rfl; apply r_op; exact rfl; exact rfl; apply g_buildSlice; apply a_build1; (conv => (lhs; whnf)); exact rfl; exact rfl; decide; apply r_append'; exact rfl; exact rfl; decide; infer_instance; exact rfl; exact rfl; exact rfl; exact rfl; exact rfl; assumption
  simp only [length_aBytes, List.length_append, List.length_cons, List.length_nil, List.length_map, List.length_range]
  omega; intro tk1 σ1 hm; apply r_op; exact rfl; exact rfl; apply a_assign; (conv => (lhs; whnf)); (with_reducible refine runs_done ?_); refine W.ret ?_; show Q Exit.ret _ _; refine post_p hQ rfl rfl ?_; rotate_left
  · have hk : ¬ k < 128 := by simp at hc; omega
    refine ⟨k / 128, by omega, k / 128, acc ++ [Al.byteOf k ||| Al.byteOf 128], tk1, rfl, by omega, ?_, hm, ?_⟩
    · rw [← hacc, numB_big hk]
      simp [byte_or]
    · rw [aBytes_append]
      exact Has.by (by repeat (first | exact trivial | refine ⟨by first | trivial | exact Weak.refl _ | exact Weak.tok _ _ _ | exact Weak.of_eq (congrArg (AV.int _) (by omega)) | exact Weak.nils _ _ (.inr rfl), ?_⟩))
  · refine ⟨tk1, ?_, hm⟩
    have hk : k < 128 := by simp at hc; omega
    rw [← hacc, numB_small hk, aBytes_append, byteOf_nat]; rfl
def txt (s : List UInt8) : List UInt8 := num s.length ++ s
theorem text_room (w0 : Base) (s : List UInt8) (hs : s.length ≤ 1000000000) (σ : St) : CallW Tryz.prog w0 64 [.str s] σ (fun r σ' => ∃ tk, r = .slc 1 (aBytes (txt s)) tk ∧ Moves σ .full σ' tk) := by
  refine CallW.start Tryz.func64 rfl Tryz.ntmps64 (by simp) fun Q hQ => ?_
  have hl := num_len s.length
  refine W.seq ?_; refine W.regionL (by decide +kernel) rfl ?_; apply r_op; exact rfl; exact rfl; apply a_assign; (conv => (lhs; whnf)); (with_reducible refine runs_done ?_); refine W.seq ?_; refine W.regionL (by decide +kernel) rfl ?_; apply r_op; exact rfl; exact rfl; apply a_move; (conv => (lhs; whnf)); apply r_op; exact rfl; exact rfl; apply g_call; exact a_len_str rfl; apply r_callM; exact rfl
  exact rfl; decide; exact rfl; exact rfl; exact rfl; infer_instance; exact num_room w0 _ _; intro tk1 σ1 hm; apply r_op; exact rfl; exact rfl; apply a_move; (conv => (lhs; whnf)); apply r_append'; exact rfl; exact rfl; decide; infer_instance; exact rfl; exact rfl; exact rfl; exact rfl; exact rfl; assumption
  simp only [length_aBytes, List.length_append, List.length_cons, List.length_nil, List.length_map, List.length_range]
  omega; intro tk1 σ1 hm; apply r_op; exact rfl; exact rfl; apply a_assign; (conv => (lhs; whnf)); (with_reducible refine runs_done ?_); refine W.ret ?_; show Q Exit.ret _ _; refine post_p hQ rfl rfl ?_
  exact ⟨tk1, by rw [txt, aBytes_append]; rfl, hm⟩
end Go.Proofs.YtkbmkhhcppfcnaaGreatDoor
end
section
set_option linter.unusedVariables false
set_option linter.unusedSimpArgs false
set_option maxRecDepth 100000
set_option maxHeartbeats 400000
namespace Go.Proofs.YtkbmkhhcppfcnaaGreatDoor
open Go.Al Go.RowKit
structure Laid (w : World) : Prop where
  tab : Lib.TabIs Tryz.prog w "internal/strconv.uint64pow10" .u64 Lib.pow10Tab
  syn : ∃ t p, w.cell? ⟨0, 0, none⟩ = some (.iface t p)
  rng : ∃ t p, w.cell? ⟨1, 0, none⟩ = some (.iface t p)
theorem laid_below {w0 w : World} (h : Laid w0) (hb : Below w0.heap.size w0 w) : Laid w :=
  ⟨Lib.tabBelow_of_tabIs h.tab w hb, h.syn.imp fun _ h => h.imp fun _ h => cell_below hb (Nat.le_refl _) h, h.rng.imp fun _ h => h.imp fun _ h => cell_below hb (Nat.le_refl _) h⟩
instance : OwnF Tryz.prog 98 := ⟨_, Tryz.func98, by kernel_rfl, by kernel_rfl⟩
instance : OwnF Tryz.prog 99 := ⟨_, Tryz.func99, by kernel_rfl, by kernel_rfl⟩
instance : OwnF Tryz.prog 73 := ⟨_, Tryz.func73, by kernel_rfl, by kernel_rfl⟩
theorem itoa_any (w0 : Base) (hL : Laid w0) (n : Int) (h0 : -9223372036854775808 ≤ n) (h1 : n ≤ 9223372036854775807) : CallP Tryz.prog w0 98 [.int .i64 n] (.str (Lib.itoa n)) := .told fun G w vs hb hr => by
  cases hr with
  | cons h t =>
    cases t
    cases h
    exact ⟨_, fun w' => .str _, (Tryz.strconv_Itoa n h0 h1 w (laid_below hL hb).tab).mono fun e w' ⟨he, k, os, hw⟩ => ⟨he, hw ▸ Lib.below_grow _ w (Nat.le_refl _) k os⟩⟩
theorem repeat_any (w0 : Base) (s : List UInt8) (c : Nat) (hc : c ≤ 1000000) (hs : s.length ≤ 1000000) : CallP Tryz.prog w0 99 [.str s, .int .i64 c] (.str (Lib.repeatL s c)) := .told fun G w vs hb hr => by
  cases hr with
  | cons h t =>
    cases t with
    | cons h2 t =>
    cases t
    cases h
    cases h2
    refine ⟨_, fun w' => .str _, (Tryz.strings_Repeat ⟨s.toArray⟩ c w (by omega) ?_).mono fun e w' ⟨he, hw⟩ => ⟨he, hw⟩⟩
    have : (⟨s.toArray⟩ : ByteArray).size = s.length := by simp [ByteArray.size]
    rw [this]
    have := Nat.mul_le_mul hs hc
    omega
def goAtoi (l : List UInt8) : Int × Bool := match Lib.atoiAll l with
  | .ok v => (v, true)
  | .range => (Lib.atoiSat l, false)
  | _ => (0, false)
def eErr : Bool → AV
  | true => .nilifc
  | false => .ifc 146 .und
theorem bytesWorld_le (w : World) (t : TypeId) (s : ByteArray) (w' : World) (h : w' = w ∨ ∃ u, w' = Lib.bytesWorld w t u) : Below w.heap.size w w' := by
  rcases h with rfl | ⟨u, rfl⟩
  · exact .refl _ _
  · exact Lib.bytesWorld_below w _ _
theorem goAtoi_any (w0 : Base) (hL : Laid w0) (s : List UInt8) (hs : s.length ≤ 1000000000000) : CallP Tryz.prog w0 73 [.str s] (.tup [.int .i64 (goAtoi s).1, eErr (goAtoi s).2]) := .tells fun G w vs hb hr => by
  cases hr with
  | cons h1 t =>
    cases t
    cases h1
    have hL' := laid_below hL hb
    have hsz : (⟨s.toArray⟩ : ByteArray).size = s.length := by simp [ByteArray.size]
    have hl : (⟨s.toArray⟩ : ByteArray).data.toList = s := by simp
    unfold goAtoi
    rcases h : Lib.atoiAll s with v | _ | _
    · refine (Tryz.strconv_Atoi_ok ⟨s.toArray⟩ (by omega) v (by rw [hl]; exact h) w).mono fun e w' ⟨he, hw⟩ => ⟨_, he, .tup (.cons (.int _ _) (.cons .nilifc .nil)), bytesWorld_le w _ ⟨s.toArray⟩ w' hw⟩
    · obtain ⟨ti, p, hc⟩ := hL'.syn
      refine (Any.strconv_Atoi_syntax Tryz.laysC172 ⟨s.toArray⟩ (by omega) (by rw [hl]; exact h) _ w hc (.inr ⟨ti, p, rfl⟩)).mono fun e w' ⟨m, he, _, _, hw⟩ => ⟨_, he, .tup (.cons (.int _ _) (.cons (.ifc (.und _)) .nil)), hw⟩
    · obtain ⟨ti, p, hc⟩ := hL'.rng
      refine (Tryz.strconv_Atoi_range ⟨s.toArray⟩ (by omega) (by rw [hl]; exact h) _ w hc (.inr ⟨ti, p, rfl⟩)).mono fun e w' ⟨m, he, _, _, hw⟩ => ⟨_, he, ?_, hw⟩
      rw [hl]
      exact .tup (.cons (.int _ _) (.cons (.ifc (.und _)) .nil))
theorem goAtoi_ok {s : List UInt8} {n : Int} (hs : s.length ≤ 18) (h : Lib.atoi s = some n) : goAtoi s = (n, true) := by
  rw [goAtoi, Lib.atoiAll_short s hs, h]; rfl
theorem atoi_any (w0 : Base) (hL : Laid w0) (s : List UInt8) (n : Int) (hs : s.length ≤ 18) (h : Lib.atoi s = some n) : CallP Tryz.prog w0 73 [.str s] (.tup [.int .i64 n, .nilifc]) := by
  have := goAtoi_any w0 hL s (by omega)
  rw [goAtoi_ok hs h] at this
  exact this
theorem cl_itoa (n : Int) : Lib.itoa (max 0 (min n 9999999999)) = Lib.decDigits (cl n) := by
  unfold Lib.itoa cl
  rw [if_neg (by omega)]
theorem rep_one (c : Nat) : Lib.repeatL [48] c = List.replicate c 48 := by
  have := Lib.repeatL_replicate 48 1 c
  simpa using this
theorem itoaC_any (w0 : Base) (hL : Laid w0) (n : Int) : CallP Tryz.prog w0 98 [.int .i64 (max 0 (min n 9999999999))] (.str (Lib.decDigits (cl n))) := by
  rw [← cl_itoa]
  exact itoa_any w0 hL _ (by omega) (by omega)
theorem repeatC_any (w0 : Base) (a : Nat) (ha : a ≤ 10) : CallP Tryz.prog w0 99 [.str [48], .int .i64 (10 - (a : Int))] (.str (List.replicate (10 - a) 48)) := by
  rw [← rep_one]
  have : (10 - (a : Int)) = ((10 - a : Nat) : Int) := by omega
  rw [this]
  exact repeat_any w0 [48] (10 - a) (by omega) (by simp)
theorem number_any (w0 : Base) (hL : Laid w0) (n : Int) : CallP Tryz.prog w0 62 [.int .i64 n] (.str (dN 10 (cl n))) := by
  refine CallP.start Tryz.func62 rfl Tryz.ntmps62 (by simp) fun σ Q hQ => ?_
  obtain ⟨h1, h2⟩ := dec_pad 9 (cl n) (cl_lt n)
  refine W.seq ?_; refine W.regionL (by decide +kernel) rfl ?_; apply r_op; exact rfl; exact rfl; apply a_assign; (conv => (lhs; whnf)); (with_reducible refine runs_done ?_); refine W.seq ?_; refine W.regionL (by decide +kernel) rfl ?_; apply r_op; exact rfl; exact rfl; apply a_move; (conv => (lhs; whnf)); apply r_op; exact rfl; exact rfl; apply g_call; exact a_min rfl rfl; apply r_op; exact rfl
  exact rfl; apply g_call; exact a_max rfl rfl; apply r_callP; exact rfl; exact rfl; exact rfl; exact rfl; exact rfl; infer_instance; exact itoaC_any w0 hL n; apply r_op; exact rfl; exact rfl; apply a_assign; (conv => (lhs; whnf)); (with_reducible refine runs_done ?_); refine W.seq ?_; refine W.regionL (by decide +kernel) rfl ?_; apply r_op; exact rfl; exact rfl; apply a_move; (conv => (lhs; whnf))
  apply r_op; exact rfl; exact rfl; apply g_call; exact a_len_str rfl; apply r_op; exact rfl; exact rfl; apply g_binOp; exact a_sub64 rfl rfl (by omega); apply r_callP; exact rfl; exact rfl; exact rfl; exact rfl; exact rfl; infer_instance; exact repeatC_any w0 _ h1; apply r_op; exact rfl; exact rfl; apply a_move; (conv => (lhs; whnf)); apply r_op; exact rfl; exact rfl; apply g_binOp
  exact a_addS rfl rfl (by simp only [List.length_replicate, List.length_append, List.length_cons, List.length_nil]; omega); apply r_op; exact rfl; exact rfl; apply a_assign; (conv => (lhs; whnf)); (with_reducible refine runs_done ?_); refine W.ret ?_; show Q Exit.ret _ _; refine post_q hQ (by apply res_tmp; exact rfl; exact res_nil) (.inl rfl) (by exact .refl _) ?_; (conv => (lhs; whnf))
  rw [h2]
theorem key_byte {v : Nat} (hv : v < 10) : Al.byteOf (48 + ((Al.byteOf (max ((v : Int) % 10) (-((v : Int) % 10)))).toNat : Int)) = UInt8.ofNat (48 + v) := by
  have e : max ((v : Int) % 10) (-((v : Int) % 10)) = (v : Nat) := by omega
  rw [e, byteOf_toNat v (by omega)]
  show Al.byteOf ((48 + v : Nat) : Int) = _
  exact byteOf_nat _
theorem keyS_any (w0 : Base) (hL : Laid w0) (v : Nat) (hv : v < 10) (t : UInt8) (id seq : Int) : CallP Tryz.prog w0 20 [.int .i64 v, .int .u8 t.toNat, .int .i64 id, .int .i64 seq] (.str (rkey v t id seq)) := by
  refine CallP.start Tryz.func20 rfl Tryz.ntmps20 (by simp) fun σ Q hQ => ?_
  have hl := dN_length 10 (cl id)
  have hl2 := dN_length 10 (cl seq)
  refine W.seq ?_; refine W.regionL (by decide +kernel) rfl ?_; apply r_op; exact rfl; exact rfl; apply a_assign; (conv => (lhs; whnf)); (with_reducible refine runs_done ?_); refine W.seq ?_; refine W.regionDK 1 [] Ty.mixed (by decide +kernel) (by decide +kernel) rfl ?_; apply r_op; exact rfl; exact rfl; apply a_move; (conv => (lhs; whnf)); apply r_op; exact rfl; exact rfl; apply g_binOp
  exact a_rem rfl rfl (by omega); apply r_op; exact rfl; exact rfl; apply a_move; (conv => (lhs; whnf)); apply r_op; exact rfl; exact rfl; apply g_binOp; exact a_rem rfl rfl (by omega); apply r_op; exact rfl; exact rfl; apply g_unOp; exact a_neg64 rfl (by omega); apply r_op; exact rfl; exact rfl; apply g_call; exact a_max rfl rfl; apply r_op; exact rfl; exact rfl; apply g_convert; exact a_convB rfl
  apply r_op; exact rfl; exact rfl; apply g_binOp; exact a_u8add rfl rfl; apply r_op; exact rfl; exact rfl; apply a_move; (conv => (lhs; whnf)); apply r_op; exact rfl; exact rfl; apply g_buildSlice; apply a_buildN; apply EvP.cons (by (conv => (lhs; whnf))); apply EvP.cons (by (conv => (lhs; whnf))); exact EvP.nil; (conv => (lhs; whnf)); exact rfl; exact rfl; decide; apply r_op; exact rfl; exact rfl
  apply g_convert; exact a_bytesStrX rfl (by apply toB_cons; apply toB_cons; exact toB_nil); apply r_op; exact rfl; exact rfl; apply a_move; (conv => (lhs; whnf)); apply r_callP; exact rfl; exact rfl; exact rfl; exact rfl; exact rfl; infer_instance; exact number_any w0 hL _; apply r_op; exact rfl; exact rfl; apply g_binOp
  exact a_addS rfl rfl (by simp only [List.length_replicate, List.length_append, List.length_cons, List.length_nil]; omega); apply r_op; exact rfl; exact rfl; apply a_move; (conv => (lhs; whnf)); apply r_callP; exact rfl; exact rfl; exact rfl; exact rfl; exact rfl; infer_instance; exact number_any w0 hL _; apply r_op; exact rfl; exact rfl; apply g_binOp
  exact a_addS rfl rfl (by simp only [List.length_replicate, List.length_append, List.length_cons, List.length_nil]; omega); apply r_op; exact rfl; exact rfl; apply a_assign; (conv => (lhs; whnf)); (with_reducible refine runs_done ?_); refine W.ret ?_; show Q Exit.ret _ _; refine post_q hQ (by apply res_tmp; exact rfl; exact res_nil) (.inl rfl) (by exact .refl _) ?_; (conv => (lhs; whnf))
  rw [key_byte hv]; rfl
end Go.Proofs.YtkbmkhhcppfcnaaGreatDoor
end
section
set_option linter.unusedVariables false
set_option linter.unusedSimpArgs false
set_option maxRecDepth 100000
set_option maxHeartbeats 400000
namespace Go.Proofs.YtkbmkhhcppfcnaaGreatDoor
open Go.Al Go.RowKit
def deathN (m : Msg) : Int := if m.dead = false then 0 else if m.why = [110, 97, 99, 107] then 1 else 2
theorem whys_any (w0 : Base) : CallP Tryz.prog w0 94 [] (.agg [.str [], .str [110, 97, 99, 107], .str [116, 105, 109, 101]]) := by
  refine CallP.start Tryz.func94 rfl Tryz.ntmps94 (by simp) fun σ Q hQ => ?_
  refine W.seq ?_; refine W.regionL (by decide +kernel) rfl ?_; apply r_alloc; exact rfl; exact rfl; decide; exact rfl; (conv => (lhs; whnf)); intro b1 hb1; (with_reducible refine runs_done ?_); refine W.seq ?_; refine W.regionL (by decide +kernel) rfl ?_; apply r_op; exact rfl; exact rfl; apply g_build; apply a_build; apply EvP.cons (by (conv => (lhs; whnf)))
  apply EvP.cons (by (conv => (lhs; whnf))); apply EvP.cons (by (conv => (lhs; whnf))); exact EvP.nil
  simp only [aFill, List.getElem?_cons_zero, List.getElem?_cons_succ, AV.cells, List.length_cons, List.length_nil, AV.flat, AV.one, setL, List.set_cons_zero, List.set_cons_succ, Nat.reduceAdd, Nat.reduceLeDiff, Nat.reduceMul, and_self, if_true, ↓reduceIte, Nat.zero_add, Nat.le_refl, List.range, List.range.loop, List.map_cons, List.map_nil, Nat.zero_le]
  rfl; apply r_store; exact rfl; exact rfl; exact rfl; decide; infer_instance; exact rfl; exact setBox_same; (conv => (lhs; whnf)); exact rfl; (conv => (lhs; whnf)); exact rfl; exact of_decide_eq_true rfl; exact setL_whole rfl; (with_reducible refine runs_done ?_); refine W.ret ?_; show Q Exit.ret _ _
  refine post_q hQ (by apply res_cell; exact rfl; exact setBox_same; exact aLoadA rfl (by rfl) rfl; exact res_nil) (.inl rfl) (by refine le_setBox ?_ (by assumption); refine le_setBox ?_ (by assumption); exact .refl _) ?_; (conv => (lhs; whnf)); rfl
theorem death_any (w0 : Base) (m : Msg) : CallP Tryz.prog w0 60 [eMsg m] (.int .i64 (deathN m)) := by
  refine CallP.start Tryz.func60 rfl Tryz.ntmps60 (by simp) fun σ Q hQ => ?_
  refine W.seq ?_; refine W.regionL (by decide +kernel) rfl ?_; apply r_boxF; exact rfl; exact rfl; exact rfl; (conv => (lhs; whnf)); exact rfl; apply r_op; exact rfl; exact rfl; apply a_assign; (conv => (lhs; whnf)); (with_reducible refine runs_done ?_); refine W.seq ?_; refine W.regionL (by decide +kernel) rfl ?_; apply r_callP; exact rfl; exact rfl; exact rfl; exact rfl; exact rfl; infer_instance
  exact whys_any w0; apply r_alloc; exact rfl; exact rfl; decide; exact rfl; (conv => (lhs; whnf)); intro b1 hb1; apply r_store; exact rfl; exact rfl; exact rfl; decide; infer_instance; exact rfl; exact setBox_same; (conv => (lhs; whnf)); exact rfl; (conv => (lhs; whnf)); exact rfl; exact of_decide_eq_true rfl; exact setL_whole rfl; (with_reducible refine runs_done ?_); refine W.seq ?_
  refine W.block ?_; refine W.seq ?_; refine W.regionL (by decide +kernel) rfl ?_; apply r_op; exact rfl; exact rfl; apply g_fieldAddr; exact a_fieldAddr1 rfl (by decide) rfl; apply r_op; exact rfl; exact rfl; apply g_load; exact a_load1 rfl rfl; apply r_op; exact rfl; exact rfl; apply g_unOp; exact a_not rfl; apply r_op; exact rfl; exact rfl; apply a_assign; (conv => (lhs; whnf))
  (with_reducible refine runs_done ?_); refine W.cond rfl (fun hc => ?_) (fun hc => ?_); refine W.seq ?_; refine W.regionL (by decide +kernel) rfl ?_; apply r_op; exact rfl; exact rfl; apply a_assign; (conv => (lhs; whnf)); (with_reducible refine runs_done ?_); refine W.ret ?_; show Q Exit.ret _ _
  refine post_q hQ (by apply res_tmp; exact rfl; exact res_nil) (.inl rfl) (by refine le_setBox ?_ (by assumption); refine le_setBox ?_ (by assumption); exact .refl _) ?_; (conv => (lhs; whnf)); rotate_left; refine W.seq ?_; refine W.regionL (by decide +kernel) rfl ?_; apply r_op; exact rfl; exact rfl; apply g_fieldAddr; exact a_fieldAddr1 rfl (by decide) rfl; apply r_op; exact rfl; exact rfl
  apply g_load; exact a_load1 rfl rfl; apply r_op; exact rfl; exact rfl; apply g_indexAddr; exact a_indexAddrR rfl rfl (by omega); apply r_load; exact rfl; exact rfl; exact rfl; decide; exact rfl; exact setBox_same; exact aLoad1 rfl; apply r_op; exact rfl; exact rfl; apply g_binOp; exact a_binS rfl rfl rfl rfl; apply r_op; exact rfl; exact rfl; apply a_assign; (conv => (lhs; whnf))
  (with_reducible refine runs_done ?_); refine W.cond rfl (fun hc => ?_) (fun hc => ?_); refine W.seq ?_; refine W.regionL (by decide +kernel) rfl ?_; apply r_op; exact rfl; exact rfl; apply a_assign; (conv => (lhs; whnf)); (with_reducible refine runs_done ?_); refine W.ret ?_; show Q Exit.ret _ _
  refine post_q hQ (by apply res_tmp; exact rfl; exact res_nil) (.inl rfl) (by refine le_setBox ?_ (by assumption); refine le_setBox ?_ (by assumption); exact .refl _) ?_; (conv => (lhs; whnf)); rotate_left; refine W.skip ?_; show W _ _ _ _ _ _ _; refine W.seq ?_; refine W.regionL (by decide +kernel) rfl ?_; apply r_op; exact rfl; exact rfl; apply a_assign; (conv => (lhs; whnf))
  (with_reducible refine runs_done ?_); refine W.ret ?_; show Q Exit.ret _ _; refine post_q hQ (by apply res_tmp; exact rfl; exact res_nil) (.inl rfl) (by refine le_setBox ?_ (by assumption); refine le_setBox ?_ (by assumption); exact .refl _) ?_; (conv => (lhs; whnf)); rotate_left
  all_goals simp_all [deathN]
end Go.Proofs.YtkbmkhhcppfcnaaGreatDoor
end
section
set_option linter.unusedVariables false
set_option linter.unusedSimpArgs false
set_option maxRecDepth 100000
set_option maxHeartbeats 400000
namespace Go.Proofs.YtkbmkhhcppfcnaaGreatDoor
open Go.Al Go.RowKit
theorem num_p (w0 : Base) (n : Int) : CallP Tryz.prog w0 65 [.int .i64 n] (.slc 1 (aBytes (num n)) .no) := fun σ => (num_room w0 n σ).room
theorem text_p (w0 : Base) (s : List UInt8) (hs : s.length ≤ 1000000000) : CallP Tryz.prog w0 64 [.str s] (.slc 1 (aBytes (txt s)) .no) := fun σ => (text_room w0 s hs σ).room
def numsB : List Int → List UInt8
  | [] => []
  | a :: l => num a ++ numsB l
def txtsB : List (List UInt8) → List UInt8
  | [] => []
  | a :: l => txt a ++ txtsB l
theorem numsB_snoc : ∀ (l : List Int) (a : Int), numsB (l ++ [a]) = numsB l ++ num a
  | [], a => by simp [numsB]
  | b :: l, a => by simp [numsB, numsB_snoc l a]
theorem txtsB_snoc : ∀ (l : List (List UInt8)) (a : List UInt8), txtsB (l ++ [a]) = txtsB l ++ txt a
  | [], a => by simp [txtsB]
  | b :: l, a => by simp [txtsB, txtsB_snoc l a]
theorem numsB_len : ∀ (l : List Int), (numsB l).length ≤ 8 * l.length
  | [] => by simp [numsB]
  | a :: l => by
    have h1 := num_len a
    have h2 := numsB_len l
    simp [numsB]; omega
theorem take_snoc {α : Type} {l : List α} {i : Nat} {a : α} (h : l[i]? = some a) : l.take (i + 1) = l.take i ++ [a] := by
  rw [List.take_add_one, h]; rfl
theorem txt_len (s : List UInt8) : (txt s).length ≤ s.length + 8 := by
  have := num_len s.length
  simp [txt]; omega
theorem txtsB_len : ∀ (l : List (List UInt8)), (∀ a ∈ l, a.length ≤ 1000) → (txtsB l).length ≤ 1008 * l.length
  | [], _ => by simp [txtsB]
  | a :: l, h => by
    have h1 := txt_len a
    have h2 := txtsB_len l fun b hb => h b (by simp [hb])
    have h3 := h a (by simp)
    simp [txtsB]; omega
theorem writerNum (w0 : Base) {σ0 σ : St} {b : Nat} {acc : List UInt8} (l : List Int) {t tk tk0 : Tok} (hm : Moves (σ0.setBox b [.slc 1 (aBytes acc) tk]) tk0 σ tk) (hl : acc.length ≤ 1000000) (hl2 : l.length ≤ 1000) :
    CallW Tryz.prog w0 58 [.ptr b 0, .slc 1 (l.map (.int .i64)) t] σ (fun r s => r = .tup [] ∧ ∃ tk', Moves (σ0.setBox b [.slc 1 (aBytes (acc ++ numsB l)) tk']) tk0 s tk') := by
  refine CallW.start Tryz.func58 rfl Tryz.ntmps58 (by simp) fun Q hQ => ?_
  refine W.seq ?_; refine W.regionL (by decide +kernel) rfl ?_; apply r_op; exact rfl; exact rfl; apply a_move; (conv => (lhs; whnf)); apply r_op; exact rfl; exact rfl; apply g_call; exact a_len_slc rfl; apply r_op; exact rfl; exact rfl; apply a_move; (conv => (lhs; whnf)); (with_reducible refine runs_done ?_); refine W.block ?_
  refine W.loop (fun k E s => ∃ (i : Nat) (tki : Tok), i ≤ l.length ∧ k = l.length - i ∧ Moves (σ0.setBox b [.slc 1 (aBytes (acc ++ numsB (l.take i))) tki]) tk0 s tki ∧ Has [(0, .ptr b 0), (6, .slc 1 (l.map (.int .i64)) .no), (7, .int .i64 l.length), (8, .int .i64 i)] E) l.length ⟨0, tk, Nat.zero_le _, rfl, by simpa [numsB] using hm, ?_⟩ ?_
  · rw [List.length_map]
    exact Has.by (by repeat (first | exact trivial | refine ⟨by first | trivial | exact Weak.refl _ | exact Weak.tok _ _ _ | exact Weak.of_eq (congrArg (AV.int _) (by omega)) | exact Weak.nils _ _ (.inr rfl), ?_⟩))
  · rintro k E s ⟨i, tki, hi, rfl, hmi, hE⟩
    refine W.has hE ?_; clear hE
    have hlen : (numsB (l.take i)).length ≤ 8000 := by
      have h1 := numsB_len (l.take i)
      have h2 := List.length_take_le i l
      omega
    refine W.seq ?_; refine W.regionL (by decide +kernel) rfl ?_; apply r_op; exact rfl; exact rfl; apply g_binOp; exact a_binI rfl rfl rfl; (with_reducible refine runs_done ?_); refine W.seq ?_; refine W.cond rfl (fun hc => ?_) (fun hc => ?_)
    · have hlt : i < l.length := by simp at hc; omega
      have ga : l[i]? = some l[i] := by simp [hlt]
      have hs := take_snoc ga
      generalize l[i] = a at ga hs
      have h8 := num_len a
      refine W.skip ?_; show W _ _ _ _ _ _ _; refine W.seq ?_; refine W.block ?_; refine W.seq ?_; refine W.regionL (by decide +kernel) rfl ?_; apply r_op; exact rfl; exact rfl; apply g_indexAddr; exact a_indexAddr rfl rfl (by decide) (by omega) (by exact get_map (by assumption)); apply r_op; exact rfl; exact rfl; apply g_load; exact a_load1 rfl rfl; apply r_op; exact rfl; exact rfl; apply a_assign
      (conv => (lhs; whnf)); (with_reducible refine runs_done ?_); refine W.regionDK 1 [] Ty.mixed (by decide +kernel) (by decide +kernel) rfl ?_; apply r_op; exact rfl; exact rfl; apply a_move; (conv => (lhs; whnf)); apply r_op; exact rfl; exact rfl; apply a_move; (conv => (lhs; whnf)); apply r_op; exact rfl; exact rfl; apply g_nilCheck; exact a_nilCheck rfl rfl; apply r_load; exact rfl; exact rfl
      exact rfl; decide; exact rfl; apply hb_moves (by assumption); exact setBox_same; exact aLoad1 rfl; apply r_op; exact rfl; exact rfl; apply a_move; (conv => (lhs; whnf)); apply r_callP; exact rfl; exact rfl; exact rfl; exact rfl; exact rfl; infer_instance; exact num_p w0 _; apply r_append'; exact rfl; exact rfl; decide; infer_instance; exact rfl; exact rfl; exact rfl; exact rfl; exact rfl
      assumption
      simp only [length_aBytes, List.length_append, List.length_cons, List.length_nil, List.length_map, List.length_range]
      omega; intro tk1 σ1 hm; apply r_op; exact rfl; exact rfl; apply g_nilCheck; exact a_nilCheck rfl rfl; apply r_store; exact rfl; exact rfl; exact rfl; decide; infer_instance; exact rfl; apply hb_moves (by assumption); exact setBox_same; (conv => (lhs; whnf)); exact rfl; (conv => (lhs; whnf)); exact rfl; exact of_decide_eq_true rfl; exact setL_whole rfl; (with_reducible refine runs_done ?_)
      refine W.regionL (by decide +kernel) rfl ?_; apply r_op; exact rfl; exact rfl; apply g_binOp; exact a_add64 rfl rfl (by omega); apply r_op; exact rfl; exact rfl; apply a_move; (conv => (lhs; whnf)); (with_reducible refine runs_done ?_)
      refine ⟨l.length - (i + 1), by omega, i + 1, tk1, by omega, rfl, ?_, by exact Has.by (by repeat (first | exact trivial | refine ⟨by first | trivial | exact Weak.refl _ | exact Weak.tok _ _ _ | exact Weak.of_eq (congrArg (AV.int _) (by omega)) | exact Weak.nils _ _ (.inr rfl), ?_⟩))⟩
      have h9 := hm.set b [.slc 1 (aBytes (acc ++ numsB (l.take (i + 1)))) tk1]
      rw [setBox_setBox] at h9
      rw [hs, numsB_snoc, ← List.append_assoc, aBytes_append _ (num a)] at h9 ⊢
      exact h9
    · have hge : i = l.length := by simp at hc; omega
      refine W.exit ?_; show Q Exit.normal _ _; refine post_n hQ rfl rfl ⟨rfl, tki, ?_⟩
      rw [hge, List.take_length] at hmi
      exact hmi
theorem writerText (w0 : Base) {σ0 σ : St} {b : Nat} {acc : List UInt8} (l : List (List UInt8)) {t tk tk0 : Tok} (hm : Moves (σ0.setBox b [.slc 1 (aBytes acc) tk]) tk0 σ tk) (hl : acc.length ≤ 1000000) (hl2 : l.length ≤ 1000) (hs1 : ∀ a ∈ l, a.length ≤ 1000) :
    CallW Tryz.prog w0 59 [.ptr b 0, .slc 1 (l.map .str) t] σ (fun r s => r = .tup [] ∧ ∃ tk', Moves (σ0.setBox b [.slc 1 (aBytes (acc ++ txtsB l)) tk']) tk0 s tk') := by
  refine CallW.start Tryz.func59 rfl Tryz.ntmps59 (by simp) fun Q hQ => ?_
  refine W.seq ?_; refine W.regionL (by decide +kernel) rfl ?_; apply r_op; exact rfl; exact rfl; apply a_move; (conv => (lhs; whnf)); apply r_op; exact rfl; exact rfl; apply g_call; exact a_len_slc rfl; apply r_op; exact rfl; exact rfl; apply a_move; (conv => (lhs; whnf)); (with_reducible refine runs_done ?_); refine W.block ?_
  refine W.loop (fun k E s => ∃ (i : Nat) (tki : Tok), i ≤ l.length ∧ k = l.length - i ∧ Moves (σ0.setBox b [.slc 1 (aBytes (acc ++ txtsB (l.take i))) tki]) tk0 s tki ∧ Has [(0, .ptr b 0), (6, .slc 1 (l.map .str) .no), (7, .int .i64 l.length), (8, .int .i64 i)] E) l.length ⟨0, tk, Nat.zero_le _, rfl, by simpa [txtsB] using hm, ?_⟩ ?_
  · rw [List.length_map]
    exact Has.by (by repeat (first | exact trivial | refine ⟨by first | trivial | exact Weak.refl _ | exact Weak.tok _ _ _ | exact Weak.of_eq (congrArg (AV.int _) (by omega)) | exact Weak.nils _ _ (.inr rfl), ?_⟩))
  · rintro k E s ⟨i, tki, hi, rfl, hmi, hE⟩
    refine W.has hE ?_; clear hE
    have hlen : (txtsB (l.take i)).length ≤ 2000000 := by
      have h1 := txtsB_len (l.take i) fun a ha => hs1 a (List.mem_of_mem_take ha)
      have h2 := List.length_take_le i l
      omega
    refine W.seq ?_; refine W.regionL (by decide +kernel) rfl ?_; apply r_op; exact rfl; exact rfl; apply g_binOp; exact a_binI rfl rfl rfl; (with_reducible refine runs_done ?_); refine W.seq ?_; refine W.cond rfl (fun hc => ?_) (fun hc => ?_)
    · have hlt : i < l.length := by simp at hc; omega
      have ga : l[i]? = some l[i] := by simp [hlt]
      have hs := take_snoc ga
      have ha1 := hs1 _ (List.mem_of_getElem? ga)
      generalize l[i] = a at ga hs ha1
      have h8 := txt_len a
      refine W.skip ?_; show W _ _ _ _ _ _ _; refine W.seq ?_; refine W.block ?_; refine W.seq ?_; refine W.regionL (by decide +kernel) rfl ?_; apply r_op; exact rfl; exact rfl; apply g_indexAddr; exact a_indexAddr rfl rfl (by decide) (by omega) (by exact get_map (by assumption)); apply r_op; exact rfl; exact rfl; apply g_load; exact a_load1 rfl rfl; apply r_op; exact rfl; exact rfl; apply a_assign
      (conv => (lhs; whnf)); (with_reducible refine runs_done ?_); refine W.regionDK 1 [] Ty.mixed (by decide +kernel) (by decide +kernel) rfl ?_; apply r_op; exact rfl; exact rfl; apply a_move; (conv => (lhs; whnf)); apply r_op; exact rfl; exact rfl; apply a_move; (conv => (lhs; whnf)); apply r_op; exact rfl; exact rfl; apply g_nilCheck; exact a_nilCheck rfl rfl; apply r_load; exact rfl; exact rfl
      exact rfl; decide; exact rfl; apply hb_moves (by assumption); exact setBox_same; exact aLoad1 rfl; apply r_op; exact rfl; exact rfl; apply a_move; (conv => (lhs; whnf)); apply r_callP; exact rfl; exact rfl; exact rfl; exact rfl; exact rfl; infer_instance; exact text_p w0 _ (by omega); apply r_append'; exact rfl; exact rfl; decide; infer_instance; exact rfl; exact rfl; exact rfl; exact rfl
      exact rfl; assumption
      simp only [length_aBytes, List.length_append, List.length_cons, List.length_nil, List.length_map, List.length_range]
      omega; intro tk1 σ1 hm; apply r_op; exact rfl; exact rfl; apply g_nilCheck; exact a_nilCheck rfl rfl; apply r_store; exact rfl; exact rfl; exact rfl; decide; infer_instance; exact rfl; apply hb_moves (by assumption); exact setBox_same; (conv => (lhs; whnf)); exact rfl; (conv => (lhs; whnf)); exact rfl; exact of_decide_eq_true rfl; exact setL_whole rfl; (with_reducible refine runs_done ?_)
      refine W.regionL (by decide +kernel) rfl ?_; apply r_op; exact rfl; exact rfl; apply g_binOp; exact a_add64 rfl rfl (by omega); apply r_op; exact rfl; exact rfl; apply a_move; (conv => (lhs; whnf)); (with_reducible refine runs_done ?_)
      refine ⟨l.length - (i + 1), by omega, i + 1, tk1, by omega, rfl, ?_, by exact Has.by (by repeat (first | exact trivial | refine ⟨by first | trivial | exact Weak.refl _ | exact Weak.tok _ _ _ | exact Weak.of_eq (congrArg (AV.int _) (by omega)) | exact Weak.nils _ _ (.inr rfl), ?_⟩))⟩
      have h9 := hm.set b [.slc 1 (aBytes (acc ++ txtsB (l.take (i + 1)))) tk1]
      rw [setBox_setBox] at h9
      rw [hs, txtsB_snoc, ← List.append_assoc, aBytes_append _ (txt a)] at h9 ⊢
      exact h9
    · have hge : i = l.length := by simp at hc; omega
      refine W.exit ?_; show Q Exit.normal _ _; refine post_n hQ rfl rfl ⟨rfl, tki, ?_⟩
      rw [hge, List.take_length] at hmi
      exact hmi
end Go.Proofs.YtkbmkhhcppfcnaaGreatDoor
end
section
set_option linter.unusedVariables false
namespace Go.Proofs.YtkbmkhhcppfcnaaGreatDoor
open Go.Al
def w64 (n : Int) : Int := Go.IntKind.i64.wrap n
def gapsB (last : Int) : List Int → List UInt8
  | [] => []
  | a :: l => num (w64 (a - last)) ++ gapsB a l
def acksB (x : Sub) : List UInt8 := num x.acks.length ++ gapsB x.floor x.acks
def msgB (m : Msg) : List UInt8 := txt m.body ++ txt m.attr ++ num m.tries ++ num m.until_ ++ num m.prio ++ num (deathN m)
def subB (x : Sub) : List UInt8 := txt x.name ++ txt x.topic ++ txt x.want ++ num x.lease ++ num x.most ++ num x.floor ++ txt x.note
def msgRow (id : Int) (m : Msg) : Row := ⟨rkey 3 113 id m.seq, msgB m⟩
def enc3 (x : Sub) : List Row := (if x.acks = [] then [] else [⟨rkey 3 97 x.id 0, acksB x⟩]) ++ x.queue.map (msgRow x.id) ++ [⟨rkey 3 115 x.id 0, subB x⟩]
structure Fits (x : Sub) : Prop where
  name : x.name.length ≤ 1000
  topic : x.topic.length ≤ 1000
  want : x.want.length ≤ 1000
  note : x.note.length ≤ 1000
  nacks : x.acks.length ≤ 100000
  nqueue : x.queue.length ≤ 100000
  queue : ∀ m ∈ x.queue, m.body.length ≤ 1000 ∧ m.attr.length ≤ 1000
theorem gapsB_len : ∀ (l : List Int) (last : Int), (gapsB last l).length ≤ 8 * l.length
  | [], _ => by simp [gapsB]
  | a :: l, last => by
    have h1 := num_len (w64 (a - last))
    have h2 := gapsB_len l a
    simp [gapsB]; omega
theorem gapsB_drop {l : List Int} {i : Nat} {a : Int} (h : l[i]? = some a) (last : Int) : gapsB last (l.drop i) = num (w64 (a - last)) ++ gapsB a (l.drop (i + 1)) := by
  obtain ⟨hi, rfl⟩ := List.getElem?_eq_some_iff.1 h
  rw [List.drop_eq_getElem_cons hi]; rfl
end Go.Proofs.YtkbmkhhcppfcnaaGreatDoor
end
section
set_option linter.unusedVariables false
namespace Go.Proofs.YtkbmkhhcppfcnaaGreatDoor
open Go.Al
def deadN (m : Msg) : Int := if m.dead = true then 1 else 0
def qB (m : Msg) : List UInt8 := txt m.body ++ txt m.attr ++ num m.tries ++ num m.until_ ++ num (deadN m)
def xB (m : Msg) : List UInt8 := num m.prio ++ num (deathN m)
def sB (x : Sub) : List UInt8 := txt x.name ++ txt x.topic ++ num x.lease ++ num x.most ++ num x.floor
def ack1 (id n : Int) : Row := ⟨rkey 1 97 id n, []⟩
def note1 (x : Sub) : List Row := if x.note = [] then [] else [⟨rkey 1 110 x.id 0, txt x.note⟩]
def q1 (id : Int) (m : Msg) : Row := ⟨rkey 1 113 id m.seq, qB m⟩
def s1 (x : Sub) : Row := ⟨rkey 1 115 x.id 0, sB x⟩
def want1 (x : Sub) : List Row := if x.want = [] then [] else [⟨rkey 1 119 x.id 0, txt x.want⟩]
def x1 (id : Int) (m : Msg) : List Row := if m.prio ≠ 0 ∨ m.dead = true then [⟨rkey 1 120 id m.seq, xB m⟩] else []
def encA (x : Sub) : List Row := x.acks.map (ack1 x.id) ++ note1 x
def encB (x : Sub) : List Row := encA x ++ x.queue.map (q1 x.id) ++ [s1 x]
def enc1 (x : Sub) : List Row := encB x ++ want1 x ++ x.queue.flatMap (x1 x.id)
theorem flat_take_snoc {α β : Type} (f : α → List β) {l : List α} {i : Nat} {a : α} (h : l[i]? = some a) : (l.take (i + 1)).flatMap f = (l.take i).flatMap f ++ f a := by
  obtain ⟨hi, rfl⟩ := List.getElem?_eq_some_iff.1 h
  rw [List.take_succ_eq_append_getElem hi, List.flatMap_append]; simp
theorem note1_len (x : Sub) : (note1 x).length ≤ 1 := by unfold note1; split <;> simp
theorem want1_len (x : Sub) : (want1 x).length ≤ 1 := by unfold want1; split <;> simp
theorem x1_len (id : Int) (m : Msg) : (x1 id m).length ≤ 1 := by unfold x1; split <;> simp
theorem x1s_len (id : Int) : ∀ l : List Msg, (l.flatMap (x1 id)).length ≤ l.length
  | [] => by simp
  | m :: l => by
    have h1 := x1_len id m
    have h2 := x1s_len id l
    rw [List.flatMap_cons, List.length_append, List.length_cons]; omega
end Go.Proofs.YtkbmkhhcppfcnaaGreatDoor
end
section
set_option linter.unusedVariables false
set_option linter.unusedSimpArgs false
set_option maxRecDepth 100000
set_option maxHeartbeats 1000000
namespace Go.Proofs.YtkbmkhhcppfcnaaGreatDoor
open Go.Al Go.RowKit
instance : TyI Tryz.prog 91 := ⟨_, Tryz.underlying91⟩
instance : TyNI Tryz.prog 134 := ⟨_, Tryz.underlying134, rfl⟩
def gn (b : List UInt8) (at_ : Nat) : Nat → Nat → Nat → Nat × Nat × Nat
  | 0, _, _ => (0, 0, 11)
  | k + 1, i, n => if at_ + i = b.length then (0, 0, 10) else
    let c := (b.getD (at_ + i) 0).toNat
    let n' := n + c % 128 * 2 ^ (7 * i)
    if c < 128 then (if c = 0 ∧ 0 < i ∨ 9007199254740992 < n' then (0, 0, 11) else (n', at_ + i + 1, 0)) else gn b at_ k (i + 1) n'
def getNum (b : List UInt8) (at_ : Nat) : Nat × Nat × Nat := if b.length < at_ then (0, 0, 10) else gn b at_ 8 0 0
def e3 (p : Nat × Nat × Nat) : AV := .tup [.int .i64 p.1, .int .i64 p.2.1, .int .u16 p.2.2]
theorem getNum_any (w0 : Base) (b : List UInt8) (t : Tok) (a : Nat) (hb : b.length ≤ 1000000000) (ha : a ≤ 1000000000) : CallP Tryz.prog w0 92 [.slc 1 (aBytes b) t, .int .i64 a] (e3 (getNum b a)) := by
  refine CallP.start Tryz.func92 rfl Tryz.ntmps92 (by simp) fun σ Q hQ => ?_
  have hd0 : decide ((a : Int) < 0) = false := decide_eq_false (by omega)
  refine W.seq ?_; refine W.regionL (by decide +kernel) rfl ?_; apply r_op; exact rfl; exact rfl; apply a_assign; (conv => (lhs; whnf)); apply r_op; exact rfl; exact rfl; apply a_assign; (conv => (lhs; whnf)); apply r_op; exact rfl; exact rfl; apply a_assign; (conv => (lhs; whnf)); (with_reducible refine runs_done ?_); refine W.scope 1 ?_; refine W.seq ?_
  refine W.regionL (by decide +kernel) rfl ?_; apply r_op; exact rfl; exact rfl; apply a_assign; (conv => (lhs; whnf)); apply r_op; exact rfl; exact rfl; apply a_assign; (conv => (lhs; whnf)); (with_reducible refine runs_done ?_); refine W.seq ?_; refine W.seq ?_; refine W.regionL (by decide +kernel) rfl ?_; apply r_op; exact rfl; exact rfl; apply a_move; (conv => (lhs; whnf)); apply r_op
  exact rfl; exact rfl; apply g_binOp; exact a_binI rfl rfl rfl; apply r_op; exact rfl; exact rfl; apply a_move; (conv => (lhs; whnf)); apply r_op; exact rfl; exact rfl; apply a_move; (conv => (lhs; whnf)); apply r_op; exact rfl; exact rfl; apply a_move; (conv => (lhs; whnf)); apply r_op; exact rfl; exact rfl; apply g_call; exact a_len_slc rfl; apply r_op; exact rfl; exact rfl; apply g_binOp
  exact a_binI rfl rfl rfl; apply r_op; exact rfl; exact rfl; apply g_pick; apply a_pickF rfl (by exact rfl); (conv => (lhs; whnf)); (with_reducible refine runs_done ?_); refine W.meet (fun E s => s = σ ∧ a ≤ b.length ∧ Has [(0, .slc 1 (aBytes b) t), (1, .int .i64 a), (7, .int .i64 0), (8, .int .i64 0)] E) ?_ ?_
  · refine W.cond rfl (fun hc => ?_) (fun hc => ?_)
    · refine W.goto ?_
      refine ⟨_, rfl, ?_⟩; show W _ _ _ _ _ _ _; refine W.seq ?_; refine W.skip ?_; show W _ _ _ _ _ _ _; refine W.seq ?_; refine W.regionL (by decide +kernel) rfl ?_; apply r_op; exact rfl; exact rfl; apply a_assign; (conv => (lhs; whnf)); apply r_op; exact rfl; exact rfl; apply a_assign; (conv => (lhs; whnf)); apply r_op; exact rfl; exact rfl; apply a_assign; (conv => (lhs; whnf))
      (with_reducible refine runs_done ?_); refine W.ret ?_; show Q Exit.ret _ _; refine post_q hQ (by apply res_tmp; exact rfl; apply res_tmp; exact rfl; apply res_tmp; exact rfl; exact res_nil) (.inl rfl) (by exact .refl _) ?_; (conv => (lhs; whnf))
      have : b.length < a := by simp [length_aBytes] at hc; omega
      rw [getNum, if_pos this]; rfl
    · refine W.skip ?_
      exact ⟨rfl, by simp [length_aBytes] at hc; omega, by exact Has.by (by repeat (first | exact trivial | refine ⟨by first | trivial | exact Weak.refl _ | exact Weak.tok _ _ _ | exact Weak.of_eq (congrArg (AV.int _) (by omega)) | exact Weak.of_eq (congrArg AV.bool (by fail)) | exact Weak.nils _ _ (.inr rfl), ?_⟩))⟩
  · rintro E s ⟨rfl, hle, hE⟩
    refine W.has hE ?_; clear hE; refine W.seq ?_; refine W.block ?_
    refine W.loop (fun k E s' => ∃ (i n : Nat), i + k = 8 ∧ n < 2 ^ (7 * i) ∧ a + i ≤ b.length ∧ getNum b a = gn b a k i n ∧ s' = s ∧ Has [(0, .slc 1 (aBytes b) t), (1, .int .i64 a), (7, .int .i64 n), (8, .int .i64 i)] E) 8 ⟨0, 0, rfl, by simp, by omega, by rw [getNum, if_neg (by omega)], rfl, by exact Has.by (by repeat (first | exact trivial | refine ⟨by first | trivial | exact Weak.refl _ | exact Weak.tok _ _ _ | exact Weak.of_eq (congrArg (AV.int _) (by omega)) | exact Weak.of_eq (congrArg AV.bool (by fail)) | exact Weak.nils _ _ (.inr rfl), ?_⟩))⟩ ?_
    rintro k E s' ⟨i, n, hik, hn, hai, hgn, rfl, hE⟩; refine W.has hE ?_; clear hE; refine W.seq ?_; refine W.seq ?_; refine W.regionL (by decide +kernel) rfl ?_; apply r_op; exact rfl; exact rfl; apply a_move; (conv => (lhs; whnf)); apply r_op; exact rfl; exact rfl; apply g_binOp; exact a_binI rfl rfl rfl; (with_reducible refine runs_done ?_); refine W.cond rfl (fun hc => ?_) (fun hc => ?_)
    · have hi : i < 8 := by simp at hc; omega
      obtain ⟨k, rfl⟩ : ∃ k', k = k' + 1 := ⟨k - 1, by omega⟩
      clear hc; refine W.skip ?_; show W _ _ _ _ _ _ _; refine W.seq ?_; refine W.block ?_; refine W.seq ?_; refine W.seq ?_; refine W.regionL (by decide +kernel) rfl ?_; apply r_op; exact rfl; exact rfl; apply a_move; (conv => (lhs; whnf)); apply r_op; exact rfl; exact rfl; apply a_move; (conv => (lhs; whnf)); apply r_op; exact rfl; exact rfl; apply g_binOp; exact a_add64 rfl rfl (by omega)
      apply r_op; exact rfl; exact rfl; apply a_move; (conv => (lhs; whnf)); apply r_op; exact rfl; exact rfl; apply g_call; exact a_len_slc rfl; apply r_op; exact rfl; exact rfl; apply g_binOp; exact a_binI rfl rfl rfl; (with_reducible refine runs_done ?_); refine W.cond rfl (fun hc => ?_) (fun hc => ?_)
      · refine W.goto ?_
        refine ⟨_, rfl, ?_⟩; show W _ _ _ _ _ _ _; refine W.seq ?_; refine W.skip ?_; show W _ _ _ _ _ _ _; refine W.seq ?_; refine W.regionL (by decide +kernel) rfl ?_; apply r_op; exact rfl; exact rfl; apply a_assign; (conv => (lhs; whnf)); apply r_op; exact rfl; exact rfl; apply a_assign; (conv => (lhs; whnf)); apply r_op; exact rfl; exact rfl; apply a_assign; (conv => (lhs; whnf))
        (with_reducible refine runs_done ?_); refine W.ret ?_; show Q Exit.ret _ _; refine post_q hQ (by apply res_tmp; exact rfl; apply res_tmp; exact rfl; apply res_tmp; exact rfl; exact res_nil) (.inl rfl) (by exact .refl _) ?_; (conv => (lhs; whnf))
        have : a + i = b.length := by simp [length_aBytes] at hc; omega
        rw [hgn, gn, if_pos this]; rfl
      · have hne : ¬ a + i = b.length := by simp [length_aBytes] at hc; omega
        have hlt : a + i < b.length := by omega
        have ga : b[((a : Int) + (i : Int)).toNat]? = some (b.getD (a + i) 0) := by
          rw [show ((a : Int) + (i : Int)).toNat = a + i by omega]; simp [hlt]
        clear hc
        rw [gn, if_neg hne] at hgn
        dsimp only at hgn
        generalize b.getD (a + i) 0 = c at ga hgn
        have h127 := and127' c
        have hc256 := c.toNat_lt
        have hm128 : c.toNat % 128 < 128 := Nat.mod_lt _ (by decide)
        have h7 : IntKind.i64.wrap ((BitVec.ofInt IntKind.i64.bits (n : Int) ||| BitVec.ofInt IntKind.i64.bits (IntKind.i64.wrap (IntKind.i64.wrap (((c &&& Al.byteOf 127).toNat : Nat) : Int) * 2 ^ (min (7 * (i : Int)).toNat IntKind.i64.bits)))).toNat : Int) = ((n + c.toNat % 128 * 2 ^ (7 * i) : Nat) : Int) := by
          have e1 : IntKind.i64.wrap (((c.toNat % 128 : Nat) : Int)) = ((c.toNat % 128 : Nat) : Int) := IntWalk.i64_in _ (by omega)
          rw [h127, e1, shl_val hm128 hi, or_val hn hm128 hi]
        have hn' : n + c.toNat % 128 * 2 ^ (7 * i) < 2 ^ (7 * (i + 1)) := by
          have e : (2 : Nat) ^ (7 * (i + 1)) = 128 * 2 ^ (7 * i) := by rw [show 7 * (i + 1) = 7 * i + 7 by omega, Nat.pow_add, Nat.mul_comm]
          have := Nat.mul_le_mul_right (2 ^ (7 * i)) (show c.toNat % 128 ≤ 127 by omega)
          omega
        have hb56 : 2 ^ (7 * (i + 1)) ≤ 2 ^ 56 := Nat.pow_le_pow_right (by decide) (by omega)
        have e56 : (2 : Nat) ^ 56 = 72057594037927936 := by decide
        refine W.skip ?_; show W _ _ _ _ _ _ _; refine W.seq ?_; refine W.regionL (by decide +kernel) rfl ?_; apply r_op; exact rfl; exact rfl; apply a_move; (conv => (lhs; whnf)); apply r_op; exact rfl; exact rfl; apply a_move; (conv => (lhs; whnf)); apply r_op; exact rfl; exact rfl; apply a_move; (conv => (lhs; whnf)); apply r_op; exact rfl; exact rfl; apply g_binOp
        exact a_add64 rfl rfl (by omega); apply r_op; exact rfl; exact rfl; apply g_indexAddr; exact a_indexAddr rfl rfl (by decide) (by omega) (by exact get_map (by assumption)); apply r_op; exact rfl; exact rfl; apply g_load; exact a_load1 rfl rfl; apply r_op; exact rfl; exact rfl; apply a_assign; (conv => (lhs; whnf)); (with_reducible refine runs_done ?_); refine W.seq ?_
        refine W.regionL (by decide +kernel) rfl ?_; apply r_op; exact rfl; exact rfl; apply a_move; (conv => (lhs; whnf)); apply r_op; exact rfl; exact rfl; apply a_move; (conv => (lhs; whnf)); apply r_op; exact rfl; exact rfl; apply g_binOp; exact a_u8andC rfl rfl (by omega); apply r_op; exact rfl; exact rfl; apply g_convert; exact a_convI rfl; apply r_op; exact rfl; exact rfl; apply a_move
        (conv => (lhs; whnf)); apply r_op; exact rfl; exact rfl; apply g_binOp; exact a_mul64 rfl rfl (by omega); apply r_op; exact rfl; exact rfl; apply g_binOp; exact a_binI rfl rfl rfl; apply r_op; exact rfl; exact rfl; apply g_binOp; exact a_binI rfl rfl rfl; apply r_op; exact rfl; exact rfl; apply a_assign; (conv => (lhs; whnf)); (with_reducible refine runs_done ?_); refine W.seq ?_
        refine W.regionL (by decide +kernel) rfl ?_; apply r_op; exact rfl; exact rfl; apply a_move; (conv => (lhs; whnf)); apply r_op; exact rfl; exact rfl; apply g_binOp; exact a_u8andC rfl rfl (by omega); apply r_op; exact rfl; exact rfl; apply g_binOp; exact a_binI rfl rfl rfl; (with_reducible refine runs_done ?_)
        refine W.has (l := [(0, .slc 1 (aBytes b) t), (1, .int .i64 a), (7, .int .i64 ((n + c.toNat % 128 * 2 ^ (7 * i) : Nat) : Int)), (8, .int .i64 i), (9, .int .u8 c.toNat), (44, .bool (decide ((((c &&& Al.byteOf 128).toNat : Nat) : Int) = 0)))]) (by exact Has.by (by repeat (first | exact trivial | refine ⟨by first | trivial | exact Weak.refl _ | exact Weak.tok _ _ _ | exact Weak.of_eq (congrArg (AV.int _) (by (first | exact h7 | omega))) | exact Weak.of_eq (congrArg AV.bool (by fail)) | exact Weak.nils _ _ (.inr rfl), ?_⟩))) ?_
        generalize n + c.toNat % 128 * 2 ^ (7 * i) = m at hgn hn'
        have h128 := and128' c
        clear h7; refine W.cond rfl (fun hc => ?_) (fun hc => ?_)
        · have hc1 : c.toNat < 128 := h128.1 (by have := of_decide_eq_true hc; omega)
          rw [if_pos hc1] at hgn
          have hm1 : m ≤ 72057594037927936 := by omega
          clear h128 hc hn' hb56 e56 hm128 h127; refine W.seq ?_; refine W.seq ?_; refine W.regionL (by decide +kernel) rfl ?_; apply r_op; exact rfl; exact rfl; apply a_move; (conv => (lhs; whnf)); apply r_op; exact rfl; exact rfl; apply g_binOp; exact a_binI rfl rfl rfl; apply r_op; exact rfl; exact rfl; apply a_move; (conv => (lhs; whnf)); refine q_split rfl rfl rfl (fun hg => ?_) (fun hg => ?_)
          apply r_op; exact rfl; exact want_t rfl rfl rfl (by assumption); apply a_move; (conv => (lhs; whnf)); apply r_op; exact rfl; exact want_t rfl rfl rfl (by assumption); apply g_binOp; exact a_binI rfl rfl rfl; apply r_op; exact rfl; exact rfl; apply g_pick; apply a_pickT rfl (by assumption); (conv => (lhs; whnf)); apply r_op; exact rfl; exact rfl; apply a_move; (conv => (lhs; whnf))
          refine q_split rfl rfl rfl (fun hg => ?_) (fun hg => ?_); apply q_skip; exact rfl; exact want_f rfl rfl rfl (by assumption); apply q_skip; exact rfl; exact want_f rfl rfl rfl (by assumption); apply r_op; exact rfl; exact rfl; apply g_pick; apply a_pickT rfl (by assumption); (conv => (lhs; whnf)); (with_reducible refine runs_done ?_); refine W.condT rfl (by exact rfl) ?_; rotate_left
          apply r_op; exact rfl; exact want_t rfl rfl rfl (by assumption); apply a_move; (conv => (lhs; whnf)); apply r_op; exact rfl; exact want_t rfl rfl rfl (by assumption); apply g_binOp; exact a_binI rfl rfl rfl; apply r_op; exact rfl; exact rfl; apply g_pick; apply a_pickF rfl (by assumption); (conv => (lhs; whnf)); (with_reducible refine runs_done ?_)
          refine W.cond rfl (fun hc => ?_) (fun hc => ?_); rotate_left; refine W.skip ?_; show W _ _ _ _ _ _ _; refine W.seq ?_; refine W.regionL (by decide +kernel) rfl ?_; apply r_op; exact rfl; exact rfl; apply a_move; (conv => (lhs; whnf)); apply r_op; exact rfl; exact rfl; apply a_move; (conv => (lhs; whnf)); apply r_op; exact rfl; exact rfl; apply a_move; (conv => (lhs; whnf)); apply r_op
          exact rfl; exact rfl; apply g_binOp; exact a_add64 rfl rfl (by omega); apply r_op; exact rfl; exact rfl; apply g_binOp; exact a_add64 rfl rfl (by omega); apply r_op; exact rfl; exact rfl; apply a_assign; (conv => (lhs; whnf)); apply r_op; exact rfl; exact rfl; apply a_assign; (conv => (lhs; whnf)); apply r_op; exact rfl; exact rfl; apply a_assign; (conv => (lhs; whnf))
          (with_reducible refine runs_done ?_); refine W.ret ?_; show Q Exit.ret _ _; refine post_q hQ (by apply res_tmp; exact rfl; apply res_tmp; exact rfl; apply res_tmp; exact rfl; exact res_nil) (.inl rfl) (by exact .refl _) ?_; (conv => (lhs; whnf)); rotate_left; apply q_skip; exact rfl; exact want_f rfl rfl rfl (by assumption); apply q_skip; exact rfl
          exact want_f rfl rfl rfl (by assumption); apply r_op; exact rfl; exact rfl; apply g_pick; apply a_pickF rfl (by assumption); (conv => (lhs; whnf)); apply r_op; exact rfl; exact rfl; apply a_move; (conv => (lhs; whnf)); apply r_op; exact rfl; exact rfl; apply a_move; (conv => (lhs; whnf)); apply r_op; exact rfl; exact rfl; apply g_binOp; exact a_binI rfl rfl rfl; apply r_op; exact rfl
          exact rfl; apply g_pick; apply a_pickF rfl (by exact rfl); (conv => (lhs; whnf)); (with_reducible refine runs_done ?_); refine W.cond rfl (fun hc => ?_) (fun hc => ?_); rotate_left; refine W.skip ?_; show W _ _ _ _ _ _ _; refine W.seq ?_; refine W.regionL (by decide +kernel) rfl ?_; apply r_op; exact rfl; exact rfl; apply a_move; (conv => (lhs; whnf)); apply r_op; exact rfl; exact rfl
          apply a_move; (conv => (lhs; whnf)); apply r_op; exact rfl; exact rfl; apply a_move; (conv => (lhs; whnf)); apply r_op; exact rfl; exact rfl; apply g_binOp; exact a_add64 rfl rfl (by omega); apply r_op; exact rfl; exact rfl; apply g_binOp; exact a_add64 rfl rfl (by omega); apply r_op; exact rfl; exact rfl; apply a_assign; (conv => (lhs; whnf)); apply r_op; exact rfl; exact rfl
          apply a_assign; (conv => (lhs; whnf)); apply r_op; exact rfl; exact rfl; apply a_assign; (conv => (lhs; whnf)); (with_reducible refine runs_done ?_); refine W.ret ?_; show Q Exit.ret _ _; refine post_q hQ (by apply res_tmp; exact rfl; apply res_tmp; exact rfl; apply res_tmp; exact rfl; exact res_nil) (.inl rfl) (by exact .refl _) ?_; (conv => (lhs; whnf)); rotate_left
          · have hq : (c.toNat = 0 ∧ 0 < i ∨ 9007199254740992 < m) := by
              simp only [decide_eq_true_eq, decide_eq_false_iff_not] at *; omega
            rw [if_pos hq] at hgn
            refine W.goto ?_; refine ⟨_, rfl, ?_⟩; show W _ _ _ _ _ _ _; refine W.seq ?_; refine W.skip ?_; show W _ _ _ _ _ _ _; refine W.seq ?_; refine W.seq ?_; refine W.regionL (by decide +kernel) rfl ?_; apply r_op; exact rfl; exact rfl; apply a_assign; (conv => (lhs; whnf)); apply r_op; exact rfl; exact rfl; apply a_assign; (conv => (lhs; whnf)); apply r_op; exact rfl; exact rfl
            apply a_assign; (conv => (lhs; whnf)); (with_reducible refine runs_done ?_); refine W.ret ?_; show Q Exit.ret _ _; refine post_q hQ (by apply res_tmp; exact rfl; apply res_tmp; exact rfl; apply res_tmp; exact rfl; exact res_nil) (.inl rfl) (by exact .refl _) ?_; (conv => (lhs; whnf))
            rw [hgn]; rfl
          · have hq : (c.toNat = 0 ∧ 0 < i ∨ 9007199254740992 < m) := by
              simp only [decide_eq_true_eq, decide_eq_false_iff_not] at *; omega
            rw [if_pos hq] at hgn
            refine W.goto ?_; refine ⟨_, rfl, ?_⟩; show W _ _ _ _ _ _ _; refine W.seq ?_; refine W.skip ?_; show W _ _ _ _ _ _ _; refine W.seq ?_; refine W.seq ?_; refine W.regionL (by decide +kernel) rfl ?_; apply r_op; exact rfl; exact rfl; apply a_assign; (conv => (lhs; whnf)); apply r_op; exact rfl; exact rfl; apply a_assign; (conv => (lhs; whnf)); apply r_op; exact rfl; exact rfl
            apply a_assign; (conv => (lhs; whnf)); (with_reducible refine runs_done ?_); refine W.ret ?_; show Q Exit.ret _ _; refine post_q hQ (by apply res_tmp; exact rfl; apply res_tmp; exact rfl; apply res_tmp; exact rfl; exact res_nil) (.inl rfl) (by exact .refl _) ?_; (conv => (lhs; whnf))
            rw [hgn]; rfl
          · have hq : ¬ (c.toNat = 0 ∧ 0 < i ∨ 9007199254740992 < m) := by
              simp only [decide_eq_true_eq, decide_eq_false_iff_not] at *; omega
            rw [if_neg hq] at hgn
            rw [hgn]; rfl
          · have hq : (c.toNat = 0 ∧ 0 < i ∨ 9007199254740992 < m) := by
              simp only [decide_eq_true_eq, decide_eq_false_iff_not] at *; omega
            rw [if_pos hq] at hgn
            refine W.goto ?_; refine ⟨_, rfl, ?_⟩; show W _ _ _ _ _ _ _; refine W.seq ?_; refine W.skip ?_; show W _ _ _ _ _ _ _; refine W.seq ?_; refine W.seq ?_; refine W.regionL (by decide +kernel) rfl ?_; apply r_op; exact rfl; exact rfl; apply a_assign; (conv => (lhs; whnf)); apply r_op; exact rfl; exact rfl; apply a_assign; (conv => (lhs; whnf)); apply r_op; exact rfl; exact rfl
            apply a_assign; (conv => (lhs; whnf)); (with_reducible refine runs_done ?_); refine W.ret ?_; show Q Exit.ret _ _; refine post_q hQ (by apply res_tmp; exact rfl; apply res_tmp; exact rfl; apply res_tmp; exact rfl; exact res_nil) (.inl rfl) (by exact .refl _) ?_; (conv => (lhs; whnf))
            rw [hgn]; rfl
          · have hq : ¬ (c.toNat = 0 ∧ 0 < i ∨ 9007199254740992 < m) := by
              simp only [decide_eq_true_eq, decide_eq_false_iff_not] at *; omega
            rw [if_neg hq] at hgn
            rw [hgn]; rfl
        · have hc1 : ¬ c.toNat < 128 := fun h => absurd (show (((c &&& Al.byteOf 128).toNat : Nat) : Int) = 0 by have := h128.2 h; omega) (of_decide_eq_false hc)
          rw [if_neg hc1] at hgn
          refine W.skip ?_; show W _ _ _ _ _ _ _; refine W.regionL (by decide +kernel) rfl ?_; apply r_op; exact rfl; exact rfl; apply a_move; (conv => (lhs; whnf)); apply r_op; exact rfl; exact rfl; apply g_binOp; exact a_add64 rfl rfl (by omega); apply r_op; exact rfl; exact rfl; apply a_assign; (conv => (lhs; whnf)); (with_reducible refine runs_done ?_)
          exact ⟨k, by omega, i + 1, m, by omega, hn', by omega, hgn, rfl, by exact Has.by (by repeat (first | exact trivial | refine ⟨by first | trivial | exact Weak.refl _ | exact Weak.tok _ _ _ | exact Weak.of_eq (congrArg (AV.int _) (by (first | exact h7 | omega))) | exact Weak.of_eq (congrArg AV.bool (by fail)) | exact Weak.nils _ _ (.inr rfl), ?_⟩))⟩
    · have h8 : i = 8 := by simp at hc; omega
      obtain rfl : k = 0 := by omega
      refine W.exit ?_; show W _ _ _ _ _ _ _; refine W.seq ?_; refine W.label ?_; show W _ _ _ _ _ _ _; refine W.seq ?_; refine W.seq ?_; refine W.regionL (by decide +kernel) rfl ?_; apply r_op; exact rfl; exact rfl; apply a_assign; (conv => (lhs; whnf)); apply r_op; exact rfl; exact rfl; apply a_assign; (conv => (lhs; whnf)); apply r_op; exact rfl; exact rfl; apply a_assign; (conv => (lhs; whnf))
      (with_reducible refine runs_done ?_); refine W.ret ?_; show Q Exit.ret _ _; refine post_q hQ (by apply res_tmp; exact rfl; apply res_tmp; exact rfl; apply res_tmp; exact rfl; exact res_nil) (.inl rfl) (by exact .refl _) ?_; (conv => (lhs; whnf))
      rw [hgn, gn]; rfl
end Go.Proofs.YtkbmkhhcppfcnaaGreatDoor
end
section
set_option linter.unusedVariables false
set_option linter.unusedSimpArgs false
set_option maxRecDepth 100000
set_option maxHeartbeats 1000000
namespace Go.Proofs.YtkbmkhhcppfcnaaGreatDoor
open Go.Al Go.RowKit
theorem gn_le : ∀ (b : List UInt8) (a k i n : Nat), a + i ≤ b.length → i + k ≤ 8 → (gn b a k i n).2.1 ≤ b.length ∧ (gn b a k i n).1 ≤ 9007199254740992 ∧ (gn b a k i n).2.2 ≤ 11
  | b, a, 0, i, n, h, _ => by simp [gn]
  | b, a, k + 1, i, n, h, h8 => by
    rw [gn]
    split
    · simp
    · rename_i hne
      dsimp only
      split
      · split
        · simp
        · rename_i hq
          refine ⟨?_, ?_, by simp⟩ <;> simp only <;> omega
      · exact gn_le b a k (i + 1) _ (by omega) (by omega)
theorem getNum_le (b : List UInt8) (a : Nat) : (getNum b a).2.1 ≤ b.length ∧ (getNum b a).1 ≤ 9007199254740992 ∧ (getNum b a).2.2 ≤ 11 := by
  unfold getNum
  split
  · simp
  · exact gn_le b a 8 0 0 (by omega) (by omega)
def getText (b : List UInt8) (a most : Nat) : List UInt8 × Nat × Nat :=
  let p := getNum b a
  if p.2.2 ≠ 0 then ([], 0, p.2.2) else if most < p.1 then ([], 0, 3) else if b.length < p.1 + p.2.1 then ([], 0, 10) else ((b.take (p.2.1 + p.1)).drop p.2.1, p.2.1 + p.1, 0)
def eT (p : List UInt8 × Nat × Nat) : AV := .tup [.str p.1, .int .i64 p.2.1, .int .u16 p.2.2]
theorem getText_any (w0 : Base) (b : List UInt8) (t : Tok) (a most : Nat) (hb : b.length ≤ 1000000) (ha : a ≤ 1000000) (hm : most ≤ 1000000) : CallP Tryz.prog w0 97 [.slc 1 (aBytes b) t, .int .i64 a, .int .i64 most] (eT (getText b a most)) := by
  refine CallP.start Tryz.func97 rfl Tryz.ntmps97 (by simp) fun σ Q hQ => ?_
  obtain ⟨h1, h2, h3⟩ := getNum_le b a
  have hg := getNum_any w0 b t a (by omega) (by omega)
  unfold getText at hQ
  generalize getNum b a = p at hg h1 h2 h3 hQ
  obtain ⟨n, k, e⟩ := p
  rw [e3] at hg
  dsimp only at h1 h2 h3 hg hQ
  refine W.seq ?_; refine W.regionL (by decide +kernel) rfl ?_; apply r_op; exact rfl; exact rfl; apply a_assign; (conv => (lhs; whnf)); apply r_op; exact rfl; exact rfl; apply a_assign; (conv => (lhs; whnf)); apply r_op; exact rfl; exact rfl; apply a_assign; (conv => (lhs; whnf)); (with_reducible refine runs_done ?_); refine W.seq ?_; refine W.regionL (by decide +kernel) rfl ?_; apply r_op
  exact rfl; exact rfl; apply a_move; (conv => (lhs; whnf)); apply r_op; exact rfl; exact rfl; apply a_move; (conv => (lhs; whnf)); apply r_callP; exact rfl; exact rfl; exact rfl; exact rfl; exact rfl; infer_instance; exact hg; apply r_op; exact rfl; exact rfl; apply a_move; (conv => (lhs; whnf)); apply r_op; exact rfl; exact rfl; apply g_extract; exact a_extract rfl rfl; apply r_op; exact rfl
  exact rfl; apply g_extract; exact a_extract rfl rfl; apply r_op; exact rfl; exact rfl; apply g_extract; exact a_extract rfl rfl; apply r_op; exact rfl; exact rfl; apply a_assign; (conv => (lhs; whnf)); apply r_op; exact rfl; exact rfl; apply a_assign; (conv => (lhs; whnf)); apply r_op; exact rfl; exact rfl; apply a_assign; (conv => (lhs; whnf)); (with_reducible refine runs_done ?_); refine W.seq ?_
  refine W.block ?_; refine W.seq ?_; refine W.regionL (by decide +kernel) rfl ?_; apply r_op; exact rfl; exact rfl; apply a_move; (conv => (lhs; whnf)); apply r_op; exact rfl; exact rfl; apply g_binOp; exact a_binI rfl rfl rfl; apply r_op; exact rfl; exact rfl; apply a_assign; (conv => (lhs; whnf)); (with_reducible refine runs_done ?_); refine W.cond rfl (fun hc => ?_) (fun hc => ?_)
  refine W.seq ?_; refine W.regionL (by decide +kernel) rfl ?_; apply r_op; exact rfl; exact rfl; apply a_move; (conv => (lhs; whnf)); apply r_op; exact rfl; exact rfl; apply a_assign; (conv => (lhs; whnf)); apply r_op; exact rfl; exact rfl; apply a_assign; (conv => (lhs; whnf)); apply r_op; exact rfl; exact rfl; apply a_assign; (conv => (lhs; whnf)); (with_reducible refine runs_done ?_)
  refine W.ret ?_; show Q Exit.ret _ _; refine post_q hQ (by apply res_tmp; exact rfl; apply res_tmp; exact rfl; apply res_tmp; exact rfl; exact res_nil) (.inl rfl) (by exact .refl _) ?_; (conv => (lhs; whnf)); rotate_left; refine W.seq ?_; refine W.regionL (by decide +kernel) rfl ?_; apply r_op; exact rfl; exact rfl; apply a_move; (conv => (lhs; whnf)); apply r_op; exact rfl; exact rfl
  apply a_move; (conv => (lhs; whnf)); apply r_op; exact rfl; exact rfl; apply g_binOp; exact a_binI rfl rfl rfl; apply r_op; exact rfl; exact rfl; apply a_assign; (conv => (lhs; whnf)); (with_reducible refine runs_done ?_); refine W.cond rfl (fun hc => ?_) (fun hc => ?_); refine W.seq ?_; refine W.regionL (by decide +kernel) rfl ?_; apply r_op; exact rfl; exact rfl; apply a_assign
  (conv => (lhs; whnf)); apply r_op; exact rfl; exact rfl; apply a_assign; (conv => (lhs; whnf)); apply r_op; exact rfl; exact rfl; apply a_assign; (conv => (lhs; whnf)); (with_reducible refine runs_done ?_); refine W.ret ?_; show Q Exit.ret _ _; refine post_q hQ (by apply res_tmp; exact rfl; apply res_tmp; exact rfl; apply res_tmp; exact rfl; exact res_nil) (.inl rfl) (by exact .refl _) ?_
  (conv => (lhs; whnf)); rotate_left; refine W.seq ?_; refine W.regionL (by decide +kernel) rfl ?_; apply r_op; exact rfl; exact rfl; apply a_move; (conv => (lhs; whnf)); apply r_op; exact rfl; exact rfl; apply a_move; (conv => (lhs; whnf)); apply r_op; exact rfl; exact rfl; apply g_call; exact a_len_slc rfl; apply r_op; exact rfl; exact rfl; apply a_move; (conv => (lhs; whnf)); apply r_op
  exact rfl; exact rfl; apply g_binOp; exact a_sub64 rfl rfl (by simp only [List.length_cons, List.length_append, List.length_nil, List.length_map, length_aBytes, List.length_replicate, List.length_range]; omega); apply r_op; exact rfl; exact rfl; apply g_binOp; exact a_binI rfl rfl rfl; apply r_op; exact rfl; exact rfl; apply a_assign; (conv => (lhs; whnf)); (with_reducible refine runs_done ?_)
  refine W.cond rfl (fun hc => ?_) (fun hc => ?_); refine W.seq ?_; refine W.regionL (by decide +kernel) rfl ?_; apply r_op; exact rfl; exact rfl; apply a_assign; (conv => (lhs; whnf)); apply r_op; exact rfl; exact rfl; apply a_assign; (conv => (lhs; whnf)); apply r_op; exact rfl; exact rfl; apply a_assign; (conv => (lhs; whnf)); (with_reducible refine runs_done ?_); refine W.ret ?_
  show Q Exit.ret _ _; refine post_q hQ (by apply res_tmp; exact rfl; apply res_tmp; exact rfl; apply res_tmp; exact rfl; exact res_nil) (.inl rfl) (by exact .refl _) ?_; (conv => (lhs; whnf)); rotate_left; refine W.skip ?_; show W _ _ _ _ _ _ _; refine W.seq ?_; refine W.regionL (by decide +kernel) rfl ?_; apply r_op; exact rfl; exact rfl; apply a_move; (conv => (lhs; whnf)); apply r_op; exact rfl
  exact rfl; apply a_move; (conv => (lhs; whnf)); apply r_op; exact rfl; exact rfl; apply a_move; (conv => (lhs; whnf)); apply r_op; exact rfl; exact rfl; apply a_move; (conv => (lhs; whnf)); apply r_op; exact rfl; exact rfl; apply g_binOp; exact a_add64 rfl rfl (by omega); rotate_left
  · have he : e ≠ 0 := by rintro rfl; simp at hc
    rw [if_pos he]; rfl
  · have he : e = 0 := by simpa using ‹(!decide ((e : Int) = 0)) = false›
    have hq := of_decide_eq_true hc
    subst he
    rw [if_neg (by simp), if_pos (by omega)]; rfl
  · have he : e = 0 := by simpa using ‹(!decide ((e : Int) = 0)) = false›
    have hq1 := of_decide_eq_false ‹decide ((most : Int) < (n : Int)) = false›
    have hq := of_decide_eq_true hc
    subst he
    rw [length_aBytes] at hq
    rw [if_neg (by simp), if_neg (by omega), if_pos (by omega)]; rfl
  · have he : e = 0 := by simpa using ‹(!decide ((e : Int) = 0)) = false›
    have hq1 := of_decide_eq_false ‹decide ((most : Int) < (n : Int)) = false›
    have hq := of_decide_eq_false hc
    subst he
    rw [length_aBytes] at hq
    have hla := length_aBytes b
    apply r_op; exact rfl; exact rfl; apply g_slice; exact a_sliceB rfl rfl rfl (by omega); apply r_op; exact rfl; exact rfl; apply g_convert; exact a_bytesStr rfl; apply r_op; exact rfl; exact rfl; apply a_move; (conv => (lhs; whnf)); apply r_op; exact rfl; exact rfl; apply a_move; (conv => (lhs; whnf)); apply r_op; exact rfl; exact rfl; apply g_binOp; exact a_add64 rfl rfl (by omega); apply r_op
    exact rfl; exact rfl; apply a_assign; (conv => (lhs; whnf)); apply r_op; exact rfl; exact rfl; apply a_assign; (conv => (lhs; whnf)); apply r_op; exact rfl; exact rfl; apply a_assign; (conv => (lhs; whnf)); (with_reducible refine runs_done ?_); refine W.ret ?_; show Q Exit.ret _ _
    refine post_q hQ (by apply res_tmp; exact rfl; apply res_tmp; exact rfl; apply res_tmp; exact rfl; exact res_nil) (.inl rfl) (by exact .refl _) ?_; (conv => (lhs; whnf))
    rw [if_neg (by simp), if_neg (by omega), if_neg (by omega)]
    have e1 : ((k : Int) + (n : Int)).toNat = k + n := by omega
    show AV.tup [.str ((b.take ((k : Int) + (n : Int)).toNat).drop ((k : Int)).toNat), .int .i64 ((k : Int) + (n : Int)), .int .u16 0] = _
    rw [e1]; rfl
def fE : Option Nat → AV
  | none => .nilifc
  | some e => .ifc 134 (.agg [.int .u16 e])
def rd (v : List UInt8) (a : Nat) (f : Option Nat) : List AV := [.slc 1 (aBytes v) .no, .int .i64 a, fE f]
def atN (a k e : Nat) : Nat := if e = 0 then k else a
theorem takeN_any (w0 : Base) (v : List UInt8) (a : Nat) (f : Option Nat) (b : Nat) (σ : St) (hv : v.length ≤ 1000000) (ha : a ≤ 1000000) (hb : σ.box b = some (rd v a f)) :
    CallW Tryz.prog w0 91 [.ptr b 0, .fn (.func 92) [] []] σ (fun r s => r = .tup [.int .i64 (getNum v a).1, .int .u16 (getNum v a).2.2] ∧ s = σ.setBox b (rd v (atN a (getNum v a).2.1 (getNum v a).2.2) f)) := by
  refine CallW.start Tryz.func91 rfl Tryz.ntmps91 (by simp) fun Q hQ => ?_
  have hg := getNum_any w0 v .no a (by omega) (by omega)
  generalize getNum v a = p at hg hQ
  obtain ⟨n, k, e⟩ := p
  rw [e3] at hg
  dsimp only at hg hQ
  unfold rd at hb
  refine W.seq ?_; refine W.regionL (by decide +kernel) rfl ?_; apply r_op; exact rfl; exact rfl; apply a_assign; (conv => (lhs; whnf)); apply r_op; exact rfl; exact rfl; apply a_assign; (conv => (lhs; whnf)); (with_reducible refine runs_done ?_); refine W.seq ?_; refine W.regionDK 1 [] Ty.mixed (by decide +kernel) (by decide +kernel) rfl ?_; apply r_op; exact rfl; exact rfl; apply a_move
  (conv => (lhs; whnf)); apply r_op; exact rfl; exact rfl; apply a_move; (conv => (lhs; whnf)); apply r_op; exact rfl; exact rfl; apply g_nilCheck; exact a_nilCheck rfl rfl; apply r_op; exact rfl; exact rfl; apply g_fieldAddr; exact a_fieldAddrP rfl (by decide); apply r_load; exact rfl; exact rfl; exact rfl; decide; exact rfl; assumption; exact aLoad1 rfl; apply r_op; exact rfl; exact rfl
  apply a_move; (conv => (lhs; whnf)); apply r_op; exact rfl; exact rfl; apply g_nilCheck; exact a_nilCheck rfl rfl; apply r_op; exact rfl; exact rfl; apply g_fieldAddr; exact a_fieldAddrP rfl (by decide); apply r_load; exact rfl; exact rfl; exact rfl; decide; exact rfl; assumption; exact aLoad1 rfl; apply r_callP; exact rfl; exact rfl; exact rfl; exact rfl; exact rfl; infer_instance; exact hg
  apply r_op; exact rfl; exact rfl; apply a_move; (conv => (lhs; whnf)); apply r_op; exact rfl; exact rfl; apply g_extract; exact a_extract rfl rfl; apply r_op; exact rfl; exact rfl; apply g_extract; exact a_extract rfl rfl; apply r_op; exact rfl; exact rfl; apply g_extract; exact a_extract rfl rfl; apply r_op; exact rfl; exact rfl; apply a_assign; (conv => (lhs; whnf)); apply r_op; exact rfl
  exact rfl; apply a_assign; (conv => (lhs; whnf)); apply r_op; exact rfl; exact rfl; apply a_assign; (conv => (lhs; whnf)); (with_reducible refine runs_done ?_); refine W.seq ?_; refine W.seq ?_; refine W.regionL (by decide +kernel) rfl ?_; apply r_op; exact rfl; exact rfl; apply a_move; (conv => (lhs; whnf)); apply r_op; exact rfl; exact rfl; apply g_binOp; exact a_binI rfl rfl rfl
  (with_reducible refine runs_done ?_); refine W.cond rfl (fun hc => ?_) (fun hc => ?_); refine W.regionL (by decide +kernel) rfl ?_; apply r_op; exact rfl; exact rfl; apply a_move; (conv => (lhs; whnf)); apply r_op; exact rfl; exact rfl; apply a_move; (conv => (lhs; whnf)); apply r_op; exact rfl; exact rfl; apply g_nilCheck; exact a_nilCheck rfl rfl; apply r_op; exact rfl; exact rfl
  apply g_fieldAddr; exact a_fieldAddrP rfl (by decide); apply r_store; exact rfl; exact rfl; exact rfl; decide; infer_instance; exact rfl; assumption; (conv => (lhs; whnf)); exact rfl; (conv => (lhs; whnf)); exact rfl; exact of_decide_eq_true rfl; exact rfl; (with_reducible refine runs_done ?_); refine W.seq ?_; refine W.regionL (by decide +kernel) rfl ?_; apply r_op; exact rfl; exact rfl
  apply a_move; (conv => (lhs; whnf)); apply r_op; exact rfl; exact rfl; apply a_move; (conv => (lhs; whnf)); apply r_op; exact rfl; exact rfl; apply a_assign; (conv => (lhs; whnf)); apply r_op; exact rfl; exact rfl; apply a_assign; (conv => (lhs; whnf)); (with_reducible refine runs_done ?_); refine W.ret ?_; show Q Exit.ret _ _; refine post_p hQ rfl rfl ?_; (conv => (lhs; whnf)); rotate_left
  refine W.skip ?_; show W _ _ _ _ _ _ _; refine W.seq ?_; refine W.regionL (by decide +kernel) rfl ?_; apply r_op; exact rfl; exact rfl; apply a_move; (conv => (lhs; whnf)); apply r_op; exact rfl; exact rfl; apply a_move; (conv => (lhs; whnf)); apply r_op; exact rfl; exact rfl; apply a_assign; (conv => (lhs; whnf)); apply r_op; exact rfl; exact rfl; apply a_assign; (conv => (lhs; whnf))
  (with_reducible refine runs_done ?_); refine W.ret ?_; show Q Exit.ret _ _; refine post_p hQ rfl rfl ?_; (conv => (lhs; whnf)); rotate_left
  · have he : e = 0 := by simpa using hc
    subst he
    exact ⟨rfl, rfl⟩
  · have he : e ≠ 0 := by simpa using hc
    refine ⟨rfl, ?_⟩
    rw [atN, if_neg he]
    exact (setBox_id hb).symm
def errN (e : Nat) (f : Option Nat) : Option Nat := if e = 0 then f else match f with
  | none => some e
  | some g => some g
theorem keep_any (w0 : Base) (v : List UInt8) (a e : Nat) (f : Option Nat) (b : Nat) (σ : St) (hb : σ.box b = some (rd v a f)) :
    CallW Tryz.prog w0 93 [.ptr b 0, .int .u16 e] σ (fun r s => r = .bool ((errN e f).isNone) ∧ s = σ.setBox b (rd v a (errN e f))) := by
  refine CallW.start Tryz.func93 rfl Tryz.ntmps93 (by simp) fun Q hQ => ?_
  unfold rd at hb
  by_cases he : e = 0
  · subst he
    have hd : (!decide (((0 : Nat) : Int) = 0)) = false := rfl
    cases f with
    | none =>
      refine W.seq ?_; refine W.regionL (by decide +kernel) rfl ?_; apply r_op; exact rfl; exact rfl; apply a_assign; (conv => (lhs; whnf)); (with_reducible refine runs_done ?_); refine W.seq ?_; refine W.seq ?_; refine W.regionL (by decide +kernel) rfl ?_; apply r_op; exact rfl; exact rfl; apply a_move; (conv => (lhs; whnf)); apply r_op; exact rfl; exact rfl; apply g_binOp; exact a_binI rfl rfl rfl
      apply r_op; exact rfl; exact rfl; apply a_move; (conv => (lhs; whnf)); apply q_skip; exact rfl; exact want_f rfl rfl rfl (by exact rfl); apply q_skip; exact rfl; exact want_f rfl rfl rfl (by exact rfl); apply q_skip; exact rfl; exact want_f rfl rfl rfl (by exact rfl); apply q_skip; exact rfl; exact want_f rfl rfl rfl (by exact rfl); apply q_skip; exact rfl
      exact want_f rfl rfl rfl (by exact rfl); apply r_op; exact rfl; exact rfl; apply g_pick; apply a_pickF rfl (by exact rfl); (conv => (lhs; whnf)); (with_reducible refine runs_done ?_); refine W.condF rfl (by exact rfl) ?_; refine W.skip ?_; show W _ _ _ _ _ _ _; refine W.seq ?_; refine W.regionL (by decide +kernel) rfl ?_; apply r_op; exact rfl; exact rfl; apply a_move; (conv => (lhs; whnf))
      apply r_op; exact rfl; exact rfl; apply g_nilCheck; exact a_nilCheck rfl rfl; apply r_op; exact rfl; exact rfl; apply g_fieldAddr; exact a_fieldAddrP rfl (by decide); apply r_load; exact rfl; exact rfl; exact rfl; decide; exact rfl; assumption; exact aLoad1 rfl; apply r_op; exact rfl; exact rfl; apply g_binOp; exact a_nilI rfl rfl (by exact .inl rfl) rfl rfl rfl; apply r_op; exact rfl
      exact rfl; apply a_assign; (conv => (lhs; whnf)); (with_reducible refine runs_done ?_); refine W.ret ?_; show Q Exit.ret _ _; refine post_p hQ rfl rfl ?_; (conv => (lhs; whnf))
      exact ⟨rfl, (setBox_id hb).symm⟩
    | some g =>
      refine W.seq ?_; refine W.regionL (by decide +kernel) rfl ?_; apply r_op; exact rfl; exact rfl; apply a_assign; (conv => (lhs; whnf)); (with_reducible refine runs_done ?_); refine W.seq ?_; refine W.seq ?_; refine W.regionL (by decide +kernel) rfl ?_; apply r_op; exact rfl; exact rfl; apply a_move; (conv => (lhs; whnf)); apply r_op; exact rfl; exact rfl; apply g_binOp; exact a_binI rfl rfl rfl
      apply r_op; exact rfl; exact rfl; apply a_move; (conv => (lhs; whnf)); apply q_skip; exact rfl; exact want_f rfl rfl rfl (by exact rfl); apply q_skip; exact rfl; exact want_f rfl rfl rfl (by exact rfl); apply q_skip; exact rfl; exact want_f rfl rfl rfl (by exact rfl); apply q_skip; exact rfl; exact want_f rfl rfl rfl (by exact rfl); apply q_skip; exact rfl
      exact want_f rfl rfl rfl (by exact rfl); apply r_op; exact rfl; exact rfl; apply g_pick; apply a_pickF rfl (by exact rfl); (conv => (lhs; whnf)); (with_reducible refine runs_done ?_); refine W.condF rfl (by exact rfl) ?_; refine W.skip ?_; show W _ _ _ _ _ _ _; refine W.seq ?_; refine W.regionL (by decide +kernel) rfl ?_; apply r_op; exact rfl; exact rfl; apply a_move; (conv => (lhs; whnf))
      apply r_op; exact rfl; exact rfl; apply g_nilCheck; exact a_nilCheck rfl rfl; apply r_op; exact rfl; exact rfl; apply g_fieldAddr; exact a_fieldAddrP rfl (by decide); apply r_load; exact rfl; exact rfl; exact rfl; decide; exact rfl; assumption; exact aLoad1 rfl; apply r_op; exact rfl; exact rfl; apply g_binOp; exact a_nilI rfl rfl (by exact .inr ⟨_, _, rfl⟩) rfl rfl rfl; apply r_op; exact rfl
      exact rfl; apply a_assign; (conv => (lhs; whnf)); (with_reducible refine runs_done ?_); refine W.ret ?_; show Q Exit.ret _ _; refine post_p hQ rfl rfl ?_; (conv => (lhs; whnf))
      exact ⟨rfl, (setBox_id hb).symm⟩
  · have hd : (!decide ((e : Int) = 0)) = true := by simp [he]
    cases f with
    | none =>
      rw [show errN e none = some e from if_neg he] at hQ
      refine W.seq ?_; refine W.regionL (by decide +kernel) rfl ?_; apply r_op; exact rfl; exact rfl; apply a_assign; (conv => (lhs; whnf)); (with_reducible refine runs_done ?_); refine W.seq ?_; refine W.seq ?_; refine W.regionL (by decide +kernel) rfl ?_; apply r_op; exact rfl; exact rfl; apply a_move; (conv => (lhs; whnf)); apply r_op; exact rfl; exact rfl; apply g_binOp; exact a_binI rfl rfl rfl
      apply r_op; exact rfl; exact rfl; apply a_move; (conv => (lhs; whnf)); apply r_op; exact rfl; exact want_t rfl rfl rfl (by assumption); apply a_move; (conv => (lhs; whnf)); apply r_op; exact rfl; exact want_t rfl rfl rfl (by assumption); apply g_nilCheck; exact a_nilCheck rfl rfl; apply r_op; exact rfl; exact want_t rfl rfl rfl (by assumption); apply g_fieldAddr
      exact a_fieldAddrP rfl (by decide); apply r_load; exact rfl; exact rfl; exact rfl; decide; exact want_t rfl rfl rfl (by assumption); assumption; exact aLoad1 rfl; apply r_op; exact rfl; exact want_t rfl rfl rfl (by assumption); apply g_binOp; exact a_nilI rfl rfl (by exact .inl rfl) rfl rfl rfl; apply r_op; exact rfl; exact rfl; apply g_pick; apply a_pickT rfl (by assumption)
      (conv => (lhs; whnf)); (with_reducible refine runs_done ?_); refine W.condT rfl (by exact rfl) ?_; refine W.regionL (by decide +kernel) rfl ?_; apply r_op; exact rfl; exact rfl; apply a_move; (conv => (lhs; whnf)); apply r_op; exact rfl; exact rfl; apply a_move; (conv => (lhs; whnf)); apply r_op; exact rfl; exact rfl; apply g_build; apply a_build; apply EvP.cons (by (conv => (lhs; whnf)))
      exact EvP.nil
      simp only [aFill, List.getElem?_cons_zero, List.getElem?_cons_succ, AV.cells, List.length_cons, List.length_nil, AV.flat, AV.one, setL, List.set_cons_zero, List.set_cons_succ, Nat.reduceAdd, Nat.reduceLeDiff, Nat.reduceMul, and_self, if_true, ↓reduceIte, Nat.zero_add, Nat.le_refl, List.range, List.range.loop, List.map_cons, List.map_nil, Nat.zero_le]
      rfl; apply r_op; exact rfl; exact rfl; apply a_mkIface; (conv => (lhs; whnf)); apply r_op; exact rfl; exact rfl; apply g_nilCheck; exact a_nilCheck rfl rfl; apply r_op; exact rfl; exact rfl; apply g_fieldAddr; exact a_fieldAddrP rfl (by decide); apply r_store; exact rfl; exact rfl; exact rfl; decide; infer_instance; exact rfl; assumption; (conv => (lhs; whnf)); exact rfl
      (conv => (lhs; whnf)); exact rfl; exact of_decide_eq_true rfl; exact rfl; (with_reducible refine runs_done ?_); refine W.seq ?_; refine W.regionL (by decide +kernel) rfl ?_; apply r_op; exact rfl; exact rfl; apply a_move; (conv => (lhs; whnf)); apply r_op; exact rfl; exact rfl; apply g_nilCheck; exact a_nilCheck rfl rfl; apply r_op; exact rfl; exact rfl; apply g_fieldAddr
      exact a_fieldAddrP rfl (by decide); apply r_load; exact rfl; exact rfl; exact rfl; decide; exact rfl; exact setBox_same; exact aLoad1 rfl; apply r_op; exact rfl; exact rfl; apply g_binOp; exact a_nilI rfl rfl (by exact .inr ⟨_, _, rfl⟩) rfl rfl rfl; apply r_op; exact rfl; exact rfl; apply a_assign; (conv => (lhs; whnf)); (with_reducible refine runs_done ?_); refine W.ret ?_; show Q Exit.ret _ _
      refine post_p hQ rfl rfl ?_; (conv => (lhs; whnf))
      exact ⟨rfl, rfl⟩
    | some g =>
      rw [show errN e (some g) = some g from if_neg he] at hQ
      refine W.seq ?_; refine W.regionL (by decide +kernel) rfl ?_; apply r_op; exact rfl; exact rfl; apply a_assign; (conv => (lhs; whnf)); (with_reducible refine runs_done ?_); refine W.seq ?_; refine W.seq ?_; refine W.regionL (by decide +kernel) rfl ?_; apply r_op; exact rfl; exact rfl; apply a_move; (conv => (lhs; whnf)); apply r_op; exact rfl; exact rfl; apply g_binOp; exact a_binI rfl rfl rfl
      apply r_op; exact rfl; exact rfl; apply a_move; (conv => (lhs; whnf)); apply r_op; exact rfl; exact want_t rfl rfl rfl (by assumption); apply a_move; (conv => (lhs; whnf)); apply r_op; exact rfl; exact want_t rfl rfl rfl (by assumption); apply g_nilCheck; exact a_nilCheck rfl rfl; apply r_op; exact rfl; exact want_t rfl rfl rfl (by assumption); apply g_fieldAddr
      exact a_fieldAddrP rfl (by decide); apply r_load; exact rfl; exact rfl; exact rfl; decide; exact want_t rfl rfl rfl (by assumption); assumption; exact aLoad1 rfl; apply r_op; exact rfl; exact want_t rfl rfl rfl (by assumption); apply g_binOp; exact a_nilI rfl rfl (by exact .inr ⟨_, _, rfl⟩) rfl rfl rfl; apply r_op; exact rfl; exact rfl; apply g_pick; apply a_pickT rfl (by assumption)
      (conv => (lhs; whnf)); (with_reducible refine runs_done ?_); refine W.condF rfl (by exact rfl) ?_; refine W.skip ?_; show W _ _ _ _ _ _ _; refine W.seq ?_; refine W.regionL (by decide +kernel) rfl ?_; apply r_op; exact rfl; exact rfl; apply a_move; (conv => (lhs; whnf)); apply r_op; exact rfl; exact rfl; apply g_nilCheck; exact a_nilCheck rfl rfl; apply r_op; exact rfl; exact rfl
      apply g_fieldAddr; exact a_fieldAddrP rfl (by decide); apply r_load; exact rfl; exact rfl; exact rfl; decide; exact rfl; assumption; exact aLoad1 rfl; apply r_op; exact rfl; exact rfl; apply g_binOp; exact a_nilI rfl rfl (by exact .inr ⟨_, _, rfl⟩) rfl rfl rfl; apply r_op; exact rfl; exact rfl; apply a_assign; (conv => (lhs; whnf)); (with_reducible refine runs_done ?_); refine W.ret ?_
      show Q Exit.ret _ _; refine post_p hQ rfl rfl ?_; (conv => (lhs; whnf))
      exact ⟨rfl, (setBox_id hb).symm⟩
def rNum (v : List UInt8) (a : Nat) (f : Option Nat) : Nat × Nat × Option Nat :=
  let p := getNum v a
  (if (errN p.2.2 f).isNone then p.1 else 0, atN a p.2.1 p.2.2, errN p.2.2 f)
def rText (v : List UInt8) (a : Nat) (f : Option Nat) (most : Nat) : List UInt8 × Nat × Option Nat :=
  let p := getText v a most
  (if (errN p.2.2 f).isNone then p.1 else [], atN a p.2.1 p.2.2, errN p.2.2 f)
theorem rnum_any (w0 : Base) (v : List UInt8) (a : Nat) (f : Option Nat) (b : Nat) (σ : St) (hv : v.length ≤ 1000000) (ha : a ≤ 1000000) (hb : σ.box b = some (rd v a f)) :
    CallW Tryz.prog w0 53 [.ptr b 0] σ (fun r s => r = .int .i64 (rNum v a f).1 ∧ s = σ.setBox b (rd v (rNum v a f).2.1 (rNum v a f).2.2)) := by
  refine CallW.start Tryz.func53 rfl Tryz.ntmps53 (by simp) fun Q hQ => ?_
  have h1 := takeN_any w0 v a f b σ hv ha hb
  unfold rNum at hQ
  generalize getNum v a = p at h1 hQ
  obtain ⟨n, k, e⟩ := p
  dsimp only at h1 hQ
  have h2 := keep_any w0 v (atN a k e) e f b (σ.setBox b (rd v (atN a k e) f)) setBox_same
  rw [setBox_setBox] at h2
  generalize hf : errN e f = g at h2 hQ
  cases g with
  | none =>
    refine W.seq ?_; refine W.regionL (by decide +kernel) rfl ?_; apply r_op; exact rfl; exact rfl; apply a_assign; (conv => (lhs; whnf)); (with_reducible refine runs_done ?_); refine W.seq ?_; refine W.regionL (by decide +kernel) rfl ?_; apply r_op; exact rfl; exact rfl; apply a_move; (conv => (lhs; whnf)); apply r_op; exact rfl; exact rfl; apply g_nilCheck; exact a_nilCheck rfl rfl; apply r_op
    exact rfl; exact rfl; apply g_fieldAddr; exact a_fieldAddrP rfl (by decide); apply r_callS; exact rfl; exact rfl; decide; exact rfl; exact rfl; exact rfl; infer_instance; exact h1; apply r_op; exact rfl; exact rfl; apply a_move; (conv => (lhs; whnf)); apply r_op; exact rfl; exact rfl; apply g_extract; exact a_extract rfl rfl; apply r_op; exact rfl; exact rfl; apply g_extract
    exact a_extract rfl rfl; apply r_op; exact rfl; exact rfl; apply a_assign; (conv => (lhs; whnf)); apply r_op; exact rfl; exact rfl; apply a_assign; (conv => (lhs; whnf)); (with_reducible refine runs_done ?_); refine W.seq ?_; refine W.seq ?_; refine W.regionL (by decide +kernel) rfl ?_; apply r_op; exact rfl; exact rfl; apply a_move; (conv => (lhs; whnf)); apply r_op; exact rfl; exact rfl
    apply a_move; (conv => (lhs; whnf)); apply r_callS; exact rfl; exact rfl; decide; exact rfl; exact rfl; exact rfl; infer_instance; exact h2; apply r_op; exact rfl; exact rfl; apply g_unOp; exact a_not rfl; (with_reducible refine runs_done ?_); refine W.condF rfl (by exact rfl) ?_; refine W.skip ?_; show W _ _ _ _ _ _ _; refine W.seq ?_; refine W.regionL (by decide +kernel) rfl ?_; apply r_op
    exact rfl; exact rfl; apply a_move; (conv => (lhs; whnf)); apply r_op; exact rfl; exact rfl; apply a_assign; (conv => (lhs; whnf)); (with_reducible refine runs_done ?_); refine W.ret ?_; show Q Exit.ret _ _; refine post_p hQ rfl rfl ?_; (conv => (lhs; whnf))
    exact ⟨rfl, rfl⟩
  | some g =>
    refine W.seq ?_; refine W.regionL (by decide +kernel) rfl ?_; apply r_op; exact rfl; exact rfl; apply a_assign; (conv => (lhs; whnf)); (with_reducible refine runs_done ?_); refine W.seq ?_; refine W.regionL (by decide +kernel) rfl ?_; apply r_op; exact rfl; exact rfl; apply a_move; (conv => (lhs; whnf)); apply r_op; exact rfl; exact rfl; apply g_nilCheck; exact a_nilCheck rfl rfl; apply r_op
    exact rfl; exact rfl; apply g_fieldAddr; exact a_fieldAddrP rfl (by decide); apply r_callS; exact rfl; exact rfl; decide; exact rfl; exact rfl; exact rfl; infer_instance; exact h1; apply r_op; exact rfl; exact rfl; apply a_move; (conv => (lhs; whnf)); apply r_op; exact rfl; exact rfl; apply g_extract; exact a_extract rfl rfl; apply r_op; exact rfl; exact rfl; apply g_extract
    exact a_extract rfl rfl; apply r_op; exact rfl; exact rfl; apply a_assign; (conv => (lhs; whnf)); apply r_op; exact rfl; exact rfl; apply a_assign; (conv => (lhs; whnf)); (with_reducible refine runs_done ?_); refine W.seq ?_; refine W.seq ?_; refine W.regionL (by decide +kernel) rfl ?_; apply r_op; exact rfl; exact rfl; apply a_move; (conv => (lhs; whnf)); apply r_op; exact rfl; exact rfl
    apply a_move; (conv => (lhs; whnf)); apply r_callS; exact rfl; exact rfl; decide; exact rfl; exact rfl; exact rfl; infer_instance; exact h2; apply r_op; exact rfl; exact rfl; apply g_unOp; exact a_not rfl; (with_reducible refine runs_done ?_); refine W.condT rfl (by exact rfl) ?_; refine W.seq ?_; refine W.regionL (by decide +kernel) rfl ?_; apply r_op; exact rfl; exact rfl; apply a_assign
    (conv => (lhs; whnf)); (with_reducible refine runs_done ?_); refine W.ret ?_; show Q Exit.ret _ _; refine post_p hQ rfl rfl ?_; (conv => (lhs; whnf))
    exact ⟨rfl, rfl⟩
theorem text1_any (w0 : Base) (v : List UInt8) (t : Tok) (a most : Nat) (hv : v.length ≤ 1000000) (ha : a ≤ 1000000) (hm : most ≤ 1000000) : CallP Tryz.prog w0 96 [.slc 1 (aBytes v) t, .int .i64 a, .vp (.int .i64 most)] (eT (getText v a most)) := by
  refine CallP.start Tryz.func96 rfl Tryz.ntmps96 (by simp) fun σ Q hQ => ?_
  have hg := getText_any w0 v t a most hv ha hm
  generalize getText v a most = p at hg hQ
  obtain ⟨n, k, e⟩ := p
  rw [eT] at hg
  refine W.seq ?_; refine W.regionL (by decide +kernel) rfl ?_; apply r_op; exact rfl; exact rfl; apply a_assign; (conv => (lhs; whnf)); apply r_op; exact rfl; exact rfl; apply a_assign; (conv => (lhs; whnf)); apply r_op; exact rfl; exact rfl; apply a_assign; (conv => (lhs; whnf)); (with_reducible refine runs_done ?_); refine W.seq ?_; refine W.regionL (by decide +kernel) rfl ?_; apply r_op
  exact rfl; exact rfl; apply a_move; (conv => (lhs; whnf)); apply r_op; exact rfl; exact rfl; apply a_move; (conv => (lhs; whnf)); apply r_op; exact rfl; exact rfl; apply g_load; exact a_load1 rfl rfl; apply r_callP; exact rfl; exact rfl; exact rfl; exact rfl; exact rfl; infer_instance; exact hg; apply r_op; exact rfl; exact rfl; apply g_extract; exact a_extract rfl rfl; apply r_op; exact rfl
  exact rfl; apply g_extract; exact a_extract rfl rfl; apply r_op; exact rfl; exact rfl; apply g_extract; exact a_extract rfl rfl; apply r_op; exact rfl; exact rfl; apply a_assign; (conv => (lhs; whnf)); apply r_op; exact rfl; exact rfl; apply a_assign; (conv => (lhs; whnf)); apply r_op; exact rfl; exact rfl; apply a_assign; (conv => (lhs; whnf)); (with_reducible refine runs_done ?_); refine W.ret ?_
  show Q Exit.ret _ _; refine post_q hQ (by apply res_tmp; exact rfl; apply res_tmp; exact rfl; apply res_tmp; exact rfl; exact res_nil) (.inl rfl) (by exact .refl _) ?_; (conv => (lhs; whnf)); rfl
theorem takeT_any (w0 : Base) (v : List UInt8) (a most : Nat) (f : Option Nat) (b : Nat) (σ : St) (hv : v.length ≤ 1000000) (ha : a ≤ 1000000) (hm : most ≤ 1000000) (hb : σ.box b = some (rd v a f)) :
    CallW Tryz.prog w0 95 [.ptr b 0, .fn (.func 96) [] [.vp (.int .i64 most)]] σ (fun r s => r = .tup [.str (getText v a most).1, .int .u16 (getText v a most).2.2] ∧ s = σ.setBox b (rd v (atN a (getText v a most).2.1 (getText v a most).2.2) f)) := by
  refine CallW.start Tryz.func95 rfl Tryz.ntmps95 (by simp) fun Q hQ => ?_
  have hg := text1_any w0 v .no a most (by omega) (by omega) hm
  generalize getText v a most = p at hg hQ
  obtain ⟨n, k, e⟩ := p
  rw [eT] at hg
  dsimp only at hg hQ
  unfold rd at hb
  refine W.seq ?_; refine W.regionL (by decide +kernel) rfl ?_; apply r_op; exact rfl; exact rfl; apply a_assign; (conv => (lhs; whnf)); apply r_op; exact rfl; exact rfl; apply a_assign; (conv => (lhs; whnf)); (with_reducible refine runs_done ?_); refine W.seq ?_; refine W.regionDK 1 [] Ty.mixed (by decide +kernel) (by decide +kernel) rfl ?_; apply r_op; exact rfl; exact rfl; apply a_move
  (conv => (lhs; whnf)); apply r_op; exact rfl; exact rfl; apply a_move; (conv => (lhs; whnf)); apply r_op; exact rfl; exact rfl; apply g_nilCheck; exact a_nilCheck rfl rfl; apply r_op; exact rfl; exact rfl; apply g_fieldAddr; exact a_fieldAddrP rfl (by decide); apply r_load; exact rfl; exact rfl; exact rfl; decide; exact rfl; assumption; exact aLoad1 rfl; apply r_op; exact rfl; exact rfl
  apply a_move; (conv => (lhs; whnf)); apply r_op; exact rfl; exact rfl; apply g_nilCheck; exact a_nilCheck rfl rfl; apply r_op; exact rfl; exact rfl; apply g_fieldAddr; exact a_fieldAddrP rfl (by decide); apply r_load; exact rfl; exact rfl; exact rfl; decide; exact rfl; assumption; exact aLoad1 rfl; apply r_callP; exact rfl; exact rfl; exact rfl; exact rfl; exact rfl; infer_instance; exact hg
  apply r_op; exact rfl; exact rfl; apply a_move; (conv => (lhs; whnf)); apply r_op; exact rfl; exact rfl; apply g_extract; exact a_extract rfl rfl; apply r_op; exact rfl; exact rfl; apply g_extract; exact a_extract rfl rfl; apply r_op; exact rfl; exact rfl; apply g_extract; exact a_extract rfl rfl; apply r_op; exact rfl; exact rfl; apply a_assign; (conv => (lhs; whnf)); apply r_op; exact rfl
  exact rfl; apply a_assign; (conv => (lhs; whnf)); apply r_op; exact rfl; exact rfl; apply a_assign; (conv => (lhs; whnf)); (with_reducible refine runs_done ?_); refine W.seq ?_; refine W.seq ?_; refine W.regionL (by decide +kernel) rfl ?_; apply r_op; exact rfl; exact rfl; apply a_move; (conv => (lhs; whnf)); apply r_op; exact rfl; exact rfl; apply g_binOp; exact a_binI rfl rfl rfl
  (with_reducible refine runs_done ?_); refine W.cond rfl (fun hc => ?_) (fun hc => ?_); refine W.regionL (by decide +kernel) rfl ?_; apply r_op; exact rfl; exact rfl; apply a_move; (conv => (lhs; whnf)); apply r_op; exact rfl; exact rfl; apply a_move; (conv => (lhs; whnf)); apply r_op; exact rfl; exact rfl; apply g_nilCheck; exact a_nilCheck rfl rfl; apply r_op; exact rfl; exact rfl
  apply g_fieldAddr; exact a_fieldAddrP rfl (by decide); apply r_store; exact rfl; exact rfl; exact rfl; decide; infer_instance; exact rfl; assumption; (conv => (lhs; whnf)); exact rfl; (conv => (lhs; whnf)); exact rfl; exact of_decide_eq_true rfl; exact rfl; (with_reducible refine runs_done ?_); refine W.seq ?_; refine W.regionL (by decide +kernel) rfl ?_; apply r_op; exact rfl; exact rfl
  apply a_move; (conv => (lhs; whnf)); apply r_op; exact rfl; exact rfl; apply a_move; (conv => (lhs; whnf)); apply r_op; exact rfl; exact rfl; apply a_assign; (conv => (lhs; whnf)); apply r_op; exact rfl; exact rfl; apply a_assign; (conv => (lhs; whnf)); (with_reducible refine runs_done ?_); refine W.ret ?_; show Q Exit.ret _ _; refine post_p hQ rfl rfl ?_; (conv => (lhs; whnf)); rotate_left
  refine W.skip ?_; show W _ _ _ _ _ _ _; refine W.seq ?_; refine W.regionL (by decide +kernel) rfl ?_; apply r_op; exact rfl; exact rfl; apply a_move; (conv => (lhs; whnf)); apply r_op; exact rfl; exact rfl; apply a_move; (conv => (lhs; whnf)); apply r_op; exact rfl; exact rfl; apply a_assign; (conv => (lhs; whnf)); apply r_op; exact rfl; exact rfl; apply a_assign; (conv => (lhs; whnf))
  (with_reducible refine runs_done ?_); refine W.ret ?_; show Q Exit.ret _ _; refine post_p hQ rfl rfl ?_; (conv => (lhs; whnf)); rotate_left
  · have he : e = 0 := by simpa using hc
    subst he
    exact ⟨rfl, rfl⟩
  · have he : e ≠ 0 := by simpa using hc
    refine ⟨rfl, ?_⟩
    rw [atN, if_neg he]
    exact (setBox_id hb).symm
theorem rtext_any (w0 : Base) (v : List UInt8) (a most : Nat) (f : Option Nat) (b : Nat) (σ : St) (hv : v.length ≤ 1000000) (ha : a ≤ 1000000) (hm : most ≤ 1000000) (hb : σ.box b = some (rd v a f)) :
    CallW Tryz.prog w0 55 [.ptr b 0, .int .i64 most] σ (fun r s => r = .str (rText v a f most).1 ∧ s = σ.setBox b (rd v (rText v a f most).2.1 (rText v a f most).2.2)) := by
  refine CallW.start Tryz.func55 rfl Tryz.ntmps55 (by simp) fun Q hQ => ?_
  have h1 := takeT_any w0 v a most f b σ hv ha hm hb
  unfold rText at hQ
  generalize getText v a most = p at h1 hQ
  obtain ⟨n, k, e⟩ := p
  dsimp only at h1 hQ
  have h2 := keep_any w0 v (atN a k e) e f b (σ.setBox b (rd v (atN a k e) f)) setBox_same
  rw [setBox_setBox] at h2
  generalize hf : errN e f = g at h2 hQ
  cases g with
  | none =>
    refine W.seq ?_; refine W.regionL (by decide +kernel) rfl ?_; apply r_boxF; exact rfl; exact rfl; exact rfl; (conv => (lhs; whnf)); exact rfl; apply r_op; exact rfl; exact rfl; apply a_assign; (conv => (lhs; whnf)); (with_reducible refine runs_done ?_); refine W.seq ?_; refine W.regionL (by decide +kernel) rfl ?_; apply r_op; exact rfl; exact rfl; apply a_move; (conv => (lhs; whnf)); apply r_op
    exact rfl; exact rfl; apply g_nilCheck; exact a_nilCheck rfl rfl; apply r_op; exact rfl; exact rfl; apply g_fieldAddr; exact a_fieldAddrP rfl (by decide); apply r_op; exact rfl; exact rfl; exact a_makeFunc rfl rfl; apply r_callS; exact rfl; exact rfl; decide; exact rfl; exact rfl; exact rfl; infer_instance; exact h1; apply r_op; exact rfl; exact rfl; apply a_move; (conv => (lhs; whnf))
    apply r_op; exact rfl; exact rfl; apply g_extract; exact a_extract rfl rfl; apply r_op; exact rfl; exact rfl; apply g_extract; exact a_extract rfl rfl; apply r_op; exact rfl; exact rfl; apply a_assign; (conv => (lhs; whnf)); apply r_op; exact rfl; exact rfl; apply a_assign; (conv => (lhs; whnf)); (with_reducible refine runs_done ?_); refine W.seq ?_; refine W.seq ?_
    refine W.regionL (by decide +kernel) rfl ?_; apply r_op; exact rfl; exact rfl; apply a_move; (conv => (lhs; whnf)); apply r_op; exact rfl; exact rfl; apply a_move; (conv => (lhs; whnf)); apply r_callS; exact rfl; exact rfl; decide; exact rfl; exact rfl; exact rfl; infer_instance; exact h2; apply r_op; exact rfl; exact rfl; apply g_unOp; exact a_not rfl; (with_reducible refine runs_done ?_)
    refine W.condF rfl (by exact rfl) ?_; refine W.skip ?_; show W _ _ _ _ _ _ _; refine W.seq ?_; refine W.regionL (by decide +kernel) rfl ?_; apply r_op; exact rfl; exact rfl; apply a_move; (conv => (lhs; whnf)); apply r_op; exact rfl; exact rfl; apply a_assign; (conv => (lhs; whnf)); (with_reducible refine runs_done ?_); refine W.ret ?_; show Q Exit.ret _ _; refine post_p hQ rfl rfl ?_
    (conv => (lhs; whnf))
    exact ⟨rfl, rfl⟩
  | some g =>
    refine W.seq ?_; refine W.regionL (by decide +kernel) rfl ?_; apply r_boxF; exact rfl; exact rfl; exact rfl; (conv => (lhs; whnf)); exact rfl; apply r_op; exact rfl; exact rfl; apply a_assign; (conv => (lhs; whnf)); (with_reducible refine runs_done ?_); refine W.seq ?_; refine W.regionL (by decide +kernel) rfl ?_; apply r_op; exact rfl; exact rfl; apply a_move; (conv => (lhs; whnf)); apply r_op
    exact rfl; exact rfl; apply g_nilCheck; exact a_nilCheck rfl rfl; apply r_op; exact rfl; exact rfl; apply g_fieldAddr; exact a_fieldAddrP rfl (by decide); apply r_op; exact rfl; exact rfl; exact a_makeFunc rfl rfl; apply r_callS; exact rfl; exact rfl; decide; exact rfl; exact rfl; exact rfl; infer_instance; exact h1; apply r_op; exact rfl; exact rfl; apply a_move; (conv => (lhs; whnf))
    apply r_op; exact rfl; exact rfl; apply g_extract; exact a_extract rfl rfl; apply r_op; exact rfl; exact rfl; apply g_extract; exact a_extract rfl rfl; apply r_op; exact rfl; exact rfl; apply a_assign; (conv => (lhs; whnf)); apply r_op; exact rfl; exact rfl; apply a_assign; (conv => (lhs; whnf)); (with_reducible refine runs_done ?_); refine W.seq ?_; refine W.seq ?_
    refine W.regionL (by decide +kernel) rfl ?_; apply r_op; exact rfl; exact rfl; apply a_move; (conv => (lhs; whnf)); apply r_op; exact rfl; exact rfl; apply a_move; (conv => (lhs; whnf)); apply r_callS; exact rfl; exact rfl; decide; exact rfl; exact rfl; exact rfl; infer_instance; exact h2; apply r_op; exact rfl; exact rfl; apply g_unOp; exact a_not rfl; (with_reducible refine runs_done ?_)
    refine W.condT rfl (by exact rfl) ?_; refine W.seq ?_; refine W.regionL (by decide +kernel) rfl ?_; apply r_op; exact rfl; exact rfl; apply a_assign; (conv => (lhs; whnf)); (with_reducible refine runs_done ?_); refine W.ret ?_; show Q Exit.ret _ _; refine post_p hQ rfl rfl ?_; (conv => (lhs; whnf))
    exact ⟨rfl, rfl⟩
end Go.Proofs.YtkbmkhhcppfcnaaGreatDoor
end
section
set_option linter.unusedVariables false
set_option linter.unusedSimpArgs false
set_option maxHeartbeats 400000
namespace Go.Proofs.YtkbmkhhcppfcnaaGreatDoor
open Go.Al Go.RowKit
theorem row_ext {x y : Row} (h : x.key = y.key) (k : x.val = y.val) : x = y := by cases x; cases y; simp_all
theorem take_succ_iff {α : Type} {a b : List α} {i : Nat} (h : i < a.length) (k : i < b.length) (e : a.take i = b.take i) : a.take (i + 1) = b.take (i + 1) ↔ a[i] = b[i] := by
  rw [List.take_succ_eq_append_getElem h, List.take_succ_eq_append_getElem k, e]
  exact ⟨fun h => by simpa using List.append_cancel_left h, fun h => by rw [h]⟩
end Go.Proofs.YtkbmkhhcppfcnaaGreatDoor
end
section
set_option linter.unusedVariables false
set_option linter.unusedSimpArgs false
set_option maxRecDepth 100000
set_option maxHeartbeats 1000000
namespace Go.Proofs.YtkbmkhhcppfcnaaGreatDoor
open Go.Al Go.RowKit
theorem sub48 {c : UInt8} (h : 48 ≤ c.toNat ∧ c.toNat ≤ 57) : IntKind.i64.wrap (((Al.byteOf ((c.toNat : Int) - 48)).toNat : Nat) : Int) = ((c.toNat - 48 : Nat) : Int) := by
  have e : ((c.toNat : Int) - 48) = ((c.toNat - 48 : Nat) : Int) := by omega
  rw [e, byteOf_toNat _ (by omega), IntWalk.i64_in _ (by omega)]
theorem parts_any (w0 : Base) (l : List UInt8) (c0 t : UInt8) (id seq : Nat) (hl : l.length = 22) (g0 : l[(0 : Int).toNat]? = some c0) (g1 : l[(1 : Int).toNat]? = some t) (hc0 : 48 ≤ c0.toNat ∧ c0.toNat ≤ 57) (ht : 97 ≤ t.toNat ∧ t.toNat ≤ 122)
    (hA1 : CallP Tryz.prog w0 73 [.str ((l.take (12 : Int).toNat).drop (2 : Int).toNat)] (.tup [.int .i64 id, .nilifc])) (hA2 : CallP Tryz.prog w0 73 [.str ((l.take ((l.length : Nat) : Int).toNat).drop (12 : Int).toNat)] (.tup [.int .i64 seq, .nilifc]))
    (hK : CallP Tryz.prog w0 20 [.int .i64 (IntKind.i64.wrap (((Al.byteOf ((c0.toNat : Int) - 48)).toNat : Nat) : Int)), .int .u8 t.toNat, .int .i64 id, .int .i64 seq] (.str l)) :
    CallP Tryz.prog w0 43 [.str l] (.tup [.int .i64 (c0.toNat - 48 : Nat), .int .u8 t.toNat, .int .i64 id, .int .i64 seq, .bool true]) := by
  refine CallP.start Tryz.func43 rfl Tryz.ntmps43 (by simp) fun σ Q hQ => ?_
  have d0 : (!decide (((l.length : Nat) : Int) = 22)) = false := by simp [hl]
  have d1 : decide ((c0.toNat : Int) < 48) = false := decide_eq_false (by omega)
  have d2 : decide ((57 : Int) < (c0.toNat : Int)) = false := decide_eq_false (by omega)
  have d3 : decide ((t.toNat : Int) < 97) = false := decide_eq_false (by omega)
  have d4 : decide ((122 : Int) < (t.toNat : Int)) = false := decide_eq_false (by omega)
  have d5 : (!decide (l = l)) = false := by simp
  refine W.seq ?_; refine W.regionL (by decide +kernel) rfl ?_; apply r_op; exact rfl; exact rfl; apply a_assign; (conv => (lhs; whnf)); apply r_op; exact rfl; exact rfl; apply a_assign; (conv => (lhs; whnf)); apply r_op; exact rfl; exact rfl; apply a_assign; (conv => (lhs; whnf)); apply r_op; exact rfl; exact rfl; apply a_assign; (conv => (lhs; whnf)); apply r_op; exact rfl; exact rfl
  apply a_assign; (conv => (lhs; whnf)); (with_reducible refine runs_done ?_); refine W.seq ?_; refine W.seq ?_; refine W.regionL (by decide +kernel) rfl ?_; apply r_op; exact rfl; exact rfl; apply a_move; (conv => (lhs; whnf)); apply r_op; exact rfl; exact rfl; apply g_call; exact a_len_str rfl; apply r_op; exact rfl; exact rfl; apply g_binOp; exact a_binI rfl rfl rfl; apply r_op; exact rfl
  exact rfl; apply a_move; (conv => (lhs; whnf)); apply r_op; exact rfl; exact want_t rfl rfl rfl (by assumption); apply a_move; (conv => (lhs; whnf)); apply r_op; exact rfl; exact want_t rfl rfl rfl (by assumption); apply g_index; exact a_indexS rfl rfl (by omega) (by assumption); apply r_op; exact rfl; exact want_t rfl rfl rfl (by assumption); apply g_binOp; exact a_binI rfl rfl rfl; apply r_op
  exact rfl; exact rfl; apply g_pick; apply a_pickF rfl (by assumption); (conv => (lhs; whnf)); apply r_op; exact rfl; exact rfl; apply a_move; (conv => (lhs; whnf)); apply r_op; exact rfl; exact want_t rfl rfl rfl (by assumption); apply a_move; (conv => (lhs; whnf)); apply r_op; exact rfl; exact want_t rfl rfl rfl (by assumption); apply g_index; exact a_indexS rfl rfl (by omega) (by assumption)
  apply r_op; exact rfl; exact want_t rfl rfl rfl (by assumption); apply g_binOp; exact a_binI rfl rfl rfl; apply r_op; exact rfl; exact rfl; apply g_pick; apply a_pickF rfl (by assumption); (conv => (lhs; whnf)); apply r_op; exact rfl; exact rfl; apply a_move; (conv => (lhs; whnf)); apply r_op; exact rfl; exact want_t rfl rfl rfl (by assumption); apply a_move; (conv => (lhs; whnf)); apply r_op
  exact rfl; exact want_t rfl rfl rfl (by assumption); apply g_index; exact a_indexS rfl rfl (by omega) (by assumption); apply r_op; exact rfl; exact want_t rfl rfl rfl (by assumption); apply g_binOp; exact a_binI rfl rfl rfl; apply r_op; exact rfl; exact rfl; apply g_pick; apply a_pickF rfl (by assumption); (conv => (lhs; whnf)); apply r_op; exact rfl; exact rfl; apply a_move
  (conv => (lhs; whnf)); apply r_op; exact rfl; exact want_t rfl rfl rfl (by assumption); apply a_move; (conv => (lhs; whnf)); apply r_op; exact rfl; exact want_t rfl rfl rfl (by assumption); apply g_index; exact a_indexS rfl rfl (by omega) (by assumption); apply r_op; exact rfl; exact want_t rfl rfl rfl (by assumption); apply g_binOp; exact a_binI rfl rfl rfl; apply r_op; exact rfl; exact rfl
  apply g_pick; apply a_pickF rfl (by assumption); (conv => (lhs; whnf)); (with_reducible refine runs_done ?_); refine W.condF rfl (by assumption) ?_; refine W.skip ?_; show W _ _ _ _ _ _ _; refine W.seq ?_; refine W.regionL (by decide +kernel) rfl ?_; apply r_op; exact rfl; exact rfl; apply a_move; (conv => (lhs; whnf)); apply r_op; exact rfl; exact rfl; apply g_index
  exact a_indexS rfl rfl (by omega) (by assumption); apply r_op; exact rfl; exact rfl; apply g_binOp; exact a_u8sub rfl rfl; apply r_op; exact rfl; exact rfl; apply g_convert; exact a_convI rfl; apply r_op; exact rfl; exact rfl; apply a_assign; (conv => (lhs; whnf)); (with_reducible refine runs_done ?_); refine W.seq ?_; refine W.regionL (by decide +kernel) rfl ?_; apply r_op; exact rfl; exact rfl
  apply a_move; (conv => (lhs; whnf)); apply r_op; exact rfl; exact rfl; apply g_slice; exact a_sliceS rfl rfl rfl (by omega); apply r_callP; exact rfl; exact rfl; exact rfl; exact rfl; exact rfl; infer_instance; exact hA1; apply r_op; exact rfl; exact rfl; apply a_move; (conv => (lhs; whnf)); apply r_op; exact rfl; exact rfl; apply g_extract; exact a_extract rfl rfl; apply r_op; exact rfl
  exact rfl; apply g_extract; exact a_extract rfl rfl; apply r_op; exact rfl; exact rfl; apply a_assign; (conv => (lhs; whnf)); apply r_op; exact rfl; exact rfl; apply a_assign; (conv => (lhs; whnf)); (with_reducible refine runs_done ?_); refine W.seq ?_; refine W.regionL (by decide +kernel) rfl ?_; apply r_op; exact rfl; exact rfl; apply a_move; (conv => (lhs; whnf)); apply r_op; exact rfl
  exact rfl; apply g_slice; exact a_sliceS rfl rfl rfl (by omega); apply r_callP; exact rfl; exact rfl; exact rfl; exact rfl; exact rfl; infer_instance; exact hA2; apply r_op; exact rfl; exact rfl; apply a_move; (conv => (lhs; whnf)); apply r_op; exact rfl; exact rfl; apply g_extract; exact a_extract rfl rfl; apply r_op; exact rfl; exact rfl; apply g_extract; exact a_extract rfl rfl; apply r_op
  exact rfl; exact rfl; apply a_assign; (conv => (lhs; whnf)); apply r_op; exact rfl; exact rfl; apply a_assign; (conv => (lhs; whnf)); (with_reducible refine runs_done ?_); refine W.seq ?_; refine W.seq ?_; refine W.regionL (by decide +kernel) rfl ?_; apply r_op; exact rfl; exact rfl; apply a_move; (conv => (lhs; whnf)); apply r_op; exact rfl; exact rfl; apply g_binOp
  exact a_nilI rfl rfl (by exact .inl rfl) rfl rfl rfl; apply r_op; exact rfl; exact rfl; apply a_move; (conv => (lhs; whnf)); apply r_op; exact rfl; exact rfl; apply a_move; (conv => (lhs; whnf)); apply r_op; exact rfl; exact rfl; apply g_binOp; exact a_nilI rfl rfl (by exact .inl rfl) rfl rfl rfl; apply r_op; exact rfl; exact rfl; apply g_pick; apply a_pickF rfl (by exact rfl)
  (conv => (lhs; whnf)); apply r_op; exact rfl; exact rfl; apply a_move; (conv => (lhs; whnf)); apply r_op; exact rfl; exact rfl; apply a_move; (conv => (lhs; whnf)); apply r_op; exact rfl; exact rfl; apply a_move; (conv => (lhs; whnf)); apply r_op; exact rfl; exact rfl; apply g_index; exact a_indexS rfl rfl (by omega) (by assumption); apply r_op; exact rfl; exact rfl; apply a_move
  (conv => (lhs; whnf)); apply r_op; exact rfl; exact rfl; apply a_move; (conv => (lhs; whnf)); apply r_callP; exact rfl; exact rfl; exact rfl; exact rfl; exact rfl; infer_instance; exact hK; apply r_op; exact rfl; exact rfl; apply a_move; (conv => (lhs; whnf)); apply r_op; exact rfl; exact rfl; apply g_binOp; exact a_binS rfl rfl rfl rfl; apply r_op; exact rfl; exact rfl; apply g_pick
  apply a_pickF rfl (by exact rfl); (conv => (lhs; whnf)); (with_reducible refine runs_done ?_); refine W.condF rfl (by assumption) ?_; refine W.skip ?_; show W _ _ _ _ _ _ _; refine W.seq ?_; refine W.regionDK 1 [] Ty.mixed (by decide +kernel) (by decide +kernel) rfl ?_; apply r_op; exact rfl; exact rfl; apply a_move; (conv => (lhs; whnf)); apply r_op; exact rfl; exact rfl; apply a_move
  (conv => (lhs; whnf)); apply r_op; exact rfl; exact rfl; apply g_index; exact a_indexS rfl rfl (by omega) (by assumption); apply r_op; exact rfl; exact rfl; apply a_move; (conv => (lhs; whnf)); apply r_op; exact rfl; exact rfl; apply a_move; (conv => (lhs; whnf)); apply r_op; exact rfl; exact rfl; apply a_assign; (conv => (lhs; whnf)); apply r_op; exact rfl; exact rfl; apply a_assign
  (conv => (lhs; whnf)); apply r_op; exact rfl; exact rfl; apply a_assign; (conv => (lhs; whnf)); apply r_op; exact rfl; exact rfl; apply a_assign; (conv => (lhs; whnf)); apply r_op; exact rfl; exact rfl; apply a_assign; (conv => (lhs; whnf)); (with_reducible refine runs_done ?_); refine W.ret ?_; show Q Exit.ret _ _
  refine post_q hQ (by apply res_tmp; exact rfl; apply res_tmp; exact rfl; apply res_tmp; exact rfl; apply res_tmp; exact rfl; apply res_tmp; exact rfl; exact res_nil) (.inl rfl) (by exact .refl _) ?_; (conv => (lhs; whnf))
  rw [← sub48 hc0]; rfl
theorem alike_any (w0 : Base) (x y : Row) : CallP Tryz.prog w0 56 [eRow x, eRow y] (.bool (decide (x = y))) := by
  refine CallP.start Tryz.func56 rfl Tryz.ntmps56 (by simp) fun σ Q hQ => ?_
  refine W.seq ?_; refine W.regionL (by decide +kernel) rfl ?_; apply r_boxF; exact rfl; exact rfl; exact rfl; (conv => (lhs; whnf)); exact rfl; apply r_boxF; exact rfl; exact rfl; exact rfl; (conv => (lhs; whnf)); exact rfl; apply r_op; exact rfl; exact rfl; apply a_assign; (conv => (lhs; whnf)); (with_reducible refine runs_done ?_); refine W.seq ?_; refine W.regionL (by decide +kernel) rfl ?_
  apply r_op; exact rfl; exact rfl; apply g_fieldAddr; exact a_fieldAddr1 rfl (by decide) rfl; apply r_op; exact rfl; exact rfl; apply g_load; exact a_load1 rfl rfl; apply r_op; exact rfl; exact rfl; apply g_fieldAddr; exact a_fieldAddr1 rfl (by decide) rfl; apply r_op; exact rfl; exact rfl; apply g_load; exact a_load1 rfl rfl; apply r_op; exact rfl; exact rfl; apply g_binOp
  exact a_binS rfl rfl rfl rfl; apply r_op; exact rfl; exact rfl; apply a_move; (conv => (lhs; whnf)); refine q_split rfl rfl rfl (fun hg => ?_) (fun hg => ?_); apply r_op; exact rfl; exact want_t rfl rfl rfl (by assumption); apply g_fieldAddr; exact a_fieldAddr1 rfl (by decide) rfl; apply r_op; exact rfl; exact want_t rfl rfl rfl (by assumption); apply g_load; exact a_load1 rfl rfl; apply r_op
  exact rfl; exact want_t rfl rfl rfl (by assumption); apply g_convert; exact a_bytesStr rfl; apply r_op; exact rfl; exact want_t rfl rfl rfl (by assumption); apply g_fieldAddr; exact a_fieldAddr1 rfl (by decide) rfl; apply r_op; exact rfl; exact want_t rfl rfl rfl (by assumption); apply g_load; exact a_load1 rfl rfl; apply r_op; exact rfl; exact want_t rfl rfl rfl (by assumption); apply g_convert
  exact a_bytesStr rfl; apply r_op; exact rfl; exact want_t rfl rfl rfl (by assumption); apply g_binOp; exact a_binS rfl rfl rfl rfl; apply r_op; exact rfl; exact rfl; apply g_pick; apply a_pickT rfl (by assumption); (conv => (lhs; whnf)); apply r_op; exact rfl; exact rfl; apply a_assign; (conv => (lhs; whnf)); (with_reducible refine runs_done ?_); refine W.ret ?_; show Q Exit.ret _ _
  refine post_q hQ (by apply res_tmp; exact rfl; exact res_nil) (.inl rfl) (by exact .refl _) ?_; (conv => (lhs; whnf)); rotate_left; apply q_skip; exact rfl; exact want_f rfl rfl rfl (by assumption); apply q_skip; exact rfl; exact want_f rfl rfl rfl (by assumption); apply q_skip; exact rfl; exact want_f rfl rfl rfl (by assumption); apply q_skip; exact rfl; exact want_f rfl rfl rfl (by assumption)
  apply q_skip; exact rfl; exact want_f rfl rfl rfl (by assumption); apply q_skip; exact rfl; exact want_f rfl rfl rfl (by assumption); apply q_skip; exact rfl; exact want_f rfl rfl rfl (by assumption); apply r_op; exact rfl; exact rfl; apply g_pick; apply a_pickF rfl (by assumption); (conv => (lhs; whnf)); apply r_op; exact rfl; exact rfl; apply a_assign; (conv => (lhs; whnf))
  (with_reducible refine runs_done ?_); refine W.ret ?_; show Q Exit.ret _ _; refine post_q hQ (by apply res_tmp; exact rfl; exact res_nil) (.inl rfl) (by exact .refl _) ?_; (conv => (lhs; whnf)); rotate_left
  · have h1 : x.key = y.key := by simpa using ‹decide (x.key = y.key) = true›
    have : (x.val = y.val) ↔ x = y := ⟨fun h => row_ext h1 h, fun h => by rw [h]⟩
    simp only [this]
  · have : ¬ x = y := fun e => by subst e; simp at *
    simp [this]
theorem eqRows_any (w0 : Base) (a b : List Row) (ta tb : Tok) (ha : a.length ≤ 1000000000) : CallP Tryz.prog w0 45 [.slc 2 (a.map eRow) ta, .slc 2 (b.map eRow) tb, .fn (.func 56) [] []] (.bool (decide (a = b))) := by
  refine CallP.start Tryz.func45 rfl Tryz.ntmps45 (by simp) fun σ Q hQ => ?_
  refine W.seq ?_; refine W.regionL (by decide +kernel) rfl ?_; apply r_op; exact rfl; exact rfl; apply a_assign; (conv => (lhs; whnf)); (with_reducible refine runs_done ?_); refine W.seq ?_; refine W.seq ?_; refine W.regionL (by decide +kernel) rfl ?_; apply r_op; exact rfl; exact rfl; apply a_move; (conv => (lhs; whnf)); apply r_op; exact rfl; exact rfl; apply g_call; exact a_len_slc rfl
  apply r_op; exact rfl; exact rfl; apply a_move; (conv => (lhs; whnf)); apply r_op; exact rfl; exact rfl; apply g_call; exact a_len_slc rfl; apply r_op; exact rfl; exact rfl; apply g_binOp; exact a_binI rfl rfl rfl; (with_reducible refine runs_done ?_); refine W.cond rfl (fun hc => ?_) (fun hc => ?_); refine W.seq ?_; refine W.regionL (by decide +kernel) rfl ?_; apply r_op; exact rfl; exact rfl
  apply a_assign; (conv => (lhs; whnf)); (with_reducible refine runs_done ?_); refine W.ret ?_; show Q Exit.ret _ _; refine post_q hQ (by apply res_tmp; exact rfl; exact res_nil) (.inl rfl) (by exact .refl _) ?_; (conv => (lhs; whnf)); rotate_left; refine W.skip ?_; show W _ _ _ _ _ _ _; refine W.seq ?_; refine W.seq ?_; refine W.regionL (by decide +kernel) rfl ?_; apply r_op; exact rfl; exact rfl
  apply a_move; (conv => (lhs; whnf)); apply r_op; exact rfl; exact rfl; apply g_call; exact a_len_slc rfl; apply r_op; exact rfl; exact rfl; apply a_move; (conv => (lhs; whnf)); (with_reducible refine runs_done ?_); refine W.block ?_; rotate_left
  · have : ¬ a = b := by rintro rfl; simp at hc
    simp [this]
  · have hlen : a.length = b.length := by simp at hc; omega
    clear hc
    refine W.loop (fun k E s => ∃ i : Nat, i ≤ a.length ∧ k = a.length - i ∧ St.Le σ s ∧ a.take i = b.take i ∧ Has [(1, .slc 2 (b.map eRow) .no), (2, .fn (.func 56) [] []), (15, .slc 2 (a.map eRow) .no), (16, .int .i64 a.length), (17, .int .i64 i)] E) a.length ⟨0, Nat.zero_le _, rfl, .refl _, by simp, ?_⟩ ?_
    · rw [List.length_map]
      exact Has.by (by repeat (first | exact trivial | refine ⟨by first | trivial | exact Weak.refl _ | exact Weak.tok _ _ _ | exact Weak.of_eq (congrArg (AV.int _) (by omega)) | exact Weak.nils _ _ (.inr rfl), ?_⟩))
    rintro k E s ⟨i, hi, rfl, hle, htk, hE⟩; refine W.weaken (fun t => .refl _) hle ?_; refine W.has hE ?_; clear hE hle; refine W.seq ?_; refine W.regionL (by decide +kernel) rfl ?_; apply r_op; exact rfl; exact rfl; apply g_binOp; exact a_binI rfl rfl rfl; (with_reducible refine runs_done ?_); refine W.seq ?_; refine W.cond rfl (fun hc => ?_) (fun hc => ?_)
    · have hlt : i < a.length := by simp at hc; omega
      have ga : a[i]? = some a[i] := by simp [hlt]
      have gb : b[i]? = some (b[i]'(by omega)) := List.getElem?_eq_getElem (by omega)
      have ht := take_succ_iff hlt (show i < b.length by omega) htk
      generalize a[i] = x at ga ht
      generalize b[i]'(by omega) = y at gb ht
      clear hc; refine W.skip ?_; show W _ _ _ _ _ _ _; refine W.seq ?_; refine W.block ?_; refine W.seq ?_; refine W.regionL (by decide +kernel) rfl ?_; apply r_op; exact rfl; exact rfl; apply a_move; (conv => (lhs; whnf)); apply r_op; exact rfl; exact rfl; apply g_indexAddr; exact a_indexAddr rfl rfl (by decide) (by omega) (by exact get_map (by assumption)); apply r_op; exact rfl; exact rfl
      apply g_load; exact a_loadA rfl (by rfl) rfl; apply r_alloc; exact rfl; exact rfl; decide; exact rfl; (conv => (lhs; whnf)); intro b1 hb1; apply r_op; exact rfl; exact rfl; apply a_assign; (conv => (lhs; whnf)); apply r_store; exact rfl; exact rfl; exact rfl; decide; infer_instance; exact rfl; exact setBox_same; (conv => (lhs; whnf)); exact rfl; (conv => (lhs; whnf)); exact rfl
      exact of_decide_eq_true rfl; exact setL_whole rfl; (with_reducible refine runs_done ?_); refine W.seq ?_; refine W.regionL (by decide +kernel) rfl ?_; apply r_op; exact rfl; exact rfl; apply a_move; (conv => (lhs; whnf)); apply r_op; exact rfl; exact rfl; apply a_move; (conv => (lhs; whnf)); apply r_op; exact rfl; exact rfl; apply g_indexAddr
      exact a_indexAddr rfl rfl (by decide) (by omega) (by exact get_map (by assumption)); apply r_op; exact rfl; exact rfl; apply g_load; exact a_loadA rfl (by rfl) rfl; apply r_alloc; exact rfl; exact rfl; decide; exact rfl; (conv => (lhs; whnf)); intro b1 hb1; apply r_store; exact rfl; exact rfl; exact rfl; decide; infer_instance; exact rfl; exact setBox_same; (conv => (lhs; whnf)); exact rfl
      (conv => (lhs; whnf)); exact rfl; exact of_decide_eq_true rfl; exact setL_whole rfl; (with_reducible refine runs_done ?_); refine W.seq ?_; refine W.regionL (by decide +kernel) rfl ?_; apply r_op; exact rfl; exact rfl; apply a_move; (conv => (lhs; whnf)); apply r_load; exact rfl; exact rfl; exact rfl; decide; exact rfl; apply hb_ne (by exact ne_none' (by assumption))
      apply hb_ne (by exact ne_none' (by assumption)); exact setBox_same; exact aLoadA rfl (by rfl) rfl; apply r_load; exact rfl; exact rfl; exact rfl; decide; exact rfl; exact setBox_same; exact aLoadA rfl (by rfl) rfl; apply r_callP; exact rfl; exact rfl; exact rfl; exact rfl; exact rfl; infer_instance; exact alike_any w0 _ _; apply r_op; exact rfl; exact rfl; apply g_unOp; exact a_not rfl
      (with_reducible refine runs_done ?_); refine W.cond rfl (fun hc => ?_) (fun hc => ?_); refine W.seq ?_; refine W.regionL (by decide +kernel) rfl ?_; apply r_op; exact rfl; exact rfl; apply a_assign; (conv => (lhs; whnf)); (with_reducible refine runs_done ?_); refine W.ret ?_; show Q Exit.ret _ _
      refine post_q hQ (by apply res_tmp; exact rfl; exact res_nil) (.inl rfl) (by refine le_setBox ?_ (by exact none_in (none_in (by assumption))); refine le_setBox ?_ (by exact none_in (none_in (by assumption))); refine le_setBox ?_ (by assumption); refine le_setBox ?_ (by assumption); exact .refl _) ?_
      (conv => (lhs; whnf)); rotate_left; refine W.skip ?_; show W _ _ _ _ _ _ _; refine W.regionL (by decide +kernel) rfl ?_; apply r_op; exact rfl; exact rfl; apply g_binOp; exact a_add64 rfl rfl (by omega); apply r_op; exact rfl; exact rfl; apply a_move; (conv => (lhs; whnf)); (with_reducible refine runs_done ?_); rotate_left
      · have : ¬ a = b := fun e => by subst e; rw [ga] at gb; cases gb; simp at hc
        simp [this]
      · have hxy : x = y := by simpa using hc
        exact ⟨a.length - (i + 1), by omega, i + 1, by omega, rfl, by repeat (first | assumption | exact .refl _ | refine le_setBox ?_ (by first | assumption | exact none_in (by assumption) | exact none_in (none_in (by assumption)) | exact none_in (none_in (none_in (by assumption))) | fail) | exact Moves.le (by assumption) | refine .trans ?_ (Moves.le (by assumption))), ht.2 hxy, by exact Has.by (by repeat (first | exact trivial | refine ⟨by first | trivial | exact Weak.refl _ | exact Weak.tok _ _ _ | exact Weak.of_eq (congrArg (AV.int _) (by omega)) | exact Weak.nils _ _ (.inr rfl), ?_⟩))⟩
    · have hge : i = a.length := by simp at hc; omega
      refine W.exit ?_; show W _ _ _ _ _ _ _; refine W.seq ?_; refine W.regionL (by decide +kernel) rfl ?_; apply r_op; exact rfl; exact rfl; apply a_assign; (conv => (lhs; whnf)); (with_reducible refine runs_done ?_); refine W.ret ?_; show Q Exit.ret _ _; refine post_q hQ (by apply res_tmp; exact rfl; exact res_nil) (.inl rfl) (by exact .refl _) ?_; (conv => (lhs; whnf))
      have : a = b := by rw [hge, List.take_length, hlen, List.take_length] at htk; exact htk
      simp [this]
end Go.Proofs.YtkbmkhhcppfcnaaGreatDoor
end
section
set_option linter.unusedVariables false
set_option maxRecDepth 100000
namespace Go.Proofs.YtkbmkhhcppfcnaaGreatDoor.Ty
open Go.Al
theorem ti1 : TI.ok Tryz.prog 1 ⟨.fn, 1⟩ := ⟨⟨_, _, _, ⟨Tryz.underlying1⟩⟩, ⟨⟨Ty.size1⟩, by kernel_rfl⟩⟩
theorem ti2 : TI.ok Tryz.prog 2 ⟨.int .i64, 1⟩ := ⟨⟨Tryz.underlying2⟩, ⟨⟨Ty.size2⟩, by kernel_rfl⟩⟩
theorem ti3 : TI.ok Tryz.prog 3 ⟨.int .i64, 1⟩ := ⟨⟨Tryz.underlying3⟩, ⟨⟨Ty.size3⟩, by kernel_rfl⟩⟩
theorem ti4 : TI.ok Tryz.prog 4 ⟨.bool, 1⟩ := ⟨⟨Tryz.underlying4⟩, ⟨⟨Ty.size4⟩, by kernel_rfl⟩⟩
theorem ti5 : TI.ok Tryz.prog 5 ⟨.int .u8, 1⟩ := ⟨⟨Tryz.underlying5⟩, ⟨⟨Ty.size5⟩, by kernel_rfl⟩⟩
theorem ti9 : TI.ok Tryz.prog 9 ⟨.str, 1⟩ := ⟨⟨Tryz.underlying9⟩, ⟨⟨Ty.size9⟩, by kernel_rfl⟩⟩
theorem ti20 : TI.ok Tryz.prog 20 ⟨.ifc, 1⟩ := ⟨⟨_, Tryz.underlying20⟩, ⟨⟨Ty.size20⟩, by kernel_rfl⟩⟩
theorem ti21 : TI.ok Tryz.prog 21 ⟨.int .i32, 1⟩ := ⟨⟨Tryz.underlying21⟩, ⟨⟨Ty.size21⟩, by kernel_rfl⟩⟩
theorem ti22 : TI.ok Tryz.prog 22 ⟨.slc 5 1 true, 1⟩ := ⟨⟨⟨Tryz.underlying22⟩, ⟨⟨Ty.size22⟩, by kernel_rfl⟩⟩, ⟨Ty.size5⟩, (fun _ => ⟨Tryz.underlying5⟩), inferInstance⟩
theorem ti24 : TI.ok Tryz.prog 24 ⟨.slc 3 1 false, 1⟩ := ⟨⟨⟨Tryz.underlying24⟩, ⟨⟨Ty.size24⟩, by kernel_rfl⟩⟩, ⟨Ty.size3⟩, (fun h => Bool.noConfusion h), inferInstance⟩
theorem ti25 : TI.ok Tryz.prog 25 ⟨.slc 46 8 false, 1⟩ := ⟨⟨⟨Tryz.underlying25⟩, ⟨⟨Ty.size25⟩, by kernel_rfl⟩⟩, ⟨Ty.size46⟩, (fun h => Bool.noConfusion h), inferInstance⟩
theorem ti27 : TI.ok Tryz.prog 27 ⟨.struct [(0, 1, false), (1, 1, false), (2, 1, false), (3, 1, false), (4, 1, false), (5, 1, false), (6, 1, false), (7, 1, false), (8, 1, false), (9, 1, false)] [(.int .i64 0), .str [], .str [], .str [], (.int .i64 0), (.int .i64 0), (.int .i64 0), .nils, .nils, .str []], 10⟩ := ⟨⟨⟨_, Tryz.underlying27, rfl⟩, ⟨Ty.size27⟩⟩, ⟨⟨3, inferInstanceAs (TyF Tryz.prog 27 0 3 0 1 false)⟩, ⟨⟨9, inferInstanceAs (TyF Tryz.prog 27 1 9 1 1 false)⟩, ⟨⟨9, inferInstanceAs (TyF Tryz.prog 27 2 9 2 1 false)⟩, ⟨⟨9, inferInstanceAs (TyF Tryz.prog 27 3 9 3 1 false)⟩, ⟨⟨3, inferInstanceAs (TyF Tryz.prog 27 4 3 4 1 false)⟩, ⟨⟨3, inferInstanceAs (TyF Tryz.prog 27 5 3 5 1 false)⟩, ⟨⟨3, inferInstanceAs (TyF Tryz.prog 27 6 3 6 1 false)⟩, ⟨⟨24, inferInstanceAs (TyF Tryz.prog 27 7 24 7 1 false)⟩, ⟨⟨25, inferInstanceAs (TyF Tryz.prog 27 8 25 8 1 false)⟩, ⟨⟨9, inferInstanceAs (TyF Tryz.prog 27 9 9 9 1 false)⟩, trivial⟩⟩⟩⟩⟩⟩⟩⟩⟩⟩, by kernel_rfl, .struct Tryz.underlying27 Ty.zero27 rfl rfl rfl rfl⟩
theorem ti30 : TI.ok Tryz.prog 30 ⟨.slc 41 2 false, 1⟩ := ⟨⟨⟨Tryz.underlying30⟩, ⟨⟨Ty.size30⟩, by kernel_rfl⟩⟩, ⟨Ty.size41⟩, (fun h => Bool.noConfusion h), inferInstance⟩
theorem ti35 : TI.ok Tryz.prog 35 ⟨.int .u16, 1⟩ := ⟨⟨Tryz.underlying35⟩, ⟨⟨Ty.size35⟩, by kernel_rfl⟩⟩
theorem ti41 : TI.ok Tryz.prog 41 ⟨.struct [(0, 1, false), (1, 1, false)] [.str [], .nils], 2⟩ := ⟨⟨⟨_, Tryz.underlying41, rfl⟩, ⟨Ty.size41⟩⟩, ⟨⟨9, inferInstanceAs (TyF Tryz.prog 41 0 9 0 1 false)⟩, ⟨⟨22, inferInstanceAs (TyF Tryz.prog 41 1 22 1 1 false)⟩, trivial⟩⟩, by kernel_rfl, .struct Tryz.underlying41 Ty.zero41 rfl rfl rfl rfl⟩
theorem ti43 : TI.ok Tryz.prog 43 ⟨.fn, 1⟩ := ⟨⟨_, _, _, ⟨Tryz.underlying43⟩⟩, ⟨⟨Ty.size43⟩, by kernel_rfl⟩⟩
theorem ti44 : TI.ok Tryz.prog 44 ⟨.fn, 1⟩ := ⟨⟨_, _, _, ⟨Tryz.underlying44⟩⟩, ⟨⟨Ty.size44⟩, by kernel_rfl⟩⟩
theorem ti46 : TI.ok Tryz.prog 46 ⟨.struct [(0, 1, false), (1, 1, false), (2, 1, false), (3, 1, false), (4, 1, false), (5, 1, false), (6, 1, false), (7, 1, false)] [(.int .i64 0), .str [], .str [], (.int .i64 0), (.int .i64 0), (.bool false), .str [], (.int .i64 0)], 8⟩ := ⟨⟨⟨_, Tryz.underlying46, rfl⟩, ⟨Ty.size46⟩⟩, ⟨⟨3, inferInstanceAs (TyF Tryz.prog 46 0 3 0 1 false)⟩, ⟨⟨9, inferInstanceAs (TyF Tryz.prog 46 1 9 1 1 false)⟩, ⟨⟨9, inferInstanceAs (TyF Tryz.prog 46 2 9 2 1 false)⟩, ⟨⟨3, inferInstanceAs (TyF Tryz.prog 46 3 3 3 1 false)⟩, ⟨⟨3, inferInstanceAs (TyF Tryz.prog 46 4 3 4 1 false)⟩, ⟨⟨4, inferInstanceAs (TyF Tryz.prog 46 5 4 5 1 false)⟩, ⟨⟨9, inferInstanceAs (TyF Tryz.prog 46 6 9 6 1 false)⟩, ⟨⟨3, inferInstanceAs (TyF Tryz.prog 46 7 3 7 1 false)⟩, trivial⟩⟩⟩⟩⟩⟩⟩⟩, by kernel_rfl, .struct Tryz.underlying46 Ty.zero46 rfl rfl rfl rfl⟩
theorem ti58 : TI.ok Tryz.prog 58 ⟨.slc 9 1 false, 1⟩ := ⟨⟨⟨Tryz.underlying58⟩, ⟨⟨Ty.size58⟩, by kernel_rfl⟩⟩, ⟨Ty.size9⟩, (fun h => Bool.noConfusion h), inferInstance⟩
theorem ti60 : TI.ok Tryz.prog 60 ⟨.ptr, 1⟩ := ⟨⟨_, ⟨Tryz.underlying60⟩⟩, ⟨⟨Ty.size60⟩, by kernel_rfl⟩⟩
theorem ti62 : TI.ok Tryz.prog 62 ⟨.struct [(0, 10, true), (10, 1, false), (11, 1, false)] [(.int .i64 0), .str [], .str [], .str [], (.int .i64 0), (.int .i64 0), (.int .i64 0), .nils, .nils, .str [], (.int .i64 0), .nilp], 12⟩ := ⟨⟨⟨_, Tryz.underlying62, rfl⟩, ⟨Ty.size62⟩⟩, ⟨⟨27, inferInstanceAs (TyF Tryz.prog 62 0 27 0 10 true)⟩, ⟨⟨3, inferInstanceAs (TyF Tryz.prog 62 1 3 10 1 false)⟩, ⟨⟨60, inferInstanceAs (TyF Tryz.prog 62 2 60 11 1 false)⟩, trivial⟩⟩⟩, by kernel_rfl, .struct Tryz.underlying62 Ty.zero62 rfl rfl rfl rfl⟩
theorem ti67 : TI.ok Tryz.prog 67 ⟨.struct [(0, 1, false), (1, 1, false), (2, 1, false)] [.nils, (.int .i64 0), (.bool false)], 3⟩ := ⟨⟨⟨_, Tryz.underlying67, rfl⟩, ⟨Ty.size67⟩⟩, ⟨⟨22, inferInstanceAs (TyF Tryz.prog 67 0 22 0 1 false)⟩, ⟨⟨3, inferInstanceAs (TyF Tryz.prog 67 1 3 1 1 false)⟩, ⟨⟨4, inferInstanceAs (TyF Tryz.prog 67 2 4 2 1 false)⟩, trivial⟩⟩⟩, by kernel_rfl, .struct Tryz.underlying67 Ty.zero67 rfl rfl rfl rfl⟩
theorem ti71 : TI.ok Tryz.prog 71 ⟨.fn, 1⟩ := ⟨⟨_, _, _, ⟨Tryz.underlying71⟩⟩, ⟨⟨Ty.size71⟩, by kernel_rfl⟩⟩
theorem ti74 : TI.ok Tryz.prog 74 ⟨.fn, 1⟩ := ⟨⟨_, _, _, ⟨Tryz.underlying74⟩⟩, ⟨⟨Ty.size74⟩, by kernel_rfl⟩⟩
theorem ti76 : TI.ok Tryz.prog 76 ⟨.fn, 1⟩ := ⟨⟨_, _, _, ⟨Tryz.underlying76⟩⟩, ⟨⟨Ty.size76⟩, by kernel_rfl⟩⟩
theorem ti78 : TI.ok Tryz.prog 78 ⟨.struct [(0, 1, false), (1, 1, false)] [(.int .u8 0), .nilfn], 2⟩ := ⟨⟨⟨_, Tryz.underlying78, rfl⟩, ⟨Ty.size78⟩⟩, ⟨⟨5, inferInstanceAs (TyF Tryz.prog 78 0 5 0 1 false)⟩, ⟨⟨76, inferInstanceAs (TyF Tryz.prog 78 1 76 1 1 false)⟩, trivial⟩⟩, by kernel_rfl, .struct Tryz.underlying78 Ty.zero78 rfl rfl rfl rfl⟩
theorem ti79 : TI.ok Tryz.prog 79 ⟨.arr 6 78 2 true [(.int .u8 0), .nilfn, (.int .u8 0), .nilfn, (.int .u8 0), .nilfn, (.int .u8 0), .nilfn, (.int .u8 0), .nilfn, (.int .u8 0), .nilfn], 12⟩ := ⟨⟨⟨Tryz.underlying79⟩, ⟨Ty.size79⟩⟩, ⟨Ty.size78⟩, ⟨_, Tryz.underlying78, rfl⟩, by kernel_rfl, .array Tryz.underlying79 Ty.zero79 rfl Ty.size78 rfl⟩
theorem ti81 : TI.ok Tryz.prog 81 ⟨.ptr, 1⟩ := ⟨⟨_, ⟨Tryz.underlying81⟩⟩, ⟨⟨Ty.size81⟩, by kernel_rfl⟩⟩
theorem ti82 : TI.ok Tryz.prog 82 ⟨.ptr, 1⟩ := ⟨⟨_, ⟨Tryz.underlying82⟩⟩, ⟨⟨Ty.size82⟩, by kernel_rfl⟩⟩
theorem ti84 : TI.ok Tryz.prog 84 ⟨.ptr, 1⟩ := ⟨⟨_, ⟨Tryz.underlying84⟩⟩, ⟨⟨Ty.size84⟩, by kernel_rfl⟩⟩
theorem ti86 : TI.ok Tryz.prog 86 ⟨.struct [(0, 1, false), (1, 1, false), (2, 1, false)] [.nils, (.int .i64 0), (.bool false)], 3⟩ := ⟨⟨⟨_, Tryz.underlying86, rfl⟩, ⟨Ty.size86⟩⟩, ⟨⟨22, inferInstanceAs (TyF Tryz.prog 86 0 22 0 1 false)⟩, ⟨⟨3, inferInstanceAs (TyF Tryz.prog 86 1 3 1 1 false)⟩, ⟨⟨4, inferInstanceAs (TyF Tryz.prog 86 2 4 2 1 false)⟩, trivial⟩⟩⟩, by kernel_rfl, .struct Tryz.underlying86 Ty.zero86 rfl rfl rfl rfl⟩
theorem ti87 : TI.ok Tryz.prog 87 ⟨.ptr, 1⟩ := ⟨⟨_, ⟨Tryz.underlying87⟩⟩, ⟨⟨Ty.size87⟩, by kernel_rfl⟩⟩
theorem ti89 : TI.ok Tryz.prog 89 ⟨.struct [(0, 1, false), (1, 1, false)] [.nils, (.int .i64 0)], 2⟩ := ⟨⟨⟨_, Tryz.underlying89, rfl⟩, ⟨Ty.size89⟩⟩, ⟨⟨22, inferInstanceAs (TyF Tryz.prog 89 0 22 0 1 false)⟩, ⟨⟨3, inferInstanceAs (TyF Tryz.prog 89 1 3 1 1 false)⟩, trivial⟩⟩, by kernel_rfl, .struct Tryz.underlying89 Ty.zero89 rfl rfl rfl rfl⟩
theorem ti91 : TI.ok Tryz.prog 91 ⟨.ifc, 1⟩ := ⟨⟨_, Tryz.underlying91⟩, ⟨⟨Ty.size91⟩, by kernel_rfl⟩⟩
theorem ti93 : TI.ok Tryz.prog 93 ⟨.struct [(0, 2, true), (2, 1, false)] [.nils, (.int .i64 0), .nilifc], 3⟩ := ⟨⟨⟨_, Tryz.underlying93, rfl⟩, ⟨Ty.size93⟩⟩, ⟨⟨89, inferInstanceAs (TyF Tryz.prog 93 0 89 0 2 true)⟩, ⟨⟨91, inferInstanceAs (TyF Tryz.prog 93 1 91 2 1 false)⟩, trivial⟩⟩, by kernel_rfl, .struct Tryz.underlying93 Ty.zero93 rfl rfl rfl rfl⟩
theorem ti97 : TI.ok Tryz.prog 97 ⟨.slc 5 1 true, 1⟩ := ⟨⟨⟨Tryz.underlying97⟩, ⟨⟨Ty.size97⟩, by kernel_rfl⟩⟩, ⟨Ty.size5⟩, (fun _ => ⟨Tryz.underlying5⟩), inferInstance⟩
theorem ti103 : TI.ok Tryz.prog 103 ⟨.slc 20 1 false, 1⟩ := ⟨⟨⟨Tryz.underlying103⟩, ⟨⟨Ty.size103⟩, by kernel_rfl⟩⟩, ⟨Ty.size20⟩, (fun h => Bool.noConfusion h), inferInstance⟩
theorem ti111 : TI.ok Tryz.prog 111 ⟨.fn, 1⟩ := ⟨⟨_, _, _, ⟨Tryz.underlying111⟩⟩, ⟨⟨Ty.size111⟩, by kernel_rfl⟩⟩
theorem ti114 : TI.ok Tryz.prog 114 ⟨.fn, 1⟩ := ⟨⟨_, _, _, ⟨Tryz.underlying114⟩⟩, ⟨⟨Ty.size114⟩, by kernel_rfl⟩⟩
theorem ti117 : TI.ok Tryz.prog 117 ⟨.ptr, 1⟩ := ⟨⟨_, ⟨Tryz.underlying117⟩⟩, ⟨⟨Ty.size117⟩, by kernel_rfl⟩⟩
theorem ti118 : TI.ok Tryz.prog 118 ⟨.fn, 1⟩ := ⟨⟨_, _, _, ⟨Tryz.underlying118⟩⟩, ⟨⟨Ty.size118⟩, by kernel_rfl⟩⟩
theorem ti120 : TI.ok Tryz.prog 120 ⟨.arr 3 9 1 false [.str [], .str [], .str []], 3⟩ := ⟨⟨⟨Tryz.underlying120⟩, ⟨Ty.size120⟩⟩, ⟨Ty.size9⟩, ⟨_, Tryz.underlying9, rfl⟩, by kernel_rfl, .array Tryz.underlying120 Ty.zero120 rfl Ty.size9 rfl⟩
theorem ti126 : TI.ok Tryz.prog 126 ⟨.fn, 1⟩ := ⟨⟨_, _, _, ⟨Tryz.underlying126⟩⟩, ⟨⟨Ty.size126⟩, by kernel_rfl⟩⟩
theorem ti129 : TI.ok Tryz.prog 129 ⟨.int .u64, 1⟩ := ⟨⟨Tryz.underlying129⟩, ⟨⟨Ty.size129⟩, by kernel_rfl⟩⟩
theorem ti134 : TI.ok Tryz.prog 134 ⟨.struct [(0, 1, false)] [(.int .u16 0)], 1⟩ := ⟨⟨⟨_, Tryz.underlying134, rfl⟩, ⟨Ty.size134⟩⟩, ⟨⟨35, inferInstanceAs (TyF Tryz.prog 134 0 35 0 1 false)⟩, trivial⟩, by kernel_rfl, .struct Tryz.underlying134 Ty.zero134 rfl rfl rfl rfl⟩
theorem ti138 : TI.ok Tryz.prog 138 ⟨.ptr, 1⟩ := ⟨⟨_, ⟨Tryz.underlying138⟩⟩, ⟨⟨Ty.size138⟩, by kernel_rfl⟩⟩
theorem ti140 : TI.ok Tryz.prog 140 ⟨.struct [(0, 1, false), (1, 1, false)] [.nilp, .nils], 2⟩ := ⟨⟨⟨_, Tryz.underlying140, rfl⟩, ⟨Ty.size140⟩⟩, ⟨⟨138, inferInstanceAs (TyF Tryz.prog 140 0 138 0 1 false)⟩, ⟨⟨22, inferInstanceAs (TyF Tryz.prog 140 1 22 1 1 false)⟩, trivial⟩⟩, by kernel_rfl, .struct Tryz.underlying140 Ty.zero140 rfl rfl rfl rfl⟩
theorem ti143 : TI.ok Tryz.prog 143 ⟨.int .i64, 1⟩ := ⟨⟨Tryz.underlying143⟩, ⟨⟨Ty.size143⟩, by kernel_rfl⟩⟩
theorem ti146 : TI.ok Tryz.prog 146 ⟨.ptr, 1⟩ := ⟨⟨_, ⟨Tryz.underlying146⟩⟩, ⟨⟨Ty.size146⟩, by kernel_rfl⟩⟩
theorem ti150 : TI.ok Tryz.prog 150 ⟨.int .u32, 1⟩ := ⟨⟨Tryz.underlying150⟩, ⟨⟨Ty.size150⟩, by kernel_rfl⟩⟩
theorem ti153 : TI.ok Tryz.prog 153 ⟨.int .u64, 1⟩ := ⟨⟨Tryz.underlying153⟩, ⟨⟨Ty.size153⟩, by kernel_rfl⟩⟩
theorem ti156 : TI.ok Tryz.prog 156 ⟨.ptr, 1⟩ := ⟨⟨_, ⟨Tryz.underlying156⟩⟩, ⟨⟨Ty.size156⟩, by kernel_rfl⟩⟩
theorem ti161 : TI.ok Tryz.prog 161 ⟨.struct [(0, 1, false), (1, 1, false), (2, 1, false)] [.str [], .str [], .nilifc], 3⟩ := ⟨⟨⟨_, Tryz.underlying161, rfl⟩, ⟨Ty.size161⟩⟩, ⟨⟨9, inferInstanceAs (TyF Tryz.prog 161 0 9 0 1 false)⟩, ⟨⟨9, inferInstanceAs (TyF Tryz.prog 161 1 9 1 1 false)⟩, ⟨⟨91, inferInstanceAs (TyF Tryz.prog 161 2 91 2 1 false)⟩, trivial⟩⟩⟩, by kernel_rfl, .struct Tryz.underlying161 Ty.zero161 rfl rfl rfl rfl⟩
theorem ti163 : TI.ok Tryz.prog 163 ⟨.arr 24 5 1 false [(.int .u8 0), (.int .u8 0), (.int .u8 0), (.int .u8 0), (.int .u8 0), (.int .u8 0), (.int .u8 0), (.int .u8 0), (.int .u8 0), (.int .u8 0), (.int .u8 0), (.int .u8 0), (.int .u8 0), (.int .u8 0), (.int .u8 0), (.int .u8 0), (.int .u8 0), (.int .u8 0), (.int .u8 0), (.int .u8 0), (.int .u8 0), (.int .u8 0), (.int .u8 0), (.int .u8 0)], 24⟩ := ⟨⟨⟨Tryz.underlying163⟩, ⟨Ty.size163⟩⟩, ⟨Ty.size5⟩, ⟨_, Tryz.underlying5, rfl⟩, by kernel_rfl, .array Tryz.underlying163 Ty.zero163 rfl Ty.size5 rfl⟩
theorem ti172 : TI.ok Tryz.prog 172 ⟨.ptr, 1⟩ := ⟨⟨_, ⟨Tryz.underlying172⟩⟩, ⟨⟨Ty.size172⟩, by kernel_rfl⟩⟩
theorem ti174 : TI.ok Tryz.prog 174 ⟨.struct [(0, 1, false)] [.str []], 1⟩ := ⟨⟨⟨_, Tryz.underlying174, rfl⟩, ⟨Ty.size174⟩⟩, ⟨⟨9, inferInstanceAs (TyF Tryz.prog 174 0 9 0 1 false)⟩, trivial⟩, by kernel_rfl, .struct Tryz.underlying174 Ty.zero174 rfl rfl rfl rfl⟩
theorem ti175 : TI.ok Tryz.prog 175 ⟨.arr 20 153 1 false [(.int .u64 0), (.int .u64 0), (.int .u64 0), (.int .u64 0), (.int .u64 0), (.int .u64 0), (.int .u64 0), (.int .u64 0), (.int .u64 0), (.int .u64 0), (.int .u64 0), (.int .u64 0), (.int .u64 0), (.int .u64 0), (.int .u64 0), (.int .u64 0), (.int .u64 0), (.int .u64 0), (.int .u64 0), (.int .u64 0)], 20⟩ := ⟨⟨⟨Tryz.underlying175⟩, ⟨Ty.size175⟩⟩, ⟨Ty.size153⟩, ⟨_, Tryz.underlying153, rfl⟩, by kernel_rfl, .array Tryz.underlying175 Ty.zero175 rfl Ty.size153 rfl⟩
theorem ti176 : TI.ok Tryz.prog 176 ⟨.arr 65 5 1 false [(.int .u8 0), (.int .u8 0), (.int .u8 0), (.int .u8 0), (.int .u8 0), (.int .u8 0), (.int .u8 0), (.int .u8 0), (.int .u8 0), (.int .u8 0), (.int .u8 0), (.int .u8 0), (.int .u8 0), (.int .u8 0), (.int .u8 0), (.int .u8 0), (.int .u8 0), (.int .u8 0), (.int .u8 0), (.int .u8 0), (.int .u8 0), (.int .u8 0), (.int .u8 0), (.int .u8 0), (.int .u8 0), (.int .u8 0), (.int .u8 0), (.int .u8 0), (.int .u8 0), (.int .u8 0), (.int .u8 0), (.int .u8 0), (.int .u8 0), (.int .u8 0), (.int .u8 0), (.int .u8 0), (.int .u8 0), (.int .u8 0), (.int .u8 0), (.int .u8 0), (.int .u8 0), (.int .u8 0), (.int .u8 0), (.int .u8 0), (.int .u8 0), (.int .u8 0), (.int .u8 0), (.int .u8 0), (.int .u8 0), (.int .u8 0), (.int .u8 0), (.int .u8 0), (.int .u8 0), (.int .u8 0), (.int .u8 0), (.int .u8 0), (.int .u8 0), (.int .u8 0), (.int .u8 0), (.int .u8 0), (.int .u8 0), (.int .u8 0), (.int .u8 0), (.int .u8 0), (.int .u8 0)], 65⟩ := ⟨⟨⟨Tryz.underlying176⟩, ⟨Ty.size176⟩⟩, ⟨Ty.size5⟩, ⟨_, Tryz.underlying5, rfl⟩, by kernel_rfl, .array Tryz.underlying176 Ty.zero176 rfl Ty.size5 rfl⟩
theorem ti180 : TI.ok Tryz.prog 180 ⟨.arr 32 5 1 false [(.int .u8 0), (.int .u8 0), (.int .u8 0), (.int .u8 0), (.int .u8 0), (.int .u8 0), (.int .u8 0), (.int .u8 0), (.int .u8 0), (.int .u8 0), (.int .u8 0), (.int .u8 0), (.int .u8 0), (.int .u8 0), (.int .u8 0), (.int .u8 0), (.int .u8 0), (.int .u8 0), (.int .u8 0), (.int .u8 0), (.int .u8 0), (.int .u8 0), (.int .u8 0), (.int .u8 0), (.int .u8 0), (.int .u8 0), (.int .u8 0), (.int .u8 0), (.int .u8 0), (.int .u8 0), (.int .u8 0), (.int .u8 0)], 32⟩ := ⟨⟨⟨Tryz.underlying180⟩, ⟨Ty.size180⟩⟩, ⟨Ty.size5⟩, ⟨_, Tryz.underlying5, rfl⟩, by kernel_rfl, .array Tryz.underlying180 Ty.zero180 rfl Ty.size5 rfl⟩
theorem ti181 : TI.ok Tryz.prog 181 ⟨.arr 64 5 1 false [(.int .u8 0), (.int .u8 0), (.int .u8 0), (.int .u8 0), (.int .u8 0), (.int .u8 0), (.int .u8 0), (.int .u8 0), (.int .u8 0), (.int .u8 0), (.int .u8 0), (.int .u8 0), (.int .u8 0), (.int .u8 0), (.int .u8 0), (.int .u8 0), (.int .u8 0), (.int .u8 0), (.int .u8 0), (.int .u8 0), (.int .u8 0), (.int .u8 0), (.int .u8 0), (.int .u8 0), (.int .u8 0), (.int .u8 0), (.int .u8 0), (.int .u8 0), (.int .u8 0), (.int .u8 0), (.int .u8 0), (.int .u8 0), (.int .u8 0), (.int .u8 0), (.int .u8 0), (.int .u8 0), (.int .u8 0), (.int .u8 0), (.int .u8 0), (.int .u8 0), (.int .u8 0), (.int .u8 0), (.int .u8 0), (.int .u8 0), (.int .u8 0), (.int .u8 0), (.int .u8 0), (.int .u8 0), (.int .u8 0), (.int .u8 0), (.int .u8 0), (.int .u8 0), (.int .u8 0), (.int .u8 0), (.int .u8 0), (.int .u8 0), (.int .u8 0), (.int .u8 0), (.int .u8 0), (.int .u8 0), (.int .u8 0), (.int .u8 0), (.int .u8 0), (.int .u8 0)], 64⟩ := ⟨⟨⟨Tryz.underlying181⟩, ⟨Ty.size181⟩⟩, ⟨Ty.size5⟩, ⟨_, Tryz.underlying5, rfl⟩, by kernel_rfl, .array Tryz.underlying181 Ty.zero181 rfl Ty.size5 rfl⟩
def tt : TT := (.node (.node (.node (.node (.node (.node .leaf 1 ⟨.fn, 1⟩ .leaf) 2 ⟨.int .i64, 1⟩ (.node .leaf 3 ⟨.int .i64, 1⟩ .leaf)) 4 ⟨.bool, 1⟩ (.node (.node .leaf 5 ⟨.int .u8, 1⟩ .leaf) 9 ⟨.str, 1⟩ (.node .leaf 20 ⟨.ifc, 1⟩ .leaf))) 21 ⟨.int .i32, 1⟩ (.node (.node (.node .leaf 22 ⟨.slc 5 1 true, 1⟩ .leaf) 24 ⟨.slc 3 1 false, 1⟩ (.node .leaf 25 ⟨.slc 46 8 false, 1⟩ .leaf)) 27 ⟨.struct [(0, 1, false), (1, 1, false), (2, 1, false), (3, 1, false), (4, 1, false), (5, 1, false), (6, 1, false), (7, 1, false), (8, 1, false), (9, 1, false)] [(.int .i64 0), .str [], .str [], .str [], (.int .i64 0), (.int .i64 0), (.int .i64 0), .nils, .nils, .str []], 10⟩ (.node (.node .leaf 30 ⟨.slc 41 2 false, 1⟩ .leaf) 35 ⟨.int .u16, 1⟩ (.node .leaf 41 ⟨.struct [(0, 1, false), (1, 1, false)] [.str [], .nils], 2⟩ .leaf)))) 43 ⟨.fn, 1⟩ (.node (.node (.node (.node .leaf 44 ⟨.fn, 1⟩ .leaf) 46 ⟨.struct [(0, 1, false), (1, 1, false), (2, 1, false), (3, 1, false), (4, 1, false), (5, 1, false), (6, 1, false), (7, 1, false)] [(.int .i64 0), .str [], .str [], (.int .i64 0), (.int .i64 0), (.bool false), .str [], (.int .i64 0)], 8⟩ (.node .leaf 58 ⟨.slc 9 1 false, 1⟩ .leaf)) 60 ⟨.ptr, 1⟩ (.node (.node .leaf 62 ⟨.struct [(0, 10, true), (10, 1, false), (11, 1, false)] [(.int .i64 0), .str [], .str [], .str [], (.int .i64 0), (.int .i64 0), (.int .i64 0), .nils, .nils, .str [], (.int .i64 0), .nilp], 12⟩ .leaf) 67 ⟨.struct [(0, 1, false), (1, 1, false), (2, 1, false)] [.nils, (.int .i64 0), (.bool false)], 3⟩ (.node .leaf 71 ⟨.fn, 1⟩ .leaf))) 74 ⟨.fn, 1⟩ (.node (.node (.node .leaf 76 ⟨.fn, 1⟩ .leaf) 78 ⟨.struct [(0, 1, false), (1, 1, false)] [(.int .u8 0), .nilfn], 2⟩ (.node .leaf 79 ⟨.arr 6 78 2 true [(.int .u8 0), .nilfn, (.int .u8 0), .nilfn, (.int .u8 0), .nilfn, (.int .u8 0), .nilfn, (.int .u8 0), .nilfn, (.int .u8 0), .nilfn], 12⟩ .leaf)) 81 ⟨.ptr, 1⟩ (.node (.node .leaf 82 ⟨.ptr, 1⟩ .leaf) 84 ⟨.ptr, 1⟩ .leaf)))) 86 ⟨.struct [(0, 1, false), (1, 1, false), (2, 1, false)] [.nils, (.int .i64 0), (.bool false)], 3⟩ (.node (.node (.node (.node (.node .leaf 87 ⟨.ptr, 1⟩ .leaf) 89 ⟨.struct [(0, 1, false), (1, 1, false)] [.nils, (.int .i64 0)], 2⟩ (.node .leaf 91 ⟨.ifc, 1⟩ .leaf)) 93 ⟨.struct [(0, 2, true), (2, 1, false)] [.nils, (.int .i64 0), .nilifc], 3⟩ (.node (.node .leaf 97 ⟨.slc 5 1 true, 1⟩ .leaf) 103 ⟨.slc 20 1 false, 1⟩ (.node .leaf 111 ⟨.fn, 1⟩ .leaf))) 114 ⟨.fn, 1⟩ (.node (.node (.node .leaf 117 ⟨.ptr, 1⟩ .leaf) 118 ⟨.fn, 1⟩ (.node .leaf 120 ⟨.arr 3 9 1 false [.str [], .str [], .str []], 3⟩ .leaf)) 126 ⟨.fn, 1⟩ (.node (.node .leaf 129 ⟨.int .u64, 1⟩ .leaf) 134 ⟨.struct [(0, 1, false)] [(.int .u16 0)], 1⟩ .leaf))) 138 ⟨.ptr, 1⟩ (.node (.node (.node (.node .leaf 140 ⟨.struct [(0, 1, false), (1, 1, false)] [.nilp, .nils], 2⟩ .leaf) 143 ⟨.int .i64, 1⟩ (.node .leaf 146 ⟨.ptr, 1⟩ .leaf)) 150 ⟨.int .u32, 1⟩ (.node (.node .leaf 153 ⟨.int .u64, 1⟩ .leaf) 156 ⟨.ptr, 1⟩ (.node .leaf 161 ⟨.struct [(0, 1, false), (1, 1, false), (2, 1, false)] [.str [], .str [], .nilifc], 3⟩ .leaf))) 163 ⟨.arr 24 5 1 false [(.int .u8 0), (.int .u8 0), (.int .u8 0), (.int .u8 0), (.int .u8 0), (.int .u8 0), (.int .u8 0), (.int .u8 0), (.int .u8 0), (.int .u8 0), (.int .u8 0), (.int .u8 0), (.int .u8 0), (.int .u8 0), (.int .u8 0), (.int .u8 0), (.int .u8 0), (.int .u8 0), (.int .u8 0), (.int .u8 0), (.int .u8 0), (.int .u8 0), (.int .u8 0), (.int .u8 0)], 24⟩ (.node (.node (.node .leaf 172 ⟨.ptr, 1⟩ .leaf) 174 ⟨.struct [(0, 1, false)] [.str []], 1⟩ (.node .leaf 175 ⟨.arr 20 153 1 false [(.int .u64 0), (.int .u64 0), (.int .u64 0), (.int .u64 0), (.int .u64 0), (.int .u64 0), (.int .u64 0), (.int .u64 0), (.int .u64 0), (.int .u64 0), (.int .u64 0), (.int .u64 0), (.int .u64 0), (.int .u64 0), (.int .u64 0), (.int .u64 0), (.int .u64 0), (.int .u64 0), (.int .u64 0), (.int .u64 0)], 20⟩ .leaf)) 176 ⟨.arr 65 5 1 false [(.int .u8 0), (.int .u8 0), (.int .u8 0), (.int .u8 0), (.int .u8 0), (.int .u8 0), (.int .u8 0), (.int .u8 0), (.int .u8 0), (.int .u8 0), (.int .u8 0), (.int .u8 0), (.int .u8 0), (.int .u8 0), (.int .u8 0), (.int .u8 0), (.int .u8 0), (.int .u8 0), (.int .u8 0), (.int .u8 0), (.int .u8 0), (.int .u8 0), (.int .u8 0), (.int .u8 0), (.int .u8 0), (.int .u8 0), (.int .u8 0), (.int .u8 0), (.int .u8 0), (.int .u8 0), (.int .u8 0), (.int .u8 0), (.int .u8 0), (.int .u8 0), (.int .u8 0), (.int .u8 0), (.int .u8 0), (.int .u8 0), (.int .u8 0), (.int .u8 0), (.int .u8 0), (.int .u8 0), (.int .u8 0), (.int .u8 0), (.int .u8 0), (.int .u8 0), (.int .u8 0), (.int .u8 0), (.int .u8 0), (.int .u8 0), (.int .u8 0), (.int .u8 0), (.int .u8 0), (.int .u8 0), (.int .u8 0), (.int .u8 0), (.int .u8 0), (.int .u8 0), (.int .u8 0), (.int .u8 0), (.int .u8 0), (.int .u8 0), (.int .u8 0), (.int .u8 0), (.int .u8 0)], 65⟩ (.node (.node .leaf 180 ⟨.arr 32 5 1 false [(.int .u8 0), (.int .u8 0), (.int .u8 0), (.int .u8 0), (.int .u8 0), (.int .u8 0), (.int .u8 0), (.int .u8 0), (.int .u8 0), (.int .u8 0), (.int .u8 0), (.int .u8 0), (.int .u8 0), (.int .u8 0), (.int .u8 0), (.int .u8 0), (.int .u8 0), (.int .u8 0), (.int .u8 0), (.int .u8 0), (.int .u8 0), (.int .u8 0), (.int .u8 0), (.int .u8 0), (.int .u8 0), (.int .u8 0), (.int .u8 0), (.int .u8 0), (.int .u8 0), (.int .u8 0), (.int .u8 0), (.int .u8 0)], 32⟩ .leaf) 181 ⟨.arr 64 5 1 false [(.int .u8 0), (.int .u8 0), (.int .u8 0), (.int .u8 0), (.int .u8 0), (.int .u8 0), (.int .u8 0), (.int .u8 0), (.int .u8 0), (.int .u8 0), (.int .u8 0), (.int .u8 0), (.int .u8 0), (.int .u8 0), (.int .u8 0), (.int .u8 0), (.int .u8 0), (.int .u8 0), (.int .u8 0), (.int .u8 0), (.int .u8 0), (.int .u8 0), (.int .u8 0), (.int .u8 0), (.int .u8 0), (.int .u8 0), (.int .u8 0), (.int .u8 0), (.int .u8 0), (.int .u8 0), (.int .u8 0), (.int .u8 0), (.int .u8 0), (.int .u8 0), (.int .u8 0), (.int .u8 0), (.int .u8 0), (.int .u8 0), (.int .u8 0), (.int .u8 0), (.int .u8 0), (.int .u8 0), (.int .u8 0), (.int .u8 0), (.int .u8 0), (.int .u8 0), (.int .u8 0), (.int .u8 0), (.int .u8 0), (.int .u8 0), (.int .u8 0), (.int .u8 0), (.int .u8 0), (.int .u8 0), (.int .u8 0), (.int .u8 0), (.int .u8 0), (.int .u8 0), (.int .u8 0), (.int .u8 0), (.int .u8 0), (.int .u8 0), (.int .u8 0), (.int .u8 0)], 64⟩ .leaf)))))
theorem tok : tt.ok Tryz.prog := ⟨⟨⟨⟨⟨⟨trivial, ti1, trivial⟩, ti2, ⟨trivial, ti3, trivial⟩⟩, ti4, ⟨⟨trivial, ti5, trivial⟩, ti9, ⟨trivial, ti20, trivial⟩⟩⟩, ti21, ⟨⟨⟨trivial, ti22, trivial⟩, ti24, ⟨trivial, ti25, trivial⟩⟩, ti27, ⟨⟨trivial, ti30, trivial⟩, ti35, ⟨trivial, ti41, trivial⟩⟩⟩⟩, ti43, ⟨⟨⟨⟨trivial, ti44, trivial⟩, ti46, ⟨trivial, ti58, trivial⟩⟩, ti60, ⟨⟨trivial, ti62, trivial⟩, ti67, ⟨trivial, ti71, trivial⟩⟩⟩, ti74, ⟨⟨⟨trivial, ti76, trivial⟩, ti78, ⟨trivial, ti79, trivial⟩⟩, ti81, ⟨⟨trivial, ti82, trivial⟩, ti84, trivial⟩⟩⟩⟩, ti86, ⟨⟨⟨⟨⟨trivial, ti87, trivial⟩, ti89, ⟨trivial, ti91, trivial⟩⟩, ti93, ⟨⟨trivial, ti97, trivial⟩, ti103, ⟨trivial, ti111, trivial⟩⟩⟩, ti114, ⟨⟨⟨trivial, ti117, trivial⟩, ti118, ⟨trivial, ti120, trivial⟩⟩, ti126, ⟨⟨trivial, ti129, trivial⟩, ti134, trivial⟩⟩⟩, ti138, ⟨⟨⟨⟨trivial, ti140, trivial⟩, ti143, ⟨trivial, ti146, trivial⟩⟩, ti150, ⟨⟨trivial, ti153, trivial⟩, ti156, ⟨trivial, ti161, trivial⟩⟩⟩, ti163, ⟨⟨⟨trivial, ti172, trivial⟩, ti174, ⟨trivial, ti175, trivial⟩⟩, ti176, ⟨⟨trivial, ti180, trivial⟩, ti181, trivial⟩⟩⟩⟩⟩
end Go.Proofs.YtkbmkhhcppfcnaaGreatDoor.Ty
end
section
set_option linter.unusedVariables false
set_option linter.unusedSimpArgs false
set_option maxRecDepth 100000
set_option maxHeartbeats 1000000
namespace Go.Proofs.YtkbmkhhcppfcnaaGreatDoor
open Go.Al Go.RowKit
theorem flag1_any (w0 : Base) (b : Bool) : CallP Tryz.prog w0 79 [.bool b] (.int .i64 (if b = true then 1 else 0)) := by
  refine CallP.x Ty.tok Ty.mixed Tryz.func79 rfl Tryz.ntmps79 rfl (by simp) (by decide +kernel) fun σ => ?_
  (conv => whnf)
  (refine SIf.x Ty.mixed (fun hc => ?_) (fun hc => ?_) <;> (conv => whnf))
  rotate_left; rotate_left
  all_goals exact .p (.refl _) (by simp [hc])
theorem deaths1_any (w0 : Base) : CallP Tryz.prog w0 72 [] (.slc 1 [.str [], .str [110, 97, 99, 107], .str [116, 105, 109, 101]] .full) := by
  refine CallP.x Ty.tok Ty.mixed Tryz.func72 rfl Tryz.ntmps72 rfl (by simp) (by decide +kernel) fun σ => ?_
  (conv => whnf)
  skip
  exact .p (.refl _) rfl
theorem bytesEq_any (w0 : Base) (a b : List UInt8) (ta tb : Tok) : CallP Tryz.prog w0 74 [.slc 1 (aBytes a) ta, .slc 1 (aBytes b) tb] (.bool (decide (a = b))) := by
  refine CallP.x Ty.tok Ty.mixed Tryz.func74 rfl Tryz.ntmps74 rfl (by simp) (by decide +kernel) fun σ => ?_
  (conv => whnf); refine ⟨_, toBytes_aBytes _, ?_⟩; (conv => whnf); refine ⟨_, toBytes_aBytes _, ?_⟩; (conv => whnf); exact .p (.refl _) rfl
theorem same1_any (w0 : Base) (x y : Row) : CallP Tryz.prog w0 46 [eRow x, eRow y] (.bool (decide (x = y))) := by
  refine CallP.x Ty.tok Ty.mixed Tryz.func46 rfl Tryz.ntmps46 rfl (by simp) (by decide +kernel) fun σ => ?_
  (conv => whnf); refine SBox.f ?_; (conv => whnf); refine SBox.f ?_; (conv => whnf)
  (refine SCond.mk (fun hc => ?_) (fun hc => ?_) <;> (conv => whnf))
  refine SCond.y (by assumption) ?_; (conv => whnf); refine SCond.y (by assumption) ?_; (conv => whnf); refine SCond.y (by assumption) ?_; (conv => whnf); refine SCond.y (by assumption) ?_; (conv => whnf); refine SCall.p (by exact bytesEq_any w0 _ _ _ _) ?_; (conv => whnf); refine SPick.y (by assumption) ?_; (conv => whnf); rotate_left; refine SCond.n (by assumption) ?_; (conv => whnf)
  refine SCond.n (by assumption) ?_; (conv => whnf); refine SCond.n (by assumption) ?_; (conv => whnf); refine SCond.n (by assumption) ?_; (conv => whnf); refine SPick.n (by assumption) ?_; (conv => whnf); rotate_left
  · refine .p (.refl _) ?_
    have h1 : x.key = y.key := by simpa using hc
    have : (x.val = y.val) ↔ x = y := ⟨fun h => row_ext h1 h, fun h => by rw [h]⟩
    simp only [this]
  · refine .p (.refl _) ?_
    have : ¬ x = y := fun e => by subst e; simp at *
    simp [this]
theorem death1_any (w0 : Base) (m : Msg) : CallP Tryz.prog w0 80 [eMsg m] (.int .i64 (deathN m)) := by
  refine CallP.x Ty.tok Ty.mixed Tryz.func80 rfl Tryz.ntmps80 rfl (by simp) (by decide +kernel) fun σ => ?_
  (conv => whnf); refine SBox.f ?_; (conv => whnf)
  (refine SIf.x Ty.mixed (fun hc => ?_) (fun hc => ?_) <;> (conv => whnf))
  rotate_left; refine SReg.t 0 [] (by decide +kernel) ?_; (conv => whnf); refine SCall.p (by exact deaths1_any w0) ?_; (conv => whnf)
  refine ⟨_, ⟨by first | omega | (simp only [List.length_cons, List.length_append, List.length_nil, List.length_map, length_aBytes, List.length_replicate, List.length_range]; omega) | fail, by rfl⟩, ?_⟩
  (conv => whnf)
  (refine SIf.x Ty.mixed (fun hc => ?_) (fun hc => ?_) <;> (conv => whnf))
  rotate_left; rotate_left
  all_goals refine .p (.refl _) ?_
  all_goals simp_all [deathN]
end Go.Proofs.YtkbmkhhcppfcnaaGreatDoor
end
section
set_option linter.unusedVariables false
set_option linter.unusedSimpArgs false
set_option maxRecDepth 100000
set_option maxHeartbeats 1000000
namespace Go.Proofs.YtkbmkhhcppfcnaaGreatDoor
open Go.Al Go.RowKit
inductive Part where
  | s (l : List UInt8)
  | n (k : Int)
def Part.v : Part → AV
  | .s l => .ifc 9 (.str l)
  | .n k => .ifc 3 (.int .i64 k)
def Part.b : Part → List UInt8
  | .s l => txt l
  | .n k => num k
def formB (ps : List Part) : List UInt8 := ps.flatMap Part.b
theorem formB_take {ps : List Part} {i : Nat} {p : Part} (h : ps[i]? = some p) : formB (ps.take (i + 1)) = formB (ps.take i) ++ p.b := by
  obtain ⟨hi, rfl⟩ := List.getElem?_eq_some_iff.1 h
  rw [formB, List.take_succ_eq_append_getElem hi, List.flatMap_append]; simp [formB]
theorem formB_le (ps : List Part) (i : Nat) : (formB (ps.take i)).length ≤ (formB ps).length := by
  have h : formB ps = formB (ps.take i) ++ formB (ps.drop i) := by rw [formB, formB, formB, ← List.flatMap_append, List.take_append_drop]
  have h := congrArg List.length h
  rw [List.length_append] at h
  omega
theorem form_any (w0 : Base) (ps : List Part) (tk : Tok) (h1 : ∀ l, Part.s l ∈ ps → l.length ≤ 100000) (h2 : (formB ps).length ≤ 10000000) (h3 : ps.length ≤ 1000) : CallP Tryz.prog w0 78 [.slc 1 (ps.map Part.v) tk] (.slc 1 (aBytes (formB ps)) .no) := by
  refine CallP.x Ty.tok Ty.mixed Tryz.func78 rfl Tryz.ntmps78 rfl (by simp) (by decide +kernel) fun σ => ?_
  (conv => whnf)
  skip
  refine SLoop.by Ty.mixed (fun (a : Nat × Tok) => ps.length - a.1) (fun (i, tq) => [(3, .slc 1 (aBytes (formB (ps.take i))) tq), (8, .slc 1 (ps.map Part.v) tk), (9, .int .i64 ps.length), (10, .int .i64 i)]) (fun _ => []) (fun (i, tq) s => i ≤ ps.length ∧ Moves σ .full s tq) (0, .full) ⟨?_, .nil, Nat.zero_le _, .full _⟩ ?_
  · show xWeak [(3, .slc 1 (aBytes (formB (ps.take 0))) .full), (8, .slc 1 (ps.map Part.v) tk), (9, .int .i64 ps.length), (10, .int .i64 (0 : Nat))] _
    rw [List.take_zero, List.length_map]
    repeat (first | exact trivial | refine ⟨by first | trivial | exact Weak.refl _ | exact Weak.tok _ _ _ | exact Weak.of_eq (congrArg (AV.int _) (by omega)) | exact Weak.of_eq (congrArg AV.bool (by fail)) | exact Weak.nils _ _ (.inr rfl), ?_⟩)
  rintro ⟨i, tq⟩ s ⟨hi, hm⟩; (conv => whnf)
  skip
  (refine SIf.x Ty.mixed (fun hc => ?_) (fun hc => ?_) <;> (conv => whnf))
  · have hlt : i < ps.length := by simp at hc; omega
    have ga : ps[i]? = some ps[i] := by simp [hlt]
    have hd := formB_take ga
    have hle := formB_le ps (i + 1)
    have hmem := List.getElem_mem hlt
    generalize ps[i] = p at ga hd hmem
    rw [hd] at hle
    have hgv : (ps.map Part.v)[i]? = some p.v := by rw [List.getElem?_map, ga]; rfl
    cases p with
    | s l =>
      have hl := h1 l hmem
      have he : aBytes (formB (ps.take (i + 1))) = aBytes (formB (ps.take i)) ++ aBytes (txt l) := by rw [hd]; exact List.map_append ..
      simp only [Part.b, List.length_append] at hle
      refine ⟨_, ⟨by first | omega | (simp only [List.length_cons, List.length_append, List.length_nil, List.length_map, length_aBytes, List.length_replicate, List.length_range]; omega) | fail, by exact hgv⟩, ?_⟩
      (conv => whnf); refine SIf.y Ty.mixed (by exact rfl) ?_; (conv => whnf); refine SCall.p (by exact text_p w0 _ (by omega)) ?_; (conv => whnf)
      refine SApp.c rfl rfl (by exact hm) (by simp only [length_aBytes, List.length_append, List.length_cons, List.length_nil, List.length_map, List.length_range]; omega) fun tk1 σ1 hm => ?_
      (conv => whnf); refine ⟨_, IntWalk.i64_in _ (by omega), ?_⟩; (conv => whnf)
      refine ⟨(i + 1, tk1), by omega, ?_⟩
      refine ⟨?_, .nil, hlt, hm⟩
      show xWeak [(3, .slc 1 (aBytes (formB (ps.take (i + 1)))) tk1), _, _, _] _
      rw [he]
      repeat (first | exact trivial | refine ⟨by first | trivial | exact Weak.refl _ | exact Weak.tok _ _ _ | exact Weak.of_eq (congrArg (AV.int _) (by omega)) | exact Weak.of_eq (congrArg AV.bool (by fail)) | exact Weak.nils _ _ (.inr rfl), ?_⟩)
    | n k =>
      have he : aBytes (formB (ps.take (i + 1))) = aBytes (formB (ps.take i)) ++ aBytes (num k) := by rw [hd]; exact List.map_append ..
      simp only [Part.b, List.length_append] at hle
      refine ⟨_, ⟨by first | omega | (simp only [List.length_cons, List.length_append, List.length_nil, List.length_map, length_aBytes, List.length_replicate, List.length_range]; omega) | fail, by exact hgv⟩, ?_⟩
      (conv => whnf); refine SIf.n Ty.mixed (by exact rfl) ?_; (conv => whnf); refine SIf.y Ty.mixed (by exact rfl) ?_; (conv => whnf); refine SCall.p (by exact num_p w0 _) ?_; (conv => whnf)
      refine SApp.c rfl rfl (by exact hm) (by simp only [length_aBytes, List.length_append, List.length_cons, List.length_nil, List.length_map, List.length_range]; omega) fun tk1 σ1 hm => ?_
      (conv => whnf); refine ⟨_, IntWalk.i64_in _ (by omega), ?_⟩; (conv => whnf)
      refine ⟨(i + 1, tk1), by omega, ?_⟩
      refine ⟨?_, .nil, hlt, hm⟩
      show xWeak [(3, .slc 1 (aBytes (formB (ps.take (i + 1)))) tk1), _, _, _] _
      rw [he]
      repeat (first | exact trivial | refine ⟨by first | trivial | exact Weak.refl _ | exact Weak.tok _ _ _ | exact Weak.of_eq (congrArg (AV.int _) (by omega)) | exact Weak.of_eq (congrArg AV.bool (by fail)) | exact Weak.nils _ _ (.inr rfl), ?_⟩)
  · have hge : i = ps.length := by simp at hc; omega
    subst hge
    rw [List.take_length] at *
    skip
    exact .v hm.le (.tok _ _ _)
end Go.Proofs.YtkbmkhhcppfcnaaGreatDoor
end
section
set_option linter.unusedVariables false
set_option linter.unusedSimpArgs false
set_option maxRecDepth 100000
set_option maxHeartbeats 1000000
namespace Go.Proofs.YtkbmkhhcppfcnaaGreatDoor
open Go.Al Go.RowKit
theorem lay1_on (w0 : Base) (hL : Laid w0) (x : Sub) (t : UInt8) (seq : Int) (ps : List Part) (tk : Tok) (bo l : Nat) (σ : St) (h1 : ∀ l, Part.s l ∈ ps → l.length ≤ 100000) (h2 : (formB ps).length ≤ 10000000) (h3 : ps.length ≤ 1000) (hb : σ.box bo = some [.bool true]) {R K : AV → St → Prop}
    (hr : RoundW Tryz.prog w0 l [eRow ⟨rkey 1 t x.id seq, formB ps⟩] σ R) (hR : ∀ r s, R r s → ∃ b, r = .bool b ∧ s.box bo = some [.bool true] ∧ K (.tup []) (s.setBox bo [.bool b])) :
    CallW Tryz.prog w0 77 [.int .u8 t.toNat, .int .i64 seq, .slc 1 (ps.map Part.v) tk, .ptr bo 0, .vp (.fn (.yield l) [] []), .vp (eSub x)] σ K := by
  refine CallW.x (B := [(bo, [.bool true])]) Ty.tok Ty.mixed Tryz.func77 rfl Tryz.ntmps77 rfl (by simp) (by decide +kernel) ⟨by simpa using hb, by simp⟩ ?_
  (conv => whnf); refine SReg.d [0, 1, 3, 4, 6, 8, 2, 5, 7, 9, 10, 11, 12, 13] [1, 0, 1, 0, 0, 1, 0, 0, 0, 0, 0, 2, 0, 2] (by decide +kernel) ?_; (conv => whnf); (conv => whnf); refine SLoad.on 0 rfl ?_; (conv => whnf); refine SCond.y (by exact rfl) ?_; (conv => whnf); refine SCond.y (by exact rfl) ?_; (conv => whnf); refine SCond.y (by exact rfl) ?_; (conv => whnf); refine SCond.y (by exact rfl) ?_; (conv => whnf); refine SCond.y (by exact rfl) ?_; (conv => whnf)
  refine SCond.y (by exact rfl) ?_; (conv => whnf); refine SCond.y (by exact rfl) ?_; (conv => whnf); refine SCall.p (by exact keyS_any w0 hL 1 (by omega) t _ _) ?_; (conv => whnf); refine SCond.y (by exact rfl) ?_; (conv => whnf); refine SCall.p (by exact form_any w0 ps _ h1 h2 h3) ?_; (conv => whnf); refine SCond.y (by exact rfl) ?_; (conv => whnf); refine SCond.y (by exact rfl) ?_
  (conv => whnf)
  refine SYield.w hr fun r s hrs hB => ?_
  obtain ⟨b, rfl, g1, g2⟩ := hR r s hrs
  refine ⟨[(bo, [.bool true])], ⟨by simpa using g1, by simp⟩, ?_⟩
  (conv => whnf); refine SPick.y (by exact rfl) ?_; (conv => whnf); refine SStore.on 0 rfl ?_; (conv => whnf); refine .w ?_; exact g2
theorem lay1_off (w0 : Base) (x : Sub) (t : UInt8) (seq : Int) (ps : List Part) (tk : Tok) (bo l : Nat) (σ : St) (hb : σ.box bo = some [.bool false]) {K : AV → St → Prop} (hK : K (.tup []) σ) :
    CallW Tryz.prog w0 77 [.int .u8 t.toNat, .int .i64 seq, .slc 1 (ps.map Part.v) tk, .ptr bo 0, .vp (.fn (.yield l) [] []), .vp (eSub x)] σ K := by
  refine CallW.x (B := [(bo, [.bool false])]) Ty.tok Ty.mixed Tryz.func77 rfl Tryz.ntmps77 rfl (by simp) (by decide +kernel) ⟨by simpa using hb, by simp⟩ ?_
  (conv => whnf); refine SReg.d [0, 1, 3, 4, 6, 8, 2, 5, 7, 9, 10, 11, 12, 13] [1, 0, 1, 0, 0, 1, 0, 0, 0, 0, 0, 2, 0, 2] (by decide +kernel) ?_; (conv => whnf); (conv => whnf); refine SLoad.on 0 rfl ?_; (conv => whnf); refine SCond.n (by exact rfl) ?_; (conv => whnf); refine SCond.n (by exact rfl) ?_; (conv => whnf); refine SCond.n (by exact rfl) ?_; (conv => whnf); refine SCond.n (by exact rfl) ?_; (conv => whnf); refine SCond.n (by exact rfl) ?_; (conv => whnf)
  refine SCond.n (by exact rfl) ?_; (conv => whnf); refine SCond.n (by exact rfl) ?_; (conv => whnf); refine SCond.n (by exact rfl) ?_; (conv => whnf); refine SCond.n (by exact rfl) ?_; (conv => whnf); refine SCond.n (by exact rfl) ?_; (conv => whnf); refine SPick.n (by exact rfl) ?_; (conv => whnf); refine SStore.on 0 rfl ?_; (conv => whnf); refine .w ?_
  rw [setBox_self hb]
  exact hK
end Go.Proofs.YtkbmkhhcppfcnaaGreatDoor
end
section
set_option linter.unusedVariables false
set_option linter.unusedSimpArgs false
set_option maxRecDepth 100000
set_option maxHeartbeats 400000
namespace Go.Proofs.YtkbmkhhcppfcnaaGreatDoor
open Go.Al Go.RowKit
theorem lay_any (w0 : Base) (hL : Laid w0) {σ0 σ : St} {bo : Nat} {rows : List Row} {x : Sub} {t : UInt8} {seq : Int} {b : List UInt8} {tw tk tk0 : Tok} (hm : Moves (σ0.setBox bo [.slc 2 (rows.map eRow) tk]) tk0 σ tk) (hl : rows.length ≤ 1000000) :
    CallW Tryz.prog w0 57 [.int .u8 t.toNat, .int .i64 seq, .slc 1 (aBytes b) tw, .ptr bo 0, .vp (eSub x)] σ (fun r s => r = .tup [] ∧ ∃ tk', Moves (σ0.setBox bo [.slc 2 ((rows ++ [(⟨rkey 3 t x.id seq, b⟩ : Row)]).map eRow) tk']) tk0 s tk') := by
  refine CallW.weak1 [_, _] [_, _] (.tok 1 (aBytes b) tw) ?_
  refine CallW.start Tryz.func57 rfl Tryz.ntmps57 (by simp) fun Q hQ => ?_
  refine W.regionDK 1 [] Ty.mixed (by decide +kernel) (by decide +kernel) rfl ?_; apply r_load; exact rfl; exact rfl; exact rfl; decide; exact rfl; apply hb_moves (by assumption); exact setBox_same; exact aLoad1 rfl; apply r_op; exact rfl; exact rfl; apply a_move; (conv => (lhs; whnf)); apply r_op; exact rfl; exact rfl; apply g_fieldAddr; exact a_fieldAddr1 rfl (by decide) rfl; apply r_op
  exact rfl; exact rfl; apply g_load; exact a_load1 rfl rfl; apply r_op; exact rfl; exact rfl; apply a_move; (conv => (lhs; whnf)); apply r_callP; exact rfl; exact rfl; exact rfl; exact rfl; exact rfl; infer_instance; exact keyS_any w0 hL 3 (by omega) t _ _; apply r_op; exact rfl; exact rfl; apply a_move; (conv => (lhs; whnf)); apply r_op; exact rfl; exact rfl; apply g_build; apply a_build
  apply EvP.cons (by (conv => (lhs; whnf))); apply EvP.cons (by (conv => (lhs; whnf))); exact EvP.nil
  simp only [aFill, List.getElem?_cons_zero, List.getElem?_cons_succ, AV.cells, List.length_cons, List.length_nil, AV.flat, AV.one, setL, List.set_cons_zero, List.set_cons_succ, Nat.reduceAdd, Nat.reduceLeDiff, Nat.reduceMul, and_self, if_true, ↓reduceIte, Nat.zero_add, Nat.le_refl, List.range, List.range.loop, List.map_cons, List.map_nil, Nat.zero_le]
  rfl; apply r_op; exact rfl; exact rfl; apply g_buildSlice; apply a_build1; (conv => (lhs; whnf)); exact rfl; exact rfl; decide; apply r_append'; exact rfl; exact rfl; decide; infer_instance; exact rfl; exact rfl; exact rfl; exact rfl; exact rfl; assumption
  simp only [length_aBytes, List.length_append, List.length_cons, List.length_nil, List.length_map, List.length_range]
  omega; intro tk1 σ1 hm; apply r_store; exact rfl; exact rfl; exact rfl; decide; infer_instance; exact rfl; apply hb_moves (by assumption); exact setBox_same; (conv => (lhs; whnf)); exact rfl; (conv => (lhs; whnf)); exact rfl; exact of_decide_eq_true rfl; exact setL_whole rfl; (with_reducible refine runs_done ?_); refine post_n hQ rfl rfl ⟨rfl, tk1, ?_⟩
  have h9 := hm.set bo [.slc 2 ((rows ++ [(⟨rkey 3 t x.id seq, b⟩ : Row)]).map eRow) tk1]
  rw [setBox_setBox] at h9
  rw [List.map_append] at h9 ⊢
  exact h9
theorem bd_app {a b : List UInt8} {n m : Nat} (h : a.length ≤ n) (k : b.length ≤ m) : (a ++ b).length ≤ n + m := by simp; omega
theorem bd_nums (l : List Int) : (numsB l).length ≤ 8 * l.length := numsB_len l
end Go.Proofs.YtkbmkhhcppfcnaaGreatDoor
end
